/- Part 0 of the proof of TopSwaps: TopP, WWords, WLast, WMore, TopA, TopD, TopE, TopK, TopL, TopM, TopQ, TopG, TopN, TopO. -/
import Derived.ArgAppend
import Derived.Below
import Derived.BigQuiet
import Derived.BigRegion
import Derived.Deep.AppendLies
import Derived.Deep.Cut
import Derived.Deep.CutBlock
import Derived.Deep.DeepCutAuto
import Derived.Deep.Draws
import Derived.Deep.LoopGhost
import Derived.Deep.MidRow
import Derived.Deep.OwnRows
import Derived.Deep.QuietTactic
import Derived.Deep.RegionHeld3
import Derived.KernelRfl
import Derived.Laws.AppendOwn
import Derived.Laws.AppendOwnNone
import Derived.Laws.BitsLemmas
import Derived.Laws.BytesArg
import Derived.Laws.IdiomCopy
import Derived.Laws.MakeOwn
import Derived.Laws.OwnMore
import Derived.Laws.Rows
import Derived.Laws.Slices
import Derived.Lib.AppendStr
import Derived.Lib.ConvBytes
import Derived.Maps.AppendAt
import Derived.OrdersHeld
import Derived.Outline
import Derived.OwnWalk
import Derived.RangeFuncCalls
import Derived.RangeFuncIn
import Derived.RangeFuncLeaves
import Derived.RangeFuncRecord
import Derived.RegionTactic
import Derived.RowKit
import Derived.RowKit3
import Derived.Tactics
import Derived.TacticsIn
import Derived.Test.YtgbkjnikcnjbkaaGreatProg
import Derived.WalkKit
import Derived.WalkSpells
import Derived.WideLaws
namespace Go.Proofs.YtgbkjnikcnjbkaaGreat.Top
open Go Go.RowKit
set_option linter.unusedVariables false
theorem aA {p : Prop} [h : Decidable p] (x : p) : decide p = true := decide_eq_true x
theorem aB {p : Prop} [h : Decidable p] (x : ¬ p) : decide p = false := decide_eq_false x
/-- A config's numbers. -/
structure Cf where
  th : Int
  it : Int
  be : Int
  de : Int
  la : Int
  wi : Int
  sp : Int
  wa : Int
  bo : Bool
  lo : Int
  hi : Int
  ini : Int
/-- A config that may be. -/
structure CfOk (c : Cf) : Prop where
  th : 1 ≤ c.th ∧ c.th ≤ 16
  it : 1 ≤ c.it ∧ c.it ≤ 4
  be : 1 ≤ c.be ∧ c.be ≤ 3
  de : 0 ≤ c.de ∧ c.de ≤ 4
  la : 0 ≤ c.la ∧ c.la ≤ 3
  wi : 1 ≤ c.wi ∧ c.wi ≤ 8
  sp : 0 ≤ c.sp ∧ c.sp ≤ 20
  wa : 0 ≤ c.wa ∧ c.wa ≤ 1000
/-- Two to the depth. -/
def p2 (d : Int) : Int := if d = 0 then 1 else if d = 1 then 2 else if d = 2 then 4 else if d = 3 then 8 else 16
def blockS (c : Cf) : Int := p2 c.de + c.la * c.wi
def linesS (c : Cf) : Int := c.it * blockS c
def sizeS (c : Cf) : Int := linesS c + 2 * c.th
def stepsS (c : Cf) : Int := 20 + 8 * c.de + c.la * (20 + 2 * c.sp)
def cellS (c : Cf) (item : Int) : Int := if 0 ≤ item ∧ item < c.it then item * blockS c else -1
def nodeS (c : Cf) (item n : Int) : Int := if (0 ≤ item ∧ item < c.it) ∧ (1 ≤ n ∧ n < p2 c.de) then item * blockS c + n else -1
def slotS (c : Cf) (item layer i : Int) : Int := if ((0 ≤ item ∧ item < c.it) ∧ (1 ≤ layer ∧ layer < 1 + c.la)) ∧ (0 ≤ i ∧ i < c.wi) then item * blockS c + p2 c.de + (layer - 1) * c.wi + i else -1
def lineS (c : Cf) (t : Int) : Int := if 0 ≤ t ∧ t < c.th then linesS c + 2 * t else -1
def resultS (c : Cf) (t : Int) : Int := if 0 ≤ t ∧ t < c.th then linesS c + 2 * t + 1 else -1
theorem p2_le {d : Int} (hd : 0 ≤ d ∧ d ≤ 4) : 1 ≤ p2 d ∧ p2 d ≤ 16 := by unfold p2; split <;> (try split) <;> (try split) <;> (try split) <;> omega
theorem mul_le_of {a b p q : Int} (a0 : 0 ≤ a) (a1 : a ≤ p) (b0 : 0 ≤ b) (b1 : b ≤ q) : 0 ≤ a * b ∧ a * b ≤ p * q := ⟨Int.mul_nonneg a0 b0, Int.mul_le_mul a1 b1 b0 (by omega)⟩
theorem block_le {c : Cf} (h : CfOk c) : 1 ≤ blockS c ∧ blockS c ≤ 40 := by
  have h1 := p2_le h.de
  have h2 := mul_le_of h.la.1 h.la.2 (show 0 ≤ c.wi by have := h.wi; omega) h.wi.2
  unfold blockS
  omega
theorem lines_le {c : Cf} (h : CfOk c) : 1 ≤ linesS c ∧ linesS c ≤ 160 := by
  have h1 := block_le h
  have h2 := mul_le_of (show 0 ≤ c.it - 1 by have := h.it; omega) (show c.it - 1 ≤ 3 by have := h.it; omega) (show 0 ≤ blockS c by omega) h1.2
  have e : c.it * blockS c = (c.it - 1) * blockS c + blockS c := by rw [Int.sub_mul, Int.one_mul]; omega
  unfold linesS
  rw [e]
  omega
theorem steps_le {c : Cf} (h : CfOk c) : 20 ≤ stepsS c ∧ stepsS c ≤ 232 := by
  have h1 := h.de
  have h2 := h.sp
  have h3 := mul_le_of h.la.1 h.la.2 (show 0 ≤ 20 + 2 * c.sp by omega) (show 20 + 2 * c.sp ≤ 60 by omega)
  unfold stepsS
  omega
/-- An entry of a batch. -/
structure En where
  t : Int
  tag : Int
  v : Int
/-- A kid. -/
structure Ki where
  t : Int
  ah : Int
/-- A mark of the log. -/
structure Mk where
  t : Int
  item : Int
  tag : Int
  v : Int
  prior : Int
  step : Int
/-- An event. -/
structure Ev where
  kind : Int
  t : Int
  item : Int
  tag : Int
  v : Int
  prior : Int
  did : Bool
  step : Int
/-- An entry of a script. -/
structure Se where
  kind : Int
  t : Int
  item : Int
  tag : Int
  v : Int
/-- A memory. -/
structure Mem where
  words : List Int
  boxes : List (List En)
/-- A thread. -/
structure Th where
  ph : Int
  item : Int
  tag : Int
  v : Int
  batch : List En
  kids : List Ki
  held : List Int
  stop : Int
  node : Int
  at_ : Int
  layer : Int
  left : Int
  width : Int
  who : Int
  x : Int
  y : Int
  until_ : Int
/-- A tape. -/
structure Tp where
  l : List Int
  i : Int
/-- A turn. -/
structure Tn where
  c : Cf
  t : Int
  now : Int
  m : Mem
  th : Th
  tp : Tp
  log : List Mk
  done : Bool
/-- A world. -/
structure Wo where
  c : Cf
  m : Mem
  ths : List Th
  now : Int
  steps : Int
  tp : Tp
  log : List Mk
  hist : List Ev
def en0 : En := ⟨0, 0, 0⟩
def ki0 : Ki := ⟨0, 0⟩
def th0 : Th := ⟨0, 0, 0, 0, [], [], [], 0, 0, 0, 0, 0, 0, 0, 0, 0, 0⟩
/-- Two whole numbers' bits, as Go has them. -/
def orS (x y : Int) : Int := IntKind.i64.wrap (BitVec.ofInt 64 x ||| BitVec.ofInt 64 y).toNat
def andS (x y : Int) : Int := IntKind.i64.wrap (BitVec.ofInt 64 x &&& BitVec.ofInt 64 y).toNat
def mxS (x y : Int) : Int := if x < y then y else x
def mnS (x y : Int) : Int := if y < x then y else x
/-- Would x and v together be below lo, or above hi? -/
def beyondS (x v lo hi : Int) : Bool :=
  if (0 ≤ v ∧ x ≤ wrap64 (x + v)) ∨ (v < 0 ∧ wrap64 (x + v) < x) then decide (wrap64 (x + v) < lo) || decide (hi < wrap64 (x + v)) else true
/-- What an op makes of a number. -/
def applyS (tag v x lo hi : Int) : Int × Bool :=
  if tag = 2 then (wrap64 (x + wrap64 (-v)), true)
  else if tag = 1 then (wrap64 (x + v), true)
  else if tag = 3 then (orS x v, true)
  else if tag = 4 then (andS x v, true)
  else if tag = 5 then (mxS v x, true)
  else if tag = 6 then (mnS v x, true)
  else if tag = 7 then (v, true)
  else if tag = 9 then
    if v < 0 ∨ x < lo then (x, false)
    else if wrap64 (x - v) ≤ x ∧ lo ≤ wrap64 (x - v) then (wrap64 (x - v), true)
    else (lo, true)
  else if tag = 8 then
    if beyondS x v lo hi then (x, false) else (wrap64 (x + v), true)
  else (x, false)
def allS : List En → Int → Int → Int → Int
  | [], x, _, _ => x
  | e :: b, x, lo, hi => allS b (applyS e.tag e.v x lo hi).1 lo hi
def priorsS : List En → Int → Int → Int → List Int
  | [], _, _, _ => []
  | e :: b, x, lo, hi => x :: priorsS b (applyS e.tag e.v x lo hi).1 lo hi
/-- A word of the memory, and one that is turned. -/
def Mem.get (m : Mem) (i : Int) : Int := m.words.getD i.toNat 0
def Mem.set (m : Mem) (i v : Int) : Mem := { m with words := m.words.set i.toNat v }
def Mem.box (m : Mem) (i : Int) : List En := m.boxes.getD i.toNat []
def Mem.put (m : Mem) (i : Int) (b : List En) : Mem := { m with boxes := m.boxes.set i.toNat b }
/-- A word's kind, and whose it is. -/
def saidS (w : Int) : Int × Int :=
  if w % 8 = 5 ∧ w / 8 - 1 = -1 then (5, -1)
  else if (1 ≤ w % 8 ∧ w % 8 ≤ 3) ∧ (0 ≤ w / 8 - 1 ∧ w / 8 - 1 < 16) then (w % 8, w / 8 - 1)
  else if (w % 8 = 4 ∧ (0 ≤ (w / 8 - 1) / 16 ∧ (w / 8 - 1) / 16 < 4)) ∧ (1 ≤ (w / 8 - 1) % 16 ∧ (w / 8 - 1) % 16 ≤ 3) then (4, w / 8 - 1)
  else (0, 0)
def kindS (w : Int) : Int := if w = 0 ∨ ¬ ((saidS w).1 = 0 ∧ (saidS w).2 = 0) then (saidS w).1 else -1
def whoS (w : Int) : Int := if 1 ≤ (saidS w).1 ∧ (saidS w).1 ≤ 3 then (saidS w).2 else -1
def firstS (t : Int) : Int := 8 * (t + 1) + 1
def joinedS (t : Int) : Int := 8 * (t + 1) + 2
def depositedS (t : Int) : Int := 8 * (t + 1) + 3
def openS (item layer : Int) : Int := 8 * (item * 16 + layer + 1) + 4
def lateP (T : Tn) : Bool := decide (0 < T.th.until_) && decide (T.th.until_ ≤ T.now)
/-- Tapes. -/
def leftS (t : Tp) : Int := if t.i < 0 then 0 else mxS 0 (t.l.length - t.i)
def nextS (t : Tp) : Int × Tp := if 0 < leftS t then (t.l.getD t.i.toNat 0, { t with i := t.i + 1 }) else (0, t)
def belowS (t : Tp) (n : Int) : Int × Tp :=
  if n < 1 then (0, t) else (if (nextS t).1.tmod n < 0 then (nextS t).1.tmod n + n else (nextS t).1.tmod n, (nextS t).2)
/-- share. -/
def kidS (T : Tn) : Ki := T.th.kids.getD T.th.at_.toNat ki0
def settleS (T : Tn) : Tn :=
  if 0 ≤ T.th.at_ ∧ T.th.at_ < T.th.kids.length then { T with th := { T.th with ph := 15 } } else { T with th := { T.th with ph := 0 }, done := true }
def waitS (T : Tn) : Tn := if T.m.get (lineS T.c T.t) = 5 then { T with th := { T.th with ph := 14 } } else T
def fetchS (T : Tn) : Tn := settleS { T with th := { T.th with x := T.m.get (resultS T.c T.t), at_ := 0 } }
def shareS (T : Tn) : Tn :=
  { T with m := T.m.set (resultS T.c (kidS T).t) (allS (T.th.batch.take (kidS T).ah.toNat) T.th.x T.c.lo T.c.hi), th := { T.th with ph := 16 } }
def tellS (T : Tn) : Tn := settleS { T with m := T.m.set (lineS T.c (kidS T).t) 5, th := { T.th with at_ := T.th.at_ + 1 } }
/-- commit. -/
def marksS (item : Int) : List En → List Int → List Mk
  | e :: b, p :: ps => ⟨e.t, item, e.tag, e.v, p, 0⟩ :: marksS item b ps
  | _, _ => []
def commitS (T : Tn) (x : Int) : Tn :=
  settleS { T with log := T.log ++ marksS T.th.item T.th.batch (priorsS T.th.batch x T.c.lo T.c.hi), th := { T.th with x := x, at_ := 0 } }
def onwardS (T : Tn) : Tn :=
  if T.th.layer < T.c.la ∧ lateP T = false then { T with th := { T.th with ph := 17, layer := T.th.layer + 1 } } else { T with th := { T.th with ph := 2 } }
def lookS (T : Tn) : Tn :=
  let x := T.m.get (cellS T.c T.th.item)
  let y := allS T.th.batch x T.c.lo T.c.hi
  if y = x then commitS T x else if T.th.ph = 25 then onwardS T else { T with th := { T.th with x := x, y := y, ph := 3 } }
def casS (T : Tn) : Tn :=
  if T.m.get (cellS T.c T.th.item) = T.th.x then commitS { T with m := T.m.set (cellS T.c T.th.item) T.th.y } T.th.x
  else { T with th := { T.th with width := mnS (if T.th.width < T.c.wi then T.th.width * 2 else T.th.width) T.c.wi, ph := 2 } }
/-- climb. -/
def downS (T : Tn) : Tn :=
  if 0 ≤ T.th.at_ ∧ T.th.at_ < T.th.held.length then { T with th := { T.th with ph := 7 } }
  else if 0 < T.th.stop then { T with th := { T.th with ph := 11 } } else { T with th := { T.th with ph := 2 } }
def overS (T : Tn) : Tn := downS { T with th := { T.th with at_ := 0 } }
def parentS (n : Int) : Int := mxS n 0 / 2
def takenS (T : Tn) : Tn :=
  if 0 < parentS T.th.node then { T with th := { T.th with held := T.th.held ++ [T.th.node], node := parentS T.th.node } }
  else overS { T with th := { T.th with held := T.th.held ++ [T.th.node], node := parentS T.th.node } }
def climbS (T : Tn) : Tn :=
  let w := T.m.get (nodeS T.c T.th.item T.th.node)
  if kindS w = 1 then { T with th := { T.th with x := w, ph := 6 } }
  else if kindS w = 0 then { T with th := { T.th with ph := 5 } }
  else if lateP T then overS T else T
def takeS (T : Tn) : Tn :=
  if T.m.get (nodeS T.c T.th.item T.th.node) = 0 then takenS { T with m := T.m.set (nodeS T.c T.th.item T.th.node) (firstS T.t), th := { T.th with ph := 4 } }
  else { T with th := { T.th with ph := 4 } }
def joinS (T : Tn) : Tn :=
  if T.m.get (nodeS T.c T.th.item T.th.node) = T.th.x then overS { T with m := T.m.set (nodeS T.c T.th.item T.th.node) (joinedS T.t), th := { T.th with ph := 4, stop := T.th.node } }
  else { T with th := { T.th with ph := 4 } }
/-- gather. -/
def heldS (T : Tn) : Int := nodeS T.c T.th.item (T.th.held.getD T.th.at_.toNat 0)
def nextG (T : Tn) : Tn := downS { T with th := { T.th with at_ := T.th.at_ + 1 } }
def takeG (T : Tn) (who : Int) (b : List En) : Tn := { T with th := { T.th with kids := T.th.kids ++ [⟨who, T.th.batch.length⟩], batch := T.th.batch ++ b } }
def gatherS (T : Tn) : Tn :=
  let w := T.m.get (heldS T)
  if w = firstS T.t then { T with th := { T.th with ph := 8 } }
  else if kindS w = 3 then { T with th := { T.th with who := whoS w, ph := 9 } } else T
def closeS (T : Tn) : Tn :=
  if T.m.get (heldS T) = firstS T.t then nextG { T with m := T.m.set (heldS T) 0 } else { T with th := { T.th with ph := 7 } }
def collectS (T : Tn) : Tn := let U := takeG T T.th.who (T.m.box T.th.who); { U with th := { U.th with ph := 10 } }
def freeS (T : Tn) : Tn := nextG { T with m := T.m.set (heldS T) 0 }
def publishS (T : Tn) : Tn := { T with m := T.m.put T.t T.th.batch, th := { T.th with ph := 12 } }
def depositS (T : Tn) : Tn := { T with m := T.m.set (nodeS T.c T.th.item T.th.stop) (depositedS T.t), th := { T.th with ph := 13 } }
/-- collide. -/
def openT (T : Tn) : Int := openS T.th.item T.th.layer
def showS (T : Tn) : Tn := { T with m := T.m.put T.t T.th.batch, th := { T.th with ph := 18 } }
def openingS (T : Tn) : Tn := { T with m := T.m.set (lineS T.c T.t) (openT T), th := { T.th with ph := 19 } }
def swapS (T : Tn) : Tn :=
  let d := belowS T.tp T.th.width
  let q := T.m.get (slotS T.c T.th.item T.th.layer d.1)
  let U : Tn := { T with m := T.m.set (slotS T.c T.th.item T.th.layer d.1) (T.t + 1), tp := d.2 }
  if (q < 1 ∨ T.c.th < q) ∨ q = T.t + 1 then { U with th := { U.th with left := T.c.sp, ph := 23 } }
  else { U with th := { U.th with who := q - 1, ph := 20 } }
def shutS (T : Tn) : Tn :=
  if T.m.get (lineS T.c T.t) = openT T then { T with m := T.m.set (lineS T.c T.t) 0, th := { T.th with ph := 21 } } else { T with th := { T.th with ph := 13 } }
def captureS (T : Tn) : Tn :=
  if T.m.get (lineS T.c T.th.who) = openT T then { T with m := T.m.set (lineS T.c T.th.who) 0, th := { T.th with ph := 22 } } else { T with th := { T.th with ph := 24 } }
def absorbS (T : Tn) : Tn := let U := takeG T T.th.who (T.m.box T.th.who); { U with th := { U.th with ph := 25 } }
def spinS (T : Tn) : Tn :=
  if T.m.get (lineS T.c T.t) ≠ openT T then { T with th := { T.th with ph := 13 } }
  else if 0 < T.th.left ∧ lateP T = false then { T with th := { T.th with left := T.th.left - 1 } }
  else { T with th := { T.th with ph := 26 } }
def reopenS (T : Tn) : Tn := { T with m := T.m.set (lineS T.c T.t) (openT T), th := { T.th with ph := 23, left := T.c.sp } }
def leaveS (T : Tn) : Tn :=
  if T.m.get (lineS T.c T.t) = openT T then onwardS { T with m := T.m.set (lineS T.c T.t) 0, th := { T.th with ph := 26, width := mxS 1 (T.th.width / 2) } }
  else { T with th := { T.th with ph := 13 } }
/-- machine. -/
def startS (T : Tn) : Tn :=
  if T.c.be = 2 ∧ 0 < T.c.de then { T with th := { T.th with ph := 4 } }
  else if T.c.be = 3 ∧ 0 < T.c.la then { T with th := { T.th with ph := 17, layer := 1 } }
  else { T with th := { T.th with ph := 2 } }
def clearS (T : Tn) : Tn := startS { T with m := T.m.set (lineS T.c T.t) 0 }
/-- A step by its phase, of a turn with no log. -/
def phaseS (T : Tn) : Tn :=
  if T.th.ph = 1 then clearS T
  else if T.th.ph = 13 then waitS T
  else if T.th.ph = 14 then fetchS T
  else if T.th.ph = 15 then shareS T
  else if T.th.ph = 16 then tellS T
  else if T.th.ph = 3 then casS T
  else if T.th.ph = 2 ∨ T.th.ph = 25 then lookS T
  else if T.th.ph = 4 then climbS T
  else if T.th.ph = 5 then takeS T
  else if T.th.ph = 6 then joinS T
  else if T.th.ph = 7 then gatherS T
  else if T.th.ph = 8 then closeS T
  else if T.th.ph = 9 then collectS T
  else if T.th.ph = 10 then freeS T
  else if T.th.ph = 11 then publishS T
  else if T.th.ph = 12 then depositS T
  else if T.th.ph = 17 then showS T
  else if T.th.ph = 18 then openingS T
  else if T.th.ph = 19 then swapS T
  else if T.th.ph = 20 then shutS T
  else if T.th.ph = 21 then captureS T
  else if T.th.ph = 22 then absorbS T
  else if T.th.ph = 23 then spinS T
  else if T.th.ph = 24 then reopenS T
  else leaveS T
def stepS (T : Tn) : Tn := if T.th.ph = 0 then T else phaseS { T with log := [], done := false }
/-- The world. -/
def leafS (d t : Int) : Int := if d < 1 then 0 else p2 (d - 1) + t / 2 % p2 (d - 1)
def beginS (c : Cf) (t : Int) (th : Th) (item tag v now : Int) : Th :=
  { th0 with ph := 1, item := item, tag := tag, v := v, node := leafS c.de t, width := th.width, batch := [⟨t, tag, v⟩], until_ := if 0 < c.wa then now + c.wa else 0 }
def knownS (tag : Int) : Bool := decide (1 ≤ tag ∧ tag ≤ 9)
def mayS (tag v : Int) (bo : Bool) : Bool :=
  if bo = false then decide (1 ≤ tag ∧ tag ≤ 9) && decide (tag < 8) else if tag = 9 then decide (0 ≤ v) else decide (tag = 8)
def checkE (c : Cf) (e : Se) : Int :=
  if e.kind = 1 ∨ e.kind = 2 then
    if ¬ (0 ≤ e.t ∧ e.t < c.th) then 91
    else if e.kind = 2 then 0
    else if ¬ (0 ≤ e.item ∧ e.item < c.it) then 92
    else if mayS e.tag e.v c.bo = false then 93 else 0
  else if e.kind = 3 then 0 else 90
def checkC (c : Cf) : Int :=
  if c.th < 1 ∨ 16 < c.th then 50 else if c.it < 1 ∨ 4 < c.it then 51 else if c.be < 1 ∨ 3 < c.be then 52 else if c.de < 0 ∨ 4 < c.de then 53
  else if c.la < 0 ∨ 3 < c.la then 54 else if c.wi < 1 ∨ 8 < c.wi then 55 else if c.sp < 0 ∨ 20 < c.sp then 56 else if c.wa < 0 ∨ 1000 < c.wa then 57
  else if c.bo = true ∧ (c.ini < c.lo ∨ c.hi < c.ini) then 58 else 0
/-- The words of a new arena. -/
def wordsS (c : Cf) : Nat → List Int → List Int
  | 0, ws => ws
  | n + 1, ws => (wordsS c n ws).set (cellS c n).toNat c.ini
def newS (c : Cf) (draws : List Int) : Wo :=
  ⟨c, ⟨wordsS c c.it.toNat (List.replicate (sizeS c).toNat 0), List.replicate c.th.toNat []⟩, List.replicate c.th.toNat { th0 with width := 1 }, 0, 0, ⟨draws, 0⟩, [], []⟩
def Wo.thr (w : Wo) (t : Int) : Th := w.ths.getD t.toNat th0
def turnS (w : Wo) (t : Int) : Tn := ⟨w.c, t, w.now, w.m, w.thr t, w.tp, [], false⟩
def eventS (w : Wo) (x : Ev) : Wo := { w with hist := w.hist ++ [{ x with step := w.steps }] }
def invokeS (w : Wo) (e : Se) : Wo :=
  if (w.thr e.t).ph ≠ 0 then eventS w ⟨3, e.t, e.item, e.tag, e.v, 0, false, 0⟩
  else eventS { w with ths := w.ths.set e.t.toNat (beginS w.c e.t (w.thr e.t) e.item e.tag e.v w.now) } ⟨1, e.t, e.item, e.tag, e.v, 0, false, 0⟩
def landS (w : Wo) (t : Int) (u : Tn) : Wo :=
  let w1 : Wo := { w with steps := w.steps + 1, m := u.m, ths := w.ths.set t.toNat u.th, tp := u.tp, log := w.log ++ u.log.map fun k => { k with step := w.steps + 1 } }
  if u.done then eventS w1 ⟨2, t, u.th.item, u.th.tag, u.th.v, u.th.x, (applyS u.th.tag u.th.v u.th.x w.c.lo w.c.hi).2, 0⟩ else w1
def pickS (w : Wo) (t : Int) : Wo := if (w.thr t).ph = 0 then w else landS w t (stepS (turnS w t))
def doS (w : Wo) (e : Se) : Wo := if e.kind = 1 then invokeS w e else if e.kind = 2 then pickS w e.t else { w with now := w.now + 1 }
def runS (w : Wo) (l : List Se) : Wo := l.foldl doS w
end Go.Proofs.YtgbkjnikcnjbkaaGreat.Top
namespace Go.Proofs.YtgbkjnikcnjbkaaGreatW.PrintWords
open Go.RowKit
set_option linter.unusedSimpArgs false
set_option linter.unusedVariables false
/-- A fact that the walk's simp doesn't look into. -/
structure Aside0 (p : Prop) : Prop where mk :: (out : p)
/-- The world is the old one, some orders having been drawn. -/
structure Drawn0 (w w' : World) : Prop where mk :: (out : ∃ n, w' = w.drewN n)
theorem Drawn0.refl (w : World) : Drawn0 w w := ⟨⟨0, rfl⟩⟩
theorem Drawn0.step {w w' : World} (h : Drawn0 w w') (n : Nat) : Drawn0 w (w'.drewN n) := by
  obtain ⟨m, rfl⟩ := h
  exact ⟨⟨m + n, World.drewN_drewN ..⟩⟩
theorem Drawn0.below {w w' : World} (h : Drawn0 w w') : Below w.heap.size w w' := by
  obtain ⟨n, rfl⟩ := h
  induction n with
  | zero => exact Below.refl _ _
  | succ n ih => rw [← World.drew_drewN]; exact ih.drew
theorem below_then {B : Nat} {w w1 w2 : World} (h : Below B w w1) (hB : B ≤ w1.heap.size) (k : Below w1.heap.size w1 w2) : Below B w w2 :=
  h.trans ⟨k.os, k.tape, k.output, k.size, fun i hi => k.block i (Nat.lt_of_lt_of_le hi hB)⟩
theorem pw_below_grown {B : Nat} {w w1 : World} (h : Below B w w1) (row : Option Nat) (hB : B ≤ w1.heap.size) {w2 : World} (hg : w1.grownBy w2 row) (hr : ∀ k, row = some k → B ≤ k) : Below B w w2 := h.grown hg hB hr
theorem below_step {w W w2 : World} (h : Below w.heap.size w W) (k : Below W.heap.size W w2) : Below w.heap.size w w2 := below_then h h.size k
theorem below_drew1 {base : Nat} {w W : World} (h : Below base w W) : Below base w W.drew := h.drew
end Go.Proofs.YtgbkjnikcnjbkaaGreatW.PrintWords
namespace Go.Proofs.YtgbkjnikcnjbkaaGreatW.PrintLast
section
section
variable {P : Program} {ops : Array Oper} {Q : Exit → Act → World → Prop} {md : Region.Mode} {S : World → Prop} {ds : List Nat}
/-- Operation d waits for operation i, by a chain of at most 'fuel' edges. -/
def Region.reachB (md : Region.Mode) (ops : Array Oper) (i : Nat) : Nat → Nat → Bool
  | 0, _ => false
  | fuel + 1, d => match ops[d]? with
    | some o => o.after.any fun e => Region.binds md e && (e.on == i || Region.reachB md ops i fuel e.on)
    | none => false
/-- What is listed is closed under the edges. -/
def Region.closedB (md : Region.Mode) (ops : Array Oper) (listed : Array Bool) : Bool :=
  (List.range ops.size).all fun j => !listed.getD j false || match ops[j]? with
    | some o => o.after.all fun e => !Region.binds md e || listed.getD e.on false
    | none => true
/-- Each of ds that has not come up yet waits for number i. -/
def Region.lastB (md : Region.Mode) (ops : Array Oper) (listed : Array Bool) (ds : List Nat) (i : Nat) : Bool :=
  ds.all fun d => listed.getD d true || Region.reachB md ops i ops.size d
def ListedClosed (md : Region.Mode) (ops : Array Oper) (listed : Array Bool) : Prop :=
  ∀ j oj, ops[j]? = some oj → listed.getD j false = true → ∀ e ∈ oj.after, Region.binds md e = true → listed.getD e.on false = true
theorem Region.closedB_spec {listed : Array Bool} (h : Region.closedB md ops listed = true) : ListedClosed md ops listed := by
  intro j oj hj hl e he hb
  have hlt : j < ops.size := (Array.getElem?_eq_some_iff.1 hj).1
  have h1 := List.all_eq_true.1 h j (List.mem_range.2 hlt)
  simp only [hl, hj, Bool.not_true, Bool.false_or] at h1
  have h2 := Array.all_eq_true_iff_forall_mem.1 h1 e he
  simpa [hb] using h2
theorem ListedClosed.set {listed : Array Bool} {i : Nat} (h : ListedClosed md ops listed) (hi : i ∈ Region.ready md ops listed) : ListedClosed md ops (listed.setIfInBounds i true) := by
  obtain ⟨_, oi, hoi, hall⟩ := mem_ready.1 hi
  intro j oj hj hl e he hb
  by_cases hij : i = j
  · subst hij
    have : oj = oi := Option.some.inj (hj.symm.trans hoi)
    subst this
    exact getD_set_true (hall e he hb)
  · rw [getD_set_ne false hij] at hl
    exact getD_set_true (h j oj hj hl e he hb)
theorem Region.reach_listed {listed : Array Bool} {i : Nat} (hc : ListedClosed md ops listed) : ∀ (fuel d : Nat), Region.reachB md ops i fuel d = true → listed.getD d false = true → listed.getD i false = true
  | 0, _, h, _ => by simp [Region.reachB] at h
  | fuel + 1, d, h, hl => by
    unfold Region.reachB at h
    cases ho : ops[d]? with
    | none => rw [ho] at h; simp at h
    | some o =>
      rw [ho] at h
      obtain ⟨e, he, h1⟩ := Array.any_eq_true'.1 h
      simp only [Bool.and_eq_true, Bool.or_eq_true, beq_iff_eq] at h1
      have hle := hc d o ho hl e he h1.1
      rcases h1.2 with h2 | h2
      · rw [← h2]; exact hle
      · exact Region.reach_listed hc fuel e.on h2 hle
/-- What waits for i cannot come up before i is listed. -/
theorem Region.reach_not_ready {listed : Array Bool} {i d fuel : Nat} (hc : ListedClosed md ops listed) (hr : Region.reachB md ops i fuel d = true) (hun : listed.getD i true = false) : d ∉ Region.ready md ops listed := by
  intro hd
  obtain ⟨_, o, ho, hall⟩ := mem_ready.1 hd
  have hi : listed.getD i false = true := by
    cases fuel with
    | zero => simp [Region.reachB] at hr
    | succ n =>
      unfold Region.reachB at hr
      rw [ho] at hr
      obtain ⟨e, he, h1⟩ := Array.any_eq_true'.1 hr
      simp only [Bool.and_eq_true, Bool.or_eq_true, beq_iff_eq] at h1
      have hle := hall e he h1.1
      rcases h1.2 with h2 | h2
      · rw [← h2]; exact hle
      · exact Region.reach_listed hc n e.on h2 hle
  rcases Nat.lt_or_ge i listed.size with h' | h'
  · simp [h'] at hun hi
    rw [hun] at hi
    cases hi
  · simp [Array.getElem?_eq_none h'] at hun
/-- Whatever order is picked from here on, AND 'S' HOLDS BEHIND EVERY OPERATION THAT IS CARRIED OUT, those of ds apart. -/
def wpAnyLast (P : Program) (md : Region.Mode) (ops : Array Oper) (Q : Exit → Act → World → Prop) (S : World → Prop) (ds : List Nat) : Nat → Array Bool → Act → World → Prop
  | 0, listed, a, w => Region.ready md ops listed = [] ∧ Q .normal a w
  | fuel + 1, listed, a, w =>
    (Region.ready md ops listed = [] → Q .normal a w) ∧
    ∀ i ∈ Region.ready md ops listed, wpOp P ops Q i (fun a' w' => (i ∉ ds → S w → S w') ∧ wpAnyLast P md ops Q S ds fuel (listed.setIfInBounds i true) a' w') a w
theorem wpAny_of_last : ∀ (fuel : Nat) (listed : Array Bool) (a : Act) (w : World), wpAnyLast P md ops Q S ds fuel listed a w → wpAny P md ops Q fuel listed a w
  | 0, _, _, _, h => h
  | fuel + 1, _, _, _, h => ⟨h.1, fun i hi => wpOp_mono (fun a' w' h' => wpAny_of_last fuel _ a' w' h'.2) (h.2 i hi)⟩
theorem wpAnyLast_first {i : Nat} {oi : Oper} {v : Value} (hi : ops[i]? = some oi) (hsel : ∀ (j : Nat) (o : Oper) cs b, ops[j]? = some o → o.op ≠ .select cs b)
    (hQ : ∀ c a w, Q (.panic c) (a.put oi.dst v) w → Q (.panic c) a w) (n : Nat) :
    ∀ (fuel : Nat) (listed : Array Bool) (a : Act) (w : World),
      (∀ j oj, ops[j]? = some oj → j ≠ i → listed.getD j true = false → (∀ e ∈ oj.after, Region.binds md e = true → e.on ≠ i) → oi.apart ops oj = true) →
      ListedClosed md ops listed → (∀ d ∈ ds, listed.getD d true = false → Region.reachB md ops i n d = true) →
      i ∈ Region.ready md ops listed → YieldsIf P ops S oi v a → S w →
      wpAnyLast P md ops Q S ds fuel (listed.setIfInBounds i true) (a.put oi.dst v) w → wpAnyLast P md ops Q S ds (fuel + 1) listed a w := by
  intro fuel
  induction fuel with
  | zero =>
    intro listed a w _ _ _ hr hy hS H
    refine ⟨fun h => (by rw [h] at hr; cases hr), fun j hj => ?_⟩
    by_cases hji : j = i
    · subst hji; exact hy.wpOp hi hS ⟨fun _ h => h, H⟩
    · have := ready_mono hj hji
      rw [H.1] at this
      cases this
  | succ fuel ih =>
    intro listed a w hfree hc hd hr hy hS H
    refine ⟨fun h => (by rw [h] at hr; cases hr), fun j hj => ?_⟩
    by_cases hji : j = i
    · subst hji; exact hy.wpOp hi hS ⟨fun _ h => h, H⟩
    · have h1 := H.2 j (ready_mono hj hji)
      obtain ⟨hjun, oj, hoj, hall⟩ := mem_ready.1 hj
      have hiun := (mem_ready.1 hr).1
      have hnot : ∀ e ∈ oj.after, Region.binds md e = true → e.on ≠ i := fun e he hb heq => by
        have h1 := hall e he hb
        rw [heq] at h1
        rcases Nat.lt_or_ge i listed.size with h' | h'
        · simp [h'] at hiun h1; rw [hiun] at h1; cases h1
        · simp [Array.getElem?_eq_none h'] at h1
      have hjd : j ∉ ds := fun hm => Region.reach_not_ready hc (hd j hm hjun) hiun hj
      have h2 := wpOp_putIf hoj (hfree j oj hoj hji hjun hnot) (fun cs b => hsel i oi cs b hi) (fun cs b => hsel j oj cs b hoj) hQ hy h1
      have hfree' : ∀ k ok, ops[k]? = some ok → k ≠ i → (listed.setIfInBounds j true).getD k true = false →
          (∀ e ∈ ok.after, Region.binds md e = true → e.on ≠ i) → oi.apart ops ok = true := fun k ok hk hki hun hno => by
        refine hfree k ok hk hki ?_ hno
        by_cases hjk : j = k
        · subst hjk; exact hjun
        · rw [getD_set_ne true hjk] at hun; exact hun
      have hd' : ∀ d ∈ ds, (listed.setIfInBounds j true).getD d true = false → Region.reachB md ops i n d = true := fun d hm hun => by
        refine hd d hm ?_
        by_cases hjk : j = d
        · subst hjk; exact hjun
        · rw [getD_set_ne true hjk] at hun; exact hun
      refine wpOp_mono (fun a' w' h3 => ⟨h3.2.1, ih (listed.setIfInBounds j true) a' w' hfree' (hc.set hj) hd' (ready_mono hr (Ne.symm hji)) h3.1 (h3.2.1 hjd hS) ?_⟩) h2
      rw [Array.setIfInBounds_comm _ _ hji]
      exact h3.2.2
/-- Take number 'i' first, which yields whatever the world: no S is asked for, nor that anything waits for it. -/
theorem wpAnyLast_any {i : Nat} {oi : Oper} {v : Value} (hi : ops[i]? = some oi) (hsel : ∀ (j : Nat) (o : Oper) cs b, ops[j]? = some o → o.op ≠ .select cs b)
    (hQ : ∀ c a w, Q (.panic c) (a.put oi.dst v) w → Q (.panic c) a w) :
    ∀ (fuel : Nat) (listed : Array Bool) (a : Act) (w : World),
      (∀ j oj, ops[j]? = some oj → j ≠ i → listed.getD j true = false → (∀ e ∈ oj.after, Region.binds md e = true → e.on ≠ i) → oi.apart ops oj = true) →
      i ∈ Region.ready md ops listed → Yields P ops oi v a →
      wpAnyLast P md ops Q S ds fuel (listed.setIfInBounds i true) (a.put oi.dst v) w → wpAnyLast P md ops Q S ds (fuel + 1) listed a w := by
  intro fuel
  induction fuel with
  | zero =>
    intro listed a w _ hr hy H
    refine ⟨fun h => (by rw [h] at hr; cases hr), fun j hj => ?_⟩
    by_cases hji : j = i
    · subst hji; exact (hy.yieldsIf (S := fun _ => True)).wpOp hi trivial ⟨fun _ h => h, H⟩
    · have := ready_mono hj hji
      rw [H.1] at this
      cases this
  | succ fuel ih =>
    intro listed a w hfree hr hy H
    refine ⟨fun h => (by rw [h] at hr; cases hr), fun j hj => ?_⟩
    by_cases hji : j = i
    · subst hji; exact (hy.yieldsIf (S := fun _ => True)).wpOp hi trivial ⟨fun _ h => h, H⟩
    · have h1 := H.2 j (ready_mono hj hji)
      obtain ⟨hjun, oj, hoj, hall⟩ := mem_ready.1 hj
      have hiun := (mem_ready.1 hr).1
      have hnot : ∀ e ∈ oj.after, Region.binds md e = true → e.on ≠ i := fun e he hb heq => by
        have h1 := hall e he hb
        rw [heq] at h1
        rcases Nat.lt_or_ge i listed.size with h' | h'
        · simp [h'] at hiun h1; rw [hiun] at h1; cases h1
        · simp [Array.getElem?_eq_none h'] at h1
      have h2 := wpOp_put hoj (hfree j oj hoj hji hjun hnot) (fun cs b => hsel i oi cs b hi) (fun cs b => hsel j oj cs b hoj) hQ hy h1
      have hfree' : ∀ k ok, ops[k]? = some ok → k ≠ i → (listed.setIfInBounds j true).getD k true = false →
          (∀ e ∈ ok.after, Region.binds md e = true → e.on ≠ i) → oi.apart ops ok = true := fun k ok hk hki hun hno => by
        refine hfree k ok hk hki ?_ hno
        by_cases hjk : j = k
        · subst hjk; exact hjun
        · rw [getD_set_ne true hjk] at hun; exact hun
      refine wpOp_mono (fun a' w' h3 => ⟨h3.2.1, ih (listed.setIfInBounds j true) a' w' hfree' (ready_mono hr (Ne.symm hji)) h3.1 ?_⟩) h2
      rw [Array.setIfInBounds_comm _ _ hji]
      exact h3.2.2
/-- Take number 'i' first. -/
theorem wpAnyLast_take {i : Nat} {oi : Oper} {v : Value} {fuel : Nat} {listed : Array Bool} {a : Act} {w : World} (hi : ops[i]? = some oi)
    (hs : Region.noSelect ops = true) (hf : Region.free md ops listed i = true) (hr : (Region.ready md ops listed).contains i = true)
    (hc : Region.closedB md ops listed = true) (hl : Region.lastB md ops listed ds i = true)
    (hQ : ∀ c a w, Q (.panic c) (a.put oi.dst v) w → Q (.panic c) a w) (hy : YieldsIf P ops S oi v a) (hS : S w)
    (h : wpAnyLast P md ops Q S ds fuel (listed.setIfInBounds i true) (a.put oi.dst v) w) : wpAnyLast P md ops Q S ds (fuel + 1) listed a w :=
  wpAnyLast_first hi (Region.noSelect_spec hs) hQ ops.size fuel listed a w (Region.free_spec hi hf) (Region.closedB_spec hc)
    (fun d hm hun => by have := List.all_eq_true.1 hl d hm; rw [hun] at this; simpa using this) (by simpa using hr) hy hS h
theorem wpAnyLast_all {rs : List Nat} {fuel : Nat} {listed : Array Bool} {a : Act} {w : World} (hr : Region.ready md ops listed = rs) (hne : rs ≠ [])
    (h : ∀ i ∈ rs, wpOp P ops Q i (fun a' w' => (i ∉ ds → S w → S w') ∧ wpAnyLast P md ops Q S ds fuel (listed.setIfInBounds i true) a' w') a w) : wpAnyLast P md ops Q S ds (fuel + 1) listed a w :=
  ⟨fun h0 => absurd (hr ▸ h0) hne, hr ▸ h⟩
theorem wpAnyLast_done {listed : Array Bool} {a : Act} {w : World} (hr : Region.ready md ops listed = []) (h : Q .normal a w) :
    ∀ fuel, wpAnyLast P md ops Q S ds fuel listed a w
  | 0 => ⟨hr, h⟩
  | _ + 1 => ⟨fun _ => h, by rw [hr]; simp⟩
theorem wp_region_last {id : Nat} {a : Act} {w : World} (hm : P.follows .mixedOrders = true)
    (h : wpAnyLast P .any ops Q S ds ops.size (Array.replicate ops.size false) a { w with drawn := w.drawn + 1 }) : (Code.region id ops true).wp P Q a w :=
  wp_region_any hm (wpAny_of_last _ _ _ _ h)
end
section
variable {P : Program} {ops : Array Oper} {Q : Exit → Act → World → Prop} {md : Region.Mode} {S : World → Prop} {ds : List Nat}
def AllReadyL (P : Program) (md : Region.Mode) (ops : Array Oper) (Q : Exit → Act → World → Prop) (S : World → Prop) (ds : List Nat) (fuel : Nat) (listed : Array Bool) (a : Act) (w : World) (rs : List Nat) : Prop :=
  ∀ i ∈ rs, wpOp P ops Q i (fun a' w' => (i ∉ ds → S w → S w') ∧ wpAnyLast P md ops Q S ds fuel (listed.setIfInBounds i true) a' w') a w
theorem AllReadyL.nil {fuel : Nat} {listed : Array Bool} {a : Act} {w : World} : AllReadyL P md ops Q S ds fuel listed a w [] := fun _ h => by cases h
theorem AllReadyL.cons {fuel : Nat} {listed : Array Bool} {a : Act} {w : World} {i : Nat} {o : Oper} {rs : List Nat} (ho : ops[i]? = some o) (hd : i ∉ ds)
    (h : ∀ K' : Act → World → Prop, Shut (∀ a w, S w → (S w → wpAnyLast P md ops Q S ds fuel (listed.setIfInBounds i true) a w) → K' a w) → if Region.wanted o (yielded ops a.tmps) = true then Oper.wp P o a w K' Q else K' (a.put o.dst undef) w)
    (hs : AllReadyL P md ops Q S ds fuel listed a w rs) : AllReadyL P md ops Q S ds fuel listed a w (i :: rs) := fun j hj => by
  rcases List.mem_cons.1 hj with rfl | hj
  · exact wpOp_step ho (fun K' hK => h K' (fun a w hS hW => hK a w ⟨fun _ _ => hS, hW hS⟩))
  · exact hs j hj
/-- Behind an operation of ds nothing is shown. -/
theorem AllReadyL.cons_last {fuel : Nat} {listed : Array Bool} {a : Act} {w : World} {i : Nat} {o : Oper} {rs : List Nat} (ho : ops[i]? = some o) (hd : i ∈ ds)
    (h : ∀ K' : Act → World → Prop, Shut (∀ a w, wpAnyLast P md ops Q S ds fuel (listed.setIfInBounds i true) a w → K' a w) → if Region.wanted o (yielded ops a.tmps) = true then Oper.wp P o a w K' Q else K' (a.put o.dst undef) w)
    (hs : AllReadyL P md ops Q S ds fuel listed a w rs) : AllReadyL P md ops Q S ds fuel listed a w (i :: rs) := fun j hj => by
  rcases List.mem_cons.1 hj with rfl | hj
  · exact wpOp_step ho (fun K' hK => h K' (fun a w hW => hK a w ⟨fun hn => absurd hd hn, hW⟩))
  · exact hs j hj
theorem wpAnyLast_ready {rs : List Nat} {fuel : Nat} {listed : Array Bool} {a : Act} {w : World} (hr : Region.ready md ops listed = rs) (hne : rs ≠ [])
    (h : AllReadyL P md ops Q S ds fuel listed a w rs) : wpAnyLast P md ops Q S ds (fuel + 1) listed a w := wpAnyLast_all hr hne h
/-- THE SAME STEPS WITH WHAT HAS COME UP WRITTEN OUT (a literal array of Bools) and one check a step: quicker, and what is printed stays short. -/
theorem start_ {id n : Nat} {a : Act} {w : World} (l : Array Bool) (hm : P.follows .mixedOrders = true) (hn : ops.size = n) (hl : Array.replicate n false = l) (hS : S w.drew)
    (h : S w.drew → wpAnyLast P .any ops Q S ds n l a w.drew) : (Code.region id ops true).wp P Q a w := by
  subst hn
  subst hl
  exact wp_region_last hm (h hS)
def takeB (md : Region.Mode) (ops : Array Oper) (ds : List Nat) (l l' : Array Bool) (i : Nat) : Bool :=
  Region.noSelect ops && Region.free md ops l i && (Region.ready md ops l).contains i && Region.closedB md ops l && Region.lastB md ops l ds i && (l.setIfInBounds i true == l')
theorem take_ {i : Nat} {N : Option Tmp} {oi : Oper} {v : Value} {fuel : Nat} {l : Array Bool} {a : Act} {w : World} (l' : Array Bool) (hi : ops[i]? = some oi) (hN : oi.dst = N) (hc : takeB md ops ds l l' i = true)
    (hQ : ∀ c a w, Q (.panic c) (a.put oi.dst v) w → Q (.panic c) a w) (hy : YieldsIf P ops S oi v a) (hS : S w) {a' : Act} (ha : a.put N v = a')
    (h : wpAnyLast P md ops Q S ds fuel l' a' w) : wpAnyLast P md ops Q S ds (fuel + 1) l a w := by
  subst ha
  subst hN
  simp only [takeB, Bool.and_eq_true, beq_iff_eq] at hc
  obtain ⟨⟨⟨⟨⟨h1, h2⟩, h3⟩, h4⟩, h5⟩, h6⟩ := hc
  subst h6
  exact wpAnyLast_take hi h1 h2 h3 h4 h5 hQ hy hS h
def anyB (md : Region.Mode) (ops : Array Oper) (l l' : Array Bool) (i : Nat) : Bool :=
  Region.noSelect ops && Region.free md ops l i && (Region.ready md ops l).contains i && (l.setIfInBounds i true == l')
/-- An operation that yields in every world (a move, a number, an address): taken first wherever it may come up, behind a store too. -/
theorem pure_ {i : Nat} {N : Option Tmp} {oi : Oper} {v : Value} {fuel : Nat} {l : Array Bool} {a : Act} {w : World} (l' : Array Bool) (hi : ops[i]? = some oi) (hN : oi.dst = N) (hc : anyB md ops l l' i = true)
    (hQ : ∀ c a w, Q (.panic c) (a.put oi.dst v) w → Q (.panic c) a w) (hy : Yields P ops oi v a) {a' : Act} (ha : a.put N v = a')
    (h : wpAnyLast P md ops Q S ds fuel l' a' w) : wpAnyLast P md ops Q S ds (fuel + 1) l a w := by
  subst ha
  subst hN
  simp only [anyB, Bool.and_eq_true, beq_iff_eq] at hc
  obtain ⟨⟨⟨h1, h2⟩, h3⟩, h6⟩ := hc
  subst h6
  exact wpAnyLast_any hi (Region.noSelect_spec h1) hQ fuel l a w (Region.free_spec hi h2) (by simpa using h3) hy h
def readyB (md : Region.Mode) (ops : Array Oper) (l l' : Array Bool) (i : Nat) : Bool := (Region.ready md ops l == [i]) && (l.setIfInBounds i true == l')
/-- One operation alone may come up now (a call, a build, an append ..): it is run, S is shown behind it. -/
theorem one_ {i : Nat} {N : Option Tmp} {oi : Oper} {fuel : Nat} {l : Array Bool} {a : Act} {w : World} (l' : Array Bool) (hi : ops[i]? = some oi) (hN : oi.dst = N) (hc : readyB md ops l l' i = true) (hd : i ∉ ds)
    (h : ∀ K : Act → World → Prop, Shut (∀ a' w', S w' → (S w' → wpAnyLast P md ops Q S ds fuel l' a' w') → K a' w') → if Region.wanted oi (yielded ops a.tmps) = true then Oper.wp P oi a w K Q else K (a.put N undef) w) :
    wpAnyLast P md ops Q S ds (fuel + 1) l a w := by
  subst hN
  simp only [readyB, Bool.and_eq_true, beq_iff_eq] at hc
  obtain ⟨h1, h2⟩ := hc
  subst h2
  exact wpAnyLast_ready h1 (by simp) (AllReadyL.cons hi hd (fun K hK => h K hK) AllReadyL.nil)
/-- The same for one of ds: nothing is shown behind it. -/
theorem last_ {i : Nat} {N : Option Tmp} {oi : Oper} {fuel : Nat} {l : Array Bool} {a : Act} {w : World} (l' : Array Bool) (hi : ops[i]? = some oi) (hN : oi.dst = N) (hc : readyB md ops l l' i = true) (hd : i ∈ ds)
    (h : ∀ K : Act → World → Prop, Shut (∀ a' w', wpAnyLast P md ops Q S ds fuel l' a' w' → K a' w') → if Region.wanted oi (yielded ops a.tmps) = true then Oper.wp P oi a w K Q else K (a.put N undef) w) :
    wpAnyLast P md ops Q S ds (fuel + 1) l a w := by
  subst hN
  simp only [readyB, Bool.and_eq_true, beq_iff_eq] at hc
  obtain ⟨h1, h2⟩ := hc
  subst h2
  exact wpAnyLast_ready h1 (by simp) (AllReadyL.cons_last hi hd (fun K hK => h K hK) AllReadyL.nil)
theorem done_ {l : Array Bool} {a : Act} {w : World} {n : Nat} (hr : (Region.ready md ops l == []) = true) (h : Q .normal a w) : wpAnyLast P md ops Q S ds n l a w := wpAnyLast_done (by simpa using hr) h n
theorem two_ {i j : Nat} {Ni Nj : Option Tmp} {oi oj : Oper} {fuel : Nat} {l : Array Bool} {a : Act} {w : World} (li lj : Array Bool) (hi : ops[i]? = some oi) (hj : ops[j]? = some oj) (hNi : oi.dst = Ni) (hNj : oj.dst = Nj)
    (hc : (Region.ready md ops l == [i, j] && l.setIfInBounds i true == li && l.setIfInBounds j true == lj) = true) (hdi : i ∉ ds) (hdj : j ∉ ds)
    (h1 : ∀ K : Act → World → Prop, Shut (∀ a' w', S w' → (S w' → wpAnyLast P md ops Q S ds fuel li a' w') → K a' w') → if Region.wanted oi (yielded ops a.tmps) = true then Oper.wp P oi a w K Q else K (a.put Ni undef) w)
    (h2 : ∀ K : Act → World → Prop, Shut (∀ a' w', S w' → (S w' → wpAnyLast P md ops Q S ds fuel lj a' w') → K a' w') → if Region.wanted oj (yielded ops a.tmps) = true then Oper.wp P oj a w K Q else K (a.put Nj undef) w) :
    wpAnyLast P md ops Q S ds (fuel + 1) l a w := by
  subst hNi
  subst hNj
  simp only [Bool.and_eq_true, beq_iff_eq] at hc
  obtain ⟨⟨h3, h4⟩, h5⟩ := hc
  subst h4
  subst h5
  exact wpAnyLast_ready h3 (by simp) (AllReadyL.cons hi hdi (fun K hK => h1 K hK) (AllReadyL.cons hj hdj (fun K hK => h2 K hK) AllReadyL.nil))
theorem enters_ {f : FuncId} {fn : Func} (hf : P.funcs[f]? = some fn) (hname : (fn.name == "runtime.NumGoroutine") = false) (hb : fn.body.isSome = true) (args : Array Value) (w : World) : (callFunc f args).run P w = .ok (.enter f args) w := by
  have h1 : fn.name ≠ "runtime.NumGoroutine" := by simpa using hname
  obtain ⟨c, hc⟩ := Option.isSome_iff_exists.1 hb
  simp [callFunc, hf, h1, hc]
/-- A call in a plain region, az an arm of go_wp2_with ('hd' first: it fails at once at another operation). -/
theorem goesL_ {rest : List Oper} {oi : Oper} {a : Act} {w : World} (N : Option Tmp) (hd : oi.dst = N) (hg : oi.guard = none) {f : FuncId} {fn : Func} {az : Array Operand} {ts : Array TypeId} (hf : P.funcs[f]? = some fn) (hname : (fn.name == "runtime.NumGoroutine") = false) (hb : fn.body.isSome = true) (args : Array Value)
    (hop : oi.op = .call { callee := .value (.func f), args := az, argTypes := ts }) (hargs : az.map a.eval = args)
    (h : Calls P f args w fun e w' => ∃ v, e = .returned v ∧ wpList P ops Q rest (a.put N v) w') : wpList P ops Q (oi :: rest) a w := by
  refine wpList_plain hg fun K hK => ?_
  have he := enters_ hf hname hb args w
  have hrun : (execOp a.eval oi).run P w = .ok (.enter f args) w := by
    unfold execOp
    simp [hop, resolve, Deferred.ofValue, invoke, Act.eval, hargs, he]
  unfold Oper.wp
  rw [hrun, Oper.upon_enter]
  refine h.mono fun e w'' hh => ?_
  obtain ⟨v, rfl, hk⟩ := hh
  subst hd
  exact hK _ _ hk
theorem i64_w (n : Int) : IntKind.i64.wrap n = Go.RowKit.wrap64 n := by unfold Go.RowKit.wrap64; exact IntKind.wrap_i64 n
end
end
end Go.Proofs.YtgbkjnikcnjbkaaGreatW.PrintLast
namespace Go.Proofs.YtgbkjnikcnjbkaaGreatW.PrintMore
open Go.RowKit Go.Proofs.YtgbkjnikcnjbkaaGreatW.PrintWords
/-- 'max' and 'min' of two whole numbers. -/
theorem max2_int (k k' : IntKind) (x y : Int) : Builtin.max2 (.int k x) (.int k' y) = pure (.int k (if x < y then y else x)) := by simp only [Builtin.max2, gt_iff_lt]
theorem min2_int (k k' : IntKind) (x y : Int) : Builtin.min2 (.int k x) (.int k' y) = pure (.int k (if y < x then y else x)) := by simp only [Builtin.min2]
theorem max_two (ats : Array TypeId) (ty : TypeId) (a b : Value) : Builtin.max_ ats ty #[a, b] = (Builtin.max2 a b >>= fun s => pure s) := by simp only [Builtin.max_, List.foldlM_cons, List.foldlM_nil]
theorem min_two (ats : Array TypeId) (ty : TypeId) (a b : Value) : Builtin.min_ ats ty #[a, b] = (Builtin.min2 a b >>= fun s => pure s) := by simp only [Builtin.min_, List.foldlM_cons, List.foldlM_nil]
theorem max_three (ats : Array TypeId) (ty : TypeId) (a b c : Value) : Builtin.max_ ats ty #[a, b, c] = (Builtin.max2 a b >>= fun s => Builtin.max2 s c >>= fun s => pure s) := by simp only [Builtin.max_, List.foldlM_cons, List.foldlM_nil]
theorem min_three (ats : Array TypeId) (ty : TypeId) (a b c : Value) : Builtin.min_ ats ty #[a, b, c] = (Builtin.min2 a b >>= fun s => Builtin.min2 s c >>= fun s => pure s) := by simp only [Builtin.min_, List.foldlM_cons, List.foldlM_nil]
theorem max_four (ats : Array TypeId) (ty : TypeId) (a b c d : Value) : Builtin.max_ ats ty #[a, b, c, d] = (Builtin.max2 a b >>= fun s => Builtin.max2 s c >>= fun s => Builtin.max2 s d >>= fun s => pure s) := by simp only [Builtin.max_, List.foldlM_cons, List.foldlM_nil]
theorem min_four (ats : Array TypeId) (ty : TypeId) (a b c d : Value) : Builtin.min_ ats ty #[a, b, c, d] = (Builtin.min2 a b >>= fun s => Builtin.min2 s c >>= fun s => Builtin.min2 s d >>= fun s => pure s) := by simp only [Builtin.min_, List.foldlM_cons, List.foldlM_nil]
end Go.Proofs.YtgbkjnikcnjbkaaGreatW.PrintMore
namespace Go.Proofs.YtgbkjnikcnjbkaaGreatW.PrintWords
open Go.RowKit
section
variable {P : Program} {ops : Array Oper} {rest : List Oper} {o : Oper} {a : Act} {Q : Exit → Act → World → Prop} {W : World}
/-- The operation is a call of this function (a cheap look ahead of a dear step). -/
theorem gate_callee {f : FuncId} {az : Array Operand} {ts : Array TypeId} (_ho : o.op = .call { callee := .value (.func f), args := az, argTypes := ts }) (h : wpList P ops Q (o :: rest) a W) : wpList P ops Q (o :: rest) a W := h
end
end Go.Proofs.YtgbkjnikcnjbkaaGreatW.PrintWords
namespace Go.Proofs.YtgbkjnikcnjbkaaGreatW.PrintWords
open Go.RowKit
end Go.Proofs.YtgbkjnikcnjbkaaGreatW.PrintWords
namespace Go.Proofs.YtgbkjnikcnjbkaaGreat.Top
open Go Go.Proofs.YtgbkjnikcnjbkaaGreatW.PrintMore Go.Proofs.YtgbkjnikcnjbkaaGreatW.PrintWords Go.RowKit
set_option linter.unusedSimpArgs false
set_option linter.unusedVariables false
set_option maxRecDepth 100000
abbrev I (x : Int) : Value := .int .i64 x
def Cf.cells (c : Cf) : Array Value := #[I c.th, I c.it, I c.be, I c.de, I c.la, I c.wi, I c.sp, I c.wa, .bool c.bo, I c.lo, I c.hi, I c.ini]
theorem bal (W : World) (o : Obj) : Below W.heap.size W (W.alloc o) := (Below.refl W.heap.size W).alloc (Nat.le_refl _) o
/-- A box of cells. -/
structure Bc (b : Nat) (cs : Array Value) (W : World) : Prop where
  lt : b < W.heap.size
  e : ∀ i (h : i < cs.size), W.cell? ⟨b, i, none⟩ = some cs[i]
  z : ∀ i, W.frozen? ⟨b, i, none⟩ = false
theorem Bc.step {b : Nat} {cs : Array Value} {W W2 : World} (h : Bc b cs W) (hb : Below W.heap.size W W2) : Bc b cs W2 :=
  ⟨Nat.lt_of_lt_of_le h.lt hb.size, fun i hi => (hb.cell (p := ⟨b, i, none⟩) h.lt).trans (h.e i hi), fun i => (hb.frozen (p := ⟨b, i, none⟩) h.lt).trans (h.z i)⟩
theorem Bc.new (W : World) (cs : Array Value) (t : TypeId) : Bc W.heap.size cs (W.alloc (.cells cs t)) := by
  refine ⟨by simp, fun i hi => ?_, fun i => ?_⟩
  · unfold World.cell?
    rw [heap_alloc_new]
    simp [hi]
  · unfold World.frozen?
    rw [heap_alloc_new]
    simp
/-- A box whose cells are all laid anew. -/
theorem Bc.all {b : Nat} {cs : Array Value} {W : World} (h : Bc b cs W) (ds : List Value) (hd : ds.length = cs.size) : Bc b ds.toArray (W.setCells b 0 ds) := by
  have hs : ∀ (l : List Value) (o : Nat) (W : World), (W.setCells b o l).heap.size = W.heap.size := by
    intro l
    induction l with
    | nil => exact fun _ _ => rfl
    | cons v r ih => exact fun o W => (ih (o + 1) _).trans (by simp)
  refine ⟨by rw [hs]; exact h.lt, fun i hi => ?_, fun i => (World.frozen?_setCells b ds 0 W ⟨b, i, none⟩).trans (h.z i)⟩
  have h1 := World.cell?_setCells_in b ds 0 W (fun j hj => by rw [Nat.zero_add, h.e j (by omega)]; rfl) i (by simpa using hi)
  rw [Nat.zero_add] at h1
  simpa using h1
theorem Bc.far {b : Nat} {cs : Array Value} {W : World} (h : Bc b cs W) {x : Nat} (hx : x ≠ b) (o : Nat) (ds : List Value) : Bc b cs (W.setCells x o ds) := by
  have hs : ∀ (l : List Value) (o : Nat) (W : World), (W.setCells x o l).heap.size = W.heap.size := by
    intro l
    induction l with
    | nil => exact fun _ _ => rfl
    | cons v r ih => exact fun o W => (ih (o + 1) _).trans (by simp)
  exact ⟨by rw [hs]; exact h.lt, fun i hi => (World.cell?_setCells_out x ds o W ⟨b, i, none⟩ (fun e _ => absurd e.symm hx)).trans (h.e i hi), fun i => (World.frozen?_setCells x ds o W ⟨b, i, none⟩).trans (h.z i)⟩
theorem below_cells {n : Nat} {w0 : World} {x : Nat} (hx : n ≤ x) (cs : List Value) : ∀ (o : Nat) (w : World), Below n w0 w → Below n w0 (w.setCells x o cs) := by
  induction cs with
  | nil => exact fun _ _ h => h
  | cons v r ih => exact fun o w h => ih (o + 1) _ (h.setCell (p := ⟨x, o, none⟩) hx v)
theorem nodes_is (c : Cf) (hd : 0 ≤ c.de ∧ c.de ≤ 4) (w : World) : Calls Tryz.prog 62 #[.agg c.cells] w fun e w' => e = .returned (I (p2 c.de - 1)) ∧ Below w.heap.size w w' := by
  have hb := (Below.refl w.heap.size w).alloc (Nat.le_refl _) (.cells c.cells 23)
  obtain ⟨th, it, be, de, la, wi, sp, wa, bo, lo, hi, ini⟩ := c
  unfold Cf.cells at *
  dsimp only at *
  obtain rfl | rfl | rfl | rfl | rfl : de = 0 ∨ de = 1 ∨ de = 2 ∨ de = 3 ∨ de = 4 := by omega
  all_goals
    go_enter Tryz.func62, Tryz.ntmps62
    go_wp2
    go_ret
    exact ⟨by first | rfl | (unfold p2; rfl) | simp [p2], hb⟩
theorem of_is (c : Cf) (h : CfOk c) (w : World) : Calls Tryz.prog 46 #[.agg c.cells] w fun e w' => e = .returned (.agg #[I 1, I (p2 c.de), I (blockS c), I (linesS c)]) ∧ Below w.heap.size w w' := by
  have hb := (Below.refl w.heap.size w).alloc (Nat.le_refl _) (.cells c.cells 23)
  have hn := fun w => nodes_is c h.de w
  have k1 := p2_le h.de
  have k2 := mul_le_of h.la.1 h.la.2 (show 0 ≤ c.wi by have := h.wi; omega) h.wi.2
  have k3 := block_le h
  have k4 := lines_le h
  obtain ⟨th, it, be, de, la, wi, sp, wa, bo, lo, hi, ini⟩ := c
  unfold Cf.cells blockS linesS blockS at *
  dsimp only at *
  obtain ⟨nd, hnd⟩ : ∃ x, p2 de = x := ⟨_, rfl⟩
  rw [hnd] at hn k1 k3 k4 ⊢
  obtain ⟨lw, hlw⟩ : ∃ x, la * wi = x := ⟨_, rfl⟩
  rw [hlw] at k2 k3 k4 ⊢
  obtain ⟨ib, hib⟩ : ∃ x, it * (nd + lw) = x := ⟨_, rfl⟩
  rw [hib] at k4 ⊢
  have e1 : IntKind.i64.wrap (1 + (nd - 1)) = nd := by rw [Go.IntKind.wrap_i64]; omega
  have e2 : IntKind.i64.wrap lw = lw := by rw [Go.IntKind.wrap_i64]; omega
  have e3 : IntKind.i64.wrap (nd + lw) = nd + lw := by rw [Go.IntKind.wrap_i64]; omega
  have e4 : IntKind.i64.wrap ib = ib := by rw [Go.IntKind.wrap_i64]; omega
  have HB := Aside0.mk hb
  have HN := Aside0.mk hn
  clear hnd hb hn k1 k2 k3 k4 h
  go_enter Tryz.func46, Tryz.ntmps46
  go_upto_region 1 with (fail)
  have b0 := Aside0.mk ((Bc.new w #[I th, I it, I be, I de, I la, I wi, I sp, I wa, .bool bo, I lo, I hi, I ini] 23).step (bal _ (.cells #[I 0, I 0, I 0, I 0] 103)))
  have b1 := Aside0.mk (Bc.new (w.alloc (.cells #[I th, I it, I be, I de, I la, I wi, I sp, I wa, .bool bo, I lo, I hi, I ini] 23)) #[I 0, I 0, I 0, I 0] 103)
  have tb := Aside0.mk (below_step HB.out (bal (w.alloc (.cells #[I th, I it, I be, I de, I la, I wi, I sp, I wa, .bool bo, I lo, I hi, I ini] 23)) (.cells #[I 0, I 0, I 0, I 0] 103)))
  simp only [World.size_alloc] at b1
  generalize (w.alloc (.cells #[I th, I it, I be, I de, I la, I wi, I sp, I wa, .bool bo, I lo, I hi, I ini] 23)).alloc (.cells #[I 0, I 0, I 0, I 0] 103) = W0 at b0 b1 tb ⊢
  generalize hz1 : w.heap.size + 1 = g1 at b1 ⊢
  generalize hz0 : w.heap.size = g0 at b0 ⊢
  have gg := Aside0.mk (And.intro hz0 hz1)
  clear hz0 hz1 HB
  have y0 := b0.out.e
  go_upto_region 2 with (first | (go_at_call 62; (with_reducible refine (HN.out _).mono ?_); rintro e w1 ⟨rfl, hb1⟩; have HB1 := Aside0.mk hb1; clear hb1))
  clear y0
  have bk := Aside0.mk (HB1.out.alloc HB1.out.size (.cells #[I 1, I nd, I 0, I 0] 103))
  have b2 := Aside0.mk (Bc.new w1 #[I 1, I nd, I 0, I 0] 103)
  have l2 := Aside0.mk (Nat.lt_of_lt_of_le b1.out.lt HB1.out.size)
  replace b0 := Aside0.mk (b0.out.step bk.out)
  replace b1 := Aside0.mk (b1.out.step bk.out)
  replace tb := Aside0.mk (below_step tb.out bk.out)
  generalize w1.alloc (.cells #[I 1, I nd, I 0, I 0] 103) = W2 at b0 b1 b2 tb ⊢
  generalize w1.heap.size = g2 at b2 l2 ⊢
  have y0 := b0.out.e
  have y1 := b1.out.e
  have z1 := b1.out.z
  have y2 := b2.out.e
  have z2 := b2.out.z
  have n02 : g0 ≠ g2 := by have := gg.out; have := l2.out; omega
  have n12 : g1 ≠ g2 := by have := l2.out; omega
  have n20 := Ne.symm n02
  have n21 := Ne.symm n12
  clear bk HB1
  go_wp2
  have hf := (b1.out.far n21 2 [I (nd + lw), I ib]).all [I 1, I nd, I (nd + lw), I ib] rfl
  have hbl := below_cells (show w.heap.size ≤ g1 by have := gg.out; omega) [I 1, I nd, I (nd + lw), I ib] 0 _ (below_cells (show w.heap.size ≤ g2 by have := gg.out; have := l2.out; omega) [I (nd + lw), I ib] 2 _ tb.out)
  have yf := hf.e
  refine bodyPost_ret (v := .agg #[I 1, I nd, I (nd + lw), I ib]) ?_ rfl ⟨rfl, hbl⟩
  simp only [World.setCells] at yf
  simp [results, Tryz.results46, go_sem, yf]
end Go.Proofs.YtgbkjnikcnjbkaaGreat.Top
namespace Go.Proofs.YtgbkjnikcnjbkaaGreat.Top
open Go Go.Proofs.YtgbkjnikcnjbkaaGreatW.PrintLast Go.Proofs.YtgbkjnikcnjbkaaGreatW.PrintMore Go.Proofs.YtgbkjnikcnjbkaaGreatW.PrintWords Go.RowKit
set_option linter.unusedSimpArgs false
set_option linter.unusedVariables false
theorem word_is (k n : Int) (hk : 0 ≤ k ∧ k ≤ 7) (hn : -1 ≤ n ∧ n ≤ 1000) (w : World) : Calls Tryz.prog 116 #[.agg #[I k, I n]] w fun e w' => e = .returned (I (8 * (n + 1) + k)) ∧ Below w.heap.size w w' := by
  have hb := Aside0.mk (bal w (.cells #[I k, I n] 188))
  have e1 : IntKind.i64.wrap (n + 1) = n + 1 := by rw [Go.IntKind.wrap_i64]; omega
  have e2 : IntKind.i64.wrap (8 * (n + 1)) = 8 * (n + 1) := by rw [Go.IntKind.wrap_i64]; omega
  have e3 : IntKind.i64.wrap (8 * (n + 1) + k) = 8 * (n + 1) + k := by rw [Go.IntKind.wrap_i64]; omega
  clear hk hn
  go_enter Tryz.func116, Tryz.ntmps116
  go_wp2
  go_ret
  exact ⟨rfl, hb.out⟩
theorem first_is (n : Int) (hn : -1 ≤ n ∧ n ≤ 1000) (w : World) : Calls Tryz.prog 92 #[I n] w fun e w' => e = .returned (I (8 * (n + 1) + 1)) ∧ Below w.heap.size w w' := by
  have HW := Aside0.mk (fun w => word_is 1 n (by omega) hn w)
  clear hn
  go_enter Tryz.func92, Tryz.ntmps92
  go_wp2_with (first | (go_at_call 116; (with_reducible refine (HW.out _).mono ?_); rintro e w1 ⟨rfl, hb1⟩; have HB1 := Aside0.mk hb1; clear hb1))
  go_ret
  exact ⟨rfl, HB1.out⟩
theorem joined_is (n : Int) (hn : -1 ≤ n ∧ n ≤ 1000) (w : World) : Calls Tryz.prog 97 #[I n] w fun e w' => e = .returned (I (8 * (n + 1) + 2)) ∧ Below w.heap.size w w' := by
  have HW := Aside0.mk (fun w => word_is 2 n (by omega) hn w)
  clear hn
  go_enter Tryz.func97, Tryz.ntmps97
  go_wp2_with (first | (go_at_call 116; (with_reducible refine (HW.out _).mono ?_); rintro e w1 ⟨rfl, hb1⟩; have HB1 := Aside0.mk hb1; clear hb1))
  go_ret
  exact ⟨rfl, HB1.out⟩
theorem deposited_is (n : Int) (hn : -1 ≤ n ∧ n ≤ 1000) (w : World) : Calls Tryz.prog 145 #[I n] w fun e w' => e = .returned (I (8 * (n + 1) + 3)) ∧ Below w.heap.size w w' := by
  have HW := Aside0.mk (fun w => word_is 3 n (by omega) hn w)
  clear hn
  go_enter Tryz.func145, Tryz.ntmps145
  go_wp2_with (first | (go_at_call 116; (with_reducible refine (HW.out _).mono ?_); rintro e w1 ⟨rfl, hb1⟩; have HB1 := Aside0.mk hb1; clear hb1))
  go_ret
  exact ⟨rfl, HB1.out⟩
theorem told_is (w : World) : Calls Tryz.prog 106 #[] w fun e w' => e = .returned (I 5) ∧ Below w.heap.size w w' := by
  have HW := Aside0.mk (fun w => word_is 5 (-1) (by omega) (by omega) w)
  go_enter Tryz.func106, Tryz.ntmps106
  go_wp2_with (first | (go_at_call 116; (with_reducible refine (HW.out _).mono ?_); rintro e w1 ⟨rfl, hb1⟩; have HB1 := Aside0.mk hb1; clear hb1))
  go_ret
  exact ⟨rfl, HB1.out⟩
theorem open_is (item layer : Int) (hi : 0 ≤ item ∧ item ≤ 3) (hl : 0 ≤ layer ∧ layer ≤ 15) (w : World) : Calls Tryz.prog 100 #[I item, I layer] w fun e w' => e = .returned (I (8 * (item * 16 + layer + 1) + 4)) ∧ Below w.heap.size w w' := by
  have HW := Aside0.mk (fun w => word_is 4 (item * 16 + layer) (by omega) (by omega) w)
  obtain rfl | rfl | rfl | rfl : item = 0 ∨ item = 1 ∨ item = 2 ∨ item = 3 := by omega
  all_goals
    have e1 : IntKind.i64.wrap layer = layer := by rw [Go.IntKind.wrap_i64]; omega
    have e2 : IntKind.i64.wrap (16 + layer) = 16 + layer := by rw [Go.IntKind.wrap_i64]; omega
    have e3 : IntKind.i64.wrap (32 + layer) = 32 + layer := by rw [Go.IntKind.wrap_i64]; omega
    have e4 : IntKind.i64.wrap (48 + layer) = 48 + layer := by rw [Go.IntKind.wrap_i64]; omega
    simp at HW
    clear hi hl
    go_enter Tryz.func100, Tryz.ntmps100
    go_wp2_with (first | (go_at_call 116; (with_reducible refine (HW.out _).mono ?_); rintro e w1 ⟨rfl, hb1⟩; have HB1 := Aside0.mk hb1; clear hb1))
    go_ret
    exact ⟨by simp, HB1.out⟩
theorem busy_is (ph it tg v : Int) (b k h : Value) (s n a l lf wd wo x y un : Int) (w : World) : Calls Tryz.prog 32 #[.agg #[I ph, I it, I tg, I v, b, k, h, I s, I n, I a, I l, I lf, I wd, I wo, I x, I y, I un]] w fun e w' => e = .returned (.bool (ph != 0)) ∧ Below w.heap.size w w' := by
  have hb := Aside0.mk (bal w (.cells #[I ph, I it, I tg, I v, b, k, h, I s, I n, I a, I l, I lf, I wd, I wo, I x, I y, I un] 84))
  go_enter Tryz.func32, Tryz.ntmps32
  go_wp2
  go_ret
  exact ⟨rfl, hb.out⟩
/-- A list of whole numbers that can be read, by blocks of S. -/
structure Rd (S : Nat → Prop) (V : Value) (xs : List Int) (w : World) : Prop where
  r : ∃ A c, V = .slice A xs.length c ∧ xs.length ≤ c ∧ (0 < xs.length → ∃ b o, A = some ⟨b, o, none⟩ ∧ S b ∧ b < w.heap.size ∧ ∀ i, i < xs.length → w.cell? ⟨b, o + i, none⟩ = some (I (xs.getD i 0)))
  s : ∀ k, S k → k < w.heap.size
def atS (xs : List Int) (i : Int) : Int × Int := if 0 ≤ i ∧ i < xs.length then (xs.getD i.toNat 0, 0) else (0, 30)
theorem at_is (S : Nat → Prop) (V : Value) (xs : List Int) (i : Int) (w : World) (h : Rd S V xs w) : Calls Tryz.prog 43 #[V, I i] w fun e w' => e = .returned (.tuple #[I (atS xs i).1, I (atS xs i).2]) ∧ Below w.heap.size w w' := by
  obtain ⟨A, c, rfl, hc, hr⟩ := h.r
  unfold atS
  have hb := Aside0.mk (Below.refl w.heap.size w)
  by_cases h1 : 0 ≤ i ∧ i < xs.length
  · rw [if_pos h1]
    obtain ⟨b, o, rfl, _, hlt, hcell⟩ := hr (by omega)
    have hx := hcell i.toNat (by omega)
    obtain ⟨x, hxx⟩ : ∃ x, xs.getD i.toNat 0 = x := ⟨_, rfl⟩
    rw [hxx] at hx ⊢
    obtain ⟨h2, h3⟩ := h1
    have h4 : ¬ i < 0 := by omega
    have h5 : ¬ i ≥ (xs.length : Int) := by omega
    clear hcell hr h hxx
    generalize xs.length = n at *
    go_enter Tryz.func43, Tryz.ntmps43
    go_wp2
    refine bodyPost_ret (v := .tuple #[I x, I 0]) (by simp [results, Tryz.results43, go_sem]) rfl ⟨rfl, hb.out⟩
  · rw [if_neg h1]
    clear hr h hc
    by_cases h2 : i < 0
    · clear h1
      go_enter Tryz.func43, Tryz.ntmps43
      go_wp2
      refine bodyPost_ret (v := .tuple #[I 0, I 30]) (by simp [results, Tryz.results43, go_sem]) rfl ⟨rfl, hb.out⟩
    · have h3 : i ≥ (xs.length : Int) := by omega
      clear h1
      go_enter Tryz.func43, Tryz.ntmps43
      go_wp2
      refine bodyPost_ret (v := .tuple #[I 0, I 30]) (by simp [results, Tryz.results43, go_sem]) rfl ⟨rfl, hb.out⟩
/-- A slice of n elements, of these cells together, that can be read by blocks of S. -/
structure RL (S : Nat → Prop) (V : Value) (n : Nat) (cs : List Value) (w : World) : Prop where
  r : ∃ A c, V = .slice A n c ∧ n ≤ c ∧ (0 < cs.length → ∃ b o, A = some ⟨b, o, none⟩ ∧ S b ∧ ∀ i v, cs[i]? = some v → w.cell? ⟨b, o + i, none⟩ = some v)
  s : ∀ k, S k → k < w.heap.size
theorem own_empty (e sz base : Nat) (w : World) (hb : base ≤ w.heap.size) : (w.alloc (.cells #[] e)).ownsRow base e sz (.slice (some ⟨w.heap.size, 0, none⟩) 0 0) 0 [] := by
  refine ⟨by simp, .inr ⟨w.heap.size, 0, #[], rfl, hb, heap_alloc_new w _, Nat.le_refl _, Nat.zero_le _, by simp, by simp⟩⟩
theorem wp_append_by {P : Program} {w w' : World} {ops : Array Oper} {rest : List Oper} {o : Oper} {a : Act} {Q : Exit → Act → World → Prop} (hgd : o.guard = none) (s x : Operand) (t : TypeId)
    (ho : o.op = .call { callee := .builtin .append, args := #[s, x], argTypes := #[t, t] }) (v u r : Value) (hs : a.eval s = v) (hx : a.eval x = u)
    (hrun : (Builtin.append_ #[t, t] o.type #[v, u]).run P w = .ok r w') (h : wpList P ops Q rest (a.put o.dst r) w') : wpList P ops Q (o :: rest) a w := by
  refine wpList_plain hgd fun K hK => ?_
  unfold Oper.wp
  simp only [execOp, ho, resolve, invoke, builtin, Sem.run_bind, Sem.run_pure, Result.andThen_ok, List.map_toArray, List.map_cons, List.map_nil, hs, hx, hrun]
  exact hK _ _ h
theorem append_clone (ts e sz bytes : Nat) (z : Value) (hz1 : z.cells.size = sz) (h0 : 0 < sz) (ht : Tryz.prog.underlying ts = some (.slice e)) (hinfo : (Tryz.prog.info? e).map (fun i => (i.zero, i.size, i.bytes)) = some (some z, sz, bytes)) (w : World) (a : Addr) (n c : Nat) (cs : List Value) (hl : cs.length = n * sz)
    (hR : ∀ j u, cs[j]? = some u → (w.alloc (.cells #[] e)).cell? (a.add j) = some u) (hone : ∀ u, u ∈ cs → u.oneCell' = true) (hmax : n ≤ maxLen) (hb : n * bytes ≤ 140737488355328) :
    ∃ v' w', (Builtin.append_ #[ts, ts] ts #[.slice (some ⟨w.heap.size, 0, none⟩) 0 0, .slice (some a) n c]).run Tryz.prog (w.alloc (.cells #[] e)) = .ok v' w' ∧ w'.ownsRow w.heap.size e sz v' n cs ∧ Below w.heap.size w w' := by
  obtain ⟨i, hi, hzz⟩ := Option.map_eq_some_iff.1 hinfo
  simp only [Prod.mk.injEq] at hzz
  obtain ⟨hz0, hs1, hs2⟩ := hzz
  have b1 : Below w.heap.size w (w.alloc (.cells #[] e)) := bal w _
  obtain ⟨v', w', h1, h2, h3, _⟩ := run_append_own (P := Tryz.prog) (w.alloc (.cells #[] e)) w.heap.size ts ts e i z sz bytes ht hi hz0 hs1 hs2 hz1 h0 _ 0 [] (own_empty e sz w.heap.size w (Nat.le_refl _)) a n c cs hl hR hone
    (by omega) (by rw [Nat.zero_add]; exact hb) (by simp)
  rw [List.nil_append, Nat.zero_add] at h2
  exact ⟨v', w', h1, h2, pw_below_grown b1 _ (by simp) h3 (fun k hk => by simp [Value.ownBlock] at hk; omega)⟩
/-- What Clone leaves. -/
def Cloned (ty sz n : Nat) (cs : List Value) (w : World) (e : Ending) (w' : World) : Prop := ∃ v', e = .returned v' ∧ w'.ownsRow w.heap.size ty sz v' n cs ∧ Below w.heap.size w w'
theorem info3 : (Tryz.prog.info? 3).map (fun i => (i.zero, i.size, i.bytes)) = some (some (.int .i64 0), 1, 8) := by kernel_rfl
theorem clone_ints (S : Nat → Prop) (V : Value) (n : Nat) (cs : List Value) (w : World) (hR : RL S V n cs w) (hl : cs.length = n * 1) (hone : ∀ u, u ∈ cs → u.oneCell' = true) (hb : n ≤ 1000000000) :
    Calls Tryz.prog 37 #[V] w (Cloned 3 1 n cs w) := by
  obtain ⟨A, c, rfl, hc, hr⟩ := hR.r
  cases A with
  | none =>
    obtain rfl : cs = [] := by
      rcases Nat.eq_zero_or_pos cs.length with h0 | h0
      · exact List.eq_nil_of_length_eq_zero h0
      · obtain ⟨b, o, e, _⟩ := hr h0; cases e
    obtain rfl : n = 0 := by simp at hl; omega
    have hq := Lib.run_eql_slice_nil (P := Tryz.prog) w 24 3 none 0 c 0 0 Tryz.underlying24
    clear hr hl hone hR hc
    go_enter Tryz.func37, Tryz.ntmps37
    go_wp2
    go_ret
    exact ⟨_, rfl, ⟨rfl, .inl ⟨rfl, rfl⟩⟩, Below.refl _ _⟩
  | some a =>
    obtain ⟨v', w', hrun, h1, h3⟩ := append_clone 24 3 1 8 (.int .i64 0) rfl (by decide) Tryz.underlying24 info3 w a n c cs hl
      (fun j u hj => by
        have hj1 : j < cs.length := (List.getElem?_eq_some_iff.mp hj).1
        obtain ⟨b, o, e, hS, hcell⟩ := hr (by omega)
        cases e
        rw [Go.WideShapes.add_plain]
        exact ((bal w (.cells #[] 3)).cell (p := ⟨b, o + j, none⟩) (hR.s b hS)).trans (hcell j u hj))
      hone (by unfold maxLen; omega) (by omega)
    have hrun := Aside0.mk hrun
    have h1 := Aside0.mk h1
    have hq := Lib.run_eql_slice_nil (P := Tryz.prog) w 24 3 (some a) n c 0 0 Tryz.underlying24
    clear hr hl hone hR hc
    go_enter Tryz.func37, Tryz.ntmps37
    go_wp2_with (first | (at_builtin; refine wp_append_by rfl _ _ 24 rfl _ _ _ rfl rfl hrun.out ?_))
    go_ret
    exact ⟨v', rfl, h1.out, h3⟩
theorem info141 : (Tryz.prog.info? 141).map (fun i => (i.zero, i.size, i.bytes)) = some (some (.agg #[.int .i64 0, .int .i64 0, .int .i64 0]), 3, 24) := by kernel_rfl
theorem clone_ents (S : Nat → Prop) (V : Value) (n : Nat) (cs : List Value) (w : World) (hR : RL S V n cs w) (hl : cs.length = n * 3) (hone : ∀ u, u ∈ cs → u.oneCell' = true) (hb : n ≤ 1000000000) :
    Calls Tryz.prog 133 #[V] w (Cloned 141 3 n cs w) := by
  obtain ⟨A, c, rfl, hc, hr⟩ := hR.r
  cases A with
  | none =>
    obtain rfl : cs = [] := by
      rcases Nat.eq_zero_or_pos cs.length with h0 | h0
      · exact List.eq_nil_of_length_eq_zero h0
      · obtain ⟨b, o, e, _⟩ := hr h0; cases e
    obtain rfl : n = 0 := by simp at hl; omega
    have hq := Lib.run_eql_slice_nil (P := Tryz.prog) w 81 141 none 0 c 0 0 Tryz.underlying81
    clear hr hl hone hR hc
    go_enter Tryz.func133, Tryz.ntmps133
    go_wp2
    go_ret
    exact ⟨_, rfl, ⟨rfl, .inl ⟨rfl, rfl⟩⟩, Below.refl _ _⟩
  | some a =>
    obtain ⟨v', w', hrun, h1, h3⟩ := append_clone 81 141 3 24 (.agg #[.int .i64 0, .int .i64 0, .int .i64 0]) rfl (by decide) Tryz.underlying81 info141 w a n c cs hl
      (fun j u hj => by
        have hj1 : j < cs.length := (List.getElem?_eq_some_iff.mp hj).1
        obtain ⟨b, o, e, hS, hcell⟩ := hr (by omega)
        cases e
        rw [Go.WideShapes.add_plain]
        exact ((bal w (.cells #[] 141)).cell (p := ⟨b, o + j, none⟩) (hR.s b hS)).trans (hcell j u hj))
      hone (by unfold maxLen; omega) (by omega)
    have hrun := Aside0.mk hrun
    have h1 := Aside0.mk h1
    have hq := Lib.run_eql_slice_nil (P := Tryz.prog) w 81 141 (some a) n c 0 0 Tryz.underlying81
    clear hr hl hone hR hc
    go_enter Tryz.func133, Tryz.ntmps133
    go_wp2_with (first | (at_builtin; refine wp_append_by rfl _ _ 81 rfl _ _ _ rfl rfl hrun.out ?_))
    go_ret
    exact ⟨v', rfl, h1.out, h3⟩
theorem info81 : (Tryz.prog.info? 81).map (fun i => (i.zero, i.size, i.bytes)) = some (some (.slice none 0 0), 1, 24) := by kernel_rfl
theorem clone_boxes (S : Nat → Prop) (V : Value) (n : Nat) (cs : List Value) (w : World) (hR : RL S V n cs w) (hl : cs.length = n * 1) (hone : ∀ u, u ∈ cs → u.oneCell' = true) (hb : n ≤ 1000000000) :
    Calls Tryz.prog 154 #[V] w (Cloned 81 1 n cs w) := by
  obtain ⟨A, c, rfl, hc, hr⟩ := hR.r
  cases A with
  | none =>
    obtain rfl : cs = [] := by
      rcases Nat.eq_zero_or_pos cs.length with h0 | h0
      · exact List.eq_nil_of_length_eq_zero h0
      · obtain ⟨b, o, e, _⟩ := hr h0; cases e
    obtain rfl : n = 0 := by simp at hl; omega
    have hq := Lib.run_eql_slice_nil (P := Tryz.prog) w 30 81 none 0 c 0 0 Tryz.underlying30
    clear hr hl hone hR hc
    go_enter Tryz.func154, Tryz.ntmps154
    go_wp2
    go_ret
    exact ⟨_, rfl, ⟨rfl, .inl ⟨rfl, rfl⟩⟩, Below.refl _ _⟩
  | some a =>
    obtain ⟨v', w', hrun, h1, h3⟩ := append_clone 30 81 1 24 (.slice none 0 0) rfl (by decide) Tryz.underlying30 info81 w a n c cs hl
      (fun j u hj => by
        have hj1 : j < cs.length := (List.getElem?_eq_some_iff.mp hj).1
        obtain ⟨b, o, e, hS, hcell⟩ := hr (by omega)
        cases e
        rw [Go.WideShapes.add_plain]
        exact ((bal w (.cells #[] 81)).cell (p := ⟨b, o + j, none⟩) (hR.s b hS)).trans (hcell j u hj))
      hone (by unfold maxLen; omega) (by omega)
    have hrun := Aside0.mk hrun
    have h1 := Aside0.mk h1
    have hq := Lib.run_eql_slice_nil (P := Tryz.prog) w 30 81 (some a) n c 0 0 Tryz.underlying30
    clear hr hl hone hR hc
    go_enter Tryz.func154, Tryz.ntmps154
    go_wp2_with (first | (at_builtin; refine wp_append_by rfl _ _ 30 rfl _ _ _ rfl rfl hrun.out ?_))
    go_ret
    exact ⟨v', rfl, h1.out, h3⟩
section
/-- A block of a call's own: its number, what it is. -/
abbrev Bxs := List (Nat × Obj)
def Bk (x : Nat × Obj) (W : World) : Prop := W.heap[x.1]? = some x.2
abbrev Ce (t : TypeId) (cs : Array Value) : Obj := .cells cs t (0, 0)
theorem Bk.lt {x : Nat × Obj} {W : World} (h : Bk x W) : x.1 < W.heap.size := (Array.getElem?_eq_some_iff.1 h).1
theorem Bk.step {x : Nat × Obj} {W W2 : World} (h : Bk x W) (hb : W2.heap[x.1]? = W.heap[x.1]?) : Bk x W2 := hb.trans h
theorem Bk.put {b : Nat} {t : TypeId} {cs : Array Value} {W : World} (h : Bk (b, Ce t cs) W) (i : Nat) (v : Value) : Bk (b, Ce t (cs.setIfInBounds i v)) (W.setCell ⟨b, i, none⟩ v) := heap_setCell_same W b i cs t v h
/-- Boxes, all unlike. -/
def Bs : Bxs → World → Prop
  | [], _ => True
  | x :: r, W => Bk x W ∧ (∀ y, y ∈ r → y.1 ≠ x.1) ∧ Bs r W
theorem Bs.get : ∀ {l : Bxs} {W : World}, Bs l W → ∀ (k : Nat) {x : Nat × Obj}, l[k]? = some x → Bk x W
  | [], _, _, _, _, h => by simp at h
  | x :: r, W, hb, 0, y, h => by simp at h; subst h; exact hb.1
  | x :: r, W, hb, k + 1, y, h => Bs.get hb.2.2 k (by simpa using h)
theorem Bs.mem {l : Bxs} {W : World} (h : Bs l W) (x : Nat × Obj) (hx : x ∈ l) : x.1 < W.heap.size := by
  obtain ⟨k, hk⟩ := List.getElem?_of_mem hx
  exact (h.get k hk).lt
theorem Bs.keep : ∀ {l : Bxs} {W W2 : World}, Bs l W → (∀ x, x ∈ l → W2.heap[x.1]? = W.heap[x.1]?) → Bs l W2
  | [], _, _, _, _ => trivial
  | x :: r, W, W2, h, hb => ⟨h.1.step (hb x (List.mem_cons_self ..)), h.2.1, Bs.keep h.2.2 fun y hy => hb y (List.mem_cons_of_mem _ hy)⟩
theorem Bs.step {l : Bxs} {W W2 : World} (h : Bs l W) (hb : Below W.heap.size W W2) : Bs l W2 := h.keep fun x hx => hb.block x.1 (h.mem x hx)
theorem Bs.new {l : Bxs} {W : World} (h : Bs l W) (o : Obj) : Bs ((W.heap.size, o) :: l) (W.alloc o) :=
  ⟨heap_alloc_new W _, fun y hy => Nat.ne_of_lt (h.mem y hy), h.step (bal W _)⟩
/-- One block is another now; the rest are as they were. -/
theorem Bs.swap : ∀ {l : Bxs} {W W2 : World}, Bs l W → ∀ (k : Nat) {x : Nat × Obj}, l[k]? = some x → ∀ (y : Nat × Obj), Bk y W2 → (y.1 = x.1 ∨ W.heap.size ≤ y.1) → (∀ j, j < W.heap.size → j ≠ x.1 → W2.heap[j]? = W.heap[j]?) → Bs (l.set k y) W2
  | [], _, _, _, k, _, h, _, _, _, _ => by simp at h
  | z :: r, W, W2, hb, 0, x, h, y, hy, hn, hk => by
    simp at h; subst h
    refine ⟨hy, fun u hu => ?_, hb.2.2.keep fun u hu => hk _ (hb.2.2.mem u hu) (hb.2.1 u hu)⟩
    rcases hn with e | e
    · rw [e]; exact hb.2.1 u hu
    · exact Nat.ne_of_lt (Nat.lt_of_lt_of_le (hb.2.2.mem u hu) e)
  | z :: r, W, W2, hb, k + 1, x, h, y, hy, hn, hk => by
    have h' : r[k]? = some x := by simpa using h
    have hm : x ∈ r := List.mem_of_getElem? h'
    have hne := hb.2.1 x hm
    refine ⟨hb.1.step (hk _ hb.1.lt (Ne.symm hne)), fun u hu => ?_, Bs.swap hb.2.2 k h' y hy hn hk⟩
    rcases List.mem_or_eq_of_mem_set hu with h1 | rfl
    · exact hb.2.1 u h1
    · rcases hn with e | e
      · rw [e]; exact hne
      · exact Ne.symm (Nat.ne_of_lt (Nat.lt_of_lt_of_le hb.1.lt e))
/-- What may become of a world: the boxes of O may be written, others are as they were. -/
structure Ext (O : List Nat) (W : World) (O' : List Nat) (W' : World) : Prop where
  size : W.heap.size ≤ W'.heap.size
  own : ∀ k, k ∈ O' → k ∈ O ∨ W.heap.size ≤ k
  block : ∀ k, k ∉ O → k < W.heap.size → W'.heap[k]? = W.heap[k]?
theorem Ext.refl (O : List Nat) (W : World) : Ext O W O W := ⟨Nat.le_refl _, fun _ h => .inl h, fun _ _ _ => rfl⟩
theorem Ext.trans {O O' O'' : List Nat} {W W' W'' : World} (h : Ext O W O' W') (g : Ext O' W' O'' W'') : Ext O W O'' W'' := by
  refine ⟨Nat.le_trans h.size g.size, fun k hk => ?_, fun k hk hl => ?_⟩
  · rcases g.own k hk with h1 | h1
    · exact h.own k h1
    · exact .inr (Nat.le_trans h.size h1)
  · rw [g.block k (fun h1 => ?_) (Nat.lt_of_lt_of_le hl h.size), h.block k hk hl]
    rcases h.own k h1 with h2 | h2
    · exact hk h2
    · exact absurd hl (Nat.not_lt.2 h2)
theorem Ext.below {O : List Nat} {W W' : World} (h : Below W.heap.size W W') : Ext O W O W' := ⟨h.size, fun _ h => .inl h, fun k _ hl => h.block k hl⟩
theorem Ext.alloc (O : List Nat) (W : World) (o : Obj) : Ext O W (W.heap.size :: O) (W.alloc o) :=
  ⟨by simp, fun k hk => (List.mem_cons.1 hk).elim (fun e => .inr (Nat.le_of_eq e.symm)) .inl, fun k _ hl => (bal W o).block k hl⟩
/-- Known in this world, and in all that come of it. -/
def Kn (P : List Nat → World → Prop) (O : List Nat) (W : World) : Prop := ∀ O' W', Ext O W O' W' → P O' W'
theorem Kn.here {P : List Nat → World → Prop} {O : List Nat} {W : World} (h : Kn P O W) : P O W := h O W (Ext.refl O W)
theorem Kn.step {P : List Nat → World → Prop} {O O' : List Nat} {W W' : World} (h : Kn P O W) (g : Ext O W O' W') : Kn P O' W' := fun O'' W'' k => h O'' W'' (g.trans k)
theorem Kn.and {P Q : List Nat → World → Prop} {O : List Nat} {W : World} (h : Kn Q O W) (g : Kn P O W) : Kn (fun O W => Q O W ∧ P O W) O W := fun O' W' k => ⟨h O' W' k, g O' W' k⟩
theorem Kn.top (O : List Nat) (W : World) : Kn (fun _ _ => True) O W := fun _ _ _ => trivial
/-- What a call may not lean on: its caller's boxes, and its own. -/
def Av (L : Nat → Prop) (O : List Nat) : Nat → Prop := fun k => L k ∨ k ∈ O
def Cx (L : Nat → Prop) (W : World) : Prop := ∀ k, L k → k < W.heap.size
structure Kb (w0 : World) (L : Nat → Prop) (l : Bxs) (P : List Nat → World → Prop) (W : World) : Prop where
  bs : Bs l W
  own : ∀ x, x ∈ l → w0.heap.size ≤ x.1
  below : Below w0.heap.size w0 W
  kn : Kn P (l.map Prod.fst) W
  cx0 : Cx L w0
section
variable {w0 W W' : World} {L : Nat → Prop} {l : Bxs} {P Q : List Nat → World → Prop}
theorem Kb.start (cx : Cx L w0) (h : Kn P [] w0) : Kb w0 L [] P w0 := ⟨trivial, fun _ h => (by cases h), Below.refl _ _, h, cx⟩
theorem Kb.cx (h : Kb w0 L l P W) : Cx (Av L (l.map Prod.fst)) W := fun k hk => hk.elim (fun h1 => Nat.lt_of_lt_of_le (h.cx0 k h1) h.below.size) fun h1 => by
  obtain ⟨x, hx, rfl⟩ := List.mem_map.1 h1
  exact h.bs.mem x hx
theorem Kb.call (h : Kb w0 L l P W) (hb : Below W.heap.size W W') : Kb w0 L l P W' := ⟨h.bs.step hb, h.own, below_step h.below hb, h.kn.step (Ext.below hb), h.cx0⟩
theorem Kb.drew (h : Kb w0 L l P W) : Kb w0 L l P W.drew := h.call (below_drew1 (Below.refl _ W))
theorem Kb.alloc (h : Kb w0 L l P W) (o : Obj) : Kb w0 L ((W.heap.size, o) :: l) P (W.alloc o) :=
  ⟨h.bs.new o, fun x hx => (List.mem_cons.1 hx).elim (fun e => e ▸ h.below.size) (h.own x), below_step h.below (bal W _), h.kn.step (Ext.alloc _ W _), h.cx0⟩
/-- A new block that a call has made becomes one's own. -/
theorem Kb.adopt (h : Kb w0 L l P W) (hb : Below W.heap.size W W') (x : Nat × Obj) (hx : W.heap.size ≤ x.1) (bk : Bk x W') : Kb w0 L (x :: l) P W' := by
  refine ⟨⟨bk, fun y hy => Nat.ne_of_lt (Nat.lt_of_lt_of_le (h.bs.mem y hy) hx), h.bs.step hb⟩, fun y hy => (List.mem_cons.1 hy).elim (fun e => e ▸ Nat.le_trans h.below.size hx) (h.own y), below_step h.below hb, h.kn.step ⟨hb.size, fun k hk => ?_, fun k _ hl => hb.block k hl⟩, h.cx0⟩
  rcases List.mem_cons.1 hk with rfl | h1
  · exact .inr hx
  · exact .inl h1
/-- One block is another now. -/
theorem Kb.swap (h : Kb w0 L l P W) (k : Nat) {x : Nat × Obj} (hk : l[k]? = some x) (y : Nat × Obj) (hy : Bk y W') (hn : y.1 = x.1 ∨ W.heap.size ≤ y.1) (hkeep : ∀ j, j < W.heap.size → j ≠ x.1 → W'.heap[j]? = W.heap[j]?) (hs : W.heap.size ≤ W'.heap.size) (ho : W'.os = W.os ∧ W'.tape = W.tape ∧ W'.output = W.output) : Kb w0 L (l.set k y) P W' := by
  have hm : x ∈ l := List.mem_of_getElem? hk
  have hx := h.own x hm
  refine ⟨h.bs.swap k hk y hy hn hkeep, fun z hz => ?_, ⟨ho.1.trans h.below.os, ho.2.1.trans h.below.tape, ho.2.2.trans h.below.output, Nat.le_trans h.below.size hs, fun j hj => ?_⟩, h.kn.step ⟨hs, fun j hj => ?_, fun j hj hl => ?_⟩, h.cx0⟩
  · rcases List.mem_or_eq_of_mem_set hz with h1 | rfl
    · exact h.own z h1
    · rcases hn with e | e
      · rw [e]; exact hx
      · exact Nat.le_trans h.below.size e
  · rw [hkeep j (Nat.lt_of_lt_of_le hj h.below.size) (fun e => by subst e; exact absurd hj (Nat.not_lt.2 hx)), h.below.block j hj]
  · obtain ⟨z, hz, rfl⟩ := List.mem_map.1 hj
    rcases List.mem_or_eq_of_mem_set hz with h1 | rfl
    · exact .inl (List.mem_map.2 ⟨z, h1, rfl⟩)
    · rcases hn with e | e
      · exact .inl (e ▸ List.mem_map.2 ⟨x, hm, rfl⟩)
      · exact .inr e
  · exact hkeep j hl (fun e => hj (e ▸ List.mem_map.2 ⟨x, hm, rfl⟩))
theorem Kb.put (h : Kb w0 L l P W) (k : Nat) {b : Nat} {t : TypeId} {cs : Array Value} (hk : l[k]? = some (b, Ce t cs)) (i : Nat) (v : Value) : Kb w0 L (l.set k (b, Ce t (cs.setIfInBounds i v))) P (W.setCell ⟨b, i, none⟩ v) :=
  h.swap k hk _ ((h.bs.get k hk).put i v) (.inl rfl) (fun j _ hj => Below.heap_setCell W ⟨b, i, none⟩ v j hj) (by simp) ⟨rfl, rfl, rfl⟩
/-- One's own block is turned into something else. -/
theorem Kb.turn (h : Kb w0 L l P W) (k : Nat) {b : Nat} {o : Obj} (hk : l[k]? = some (b, o)) (o' : Obj) : Kb w0 L (l.set k (b, o')) P (W.putObj b o') := by
  have hlt := (h.bs.get k hk).lt
  refine h.swap k hk (b, o') ?_ (.inl rfl) (fun j hj hne => ?_) ?_ ⟨rfl, rfl, rfl⟩
  · show (W.putObj b o').heap[b]? = some o'
    simp only [World.putObj]
    rw [Array.getElem?_setIfInBounds_self_of_lt hlt]
  · show (W.putObj b o').heap[j]? = W.heap[j]?
    simp only [World.putObj]
    exact Array.getElem?_setIfInBounds_ne (Ne.symm hne)
  · simp [World.putObj]
/-- A block is one's own no more; what lies there can be read. -/
theorem Kb.leave (h : Kb w0 L l P W) (k : Nat) : Kb w0 L (l.eraseIdx k) P W := by
  have hsub : ∀ x, x ∈ l.eraseIdx k → x ∈ l := fun x hx => (List.eraseIdx_sublist l k).mem hx
  refine ⟨?_, fun x hx => h.own x (hsub x hx), h.below, fun O W' g => h.kn O W' ⟨g.size, fun j hj => (g.own j hj).imp (fun h1 => ?_) id, fun j hj hl => g.block j (fun h1 => hj ?_) hl⟩, h.cx0⟩
  · have key : ∀ (l : Bxs) (k : Nat), Bs l W → Bs (l.eraseIdx k) W := by
      intro l
      induction l with
      | nil => intro k _; simp; trivial
      | cons x r ih =>
        intro k hb
        cases k with
        | zero => simpa using hb.2.2
        | succ k => exact ⟨hb.1, fun y hy => hb.2.1 y ((List.eraseIdx_sublist r k).mem hy), ih k hb.2.2⟩
    exact key l k h.bs
  · obtain ⟨x, hx, rfl⟩ := List.mem_map.1 h1
    exact List.mem_map.2 ⟨x, hsub x hx, rfl⟩
  · obtain ⟨x, hx, rfl⟩ := List.mem_map.1 h1
    exact List.mem_map.2 ⟨x, hsub x hx, rfl⟩
def putL (cs : Array Value) : Nat → List Value → Array Value
  | _, [] => cs
  | o, v :: r => putL (cs.setIfInBounds o v) (o + 1) r
theorem list_set_set {α : Type} (l : List α) (k : Nat) (a b : α) : (l.set k a).set k b = l.set k b := by
  exact List.ext_getElem? fun j => by
    simp only [List.getElem?_set, List.length_set]
    split <;> rfl
theorem list_set_same {α : Type} (l : List α) (k : Nat) {a : α} (h : l[k]? = some a) : l.set k a = l := by
  exact List.ext_getElem? fun j => by
    rw [List.getElem?_set]
    split
    · rename_i e; subst e; rw [if_pos (List.getElem?_eq_some_iff.1 h).1, h]
    · rfl
theorem Kb.puts (k : Nat) {b : Nat} {t : TypeId} (vs : List Value) : ∀ {l : Bxs} {W : World} (cs : Array Value) (o : Nat), Kb w0 L l P W → l[k]? = some (b, Ce t cs) → Kb w0 L (l.set k (b, Ce t (putL cs o vs))) P (W.setCells b o vs) := by
  induction vs with
  | nil => intro l W cs o h hk; rw [putL, list_set_same l k hk]; exact h
  | cons v r ih =>
    intro l W cs o h hk
    have h1 := h.put k hk o v
    have h2 := ih (cs.setIfInBounds o v) (o + 1) h1 (by rw [List.getElem?_set]; simp [(List.getElem?_eq_some_iff.1 hk).1])
    rw [list_set_set] at h2
    exact h2
/-- A box that is written whole. -/
theorem Kb.fill (h : Kb w0 L l P W) (k : Nat) {b : Nat} {t : TypeId} {cs : Array Value} (hk : l[k]? = some (b, Ce t cs)) (cs' : Array Value) (hs : Nat.beq cs'.size cs.size = true) : Kb w0 L (l.set k (b, Ce t cs')) P (W.setCells b 0 cs'.toList) := by
  have hs' : cs'.size = cs.size := Nat.eq_of_beq_eq_true hs
  have h1 := Kb.puts k cs'.toList cs 0 h hk
  have e : ∀ (vs : List Value) (cs : Array Value) (o : Nat), o + vs.length = cs.size → ∀ j, (putL cs o vs)[j]? = if j < o then cs[j]? else vs[j - o]? := by
    intro vs
    induction vs with
    | nil => intro cs o ho j; rw [putL]; split <;> rename_i h1 <;> simp at ho ⊢; omega
    | cons v r ih =>
      intro cs o ho j
      rw [List.length_cons] at ho
      rw [putL, ih _ _ (by simp; omega)]
      by_cases h1 : j < o
      · rw [if_pos h1, if_pos (by omega), Array.getElem?_setIfInBounds_ne (by omega)]
      · rw [if_neg h1]
        by_cases h2 : j = o
        · subst h2
          rw [if_pos (by omega), Array.getElem?_setIfInBounds_self_of_lt (by omega), Nat.sub_self]
          rfl
        · rw [if_neg (by omega), show j - o = (j - (o + 1)) + 1 from by omega]
          rfl
  have e2 : putL cs 0 cs'.toList = cs' := by
    refine Array.ext_getElem? fun j => ?_
    rw [e _ _ _ (by simp [hs'])]
    simp
  rw [e2] at h1
  exact h1
theorem Kb.and (h : Kb w0 L l P W) (g : Kn Q (l.map Prod.fst) W) : Kb w0 L l (fun O W => Q O W ∧ P O W) W := ⟨h.bs, h.own, h.below, Kn.and g h.kn, h.cx0⟩
theorem Kb.rd (h : Kb w0 L l P W) (k : Nat) {b : Nat} {t : TypeId} {cs : Array Value} (hk : l[k]? = some (b, Ce t cs)) : ∀ i (h : i < cs.size), W.cell? ⟨b, i, none⟩ = some cs[i] := fun i hi => by
  rw [cell_of_row W b i cs t (0, 0) (h.bs.get k hk)]
  exact Array.getElem?_eq_getElem hi
theorem Kb.fz (h : Kb w0 L l P W) (k : Nat) {b : Nat} {t : TypeId} {cs : Array Value} (hk : l[k]? = some (b, Ce t cs)) : ∀ i, W.frozen? ⟨b, i, none⟩ = false := fun i => frozen_of_row W b i cs t (h.bs.get k hk)
end
end
section
/-- Where a slice begins, and its capacity. -/
structure Hd where
  A : Option Addr
  c : Nat
def hd0 : Hd := ⟨none, 0⟩
/-- A slice of n elements, of these cells together, that can be read, by no block of L. -/
structure RS (L : Nat → Prop) (h : Hd) (n : Nat) (cs : List Value) (w : World) : Prop where
  c : n ≤ h.c
  r : 0 < cs.length → ∃ b o, h.A = some ⟨b, o, none⟩ ∧ b < w.heap.size ∧ ¬ L b ∧ ∀ i v, cs[i]? = some v → w.cell? ⟨b, o + i, none⟩ = some v
theorem RS.nil (L : Nat → Prop) (w : World) : RS L hd0 0 [] w := ⟨Nat.le_refl _, fun h => by simp at h⟩
theorem RS.step {L L' : Nat → Prop} {h : Hd} {n : Nat} {cs : List Value} {W W' : World} (hr : RS L h n cs W) (hs : W.heap.size ≤ W'.heap.size) (hb : ∀ k, ¬ L k → k < W.heap.size → W'.heap[k]? = W.heap[k]?) (hL : ∀ k, k < W.heap.size → L' k → L k) : RS L' h n cs W' := by
  refine ⟨hr.c, fun h0 => ?_⟩
  obtain ⟨b, o, e, hlt, hn, hc⟩ := hr.r h0
  exact ⟨b, o, e, Nat.lt_of_lt_of_le hlt hs, fun h => hn (hL b hlt h), fun i v hi => (World.cell?_of_block (w := W) (a := ⟨b, o + i, none⟩) (hb b hn hlt)).trans (hc i v hi)⟩
theorem ext_av {L : Nat → Prop} {O O' : List Nat} {W W' : World} (g : Ext O W O' W') : (∀ k, ¬ Av L O k → k < W.heap.size → W'.heap[k]? = W.heap[k]?) ∧ ∀ k, k < W.heap.size → Av L O' k → Av L O k :=
  ⟨fun k hk hl => g.block k (fun h => hk (.inr h)) hl, fun k hl hk => hk.elim .inl fun h => (g.own k h).elim .inr fun h1 => absurd hl (Nat.not_lt.2 h1)⟩
theorem RS.kn {L : Nat → Prop} {O : List Nat} {h : Hd} {n : Nat} {cs : List Value} {W : World} (hr : RS (Av L O) h n cs W) : Kn (fun O W => RS (Av L O) h n cs W) O W :=
  fun O' W' g => hr.step g.size (ext_av g).1 (ext_av g).2
theorem RS.weak {L : Nat → Prop} {O : List Nat} {h : Hd} {n : Nat} {cs : List Value} {W : World} (hr : RS (Av L O) h n cs W) : RS L h n cs W :=
  hr.step (Nat.le_refl _) (fun _ _ _ => rfl) (fun _ _ h => .inl h)
theorem RS.av0 {L : Nat → Prop} {h : Hd} {n : Nat} {cs : List Value} {W : World} (hr : RS L h n cs W) : RS (Av L []) h n cs W :=
  hr.step (Nat.le_refl _) (fun _ _ _ => rfl) (fun _ _ h => h.elim id fun h => by cases h)
theorem RS.rl {L : Nat → Prop} {h : Hd} {n : Nat} {cs : List Value} {w : World} (hr : RS L h n cs w) : RL (fun k => k < w.heap.size ∧ ¬ L k) (.slice h.A n h.c) n cs w := by
  refine ⟨⟨h.A, h.c, rfl, hr.c, fun h0 => ?_⟩, fun k hk => hk.1⟩
  obtain ⟨b, o, e, hlt, hn, hc⟩ := hr.r h0
  exact ⟨b, o, e, ⟨hlt, hn⟩, hc⟩
theorem RS.rd {L : Nat → Prop} {h : Hd} {xs : List Int} {w : World} (hr : RS L h xs.length (xs.map I) w) : Rd (fun k => k < w.heap.size ∧ ¬ L k) (.slice h.A xs.length h.c) xs w := by
  refine ⟨⟨h.A, h.c, rfl, hr.c, fun h0 => ?_⟩, fun k hk => hk.1⟩
  obtain ⟨b, o, e, hlt, hn, hc⟩ := hr.r (by simpa using h0)
  refine ⟨b, o, e, ⟨hlt, hn⟩, hlt, fun i hi => hc i _ ?_⟩
  rw [List.getElem?_map, List.getElem?_eq_getElem hi, List.getD_eq_getElem?_getD, List.getElem?_eq_getElem hi]
  rfl
theorem owns_pos {ty sz base n : Nat} {v : Value} {cs : List Value} {w : World} (h : w.ownsRow base ty sz v n cs) (hn : 0 < n) : ∃ g c cur, v = .slice (some ⟨g, 0, none⟩) n c ∧ base ≤ g ∧ Bk (g, Ce ty cur) w ∧ n ≤ c ∧ c ≤ maxLen ∧ cur.size = c * sz ∧ cur.toList.take (n * sz) = cs := by
  rcases h.2 with ⟨_, h0⟩ | ⟨g, c, cur, h1, h2, h3, h4, h5, h6, h7⟩
  · omega
  · exact ⟨g, c, cur, h1, h2, h3, h4, h5, h6, h7⟩
/-- A block that can be read. -/
theorem RS.of_bk {L : Nat → Prop} {g ty n c : Nat} {cur : Array Value} {cs : List Value} {W : World} (h : Bk (g, Ce ty cur) W) (hg : ¬ L g) (hn : n ≤ c) (hp : ∀ (i : Nat) (v : Value), cs[i]? = some v → cur[i]? = some v) : RS L ⟨some ⟨g, 0, none⟩, c⟩ n cs W :=
  ⟨hn, fun _ => ⟨g, 0, rfl, h.lt, hg, fun i v hi => by rw [Nat.zero_add, cell_of_row W g i cur ty (0, 0) h]; exact hp i v hi⟩⟩
theorem take_pre {cur : Array Value} {m : Nat} {cs : List Value} (h : cur.toList.take m = cs) : ∀ (i : Nat) (v : Value), cs[i]? = some v → cur[i]? = some v := fun i v hi => by
  subst h
  rw [List.getElem?_take] at hi
  split at hi
  · simpa using hi
  · cases hi
theorem RS.of_owns {L : Nat → Prop} {ty sz n : Nat} {v : Value} {cs : List Value} {w w' : World} (h : w'.ownsRow w.heap.size ty sz v n cs) (cx : Cx L w) : ∃ hd : Hd, v = .slice hd.A n hd.c ∧ RS L hd n cs w' := by
  rcases h.2 with ⟨rfl, rfl⟩ | ⟨g, c, cur, rfl, h2, h3, h4, h5, h6, h7⟩
  · have h0 : cs = [] := List.eq_nil_of_length_eq_zero (by rw [h.1]; simp)
    subst h0
    exact ⟨hd0, rfl, RS.nil _ _⟩
  · exact ⟨⟨some ⟨g, 0, none⟩, c⟩, rfl, RS.of_bk h3 (fun h => absurd (cx g h) (Nat.not_lt.2 h2)) h4 (take_pre h7)⟩
def ecs (b : List En) : List Value := b.flatMap fun e => [I e.t, I e.tag, I e.v]
def kcs (b : List Ki) : List Value := b.flatMap fun e => [I e.t, I e.ah]
def mcs (b : List Mk) : List Value := b.flatMap fun e => [I e.t, I e.item, I e.tag, I e.v, I e.prior, I e.step]
def bcs : List Hd → List (List En) → List Value
  | h :: hs, b :: bs => .slice h.A b.length h.c :: bcs hs bs
  | _, _ => []
theorem flat_len {α : Type} (n : Nat) (f : α → List Value) (hf : ∀ a, (f a).length = n) (l : List α) : (l.flatMap f).length = l.length * n := by
  induction l with
  | nil => simp
  | cons a r ih => rw [List.flatMap_cons, List.length_append, hf, ih, List.length_cons, Nat.succ_mul, Nat.add_comm]
theorem flat_get {α : Type} (n : Nat) (f : α → List Value) (hf : ∀ a, (f a).length = n) : ∀ (l : List α) (i : Nat) (a : α) (j : Nat), l[i]? = some a → j < n → (l.flatMap f)[i * n + j]? = (f a)[j]?
  | [], i, a, j, h, _ => by simp at h
  | b :: r, 0, a, j, h, hj => by
    simp at h; subst h
    rw [List.flatMap_cons, Nat.zero_mul, Nat.zero_add, List.getElem?_append_left (by rw [hf]; exact hj)]
  | b :: r, i + 1, a, j, h, hj => by
    rw [List.flatMap_cons, List.getElem?_append_right (by rw [hf, Nat.succ_mul]; omega), hf, show (i + 1) * n + j - n = i * n + j from by rw [Nat.succ_mul]; omega]
    exact flat_get n f hf r i a j (by simpa using h) hj
theorem ecs_len (b : List En) : (ecs b).length = b.length * 3 := flat_len 3 _ (fun _ => rfl) b
theorem kcs_len (b : List Ki) : (kcs b).length = b.length * 2 := flat_len 2 _ (fun _ => rfl) b
theorem mcs_len (b : List Mk) : (mcs b).length = b.length * 6 := flat_len 6 _ (fun _ => rfl) b
theorem ecs_one (b : List En) : ∀ u, u ∈ ecs b → u.oneCell' = true := by
  intro u hu
  obtain ⟨e, _, h⟩ := List.mem_flatMap.1 hu
  simp at h
  rcases h with rfl | rfl | rfl <;> rfl
theorem kcs_one (b : List Ki) : ∀ u, u ∈ kcs b → u.oneCell' = true := by
  intro u hu
  obtain ⟨e, _, h⟩ := List.mem_flatMap.1 hu
  simp at h
  rcases h with rfl | rfl <;> rfl
theorem mcs_one (b : List Mk) : ∀ u, u ∈ mcs b → u.oneCell' = true := by
  intro u hu
  obtain ⟨e, _, h⟩ := List.mem_flatMap.1 hu
  simp at h
  rcases h with rfl | rfl | rfl | rfl | rfl | rfl <;> rfl
theorem ints_one (b : List Int) : ∀ u, u ∈ b.map I → u.oneCell' = true := by
  intro u hu
  obtain ⟨e, _, rfl⟩ := List.mem_map.1 hu
  rfl
theorem bcs_one : ∀ (hs : List Hd) (bs : List (List En)), ∀ u, u ∈ bcs hs bs → u.oneCell' = true
  | [], _, u, h => by simp [bcs] at h
  | _ :: _, [], u, h => by simp [bcs] at h
  | h :: hs, b :: bs, u, hu => by
    rcases List.mem_cons.1 hu with rfl | h1
    · rfl
    · exact bcs_one hs bs u h1
theorem bcs_len : ∀ (hs : List Hd) (bs : List (List En)), hs.length = bs.length → (bcs hs bs).length = bs.length
  | [], [], _ => rfl
  | [], _ :: _, h => by simp at h
  | _ :: _, [], h => by simp at h
  | h :: hs, b :: bs, e => by rw [bcs, List.length_cons, bcs_len hs bs (by simpa using e), List.length_cons]
theorem bcs_get : ∀ (hs : List Hd) (bs : List (List En)), hs.length = bs.length → ∀ i, i < bs.length → (bcs hs bs)[i]? = some (.slice (hs.getD i hd0).A (bs.getD i []).length (hs.getD i hd0).c)
  | [], [], _, i, h => by simp at h
  | [], _ :: _, h, _, _ => by simp at h
  | _ :: _, [], h, _, _ => by simp at h
  | h :: hs, b :: bs, e, 0, _ => rfl
  | h :: hs, b :: bs, e, i + 1, hi => by
    rw [bcs, List.getElem?_cons_succ, bcs_get hs bs (by simpa using e) i (by simpa using hi)]
    rfl
theorem bcs_set : ∀ (hs : List Hd) (bs : List (List En)), hs.length = bs.length → ∀ i h b, (bcs hs bs).set i (.slice h.A b.length h.c) = bcs (hs.set i h) (bs.set i b)
  | [], [], _, i, h, b => rfl
  | [], _ :: _, h, _, _, _ => by simp at h
  | _ :: _, [], h, _, _, _ => by simp at h
  | h :: hs, b :: bs, e, 0, _, _ => rfl
  | h :: hs, b :: bs, e, i + 1, h', b' => by
    rw [bcs, List.set_cons_succ, bcs_set hs bs (by simpa using e) i h' b']
    rfl
theorem flat_at {α : Type} (n : Nat) (f : α → List Value) (hf : ∀ a, (f a).length = n) (l : List α) (d : α) (i : Int) (h0 : 0 ≤ i) (h1 : i < l.length) : ∀ (j : Nat) (v : Value), (f (l.getD i.toNat d))[j]? = some v → (l.flatMap f)[i.toNat * n + j]? = some v := fun j v hj => by
  have hlt : i.toNat < l.length := by omega
  have hj' : j < n := by have := (List.getElem?_eq_some_iff.1 hj).1; rwa [hf] at this
  rw [flat_get n f hf l i.toNat (l.getD i.toNat d) j (by rw [List.getD_eq_getElem?_getD, List.getElem?_eq_getElem hlt]; rfl) hj']
  exact hj
theorem ecs_at (l : List En) (i : Int) (h0 : 0 ≤ i) (h1 : i < l.length) : ∀ (j : Nat) (v : Value), [I (l.getD i.toNat en0).t, I (l.getD i.toNat en0).tag, I (l.getD i.toNat en0).v][j]? = some v → (ecs l)[i.toNat * 3 + j]? = some v := flat_at 3 (fun e : En => [I e.t, I e.tag, I e.v]) (fun _ => rfl) l en0 i h0 h1
theorem kcs_at (l : List Ki) (i : Int) (h0 : 0 ≤ i) (h1 : i < l.length) : ∀ (j : Nat) (v : Value), [I (l.getD i.toNat ki0).t, I (l.getD i.toNat ki0).ah][j]? = some v → (kcs l)[i.toNat * 2 + j]? = some v := flat_at 2 (fun e : Ki => [I e.t, I e.ah]) (fun _ => rfl) l ki0 i h0 h1
theorem ints_at (l : List Int) (i : Int) (h0 : 0 ≤ i) (h1 : i < l.length) : (l.map I)[i.toNat * 1]? = some (I (l.getD i.toNat 0)) := by
  have hlt : i.toNat < l.length := by omega
  rw [Nat.mul_one, List.getElem?_map, List.getElem?_eq_getElem hlt, List.getD_eq_getElem?_getD, List.getElem?_eq_getElem hlt]
  rfl
theorem RS.addr {L : Nat → Prop} {h : Hd} {n : Nat} {cs : List Value} {w : World} (hr : RS L h n cs w) (h0 : 0 < cs.length) : ∃ b p, h.A = some ⟨b, p, none⟩ := by
  obtain ⟨b, o, e, _⟩ := hr.r h0
  exact ⟨b, o, e⟩
theorem RS.rng {L : Nat → Prop} {h : Hd} {n : Nat} {cs : List Value} {w : World} (hr : RS L h n cs w) {b p : Nat} (hA : h.A = some ⟨b, p, none⟩) (m : Nat) {vs : List Value} (h0 : 0 < cs.length) (hv : ∀ (j : Nat) (v : Value), vs[j]? = some v → cs[m + j]? = some v) : ∀ (j : Nat) (v : Value), vs[j]? = some v → w.cell? ⟨b, p + m + j, none⟩ = some v := fun j v hj => by
  obtain ⟨b', o, e, _, _, hc⟩ := hr.r h0
  rw [hA] at e
  cases e
  rw [Nat.add_assoc]
  exact hc _ v (hv j v hj)
theorem RS.one {L : Nat → Prop} {h : Hd} {n : Nat} {cs : List Value} {w : World} (hr : RS L h n cs w) {b p : Nat} (hA : h.A = some ⟨b, p, none⟩) (m : Nat) {v : Value} (hv : cs[m]? = some v) : w.cell? ⟨b, p + m, none⟩ = some v := by
  have h0 : 0 < cs.length := by have := (List.getElem?_eq_some_iff.1 hv).1; omega
  have := hr.rng hA m (vs := [v]) h0 (fun j u hj => by
    cases j with
    | zero => simpa using hj ▸ hv
    | succ j => simp at hj) 0 v rfl
  simpa using this
/-- Boxes that can be read. -/
def RB (L : Nat → Prop) (h : Hd) (bs : List (List En)) (w : World) : Prop :=
  ∃ hs : List Hd, hs.length = bs.length ∧ RS L h bs.length (bcs hs bs) w ∧ ∀ i, i < bs.length → RS L (hs.getD i hd0) (bs.getD i []).length (ecs (bs.getD i [])) w
theorem RB.step {L L' : Nat → Prop} {h : Hd} {bs : List (List En)} {W W' : World} (hr : RB L h bs W) (hs : W.heap.size ≤ W'.heap.size) (hb : ∀ k, ¬ L k → k < W.heap.size → W'.heap[k]? = W.heap[k]?) (hL : ∀ k, k < W.heap.size → L' k → L k) : RB L' h bs W' := by
  obtain ⟨hs', h1, h2, h3⟩ := hr
  exact ⟨hs', h1, h2.step hs hb hL, fun i hi => (h3 i hi).step hs hb hL⟩
theorem RB.kn {L : Nat → Prop} {O : List Nat} {h : Hd} {bs : List (List En)} {W : World} (hr : RB (Av L O) h bs W) : Kn (fun O W => RB (Av L O) h bs W) O W :=
  fun O' W' g => hr.step g.size (ext_av g).1 (ext_av g).2
theorem RB.weak {L : Nat → Prop} {O : List Nat} {h : Hd} {bs : List (List En)} {W : World} (hr : RB (Av L O) h bs W) : RB L h bs W :=
  hr.step (Nat.le_refl _) (fun _ _ _ => rfl) (fun _ _ h => .inl h)
theorem RB.av0 {L : Nat → Prop} {h : Hd} {bs : List (List En)} {W : World} (hr : RB L h bs W) : RB (Av L []) h bs W :=
  hr.step (Nat.le_refl _) (fun _ _ _ => rfl) (fun _ _ h => h.elim id fun h => by cases h)
theorem RS.kn0 {L : Nat → Prop} {h : Hd} {n : Nat} {cs : List Value} {W : World} (hr : RS L h n cs W) : Kn (fun O W => RS (Av L O) h n cs W) [] W := hr.av0.kn
theorem RB.kn0 {L : Nat → Prop} {h : Hd} {bs : List (List En)} {W : World} (hr : RB L h bs W) : Kn (fun O W => RB (Av L O) h bs W) [] W := hr.av0.kn
/-- What each box of hs holds. -/
def RI (L : Nat → Prop) (hs : List Hd) (bs : List (List En)) (w : World) : Prop := ∀ i, i < bs.length → RS L (hs.getD i hd0) (bs.getD i []).length (ecs (bs.getD i [])) w
theorem RI.kn {L : Nat → Prop} {O : List Nat} {hs : List Hd} {bs : List (List En)} {W : World} (hr : RI (Av L O) hs bs W) : Kn (fun O W => RI (Av L O) hs bs W) O W :=
  fun O' W' g i hi => (hr i hi).step g.size (ext_av g).1 (ext_av g).2
theorem RI.weak {L : Nat → Prop} {O : List Nat} {hs : List Hd} {bs : List (List En)} {W : World} (hr : RI (Av L O) hs bs W) : RI L hs bs W := fun i hi => (hr i hi).weak
theorem RI.kn0 {L : Nat → Prop} {hs : List Hd} {bs : List (List En)} {W : World} (hr : RI L hs bs W) : Kn (fun O W => RI (Av L O) hs bs W) [] W := RI.kn (O := []) fun i hi => (hr i hi).av0
theorem bcs_at (hs : List Hd) (bs : List (List En)) (hl : hs.length = bs.length) (i : Int) (h0 : 0 ≤ i) (h1 : i < bs.length) : (bcs hs bs)[i.toNat * 1]? = some (.slice (hs.getD i.toNat hd0).A (bs.getD i.toNat []).length (hs.getD i.toNat hd0).c) := by
  rw [Nat.mul_one]; exact bcs_get hs bs hl i.toNat (by omega)
theorem RB.put {L : Nat → Prop} {hd hx : Hd} {hs : List Hd} {bs : List (List En)} {x : List En} {w : World} (i n : Nat) (hn : n = (bs.set i x).length) (hl : hs.length = bs.length) (h1 : RS L hd n (bcs (hs.set i hx) (bs.set i x)) w) (hi : RI L hs bs w) (h2 : RS L hx x.length (ecs x) w) : RB L hd (bs.set i x) w := by
  subst hn
  refine ⟨hs.set i hx, by simp [hl], h1, fun j hj => ?_⟩
  rw [List.length_set] at hj
  simp only [List.getD_eq_getElem?_getD, List.getElem?_set]
  by_cases e : i = j
  · subst e
    rw [if_pos rfl, if_pos rfl, if_pos hj, if_pos (hl ▸ hj)]
    exact h2
  · rw [if_neg e, if_neg e]
    have := hi j hj
    simpa only [List.getD_eq_getElem?_getD] using this
/-- Where a turn's slices lie. -/
structure Sl where
  words : Hd
  boxes : Hd
  batch : Hd
  kids : Hd
  held : Hd
  tl : Hd
  log : Hd
structure RTL (L : Nat → Prop) (s : Sl) (words : List Int) (boxes : List (List En)) (batch : List En) (kids : List Ki) (held : List Int) (tl : List Int) (log : List Mk) (w : World) : Prop where
  words : RS L s.words words.length (words.map I) w
  boxes : RB L s.boxes boxes w
  batch : RS L s.batch batch.length (ecs batch) w
  kids : RS L s.kids kids.length (kcs kids) w
  held : RS L s.held held.length (held.map I) w
  tl : RS L s.tl tl.length (tl.map I) w
  log : RS L s.log log.length (mcs log) w
abbrev RT (L : Nat → Prop) (s : Sl) (T : Tn) (w : World) : Prop := RTL L s T.m.words T.m.boxes T.th.batch T.th.kids T.th.held T.tp.l T.log w
section
variable {L L' : Nat → Prop} {s : Sl} {words : List Int} {boxes : List (List En)} {batch : List En} {kids : List Ki} {held : List Int} {tl : List Int} {log : List Mk} {W W' : World}
theorem RTL.step (hr : RTL L s words boxes batch kids held tl log W) (hs : W.heap.size ≤ W'.heap.size) (hb : ∀ k, ¬ L k → k < W.heap.size → W'.heap[k]? = W.heap[k]?) (hL : ∀ k, k < W.heap.size → L' k → L k) : RTL L' s words boxes batch kids held tl log W' :=
  ⟨hr.words.step hs hb hL, hr.boxes.step hs hb hL, hr.batch.step hs hb hL, hr.kids.step hs hb hL, hr.held.step hs hb hL, hr.tl.step hs hb hL, hr.log.step hs hb hL⟩
theorem RTL.kn {O : List Nat} (hr : RTL (Av L O) s words boxes batch kids held tl log W) : Kn (fun O W => RTL (Av L O) s words boxes batch kids held tl log W) O W :=
  fun O' W' g => hr.step g.size (ext_av g).1 (ext_av g).2
theorem RTL.weak {O : List Nat} (hr : RTL (Av L O) s words boxes batch kids held tl log W) : RTL L s words boxes batch kids held tl log W :=
  hr.step (Nat.le_refl _) (fun _ _ _ => rfl) (fun _ _ h => .inl h)
theorem RTL.av0 (hr : RTL L s words boxes batch kids held tl log W) : RTL (Av L []) s words boxes batch kids held tl log W :=
  hr.step (Nat.le_refl _) (fun _ _ _ => rfl) (fun _ _ h => h.elim id fun h => by cases h)
theorem RTL.kn0 (hr : RTL L s words boxes batch kids held tl log W) : Kn (fun O W => RTL (Av L O) s words boxes batch kids held tl log W) [] W := hr.av0.kn
end
/-- A turn's cells. -/
def tc (T : Tn) (s : Sl) : Array Value := #[I T.c.th, I T.c.it, I T.c.be, I T.c.de, I T.c.la, I T.c.wi, I T.c.sp, I T.c.wa, .bool T.c.bo, I T.c.lo, I T.c.hi, I T.c.ini, I T.t, I T.now, .slice s.words.A T.m.words.length s.words.c, .slice s.boxes.A T.m.boxes.length s.boxes.c, I T.th.ph, I T.th.item, I T.th.tag, I T.th.v, .slice s.batch.A T.th.batch.length s.batch.c, .slice s.kids.A T.th.kids.length s.kids.c, .slice s.held.A T.th.held.length s.held.c, I T.th.stop, I T.th.node, I T.th.at_, I T.th.layer, I T.th.left, I T.th.width, I T.th.who, I T.th.x, I T.th.y, I T.th.until_, .slice s.tl.A T.tp.l.length s.tl.c, I T.tp.i, .slice s.log.A T.log.length s.log.c, .bool T.done]
/-- A memory's cells, a thread's. -/
def mc (m : Mem) (a b : Hd) : Array Value := #[.slice a.A m.words.length a.c, .slice b.A m.boxes.length b.c]
def thc (t : Th) (a b c : Hd) : Array Value := #[I t.ph, I t.item, I t.tag, I t.v, .slice a.A t.batch.length a.c, .slice b.A t.kids.length b.c, .slice c.A t.held.length c.c, I t.stop, I t.node, I t.at_, I t.layer, I t.left, I t.width, I t.who, I t.x, I t.y, I t.until_]
/-- What a call leaves that returns a turn. -/
def RetT (L : Nat → Prop) (w : World) (T : Tn) (e : Ending) (w' : World) : Prop := ∃ s T1, T1 = T ∧ e = .returned (.agg (tc T1 s)) ∧ RT L s T1 w' ∧ Below w.heap.size w w'
def RetB (L : Nat → Prop) (w : World) (T : Tn) (b : Bool) (e : Ending) (w' : World) : Prop := ∃ s T1, T1 = T ∧ e = .returned (.tuple [.agg (tc T1 s), .bool b].toArray) ∧ RT L s T1 w' ∧ Below w.heap.size w w'
def cf0 : Cf := ⟨0, 0, 0, 0, 0, 0, 0, 0, false, 0, 0, 0⟩
def tn0 : Tn := ⟨cf0, 0, 0, ⟨[], []⟩, th0, ⟨[], 0⟩, [], false⟩
def sl0 : Sl := ⟨hd0, hd0, hd0, hd0, hd0, hd0, hd0⟩
end
section
abbrev Env := List (Nat × Value)
abbrev Fct := List Nat → World → Prop
/-- What an operand holds. -/
def ev (E : Env) : Operand → Option Value
  | .tmp t => E.lookup t
  | .const v => some v
  | .global g => some (.pointer (some ⟨g, 0, none⟩))
  | .func f => some (.func (.func f) #[] #[])
/-- A frame's slots. -/
structure Sf (n : Nat) (M : List Deferred) (E : Env) (a : Act) : Prop where
  size : a.tmps.size = n
  defers : a.defers = M
  get : ∀ i v, E.lookup i = some v → a.tmps[i]? = some v
theorem Sf.eval {n : Nat} {M : List Deferred} {E : Env} {a : Act} (h : Sf n M E a) {x : Operand} {v : Value} (hx : ev E x = some v) : a.eval x = v := by
  cases x with
  | tmp t => have := h.get t v hx; simp [Act.eval, this]
  | const c => simpa [ev, Act.eval] using hx
  | global g => simpa [ev, Act.eval] using hx
  | func f => simpa [ev, Act.eval] using hx
theorem Sf.put {n : Nat} {M : List Deferred} {E : Env} {a : Act} (h : Sf n M E a) {d : Nat} (hd : Nat.blt d n = true) (v : Value) : Sf n M ((d, v) :: E) (a.put (some d) v) := by
  have hd' : d < n := by simpa [Nat.blt_eq] using hd
  refine ⟨by simp [Act.put, h.size], h.defers, fun i u hi => ?_⟩
  rw [List.lookup_cons] at hi
  cases hb : (i == d) with
  | true =>
    have e : i = d := by simpa using hb
    subst e
    rw [hb] at hi
    injection hi with hi
    subst hi
    simp [Act.put, Array.getElem?_setIfInBounds, h.size, hd']
  | false =>
    rw [hb] at hi
    have e : d ≠ i := fun e => by subst e; simp at hb
    simpa [Act.put, Array.getElem?_setIfInBounds_ne e] using h.get i u hi
/-- The frame of a function, or of a loop's round. -/
def FR (ro : Option Nat) : Fence := { Fence.wide with round := ro }
theorem callsIn_fr {ro : Option Nat} {n : Nat} {f : FuncId} {args : Array Value} {w : World} {R : Ending → World → Prop} : CallsIn (FR ro) n Tryz.prog f args w R ↔ Calls Tryz.prog f args w R := by
  cases ro with
  | none => exact callsIn_wide
  | some l => exact ⟨fun h => callsIn_wide.1 (CallsIn.outOfRound (F := Fence.wide) (l := l) h), fun h => CallsIn.inRound l (callsIn_wide.2 h)⟩
abbrev CW (ro : Option Nat) (c : Code) (Q : Exit → Act → World → Prop) : Act → World → Prop := Code.wpIn (FR ro) 1 Tryz.prog c Q
abbrev LW (ro : Option Nat) (ops : Array Oper) (Q : Exit → Act → World → Prop) (l : List Oper) : Act → World → Prop := wpListIn (FR ro) 1 Tryz.prog ops Q l
theorem semAt_value {ro : Option Nat} {ρ : Operand → Value} {o : Oper} {W W' : World} {v : Value} (h : (execOp ρ o).run Tryz.prog W = .ok (.value v) W') : (o.semAt ro ρ).run Tryz.prog W = .ok (.value v) W' := by
  cases ro with
  | none => exact h
  | some l =>
    by_cases hd : ∃ c, o.op = .defer c
    · obtain ⟨c, hc⟩ := hd
      simp only [execOp, hc, Sem.run_bind] at h
      cases hr : (resolve ρ c o.type).run Tryz.prog W with
      | ok d W1 => rw [hr] at h; simp at h
      | halt x W1 => rw [hr] at h; simp at h
    · rw [Oper.semAt_eq (some l) ρ o (fun c hc => hd ⟨c, hc⟩)]
      exact h
theorem wpIn_value {ro : Option Nat} {o : Oper} {a : Act} {W W' : World} {v : Value} {K : Act → World → Prop} {Q : Exit → Act → World → Prop} (h : (execOp a.eval o).run Tryz.prog W = .ok (.value v) W') (hk : K (a.put o.dst v) W') : o.wpIn (FR ro) 1 Tryz.prog a W K Q := by
  refine ⟨fun _ _ => trivial, ?_⟩
  have : (FR ro).round = ro := rfl
  rw [this, semAt_value h]
  exact hk
theorem wpIn_of_wp {ro : Option Nat} {o : Oper} {a : Act} {W : World} {K : Act → World → Prop} {Q : Exit → Act → World → Prop} (hd : ∀ c, o.op ≠ .defer c) (h : o.wp Tryz.prog a W K Q) : o.wpIn (FR ro) 1 Tryz.prog a W K Q := by
  refine ⟨fun _ _ => trivial, ?_⟩
  have hr : (FR ro).round = ro := rfl
  rw [hr, Oper.semAt_eq ro a.eval o hd]
  unfold Oper.wp at h
  generalize (execOp a.eval o).run Tryz.prog W = r at h ⊢
  cases r with
  | ok x W1 =>
    cases x with
    | value v => exact h
    | skip => exact h
    | defer d => exact h
    | enter f args => exact ⟨fun hx => by simp [FR, Fence.wide] at hx, callsIn_fr.2 (Calls.mono h fun e w' he => by cases e <;> exact he)⟩
    | row row args => exact ⟨fun hx => by simp [FR, Fence.wide] at hx, fun c cs _ => by
        obtain ⟨v, w', h1, h2⟩ := h c cs
        exact ⟨v, w', h1, stepsIn_wide.2 h2⟩⟩
    | _ => exact h.elim
  | halt x W1 => cases x <;> first | exact h | exact h.elim
/-- A place of a walk. -/
def St (n : Nat) (M : List Deferred) (E : Env) (w0 : World) (L : Nat → Prop) (l : Bxs) (F : Fct) (X : Act → World → Prop) : Prop := ∀ a W, Sf n M E a → Kb w0 L l F W → X a W
/-- An operation yields in every world, or wherever the boxes are these. -/
def Pu (n : Nat) (M : List Deferred) (E : Env) (o : Oper) (v : Value) : Prop := ∀ a W, Sf n M E a → (execOp a.eval o).run Tryz.prog W = .ok (.value v) W
def Rn (n : Nat) (M : List Deferred) (E : Env) (w0 : World) (L : Nat → Prop) (l : Bxs) (F : Fct) (o : Oper) (v : Value) : Prop := ∀ a W, Sf n M E a → Kb w0 L l F W → (execOp a.eval o).run Tryz.prog W = .ok (.value v) W
/-- Is an operation wanted? -/
def Wn (n : Nat) (M : List Deferred) (E : Env) (ops : Array Oper) (o : Oper) (b : Bool) : Prop := ∀ a, Sf n M E a → Region.wanted o (yielded ops a.tmps) = b
theorem wn {n : Nat} {M : List Deferred} {E : Env} {ops : Array Oper} {o : Oper} (h : o.guard = none) : Wn n M E ops o true := fun a _ => by simp [Region.wanted, h]
theorem wn_is {n : Nat} {M : List Deferred} {E : Env} {ops : Array Oper} {o p : Oper} {j d : Nat} {b c cv r : Bool} (h : o.guard = some (j, b)) (hp : ops[j]? = some p) (hd : p.dst = some d) (he : ev E (.tmp d) = some (.bool c)) (hc : c = cv) (hr : (cv == b) = r) : Wn n M E ops o r := fun a ha => by
  have h1 : (ops[j]?.bind fun x => x.dst).bind (fun x => a.tmps[x]?) = some (.bool c) := by
    rw [hp]
    show (p.dst).bind _ = _
    rw [hd]
    exact ha.get d _ he
  subst hc
  subst hr
  simp only [Region.wanted, h, yielded, h1]
  cases c <;> cases b <;> rfl
theorem wn_u {n : Nat} {M : List Deferred} {E : Env} {ops : Array Oper} {o p : Oper} {j d : Nat} {b : Bool} (h : o.guard = some (j, b)) (hp : ops[j]? = some p) (hd : p.dst = some d) (he : ev E (.tmp d) = some undef) : Wn n M E ops o false := fun a ha => by
  have h1 : (ops[j]?.bind fun x => x.dst).bind (fun x => a.tmps[x]?) = some undef := by
    rw [hp]
    show (p.dst).bind _ = _
    rw [hd]
    exact ha.get d _ he
  simp only [Region.wanted, h, yielded, h1]
  cases b <;> rfl
section
variable {ro : Option Nat} {n : Nat} {M : List Deferred} {E : Env} {w0 : World} {L : Nat → Prop} {l : Bxs} {F : Fct} {ops : Array Oper} {Q : Exit → Act → World → Prop} {rest : List Oper} {o : Oper} {d : Nat} {v : Value} {X : Act → World → Prop}
def envA : Nat → List Value → Env
  | _, [] => []
  | i, v :: r => (i, v) :: envA (i + 1) r
theorem envA_get : ∀ (vs : List Value) (k i : Nat) (v : Value), (envA k vs).lookup i = some v → k ≤ i ∧ vs[i - k]? = some v
  | [], _, _, _, h => by simp [envA] at h
  | u :: r, k, i, v, h => by
    rw [envA, List.lookup_cons] at h
    cases hb : (i == k) with
    | true =>
      have e : i = k := by simpa using hb
      subst e
      rw [hb] at h
      refine ⟨Nat.le_refl _, ?_⟩
      rw [Nat.sub_self]
      exact h
    | false =>
      rw [hb] at h
      obtain ⟨h1, h2⟩ := envA_get r (k + 1) i v h
      refine ⟨by omega, ?_⟩
      rw [show i - k = (i - (k + 1)) + 1 from by omega]
      exact h2
theorem lG {f : FuncId} {fn : Func} {c : Code} {vs : List Value} {W : World} {R : Ending → World → Prop} (n : Nat) (hf : Tryz.prog.funcs[f]? = some fn) (hb : fn.body = some c) (hn : fn.ntmps = n) (hs : Nat.ble vs.length n = true)
    (k : Kb w0 L l F W) (h : St n [] (envA 0 vs) w0 L l F (CW none c (bodyPost Tryz.prog fn R))) : Calls Tryz.prog f vs.toArray W R := by
  have hs' : vs.length ≤ n := Nat.le_of_ble_eq_true hs
  refine calls_of_wp hf hb (wpIn_wide.1 (h _ _ ⟨?_, rfl, fun i v hi => ?_⟩ k))
  · simp [hn]; omega
  · have h1 := (envA_get vs 0 i v hi).2
    rw [Nat.sub_zero] at h1
    have hlt : i < vs.length := (List.getElem?_eq_some_iff.1 h1).1
    show (vs.toArray ++ _)[i]? = some v
    rw [Array.getElem?_append_left (by simpa using hlt)]
    simpa using h1
theorem aE {x y : Code} (h : St n M E w0 L l F (CW ro x (Exit.then (CW ro y Q) Q))) : St n M E w0 L l F (CW ro (Code.seq x y) Q) := fun a W ha hk => wpIn_seq (h a W ha hk)
theorem aU {id : Nat} {r : List Oper} (h : St n M E w0 L l F (LW ro r.toArray Q r)) : St n M E w0 L l F (CW ro (Code.region id r.toArray false) Q) := fun a W ha hk => wpIn_region_lit (h a W ha hk)
theorem bP (h : St n M E w0 L l F (Q .normal)) : St n M E w0 L l F (LW ro ops Q []) := fun a W ha hk => wpListIn_nil (h a W ha hk)
theorem aC {K : Act → World → Prop} {Q' : Exit → Act → World → Prop} (h : St n M E w0 L l F K) : St n M E w0 L l F (Exit.then K Q' .normal) := h
theorem aW {id : Nat} (h : St n M E w0 L l F (Q .normal)) : St n M E w0 L l F (Exit.inBlock id Q .normal) := h
theorem aI (h : St n M E w0 L l F (Q .normal)) : St n M E w0 L l F (CW ro Code.skip Q) := fun a W ha hk => wpIn_skip (h a W ha hk)
theorem cU {i : Nat} (h : St n M E w0 L l F (Q .normal)) : St n M E w0 L l F (CW ro (Code.label i) Q) := fun a W ha hk => wpIn_label (h a W ha hk)
theorem aP {id : Nat} {c : Code} (h : St n M E w0 L l F (CW ro c (Exit.inBlock id Q))) : St n M E w0 L l F (CW ro (Code.block id c) Q) := fun a W ha hk => wpIn_block (h a W ha hk)
theorem aX {id : Nat} (h : St n M E w0 L l F (Q (.exit id))) : St n M E w0 L l F (CW ro (Code.exit id) Q) := fun a W ha hk => wpIn_exit (h a W ha hk)
theorem aK {K : Act → World → Prop} {id : Nat} (h : St n M E w0 L l F (Q (.exit id))) : St n M E w0 L l F (Exit.then K Q (.exit id)) := h
theorem aY {id : Nat} (h : St n M E w0 L l F (Q .normal)) : St n M E w0 L l F (Exit.inBlock id Q (.exit id)) := fun a W ha hk => by
  show if id = id then Q .normal a W else Q (.exit id) a W
  rw [if_pos rfl]
  exact h a W ha hk
theorem aV {id id' : Nat} (hi : Nat.beq id' id = false) (h : St n M E w0 L l F (Q (.exit id'))) : St n M E w0 L l F (Exit.inBlock id Q (.exit id')) := fun a W ha hk => by
  show if id' = id then Q .normal a W else Q (.exit id') a W
  rw [if_neg (fun e => by subst e; simp at hi)]
  exact h a W ha hk
theorem aQ {c : Operand} {x y : Code} {b : Bool} (hc : ev E c = some (.bool b)) (hb : b = true) (h : St n M E w0 L l F (CW ro x Q)) : St n M E w0 L l F (CW ro (Code.cond c x y) Q) := fun a W ha hk => by
  subst hb
  exact wpIn_cond_true (ha.eval hc) (h a W ha hk)
theorem aM {c : Operand} {x y : Code} {b : Bool} (hc : ev E c = some (.bool b)) (hb : b = false) (h : St n M E w0 L l F (CW ro y Q)) : St n M E w0 L l F (CW ro (Code.cond c x y) Q) := fun a W ha hk => by
  subst hb
  exact wpIn_cond_false (ha.eval hc) (h a W ha hk)
theorem aF (h : St n M E w0 L l F (Q .ret)) : St n M E w0 L l F (CW ro Code.ret Q) := fun a W ha hk => wpIn_ret (h a W ha hk)
theorem aS {K : Act → World → Prop} (h : St n M E w0 L l F (Q .ret)) : St n M E w0 L l F (Exit.then K Q .ret) := h
theorem bD {id : Nat} (h : St n M E w0 L l F (Q .ret)) : St n M E w0 L l F (Exit.inBlock id Q .ret) := h
/-- What is known, otherwise said. -/
theorem fM (l' : Bxs) (E' : Env) (hl : l = l') (hE : ∀ i v, E'.lookup i = some v → E.lookup i = some v) (h : St n M E' w0 L l' F X) : St n M E w0 L l F X := fun a W ha hk => h a W ⟨ha.size, ha.defers, fun i v hi => ha.get i v (hE i v hi)⟩ (hl ▸ hk)
def subE (E : Env) : Env → Prop
  | [] => True
  | (i, v) :: r => E.lookup i = some v ∧ subE E r
theorem subE_get {E : Env} : ∀ {E' : Env}, subE E E' → ∀ i v, E'.lookup i = some v → E.lookup i = some v
  | [], _, _, _, h => by simp at h
  | (j, u) :: r, hs, i, v, h => by
    rw [List.lookup_cons] at h
    cases hb : (i == j) with
    | true =>
      have e : i = j := by simpa using hb
      subst e
      rw [hb] at h
      injection h with h
      subst h
      exact hs.1
    | false =>
      rw [hb] at h
      exact subE_get hs.2 i v h
theorem Sf.sub {n : Nat} {M : List Deferred} {E E' : Env} {a : Act} (h : Sf n M E a) (hs : subE E E') : Sf n M E' a := ⟨h.size, h.defers, fun i v hi => h.get i v (subE_get hs i v hi)⟩
/-- A loop's round goes on at j. -/
def Rd_ (σ : Type) (n : Nat) (M : List Deferred) (w0 : World) (L : Nat → Prop) (E' : σ → Env) (l' : σ → Bxs) (F' : σ → Fct) (μ : σ → Nat) (i : σ) : Act → World → Prop := fun a W => ∃ j, Sf n M (E' j) a ∧ Kb w0 L (l' j) (F' j) W ∧ μ j < μ i
theorem gI {σ : Type} {c : Code} (E' : σ → Env) (l' : σ → Bxs) (F' : σ → Fct) (μ : σ → Nat) (i0 : σ) (hE : subE E (E' i0)) (hk : ∀ W, Kb w0 L l F W → Kb w0 L (l' i0) (F' i0) W)
    (round : ∀ i, St n M (E' i) w0 L (l' i) (F' i) (CW ro c (Exit.then (Rd_ σ n M w0 L E' l' F' μ i) Q))) : St n M E w0 L l F (CW ro (Code.loop c) Q) := fun a W ha hkb => by
  intro b k cs hro hb hr
  have key : ∀ m, ∀ i a W, μ i = m → Sf n M (E' i) a → Kb w0 L (l' i) (F' i) W →
      ∃ e a' w', Q e a' w' ∧ ArrivesIn (Machine.fenced Tryz.prog (FR ro)) Tryz.prog (lone (b.atR a (.code c :: .inLoop c :: k)) cs W) b k cs e a' w' := by
    intro m
    induction m using Nat.strongRecOn with
    | _ m ih =>
      intro i a W hm ha hk
      obtain ⟨e, a1, w1, hq, harr⟩ := round i a W ha hk b (.inLoop c :: k) cs hro hb hr
      cases e with
      | normal =>
        obtain ⟨j, h1, h2, h3⟩ := hq
        obtain ⟨e2, a2, w2, hq2, harr2⟩ := ih (μ j) (hm ▸ h3) j a1 w1 rfl h1 h2
        exact ⟨e2, a2, w2, hq2, .of_steps (StepsIn.trans harr (.one (fenced_calm hb hr rfl) stepR_inLoop)) harr2⟩
      | exit id => exact ⟨_, a1, w1, hq, .pass (x := .inLoop c) rfl (fun _ _ => .inl (by simp)) harr⟩
      | goto l => exact ⟨_, a1, w1, hq, .pass (x := .inLoop c) rfl (fun _ _ => .inl (by simp)) harr⟩
      | ret => exact ⟨_, a1, w1, hq, .pass (x := .inLoop c) rfl (fun _ _ => .inl (by simp)) harr⟩
      | panic ch => exact ⟨_, a1, w1, hq, .pass (x := .inLoop c) rfl (fun _ _ => .inl (by simp)) harr⟩
      | outgrown => exact ⟨_, a1, w1, hq, .pass (x := .inLoop c) rfl (fun _ _ => .inl (by simp)) harr⟩
  obtain ⟨e, a', w', hq, harr⟩ := key _ i0 a W rfl (ha.sub hE) (hk W hkb)
  exact ⟨e, a', w', hq, .of_steps (.one (fenced_calm hb hr rfl) stepR_loop) harr⟩
theorem iZ {σ : Type} {E' : σ → Env} {l' : σ → Bxs} {F' : σ → Fct} {μ : σ → Nat} {i : σ} (j : σ) (hE : subE E (E' j)) (hk : ∀ W, Kb w0 L l F W → Kb w0 L (l' j) (F' j) W) (hm : μ j < μ i) : St n M E w0 L l F (Rd_ σ n M w0 L E' l' F' μ i) := fun a W ha hkb => ⟨j, ha.sub hE, hk W hkb, hm⟩
/-- A loop that counts. -/
def Rk (n : Nat) (M : List Deferred) (w0 : World) (L : Nat → Prop) (F : Fct) (N : Nat) (E' : Nat → Env) (l' : Nat → Bxs) (k : Nat) : Act → World → Prop := Rd_ {i : Nat // i ≤ N} n M w0 L (fun i => E' i.1) (fun i => l' i.1) (fun _ => F) (fun i => N - i.1) ⟨min k N, Nat.min_le_right _ _⟩
theorem cT {c : Code} (E' : Nat → Env) (l' : Nat → Bxs) (N : Nat) (hE : subE E (E' 0)) (hl : l = l' 0)
    (round : ∀ k, k ≤ N → St n M (E' k) w0 L (l' k) F (CW ro c (Exit.then (Rk n M w0 L F N E' l' k) Q))) : St n M E w0 L l F (CW ro (Code.loop c) Q) :=
  gI (σ := {i : Nat // i ≤ N}) (fun i => E' i.1) (fun i => l' i.1) (fun _ => F) (fun i => N - i.1) ⟨0, Nat.zero_le _⟩ hE (fun _ h => hl ▸ h) fun i => by
    have := round i.1 i.2
    unfold Rk at this
    have e : (⟨min i.1 N, Nat.min_le_right _ _⟩ : {i : Nat // i ≤ N}) = i := Subtype.ext (Nat.min_eq_left i.2)
    rw [e] at this
    exact this
theorem bX {N k : Nat} {E' : Nat → Env} {l' : Nat → Bxs} (hE : subE E (E' (k + 1))) (hl : l = l' (k + 1)) (hk : k + 1 ≤ N) : St n M E w0 L l F (Rk n M w0 L F N E' l' k) :=
  iZ ⟨k + 1, hk⟩ hE (fun _ h => hl ▸ h) (by show N - (k + 1) < N - min k N; omega)
theorem l_p (hp : Pu n M E o v) (hg : o.guard = none) (hd : o.dst = some d) (hn : Nat.blt d n = true) (h : St n M ((d, v) :: E) w0 L l F (LW ro ops Q rest)) : St n M E w0 L l F (LW ro ops Q (o :: rest)) := fun a W ha hk => by
  refine wpListIn_plain hg fun K hK => ?_
  refine wpIn_value (hp a W ha) ?_
  rw [hd]
  exact hK _ _ (h _ _ (ha.put hn v) hk)
theorem l_r (hp : Rn n M E w0 L l F o v) (hg : o.guard = none) (hd : o.dst = some d) (hn : Nat.blt d n = true) (h : St n M ((d, v) :: E) w0 L l F (LW ro ops Q rest)) : St n M E w0 L l F (LW ro ops Q (o :: rest)) := fun a W ha hk => by
  refine wpListIn_plain hg fun K hK => ?_
  refine wpIn_value (hp a W ha hk) ?_
  rw [hd]
  exact hK _ _ (h _ _ (ha.put hn v) hk)
/-- Under a guard. -/
theorem lg_p (hw : Wn n M E ops o true) (hp : Pu n M E o v) (hd : o.dst = some d) (hn : Nat.blt d n = true) (h : St n M ((d, v) :: E) w0 L l F (LW ro ops Q rest)) : St n M E w0 L l F (LW ro ops Q (o :: rest)) := fun a W ha hk => by
  refine wpListIn_step fun K hK => ?_
  rw [if_pos (hw a ha)]
  refine wpIn_value (hp a W ha) ?_
  rw [hd]
  exact hK _ _ (h _ _ (ha.put hn v) hk)
theorem lg_r (hw : Wn n M E ops o true) (hp : Rn n M E w0 L l F o v) (hd : o.dst = some d) (hn : Nat.blt d n = true) (h : St n M ((d, v) :: E) w0 L l F (LW ro ops Q rest)) : St n M E w0 L l F (LW ro ops Q (o :: rest)) := fun a W ha hk => by
  refine wpListIn_step fun K hK => ?_
  rw [if_pos (hw a ha)]
  refine wpIn_value (hp a W ha hk) ?_
  rw [hd]
  exact hK _ _ (h _ _ (ha.put hn v) hk)
theorem pD (hw : Wn n M E ops o false) (hd : o.dst = some d) (hn : Nat.blt d n = true) (h : St n M ((d, undef) :: E) w0 L l F (LW ro ops Q rest)) : St n M E w0 L l F (LW ro ops Q (o :: rest)) := fun a W ha hk => by
  refine wpListIn_step fun K hK => ?_
  rw [if_neg (by rw [hw a ha]; simp), hd]
  exact ⟨fun _ _ => trivial, hK _ _ (h _ _ (ha.put hn undef) hk)⟩
theorem gN {x : Operand} (ho : o.op = .move x) (hx : ev E x = some v) : Pu n M E o v := fun a W ha => by
  have h := ha.eval hx
  simp [execOp, ho, h]
theorem lH {x : Operand} (ho : o.op = .assign x) (hx : ev E x = some v) : Pu n M E o v := fun a W ha => by
  have h := ha.eval hx
  simp [execOp, ho, h]
def foB (P : Program) (t : TypeId) (k m : Nat) : Bool :=
  match P.underlying t with
  | some (.struct fs) => match fs[k]? with
    | some f => f.offset == m && (match P.info? f.type with | some i => i.size != 0 | none => false)
    | none => false
  | _ => false
theorem fN {t : TypeId} {x : Operand} {k b off : Nat} (m : Nat) (r : Nat) (hf : foB Tryz.prog t k m = true) (hr : off + m = r) (ho : o.op = .fieldAddr t x k) (hx : ev E x = some (.pointer (some ⟨b, off, none⟩))) : Pu n M E o (.pointer (some ⟨b, r, none⟩)) := fun a W ha => by
  have h := ha.eval hx
  subst hr
  unfold foB at hf
  cases hu : Tryz.prog.underlying t with
  | none => simp [hu] at hf
  | some D =>
    cases D with
    | struct fs =>
      cases hfk : fs[k]? with
      | none => simp [hu, hfk] at hf
      | some f =>
        cases hi : Tryz.prog.info? f.type with
        | none => simp [hu, hfk, hi] at hf
        | some i =>
          simp only [hu, hfk, hi, Bool.and_eq_true, beq_iff_eq, bne_iff_ne] at hf
          obtain ⟨h1, h3⟩ := hf
          subst h1
          simp [execOp, ho, h, Instr.fieldAt, run_underlying hu, hfk, Instr.sureAddr, fieldPlace, sizeOf, typeInfo, hi, h3, Addr.add_mid]
    | _ => simp [hu] at hf
/-- A row's size; one cell. -/
def rowB (P : Program) (t : TypeId) (m : Nat) : Bool := (match P.underlying t with | some d => d.isRow | none => false) && ((P.info? t).map (·.size) == some m)
def cellB (P : Program) (t : TypeId) : Bool := (match P.underlying t with | some d => !d.isRow | none => false) && ((P.info? t).map (·.size) == some 1)
theorem row_of {t : TypeId} {m : Nat} (h : rowB Tryz.prog t m = true) : (∃ d, Tryz.prog.underlying t = some d ∧ d.isRow = true) ∧ (Tryz.prog.info? t).map (·.size) = some m := by
  unfold rowB at h
  simp only [Bool.and_eq_true, beq_iff_eq] at h
  refine ⟨?_, h.2⟩
  have h1 := h.1
  cases hd : Tryz.prog.underlying t with
  | none => simp [hd] at h1
  | some d => exact ⟨d, rfl, by simpa [hd] using h1⟩
theorem cell_of {t : TypeId} (h : cellB Tryz.prog t = true) : (∃ d, Tryz.prog.underlying t = some d ∧ d.isRow = false) ∧ (Tryz.prog.info? t).map (·.size) = some 1 := by
  unfold cellB at h
  simp only [Bool.and_eq_true, beq_iff_eq] at h
  refine ⟨?_, h.2⟩
  have h1 := h.1
  cases hd : Tryz.prog.underlying t with
  | none => simp [hd] at h1
  | some d => exact ⟨d, rfl, by simpa [hd] using h1⟩
/-- A field of one cell. -/
def fcB (P : Program) (t : TypeId) (k : Nat) : Bool :=
  match P.underlying t with
  | some (.struct fs) => match fs[k]? with
    | some f => cellB P f.type
    | none => false
  | _ => false
def slB (P : Program) (t : TypeId) : Bool := match P.underlying t with | some (.slice _) => true | _ => false
theorem sl_of {t : TypeId} (h : slB Tryz.prog t = true) : ∃ e, Tryz.prog.underlying t = some (.slice e) := by
  unfold slB at h
  cases hd : Tryz.prog.underlying t with
  | none => simp [hd] at h
  | some d => cases d <;> simp [hd] at h ⊢
theorem run_loadVar_cell {t : TypeId} (h : cellB Tryz.prog t = true) {W : World} {a : Addr} (hc : W.cell? a = some v) : (loadVar t a).run Tryz.prog W = .ok v W := by
  obtain ⟨⟨d, hu, hd⟩, _⟩ := cell_of h
  have hagg : (isAgg t).run Tryz.prog W = .ok false W := by
    unfold isAgg
    rw [Sem.run_bind, run_underlying hu W]
    cases d <;> simp_all [TypeDesc.isRow]
  simp [loadVar, Sem.run_bind, hagg, hc]
theorem Kb.range {w : World} (h : Kb w0 L l F w) (k : Nat) {b : Nat} {tt : TypeId} {cs : Array Value} (hk : l[k]? = some (b, Ce tt cs)) {off m : Nat} {vs : List Value} (hv : (cs.toList.drop off).take m = vs) : w.rangeAt b off vs := fun j u hj => by
  subst hv
  rw [List.getElem?_take] at hj
  split at hj
  · rw [List.getElem?_drop] at hj
    have hlt : off + j < cs.size := by have := (List.getElem?_eq_some_iff.1 hj).1; simpa using this
    rw [h.rd k hk (off + j) hlt]
    rw [Array.getElem?_toList, Array.getElem?_eq_getElem hlt] at hj
    exact hj
  · cases hj
theorem kB {t : TypeId} {x : Operand} {b off : Nat} {tt : TypeId} {cs : Array Value} (k m : Nat) (vs : Array Value) (ht : rowB Tryz.prog t m = true) (ho : o.op = .load t x) (hx : ev E x = some (.pointer (some ⟨b, off, none⟩))) (hk : l[k]? = some (b, Ce tt cs)) (hv : (cs.toList.drop off).take m = vs.toList) (hm : Nat.beq vs.size m = true) : Rn n M E w0 L l F o (.agg vs) := fun a W ha hkb => by
  obtain ⟨⟨d, hu, hd⟩, hi⟩ := row_of ht
  have hm' : vs.toList.length = m := by simpa using Nat.eq_of_beq_eq_true hm
  have h := ha.eval hx
  have hl := run_loadVar_mid (P := Tryz.prog) W b off t vs.toList d (hkb.range k hk hv) hu hd (by rw [hi, hm'])
  rw [Array.toArray_toList] at hl
  simp [execOp, ho, h, Instr.loadAt, Instr.sureAddr, hl]
/-- A whole box. -/
theorem gO {t : TypeId} {x : Operand} {b : Nat} {tt : TypeId} {cs : Array Value} (k m : Nat) (ht : rowB Tryz.prog t m = true) (ho : o.op = .load t x) (hx : ev E x = some (.pointer (some ⟨b, 0, none⟩))) (hk : l[k]? = some (b, Ce tt cs)) (hm : Nat.beq cs.size m = true) : Rn n M E w0 L l F o (.agg cs) :=
  kB k m cs ht ho hx hk (by rw [List.drop_zero, List.take_of_length_le (by rw [Array.length_toList, Nat.eq_of_beq_eq_true hm]; exact Nat.le_refl _)]) hm
theorem cZ {t : TypeId} {x : Operand} {b off : Nat} {tt : TypeId} {cs : Array Value} (k : Nat) (v : Value) (ht : cellB Tryz.prog t = true) (ho : o.op = .load t x) (hx : ev E x = some (.pointer (some ⟨b, off, none⟩))) (hk : l[k]? = some (b, Ce tt cs)) (hv : cs[off]? = some v) : Rn n M E w0 L l F o v := fun a W ha hkb => by
  have h := ha.eval hx
  have hlt : off < cs.size := (Array.getElem?_eq_some_iff.1 hv).1
  have hc := hkb.rd k hk off hlt
  rw [(Array.getElem?_eq_some_iff.1 hv).2] at hc
  have hl := run_loadVar_cell ht hc
  simp [execOp, ho, h, Instr.loadAt, Instr.sureAddr, hl]
def evs0 (E : Env) : List Operand → Option (List Value)
  | [] => some []
  | x :: r => match ev E x, evs0 E r with
    | some v, some vs => some (v :: vs)
    | _, _ => none
theorem evs0_eval {a : Act} (ha : Sf n M E a) : ∀ {xs : List Operand} {vs : List Value}, evs0 E xs = some vs → xs.map a.eval = vs
  | [], vs, h => by simpa [evs0] using h
  | x :: r, vs, h => by
    rw [evs0] at h
    cases h1 : ev E x with
    | none => simp [h1] at h
    | some v =>
      cases h2 : evs0 E r with
      | none => simp [h1, h2] at h
      | some us =>
        rw [h1, h2] at h
        injection h with h
        subst h
        rw [List.map_cons, ha.eval h1, evs0_eval ha h2]
theorem cQ {op : BinOp} {t t' : TypeId} {x y : Operand} {u w : Value} (ho : o.op = .binOp op t x y t') (hx : ev E x = some u) (hy : ev E y = some w) (hr : ∀ W, ((do eqGuard op t x y u w; binOp op t u w : Sem Value)).run Tryz.prog W = .ok v W) : Pu n M E o v := fun a W ha => by
  have h := ha.eval hx
  have h' := ha.eval hy
  have := hr W
  simp only [execOp, ho, h, h', Sem.run_bind] at this ⊢
  rw [this]
  rfl
section
variable {t t' : TypeId} {x y : Operand} {p q : Int} {c e : Bool}
theorem oJ (ho : o.op = .binOp .lss t x y t') (hx : ev E x = some (I p)) (hy : ev E y = some (I q)) : Pu n M E o (.bool (decide (p < q))) := cQ ho hx hy fun W => by simp [go_sem]
theorem oK (ho : o.op = .binOp .leq t x y t') (hx : ev E x = some (I p)) (hy : ev E y = some (I q)) : Pu n M E o (.bool (decide (p ≤ q))) := cQ ho hx hy fun W => by simp [go_sem]
theorem qI (ho : o.op = .binOp .gtr t x y t') (hx : ev E x = some (I p)) (hy : ev E y = some (I q)) : Pu n M E o (.bool (decide (q < p))) := cQ ho hx hy fun W => by simp [go_sem]
theorem qJ (ho : o.op = .binOp .geq t x y t') (hx : ev E x = some (I p)) (hy : ev E y = some (I q)) : Pu n M E o (.bool (decide (q ≤ p))) := cQ ho hx hy fun W => by simp [go_sem]
theorem fC (ho : o.op = .binOp .eql t x y t') (hx : ev E x = some (I p)) (hy : ev E y = some (I q)) : Pu n M E o (.bool (decide (p = q))) := cQ ho hx hy fun W => by simp [go_sem]; rfl
theorem qK (ho : o.op = .binOp .neq t x y t') (hx : ev E x = some (I p)) (hy : ev E y = some (I q)) : Pu n M E o (.bool (!decide (p = q))) := cQ ho hx hy fun W => by simp [go_sem]; rfl
theorem qL (z : Int) (hz : wrap64 (p + q) = z) (ho : o.op = .binOp .add t x y t') (hx : ev E x = some (I p)) (hy : ev E y = some (I q)) : Pu n M E o (I z) := cQ ho hx hy fun W => by subst hz; simp [go_sem, i64_w]
theorem qM (z : Int) (hz : wrap64 (p - q) = z) (ho : o.op = .binOp .sub t x y t') (hx : ev E x = some (I p)) (hy : ev E y = some (I q)) : Pu n M E o (I z) := cQ ho hx hy fun W => by subst hz; simp [go_sem, i64_w]
theorem lI (z : Int) (hz : wrap64 (p * q) = z) (ho : o.op = .binOp .mul t x y t') (hx : ev E x = some (I p)) (hy : ev E y = some (I q)) : Pu n M E o (I z) := cQ ho hx hy fun W => by subst hz; simp [go_sem, i64_w]
theorem kC (z : Int) (hz : andS p q = z) (ho : o.op = .binOp .and t x y t') (hx : ev E x = some (I p)) (hy : ev E y = some (I q)) : Pu n M E o (I z) := cQ ho hx hy fun W => by subst hz; rfl
theorem qN (z : Int) (hz : orS p q = z) (ho : o.op = .binOp .or t x y t') (hx : ev E x = some (I p)) (hy : ev E y = some (I q)) : Pu n M E o (I z) := cQ ho hx hy fun W => by subst hz; rfl
theorem jL (ho : o.op = .binOp .shr t x y t') (hx : ev E x = some (I p)) (hy : ev E y = some (.int .u64 1)) : Pu n M E o (I (p / 2)) := cQ ho hx hy fun W => by simp [go_sem]
theorem pE (ho : o.op = .binOp .shr t x y t') (hx : ev E x = some (I p)) (hy : ev E y = some (.int .u64 3)) : Pu n M E o (I (p / 8)) := cQ ho hx hy fun W => by simp [go_sem]
theorem pF (ho : o.op = .binOp .shr t x y t') (hx : ev E x = some (I p)) (hy : ev E y = some (.int .u64 4)) : Pu n M E o (I (p / 16)) := cQ ho hx hy fun W => by simp [go_sem]
theorem eq188 (op : BinOp) (a b c d : Int) (x y : Operand) (W : World) : ((do eqGuard .eql 188 x y (.agg #[I a, I b]) (.agg #[I c, I d]); binOp .eql 188 (.agg #[I a, I b]) (.agg #[I c, I d]) : Sem Value)).run Tryz.prog W = .ok (.bool (decide (a = c ∧ b = d))) W := by
  simp [go_sem]
  by_cases h : a = c <;> by_cases h' : b = d <;> simp [h, h']
theorem ne188 (op : BinOp) (a b c d : Int) (x y : Operand) (W : World) : ((do eqGuard .neq 188 x y (.agg #[I a, I b]) (.agg #[I c, I d]); binOp .neq 188 (.agg #[I a, I b]) (.agg #[I c, I d]) : Sem Value)).run Tryz.prog W = .ok (.bool (!decide (a = c ∧ b = d))) W := by
  simp [go_sem]
  by_cases h : a = c <;> by_cases h' : b = d <;> simp [h, h']
theorem nG {a b c d : Int} (ho : o.op = .binOp .eql 188 x y t') (hx : ev E x = some (.agg #[I a, I b])) (hy : ev E y = some (.agg #[I c, I d])) : Pu n M E o (.bool (decide (a = c ∧ b = d))) := cQ ho hx hy (eq188 .eql a b c d x y)
theorem nH {a b c d : Int} (ho : o.op = .binOp .neq 188 x y t') (hx : ev E x = some (.agg #[I a, I b])) (hy : ev E y = some (.agg #[I c, I d])) : Pu n M E o (.bool (!decide (a = c ∧ b = d))) := cQ ho hx hy (ne188 .neq a b c d x y)
def evps (E : Env) : List (Nat × Operand) → Option (List (Nat × Value))
  | [] => some []
  | (i, x) :: r => match ev E x, evps E r with
    | some v, some vs => some ((i, v) :: vs)
    | _, _ => none
theorem evps_eval {a : Act} (ha : Sf n M E a) : ∀ {xs : List (Nat × Operand)} {vs : List (Nat × Value)}, evps E xs = some vs → xs.map (fun (i, x) => (i, a.eval x)) = vs
  | [], vs, h => by simpa [evps] using h
  | (i, x) :: r, vs, h => by
    rw [evps] at h
    cases h1 : ev E x with
    | none => simp [h1] at h
    | some v =>
      cases h2 : evps E r with
      | none => simp [h1, h2] at h
      | some us =>
        rw [h1, h2] at h
        injection h with h
        subst h
        rw [List.map_cons, evps_eval ha h2]
        simp only [ha.eval h1]
theorem bB {t : TypeId} {ps : List (Nat × Operand)} {us : List (Nat × Value)} (cells : Array Value) (ho : o.op = .build t ps.toArray) (hx : evps E ps = some us) (hb : Tryz.prog.built t us = some cells) : Pu n M E o (.agg cells) := fun a W ha => by
  have h := evps_eval ha hx
  have hr := run_build (P := Tryz.prog) W t us.toArray cells (by simpa using hb)
  simp [execOp, ho, h, hr]
theorem jA {ts : Array TypeId} (ho : o.op = .call { callee := .builtin .max, args := [x, y].toArray, argTypes := ts }) (hx : ev E x = some (I p)) (hy : ev E y = some (I q)) : Pu n M E o (I (mxS p q)) := fun a W ha => by
  have h := ha.eval hx
  have h' := ha.eval hy
  have hr : (Builtin.max_ ts o.type #[I p, I q]).run Tryz.prog W = .ok (I (mxS p q)) W := by rw [max_two]; simp [max2_int, mxS]
  simp only [execOp, ho, resolve, invoke, builtin, Sem.run_bind, Sem.run_pure, Result.andThen_ok, List.map_toArray, List.map_cons, List.map_nil, h, h', hr]
theorem kD {ts : Array TypeId} (ho : o.op = .call { callee := .builtin .min, args := [x, y].toArray, argTypes := ts }) (hx : ev E x = some (I p)) (hy : ev E y = some (I q)) : Pu n M E o (I (mnS p q)) := fun a W ha => by
  have h := ha.eval hx
  have h' := ha.eval hy
  have hr : (Builtin.min_ ts o.type #[I p, I q]).run Tryz.prog W = .ok (I (mnS p q)) W := by rw [min_two]; simp [min2_int, mnS]
  simp only [execOp, ho, resolve, invoke, builtin, Sem.run_bind, Sem.run_pure, Result.andThen_ok, List.map_toArray, List.map_cons, List.map_nil, h, h', hr]
theorem qO (z : Int) (hz : wrap64 (-p) = z) (ho : o.op = .unOp .neg t x) (hx : ev E x = some (I p)) : Pu n M E o (I z) := fun a W ha => by
  have h := ha.eval hx
  subst hz
  have hr : (Op.unary .neg (I p)).run Tryz.prog W = .ok (I (wrap64 (-p))) W := by simp [go_sem, i64_w]
  simp [execOp, ho, h, hr]
theorem eF {xs : Array Value} {k : Nat} (m sz : Nat) (hf : foB Tryz.prog t k m = true) (ho : o.op = .field t x k) (hx : ev E x = some (.agg xs)) (hv : xs[m]? = some v) (hc : fcB Tryz.prog t k = true) : Pu n M E o v := fun a W ha => by
  have h := ha.eval hx
  unfold foB at hf
  unfold fcB at hc
  cases hu : Tryz.prog.underlying t with
  | none => simp [hu] at hf
  | some D =>
    cases D with
    | struct fs =>
      cases hfk : fs[k]? with
      | none => simp [hu, hfk] at hf
      | some f =>
        cases hi : Tryz.prog.info? f.type with
        | none => simp [hu, hfk, hi] at hf
        | some i =>
          simp only [hu, hfk, hi, Bool.and_eq_true, beq_iff_eq, bne_iff_ne] at hf
          obtain ⟨h1, h3⟩ := hf
          subst h1
          simp only [hu, hfk] at hc
          obtain ⟨⟨d, hud, hd⟩, _⟩ := cell_of hc
          have hagg : (isAgg f.type).run Tryz.prog W = .ok false W := by
            unfold isAgg
            rw [Sem.run_bind, run_underlying hud W]
            cases d <;> simp_all [TypeDesc.isRow]
          simp [execOp, ho, h, Instr.field, run_underlying hu, hfk, part, hagg, hv, asAgg]
    | _ => simp [hu] at hf
/-- .. the other side not reckoned. -/
theorem nI {x y z : Operand} (ho : o.op = .pick x y z) (hx : ev E x = some (.bool c)) (hc : c = true) (hy : ev E y = some v) : Pu n M E o v := fun a W ha => by
  have h := ha.eval hx
  have h' := ha.eval hy
  subst hc
  simp [execOp, ho, h, h', asBool]
theorem nJ {x y z : Operand} (ho : o.op = .pick x y z) (hx : ev E x = some (.bool c)) (hc : c = false) (hy : ev E z = some v) : Pu n M E o v := fun a W ha => by
  have h := ha.eval hx
  have h' := ha.eval hy
  subst hc
  simp [execOp, ho, h, h', asBool]
theorem oL {t : TypeId} {x : Operand} (ho : o.op = .unOp .not t x) (hx : ev E x = some (.bool c)) : Pu n M E o (.bool (!c)) := fun a W ha => by
  have h := ha.eval hx
  have hr : ∀ c, (Op.unary .not (.bool c)).run Tryz.prog W = .ok (.bool !c) W := fun c => by simp [go_sem]
  simp [execOp, ho, h, hr]
theorem jB {x : Operand} {k : Nat} {vs : List Value} (ho : o.op = .extract x k) (hx : ev E x = some (.tuple vs.toArray)) (hk : vs[k]? = some v) : Pu n M E o v := fun a W ha => by
  have h := ha.eval hx
  simp [execOp, ho, h, Instr.extract, hk]
theorem cE {fn : Nat} {xs ys : List Operand} {us vs : List Value} (ho : o.op = .makeFunc (.func fn) xs.toArray ys.toArray) (hx : evs0 E xs = some us) (hy : evs0 E ys = some vs) : Pu n M E o (.func (.func fn) us.toArray vs.toArray) := fun a W ha => by
  have h := evs0_eval ha hx
  have h' := evs0_eval ha hy
  simp [execOp, ho, Instr.makeFunc, h, h']
/-- An element's place. -/
def elB (P : Program) (t : TypeId) (sz : Nat) : Bool := match P.underlying t with | some (.slice e) => (P.info? e).map (·.size) == some sz | _ => false
theorem lJ {t : TypeId} {x ix : Operand} {A : Option Addr} {m c b p : Nat} {i : Int} (sz : Nat) (hs : elB Tryz.prog t sz = true) (ho : o.op = .indexAddr t x ix) (hx : ev E x = some (.slice A m c)) (hi : ev E ix = some (I i)) (hA : A = some ⟨b, p, none⟩) (h0 : 0 ≤ i) (h1 : i < m) : Pu n M E o (.pointer (some ⟨b, p + i.toNat * sz, none⟩)) := fun a W ha => by
  have h := ha.eval hx
  have h' := ha.eval hi
  subst hA
  unfold elB at hs
  cases hu : Tryz.prog.underlying t with
  | none => simp [hu] at hs
  | some D =>
    cases D with
    | slice e =>
      simp only [hu, beq_iff_eq] at hs
      cases hi : Tryz.prog.info? e with
      | none => simp [hi] at hs
      | some ie =>
        have hsz : ie.size = sz := by simpa [hi] using hs
        subst hsz
        simp [execOp, ho, h, h', Instr.indexAt, asIntOf, run_underlying hu, h0, h1, sizeOf, typeInfo, hi, Addr.add_mid]
    | _ => simp [hu] at hs
/-- What can be read, at a place. -/
theorem dG {t : TypeId} {x : Operand} {b off : Nat} (m : Nat) (vs : Array Value) (ht : rowB Tryz.prog t m = true) (ho : o.op = .load t x) (hx : ev E x = some (.pointer (some ⟨b, off, none⟩))) (hm : Nat.beq vs.size m = true) (hr : ∀ W, Kb w0 L l F W → W.rangeAt b off vs.toList) : Rn n M E w0 L l F o (.agg vs) := fun a W ha hkb => by
  obtain ⟨⟨d, hu, hd⟩, hi⟩ := row_of ht
  have hm' : vs.toList.length = m := by simpa using Nat.eq_of_beq_eq_true hm
  have h := ha.eval hx
  have hl := run_loadVar_mid (P := Tryz.prog) W b off t vs.toList d (hr W hkb) hu hd (by rw [hi, hm'])
  rw [Array.toArray_toList] at hl
  simp [execOp, ho, h, Instr.loadAt, Instr.sureAddr, hl]
theorem cI {t : TypeId} {x : Operand} {b off : Nat} (v : Value) (ht : cellB Tryz.prog t = true) (ho : o.op = .load t x) (hx : ev E x = some (.pointer (some ⟨b, off, none⟩))) (hr : ∀ W, Kb w0 L l F W → W.cell? ⟨b, off, none⟩ = some v) : Rn n M E w0 L l F o v := fun a W ha hkb => by
  have h := ha.eval hx
  have hl := run_loadVar_cell ht (hr W hkb)
  simp [execOp, ho, h, Instr.loadAt, Instr.sureAddr, hl]
theorem jC {t : TypeId} {x : Operand} {A : Option Addr} {m c : Nat} (hs : slB Tryz.prog t = true) (ho : o.op = .call { callee := .builtin .len, args := [x].toArray, argTypes := [t].toArray }) (hx : ev E x = some (.slice A m c)) : Pu n M E o (I m) := fun a W ha => by
  have h := ha.eval hx
  obtain ⟨e, he⟩ := sl_of hs
  have hr : (Builtin.len_ [t].toArray o.type #[.slice A m c]).run Tryz.prog W = .ok (I m) W := by simp [Builtin.len_, goInt, run_underlying he]
  simp only [execOp, ho, resolve, invoke, builtin, Sem.run_bind, Sem.run_pure, Result.andThen_ok, List.map_toArray, List.map_cons, List.map_nil, h, hr]
end
end
section
variable {ro : Option Nat} {n : Nat} {M : List Deferred} {E : Env} {w0 : World} {L : Nat → Prop} {l : Bxs} {F : Fct} {ops : Array Oper} {Q : Exit → Act → World → Prop} {rest : List Oper} {o : Oper} {d : Nat} {v : Value} {X K : Act → World → Prop}
def Fx (n : Nat) (M : List Deferred) (E : Env) (w0 : World) (L : Nat → Prop) (l : Bxs) (F : Fct) (Q : Exit → Act → World → Prop) (o : Oper) (K : Act → World → Prop) : Prop := (∀ c, o.op ≠ .defer c) ∧ ∀ a W, Sf n M E a → Kb w0 L l F W → o.wp Tryz.prog a W K Q
theorem l_x (hf : Fx n M E w0 L l F Q o (LW ro ops Q rest)) (hg : o.guard = none) : St n M E w0 L l F (LW ro ops Q (o :: rest)) := fun a W ha hk =>
  wpListIn_plain hg fun K hK => wpIn_of_wp hf.1 (Oper.wp_mono hK (hf.2 a W ha hk))
theorem kX (hw : Wn n M E ops o true) (hf : Fx n M E w0 L l F Q o (LW ro ops Q rest)) : St n M E w0 L l F (LW ro ops Q (o :: rest)) := fun a W ha hk =>
  wpListIn_step fun K hK => by
    rw [if_pos (hw a ha)]
    exact wpIn_of_wp hf.1 (Oper.wp_mono hK (hf.2 a W ha hk))
def szB (P : Program) (t : TypeId) (m : Nat) : Bool := (P.info? t).map (·.size) == some m
theorem run_storeVar_at {t : TypeId} {b off : Nat} {W : World} (v : Value) (hi : szB Tryz.prog t v.cells.size = true) (ht : W.there b off v.cells.size) (h1 : v.cells.all (·.oneCell') = true) : (storeVar t ⟨b, off, none⟩ v).run Tryz.prog W = .ok () (W.setCells b off v.cells.toList) := by
  have := run_storeCells_cells (P := Tryz.prog) b off v.cells.toList 0 W (fun j hj => by simpa using (ht j (by simpa using hj)).1) (fun j hj => by simpa using (ht j (by simpa using hj)).2)
    (fun v hv => (Array.all_eq_true_iff_forall_mem.1 h1) v (by simpa using hv))
  unfold szB at hi
  cases hq : Tryz.prog.info? t with
  | none => simp [hq] at hi
  | some i =>
    have hs : i.size = v.cells.size := by simpa [hq] using hi
    simp only [Nat.add_zero] at this
    simp [storeVar, sizeOf, typeInfo, hq, hs, this]
theorem Kb.there {w : World} (h : Kb w0 L l F w) (k : Nat) {b : Nat} {tt : TypeId} {cs : Array Value} (hk : l[k]? = some (b, Ce tt cs)) {off m : Nat} (hm : off + m ≤ cs.size) : w.there b off m := fun j hj => ⟨by rw [h.rd k hk (off + j) (by omega)]; rfl, h.fz k hk (off + j)⟩
theorem jD {t : TypeId} {x y : Operand} {b off : Nat} {tt : TypeId} {cs : Array Value} (k : Nat) (l' : Bxs) (ho : o.op = .store t x y) (hd : o.dst = none) (hx : ev E x = some (.pointer (some ⟨b, off, none⟩))) (hy : ev E y = some v) (hk : l[k]? = some (b, Ce tt cs)) (hi : szB Tryz.prog t v.cells.size = true)
    (h1 : v.cells.toList.all (·.oneCell') = true) (hs : Nat.ble (off + v.cells.size) cs.size = true) (hl : l.set k (b, Ce tt (putL cs off v.cells.toList)) = l') (h : St n M E w0 L l' F K) : Fx n M E w0 L l F Q o K := by
  refine ⟨fun c => by rw [ho]; simp, fun a W ha hkb => ?_⟩
  subst hl
  have hX := ha.eval hx
  have hY := ha.eval hy
  have hle := Nat.le_of_ble_eq_true hs
  have hr := run_storeVar_at v hi (hkb.there k hk hle) (by rw [← Array.all_toList]; exact h1)
  unfold Oper.wp
  simp only [execOp, ho, hX, hY, Instr.storeAt, Instr.sureAddr, Sem.run_bind, Sem.run_pure, Result.andThen_ok, hr, Oper.upon_skip, hd]
  exact h a _ ha (Kb.puts k v.cells.toList cs off hkb hk)
/-- .. of a whole box. -/
theorem nK {t : TypeId} {x y : Operand} {b : Nat} {tt : TypeId} {cs : Array Value} (k : Nat) (cs' : Array Value) (l' : Bxs) (ho : o.op = .store t x y) (hd : o.dst = none) (hx : ev E x = some (.pointer (some ⟨b, 0, none⟩))) (hy : ev E y = some (.agg cs')) (hk : l[k]? = some (b, Ce tt cs)) (hi : szB Tryz.prog t cs'.size = true)
    (h1 : cs'.toList.all (·.oneCell') = true) (hs : Nat.beq cs'.size cs.size = true) (hl : l.set k (b, Ce tt cs') = l') (h : St n M E w0 L l' F K) : Fx n M E w0 L l F Q o K := by
  refine ⟨fun c => by rw [ho]; simp, fun a W ha hkb => ?_⟩
  subst hl
  have hX := ha.eval hx
  have hY := ha.eval hy
  have hr := run_storeVar_at (b := b) (off := 0) (W := W) (.agg cs') hi (hkb.there k hk (by rw [Nat.zero_add]; exact Nat.le_of_eq (Nat.eq_of_beq_eq_true hs))) (by rw [← Array.all_toList]; exact h1)
  unfold Oper.wp
  simp only [execOp, ho, hX, hY, Instr.storeAt, Instr.sureAddr, Sem.run_bind, Sem.run_pure, Result.andThen_ok, hr, Oper.upon_skip, hd]
  exact h a _ ha (hkb.fill k hk cs' hs)
/-- A store of one cell at a reckoned place. -/
theorem dN {t : TypeId} {x y : Operand} {b off : Nat} {tt : TypeId} {cs : Array Value} (k : Nat) (l' : Bxs) (ho : o.op = .store t x y) (hd : o.dst = none) (hx : ev E x = some (.pointer (some ⟨b, off, none⟩))) (hy : ev E y = some v) (hk : l[k]? = some (b, Ce tt cs)) (hi : szB Tryz.prog t 1 = true)
    (h1 : v.oneCell' = true) (hs : off < cs.size) (hl : l.set k (b, Ce tt (cs.setIfInBounds off v)) = l') (h : St n M E w0 L l' F K) : Fx n M E w0 L l F Q o K := by
  refine ⟨fun c => by rw [ho]; simp, fun a W ha hkb => ?_⟩
  subst hl
  have hX := ha.eval hx
  have hY := ha.eval hy
  have hv : v.cells = #[v] := by cases v <;> first | rfl | cases h1
  have hr := run_storeVar_at (b := b) (off := off) (W := W) v (by rw [hv]; exact hi) (hkb.there k hk (by rw [hv]; exact hs)) (by rw [hv]; simpa using h1)
  rw [hv] at hr
  unfold Oper.wp
  simp only [execOp, ho, hX, hY, Instr.storeAt, Instr.sureAddr, Sem.run_bind, Sem.run_pure, Result.andThen_ok, hr, Oper.upon_skip, hd]
  exact h a _ ha (Kb.puts k [v] cs off hkb hk)
/-- A new box: of a type's zero; of a value. -/
def zeroB (P : Program) (t : TypeId) (cs : Array Value) : Prop := ((P.info? t).bind (·.zero)).map (·.cells) = some cs
theorem lK {t : TypeId} (cs : Array Value) (hz : zeroB Tryz.prog t cs) (ho : o.op = .alloc t) (hd : o.dst = some d) (hn : Nat.blt d n = true) (h : ∀ g, St n M ((d, .pointer (some ⟨g, 0, none⟩)) :: E) w0 L ((g, Ce t cs) :: l) F K) : Fx n M E w0 L l F Q o K := by
  refine ⟨fun c => by rw [ho]; simp, fun a W ha hkb => ?_⟩
  revert ha hkb
  intro ha hkb
  unfold zeroB at hz
  cases hi : Tryz.prog.info? t with
  | none => simp [hi] at hz
  | some i =>
    cases hq : i.zero with
    | none => simp [hi, hq] at hz
    | some z =>
      have hz' : z.cells = cs := by simpa [hi, hq] using hz
      subst hz'
      unfold Oper.wp
      have hr : (Instr.alloc t true (.tuple #[])).run Tryz.prog W = .ok (.pointer (some ⟨W.heap.size, 0, none⟩)) (W.alloc (.cells z.cells t)) := by
        simp only [Instr.alloc, zeroValue, typeInfo, newVar, newRow, Sem.run_bind, Sem.run_pure, Result.andThen_ok, run_program, hi, hq, run_newObj_alloc]
      simp only [execOp, ho, Sem.run_bind, Sem.run_pure, Result.andThen_ok, hr, Oper.upon_value, hd]
      exact h W.heap.size _ _ (ha.put hn _) (hkb.alloc (.cells z.cells t))
theorem bC {t : TypeId} {x : Operand} (cs : Array Value) (ho : o.op = .box t x) (hx : ev E x = some v) (hv : v.cells = cs) (hd : o.dst = some d) (hn : Nat.blt d n = true) (h : ∀ g, St n M ((d, .pointer (some ⟨g, 0, none⟩)) :: E) w0 L ((g, Ce t cs) :: l) F K) : Fx n M E w0 L l F Q o K := by
  refine ⟨fun c => by rw [ho]; simp, fun a W ha hkb => ?_⟩
  revert ha hkb
  intro ha hkb
  subst hv
  have hX := ha.eval hx
  unfold Oper.wp
  have hr : (Instr.box t v).run Tryz.prog W = .ok (.pointer (some ⟨W.heap.size, 0, none⟩)) (W.alloc (.cells v.cells t)) := by
    simp only [Instr.box, newVar, newRow, Sem.run_bind, Sem.run_pure, Result.andThen_ok, run_newObj_alloc]
  simp only [execOp, ho, hX, Sem.run_bind, Sem.run_pure, Result.andThen_ok, hr, Oper.upon_value, hd]
  exact h W.heap.size _ _ (ha.put hn _) (hkb.alloc (.cells v.cells t))
/-- What a call leaves, and what follows. -/
def Nx (n : Nat) (M : List Deferred) (E : Env) (d : Nat) (X : Act → World → Prop) (e : Ending) (W : World) : Prop := ∃ v, e = .returned v ∧ ∀ a, Sf n M ((d, v) :: E) a → X a W
theorem nx {W : World} {l' : Bxs} {F' : Fct} (k : Kb w0 L l' F' W) (h : St n M ((d, v) :: E) w0 L l' F' X) : Nx n M E d X (.returned v) W := ⟨v, rfl, fun a ha => h a W ha k⟩
def fnB (P : Program) (f : FuncId) : Bool := match P.funcs[f]? with | some fn => fn.name != "runtime.NumGoroutine" && fn.body.isSome | none => false
theorem cR {f : FuncId} {xs : List Operand} {ts : Array TypeId} (vs : List Value) (R : World → Ending → World → Prop) (hf : fnB Tryz.prog f = true) (ho : o.op = .call { callee := .value (.func f), args := xs.toArray, argTypes := ts }) (hx : evs0 E xs = some vs) (hd : o.dst = some d) (hn : Nat.blt d n = true)
    (hc : ∀ W, Kb w0 L l F W → Calls Tryz.prog f vs.toArray W (R W)) (h : ∀ W e W', Kb w0 L l F W → R W e W' → Nx n M E d K e W') : Fx n M E w0 L l F Q o K := by
  refine ⟨fun c => by rw [ho]; simp, fun a W ha hkb => ?_⟩
  unfold fnB at hf
  cases hfn : Tryz.prog.funcs[f]? with
  | none => simp [hfn] at hf
  | some fn =>
    simp only [hfn, Bool.and_eq_true] at hf
    have he := enters_ hfn (by simpa using hf.1) hf.2 vs.toArray W
    have hX := evs0_eval ha hx
    have hrun : (execOp a.eval o).run Tryz.prog W = .ok (.enter f vs.toArray) W := by
      unfold execOp
      simp [ho, resolve, Deferred.ofValue, invoke, Act.eval, hX, he]
    unfold Oper.wp
    rw [hrun, Oper.upon_enter]
    refine (hc W hkb).mono fun e w'' hh => ?_
    obtain ⟨v, rfl, hk⟩ := h W e w'' hkb hh
    rw [hd]
    exact hk _ (ha.put hn v)
/-- A call that is walked in its place. -/
theorem qP {f : FuncId} {xs : List Operand} {ts : Array TypeId} (vs : List Value) (hf : fnB Tryz.prog f = true) (ho : o.op = .call { callee := .value (.func f), args := xs.toArray, argTypes := ts }) (hx : evs0 E xs = some vs) (hd : o.dst = some d) (hn : Nat.blt d n = true)
    (h : ∀ W, Kb w0 L l F W → Calls Tryz.prog f vs.toArray W (Nx n M E d K)) : Fx n M E w0 L l F Q o K :=
  cR vs (fun _ => Nx n M E d K) hf ho hx hd hn h fun _ _ _ _ hr => hr
/-- A call of a closure. -/
theorem bV {x : Operand} {f : FuncId} {xs : List Operand} {ts : Array TypeId} {first caps : Array Value} (vs : List Value) (R : World → Ending → World → Prop) (hf : fnB Tryz.prog f = true) (ho : o.op = .call { callee := .value x, args := xs.toArray, argTypes := ts }) (hv : ev E x = some (.func (.func f) first caps)) (hx : evs0 E xs = some vs) (hd : o.dst = some d) (hn : Nat.blt d n = true)
    (args : List Value) (hargs : first ++ vs.toArray ++ caps = args.toArray)
    (hc : ∀ W, Kb w0 L l F W → Calls Tryz.prog f args.toArray W (R W)) (h : ∀ W e W', Kb w0 L l F W → R W e W' → Nx n M E d K e W') : Fx n M E w0 L l F Q o K := by
  refine ⟨fun c => by rw [ho]; simp, fun a W ha hkb => ?_⟩
  unfold fnB at hf
  cases hfn : Tryz.prog.funcs[f]? with
  | none => simp [hfn] at hf
  | some fn =>
    simp only [hfn, Bool.and_eq_true] at hf
    have he := enters_ hfn (by simpa using hf.1) hf.2 args.toArray W
    have hX := evs0_eval ha hx
    have hV := ha.eval hv
    have hrun : (execOp a.eval o).run Tryz.prog W = .ok (.enter f args.toArray) W := by
      unfold execOp
      simp only [ho, resolve, hV, Deferred.ofValue, List.map_toArray, hX, Sem.run_bind, Sem.run_pure, Result.andThen_ok, invoke]
      rw [hargs, he]
    unfold Oper.wp
    rw [hrun, Oper.upon_enter]
    refine (hc W hkb).mono fun e w'' hh => ?_
    obtain ⟨v, rfl, hk⟩ := h W e w'' hkb hh
    rw [hd]
    exact hk _ (ha.put hn v)
theorem cA {x : Operand} {f : FuncId} {xs : List Operand} {ts : Array TypeId} {first caps : Array Value} (vs : List Value) (hf : fnB Tryz.prog f = true) (ho : o.op = .call { callee := .value x, args := xs.toArray, argTypes := ts }) (hv : ev E x = some (.func (.func f) first caps)) (hx : evs0 E xs = some vs) (hd : o.dst = some d) (hn : Nat.blt d n = true)
    (args : List Value) (hargs : first ++ vs.toArray ++ caps = args.toArray) (h : ∀ W, Kb w0 L l F W → Calls Tryz.prog f args.toArray W (Nx n M E d K)) : Fx n M E w0 L l F Q o K :=
  bV vs (fun _ => Nx n M E d K) hf ho hv hx hd hn args hargs h fun _ _ _ _ hr => hr
abbrev QOk (Q : Exit → Act → World → Prop) : Prop := ∀ c a w d v, Q (.panic c) (a.put (some d) v) w → Q (.panic c) a w
/-- Which operations are done, as a number's bits. -/
def bA (n m : Nat) : Array Bool := (Array.range n).map (Nat.testBit m)
theorem nL {id : Nat} {r : List Oper} (k : Nat) (ds : List Nat) (lst : Array Bool) (hn : Nat.beq r.length k = true) (hl : Array.replicate k false = lst) (h : St n M E w0 L l F (wpAnyLast Tryz.prog .any r.toArray Q (Kb w0 L l F) ds k lst)) : St n M E w0 L l F (CW none (Code.region id r.toArray true) Q) := fun a W ha hk =>
  wpIn_wide.2 <| start_ lst (by kernel_rfl) (by simpa using Nat.eq_of_beq_eq_true hn) hl hk.drew (fun _ => h a W.drew ha hk.drew)
variable {S : World → Prop} {ds : List Nat} {fuel : Nat} {lst : Array Bool} {l0 : Bxs} {F0 : Fct}
theorem eZ (i : Nat) (lst' : Array Bool) (hq : QOk Q) (hi : ops[i]? = some o) (hc : anyB .any ops lst lst' i = true) (hp : Pu n M E o v) (hw : Wn n M E ops o true) (hd : o.dst = some d) (hn : Nat.blt d n = true) (h : St n M ((d, v) :: E) w0 L l F (wpAnyLast Tryz.prog .any ops Q S ds fuel lst')) : St n M E w0 L l F (wpAnyLast Tryz.prog .any ops Q S ds (fuel + 1) lst) := fun a W ha hk =>
  pure_ (N := some d) lst' hi hd hc (by rw [hd]; exact fun c a w => hq c a w d v) (Or.inl ⟨hw a ha, fun w => hp a w ha⟩) rfl (h _ _ (ha.put hn v) hk)
theorem qQ (i : Nat) (lst' : Array Bool) (hq : QOk Q) (hi : ops[i]? = some o) (hc : anyB .any ops lst lst' i = true) (hw : Wn n M E ops o false) (hd : o.dst = some d) (hn : Nat.blt d n = true) (h : St n M ((d, undef) :: E) w0 L l F (wpAnyLast Tryz.prog .any ops Q S ds fuel lst')) : St n M E w0 L l F (wpAnyLast Tryz.prog .any ops Q S ds (fuel + 1) lst) := fun a W ha hk =>
  pure_ (N := some d) lst' hi hd hc (by rw [hd]; exact fun c a w => hq c a w d undef) (Or.inr ⟨hw a ha, rfl⟩) rfl (h _ _ (ha.put hn undef) hk)
/-- What reads: hS: what the region began with still holds. -/
theorem hO (i : Nat) (lst' : Array Bool) (hq : QOk Q) (hS : ∀ W, Kb w0 L l F W → Kb w0 L l0 F0 W) (hi : ops[i]? = some o) (hc : takeB .any ops ds lst lst' i = true) (hp : Rn n M E w0 L l0 F0 o v) (hw : Wn n M E ops o true) (hd : o.dst = some d) (hn : Nat.blt d n = true) (h : St n M ((d, v) :: E) w0 L l F (wpAnyLast Tryz.prog .any ops Q (Kb w0 L l0 F0) ds fuel lst')) : St n M E w0 L l F (wpAnyLast Tryz.prog .any ops Q (Kb w0 L l0 F0) ds (fuel + 1) lst) := fun a W ha hk =>
  take_ (N := some d) lst' hi hd hc (by rw [hd]; exact fun c a w => hq c a w d v) (Or.inl ⟨hw a ha, fun w hw' => hp a w ha hw'⟩) (hS W hk) rfl (h _ _ (ha.put hn v) hk)
/-- What acts, alone: what the region began with holds behind it. -/
theorem sU (i : Nat) (lst' : Array Bool) (hi : ops[i]? = some o) (hc : readyB .any ops lst lst' i = true) (hds : ds.contains i = false) (hw : Wn n M E ops o true) (h : Fx n M E w0 L l F Q o (fun a W => S W ∧ wpAnyLast Tryz.prog .any ops Q S ds fuel lst' a W)) : St n M E w0 L l F (wpAnyLast Tryz.prog .any ops Q S ds (fuel + 1) lst) := fun a W ha hk =>
  one_ (N := o.dst) lst' hi rfl hc (by simpa using hds) fun K hK => by
    rw [if_pos (hw a ha)]
    exact Oper.wp_mono (fun a' w' h' => hK.out a' w' h'.1 (fun _ => h'.2)) (h.2 a W ha hk)
/-- Two that act. -/
theorem qR {o' : Oper} (i j : Nat) (li lj : Array Bool) (hi : ops[i]? = some o) (hj : ops[j]? = some o') (hc : (Region.ready .any ops lst == [i, j] && lst.setIfInBounds i true == li && lst.setIfInBounds j true == lj) = true) (hdi : ds.contains i = false) (hdj : ds.contains j = false) (hw : Wn n M E ops o true) (hw' : Wn n M E ops o' true)
    (h : Fx n M E w0 L l F Q o (fun a W => S W ∧ wpAnyLast Tryz.prog .any ops Q S ds fuel li a W)) (h' : Fx n M E w0 L l F Q o' (fun a W => S W ∧ wpAnyLast Tryz.prog .any ops Q S ds fuel lj a W)) : St n M E w0 L l F (wpAnyLast Tryz.prog .any ops Q S ds (fuel + 1) lst) := fun a W ha hk =>
  two_ (Ni := o.dst) (Nj := o'.dst) li lj hi hj rfl rfl hc (by simpa using hdi) (by simpa using hdj)
    (fun K hK => by
      rw [if_pos (hw a ha)]
      exact Oper.wp_mono (fun a' w' h' => hK.out a' w' h'.1 (fun _ => h'.2)) (h.2 a W ha hk))
    (fun K hK => by
      rw [if_pos (hw' a ha)]
      exact Oper.wp_mono (fun a' w' h' => hK.out a' w' h'.1 (fun _ => h'.2)) (h'.2 a W ha hk))
/-- .. at the end. -/
theorem pG (i : Nat) (lst' : Array Bool) (hi : ops[i]? = some o) (hc : readyB .any ops lst lst' i = true) (hds : ds.contains i = true) (hw : Wn n M E ops o true) (h : Fx n M E w0 L l F Q o (wpAnyLast Tryz.prog .any ops Q S ds fuel lst')) : St n M E w0 L l F (wpAnyLast Tryz.prog .any ops Q S ds (fuel + 1) lst) := fun a W ha hk =>
  last_ (N := o.dst) lst' hi rfl hc (by simpa using hds) fun K hK => by
    rw [if_pos (hw a ha)]
    exact Oper.wp_mono (fun a' w' h' => hK.out a' w' h') (h.2 a W ha hk)
theorem aH (hS : ∀ W, Kb w0 L l F W → S W) (h : St n M E w0 L l F X) : St n M E w0 L l F (fun a W => S W ∧ X a W) := fun a W ha hk => ⟨hS W hk, h a W ha hk⟩
theorem pH {m : Nat} (hr : (Region.ready .any ops lst == []) = true) (h : St n M E w0 L l F (Q .normal)) : St n M E w0 L l F (wpAnyLast Tryz.prog .any ops Q S ds m lst) := fun a W ha hk => done_ hr (h a W ha hk)
theorem Kb.drop {G : Fct} {W : World} (h : Kb w0 L l (fun O W => G O W ∧ F O W) W) : Kb w0 L l F W := ⟨h.bs, h.own, h.below, fun O W g => (h.kn O W g).2, h.cx0⟩
/-- A plain fact out of what is known. -/
theorem bR {P : Prop} (hp : ∀ W, Kb w0 L l F W → P) (h : P → St n M E w0 L l F X) : St n M E w0 L l F X := fun a W ha hk => h (hp W hk) a W ha hk
/-- What is known turns into something else. -/
theorem bQ {l' : Bxs} {F' : Fct} (hk : ∀ W, Kb w0 L l F W → Kb w0 L l' F' W) (h : St n M E w0 L l' F' X) : St n M E w0 L l F X := fun a W ha h' => h a W ha (hk W h')
/-- A block is one's own no more: it can be read. -/
theorem Kb.pub {W : World} (h : Kb w0 L l F W) (k : Nat) {g ty : Nat} {cur : Array Value} (hk : l[k]? = some (g, Ce ty cur)) (m c : Nat) (cs : List Value) (hc : m ≤ c) (hp : ∀ (i : Nat) (v : Value), cs[i]? = some v → cur[i]? = some v) :
    Kb w0 L (l.eraseIdx k) (fun O W => RS (Av L O) ⟨some ⟨g, 0, none⟩, c⟩ m cs W ∧ F O W) W := by
  refine (h.leave k).and (RS.kn ?_)
  refine RS.of_bk (h.bs.get k hk) ?_ hc hp
  have key : ∀ (l : Bxs) (k : Nat), Bs l W → l[k]? = some (g, Ce ty cur) → g ∉ (l.eraseIdx k).map Prod.fst := by
    intro l
    induction l with
    | nil => intro k _ h; simp at h
    | cons x r ih =>
      intro k hb hk
      cases k with
      | zero =>
        simp at hk; subst hk
        intro hm
        simp at hm
        obtain ⟨o, hm⟩ := hm
        exact hb.2.1 _ hm rfl
      | succ k =>
        have hk' : r[k]? = some (g, Ce ty cur) := by simpa using hk
        intro hm
        rcases List.mem_cons.1 (by simpa using hm : g ∈ x.1 :: (r.eraseIdx k).map Prod.fst) with e | e
        · exact hb.2.1 _ (List.mem_of_getElem? hk') e
        · exact ih k hb.2.2 hk' e
  exact fun hv => hv.elim (fun h1 => absurd (h.cx0 g h1) (Nat.not_lt.2 (h.own _ (List.mem_of_getElem? hk)))) (key l k h.bs hk)
theorem Kb.re {G : Fct} {W : World} (h : Kb w0 L l F W) (g : ∀ O W, F O W → G O W) : Kb w0 L l G W := ⟨h.bs, h.own, h.below, fun O W e => g O W (h.kn O W e), h.cx0⟩
theorem mem_front {α : Type} : ∀ (l : List α) (k : Nat) {x : α}, l[k]? = some x → ∀ y, y ∈ l ↔ y = x ∨ y ∈ l.eraseIdx k
  | [], _, _, h, _ => by simp at h
  | z :: r, 0, x, h, y => by simp at h; subst h; simp
  | z :: r, k + 1, x, h, y => by
    have := mem_front r k (by simpa using h) y
    rw [List.mem_cons, List.eraseIdx_cons_succ, List.mem_cons, this]
    constructor <;> (rintro (h | h | h) <;> simp [h])
theorem bs_front : ∀ (l : Bxs) (k : Nat) {x : Nat × Obj} {W : World}, Bs l W → l[k]? = some x → Bs (x :: l.eraseIdx k) W
  | [], _, _, _, _, h => by simp at h
  | z :: r, 0, x, W, hb, h => by simp at h; subst h; exact hb
  | z :: r, k + 1, x, W, hb, h => by
    have h' : r[k]? = some x := by simpa using h
    have h2 := bs_front r k hb.2.2 h'
    have hm : x ∈ r := List.mem_of_getElem? h'
    refine ⟨h2.1, fun y hy => ?_, hb.1, fun y hy => hb.2.1 y ((List.eraseIdx_sublist r k).mem hy), h2.2.2⟩
    rcases List.mem_cons.1 (by simpa using hy) with rfl | h3
    · exact fun e => hb.2.1 x hm e.symm
    · exact h2.2.1 y h3
theorem Kb.front {W : World} (h : Kb w0 L l F W) (k : Nat) {x : Nat × Obj} (hk : l[k]? = some x) : Kb w0 L (x :: l.eraseIdx k) F W := by
  have hm := mem_front l k hk
  have hm2 : ∀ j, j ∈ (x :: l.eraseIdx k).map Prod.fst ↔ j ∈ l.map Prod.fst := fun j => by
    simp only [List.mem_map, List.mem_cons]
    exact ⟨fun ⟨a, h1, h2⟩ => ⟨a, (hm a).2 h1, h2⟩, fun ⟨a, h1, h2⟩ => ⟨a, (hm a).1 h1, h2⟩⟩
  refine ⟨bs_front l k h.bs hk, fun y hy => h.own y ((hm y).2 (List.mem_cons.1 hy)), h.below, fun O W' g => h.kn O W' ⟨g.size, fun j hj => (g.own j hj).imp (fun h1 => (hm2 j).1 h1) id, fun j hj hl => g.block j (fun h1 => hj ((hm2 j).1 h1)) hl⟩, h.cx0⟩
def Mt (σ : Type) (n : Nat) (M : List Deferred) (w0 : World) (L : Nat → Prop) (E' : σ → Env) (l' : σ → Bxs) (F' : σ → Fct) : Exit → Act → World → Prop
  | .normal, a, W => ∃ x, Sf n M (E' x) a ∧ Kb w0 L (l' x) (F' x) W
  | _, _, _ => False
theorem cD {σ : Type} {c : Code} (E' : σ → Env) (l' : σ → Bxs) (G : σ → Fct → Fct) (h1 : St n M E w0 L l F (CW ro c (Mt σ n M w0 L E' l' (fun x => G x F)))) (h2 : ∀ x, St n M (E' x) w0 L (l' x) (G x F) (Q .normal)) : St n M E w0 L l F (CW ro c Q) := fun a W ha hk =>
  wpIn_mono (h1 a W ha hk) fun e a' w' hq => by
    cases e with
    | normal => obtain ⟨x, h3, h4⟩ := hq; exact h2 x a' w' h3 h4
    | _ => exact hq.elim
theorem bE {σ : Type} {E' : σ → Env} {l' : σ → Bxs} {F' : σ → Fct} (x : σ) (hE : subE E (E' x)) (hk : ∀ W, Kb w0 L l F W → Kb w0 L (l' x) (F' x) W) : St n M E w0 L l F (Mt σ n M w0 L E' l' F' .normal) := fun a W ha hkb => ⟨x, ha.sub hE, hk W hkb⟩
theorem aG {fn : Func} {R : Ending → World → Prop} (v : Value) (hr : ∀ a W, Sf n [] E a → Kb w0 L l F W → (results fn a.tmps).run Tryz.prog W = .ok v W) (h : ∀ W, Kb w0 L l F W → R (.returned v) W) : St n [] E w0 L l F (bodyPost Tryz.prog fn R .ret) := fun a W ha hk => bodyPost_ret (hr a W ha hk) ha.defers (h W hk)
theorem cK {fn : Func} {R : Ending → World → Prop} (v : Value) (hr : ∀ a W, Sf n [] E a → Kb w0 L l F W → (results fn a.tmps).run Tryz.prog W = .ok v W) (h : ∀ W, Kb w0 L l F W → R (.returned v) W) : St n [] E w0 L l F (bodyPost Tryz.prog fn R .normal) := fun a W ha hk => bodyPost_end (hr a W ha hk) ha.defers (h W hk)
/-- What each result holds. -/
def Res (n : Nat) (M : List Deferred) (E : Env) (w0 : World) (L : Nat → Prop) (l : Bxs) (F : Fct) (r : ResultVar) (v : Value) : Prop := ∀ a W, Sf n M E a → Kb w0 L l F W → (match r with | .tmp t => (pure (a.tmps.getD t undef) : Sem Value) | .cell p t => do loadVar t (← asAddr (a.tmps.getD p undef))).run Tryz.prog W = .ok v W
theorem aD {t : Nat} (h : E.lookup t = some v) : Res n M E w0 L l F (.tmp t) v := fun a W ha _ => by simp [ha.get t v h]
theorem aO {p : Nat} {t : TypeId} {b : Nat} {tt : TypeId} {cs : Array Value} (k m : Nat) (ht : rowB Tryz.prog t m = true) (hx : E.lookup p = some (.pointer (some ⟨b, 0, none⟩))) (hk : l[k]? = some (b, Ce tt cs)) (hm : Nat.beq cs.size m = true) : Res n M E w0 L l F (.cell p t) (.agg cs) := fun a W ha hkb => by
  obtain ⟨⟨d, hu, hd⟩, hi⟩ := row_of ht
  have hm' : cs.toList.length = m := by simpa using Nat.eq_of_beq_eq_true hm
  have hl := run_loadVar_mid (P := Tryz.prog) W b 0 t cs.toList d (hkb.range k hk (m := m) (by rw [List.drop_zero, List.take_of_length_le (Nat.le_of_eq hm')])) hu hd (by rw [hi, hm'])
  rw [Array.toArray_toList] at hl
  simp [ha.get p _ hx, asAddr, hl]
theorem jE {p : Nat} {t : TypeId} {b off : Nat} {tt : TypeId} {cs : Array Value} (k : Nat) (ht : cellB Tryz.prog t = true) (hx : E.lookup p = some (.pointer (some ⟨b, off, none⟩))) (hk : l[k]? = some (b, Ce tt cs)) (hv : cs[off]? = some v) : Res n M E w0 L l F (.cell p t) v := fun a W ha hkb => by
  have hlt : off < cs.size := (Array.getElem?_eq_some_iff.1 hv).1
  have hc := hkb.rd k hk off hlt
  rw [(Array.getElem?_eq_some_iff.1 hv).2] at hc
  have hl := run_loadVar_cell ht hc
  simp [ha.get p _ hx, asAddr, hl]
def resOf (a : Act) : ResultVar → Sem Value
  | .tmp t => pure (a.tmps.getD t undef)
  | .cell p t => do loadVar t (← asAddr (a.tmps.getD p undef))
theorem res1 {fn : Func} {r : ResultVar} (hf : fn.results = #[r]) (h : Res n M E w0 L l F r v) : ∀ a W, Sf n M E a → Kb w0 L l F W → (results fn a.tmps).run Tryz.prog W = .ok v W := fun a W ha hk => by
  have := h a W ha hk
  simp only [results, hf]
  cases r <;> simp_all
theorem res2 {fn : Func} {r r' : ResultVar} {v' : Value} (hf : fn.results = #[r, r']) (h : Res n M E w0 L l F r v) (h' : Res n M E w0 L l F r' v') : ∀ a W, Sf n M E a → Kb w0 L l F W → (results fn a.tmps).run Tryz.prog W = .ok (.tuple #[v, v']) W := fun a W ha hk => by
  have h1 : (resOf a r).run Tryz.prog W = _ := h a W ha hk
  have h2 : (resOf a r').run Tryz.prog W = _ := h' a W ha hk
  show (do let vs ← fn.results.mapM (resOf a); pure (if h : vs.size = 1 then vs[0] else .tuple vs) : Sem Value).run Tryz.prog W = _
  simp [hf, h1, h2]
theorem res3 {fn : Func} {r r' r'' : ResultVar} {v' v'' : Value} (hf : fn.results = #[r, r', r'']) (h : Res n M E w0 L l F r v) (h' : Res n M E w0 L l F r' v') (h'' : Res n M E w0 L l F r'' v'') : ∀ a W, Sf n M E a → Kb w0 L l F W → (results fn a.tmps).run Tryz.prog W = .ok (.tuple #[v, v', v'']) W := fun a W ha hk => by
  have h1 : (resOf a r).run Tryz.prog W = _ := h a W ha hk
  have h2 : (resOf a r').run Tryz.prog W = _ := h' a W ha hk
  have h3 : (resOf a r'').run Tryz.prog W = _ := h'' a W ha hk
  show (do let vs ← fn.results.mapM (resOf a); pure (if h : vs.size = 1 then vs[0] else .tuple vs) : Sem Value).run Tryz.prog W = _
  simp [hf, h1, h2, h3]
theorem res4 {fn : Func} {r r' r'' r3 : ResultVar} {v' v'' v3 : Value} (hf : fn.results = #[r, r', r'', r3]) (h : Res n M E w0 L l F r v) (h' : Res n M E w0 L l F r' v') (h'' : Res n M E w0 L l F r'' v'') (h3' : Res n M E w0 L l F r3 v3) : ∀ a W, Sf n M E a → Kb w0 L l F W → (results fn a.tmps).run Tryz.prog W = .ok (.tuple #[v, v', v'', v3]) W := fun a W ha hk => by
  have h1 : (resOf a r).run Tryz.prog W = _ := h a W ha hk
  have h2 : (resOf a r').run Tryz.prog W = _ := h' a W ha hk
  have h3 : (resOf a r'').run Tryz.prog W = _ := h'' a W ha hk
  have h4 : (resOf a r3).run Tryz.prog W = _ := h3' a W ha hk
  show (do let vs ← fn.results.mapM (resOf a); pure (if h : vs.size = 1 then vs[0] else .tuple vs) : Sem Value).run Tryz.prog W = _
  simp [hf, h1, h2, h3, h4]
theorem res0 {fn : Func} (hf : fn.results = #[]) : ∀ a W, Sf n M E a → Kb w0 L l F W → (results fn a.tmps).run Tryz.prog W = .ok (.tuple [].toArray) W := fun a W _ _ => by
  show (do let vs ← fn.results.mapM (resOf a); pure (if h : vs.size = 1 then vs[0] else .tuple vs) : Sem Value).run Tryz.prog W = _
  simp [hf]
end
end
section
section
variable {ro : Option Nat} {n : Nat} {M : List Deferred} {E : Env} {w0 : World} {L : Nat → Prop} {l : Bxs} {F : Fct} {ops : Array Oper} {Q : Exit → Act → World → Prop} {rest : List Oper} {o : Oper} {d : Nat} {v : Value} {X : Act → World → Prop}
/-- A loop's record. -/
def Lo (s : LoopState) (p : Option Code) (fn : Nat) (tm : Array Value) (ps : Array Tmp) (ag bd : Code) (D : Nat) : Obj := .loop { state := s, pending := p, fn := fn, tmps := tm, params := ps, assign := ag, body := bd, defers := D }
/-- A function's ranges over functions. -/
def rfs : Code → List (Array Tmp × Code × Code)
  | .rangeFunc _ ps a b => [(ps, a, b)]
  | .seq x y => rfs x ++ rfs y
  | .cond _ x y => rfs x ++ rfs y
  | .block _ c => rfs c
  | .loop c => rfs c
  | _ => []
def rfOf (fn : Func) (i : Nat) : Array Tmp × Code × Code := ((rfs (fn.body.getD .skip))[i]?).getD (#[], .skip, .skip)
def Lf (f : Func) (i : Nat) (s : LoopState) (p : Option Code) (fn : Nat) (tm : Array Value) (D : Nat) : Obj := Lo s p fn tm (rfOf f i).1 (rfOf f i).2.1 (rfOf f i).2.2 D
abbrev De (D : Nat) : Deferred := { target := .collected D, args := #[] }
abbrev Do : Obj := .deferred (some [])
/-- What the iterator's call must leave. -/
def Ra (n : Nat) (M : List Deferred) (Q : Exit → Act → World → Prop) (ln : Nat) (a : Act) (e : Ending) (W : World) : Prop := (∃ v, e = .returned v) ∧ rangePost Fence.wide 1 Tryz.prog ln Q a e W
theorem eO {g : Operand} {ps : Array Tmp} {ag bd : Code} {gf : FuncId} {lb : Array Value} (hf : fnB Tryz.prog gf = true) (hg : ev E g = some (.func (.func gf) #[] lb)) (args : List Value) (hargs : ∀ ln, (Value.func (.yield ln) #[] #[] :: args).toArray = #[.func (.yield ln) #[] #[]] ++ lb)
    (h : ∀ fn ln D (a : Act) W, Sf n M E a → Kb w0 L ((ln, Lo .ready none fn a.tmps ps ag bd D) :: (D, Do) :: l) F W → Calls Tryz.prog gf (Value.func (.yield ln) #[] #[] :: args).toArray W (Ra n M Q ln { a with defers := De D :: a.defers })) : St n M E w0 L l F (CW none (.rangeFunc g ps ag bd) Q) := fun a W ha hk => by
  unfold fnB at hf
  cases hfn : Tryz.prog.funcs[gf]? with
  | none => simp [hfn] at hf
  | some fn =>
    simp only [hfn, Bool.and_eq_true] at hf
    refine wpIn_rangeFunc ?_
    intro fi _
    have hk2 := (hk.alloc (.deferred (some []))).alloc (.loop { state := .ready, pending := none, fn := fi, tmps := a.tmps, params := ps, assign := ag, body := bd, defers := W.heap.size })
    rw [World.size_alloc] at hk2
    have hrl := run_enterLoop_outer (P := Tryz.prog) (w := W) fi a.tmps ps ag bd
    generalize (W.alloc (.deferred (some []))).alloc (.loop { state := .ready, pending := none, fn := fi, tmps := a.tmps, params := ps, assign := ag, body := bd, defers := W.heap.size }) = W1 at hk2 hrl
    have he := enters_ hfn (by simpa using hf.1) hf.2 (#[.func (.yield (W.heap.size + 1)) #[] #[]] ++ lb) W1
    refine ⟨W.heap.size + 1, [De W.heap.size], W1, { target := .fn (.func gf) lb, args := #[.func (.yield (W.heap.size + 1)) #[] #[]] }, W1, gf, #[.func (.yield (W.heap.size + 1)) #[] #[]] ++ lb, W1, hrl, ?_, fun _ _ => trivial, ?_, fun hx => by simp [FR, Fence.wide] at hx, ?_⟩
    · simp only [resolve, ha.eval hg, rangeCall, Deferred.ofValue]
      simp [Act.eval]
    · simp only [invoke]
      exact he
    · refine callsIn_wide.2 ?_
      have := h fi (W.heap.size + 1) W.heap.size a _ ha hk2
      rw [hargs] at this
      exact this.mono fun e w' hr => hr.2
theorem run_endLoop' {ln : Nat} {s : LoopState} {p : Option Code} {fn : Nat} {tm : Array Value} {ps : Array Tmp} {ag bd : Code} {D : Nat} {W : World} (h : W.heap[ln]? = some (Lo s p fn tm ps ag bd D)) (hb : s ≠ .busy) : (Instr.endLoop ln).run Tryz.prog W = .ok p (W.putObj ln (Lo .exhausted p fn tm ps ag bd D)) := run_endLoop h hb
/-- All have come. -/
theorem ra_none {ln D k : Nat} {a : Act} {W : World} {l' : Bxs} {F' : Fct} {s : LoopState} {fn : Nat} {tm : Array Value} {ps : Array Tmp} {ag bd : Code} {D' : Nat} (ha : Sf n M E a) (kb : Kb w0 L l' F' W) (hk : l'[k]? = some (ln, Lo s none fn tm ps ag bd D')) (hs : s ≠ .busy)
    (h : St n (De D :: M) E w0 L (l'.set k (ln, Lo .exhausted none fn tm ps ag bd D')) F' (Q .normal)) : Ra n M Q ln { a with defers := De D :: a.defers } (.returned v) W :=
  ⟨⟨v, rfl⟩, none, _, run_endLoop' (kb.bs.get k hk) hs, h _ _ ⟨ha.size, by rw [ha.defers], ha.get⟩ (kb.turn k hk _)⟩
theorem cw_n {ro : Option Nat} {m : Nat} {c : Code} {Q : Exit → Act → World → Prop} {a : Act} {W : World} (h : CW ro c Q a W) : c.wpIn (FR ro) m Tryz.prog Q a W := fun b k cs h1 h2 _ => h b k cs h1 h2 (fun d hd => by simp [FR, Fence.wide] at hd)
def yE : List (Tmp × Value) → Env → Env
  | [], E => E
  | (t, v) :: r, E => yE r ((t, v) :: E)
theorem Sf.yE {n : Nat} {M : List Deferred} : ∀ {ps : List (Tmp × Value)} {E : Env} {a : Act}, Sf n M E a → (∀ p, p ∈ ps → p.1 < n) → Sf n M (yE ps E) ⟨ps.foldl (fun t (p, v) => t.setIfInBounds p v) a.tmps, a.defers⟩
  | [], E, a, h, _ => h
  | (t, v) :: r, E, a, h, hp => Sf.yE (a := a.put (some t) v) (h.put (d := t) (by rw [Nat.blt_eq]; exact hp _ (List.mem_cons_self ..)) v) fun p hm => hp p (List.mem_cons_of_mem _ hm)
theorem zip_foldl (ps : List Tmp) (vs : List Value) (tm : Array Value) : ((ps.toArray.zip vs.toArray).foldl (fun tmps (t, a) => tmps.setIfInBounds t a) tm) = (ps.zip vs).foldl (fun t (p, v) => t.setIfInBounds p v) tm := by
  rw [← Array.foldl_toList]
  simp
/-- A call of yield. -/
theorem iE {ln k : Nat} {x : Operand} {xs : List Operand} {ts : Array TypeId} {vs : List Value} {fn : Nat} {ps : List Tmp} {ag bd : Code} {D n' : Nat} {M' : List Deferred} {E' : Env} {a0 : Act} (h0 : Sf n' M' E' a0) (hg : o.guard = none) (ho : o.op = .call { callee := .value x, args := xs.toArray, argTypes := ts }) (hv : ev E x = some (.func (.yield ln) #[] #[])) (hx : evs0 E xs = some vs) (hd : o.dst = some d) (hn : Nat.blt d n = true)
    (hk : l[k]? = some (ln, Lo .ready none fn a0.tmps ps.toArray ag bd D)) (hsz : Nat.beq vs.length ps.length = true) (hps : ps.all (Nat.blt · n') = true)
    (h : St n' [] (yE (ps.zip vs) E') w0 L l F (CW (some ln) ag (Exit.then (fun a W => ∃ W2, (Instr.beginRound ln).run Tryz.prog W = .ok () W2 ∧ CW (some ln) bd (roundPost Tryz.prog ln (Nx n M E d (LW none ops Q rest))) a W2) (fun _ _ _ => False)))) :
    St n M E w0 L l F (LW none ops Q (o :: rest)) := fun a W ha hkb => by
  refine wpListIn_plain hg fun K hK => ?_
  have hX := evs0_eval ha hx
  have hV := ha.eval hv
  have hL : W.heap[ln]? = some (.loop { state := .ready, pending := none, fn := fn, tmps := a0.tmps, params := ps.toArray, assign := ag, body := bd, defers := D }) := hkb.bs.get k hk
  have hy := run_yield (P := Tryz.prog) (args := vs.toArray) hL (by simpa using Nat.eq_of_beq_eq_true hsz)
  have hrun : (execOp a.eval o).run Tryz.prog W = .ok (.round ln fn ((ps.toArray.zip vs.toArray).foldl (fun tmps (t, a) => tmps.setIfInBounds t a) a0.tmps) ag bd) W := by
    unfold execOp
    simp only [ho, resolve, hV, Deferred.ofValue, List.map_toArray, hX, Sem.run_bind, Sem.run_pure, Result.andThen_ok, invoke]
    simpa using hy
  refine ⟨fun _ _ => trivial, ?_⟩
  have hr : (FR none).round = none := rfl
  rw [hr, Oper.semAt_none, hrun, Oper.uponIn_round, zip_foldl]
  refine ⟨fun hx => by simp [FR, Fence.wide] at hx, RoundIn.mono (roundIn_of_wpIn trivial (n := 0) (R := Nx n M E d (LW none ops Q rest)) ?_) fun e w' hN => ?_⟩
  · have h1 := h ⟨(ps.zip vs).foldl (fun t (p, v) => t.setIfInBounds p v) a0.tmps, []⟩ W (Sf.yE (a := ⟨a0.tmps, []⟩) ⟨h0.size, rfl, h0.get⟩ fun p hp => by
      have := List.all_eq_true.1 hps p.1 (List.of_mem_zip (a := p.1) (b := p.2) hp).1
      simpa [Nat.blt_eq] using this) hkb
    refine wpIn_mono (cw_n h1) fun e a' w' hq => ?_
    cases e with
    | normal =>
      obtain ⟨W2, h2, h3⟩ := hq
      exact ⟨W2, h2, cw_n h3⟩
    | _ => exact hq
  · obtain ⟨v, rfl, hN⟩ := hN
    rw [hd]
    exact hK _ _ (hN _ (ha.put hn v))
variable {ln k D : Nat} {s : LoopState} {p : Option Code} {fn : Nat} {tm : Array Value} {ps : Array Tmp} {ag bd : Code}
/-- The assignments are done: the round begins. -/
theorem fO {bd' : Code} {Q' : Exit → Act → World → Prop} (l' : Bxs) (hk : l[k]? = some (ln, Lo .ready p fn tm ps ag bd D)) (hl : l.set k (ln, Lo .busy p fn tm ps ag bd D) = l') (h : St n M E w0 L l' F (CW (some ln) bd' Q')) : St n M E w0 L l F (fun a W => ∃ W2, (Instr.beginRound ln).run Tryz.prog W = .ok () W2 ∧ CW (some ln) bd' Q' a W2) := fun a W ha hkb => by
  subst hl
  exact ⟨_, run_beginRound (hkb.bs.get k hk) rfl, h a _ ha (hkb.turn k hk _)⟩
/-- A round's end: it goes on; it leaves. -/
theorem eA {n' : Nat} {M' : List Deferred} {E' : Env} {d : Nat} {X : Act → World → Prop} (l' : Bxs) (hk : l[k]? = some (ln, Lo s p fn tm ps ag bd D)) (hl : l.set k (ln, Lo .ready none fn tm ps ag bd D) = l') (h : St n' M' ((d, .bool true) :: E') w0 L l' F X) : St n M E w0 L l F (roundPost Tryz.prog ln (Nx n' M' E' d X) .normal) := fun a W ha hkb => by
  subst hl
  exact ⟨.bool true, _, run_endRound none (hkb.bs.get k hk), nx (hkb.turn k hk _) h⟩
theorem dO {f : FuncId} {fn : Func} {c : Code} {vs : List Value} {W : World} {R : Ending → World → Prop} (n : Nat) (hf : Tryz.prog.funcs[f]? = some fn) (hb : fn.body = some c) (hn : fn.ntmps = n) (hs : Nat.ble vs.length n = true)
    (k : Kb w0 L l F W) (h : St n [] (envA 0 vs) w0 L l F (CW none c (bodyPostM Fence.wide 1 Tryz.prog fn R))) : Calls Tryz.prog f vs.toArray W R := by
  have hs' : vs.length ≤ n := Nat.le_of_ble_eq_true hs
  refine (callsIn_wide (n := 1)).1 (callsIn_of_wp_marks hf hb trivial (h _ _ ⟨?_, rfl, fun i v hi => ?_⟩ k))
  · simp [hn]; omega
  · have h1 := (envA_get vs 0 i v hi).2
    rw [Nat.sub_zero] at h1
    have hlt : i < vs.length := (List.getElem?_eq_some_iff.1 h1).1
    show (vs.toArray ++ _)[i]? = some v
    rw [Array.getElem?_append_left (by simpa using hlt)]
    simpa using h1
theorem eP {fn : Func} {R : Ending → World → Prop} (v : Value) (l' : Bxs) (hk : l[k]? = some (D, Do)) (hl : l.set k (D, .deferred none) = l') (hr : ∀ a W, Sf n [De D] E a → Kb w0 L l' F W → (results fn a.tmps).run Tryz.prog W = .ok v W) (h : ∀ W, Kb w0 L l' F W → R (.returned v) W) : St n [De D] E w0 L l F (bodyPostM Fence.wide 1 Tryz.prog fn R .ret) := fun a W ha hkb => by
  subst hl
  have hk2 := hkb.turn k hk (.deferred none)
  show LeavesInM _ _ _ _ _ _ a.defers _ _
  rw [ha.defers]
  exact ⟨by simp, .inl ⟨D, _, rfl, run_takeDeferred (hkb.bs.get k hk), v, hr a _ ha hk2, h _ hk2⟩⟩
end
end
section
section
variable {ro : Option Nat} {n : Nat} {M : List Deferred} {E : Env} {w0 : World} {L : Nat → Prop} {l : Bxs} {F : Fct} {ops : Array Oper} {Q : Exit → Act → World → Prop} {rest : List Oper} {o : Oper} {d : Nat} {v : Value} {X K : Act → World → Prop}
theorem e2 {α β : Type} {a a' : α} {b b' : β} (h : (a, b) = (a', b')) : a = a' ∧ b = b' := by injection h with h1 h2; exact ⟨h1, h2⟩
abbrev O3 (o : Oper) (n d : Nat) : Option (Nat × Bool) × Option Nat × Bool := (o.guard, o.dst, Nat.blt d n)
abbrev Y3 (d : Nat) : Option (Nat × Bool) × Option Nat × Bool := (none, some d, true)
theorem o3 {d : Nat} (h : O3 o n d = Y3 d) : o.guard = none ∧ o.dst = some d ∧ Nat.blt d n = true := by
  obtain ⟨h1, h2⟩ := e2 h; obtain ⟨h2, h3⟩ := e2 h2; exact ⟨h1, h2, h3⟩
abbrev SL (ro : Option Nat) (n : Nat) (M : List Deferred) (E : Env) (w0 : World) (L : Nat → Prop) (l : Bxs) (F : Fct) (ops : Array Oper) (Q : Exit → Act → World → Prop) (r : List Oper) : Prop := St n M E w0 L l F (LW ro ops Q r)
theorem lp (hp : Pu n M E o v) (h3 : O3 o n d = Y3 d) (h : SL ro n M ((d, v) :: E) w0 L l F ops Q rest) : SL ro n M E w0 L l F ops Q (o :: rest) := l_p hp (o3 h3).1 (o3 h3).2.1 (o3 h3).2.2 h
theorem lr (hp : Rn n M E w0 L l F o v) (h3 : O3 o n d = Y3 d) (h : SL ro n M ((d, v) :: E) w0 L l F ops Q rest) : SL ro n M E w0 L l F ops Q (o :: rest) := l_r hp (o3 h3).1 (o3 h3).2.1 (o3 h3).2.2 h
theorem gp (hw : Wn n M E ops o true) (hp : Pu n M E o v) (h3 : (o.dst, Nat.blt d n) = (some d, true)) (h : SL ro n M ((d, v) :: E) w0 L l F ops Q rest) : SL ro n M E w0 L l F ops Q (o :: rest) := lg_p hw hp (e2 h3).1 (e2 h3).2 h
theorem gr (hw : Wn n M E ops o true) (hp : Rn n M E w0 L l F o v) (h3 : (o.dst, Nat.blt d n) = (some d, true)) (h : SL ro n M ((d, v) :: E) w0 L l F ops Q rest) : SL ro n M E w0 L l F ops Q (o :: rest) := lg_r hw hp (e2 h3).1 (e2 h3).2 h
theorem gof (hw : Wn n M E ops o false) (h3 : (o.dst, Nat.blt d n) = (some d, true)) (h : SL ro n M ((d, undef) :: E) w0 L l F ops Q rest) : SL ro n M E w0 L l F ops Q (o :: rest) := pD hw (e2 h3).1 (e2 h3).2 h
theorem wi {p : Oper} {j d : Nat} {b c cv r : Bool} (h : (o.guard, ops[j]?, p.dst, ev E (.tmp d)) = (some (j, b), some p, some d, some (.bool c))) (hc : c = cv) (hr : (cv == b) = r) : Wn n M E ops o r := by
  obtain ⟨h1, h2⟩ := e2 h; obtain ⟨h2, h3⟩ := e2 h2; obtain ⟨h3, h4⟩ := e2 h3
  exact wn_is h1 h2 h3 h4 hc hr
section
variable {t t' : TypeId} {x y : Operand} {p q : Int} {b off : Nat}
theorem pas (h : (o.op, ev E x) = (.assign x, some v)) : Pu n M E o v := lH (e2 h).1 (e2 h).2
theorem pmv (h : (o.op, ev E x) = (.move x, some v)) : Pu n M E o v := gN (e2 h).1 (e2 h).2
theorem pfa {k m : Nat} (hf : foB Tryz.prog t k m = true) (r : Nat) (h : (o.op, ev E x, off + m) = (.fieldAddr t x k, some (.pointer (some ⟨b, off, none⟩)), r)) : Pu n M E o (.pointer (some ⟨b, r, none⟩)) := fN m r hf (e2 (e2 h).2).2 (e2 h).1 (e2 (e2 h).2).1
theorem pex {k : Nat} {vs : List Value} (h : (o.op, ev E x, vs[k]?) = (.extract x k, some (.tuple vs.toArray), some v)) : Pu n M E o v := jB (e2 h).1 (e2 (e2 h).2).1 (e2 (e2 h).2).2
theorem pno {c : Bool} (h : (o.op, ev E x) = (.unOp .not t x, some (.bool c))) : Pu n M E o (.bool (!c)) := oL (e2 h).1 (e2 h).2
theorem b3 {op : BinOp} {u w : Value} (h : (o.op, ev E x, ev E y) = (.binOp op t x y t', some u, some w)) : o.op = .binOp op t x y t' ∧ ev E x = some u ∧ ev E y = some w := ⟨(e2 h).1, (e2 (e2 h).2).1, (e2 (e2 h).2).2⟩
theorem pls (h : (o.op, ev E x, ev E y) = (.binOp .lss t x y t', some (I p), some (I q))) : Pu n M E o (.bool (decide (p < q))) := oJ (b3 h).1 (b3 h).2.1 (b3 h).2.2
theorem ple (h : (o.op, ev E x, ev E y) = (.binOp .leq t x y t', some (I p), some (I q))) : Pu n M E o (.bool (decide (p ≤ q))) := oK (b3 h).1 (b3 h).2.1 (b3 h).2.2
theorem pgt (h : (o.op, ev E x, ev E y) = (.binOp .gtr t x y t', some (I p), some (I q))) : Pu n M E o (.bool (decide (q < p))) := qI (b3 h).1 (b3 h).2.1 (b3 h).2.2
theorem pge (h : (o.op, ev E x, ev E y) = (.binOp .geq t x y t', some (I p), some (I q))) : Pu n M E o (.bool (decide (q ≤ p))) := qJ (b3 h).1 (b3 h).2.1 (b3 h).2.2
theorem peq (h : (o.op, ev E x, ev E y) = (.binOp .eql t x y t', some (I p), some (I q))) : Pu n M E o (.bool (decide (p = q))) := fC (b3 h).1 (b3 h).2.1 (b3 h).2.2
theorem pne (h : (o.op, ev E x, ev E y) = (.binOp .neq t x y t', some (I p), some (I q))) : Pu n M E o (.bool (!decide (p = q))) := qK (b3 h).1 (b3 h).2.1 (b3 h).2.2
theorem pad (z : Int) (hz : wrap64 (p + q) = z) (h : (o.op, ev E x, ev E y) = (.binOp .add t x y t', some (I p), some (I q))) : Pu n M E o (I z) := qL z hz (b3 h).1 (b3 h).2.1 (b3 h).2.2
theorem psb (z : Int) (hz : wrap64 (p - q) = z) (h : (o.op, ev E x, ev E y) = (.binOp .sub t x y t', some (I p), some (I q))) : Pu n M E o (I z) := qM z hz (b3 h).1 (b3 h).2.1 (b3 h).2.2
theorem pml (z : Int) (hz : wrap64 (p * q) = z) (h : (o.op, ev E x, ev E y) = (.binOp .mul t x y t', some (I p), some (I q))) : Pu n M E o (I z) := lI z hz (b3 h).1 (b3 h).2.1 (b3 h).2.2
theorem ppt {y z : Operand} {c : Bool} (hc : c = true) (h : (o.op, ev E x, ev E y) = (.pick x y z, some (.bool c), some v)) : Pu n M E o v := nI (e2 h).1 (e2 (e2 h).2).1 hc (e2 (e2 h).2).2
theorem ppf {y z : Operand} {c : Bool} (hc : c = false) (h : (o.op, ev E x, ev E z) = (.pick x y z, some (.bool c), some v)) : Pu n M E o v := nJ (e2 h).1 (e2 (e2 h).2).1 hc (e2 (e2 h).2).2
theorem pln {A : Option Addr} {m c : Nat} (hs : slB Tryz.prog t = true) (h : (o.op, ev E x) = (.call { callee := .builtin .len, args := [x].toArray, argTypes := [t].toArray }, some (.slice A m c))) : Pu n M E o (I m) := jC hs (e2 h).1 (e2 h).2
theorem pix {ix : Operand} {A : Option Addr} {m c b p : Nat} {i : Int} {sz : Nat} (hs : elB Tryz.prog t sz = true) (h : (o.op, ev E x, ev E ix) = (.indexAddr t x ix, some (.slice A m c), some (I i))) (hA : A = some ⟨b, p, none⟩) (h0 : 0 ≤ i) (h1 : i < m) : Pu n M E o (.pointer (some ⟨b, p + i.toNat * sz, none⟩)) := lJ sz hs (e2 h).1 (e2 (e2 h).2).1 (e2 (e2 h).2).2 hA h0 h1
theorem ral {tt : TypeId} {cs : Array Value} (k : Nat) {m : Nat} (ht : rowB Tryz.prog t m = true) (h : (o.op, ev E x, l[k]?, Nat.beq cs.size m) = (.load t x, some (.pointer (some ⟨b, 0, none⟩)), some (b, Ce tt cs), true)) : Rn n M E w0 L l F o (.agg cs) := gO k m ht (e2 h).1 (e2 (e2 h).2).1 (e2 (e2 (e2 h).2).2).1 (e2 (e2 (e2 h).2).2).2
theorem rce {tt : TypeId} {cs : Array Value} (k : Nat) (v : Value) (ht : cellB Tryz.prog t = true) (h : (o.op, ev E x, l[k]?, cs[off]?) = (.load t x, some (.pointer (some ⟨b, off, none⟩)), some (b, Ce tt cs), some v)) : Rn n M E w0 L l F o v := cZ k v ht (e2 h).1 (e2 (e2 h).2).1 (e2 (e2 (e2 h).2).2).1 (e2 (e2 (e2 h).2).2).2
theorem rro {tt : TypeId} {cs : Array Value} (k : Nat) {m : Nat} (vs : Array Value) (ht : rowB Tryz.prog t m = true) (h : (o.op, ev E x, l[k]?, (cs.toList.drop off).take m, Nat.beq vs.size m) = (.load t x, some (.pointer (some ⟨b, off, none⟩)), some (b, Ce tt cs), vs.toList, true)) : Rn n M E w0 L l F o (.agg vs) := kB k m vs ht (e2 h).1 (e2 (e2 h).2).1 (e2 (e2 (e2 h).2).2).1 (e2 (e2 (e2 (e2 h).2).2).2).1 (e2 (e2 (e2 (e2 h).2).2).2).2
theorem fal {cs : Array Value} (hz : zeroB Tryz.prog t cs) (h3 : (o.op, o.dst, Nat.blt d n) = (.alloc t, some d, true)) (h : ∀ g, St n M ((d, .pointer (some ⟨g, 0, none⟩)) :: E) w0 L ((g, Ce t cs) :: l) F K) : Fx n M E w0 L l F Q o K := lK cs hz (e2 h3).1 (e2 (e2 h3).2).1 (e2 (e2 h3).2).2 h
theorem fba {cs : Array Value} (h3 : (o.op, o.dst, Nat.blt d n, ev E x) = (.box t x, some d, true, some (.agg cs))) (h : ∀ g, St n M ((d, .pointer (some ⟨g, 0, none⟩)) :: E) w0 L ((g, Ce t cs) :: l) F K) : Fx n M E w0 L l F Q o K := bC cs (e2 h3).1 (e2 (e2 (e2 h3).2).2).2 rfl (e2 (e2 h3).2).1 (e2 (e2 (e2 h3).2).2).1 h
theorem fst {tt : TypeId} {cs : Array Value} (k : Nat) (l' : Bxs) {sz : Nat} (hi : szB Tryz.prog t sz = true) (h3 : (o.op, o.dst, ev E x, ev E y, l[k]?, v.cells.size) = (.store t x y, none, some (.pointer (some ⟨b, off, none⟩)), some v, some (b, Ce tt cs), sz)) (h4 : (v.cells.toList.all (·.oneCell'), Nat.ble (off + v.cells.size) cs.size, l.set k (b, Ce tt (putL cs off v.cells.toList))) = (true, true, l')) (h : St n M E w0 L l' F K) : Fx n M E w0 L l F Q o K := by
  have q := e2 h3; have q2 := e2 q.2; have q3 := e2 q2.2; have q4 := e2 q3.2; have q5 := e2 q4.2
  exact jD k l' q.1 q2.1 q3.1 q4.1 q5.1 (q5.2 ▸ hi) (e2 h4).1 (e2 (e2 h4).2).1 (e2 (e2 h4).2).2 h
theorem ffl {tt : TypeId} {cs cs' : Array Value} (k : Nat) (l' : Bxs) {sz : Nat} (hi : szB Tryz.prog t sz = true) (h3 : (o.op, o.dst, ev E x, ev E y, l[k]?, cs'.size) = (.store t x y, none, some (.pointer (some ⟨b, 0, none⟩)), some (.agg cs'), some (b, Ce tt cs), sz)) (h4 : (cs'.toList.all (·.oneCell'), Nat.beq cs'.size cs.size, l.set k (b, Ce tt cs')) = (true, true, l')) (h : St n M E w0 L l' F K) : Fx n M E w0 L l F Q o K := by
  have q := e2 h3; have q2 := e2 q.2; have q3 := e2 q2.2; have q4 := e2 q3.2; have q5 := e2 q4.2
  exact nK k cs' l' q.1 q2.1 q3.1 q4.1 q5.1 (q5.2 ▸ hi) (e2 h4).1 (e2 (e2 h4).2).1 (e2 (e2 h4).2).2 h
theorem fca {f : FuncId} {xs : List Operand} {ts : Array TypeId} {vs : List Value} {R : World → Ending → World → Prop} (hf : fnB Tryz.prog f = true) (h3 : (o.op, o.dst, Nat.blt d n, evs0 E xs) = (.call { callee := .value (.func f), args := xs.toArray, argTypes := ts }, some d, true, some vs))
    (hc : ∀ W, Kb w0 L l F W → Calls Tryz.prog f vs.toArray W (R W)) (h : ∀ W e W', Kb w0 L l F W → R W e W' → Nx n M E d K e W') : Fx n M E w0 L l F Q o K := cR vs R hf (e2 h3).1 (e2 (e2 (e2 h3).2).2).2 (e2 (e2 h3).2).1 (e2 (e2 (e2 h3).2).2).1 hc h
/-- A call that yields a value. -/
theorem fcv {f : FuncId} {xs : List Operand} {ts : Array TypeId} {vs : List Value} (hf : fnB Tryz.prog f = true) (h3 : (o.op, o.dst, Nat.blt d n, evs0 E xs) = (.call { callee := .value (.func f), args := xs.toArray, argTypes := ts }, some d, true, some vs))
    (hc : ∀ W, Kb w0 L l F W → Calls Tryz.prog f vs.toArray W (fun e w' => e = .returned v ∧ Below W.heap.size W w')) (h : St n M ((d, v) :: E) w0 L l F K) : Fx n M E w0 L l F Q o K := fca hf h3 hc fun W e W' hk hr => hr.1 ▸ nx (hk.call hr.2) h
theorem fin {f : FuncId} {xs : List Operand} {ts : Array TypeId} {vs : List Value} (hf : fnB Tryz.prog f = true) (h3 : (o.op, o.dst, Nat.blt d n, evs0 E xs) = (.call { callee := .value (.func f), args := xs.toArray, argTypes := ts }, some d, true, some vs))
    (h : ∀ W, Kb w0 L l F W → Calls Tryz.prog f vs.toArray W (Nx n M E d K)) : Fx n M E w0 L l F Q o K := qP vs hf (e2 h3).1 (e2 (e2 (e2 h3).2).2).2 (e2 (e2 h3).2).1 (e2 (e2 (e2 h3).2).2).1 h
end
theorem lx (h0 : o.guard = none) (h : Fx n M E w0 L l F Q o (LW ro ops Q rest)) : SL ro n M E w0 L l F ops Q (o :: rest) := l_x h h0
variable {S : World → Prop} {ds : List Nat} {fuel N m : Nat} {l0 : Bxs} {F0 : Fct}
theorem dst {id : Nat} {r : List Oper} (ds : List Nat) (h : St n M E w0 L l F (wpAnyLast Tryz.prog .any r.toArray Q (Kb w0 L l F) ds r.length (bA r.length 0))) : St n M E w0 L l F (CW none (Code.region id r.toArray true) Q) := nL r.length ds _ (by simp) (by
  refine Array.ext (by simp [bA]) fun i h1 h2 => ?_
  simp [bA]) h
abbrev D4 (ops : Array Oper) (o : Oper) (n d i : Nat) : Option Oper × Option (Nat × Bool) × Option Nat × Bool := (ops[i]?, o.guard, o.dst, Nat.blt d n)
theorem d4 {i d : Nat} (h : D4 ops o n d i = (some o, none, some d, true)) : ops[i]? = some o ∧ o.guard = none ∧ o.dst = some d ∧ Nat.blt d n = true := ⟨(e2 h).1, (e2 (e2 h).2).1, (e2 (e2 (e2 h).2).2).1, (e2 (e2 (e2 h).2).2).2⟩
theorem dp (i : Nat) (h4 : D4 ops o n d i = (some o, none, some d, true)) (hp : Pu n M E o v) (h : St n M ((d, v) :: E) w0 L l F (wpAnyLast Tryz.prog .any ops Q S ds fuel (bA N (m + 2 ^ i)))) (hc : anyB .any ops (bA N m) (bA N (m + 2 ^ i)) i = true := by kernel_rfl) (hq : QOk Q := by exact fun _ _ _ _ _ h => h) : St n M E w0 L l F (wpAnyLast Tryz.prog .any ops Q S ds (fuel + 1) (bA N m)) := eZ i _ hq (d4 h4).1 hc hp (wn (d4 h4).2.1) (d4 h4).2.2.1 (d4 h4).2.2.2 h
theorem dr (i : Nat) (h4 : D4 ops o n d i = (some o, none, some d, true)) (hS : ∀ W, Kb w0 L l F W → Kb w0 L l0 F0 W) (hp : Rn n M E w0 L l0 F0 o v) (h : St n M ((d, v) :: E) w0 L l F (wpAnyLast Tryz.prog .any ops Q (Kb w0 L l0 F0) ds fuel (bA N (m + 2 ^ i)))) (hc : takeB .any ops ds (bA N m) (bA N (m + 2 ^ i)) i = true := by kernel_rfl) (hq : QOk Q := by exact fun _ _ _ _ _ h => h) : St n M E w0 L l F (wpAnyLast Tryz.prog .any ops Q (Kb w0 L l0 F0) ds (fuel + 1) (bA N m)) := hO i _ hq hS (d4 h4).1 hc hp (wn (d4 h4).2.1) (d4 h4).2.2.1 (d4 h4).2.2.2 h
theorem doff (i : Nat) (hi : ops[i]? = some o) (hw : Wn n M E ops o false) (h2 : (o.dst, Nat.blt d n) = (some d, true)) (h : St n M ((d, undef) :: E) w0 L l F (wpAnyLast Tryz.prog .any ops Q S ds fuel (bA N (m + 2 ^ i)))) (hc : anyB .any ops (bA N m) (bA N (m + 2 ^ i)) i = true := by kernel_rfl) (hq : QOk Q := by exact fun _ _ _ _ _ h => h) : St n M E w0 L l F (wpAnyLast Tryz.prog .any ops Q S ds (fuel + 1) (bA N m)) := qQ i _ hq hi hc hw (e2 h2).1 (e2 h2).2 h
theorem dx (i : Nat) (h3 : (ops[i]?, o.guard, ds.contains i) = (some o, none, false)) (h : Fx n M E w0 L l F Q o (fun a W => S W ∧ wpAnyLast Tryz.prog .any ops Q S ds fuel (bA N (m + 2 ^ i)) a W)) (hc : readyB .any ops (bA N m) (bA N (m + 2 ^ i)) i = true := by kernel_rfl) : St n M E w0 L l F (wpAnyLast Tryz.prog .any ops Q S ds (fuel + 1) (bA N m)) := sU i _ (e2 h3).1 hc (e2 (e2 h3).2).2 (wn (e2 (e2 h3).2).1) h
theorem dl (i : Nat) (h3 : (ops[i]?, o.guard, ds.contains i) = (some o, none, true)) (h : Fx n M E w0 L l F Q o (wpAnyLast Tryz.prog .any ops Q S ds fuel (bA N (m + 2 ^ i)))) (hc : readyB .any ops (bA N m) (bA N (m + 2 ^ i)) i = true := by kernel_rfl) : St n M E w0 L l F (wpAnyLast Tryz.prog .any ops Q S ds (fuel + 1) (bA N m)) := pG i _ (e2 h3).1 hc (e2 (e2 h3).2).2 (wn (e2 (e2 h3).2).1) h
theorem d2 {o' : Oper} (i j : Nat) (h3 : ((ops[i]?, o.guard, ds.contains i), ops[j]?, o'.guard, ds.contains j) = ((some o, none, false), some o', none, false)) (h : Fx n M E w0 L l F Q o (fun a W => S W ∧ wpAnyLast Tryz.prog .any ops Q S ds fuel (bA N (m + 2 ^ i)) a W)) (h' : Fx n M E w0 L l F Q o' (fun a W => S W ∧ wpAnyLast Tryz.prog .any ops Q S ds fuel (bA N (m + 2 ^ j)) a W)) (hc : (Region.ready .any ops (bA N m) == [i, j] && (bA N m).setIfInBounds i true == bA N (m + 2 ^ i) && (bA N m).setIfInBounds j true == bA N (m + 2 ^ j)) = true := by kernel_rfl) : St n M E w0 L l F (wpAnyLast Tryz.prog .any ops Q S ds (fuel + 1) (bA N m)) :=
  qR i j _ _ (e2 (e2 h3).1).1 (e2 (e2 h3).2).1 hc (e2 (e2 (e2 h3).1).2).2 (e2 (e2 (e2 h3).2).2).2 (wn (e2 (e2 (e2 h3).1).2).1) (wn (e2 (e2 (e2 h3).2).2).1) h h'
theorem dd {k : Nat} (h : St n M E w0 L l F (Q .normal)) (hr : (Region.ready .any ops (bA N m) == []) = true := by kernel_rfl) : St n M E w0 L l F (wpAnyLast Tryz.prog .any ops Q S ds k (bA N m)) := pH hr h
theorem sr {y : Code} {id : Nat} {r : List Oper} (h : St n M E w0 L l F (LW ro r.toArray (Exit.then (CW ro y Q) Q) r)) : St n M E w0 L l F (CW ro (Code.seq (Code.region id r.toArray false) y) Q) := aE (aU h)
theorem nt {K : Act → World → Prop} {Q' : Exit → Act → World → Prop} (h : St n M E w0 L l F K) : St n M E w0 L l F (LW ro ops (Exit.then K Q') []) := bP h
theorem RetT.of {T T1 : Tn} {s : Sl} {w w' : World} (e : T1 = T) (h : RT L s T1 w') (hb : Below w.heap.size w w') : RetT L w T (.returned (.agg (tc T1 s))) w' := ⟨s, T1, e, rfl, h, hb⟩
theorem RetB.of {T T1 : Tn} {s : Sl} {b : Bool} {w w' : World} (e : T1 = T) (h : RT L s T1 w') (hb : Below w.heap.size w w') : RetB L w T b (.returned (.tuple #[.agg (tc T1 s), .bool b])) w' := ⟨s, T1, e, rfl, h, hb⟩
theorem ent {f : FuncId} {fn : Func} {c : Code} {vs : List Value} {W : World} {R : Ending → World → Prop} (n : Nat) (hf : Tryz.prog.funcs[f]? = some fn) (h3 : (fn.body, fn.ntmps, Nat.ble vs.length n) = (some c, n, true))
    (k : Kb w0 L l F W) (h : St n [] (envA 0 vs) w0 L l F (CW none c (bodyPost Tryz.prog fn R))) : Calls Tryz.prog f vs.toArray W R := lG n hf (e2 h3).1 (e2 (e2 h3).2).1 (e2 (e2 h3).2).2 k h
end
end
set_option maxHeartbeats 8000000
set_option maxRecDepth 100000
theorem aN : foB Tryz.prog 124 4 16 = true := by kernel_rfl
theorem iF : foB Tryz.prog 84 15 16 = true := by kernel_rfl
theorem aJ : cellB Tryz.prog 3 = true := by kernel_rfl
theorem nM : foB Tryz.prog 124 2 13 = true := by kernel_rfl
theorem fF : foB Tryz.prog 23 1 1 = true := by kernel_rfl
theorem jF : fnB Tryz.prog 44 = true := by kernel_rfl
theorem qS : fnB Tryz.prog 114 = true := by kernel_rfl
theorem bN : rowB Tryz.prog 23 12 = true := by kernel_rfl
theorem fn62 : fnB Tryz.prog 62 = true := by kernel_rfl
theorem qT : fnB Tryz.prog 115 = true := by kernel_rfl
theorem jM : fnB Tryz.prog 46 = true := by kernel_rfl
theorem fc103_2 : fcB Tryz.prog 103 2 = true := by kernel_rfl
theorem iG : foB Tryz.prog 103 2 2 = true := by kernel_rfl
theorem qU : fnB Tryz.prog 157 = true := by kernel_rfl
theorem fV : foB Tryz.prog 23 4 4 = true := by kernel_rfl
theorem qV : fnB Tryz.prog 158 = true := by kernel_rfl
theorem fW : foB Tryz.prog 23 5 5 = true := by kernel_rfl
theorem qW : fnB Tryz.prog 159 = true := by kernel_rfl
theorem fc103_1 : fcB Tryz.prog 103 1 = true := by kernel_rfl
theorem nN : foB Tryz.prog 103 1 1 = true := by kernel_rfl
theorem gJ : zeroB Tryz.prog 188 (#[I 0, I 0]) := by unfold zeroB; kernel_rfl
theorem cL : szB Tryz.prog 188 2 = true := by kernel_rfl
theorem fP : foB Tryz.prog 188 1 1 = true := by kernel_rfl
theorem bS : rowB Tryz.prog 188 2 = true := by kernel_rfl
theorem dI : foB Tryz.prog 188 0 0 = true := by kernel_rfl
theorem oM : fnB Tryz.prog 135 = true := by kernel_rfl
theorem late_is (L : Nat → Prop) (s : Sl) (T : Tn) (w : World) (cx : Cx L w) : Calls Tryz.prog 113 [.agg (tc T s)].toArray w (fun e w' => e = .returned (.bool (lateP T)) ∧ Below w.heap.size w w') := by
  refine ent 15 Tryz.func113 rfl (Kb.start cx (Kn.top _ _)) <| sr <| lx rfl <| fba rfl fun g1 => ?_
  refine lp (pas rfl) rfl <| nt <| sr <| lp (pfa aN 16 rfl) rfl <| lp (pfa iF 32 rfl) rfl <| lr (rce 0 (I T.th.until_) aJ rfl) rfl <| lp (pls rfl) rfl <| lp (pmv rfl) rfl ?_
  by_cases c1 : 0 < T.th.until_
  refine gp (wi rfl (aA c1) rfl) (pfa aN 16 rfl) rfl <| gp (wi rfl (aA c1) rfl) (pfa iF 32 rfl) rfl <| gr (wi rfl (aA c1) rfl) (rce 0 (I T.th.until_) aJ rfl) rfl <| gp (wi rfl (aA c1) rfl) (pfa nM 13 rfl) rfl <| gr (wi rfl (aA c1) rfl) (rce 0 (I T.now) aJ rfl) rfl <| gp (wi rfl (aA c1) rfl) (ple rfl) rfl <| lp (ppt (aA c1) rfl) rfl <| lp (pas rfl) rfl <| nt <| aF <| aG _ (res1 rfl (aD rfl)) (fun W k => ?_)
  exact ⟨congrArg Ending.returned (congrArg Value.bool (by simp [lateP, c1])), k.below⟩
  refine gof (wi rfl (aB c1) rfl) rfl <| gof (wi rfl (aB c1) rfl) rfl <| gof (wi rfl (aB c1) rfl) rfl <| gof (wi rfl (aB c1) rfl) rfl <| gof (wi rfl (aB c1) rfl) rfl <| gof (wi rfl (aB c1) rfl) rfl <| lp (ppf (aB c1) rfl) rfl <| lp (pas rfl) rfl <| nt <| aF <| aG _ (res1 rfl (aD rfl)) (fun W k => ?_)
  exact ⟨congrArg Ending.returned (congrArg Value.bool (by simp [lateP, c1])), k.below⟩
theorem node_is (L : Nat → Prop) (c : Cf) (hc : CfOk c) (item n : Int) (w : World) (cx : Cx L w) : Calls Tryz.prog 91 [.agg c.cells, I item, I n].toArray w (fun e w' => e = .returned (I (nodeS c item n)) ∧ Below w.heap.size w w') := by
  have hb0 := block_le hc
  have hp0 := p2_le hc.de
  have hi0 := hc.it
  have hl0 := hc.la
  have hw0 := hc.wi
  have hq : wrap64 (1 + (p2 c.de - 1)) = p2 c.de := by unfold wrap64; omega
  refine ent 12 Tryz.func91 rfl (Kb.start cx (Kn.top _ _)) <| sr <| lx rfl <| bC c.cells rfl rfl rfl rfl rfl fun g1 => ?_
  refine lx rfl <| bC (#[I item]) rfl rfl rfl rfl rfl fun g2 => ?_
  refine lx rfl <| bC (#[I n]) rfl rfl rfl rfl rfl fun g3 => ?_
  refine lp (pas rfl) rfl <| nt <| sr <| lr (rce 1 (I item) aJ rfl) rfl <| lp (pfa fF 1 rfl) rfl <| lr (rce 2 (I c.it) aJ rfl) rfl <| lp (cE rfl rfl rfl) rfl <| lx rfl <| fin jF rfl (fun W k => ?_)
  refine ent 19 Tryz.func44 rfl k <| sr <| lp (pas rfl) rfl <| nt <| aE <| sr <| lp (pmv rfl) rfl <| lp (pmv rfl) rfl <| lp (pls rfl) rfl <| lp (pmv rfl) rfl ?_
  by_cases c1 : item < 0
  refine gof (wi rfl (aA c1) rfl) rfl <| gof (wi rfl (aA c1) rfl) rfl <| gof (wi rfl (aA c1) rfl) rfl <| lp (ppt (aA c1) rfl) rfl <| nt <| aQ rfl rfl <| sr <| lp (pas rfl) rfl <| nt <| aF (aS ?_)
  refine aG _ (res1 rfl (aD rfl)) (fun W k => ?_)
  refine nx k <| lp (pas rfl) rfl <| nt <| aF <| aG _ (res1 rfl (aD rfl)) (fun W k => ?_)
  exact ⟨congrArg Ending.returned (congrArg I (by unfold nodeS; first | (rw [if_neg (by omega)]) | (rw [if_pos (by omega)]))), k.below⟩
  refine gp (wi rfl (aB c1) rfl) (pmv rfl) rfl <| gp (wi rfl (aB c1) rfl) (pmv rfl) rfl <| gp (wi rfl (aB c1) rfl) (pge rfl) rfl <| lp (ppf (aB c1) rfl) rfl <| nt ?_
  by_cases c2 : c.it ≤ item
  refine aQ rfl (aA c2) <| sr <| lp (pas rfl) rfl <| nt <| aF (aS ?_)
  refine aG _ (res1 rfl (aD rfl)) (fun W k => ?_)
  refine nx k <| lp (pas rfl) rfl <| nt <| aF <| aG _ (res1 rfl (aD rfl)) (fun W k => ?_)
  exact ⟨congrArg Ending.returned (congrArg I (by unfold nodeS; first | (rw [if_neg (by omega)]) | (rw [if_pos (by omega)]))), k.below⟩
  refine aM rfl (aB c2) <| aI <| aC <| sr <| lp (pmv rfl) rfl <| lx rfl <| cA [] qS rfl rfl rfl rfl rfl [.pointer (some ⟨g3, 0, none⟩), .pointer (some ⟨g1, 0, none⟩), .pointer (some ⟨g2, 0, none⟩)] rfl (fun W k => ?_)
  refine ent 10 Tryz.func114 rfl k <| sr <| lp (pas rfl) rfl <| nt <| aE <| dst [] <| dp 4 rfl (cE rfl rfl rfl) <| dr 0 rfl (fun _ h => h) (rce 0 (I n) aJ rfl) <| dr 1 rfl (fun _ h => h) (ral 2 bN rfl) <| dx 2 rfl <| fcv fn62 rfl (fun W k => nodes_is c hc.de W) (aH (fun _ h => h) ?_)
  refine dp 3 rfl (pad (p2 c.de) hq rfl) <| dx 5 rfl <| fin jF rfl (fun W k => ?_)
  refine ent 19 Tryz.func44 rfl k <| sr <| lp (pas rfl) rfl <| nt <| aE <| sr <| lp (pmv rfl) rfl <| lp (pmv rfl) rfl <| lp (pls rfl) rfl <| lp (pmv rfl) rfl ?_
  by_cases c3 : n < 1
  refine gof (wi rfl (aA c3) rfl) rfl <| gof (wi rfl (aA c3) rfl) rfl <| gof (wi rfl (aA c3) rfl) rfl <| lp (ppt (aA c3) rfl) rfl <| nt <| aQ rfl rfl <| sr <| lp (pas rfl) rfl <| nt <| aF (aS ?_)
  refine aG _ (res1 rfl (aD rfl)) (fun W k => ?_)
  refine nx k (aH (fun _ h => h) ?_)
  refine dp 6 rfl (pas rfl) <| dd <| aC <| aF <| aG _ (res1 rfl (aD rfl)) (fun W k => ?_)
  refine nx k <| lp (pas rfl) rfl <| nt <| aF <| aG _ (res1 rfl (aD rfl)) (fun W k => ?_)
  refine nx k <| lp (pas rfl) rfl <| nt <| aF <| aG _ (res1 rfl (aD rfl)) (fun W k => ?_)
  exact ⟨congrArg Ending.returned (congrArg I (by unfold nodeS; first | (rw [if_neg (by omega)]) | (rw [if_pos (by omega)]))), k.below⟩
  refine gp (wi rfl (aB c3) rfl) (pmv rfl) rfl <| gp (wi rfl (aB c3) rfl) (pmv rfl) rfl <| gp (wi rfl (aB c3) rfl) (pge rfl) rfl <| lp (ppf (aB c3) rfl) rfl <| nt ?_
  by_cases c4 : p2 c.de ≤ n
  refine aQ rfl (aA c4) <| sr <| lp (pas rfl) rfl <| nt <| aF (aS ?_)
  refine aG _ (res1 rfl (aD rfl)) (fun W k => ?_)
  refine nx k (aH (fun _ h => h) ?_)
  refine dp 6 rfl (pas rfl) <| dd <| aC <| aF <| aG _ (res1 rfl (aD rfl)) (fun W k => ?_)
  refine nx k <| lp (pas rfl) rfl <| nt <| aF <| aG _ (res1 rfl (aD rfl)) (fun W k => ?_)
  refine nx k <| lp (pas rfl) rfl <| nt <| aF <| aG _ (res1 rfl (aD rfl)) (fun W k => ?_)
  exact ⟨congrArg Ending.returned (congrArg I (by unfold nodeS; first | (rw [if_neg (by omega)]) | (rw [if_pos (by omega)]))), k.below⟩
  refine aM rfl (aB c4) <| aI <| aC <| sr <| lp (pmv rfl) rfl <| lx rfl <| cA [] qT rfl rfl rfl rfl rfl [.pointer (some ⟨g2, 0, none⟩), .pointer (some ⟨g1, 0, none⟩), .pointer (some ⟨g3, 0, none⟩)] rfl (fun W k => ?_)
  refine ent 11 Tryz.func115 rfl k <| sr <| lp (pas rfl) rfl <| nt <| aE <| dst [] <| dr 0 rfl (fun _ h => h) (rce 1 (I item) aJ rfl) <| dr 1 rfl (fun _ h => h) (ral 2 bN rfl) <| dr 5 rfl (fun _ h => h) (rce 0 (I n) aJ rfl) <| dx 2 rfl <| fcv jM rfl (fun W k => of_is c hc W) (aH (fun _ h => h) ?_)
  refine dp 3 rfl (eF 2 1 iG rfl rfl rfl fc103_2) <| dp 4 rfl (pml (item * blockS c) (by have := mul_le_of (a := item) (p := 3) (b := blockS c) (q := 40) (by omega) (by omega) (by omega) (by omega); unfold wrap64; omega) rfl) <| dp 6 rfl (pad (item * blockS c + n) (by have := mul_le_of (a := item) (p := 3) (b := blockS c) (q := 40) (by omega) (by omega) (by omega) (by omega); unfold wrap64; omega) rfl) <| dp 7 rfl (pas rfl) <| dd <| aC <| aF <| aG _ (res1 rfl (aD rfl)) (fun W k => ?_)
  refine nx k <| lp (pas rfl) rfl <| nt <| aF <| aG _ (res1 rfl (aD rfl)) (fun W k => ?_)
  refine nx k (aH (fun _ h => h) ?_)
  refine dp 6 rfl (pas rfl) <| dd <| aC <| aF <| aG _ (res1 rfl (aD rfl)) (fun W k => ?_)
  refine nx k <| lp (pas rfl) rfl <| nt <| aF <| aG _ (res1 rfl (aD rfl)) (fun W k => ?_)
  refine nx k <| lp (pas rfl) rfl <| nt <| aF <| aG _ (res1 rfl (aD rfl)) (fun W k => ?_)
  exact ⟨congrArg Ending.returned (congrArg I (by unfold nodeS; first | (rw [if_neg (by omega)]) | (rw [if_pos (by omega)]))), k.below⟩
theorem slot_is (L : Nat → Prop) (c : Cf) (hc : CfOk c) (item layer i : Int) (w : World) (cx : Cx L w) : Calls Tryz.prog 148 [.agg c.cells, I item, I layer, I i].toArray w (fun e w' => e = .returned (I (slotS c item layer i)) ∧ Below w.heap.size w w') := by
  have hb0 := block_le hc
  have hp0 := p2_le hc.de
  have hi0 := hc.it
  have hl0 := hc.la
  have hw0 := hc.wi
  have hq : wrap64 (1 + c.la) = 1 + c.la := by unfold wrap64; omega
  refine ent 14 Tryz.func148 rfl (Kb.start cx (Kn.top _ _)) <| sr <| lx rfl <| bC c.cells rfl rfl rfl rfl rfl fun g1 => ?_
  refine lx rfl <| bC (#[I item]) rfl rfl rfl rfl rfl fun g2 => ?_
  refine lx rfl <| bC (#[I layer]) rfl rfl rfl rfl rfl fun g3 => ?_
  refine lx rfl <| bC (#[I i]) rfl rfl rfl rfl rfl fun g4 => ?_
  refine lp (pas rfl) rfl <| nt <| sr <| lr (rce 2 (I item) aJ rfl) rfl <| lp (pfa fF 1 rfl) rfl <| lr (rce 3 (I c.it) aJ rfl) rfl <| lp (cE rfl rfl rfl) rfl <| lx rfl <| fin jF rfl (fun W k => ?_)
  refine ent 19 Tryz.func44 rfl k <| sr <| lp (pas rfl) rfl <| nt <| aE <| sr <| lp (pmv rfl) rfl <| lp (pmv rfl) rfl <| lp (pls rfl) rfl <| lp (pmv rfl) rfl ?_
  by_cases c1 : item < 0
  refine gof (wi rfl (aA c1) rfl) rfl <| gof (wi rfl (aA c1) rfl) rfl <| gof (wi rfl (aA c1) rfl) rfl <| lp (ppt (aA c1) rfl) rfl <| nt <| aQ rfl rfl <| sr <| lp (pas rfl) rfl <| nt <| aF (aS ?_)
  refine aG _ (res1 rfl (aD rfl)) (fun W k => ?_)
  refine nx k <| lp (pas rfl) rfl <| nt <| aF <| aG _ (res1 rfl (aD rfl)) (fun W k => ?_)
  exact ⟨congrArg Ending.returned (congrArg I (by unfold slotS; first | (rw [if_neg (by omega)]) | (rw [if_pos (by omega)]))), k.below⟩
  refine gp (wi rfl (aB c1) rfl) (pmv rfl) rfl <| gp (wi rfl (aB c1) rfl) (pmv rfl) rfl <| gp (wi rfl (aB c1) rfl) (pge rfl) rfl <| lp (ppf (aB c1) rfl) rfl <| nt ?_
  by_cases c2 : c.it ≤ item
  refine aQ rfl (aA c2) <| sr <| lp (pas rfl) rfl <| nt <| aF (aS ?_)
  refine aG _ (res1 rfl (aD rfl)) (fun W k => ?_)
  refine nx k <| lp (pas rfl) rfl <| nt <| aF <| aG _ (res1 rfl (aD rfl)) (fun W k => ?_)
  exact ⟨congrArg Ending.returned (congrArg I (by unfold slotS; first | (rw [if_neg (by omega)]) | (rw [if_pos (by omega)]))), k.below⟩
  refine aM rfl (aB c2) <| aI <| aC <| sr <| lp (pmv rfl) rfl <| lx rfl <| cA [] qU rfl rfl rfl rfl rfl [.pointer (some ⟨g3, 0, none⟩), .pointer (some ⟨g1, 0, none⟩), .pointer (some ⟨g4, 0, none⟩), .pointer (some ⟨g2, 0, none⟩)] rfl (fun W k => ?_)
  refine ent 11 Tryz.func157 rfl k <| sr <| lp (pas rfl) rfl <| nt <| sr <| lr (rce 1 (I layer) aJ rfl) rfl <| lp (pfa fV 4 rfl) rfl <| lr (rce 3 (I c.la) aJ rfl) rfl <| lp (pad (1 + c.la) hq rfl) rfl <| lp (cE rfl rfl rfl) rfl <| lx rfl <| fin jF rfl (fun W k => ?_)
  refine ent 19 Tryz.func44 rfl k <| sr <| lp (pas rfl) rfl <| nt <| aE <| sr <| lp (pmv rfl) rfl <| lp (pmv rfl) rfl <| lp (pls rfl) rfl <| lp (pmv rfl) rfl ?_
  by_cases c3 : layer < 1
  refine gof (wi rfl (aA c3) rfl) rfl <| gof (wi rfl (aA c3) rfl) rfl <| gof (wi rfl (aA c3) rfl) rfl <| lp (ppt (aA c3) rfl) rfl <| nt <| aQ rfl rfl <| sr <| lp (pas rfl) rfl <| nt <| aF (aS ?_)
  refine aG _ (res1 rfl (aD rfl)) (fun W k => ?_)
  refine nx k <| lp (pas rfl) rfl <| nt <| aF <| aG _ (res1 rfl (aD rfl)) (fun W k => ?_)
  refine nx k <| lp (pas rfl) rfl <| nt <| aF <| aG _ (res1 rfl (aD rfl)) (fun W k => ?_)
  refine nx k <| lp (pas rfl) rfl <| nt <| aF <| aG _ (res1 rfl (aD rfl)) (fun W k => ?_)
  exact ⟨congrArg Ending.returned (congrArg I (by unfold slotS; first | (rw [if_neg (by omega)]) | (rw [if_pos (by omega)]))), k.below⟩
  refine gp (wi rfl (aB c3) rfl) (pmv rfl) rfl <| gp (wi rfl (aB c3) rfl) (pmv rfl) rfl <| gp (wi rfl (aB c3) rfl) (pge rfl) rfl <| lp (ppf (aB c3) rfl) rfl <| nt ?_
  by_cases c4 : 1 + c.la ≤ layer
  refine aQ rfl (aA c4) <| sr <| lp (pas rfl) rfl <| nt <| aF (aS ?_)
  refine aG _ (res1 rfl (aD rfl)) (fun W k => ?_)
  refine nx k <| lp (pas rfl) rfl <| nt <| aF <| aG _ (res1 rfl (aD rfl)) (fun W k => ?_)
  refine nx k <| lp (pas rfl) rfl <| nt <| aF <| aG _ (res1 rfl (aD rfl)) (fun W k => ?_)
  refine nx k <| lp (pas rfl) rfl <| nt <| aF <| aG _ (res1 rfl (aD rfl)) (fun W k => ?_)
  exact ⟨congrArg Ending.returned (congrArg I (by unfold slotS; first | (rw [if_neg (by omega)]) | (rw [if_pos (by omega)]))), k.below⟩
  refine aM rfl (aB c4) <| aI <| aC <| sr <| lp (pmv rfl) rfl <| lx rfl <| cA [] qV rfl rfl rfl rfl rfl [.pointer (some ⟨g4, 0, none⟩), .pointer (some ⟨g1, 0, none⟩), .pointer (some ⟨g2, 0, none⟩), .pointer (some ⟨g3, 0, none⟩)] rfl (fun W k => ?_)
  refine ent 10 Tryz.func158 rfl k <| sr <| lp (pas rfl) rfl <| nt <| sr <| lr (rce 0 (I i) aJ rfl) rfl <| lp (pfa fW 5 rfl) rfl <| lr (rce 3 (I c.wi) aJ rfl) rfl <| lp (cE rfl rfl rfl) rfl <| lx rfl <| fin jF rfl (fun W k => ?_)
  refine ent 19 Tryz.func44 rfl k <| sr <| lp (pas rfl) rfl <| nt <| aE <| sr <| lp (pmv rfl) rfl <| lp (pmv rfl) rfl <| lp (pls rfl) rfl <| lp (pmv rfl) rfl ?_
  by_cases c5 : i < 0
  refine gof (wi rfl (aA c5) rfl) rfl <| gof (wi rfl (aA c5) rfl) rfl <| gof (wi rfl (aA c5) rfl) rfl <| lp (ppt (aA c5) rfl) rfl <| nt <| aQ rfl rfl <| sr <| lp (pas rfl) rfl <| nt <| aF (aS ?_)
  refine aG _ (res1 rfl (aD rfl)) (fun W k => ?_)
  refine nx k <| lp (pas rfl) rfl <| nt <| aF <| aG _ (res1 rfl (aD rfl)) (fun W k => ?_)
  refine nx k <| lp (pas rfl) rfl <| nt <| aF <| aG _ (res1 rfl (aD rfl)) (fun W k => ?_)
  refine nx k <| lp (pas rfl) rfl <| nt <| aF <| aG _ (res1 rfl (aD rfl)) (fun W k => ?_)
  refine nx k <| lp (pas rfl) rfl <| nt <| aF <| aG _ (res1 rfl (aD rfl)) (fun W k => ?_)
  refine nx k <| lp (pas rfl) rfl <| nt <| aF <| aG _ (res1 rfl (aD rfl)) (fun W k => ?_)
  exact ⟨congrArg Ending.returned (congrArg I (by unfold slotS; first | (rw [if_neg (by omega)]) | (rw [if_pos (by omega)]))), k.below⟩
  refine gp (wi rfl (aB c5) rfl) (pmv rfl) rfl <| gp (wi rfl (aB c5) rfl) (pmv rfl) rfl <| gp (wi rfl (aB c5) rfl) (pge rfl) rfl <| lp (ppf (aB c5) rfl) rfl <| nt ?_
  by_cases c6 : c.wi ≤ i
  refine aQ rfl (aA c6) <| sr <| lp (pas rfl) rfl <| nt <| aF (aS ?_)
  refine aG _ (res1 rfl (aD rfl)) (fun W k => ?_)
  refine nx k <| lp (pas rfl) rfl <| nt <| aF <| aG _ (res1 rfl (aD rfl)) (fun W k => ?_)
  refine nx k <| lp (pas rfl) rfl <| nt <| aF <| aG _ (res1 rfl (aD rfl)) (fun W k => ?_)
  refine nx k <| lp (pas rfl) rfl <| nt <| aF <| aG _ (res1 rfl (aD rfl)) (fun W k => ?_)
  refine nx k <| lp (pas rfl) rfl <| nt <| aF <| aG _ (res1 rfl (aD rfl)) (fun W k => ?_)
  refine nx k <| lp (pas rfl) rfl <| nt <| aF <| aG _ (res1 rfl (aD rfl)) (fun W k => ?_)
  exact ⟨congrArg Ending.returned (congrArg I (by unfold slotS; first | (rw [if_neg (by omega)]) | (rw [if_pos (by omega)]))), k.below⟩
  refine aM rfl (aB c6) <| aI <| aC <| sr <| lp (pmv rfl) rfl <| lx rfl <| cA [] qW rfl rfl rfl rfl rfl [.pointer (some ⟨g2, 0, none⟩), .pointer (some ⟨g1, 0, none⟩), .pointer (some ⟨g3, 0, none⟩), .pointer (some ⟨g4, 0, none⟩)] rfl (fun W k => ?_)
  refine ent 22 Tryz.func159 rfl k <| sr <| lp (pas rfl) rfl <| nt <| aE <| dst [] <| dp 11 rfl (pfa fW 5 rfl) <| dr 0 rfl (fun _ h => h) (rce 2 (I item) aJ rfl) <| dr 1 rfl (fun _ h => h) (ral 3 bN rfl) <| dr 5 rfl (fun _ h => h) (ral 3 bN rfl) <| dr 9 rfl (fun _ h => h) (rce 1 (I layer) aJ rfl) <| dp 10 rfl (psb (layer - 1) (by have h1 := mul_le_of (a := item) (p := 3) (b := blockS c) (q := 40) (by omega) (by omega) (by omega) (by omega); have h2 := mul_le_of (a := layer - 1) (p := 3) (b := c.wi) (q := 8) (by omega) (by omega) (by omega) (by omega); unfold wrap64; omega) rfl) <| dr 12 rfl (fun _ h => h) (rce 3 (I c.wi) aJ rfl) <| dp 13 rfl (pml ((layer - 1) * c.wi) (by have h1 := mul_le_of (a := item) (p := 3) (b := blockS c) (q := 40) (by omega) (by omega) (by omega) (by omega); have h2 := mul_le_of (a := layer - 1) (p := 3) (b := c.wi) (q := 8) (by omega) (by omega) (by omega) (by omega); unfold wrap64; omega) rfl) <| dr 15 rfl (fun _ h => h) (rce 0 (I i) aJ rfl) <| dx 2 rfl <| fcv jM rfl (fun W k => of_is c hc W) (aH (fun _ h => h) ?_)
  refine dp 3 rfl (eF 2 1 iG rfl rfl rfl fc103_2) <| dp 4 rfl (pml (item * blockS c) (by have h1 := mul_le_of (a := item) (p := 3) (b := blockS c) (q := 40) (by omega) (by omega) (by omega) (by omega); have h2 := mul_le_of (a := layer - 1) (p := 3) (b := c.wi) (q := 8) (by omega) (by omega) (by omega) (by omega); unfold wrap64; omega) rfl) <| dx 6 rfl <| fcv jM rfl (fun W k => of_is c hc W) (aH (fun _ h => h) ?_)
  refine dp 7 rfl (eF 1 1 nN rfl rfl rfl fc103_1) <| dp 8 rfl (pad (item * blockS c + p2 c.de) (by have h1 := mul_le_of (a := item) (p := 3) (b := blockS c) (q := 40) (by omega) (by omega) (by omega) (by omega); have h2 := mul_le_of (a := layer - 1) (p := 3) (b := c.wi) (q := 8) (by omega) (by omega) (by omega) (by omega); unfold wrap64; omega) rfl) <| dp 14 rfl (pad (item * blockS c + p2 c.de + (layer - 1) * c.wi) (by have h1 := mul_le_of (a := item) (p := 3) (b := blockS c) (q := 40) (by omega) (by omega) (by omega) (by omega); have h2 := mul_le_of (a := layer - 1) (p := 3) (b := c.wi) (q := 8) (by omega) (by omega) (by omega) (by omega); unfold wrap64; omega) rfl) <| dp 16 rfl (pad (item * blockS c + p2 c.de + (layer - 1) * c.wi + i) (by have h1 := mul_le_of (a := item) (p := 3) (b := blockS c) (q := 40) (by omega) (by omega) (by omega) (by omega); have h2 := mul_le_of (a := layer - 1) (p := 3) (b := c.wi) (q := 8) (by omega) (by omega) (by omega) (by omega); unfold wrap64; omega) rfl) <| dp 17 rfl (pas rfl) <| dd <| aC <| aF <| aG _ (res1 rfl (aD rfl)) (fun W k => ?_)
  refine nx k <| lp (pas rfl) rfl <| nt <| aF <| aG _ (res1 rfl (aD rfl)) (fun W k => ?_)
  refine nx k <| lp (pas rfl) rfl <| nt <| aF <| aG _ (res1 rfl (aD rfl)) (fun W k => ?_)
  refine nx k <| lp (pas rfl) rfl <| nt <| aF <| aG _ (res1 rfl (aD rfl)) (fun W k => ?_)
  refine nx k <| lp (pas rfl) rfl <| nt <| aF <| aG _ (res1 rfl (aD rfl)) (fun W k => ?_)
  refine nx k <| lp (pas rfl) rfl <| nt <| aF <| aG _ (res1 rfl (aD rfl)) (fun W k => ?_)
  refine nx k <| lp (pas rfl) rfl <| nt <| aF <| aG _ (res1 rfl (aD rfl)) (fun W k => ?_)
  exact ⟨congrArg Ending.returned (congrArg I (by unfold slotS; first | (rw [if_neg (by omega)]) | (rw [if_pos (by omega)]))), k.below⟩
theorem and7 (w : Int) (h : 0 ≤ w ∧ w ≤ 1000) : andS w 7 = w % 8 := by
  have key : ∀ n : Fin 1001, andS (n.val : Int) 7 = (n.val : Int) % 8 := by decide +kernel
  have := key ⟨w.toNat, by omega⟩
  simpa [Int.toNat_of_nonneg h.1] using this
theorem and15 (w : Int) (h : -1 ≤ w ∧ w ≤ 124) : andS w 15 = w % 16 := by
  have key : ∀ n : Fin 126, andS ((n.val : Int) - 1) 15 = ((n.val : Int) - 1) % 16 := by decide +kernel
  have := key ⟨(w + 1).toNat, by omega⟩
  simp only [Int.toNat_of_nonneg (show 0 ≤ w + 1 by omega)] at this
  rwa [show w + 1 - 1 = w by omega] at this
theorem of_said (L : Nat → Prop) (w : Int) (hw : 0 ≤ w ∧ w ≤ 1000) (w0 : World) (cx : Cx L w0) : Calls Tryz.prog 135 [I w].toArray w0 (fun e w' => e = .returned (.agg #[I (saidS w).1, I (saidS w).2]) ∧ Below w0.heap.size w0 w') := by
  have hz : wrap64 (w / 8 - 1) = w / 8 - 1 := by unfold wrap64; omega
  have h7 := and7 w hw
  have h15 := and15 (w / 8 - 1) (by omega)
  refine ent 65 Tryz.func135 rfl (Kb.start cx (Kn.top _ _)) <| sr <| lx rfl <| fal gJ rfl fun g1 => ?_
  refine nt <| sr <| lp (pmv rfl) rfl <| lp (kC (w % 8) h7 rfl rfl rfl) rfl <| lp (pmv rfl) rfl <| lp (pE rfl rfl rfl) rfl <| lp (psb (w / 8 - 1) hz rfl) rfl <| lp (bB (#[I (w % 8), I (w / 8 - 1)]) rfl rfl (by kernel_rfl)) rfl <| lx rfl <| fal gJ rfl fun g2 => ?_
  refine lx rfl <| ffl 0 [(g2, Ce 188 (#[I (w % 8), I (w / 8 - 1)])), _] cL rfl rfl <| nt <| aE <| dst [] <| dp 0 rfl (pfa fP 1 rfl) <| dp 3 rfl (pfa fP 1 rfl) <| dr 1 rfl (fun _ h => h) (rce 0 (I (w / 8 - 1)) aJ rfl) <| dp 2 rfl (pF rfl rfl rfl) <| dp 6 rfl (pas rfl) <| dr 4 rfl (fun _ h => h) (rce 0 (I (w / 8 - 1)) aJ rfl) <| dp 5 rfl (kC ((w / 8 - 1) % 16) h15 rfl rfl rfl) <| dp 7 rfl (pas rfl) <| dd <| aC <| aE <| aP <| sr <| lr (ral 0 bS rfl) rfl <| lp (bB (#[I 5, I (-1)]) rfl rfl (by kernel_rfl)) rfl <| lp (nG rfl rfl rfl) rfl <| lp (pas rfl) rfl <| nt ?_
  by_cases c1 : w % 8 = 5 ∧ w / 8 - 1 = -1
  refine aQ rfl (aA c1) <| sr <| lr (ral 0 bS rfl) rfl <| lx rfl <| ffl 1 [_, (g1, Ce 188 (#[I (w % 8), I (w / 8 - 1)]))] cL rfl rfl <| nt <| aF (bD (aS ?_))
  refine aG _ (res1 rfl (aO 1 2 bS rfl rfl rfl)) (fun W k => ?_)
  have e : saidS w = (w % 8, w / 8 - 1) := by unfold saidS; (repeat (first | rw [if_pos (by omega)] | rw [if_neg (by omega)])); all_goals (refine Prod.ext ?_ ?_ <;> simp only [] <;> omega)
  exact ⟨by rw [e], k.below⟩
  refine aM rfl (aB c1) <| sr <| lp (pfa dI 0 rfl) rfl <| lr (rce 0 (I (w % 8)) aJ rfl) rfl <| lp (pge rfl) rfl <| lp (pmv rfl) rfl ?_
  by_cases c2 : 1 ≤ w % 8
  refine gp (wi rfl (aA c2) rfl) (pfa dI 0 rfl) rfl <| gr (wi rfl (aA c2) rfl) (rce 0 (I (w % 8)) aJ rfl) rfl <| gp (wi rfl (aA c2) rfl) (ple rfl) rfl <| lp (ppt (aA c2) rfl) rfl <| lp (pmv rfl) rfl ?_
  by_cases c3 : w % 8 ≤ 3
  refine gp (wi rfl (aA c3) rfl) (pfa fP 1 rfl) rfl <| gr (wi rfl (aA c3) rfl) (rce 0 (I (w / 8 - 1)) aJ rfl) rfl <| gp (wi rfl (aA c3) rfl) (pge rfl) rfl <| lp (ppt (aA c3) rfl) rfl <| lp (pmv rfl) rfl ?_
  by_cases c4 : 0 ≤ w / 8 - 1
  refine gp (wi rfl (aA c4) rfl) (pfa fP 1 rfl) rfl <| gr (wi rfl (aA c4) rfl) (rce 0 (I (w / 8 - 1)) aJ rfl) rfl <| gp (wi rfl (aA c4) rfl) (pls rfl) rfl <| lp (ppt (aA c4) rfl) rfl <| lp (pas rfl) rfl <| nt ?_
  by_cases c5 : w / 8 - 1 < 16
  refine aQ rfl (aA c5) <| sr <| lr (ral 0 bS rfl) rfl <| lx rfl <| ffl 1 [_, (g1, Ce 188 (#[I (w % 8), I (w / 8 - 1)]))] cL rfl rfl <| nt <| aF (bD (aS ?_))
  refine aG _ (res1 rfl (aO 1 2 bS rfl rfl rfl)) (fun W k => ?_)
  have e : saidS w = (w % 8, w / 8 - 1) := by unfold saidS; (repeat (first | rw [if_pos (by omega)] | rw [if_neg (by omega)])); all_goals (refine Prod.ext ?_ ?_ <;> simp only [] <;> omega)
  exact ⟨by rw [e], k.below⟩
  refine aM rfl (aB c5) <| sr <| lp (pfa dI 0 rfl) rfl <| lr (rce 0 (I (w % 8)) aJ rfl) rfl <| lp (peq rfl) rfl <| lp (pmv rfl) rfl ?_
  by_cases c6 : w % 8 = 4
  refine gp (wi rfl (aA c6) rfl) (pmv rfl) rfl <| gp (wi rfl (aA c6) rfl) (pge rfl) rfl <| lp (ppt (aA c6) rfl) rfl <| lp (pmv rfl) rfl ?_
  by_cases c7 : 0 ≤ (w / 8 - 1) / 16
  refine gp (wi rfl (aA c7) rfl) (pmv rfl) rfl <| gp (wi rfl (aA c7) rfl) (pls rfl) rfl <| lp (ppt (aA c7) rfl) rfl <| lp (pmv rfl) rfl ?_
  by_cases c8 : (w / 8 - 1) / 16 < 4
  refine gp (wi rfl (aA c8) rfl) (pmv rfl) rfl <| gp (wi rfl (aA c8) rfl) (pge rfl) rfl <| lp (ppt (aA c8) rfl) rfl <| lp (pmv rfl) rfl ?_
  by_cases c9 : 1 ≤ (w / 8 - 1) % 16
  refine gp (wi rfl (aA c9) rfl) (pmv rfl) rfl <| gp (wi rfl (aA c9) rfl) (ple rfl) rfl <| lp (ppt (aA c9) rfl) rfl <| lp (pas rfl) rfl <| nt ?_
  by_cases c10 : (w / 8 - 1) % 16 ≤ 3
  refine aQ rfl (aA c10) <| sr <| lr (ral 0 bS rfl) rfl <| lx rfl <| ffl 1 [_, (g1, Ce 188 (#[I (w % 8), I (w / 8 - 1)]))] cL rfl rfl <| nt <| aF (bD (aS ?_))
  refine aG _ (res1 rfl (aO 1 2 bS rfl rfl rfl)) (fun W k => ?_)
  have e : saidS w = (w % 8, w / 8 - 1) := by unfold saidS; (repeat (first | rw [if_pos (by omega)] | rw [if_neg (by omega)])); all_goals (refine Prod.ext ?_ ?_ <;> simp only [] <;> omega)
  exact ⟨by rw [e], k.below⟩
  refine aM rfl (aB c10) <| aI <| aW <| aC <| sr <| lp (bB (#[I 0, I 0]) rfl rfl (by kernel_rfl)) rfl <| lx rfl <| ffl 1 [_, (g1, Ce 188 (#[I 0, I 0]))] cL rfl rfl <| nt <| aF <| aG _ (res1 rfl (aO 1 2 bS rfl rfl rfl)) (fun W k => ?_)
  have e : saidS w = (0, 0) := by unfold saidS; (repeat (first | rw [if_pos (by omega)] | rw [if_neg (by omega)])); all_goals (refine Prod.ext ?_ ?_ <;> simp only [] <;> omega)
  exact ⟨by rw [e], k.below⟩
  refine gof (wi rfl (aB c9) rfl) rfl <| gof (wi rfl (aB c9) rfl) rfl <| lp (ppf (aB c9) rfl) rfl <| lp (pas rfl) rfl <| nt <| aM rfl rfl <| aI <| aW <| aC <| sr <| lp (bB (#[I 0, I 0]) rfl rfl (by kernel_rfl)) rfl <| lx rfl <| ffl 1 [_, (g1, Ce 188 (#[I 0, I 0]))] cL rfl rfl <| nt <| aF <| aG _ (res1 rfl (aO 1 2 bS rfl rfl rfl)) (fun W k => ?_)
  have e : saidS w = (0, 0) := by unfold saidS; (repeat (first | rw [if_pos (by omega)] | rw [if_neg (by omega)])); all_goals (refine Prod.ext ?_ ?_ <;> simp only [] <;> omega)
  exact ⟨by rw [e], k.below⟩
  refine gof (wi rfl (aB c8) rfl) rfl <| gof (wi rfl (aB c8) rfl) rfl <| lp (ppf (aB c8) rfl) rfl <| lp (pmv rfl) rfl <| gof (wi rfl rfl rfl) rfl <| gof (wi rfl rfl rfl) rfl <| lp (ppf rfl rfl) rfl <| lp (pas rfl) rfl <| nt <| aM rfl rfl <| aI <| aW <| aC <| sr <| lp (bB (#[I 0, I 0]) rfl rfl (by kernel_rfl)) rfl <| lx rfl <| ffl 1 [_, (g1, Ce 188 (#[I 0, I 0]))] cL rfl rfl <| nt <| aF <| aG _ (res1 rfl (aO 1 2 bS rfl rfl rfl)) (fun W k => ?_)
  have e : saidS w = (0, 0) := by unfold saidS; (repeat (first | rw [if_pos (by omega)] | rw [if_neg (by omega)])); all_goals (refine Prod.ext ?_ ?_ <;> simp only [] <;> omega)
  exact ⟨by rw [e], k.below⟩
  refine gof (wi rfl (aB c7) rfl) rfl <| gof (wi rfl (aB c7) rfl) rfl <| lp (ppf (aB c7) rfl) rfl <| lp (pmv rfl) rfl <| gof (wi rfl rfl rfl) rfl <| gof (wi rfl rfl rfl) rfl <| lp (ppf rfl rfl) rfl <| lp (pmv rfl) rfl <| gof (wi rfl rfl rfl) rfl <| gof (wi rfl rfl rfl) rfl <| lp (ppf rfl rfl) rfl <| lp (pas rfl) rfl <| nt <| aM rfl rfl <| aI <| aW <| aC <| sr <| lp (bB (#[I 0, I 0]) rfl rfl (by kernel_rfl)) rfl <| lx rfl <| ffl 1 [_, (g1, Ce 188 (#[I 0, I 0]))] cL rfl rfl <| nt <| aF <| aG _ (res1 rfl (aO 1 2 bS rfl rfl rfl)) (fun W k => ?_)
  have e : saidS w = (0, 0) := by unfold saidS; (repeat (first | rw [if_pos (by omega)] | rw [if_neg (by omega)])); all_goals (refine Prod.ext ?_ ?_ <;> simp only [] <;> omega)
  exact ⟨by rw [e], k.below⟩
  refine gof (wi rfl (aB c6) rfl) rfl <| gof (wi rfl (aB c6) rfl) rfl <| lp (ppf (aB c6) rfl) rfl <| lp (pmv rfl) rfl <| gof (wi rfl rfl rfl) rfl <| gof (wi rfl rfl rfl) rfl <| lp (ppf rfl rfl) rfl <| lp (pmv rfl) rfl <| gof (wi rfl rfl rfl) rfl <| gof (wi rfl rfl rfl) rfl <| lp (ppf rfl rfl) rfl <| lp (pmv rfl) rfl <| gof (wi rfl rfl rfl) rfl <| gof (wi rfl rfl rfl) rfl <| lp (ppf rfl rfl) rfl <| lp (pas rfl) rfl <| nt <| aM rfl rfl <| aI <| aW <| aC <| sr <| lp (bB (#[I 0, I 0]) rfl rfl (by kernel_rfl)) rfl <| lx rfl <| ffl 1 [_, (g1, Ce 188 (#[I 0, I 0]))] cL rfl rfl <| nt <| aF <| aG _ (res1 rfl (aO 1 2 bS rfl rfl rfl)) (fun W k => ?_)
  have e : saidS w = (0, 0) := by unfold saidS; (repeat (first | rw [if_pos (by omega)] | rw [if_neg (by omega)])); all_goals (refine Prod.ext ?_ ?_ <;> simp only [] <;> omega)
  exact ⟨by rw [e], k.below⟩
  refine gof (wi rfl (aB c4) rfl) rfl <| gof (wi rfl (aB c4) rfl) rfl <| gof (wi rfl (aB c4) rfl) rfl <| lp (ppf (aB c4) rfl) rfl <| lp (pas rfl) rfl <| nt <| aM rfl rfl <| sr <| lp (pfa dI 0 rfl) rfl <| lr (rce 0 (I (w % 8)) aJ rfl) rfl <| lp (peq rfl) rfl <| lp (pmv rfl) rfl ?_
  by_cases c11 : w % 8 = 4
  refine gp (wi rfl (aA c11) rfl) (pmv rfl) rfl <| gp (wi rfl (aA c11) rfl) (pge rfl) rfl <| lp (ppt (aA c11) rfl) rfl <| lp (pmv rfl) rfl ?_
  by_cases c12 : 0 ≤ (w / 8 - 1) / 16
  refine gp (wi rfl (aA c12) rfl) (pmv rfl) rfl <| gp (wi rfl (aA c12) rfl) (pls rfl) rfl <| lp (ppt (aA c12) rfl) rfl <| lp (pmv rfl) rfl ?_
  by_cases c13 : (w / 8 - 1) / 16 < 4
  refine gp (wi rfl (aA c13) rfl) (pmv rfl) rfl <| gp (wi rfl (aA c13) rfl) (pge rfl) rfl <| lp (ppt (aA c13) rfl) rfl <| lp (pmv rfl) rfl ?_
  by_cases c14 : 1 ≤ (w / 8 - 1) % 16
  refine gp (wi rfl (aA c14) rfl) (pmv rfl) rfl <| gp (wi rfl (aA c14) rfl) (ple rfl) rfl <| lp (ppt (aA c14) rfl) rfl <| lp (pas rfl) rfl <| nt ?_
  by_cases c15 : (w / 8 - 1) % 16 ≤ 3
  refine aQ rfl (aA c15) <| sr <| lr (ral 0 bS rfl) rfl <| lx rfl <| ffl 1 [_, (g1, Ce 188 (#[I (w % 8), I (w / 8 - 1)]))] cL rfl rfl <| nt <| aF (bD (aS ?_))
  refine aG _ (res1 rfl (aO 1 2 bS rfl rfl rfl)) (fun W k => ?_)
  have e : saidS w = (w % 8, w / 8 - 1) := by unfold saidS; (repeat (first | rw [if_pos (by omega)] | rw [if_neg (by omega)])); all_goals (refine Prod.ext ?_ ?_ <;> simp only [] <;> omega)
  exact ⟨by rw [e], k.below⟩
  refine aM rfl (aB c15) <| aI <| aW <| aC <| sr <| lp (bB (#[I 0, I 0]) rfl rfl (by kernel_rfl)) rfl <| lx rfl <| ffl 1 [_, (g1, Ce 188 (#[I 0, I 0]))] cL rfl rfl <| nt <| aF <| aG _ (res1 rfl (aO 1 2 bS rfl rfl rfl)) (fun W k => ?_)
  have e : saidS w = (0, 0) := by unfold saidS; (repeat (first | rw [if_pos (by omega)] | rw [if_neg (by omega)])); all_goals (refine Prod.ext ?_ ?_ <;> simp only [] <;> omega)
  exact ⟨by rw [e], k.below⟩
  refine gof (wi rfl (aB c14) rfl) rfl <| gof (wi rfl (aB c14) rfl) rfl <| lp (ppf (aB c14) rfl) rfl <| lp (pas rfl) rfl <| nt <| aM rfl rfl <| aI <| aW <| aC <| sr <| lp (bB (#[I 0, I 0]) rfl rfl (by kernel_rfl)) rfl <| lx rfl <| ffl 1 [_, (g1, Ce 188 (#[I 0, I 0]))] cL rfl rfl <| nt <| aF <| aG _ (res1 rfl (aO 1 2 bS rfl rfl rfl)) (fun W k => ?_)
  have e : saidS w = (0, 0) := by unfold saidS; (repeat (first | rw [if_pos (by omega)] | rw [if_neg (by omega)])); all_goals (refine Prod.ext ?_ ?_ <;> simp only [] <;> omega)
  exact ⟨by rw [e], k.below⟩
  refine gof (wi rfl (aB c13) rfl) rfl <| gof (wi rfl (aB c13) rfl) rfl <| lp (ppf (aB c13) rfl) rfl <| lp (pmv rfl) rfl <| gof (wi rfl rfl rfl) rfl <| gof (wi rfl rfl rfl) rfl <| lp (ppf rfl rfl) rfl <| lp (pas rfl) rfl <| nt <| aM rfl rfl <| aI <| aW <| aC <| sr <| lp (bB (#[I 0, I 0]) rfl rfl (by kernel_rfl)) rfl <| lx rfl <| ffl 1 [_, (g1, Ce 188 (#[I 0, I 0]))] cL rfl rfl <| nt <| aF <| aG _ (res1 rfl (aO 1 2 bS rfl rfl rfl)) (fun W k => ?_)
  have e : saidS w = (0, 0) := by unfold saidS; (repeat (first | rw [if_pos (by omega)] | rw [if_neg (by omega)])); all_goals (refine Prod.ext ?_ ?_ <;> simp only [] <;> omega)
  exact ⟨by rw [e], k.below⟩
  refine gof (wi rfl (aB c12) rfl) rfl <| gof (wi rfl (aB c12) rfl) rfl <| lp (ppf (aB c12) rfl) rfl <| lp (pmv rfl) rfl <| gof (wi rfl rfl rfl) rfl <| gof (wi rfl rfl rfl) rfl <| lp (ppf rfl rfl) rfl <| lp (pmv rfl) rfl <| gof (wi rfl rfl rfl) rfl <| gof (wi rfl rfl rfl) rfl <| lp (ppf rfl rfl) rfl <| lp (pas rfl) rfl <| nt <| aM rfl rfl <| aI <| aW <| aC <| sr <| lp (bB (#[I 0, I 0]) rfl rfl (by kernel_rfl)) rfl <| lx rfl <| ffl 1 [_, (g1, Ce 188 (#[I 0, I 0]))] cL rfl rfl <| nt <| aF <| aG _ (res1 rfl (aO 1 2 bS rfl rfl rfl)) (fun W k => ?_)
  have e : saidS w = (0, 0) := by unfold saidS; (repeat (first | rw [if_pos (by omega)] | rw [if_neg (by omega)])); all_goals (refine Prod.ext ?_ ?_ <;> simp only [] <;> omega)
  exact ⟨by rw [e], k.below⟩
  refine gof (wi rfl (aB c11) rfl) rfl <| gof (wi rfl (aB c11) rfl) rfl <| lp (ppf (aB c11) rfl) rfl <| lp (pmv rfl) rfl <| gof (wi rfl rfl rfl) rfl <| gof (wi rfl rfl rfl) rfl <| lp (ppf rfl rfl) rfl <| lp (pmv rfl) rfl <| gof (wi rfl rfl rfl) rfl <| gof (wi rfl rfl rfl) rfl <| lp (ppf rfl rfl) rfl <| lp (pmv rfl) rfl <| gof (wi rfl rfl rfl) rfl <| gof (wi rfl rfl rfl) rfl <| lp (ppf rfl rfl) rfl <| lp (pas rfl) rfl <| nt <| aM rfl rfl <| aI <| aW <| aC <| sr <| lp (bB (#[I 0, I 0]) rfl rfl (by kernel_rfl)) rfl <| lx rfl <| ffl 1 [_, (g1, Ce 188 (#[I 0, I 0]))] cL rfl rfl <| nt <| aF <| aG _ (res1 rfl (aO 1 2 bS rfl rfl rfl)) (fun W k => ?_)
  have e : saidS w = (0, 0) := by unfold saidS; (repeat (first | rw [if_pos (by omega)] | rw [if_neg (by omega)])); all_goals (refine Prod.ext ?_ ?_ <;> simp only [] <;> omega)
  exact ⟨by rw [e], k.below⟩
  refine gof (wi rfl (aB c3) rfl) rfl <| gof (wi rfl (aB c3) rfl) rfl <| gof (wi rfl (aB c3) rfl) rfl <| lp (ppf (aB c3) rfl) rfl <| lp (pmv rfl) rfl <| gof (wi rfl rfl rfl) rfl <| gof (wi rfl rfl rfl) rfl <| gof (wi rfl rfl rfl) rfl <| lp (ppf rfl rfl) rfl <| lp (pas rfl) rfl <| nt <| aM rfl rfl <| sr <| lp (pfa dI 0 rfl) rfl <| lr (rce 0 (I (w % 8)) aJ rfl) rfl <| lp (peq rfl) rfl <| lp (pmv rfl) rfl ?_
  by_cases c16 : w % 8 = 4
  refine gp (wi rfl (aA c16) rfl) (pmv rfl) rfl <| gp (wi rfl (aA c16) rfl) (pge rfl) rfl <| lp (ppt (aA c16) rfl) rfl <| lp (pmv rfl) rfl ?_
  by_cases c17 : 0 ≤ (w / 8 - 1) / 16
  refine gp (wi rfl (aA c17) rfl) (pmv rfl) rfl <| gp (wi rfl (aA c17) rfl) (pls rfl) rfl <| lp (ppt (aA c17) rfl) rfl <| lp (pmv rfl) rfl ?_
  by_cases c18 : (w / 8 - 1) / 16 < 4
  refine gp (wi rfl (aA c18) rfl) (pmv rfl) rfl <| gp (wi rfl (aA c18) rfl) (pge rfl) rfl <| lp (ppt (aA c18) rfl) rfl <| lp (pmv rfl) rfl ?_
  by_cases c19 : 1 ≤ (w / 8 - 1) % 16
  refine gp (wi rfl (aA c19) rfl) (pmv rfl) rfl <| gp (wi rfl (aA c19) rfl) (ple rfl) rfl <| lp (ppt (aA c19) rfl) rfl <| lp (pas rfl) rfl <| nt ?_
  by_cases c20 : (w / 8 - 1) % 16 ≤ 3
  refine aQ rfl (aA c20) <| sr <| lr (ral 0 bS rfl) rfl <| lx rfl <| ffl 1 [_, (g1, Ce 188 (#[I (w % 8), I (w / 8 - 1)]))] cL rfl rfl <| nt <| aF (bD (aS ?_))
  refine aG _ (res1 rfl (aO 1 2 bS rfl rfl rfl)) (fun W k => ?_)
  have e : saidS w = (w % 8, w / 8 - 1) := by unfold saidS; (repeat (first | rw [if_pos (by omega)] | rw [if_neg (by omega)])); all_goals (refine Prod.ext ?_ ?_ <;> simp only [] <;> omega)
  exact ⟨by rw [e], k.below⟩
  refine aM rfl (aB c20) <| aI <| aW <| aC <| sr <| lp (bB (#[I 0, I 0]) rfl rfl (by kernel_rfl)) rfl <| lx rfl <| ffl 1 [_, (g1, Ce 188 (#[I 0, I 0]))] cL rfl rfl <| nt <| aF <| aG _ (res1 rfl (aO 1 2 bS rfl rfl rfl)) (fun W k => ?_)
  have e : saidS w = (0, 0) := by unfold saidS; (repeat (first | rw [if_pos (by omega)] | rw [if_neg (by omega)])); all_goals (refine Prod.ext ?_ ?_ <;> simp only [] <;> omega)
  exact ⟨by rw [e], k.below⟩
  refine gof (wi rfl (aB c19) rfl) rfl <| gof (wi rfl (aB c19) rfl) rfl <| lp (ppf (aB c19) rfl) rfl <| lp (pas rfl) rfl <| nt <| aM rfl rfl <| aI <| aW <| aC <| sr <| lp (bB (#[I 0, I 0]) rfl rfl (by kernel_rfl)) rfl <| lx rfl <| ffl 1 [_, (g1, Ce 188 (#[I 0, I 0]))] cL rfl rfl <| nt <| aF <| aG _ (res1 rfl (aO 1 2 bS rfl rfl rfl)) (fun W k => ?_)
  have e : saidS w = (0, 0) := by unfold saidS; (repeat (first | rw [if_pos (by omega)] | rw [if_neg (by omega)])); all_goals (refine Prod.ext ?_ ?_ <;> simp only [] <;> omega)
  exact ⟨by rw [e], k.below⟩
  refine gof (wi rfl (aB c18) rfl) rfl <| gof (wi rfl (aB c18) rfl) rfl <| lp (ppf (aB c18) rfl) rfl <| lp (pmv rfl) rfl <| gof (wi rfl rfl rfl) rfl <| gof (wi rfl rfl rfl) rfl <| lp (ppf rfl rfl) rfl <| lp (pas rfl) rfl <| nt <| aM rfl rfl <| aI <| aW <| aC <| sr <| lp (bB (#[I 0, I 0]) rfl rfl (by kernel_rfl)) rfl <| lx rfl <| ffl 1 [_, (g1, Ce 188 (#[I 0, I 0]))] cL rfl rfl <| nt <| aF <| aG _ (res1 rfl (aO 1 2 bS rfl rfl rfl)) (fun W k => ?_)
  have e : saidS w = (0, 0) := by unfold saidS; (repeat (first | rw [if_pos (by omega)] | rw [if_neg (by omega)])); all_goals (refine Prod.ext ?_ ?_ <;> simp only [] <;> omega)
  exact ⟨by rw [e], k.below⟩
  refine gof (wi rfl (aB c17) rfl) rfl <| gof (wi rfl (aB c17) rfl) rfl <| lp (ppf (aB c17) rfl) rfl <| lp (pmv rfl) rfl <| gof (wi rfl rfl rfl) rfl <| gof (wi rfl rfl rfl) rfl <| lp (ppf rfl rfl) rfl <| lp (pmv rfl) rfl <| gof (wi rfl rfl rfl) rfl <| gof (wi rfl rfl rfl) rfl <| lp (ppf rfl rfl) rfl <| lp (pas rfl) rfl <| nt <| aM rfl rfl <| aI <| aW <| aC <| sr <| lp (bB (#[I 0, I 0]) rfl rfl (by kernel_rfl)) rfl <| lx rfl <| ffl 1 [_, (g1, Ce 188 (#[I 0, I 0]))] cL rfl rfl <| nt <| aF <| aG _ (res1 rfl (aO 1 2 bS rfl rfl rfl)) (fun W k => ?_)
  have e : saidS w = (0, 0) := by unfold saidS; (repeat (first | rw [if_pos (by omega)] | rw [if_neg (by omega)])); all_goals (refine Prod.ext ?_ ?_ <;> simp only [] <;> omega)
  exact ⟨by rw [e], k.below⟩
  refine gof (wi rfl (aB c16) rfl) rfl <| gof (wi rfl (aB c16) rfl) rfl <| lp (ppf (aB c16) rfl) rfl <| lp (pmv rfl) rfl <| gof (wi rfl rfl rfl) rfl <| gof (wi rfl rfl rfl) rfl <| lp (ppf rfl rfl) rfl <| lp (pmv rfl) rfl <| gof (wi rfl rfl rfl) rfl <| gof (wi rfl rfl rfl) rfl <| lp (ppf rfl rfl) rfl <| lp (pmv rfl) rfl <| gof (wi rfl rfl rfl) rfl <| gof (wi rfl rfl rfl) rfl <| lp (ppf rfl rfl) rfl <| lp (pas rfl) rfl <| nt <| aM rfl rfl <| aI <| aW <| aC <| sr <| lp (bB (#[I 0, I 0]) rfl rfl (by kernel_rfl)) rfl <| lx rfl <| ffl 1 [_, (g1, Ce 188 (#[I 0, I 0]))] cL rfl rfl <| nt <| aF <| aG _ (res1 rfl (aO 1 2 bS rfl rfl rfl)) (fun W k => ?_)
  have e : saidS w = (0, 0) := by unfold saidS; (repeat (first | rw [if_pos (by omega)] | rw [if_neg (by omega)])); all_goals (refine Prod.ext ?_ ?_ <;> simp only [] <;> omega)
  exact ⟨by rw [e], k.below⟩
  refine gof (wi rfl (aB c2) rfl) rfl <| gof (wi rfl (aB c2) rfl) rfl <| gof (wi rfl (aB c2) rfl) rfl <| lp (ppf (aB c2) rfl) rfl <| lp (pmv rfl) rfl <| gof (wi rfl rfl rfl) rfl <| gof (wi rfl rfl rfl) rfl <| gof (wi rfl rfl rfl) rfl <| lp (ppf rfl rfl) rfl <| lp (pmv rfl) rfl <| gof (wi rfl rfl rfl) rfl <| gof (wi rfl rfl rfl) rfl <| gof (wi rfl rfl rfl) rfl <| lp (ppf rfl rfl) rfl <| lp (pas rfl) rfl <| nt <| aM rfl rfl <| sr <| lp (pfa dI 0 rfl) rfl <| lr (rce 0 (I (w % 8)) aJ rfl) rfl <| lp (peq rfl) rfl <| lp (pmv rfl) rfl ?_
  by_cases c21 : w % 8 = 4
  refine gp (wi rfl (aA c21) rfl) (pmv rfl) rfl <| gp (wi rfl (aA c21) rfl) (pge rfl) rfl <| lp (ppt (aA c21) rfl) rfl <| lp (pmv rfl) rfl ?_
  by_cases c22 : 0 ≤ (w / 8 - 1) / 16
  refine gp (wi rfl (aA c22) rfl) (pmv rfl) rfl <| gp (wi rfl (aA c22) rfl) (pls rfl) rfl <| lp (ppt (aA c22) rfl) rfl <| lp (pmv rfl) rfl ?_
  by_cases c23 : (w / 8 - 1) / 16 < 4
  refine gp (wi rfl (aA c23) rfl) (pmv rfl) rfl <| gp (wi rfl (aA c23) rfl) (pge rfl) rfl <| lp (ppt (aA c23) rfl) rfl <| lp (pmv rfl) rfl ?_
  by_cases c24 : 1 ≤ (w / 8 - 1) % 16
  refine gp (wi rfl (aA c24) rfl) (pmv rfl) rfl <| gp (wi rfl (aA c24) rfl) (ple rfl) rfl <| lp (ppt (aA c24) rfl) rfl <| lp (pas rfl) rfl <| nt ?_
  by_cases c25 : (w / 8 - 1) % 16 ≤ 3
  refine aQ rfl (aA c25) <| sr <| lr (ral 0 bS rfl) rfl <| lx rfl <| ffl 1 [_, (g1, Ce 188 (#[I (w % 8), I (w / 8 - 1)]))] cL rfl rfl <| nt <| aF (bD (aS ?_))
  refine aG _ (res1 rfl (aO 1 2 bS rfl rfl rfl)) (fun W k => ?_)
  have e : saidS w = (w % 8, w / 8 - 1) := by unfold saidS; (repeat (first | rw [if_pos (by omega)] | rw [if_neg (by omega)])); all_goals (refine Prod.ext ?_ ?_ <;> simp only [] <;> omega)
  exact ⟨by rw [e], k.below⟩
  refine aM rfl (aB c25) <| aI <| aW <| aC <| sr <| lp (bB (#[I 0, I 0]) rfl rfl (by kernel_rfl)) rfl <| lx rfl <| ffl 1 [_, (g1, Ce 188 (#[I 0, I 0]))] cL rfl rfl <| nt <| aF <| aG _ (res1 rfl (aO 1 2 bS rfl rfl rfl)) (fun W k => ?_)
  have e : saidS w = (0, 0) := by unfold saidS; (repeat (first | rw [if_pos (by omega)] | rw [if_neg (by omega)])); all_goals (refine Prod.ext ?_ ?_ <;> simp only [] <;> omega)
  exact ⟨by rw [e], k.below⟩
  refine gof (wi rfl (aB c24) rfl) rfl <| gof (wi rfl (aB c24) rfl) rfl <| lp (ppf (aB c24) rfl) rfl <| lp (pas rfl) rfl <| nt <| aM rfl rfl <| aI <| aW <| aC <| sr <| lp (bB (#[I 0, I 0]) rfl rfl (by kernel_rfl)) rfl <| lx rfl <| ffl 1 [_, (g1, Ce 188 (#[I 0, I 0]))] cL rfl rfl <| nt <| aF <| aG _ (res1 rfl (aO 1 2 bS rfl rfl rfl)) (fun W k => ?_)
  have e : saidS w = (0, 0) := by unfold saidS; (repeat (first | rw [if_pos (by omega)] | rw [if_neg (by omega)])); all_goals (refine Prod.ext ?_ ?_ <;> simp only [] <;> omega)
  exact ⟨by rw [e], k.below⟩
  refine gof (wi rfl (aB c23) rfl) rfl <| gof (wi rfl (aB c23) rfl) rfl <| lp (ppf (aB c23) rfl) rfl <| lp (pmv rfl) rfl <| gof (wi rfl rfl rfl) rfl <| gof (wi rfl rfl rfl) rfl <| lp (ppf rfl rfl) rfl <| lp (pas rfl) rfl <| nt <| aM rfl rfl <| aI <| aW <| aC <| sr <| lp (bB (#[I 0, I 0]) rfl rfl (by kernel_rfl)) rfl <| lx rfl <| ffl 1 [_, (g1, Ce 188 (#[I 0, I 0]))] cL rfl rfl <| nt <| aF <| aG _ (res1 rfl (aO 1 2 bS rfl rfl rfl)) (fun W k => ?_)
  have e : saidS w = (0, 0) := by unfold saidS; (repeat (first | rw [if_pos (by omega)] | rw [if_neg (by omega)])); all_goals (refine Prod.ext ?_ ?_ <;> simp only [] <;> omega)
  exact ⟨by rw [e], k.below⟩
  refine gof (wi rfl (aB c22) rfl) rfl <| gof (wi rfl (aB c22) rfl) rfl <| lp (ppf (aB c22) rfl) rfl <| lp (pmv rfl) rfl <| gof (wi rfl rfl rfl) rfl <| gof (wi rfl rfl rfl) rfl <| lp (ppf rfl rfl) rfl <| lp (pmv rfl) rfl <| gof (wi rfl rfl rfl) rfl <| gof (wi rfl rfl rfl) rfl <| lp (ppf rfl rfl) rfl <| lp (pas rfl) rfl <| nt <| aM rfl rfl <| aI <| aW <| aC <| sr <| lp (bB (#[I 0, I 0]) rfl rfl (by kernel_rfl)) rfl <| lx rfl <| ffl 1 [_, (g1, Ce 188 (#[I 0, I 0]))] cL rfl rfl <| nt <| aF <| aG _ (res1 rfl (aO 1 2 bS rfl rfl rfl)) (fun W k => ?_)
  have e : saidS w = (0, 0) := by unfold saidS; (repeat (first | rw [if_pos (by omega)] | rw [if_neg (by omega)])); all_goals (refine Prod.ext ?_ ?_ <;> simp only [] <;> omega)
  exact ⟨by rw [e], k.below⟩
  refine gof (wi rfl (aB c21) rfl) rfl <| gof (wi rfl (aB c21) rfl) rfl <| lp (ppf (aB c21) rfl) rfl <| lp (pmv rfl) rfl <| gof (wi rfl rfl rfl) rfl <| gof (wi rfl rfl rfl) rfl <| lp (ppf rfl rfl) rfl <| lp (pmv rfl) rfl <| gof (wi rfl rfl rfl) rfl <| gof (wi rfl rfl rfl) rfl <| lp (ppf rfl rfl) rfl <| lp (pmv rfl) rfl <| gof (wi rfl rfl rfl) rfl <| gof (wi rfl rfl rfl) rfl <| lp (ppf rfl rfl) rfl <| lp (pas rfl) rfl <| nt <| aM rfl rfl <| aI <| aW <| aC <| sr <| lp (bB (#[I 0, I 0]) rfl rfl (by kernel_rfl)) rfl <| lx rfl <| ffl 1 [_, (g1, Ce 188 (#[I 0, I 0]))] cL rfl rfl <| nt <| aF <| aG _ (res1 rfl (aO 1 2 bS rfl rfl rfl)) (fun W k => ?_)
  have e : saidS w = (0, 0) := by unfold saidS; (repeat (first | rw [if_pos (by omega)] | rw [if_neg (by omega)])); all_goals (refine Prod.ext ?_ ?_ <;> simp only [] <;> omega)
  exact ⟨by rw [e], k.below⟩
theorem kind_is (L : Nat → Prop) (w : Int) (hw : 0 ≤ w ∧ w ≤ 1000) (w0 : World) (cx : Cx L w0) : Calls Tryz.prog 120 [I w].toArray w0 (fun e w' => e = .returned (I (kindS w)) ∧ Below w0.heap.size w0 w') := by
  refine ent 15 Tryz.func120 rfl (Kb.start cx (Kn.top _ _)) <| sr <| lp (pas rfl) rfl <| nt <| aE <| sr <| lp (pmv rfl) rfl <| lx rfl <| fcv oM rfl (fun W k => of_said _ w hw W k.cx) <| lx rfl <| fal gJ rfl fun g1 => ?_
  refine lx rfl <| ffl 0 [(g1, Ce 188 (#[I ((saidS w).1), I ((saidS w).2)]))] cL rfl rfl <| nt <| sr <| lp (pmv rfl) rfl <| lp (peq rfl) rfl <| lp (pmv rfl) rfl ?_
  by_cases c1 : w = 0
  refine gof (wi rfl (aA c1) rfl) rfl <| gof (wi rfl (aA c1) rfl) rfl <| gof (wi rfl (aA c1) rfl) rfl <| lp (ppt (aA c1) rfl) rfl <| nt <| aQ rfl rfl <| sr <| lp (pfa dI 0 rfl) rfl <| lr (rce 0 (I ((saidS w).1)) aJ rfl) rfl <| lp (pas rfl) rfl <| nt <| aF (aS ?_)
  refine aG _ (res1 rfl (aD rfl)) (fun W k => ?_)
  exact ⟨congrArg Ending.returned (congrArg I (by unfold kindS; rw [if_pos (.inl c1)])), k.below⟩
  refine gr (wi rfl (aB c1) rfl) (ral 0 bS rfl) rfl <| gp (wi rfl (aB c1) rfl) (bB (#[I 0, I 0]) rfl rfl (by kernel_rfl)) rfl <| gp (wi rfl (aB c1) rfl) (nH rfl rfl rfl) rfl <| lp (ppf (aB c1) rfl) rfl <| nt ?_
  by_cases c2 : (saidS w).1 = 0 ∧ (saidS w).2 = 0
  refine aM rfl (congrArg not (aA c2)) <| aI <| aC <| sr <| lp (pas rfl) rfl <| nt <| aF <| aG _ (res1 rfl (aD rfl)) (fun W k => ?_)
  exact ⟨congrArg Ending.returned (congrArg I (by unfold kindS; rw [if_neg (fun h => h.elim c1 (fun h => h c2))])), k.below⟩
  refine aQ rfl (congrArg not (aB c2)) <| sr <| lp (pfa dI 0 rfl) rfl <| lr (rce 0 (I ((saidS w).1)) aJ rfl) rfl <| lp (pas rfl) rfl <| nt <| aF (aS ?_)
  refine aG _ (res1 rfl (aD rfl)) (fun W k => ?_)
  exact ⟨congrArg Ending.returned (congrArg I (by unfold kindS; rw [if_pos (.inr c2)])), k.below⟩
theorem who_is (L : Nat → Prop) (w : Int) (hw : 0 ≤ w ∧ w ≤ 1000) (w0 : World) (cx : Cx L w0) : Calls Tryz.prog 137 [I w].toArray w0 (fun e w' => e = .returned (I (whoS w)) ∧ Below w0.heap.size w0 w') := by
  refine ent 16 Tryz.func137 rfl (Kb.start cx (Kn.top _ _)) <| sr <| lp (pas rfl) rfl <| nt <| aE <| sr <| lp (pmv rfl) rfl <| lx rfl <| fcv oM rfl (fun W k => of_said _ w hw W k.cx) <| lx rfl <| fal gJ rfl fun g1 => ?_
  refine lx rfl <| ffl 0 [(g1, Ce 188 (#[I ((saidS w).1), I ((saidS w).2)]))] cL rfl rfl <| nt <| sr <| lp (pfa dI 0 rfl) rfl <| lr (rce 0 (I ((saidS w).1)) aJ rfl) rfl <| lp (pge rfl) rfl <| lp (pmv rfl) rfl ?_
  by_cases c1 : 1 ≤ (saidS w).1
  refine gp (wi rfl (aA c1) rfl) (pfa dI 0 rfl) rfl <| gr (wi rfl (aA c1) rfl) (rce 0 (I ((saidS w).1)) aJ rfl) rfl <| gp (wi rfl (aA c1) rfl) (ple rfl) rfl <| lp (ppt (aA c1) rfl) rfl <| nt ?_
  by_cases c2 : (saidS w).1 ≤ 3
  refine aQ rfl (aA c2) <| sr <| lp (pfa fP 1 rfl) rfl <| lr (rce 0 (I ((saidS w).2)) aJ rfl) rfl <| lp (pas rfl) rfl <| nt <| aF (aS ?_)
  refine aG _ (res1 rfl (aD rfl)) (fun W k => ?_)
  exact ⟨congrArg Ending.returned (congrArg I (by unfold whoS; first | (rw [if_pos (by omega)]) | (rw [if_neg (by omega)]))), k.below⟩
  refine aM rfl (aB c2) <| aI <| aC <| sr <| lp (pas rfl) rfl <| nt <| aF <| aG _ (res1 rfl (aD rfl)) (fun W k => ?_)
  exact ⟨congrArg Ending.returned (congrArg I (by unfold whoS; first | (rw [if_pos (by omega)]) | (rw [if_neg (by omega)]))), k.below⟩
  refine gof (wi rfl (aB c1) rfl) rfl <| gof (wi rfl (aB c1) rfl) rfl <| gof (wi rfl (aB c1) rfl) rfl <| lp (ppf (aB c1) rfl) rfl <| nt <| aM rfl rfl <| aI <| aC <| sr <| lp (pas rfl) rfl <| nt <| aF <| aG _ (res1 rfl (aD rfl)) (fun W k => ?_)
  exact ⟨congrArg Ending.returned (congrArg I (by unfold whoS; first | (rw [if_pos (by omega)]) | (rw [if_neg (by omega)]))), k.below⟩
theorem parent_is (L : Nat → Prop) (n : Int) (w : World) (cx : Cx L w) : Calls Tryz.prog 117 [I n].toArray w (fun e w' => e = .returned (I (parentS n)) ∧ Below w.heap.size w w') := by
  refine ent 6 Tryz.func117 rfl (Kb.start cx (Kn.top _ _)) <| sr <| lp (pas rfl) rfl <| nt <| sr <| lp (pmv rfl) rfl <| lp (jA rfl rfl rfl) rfl <| lp (jL rfl rfl rfl) rfl <| lp (pas rfl) rfl <| nt <| aF <| aG _ (res1 rfl (aD rfl)) (fun W k => ?_)
  exact ⟨congrArg Ending.returned rfl, k.below⟩
theorem cS : foB Tryz.prog 32 0 0 = true := by kernel_rfl
theorem cB : cellB Tryz.prog 24 = true := by kernel_rfl
theorem lL : fnB Tryz.prog 43 = true := by kernel_rfl
theorem bF : zeroB Tryz.prog 32 (#[.slice none 0 0, .slice none 0 0]) := by unfold zeroB; kernel_rfl
theorem bI : rowB Tryz.prog 32 2 = true := by kernel_rfl
theorem lM : fnB Tryz.prog 103 = true := by kernel_rfl
theorem qX : fnB Tryz.prog 104 = true := by kernel_rfl
theorem kY : fnB Tryz.prog 37 = true := by kernel_rfl
theorem jG : szB Tryz.prog 24 1 = true := by kernel_rfl
theorem fA : elB Tryz.prog 24 1 = true := by kernel_rfl
theorem cF : szB Tryz.prog 3 1 = true := by kernel_rfl
theorem bO : szB Tryz.prog 32 2 = true := by kernel_rfl
theorem qY : fnB Tryz.prog 119 = true := by kernel_rfl
theorem qZ : fnB Tryz.prog 156 = true := by kernel_rfl
theorem lN : slB Tryz.prog 30 = true := by kernel_rfl
theorem kZ : elB Tryz.prog 30 1 = true := by kernel_rfl
theorem cV : cellB Tryz.prog 81 = true := by kernel_rfl
theorem gP : foB Tryz.prog 32 1 1 = true := by kernel_rfl
theorem iH : cellB Tryz.prog 30 = true := by kernel_rfl
theorem oN : fnB Tryz.prog 151 = true := by kernel_rfl
theorem lO : fnB Tryz.prog 133 = true := by kernel_rfl
theorem rA : fnB Tryz.prog 154 = true := by kernel_rfl
theorem sz30 : szB Tryz.prog 30 1 = true := by kernel_rfl
theorem nO : szB Tryz.prog 81 1 = true := by kernel_rfl
theorem Mem.set_len (m : Mem) (i v : Int) : (m.set i v).words.length = m.words.length := by simp [Mem.set]
theorem Mem.put_len (m : Mem) (i : Int) (b : List En) : (m.put i b).boxes.length = m.boxes.length := by simp [Mem.put]
theorem mc_set (m : Mem) (i v : Int) (a b : Hd) : mc (m.set i v) a b = #[.slice a.A m.words.length a.c, .slice b.A m.boxes.length b.c] := by unfold mc; rw [Mem.set_len]; rfl
theorem pre_lt {cs : List Value} {cur : Array Value} (hp : ∀ (i : Nat) (v : Value), cs[i]? = some v → cur[i]? = some v) {i : Nat} (h : i < cs.length) : i < cur.size := by
  have := hp i cs[i] (List.getElem?_eq_getElem h)
  exact (Array.getElem?_eq_some_iff.1 this).1
theorem pre_set {cs cs' : List Value} {cur : Array Value} (hp : ∀ (i : Nat) (v : Value), cs[i]? = some v → cur[i]? = some v) (i : Nat) (v : Value) (h : i < cs.length) (hc : cs' = cs.set i v) : ∀ (j : Nat) (u : Value), cs'[j]? = some u → (cur.setIfInBounds i v)[j]? = some u := fun j u hj => by
  subst hc
  rw [List.getElem?_set] at hj
  by_cases e : i = j
  · subst e
    rw [if_pos rfl, if_pos h] at hj
    rw [Array.getElem?_setIfInBounds_self_of_lt (pre_lt hp h)]
    exact hj
  · rw [if_neg e] at hj
    rw [Array.getElem?_setIfInBounds_ne e]
    exact hp j u hj
theorem at43 {L : Nat → Prop} {hd : Hd} {xs : List Int} (i : Int) {w : World} (h : RS L hd xs.length (xs.map I) w) (h0 : 0 ≤ i) (h1 : i < xs.length) : Calls Tryz.prog 43 [.slice hd.A xs.length hd.c, I i].toArray w fun e w' => e = .returned (.tuple [I (xs.getD i.toNat 0), I 0].toArray) ∧ Below w.heap.size w w' := by
  have := at_is _ _ xs i w h.rd
  simpa [atS, h0, h1] using this
theorem cl37 {L : Nat → Prop} {hd : Hd} {xs : List Int} {w : World} (h : RS L hd xs.length (xs.map I) w) (hn : 0 < xs.length) (hm : xs.length ≤ 100000) : Calls Tryz.prog 37 [.slice hd.A xs.length hd.c].toArray w fun e w' => ∃ g c cur, e = .returned (.slice (some ⟨g, 0, none⟩) xs.length c) ∧ w.heap.size ≤ g ∧ Bk (g, Ce 3 cur) w' ∧ xs.length ≤ c ∧ (∀ (i : Nat) (v : Value), (xs.map I)[i]? = some v → cur[i]? = some v) ∧ Below w.heap.size w w' :=
  (clone_ints _ _ xs.length _ w h.rl (by simp) (ints_one xs) (by omega)).mono fun e w' ⟨v', he, ho, hb⟩ => by
    obtain ⟨g, c, cur, rfl, h1, h2, h3, _, _, h6⟩ := owns_pos ho hn
    exact ⟨g, c, cur, he, h1, h2, h3, take_pre h6, hb⟩
theorem cr133 {L : Nat → Prop} {hd : Hd} {xs : List En} {w : World} (cx : Cx L w) (h : RS L hd xs.length (ecs xs) w) (hm : xs.length ≤ 100000) : Calls Tryz.prog 133 [.slice hd.A xs.length hd.c].toArray w fun e w' => ∃ hd' : Hd, e = .returned (.slice hd'.A xs.length hd'.c) ∧ RS L hd' xs.length (ecs xs) w' ∧ Below w.heap.size w w' :=
  (clone_ents _ _ xs.length _ w h.rl (ecs_len xs) (ecs_one xs) (by omega)).mono fun e w' ⟨v', he, ho, hb⟩ => by
    obtain ⟨hd', rfl, h1⟩ := RS.of_owns ho cx
    exact ⟨hd', he, h1, hb⟩
theorem cl154 {L : Nat → Prop} {hd : Hd} {hs : List Hd} {bs : List (List En)} {w : World} (h : RS L hd bs.length (bcs hs bs) w) (hl : hs.length = bs.length) (hn : 0 < bs.length) (hm : bs.length ≤ 100000) : Calls Tryz.prog 154 [.slice hd.A bs.length hd.c].toArray w fun e w' => ∃ g c cur, e = .returned (.slice (some ⟨g, 0, none⟩) bs.length c) ∧ w.heap.size ≤ g ∧ Bk (g, Ce 81 cur) w' ∧ bs.length ≤ c ∧ (∀ (i : Nat) (v : Value), (bcs hs bs)[i]? = some v → cur[i]? = some v) ∧ Below w.heap.size w w' :=
  (clone_boxes _ _ bs.length _ w h.rl (by rw [bcs_len hs bs hl]; simp) (bcs_one hs bs) (by omega)).mono fun e w' ⟨v', he, ho, hb⟩ => by
    obtain ⟨g, c, cur, rfl, h1, h2, h3, _, _, h6⟩ := owns_pos ho hn
    exact ⟨g, c, cur, he, h1, h2, h3, take_pre h6, hb⟩
theorem mload_is (L : Nat → Prop) (m : Mem) (a b : Hd) (i : Int) (w : World) (cx : Cx L w) (h : RS L a m.words.length (m.words.map I) w) (hb : RB L b m.boxes w) (h0 : 0 ≤ i) (h1 : i < m.words.length) (hm : m.words.length ≤ 100000) : Calls Tryz.prog 27 [.agg (mc m a b), I i].toArray w (fun e w' => e = .returned (.tuple [I (m.get i), I 0].toArray) ∧ Below w.heap.size w w') := by
  refine ent 12 Tryz.func27 rfl (Kb.start cx (Kn.and h.kn0 hb.kn0)) <| sr <| lx rfl <| fba rfl fun g1 => ?_
  refine lp (pas rfl) rfl <| lp (pas rfl) rfl <| nt <| sr <| lp (pfa cS 0 rfl) rfl <| lr (rce 0 (.slice a.A m.words.length a.c) cB rfl) rfl <| lp (pmv rfl) rfl <| lx rfl <| fcv lL rfl (fun W k => at43 i k.kn.here.1 (by omega) (by omega)) <| lp (pex rfl) rfl <| lp (pex rfl) rfl <| lp (pas rfl) rfl <| lp (pas rfl) rfl <| nt <| aF <| aG _ (res2 rfl (aD rfl) (aD rfl)) (fun W k => ?_)
  exact ⟨congrArg Ending.returned rfl, k.below⟩
theorem mstore_is (L : Nat → Prop) (m : Mem) (a b : Hd) (i : Int) (v : Int) (w : World) (cx : Cx L w) (h : RS L a m.words.length (m.words.map I) w) (hb : RB L b m.boxes w) (h0 : 0 ≤ i) (h1 : i < m.words.length) (hm : m.words.length ≤ 100000) : Calls Tryz.prog 80 [.agg (mc m a b), I i, I v].toArray w (fun e w' => ∃ a' : Hd, e = .returned (.tuple [.agg (mc (m.set i v) a' b), I 0].toArray) ∧ RS L a' (m.set i v).words.length ((m.set i v).words.map I) w' ∧ Below w.heap.size w w') := by
  refine ent 23 Tryz.func80 rfl (Kb.start cx (Kn.and h.kn0 hb.kn0)) <| sr <| lx rfl <| fba rfl fun g1 => ?_
  refine lx rfl <| bC (#[I v]) rfl rfl rfl rfl rfl fun g2 => ?_
  refine lx rfl <| fal bF rfl fun g3 => ?_
  refine lp (pas rfl) rfl <| nt <| sr <| lr (ral 2 bI rfl) rfl <| lp (pmv rfl) rfl <| lp (cE rfl rfl rfl) rfl <| lx rfl <| fin lM rfl (fun W k => ?_)
  refine ent 45 Tryz.func103 rfl k <| sr <| lx rfl <| fba rfl fun g4 => ?_
  refine lx rfl <| fal bF rfl fun g5 => ?_
  refine lp (pas rfl) rfl <| lp (pas rfl) rfl <| lp (pas rfl) rfl <| nt <| sr <| lp (pfa cS 0 rfl) rfl <| lr (rce 1 (.slice a.A m.words.length a.c) cB rfl) rfl <| lp (pmv rfl) rfl <| lx rfl <| fcv lL rfl (fun W k => at43 i k.kn.here.1 h0 h1) <| lp (pmv rfl) rfl <| lp (pex rfl) rfl <| lp (pex rfl) rfl <| lp (pas rfl) rfl <| lp (pas rfl) rfl <| nt <| aE <| sr <| lp (pmv rfl) rfl <| lp (pne rfl) rfl <| nt <| aM rfl (congrArg not rfl) <| aI <| aC <| sr <| lp (pmv rfl) rfl <| lp (pmv rfl) rfl <| lx rfl <| cA [I (m.words.getD (i).toNat 0)] qX rfl rfl rfl rfl rfl [I (m.words.getD (i).toNat 0), .pointer (some ⟨g2, 0, none⟩)] rfl (fun W k => ?_)
  refine ent 6 Tryz.func104 rfl k <| sr <| lp (pas rfl) rfl <| lp (pas rfl) rfl <| nt <| sr <| lr (rce 3 (I v) aJ rfl) rfl <| lp (pas rfl) rfl <| lp (pas rfl) rfl <| nt <| aF <| aG _ (res2 rfl (aD rfl) (aD rfl)) (fun W k => ?_)
  refine nx k <| lp (pmv rfl) rfl <| lp (pex rfl) rfl <| lp (pex rfl) rfl <| lp (pas rfl) rfl <| lp (pas rfl) rfl <| nt <| aE <| sr <| lp (pmv rfl) rfl <| nt <| aQ rfl rfl <| sr <| lp (pfa cS 0 rfl) rfl <| lr (rce 1 (.slice a.A m.words.length a.c) cB rfl) rfl <| lx rfl <| fca kY rfl (fun W k => cl37 k.kn.here.1 (by omega) (by omega)) ?_
  rintro _ _ W2 k ⟨g6, C1, cur1, rfl, hg1, hk1, hc1, hp1, hb1⟩
  refine nx (k.adopt hb1 (g6, Ce 3 cur1) hg1 hk1) <| lp (pfa cS 0 rfl) rfl <| lx rfl <| fst 2 [_, _, (g4, Ce 32 (#[.slice (⟨some ⟨g6, 0, none⟩, C1⟩ : Hd).A m.words.length (⟨some ⟨g6, 0, none⟩, C1⟩ : Hd).c, .slice b.A m.boxes.length b.c])), _, _, _] jG rfl rfl <| nt <| aU <| lp (pfa cS 0 rfl) rfl <| lr (rce 2 (.slice (⟨some ⟨g6, 0, none⟩, C1⟩ : Hd).A m.words.length (⟨some ⟨g6, 0, none⟩, C1⟩ : Hd).c) cB rfl) rfl <| lp (pmv rfl) rfl <| lp (pmv rfl) rfl <| lp (pix fA rfl rfl h0 h1) rfl <| lx rfl <| dN 0 [(g6, Ce 3 (cur1.setIfInBounds (0 + (i).toNat * 1) (I v))), _, _, _, _, _] rfl rfl rfl rfl rfl cF rfl (pre_lt hp1 (by simp; omega)) rfl <| nt <| sr <| lr (ral 2 bI rfl) rfl <| lp (pmv rfl) rfl <| lp (pmv rfl) rfl <| lp (pmv rfl) rfl <| lx rfl <| ffl 1 [_, (g5, Ce 32 (#[.slice (⟨some ⟨g6, 0, none⟩, C1⟩ : Hd).A m.words.length (⟨some ⟨g6, 0, none⟩, C1⟩ : Hd).c, .slice b.A m.boxes.length b.c])), _, _, _, _] bO rfl rfl <| lp (pas rfl) rfl <| lp (pas rfl) rfl <| lp (pas rfl) rfl <| nt <| aF <| aG _ (res4 rfl (aO 1 2 bI rfl rfl rfl) (aD rfl) (aD rfl) (aD rfl)) (fun W k => ?_)
  refine nx k <| lp (pmv rfl) rfl <| lp (pex rfl) rfl <| lp (pex rfl) rfl <| lp (pex rfl) rfl <| lp (pex rfl) rfl <| lx rfl <| fal bF rfl fun g7 => ?_
  refine lx rfl <| ffl 0 [(g7, Ce 32 (#[.slice (⟨some ⟨g6, 0, none⟩, C1⟩ : Hd).A m.words.length (⟨some ⟨g6, 0, none⟩, C1⟩ : Hd).c, .slice b.A m.boxes.length b.c])), _, _, _, _, _, _] bO rfl rfl <| lp (pas rfl) rfl <| lp (pas rfl) rfl <| lp (pas rfl) rfl <| nt <| sr <| lr (ral 0 bI rfl) rfl <| lp (pmv rfl) rfl <| lx rfl <| ffl 4 [_, _, _, _, (g3, Ce 32 (#[.slice (⟨some ⟨g6, 0, none⟩, C1⟩ : Hd).A m.words.length (⟨some ⟨g6, 0, none⟩, C1⟩ : Hd).c, .slice b.A m.boxes.length b.c])), _, _] bO rfl rfl <| lp (pas rfl) rfl <| nt <| aF <| aG _ (res2 rfl (aO 4 2 bI rfl rfl rfl) (aD rfl)) (fun W k => ?_)
  exact ⟨⟨some ⟨g6, 0, none⟩, C1⟩, by rw [mc_set] <;> rfl, by rw [Mem.set_len]; exact (k.pub 1 rfl _ C1 _ hc1 (pre_set hp1 _ _ (by simp; omega) (by simp [Mem.set]))).kn.here.1.weak, k.below⟩
def casM (m : Mem) (i old v : Int) : Mem := if m.get i = old then m.set i v else m
theorem mcas_is (L : Nat → Prop) (m : Mem) (a b : Hd) (i : Int) (old v : Int) (w : World) (cx : Cx L w) (h : RS L a m.words.length (m.words.map I) w) (hb : RB L b m.boxes w) (h0 : 0 ≤ i) (h1 : i < m.words.length) (hm : m.words.length ≤ 100000) : Calls Tryz.prog 95 [.agg (mc m a b), I i, I old, I v].toArray w (fun e w' => ∃ a' : Hd, e = .returned (.tuple [.agg (mc (casM m i old v) a' b), .bool (decide (m.get i = old)), I 0].toArray) ∧ RS L a' (casM m i old v).words.length ((casM m i old v).words.map I) w' ∧ Below w.heap.size w w') := by
  refine ent 27 Tryz.func95 rfl (Kb.start cx (Kn.and h.kn0 hb.kn0)) <| sr <| lx rfl <| fba rfl fun g1 => ?_
  refine lx rfl <| bC (#[I old]) rfl rfl rfl rfl rfl fun g2 => ?_
  refine lx rfl <| bC (#[I v]) rfl rfl rfl rfl rfl fun g3 => ?_
  refine lx rfl <| fal bF rfl fun g4 => ?_
  refine lp (pas rfl) rfl <| lp (pas rfl) rfl <| nt <| sr <| lr (ral 3 bI rfl) rfl <| lp (pmv rfl) rfl <| lp (cE rfl rfl rfl) rfl <| lx rfl <| fin lM rfl (fun W k => ?_)
  refine ent 45 Tryz.func103 rfl k <| sr <| lx rfl <| fba rfl fun g5 => ?_
  refine lx rfl <| fal bF rfl fun g6 => ?_
  refine lp (pas rfl) rfl <| lp (pas rfl) rfl <| lp (pas rfl) rfl <| nt <| sr <| lp (pfa cS 0 rfl) rfl <| lr (rce 1 (.slice a.A m.words.length a.c) cB rfl) rfl <| lp (pmv rfl) rfl <| lx rfl <| fcv lL rfl (fun W k => at43 i k.kn.here.1 h0 h1) <| lp (pmv rfl) rfl <| lp (pex rfl) rfl <| lp (pex rfl) rfl <| lp (pas rfl) rfl <| lp (pas rfl) rfl <| nt <| aE <| sr <| lp (pmv rfl) rfl <| lp (pne rfl) rfl <| nt <| aM rfl (congrArg not rfl) <| aI <| aC <| sr <| lp (pmv rfl) rfl <| lp (pmv rfl) rfl <| lx rfl <| cA [I (m.words.getD (i).toNat 0)] qY rfl rfl rfl rfl rfl [I (m.words.getD (i).toNat 0), .pointer (some ⟨g3, 0, none⟩), .pointer (some ⟨g2, 0, none⟩)] rfl (fun W k => ?_)
  refine ent 10 Tryz.func119 rfl k <| sr <| lp (pas rfl) rfl <| lp (pas rfl) rfl <| nt <| aE <| dst [] <| dp 1 rfl (pmv rfl) <| dr 0 rfl (fun _ h => h) (rce 3 (I v) aJ rfl) <| dp 4 rfl (pas rfl) <| dr 2 rfl (fun _ h => h) (rce 4 (I old) aJ rfl) <| dp 3 rfl (peq rfl) <| dp 5 rfl (pas rfl) <| dd <| aC <| aF <| aG _ (res2 rfl (aD rfl) (aD rfl)) (fun W k => ?_)
  refine nx k <| lp (pmv rfl) rfl <| lp (pex rfl) rfl <| lp (pex rfl) rfl <| lp (pas rfl) rfl <| lp (pas rfl) rfl <| nt <| aE <| sr <| lp (pmv rfl) rfl <| nt ?_
  by_cases c1 : m.words.getD (i).toNat 0 = old
  refine aQ rfl (aA c1) <| sr <| lp (pfa cS 0 rfl) rfl <| lr (rce 1 (.slice a.A m.words.length a.c) cB rfl) rfl <| lx rfl <| fca kY rfl (fun W k => cl37 k.kn.here.1 (by omega) (by omega)) ?_
  rintro _ _ W2 k ⟨g7, C1, cur1, rfl, hg1, hk1, hc1, hp1, hb1⟩
  refine nx (k.adopt hb1 (g7, Ce 3 cur1) hg1 hk1) <| lp (pfa cS 0 rfl) rfl <| lx rfl <| fst 2 [_, _, (g5, Ce 32 (#[.slice (⟨some ⟨g7, 0, none⟩, C1⟩ : Hd).A m.words.length (⟨some ⟨g7, 0, none⟩, C1⟩ : Hd).c, .slice b.A m.boxes.length b.c])), _, _, _, _] jG rfl rfl <| nt <| aU <| lp (pfa cS 0 rfl) rfl <| lr (rce 2 (.slice (⟨some ⟨g7, 0, none⟩, C1⟩ : Hd).A m.words.length (⟨some ⟨g7, 0, none⟩, C1⟩ : Hd).c) cB rfl) rfl <| lp (pmv rfl) rfl <| lp (pmv rfl) rfl <| lp (pix fA rfl rfl h0 h1) rfl <| lx rfl <| dN 0 [(g7, Ce 3 (cur1.setIfInBounds (0 + (i).toNat * 1) (I v))), _, _, _, _, _, _] rfl rfl rfl rfl rfl cF rfl (pre_lt hp1 (by simp; omega)) rfl <| nt <| sr <| lr (ral 2 bI rfl) rfl <| lp (pmv rfl) rfl <| lp (pmv rfl) rfl <| lp (pmv rfl) rfl <| lx rfl <| ffl 1 [_, (g6, Ce 32 (#[.slice (⟨some ⟨g7, 0, none⟩, C1⟩ : Hd).A m.words.length (⟨some ⟨g7, 0, none⟩, C1⟩ : Hd).c, .slice b.A m.boxes.length b.c])), _, _, _, _, _] bO rfl rfl <| lp (pas rfl) rfl <| lp (pas rfl) rfl <| lp (pas rfl) rfl <| nt <| aF <| aG _ (res4 rfl (aO 1 2 bI rfl rfl rfl) (aD rfl) (aD rfl) (aD rfl)) (fun W k => ?_)
  refine nx k <| lp (pmv rfl) rfl <| lp (pex rfl) rfl <| lp (pex rfl) rfl <| lp (pex rfl) rfl <| lp (pex rfl) rfl <| lx rfl <| fal bF rfl fun g8 => ?_
  refine lx rfl <| ffl 0 [(g8, Ce 32 (#[.slice (⟨some ⟨g7, 0, none⟩, C1⟩ : Hd).A m.words.length (⟨some ⟨g7, 0, none⟩, C1⟩ : Hd).c, .slice b.A m.boxes.length b.c])), _, _, _, _, _, _, _] bO rfl rfl <| lp (pas rfl) rfl <| lp (pas rfl) rfl <| lp (pas rfl) rfl <| nt <| sr <| lr (ral 0 bI rfl) rfl <| lp (pmv rfl) rfl <| lp (pmv rfl) rfl <| lx rfl <| ffl 4 [_, _, _, _, (g4, Ce 32 (#[.slice (⟨some ⟨g7, 0, none⟩, C1⟩ : Hd).A m.words.length (⟨some ⟨g7, 0, none⟩, C1⟩ : Hd).c, .slice b.A m.boxes.length b.c])), _, _, _] bO rfl rfl <| lp (pas rfl) rfl <| lp (pas rfl) rfl <| nt <| aF <| aG _ (res3 rfl (aO 4 2 bI rfl rfl rfl) (aD rfl) (aD rfl)) (fun W k => ?_)
  exact ⟨⟨some ⟨g7, 0, none⟩, C1⟩, by rw [show casM m i old v = m.set i v from if_pos c1, mc_set] <;> rfl, by rw [show casM m i old v = m.set i v from if_pos c1]; simp only [Mem.set_len]; exact (k.pub 1 rfl _ C1 _ hc1 (pre_set hp1 _ _ (by simp; omega) (by simp [Mem.set]))).kn.here.1.weak, k.below⟩
  refine aM rfl (aB c1) <| aI <| aC <| sr <| lr (ral 1 bI rfl) rfl <| lp (pmv rfl) rfl <| lp (pmv rfl) rfl <| lp (pmv rfl) rfl <| lx rfl <| ffl 0 [(g6, Ce 32 (mc m a b)), _, _, _, _, _] bO rfl rfl <| lp (pas rfl) rfl <| lp (pas rfl) rfl <| lp (pas rfl) rfl <| nt <| aF <| aG _ (res4 rfl (aO 0 2 bI rfl rfl rfl) (aD rfl) (aD rfl) (aD rfl)) (fun W k => ?_)
  refine nx k <| lp (pmv rfl) rfl <| lp (pex rfl) rfl <| lp (pex rfl) rfl <| lp (pex rfl) rfl <| lp (pex rfl) rfl <| lx rfl <| fal bF rfl fun g9 => ?_
  refine lx rfl <| ffl 0 [(g9, Ce 32 (mc m a b)), _, _, _, _, _, _] bO rfl rfl <| lp (pas rfl) rfl <| lp (pas rfl) rfl <| lp (pas rfl) rfl <| nt <| sr <| lr (ral 0 bI rfl) rfl <| lp (pmv rfl) rfl <| lp (pmv rfl) rfl <| lx rfl <| ffl 3 [_, _, _, (g4, Ce 32 (mc m a b)), _, _, _] bO rfl rfl <| lp (pas rfl) rfl <| lp (pas rfl) rfl <| nt <| aF <| aG _ (res3 rfl (aO 3 2 bI rfl rfl rfl) (aD rfl) (aD rfl)) (fun W k => ?_)
  exact ⟨a, by rw [show casM m i old v = m from if_neg c1]; rfl, by rw [show casM m i old v = m from if_neg c1]; exact k.kn.here.1.weak, k.below⟩
theorem mswap_is (L : Nat → Prop) (m : Mem) (a b : Hd) (i : Int) (v : Int) (w : World) (cx : Cx L w) (h : RS L a m.words.length (m.words.map I) w) (hb : RB L b m.boxes w) (h0 : 0 ≤ i) (h1 : i < m.words.length) (hm : m.words.length ≤ 100000) : Calls Tryz.prog 147 [.agg (mc m a b), I i, I v].toArray w (fun e w' => ∃ a' : Hd, e = .returned (.tuple [.agg (mc (m.set i v) a' b), I (m.get i), I 0].toArray) ∧ RS L a' (m.set i v).words.length ((m.set i v).words.map I) w' ∧ Below w.heap.size w w') := by
  refine ent 25 Tryz.func147 rfl (Kb.start cx (Kn.and h.kn0 hb.kn0)) <| sr <| lx rfl <| fba rfl fun g1 => ?_
  refine lx rfl <| bC (#[I v]) rfl rfl rfl rfl rfl fun g2 => ?_
  refine lx rfl <| fal bF rfl fun g3 => ?_
  refine lp (pas rfl) rfl <| lp (pas rfl) rfl <| nt <| sr <| lr (ral 2 bI rfl) rfl <| lp (pmv rfl) rfl <| lp (cE rfl rfl rfl) rfl <| lx rfl <| fin lM rfl (fun W k => ?_)
  refine ent 45 Tryz.func103 rfl k <| sr <| lx rfl <| fba rfl fun g4 => ?_
  refine lx rfl <| fal bF rfl fun g5 => ?_
  refine lp (pas rfl) rfl <| lp (pas rfl) rfl <| lp (pas rfl) rfl <| nt <| sr <| lp (pfa cS 0 rfl) rfl <| lr (rce 1 (.slice a.A m.words.length a.c) cB rfl) rfl <| lp (pmv rfl) rfl <| lx rfl <| fcv lL rfl (fun W k => at43 i k.kn.here.1 h0 h1) <| lp (pmv rfl) rfl <| lp (pex rfl) rfl <| lp (pex rfl) rfl <| lp (pas rfl) rfl <| lp (pas rfl) rfl <| nt <| aE <| sr <| lp (pmv rfl) rfl <| lp (pne rfl) rfl <| nt <| aM rfl (congrArg not rfl) <| aI <| aC <| sr <| lp (pmv rfl) rfl <| lp (pmv rfl) rfl <| lx rfl <| cA [I (m.words.getD (i).toNat 0)] qZ rfl rfl rfl rfl rfl [I (m.words.getD (i).toNat 0), .pointer (some ⟨g2, 0, none⟩)] rfl (fun W k => ?_)
  refine ent 6 Tryz.func156 rfl k <| sr <| lp (pas rfl) rfl <| lp (pas rfl) rfl <| nt <| sr <| lr (rce 3 (I v) aJ rfl) rfl <| lp (pas rfl) rfl <| lp (pas rfl) rfl <| nt <| aF <| aG _ (res2 rfl (aD rfl) (aD rfl)) (fun W k => ?_)
  refine nx k <| lp (pmv rfl) rfl <| lp (pex rfl) rfl <| lp (pex rfl) rfl <| lp (pas rfl) rfl <| lp (pas rfl) rfl <| nt <| aE <| sr <| lp (pmv rfl) rfl <| nt <| aQ rfl rfl <| sr <| lp (pfa cS 0 rfl) rfl <| lr (rce 1 (.slice a.A m.words.length a.c) cB rfl) rfl <| lx rfl <| fca kY rfl (fun W k => cl37 k.kn.here.1 (by omega) (by omega)) ?_
  rintro _ _ W2 k ⟨g6, C1, cur1, rfl, hg1, hk1, hc1, hp1, hb1⟩
  refine nx (k.adopt hb1 (g6, Ce 3 cur1) hg1 hk1) <| lp (pfa cS 0 rfl) rfl <| lx rfl <| fst 2 [_, _, (g4, Ce 32 (#[.slice (⟨some ⟨g6, 0, none⟩, C1⟩ : Hd).A m.words.length (⟨some ⟨g6, 0, none⟩, C1⟩ : Hd).c, .slice b.A m.boxes.length b.c])), _, _, _] jG rfl rfl <| nt <| aU <| lp (pfa cS 0 rfl) rfl <| lr (rce 2 (.slice (⟨some ⟨g6, 0, none⟩, C1⟩ : Hd).A m.words.length (⟨some ⟨g6, 0, none⟩, C1⟩ : Hd).c) cB rfl) rfl <| lp (pmv rfl) rfl <| lp (pmv rfl) rfl <| lp (pix fA rfl rfl h0 h1) rfl <| lx rfl <| dN 0 [(g6, Ce 3 (cur1.setIfInBounds (0 + (i).toNat * 1) (I v))), _, _, _, _, _] rfl rfl rfl rfl rfl cF rfl (pre_lt hp1 (by simp; omega)) rfl <| nt <| sr <| lr (ral 2 bI rfl) rfl <| lp (pmv rfl) rfl <| lp (pmv rfl) rfl <| lp (pmv rfl) rfl <| lx rfl <| ffl 1 [_, (g5, Ce 32 (#[.slice (⟨some ⟨g6, 0, none⟩, C1⟩ : Hd).A m.words.length (⟨some ⟨g6, 0, none⟩, C1⟩ : Hd).c, .slice b.A m.boxes.length b.c])), _, _, _, _] bO rfl rfl <| lp (pas rfl) rfl <| lp (pas rfl) rfl <| lp (pas rfl) rfl <| nt <| aF <| aG _ (res4 rfl (aO 1 2 bI rfl rfl rfl) (aD rfl) (aD rfl) (aD rfl)) (fun W k => ?_)
  refine nx k <| lp (pmv rfl) rfl <| lp (pex rfl) rfl <| lp (pex rfl) rfl <| lp (pex rfl) rfl <| lp (pex rfl) rfl <| lx rfl <| fal bF rfl fun g7 => ?_
  refine lx rfl <| ffl 0 [(g7, Ce 32 (#[.slice (⟨some ⟨g6, 0, none⟩, C1⟩ : Hd).A m.words.length (⟨some ⟨g6, 0, none⟩, C1⟩ : Hd).c, .slice b.A m.boxes.length b.c])), _, _, _, _, _, _] bO rfl rfl <| lp (pas rfl) rfl <| lp (pas rfl) rfl <| lp (pas rfl) rfl <| nt <| sr <| lr (ral 0 bI rfl) rfl <| lp (pmv rfl) rfl <| lp (pmv rfl) rfl <| lx rfl <| ffl 4 [_, _, _, _, (g3, Ce 32 (#[.slice (⟨some ⟨g6, 0, none⟩, C1⟩ : Hd).A m.words.length (⟨some ⟨g6, 0, none⟩, C1⟩ : Hd).c, .slice b.A m.boxes.length b.c])), _, _] bO rfl rfl <| lp (pas rfl) rfl <| lp (pas rfl) rfl <| nt <| aF <| aG _ (res3 rfl (aO 4 2 bI rfl rfl rfl) (aD rfl) (aD rfl)) (fun W k => ?_)
  exact ⟨⟨some ⟨g6, 0, none⟩, C1⟩, by rw [mc_set] <;> rfl, by rw [Mem.set_len]; exact (k.pub 1 rfl _ C1 _ hc1 (pre_set hp1 _ _ (by simp; omega) (by simp [Mem.set]))).kn.here.1.weak, k.below⟩
theorem at151 {L : Nat → Prop} {b : Hd} {hs : List Hd} {bs : List (List En)} (i : Int) {w : World} (cx : Cx L w) (h : RS L b bs.length (bcs hs bs) w) (hl : hs.length = bs.length) (h0 : 0 ≤ i) (h1 : i < bs.length) : Calls Tryz.prog 151 [.slice b.A bs.length b.c, I i].toArray w (fun e w' => e = .returned (.tuple [.slice (hs.getD i.toNat hd0).A (bs.getD i.toNat []).length (hs.getD i.toNat hd0).c, I 0].toArray) ∧ Below w.heap.size w w') := by
  refine ent 19 Tryz.func151 rfl (Kb.start cx h.kn0) <| sr <| lp (pas rfl) rfl <| lp (pas rfl) rfl <| nt <| aE <| sr <| lp (pmv rfl) rfl <| lp (pls rfl) rfl <| lp (pmv rfl) rfl <| gp (wi rfl (aB (by omega)) rfl) (pmv rfl) rfl <| gp (wi rfl (aB (by omega)) rfl) (pmv rfl) rfl <| gp (wi rfl (aB (by omega)) rfl) (pln lN rfl) rfl <| gp (wi rfl (aB (by omega)) rfl) (pge rfl) rfl <| lp (ppf (aB (by omega)) rfl) rfl <| nt <| aM rfl (aB (by omega)) <| aI <| aC <| sr <| lp (pmv rfl) rfl <| lp (pmv rfl) rfl <| bR (fun W k => RS.addr k.kn.here (by rw [bcs_len hs bs hl]; omega)) ?_
  rintro ⟨B1, p1, hA1⟩
  refine lp (pix kZ rfl hA1 h0 h1) rfl <| lr (cI (.slice (hs.getD (i).toNat hd0).A ((bs.getD (i).toNat []).length) (hs.getD (i).toNat hd0).c) cV rfl rfl (fun W k => RS.one k.kn.here hA1 _ (bcs_at hs bs hl _ h0 h1))) rfl <| lp (pas rfl) rfl <| lp (pas rfl) rfl <| nt <| aF <| aG _ (res2 rfl (aD rfl) (aD rfl)) (fun W k => ?_)
  exact ⟨congrArg Ending.returned rfl, k.below⟩
theorem mbox_is (L : Nat → Prop) (m : Mem) (a b : Hd) (i : Int) (w : World) (cx : Cx L w) (hb : RB L b m.boxes w) (h0 : 0 ≤ i) (h1 : i < m.boxes.length) (hm : m.boxes.length ≤ 100000) (hlen : (m.box i).length ≤ 100000) : Calls Tryz.prog 141 [.agg (mc m a b), I i].toArray w (fun e w' => ∃ hd : Hd, e = .returned (.tuple [.slice hd.A (m.box i).length hd.c, I 0].toArray) ∧ RS L hd (m.box i).length (ecs (m.box i)) w' ∧ Below w.heap.size w w') := by
  obtain ⟨hs, hl, hr, hi⟩ := hb
  refine ent 18 Tryz.func141 rfl (Kb.start cx (Kn.and hr.kn0 (RI.kn0 hi))) <| sr <| lx rfl <| fba rfl fun g1 => ?_
  refine lp (pas rfl) rfl <| lp (pas rfl) rfl <| nt <| sr <| lp (pfa gP 1 rfl) rfl <| lr (rce 0 (.slice b.A m.boxes.length b.c) iH rfl) rfl <| lp (pmv rfl) rfl <| lx rfl <| fcv oN rfl (fun W k => at151 i k.cx k.kn.here.1 hl h0 h1) <| lp (pmv rfl) rfl <| lp (pex rfl) rfl <| lp (pex rfl) rfl <| lp (pas rfl) rfl <| lp (pas rfl) rfl <| nt <| sr <| lp (pmv rfl) rfl <| lx rfl <| fca lO rfl (fun W k => cr133 k.cx (k.kn.here.2 i.toNat (by omega)) hlen) ?_
  rintro _ _ W2 k ⟨z1, rfl, hr1, hb1⟩
  refine nx ((k.call hb1).and hr1.kn) <| lp (pmv rfl) rfl <| lp (pas rfl) rfl <| lp (pas rfl) rfl <| nt <| aF <| aG _ (res2 rfl (aD rfl) (aD rfl)) (fun W k => ?_)
  exact ⟨z1, rfl, k.kn.here.1.weak, k.below⟩
theorem mc_put (m : Mem) (i : Int) (x : List En) (a b : Hd) : mc (m.put i x) a b = #[.slice a.A m.words.length a.c, .slice b.A m.boxes.length b.c] := by unfold mc; rw [Mem.put_len]; rfl
theorem mput_is (L : Nat → Prop) (m : Mem) (a b : Hd) (i : Int) (w : World) (cx : Cx L w) (hb : RB L b m.boxes w) (h0 : 0 ≤ i) (h1 : i < m.boxes.length) (hm : m.boxes.length ≤ 100000) (xs : List En) (x : Hd) (hx : RS L x xs.length (ecs xs) w) (hlen : xs.length ≤ 100000) : Calls Tryz.prog 144 [.agg (mc m a b), I i, .slice x.A xs.length x.c].toArray w (fun e w' => ∃ b' : Hd, e = .returned (.tuple [.agg (mc (m.put i xs) a b'), I 0].toArray) ∧ RB L b' (m.put i xs).boxes w' ∧ Below w.heap.size w w') := by
  obtain ⟨hs, hl, hr, hi⟩ := hb
  refine ent 32 Tryz.func144 rfl (Kb.start cx (Kn.and hx.kn0 (Kn.and hr.kn0 (RI.kn0 hi)))) <| sr <| lx rfl <| fba rfl fun g1 => ?_
  refine lx rfl <| fal bF rfl fun g2 => ?_
  refine lp (pas rfl) rfl <| nt <| aE <| sr <| lp (pfa gP 1 rfl) rfl <| lr (rce 1 (.slice b.A m.boxes.length b.c) iH rfl) rfl <| lp (pmv rfl) rfl <| lx rfl <| fcv oN rfl (fun W k => at151 i k.cx k.kn.here.2.1 hl h0 h1) <| lp (pmv rfl) rfl <| lp (pex rfl) rfl <| lp (pex rfl) rfl <| lp (pas rfl) rfl <| lp (pas rfl) rfl <| nt <| sr <| lp (pmv rfl) rfl <| lp (pne rfl) rfl <| nt <| aM rfl (congrArg not rfl) <| aI <| aC <| sr <| lp (pfa gP 1 rfl) rfl <| lr (rce 1 (.slice b.A m.boxes.length b.c) iH rfl) rfl <| lx rfl <| fca rA rfl (fun W k => cl154 k.kn.here.2.1 hl (by omega) (by omega)) ?_
  rintro _ _ W2 k ⟨g3, C1, cur1, rfl, hg1, hk1, hc1, hp1, hb1⟩
  refine nx (k.adopt hb1 (g3, Ce 81 cur1) hg1 hk1) <| lp (pfa gP 1 rfl) rfl <| lx rfl <| fst 2 [_, _, (g1, Ce 32 (#[.slice a.A m.words.length a.c, .slice (⟨some ⟨g3, 0, none⟩, C1⟩ : Hd).A m.boxes.length (⟨some ⟨g3, 0, none⟩, C1⟩ : Hd).c]))] sz30 rfl rfl <| nt <| aE <| dst [6] <| dp 0 rfl (pfa gP 1 rfl) <| dp 2 rfl (pmv rfl) <| dp 3 rfl (pmv rfl) <| dr 1 rfl (fun _ h => h) (rce 2 (.slice (⟨some ⟨g3, 0, none⟩, C1⟩ : Hd).A m.boxes.length (⟨some ⟨g3, 0, none⟩, C1⟩ : Hd).c) iH rfl) <| dx 4 rfl <| fca lO rfl (fun W k => cr133 k.cx k.kn.here.1 hlen) ?_
  rintro _ _ W3 k ⟨z1, rfl, hr1, hb2⟩
  refine nx ((k.call hb2).and hr1.kn) (aH (fun _ h => h.drop) ?_)
  refine dp 5 rfl (pix kZ rfl rfl h0 h1) <| dl 6 rfl <| dN 0 [(g3, Ce 81 (cur1.setIfInBounds (0 + (i).toNat * 1) (.slice z1.A xs.length z1.c))), _, _] rfl rfl rfl rfl rfl nO rfl (pre_lt hp1 (by rw [bcs_len hs m.boxes hl]; omega)) rfl <| dd <| aC <| sr <| lr (ral 2 bI rfl) rfl <| lx rfl <| ffl 1 [_, (g2, Ce 32 (#[.slice a.A m.words.length a.c, .slice (⟨some ⟨g3, 0, none⟩, C1⟩ : Hd).A m.boxes.length (⟨some ⟨g3, 0, none⟩, C1⟩ : Hd).c])), _] bO rfl rfl <| lp (pas rfl) rfl <| nt <| aF <| aG _ (res2 rfl (aO 1 2 bI rfl rfl rfl) (aD rfl)) (fun W k => ?_)
  refine ⟨⟨some ⟨g3, 0, none⟩, C1⟩, by rw [mc_put] <;> rfl, ?_, k.below⟩
  have hq := (k.pub 0 rfl _ C1 _ hc1 (pre_set hp1 _ _ (by rw [bcs_len hs m.boxes hl]; omega) rfl)).kn.here.1.weak
  rw [Nat.zero_add, Nat.mul_one, bcs_set hs m.boxes hl] at hq
  exact RB.put i.toNat _ (by simp) hl hq (RI.weak k.kn.here.2.2.2) k.kn.here.1.weak
end Go.Proofs.YtgbkjnikcnjbkaaGreat.Top
