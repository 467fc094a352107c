/- Nothing of a statement is proved in this text alone: it is part 5 of the proof's own tools, an evaluator of the code over deep values, its soundness, and what it makes of this seat's functions. Conditions: none beyond the statement's own. -/
import Derived.Test.YtpkjnefhnedfdaaGreatDoorVsRCAdd4
set_option linter.unusedSimpArgs false
set_option linter.unusedVariables false
namespace Go.VS
open Go Go.Proofs
set_option maxHeartbeats 0
set_option linter.unusedSimpArgs false
set_option linter.unusedVariables false
def z8 (x : S_Span) (by_ : Int) : (GS S_Span) :=
  (zJ (w64 (x.lo + by_)) (w64 (x.hi + by_)))

theorem T_ranges_Shift_1 (x : S_Span) (by_ : Int) : (lim cfg).pure 85 [S_Span.D x, .ptr (I by_)] = some (GS.D S_Span.D 2 (z8 x by_)) := by
  unfold z8
  exact zq [.pure (.sl ((zJ (w64 (x.lo + by_)) (w64 (x.hi + by_))).nl) (((zJ (w64 (x.lo + by_)) (w64 (x.hi + by_))).l).map S_Span.D) (zsl ((zJ (w64 (x.lo + by_)) (w64 (x.hi + by_))).nl) 2) none)] (And.intro (T_ranges_some (w64 (x.lo + by_)) (w64 (x.hi + by_))) trivial) (by kernel_rfl)

theorem shift1_len (x : S_Span) (by_ : Int) : (z8 x by_).l.length ≤ 1 := some1 _ _

def sd202 (r : GS S_Span) (by_ : Int) (i3p1 : Nat) (x3p1 : S_Span) (vc3p1_0 : List S_Span) : St := ⟨21, [(10, I ((i3p1 + 1 : Nat) : Int)), (19, I ((i3p1 + 1 : Nat) : Int)), (5, .lsl 1 0 vc3p1_0.length 2 none), (18, .lsl 1 0 vc3p1_0.length 2 none), (17, .sl ((z8 x3p1 by_).nl) (((z8 x3p1 by_).l).map S_Span.D) (zsl ((z8 x3p1 by_).nl) 2) none), (16, .agg [I x3p1.lo, I x3p1.hi]), (15, .fn (.func 85) [] [.lref 0 0 1 0]), (14, .lsl 1 0 vc3p1_0.length 2 none), (7, .lref 2 0 2 0), (13, .agg [I x3p1.lo, I x3p1.hi]), (12, .ptr (.agg [I x3p1.lo, I x3p1.hi])), (11, B true), (1, .fn (.func 85) [] [.lref 0 0 1 0]), (5, .lsl 1 0 vc3p1_0.length 2 none), (8, .sl r.nl (r.l.map S_Span.D) (zsl r.nl 2) none), (9, I ((r.l.length : Nat) : Int)), (10, I ((i3p1 : Nat) : Int))], [(0, ⟨[I by_], 1, true⟩), (1, ⟨vc3p1_0.map S_Span.D, 2, false⟩), (2, ⟨[.agg [I x3p1.lo, I x3p1.hi]], 2, false⟩)], 3, 1⟩

def sd203 (r : GS S_Span) (by_ : Int) (i3p1 : Nat) (x3p1 : S_Span) (vc3p1_0 : List S_Span) : St := ⟨21, [(10, I ((i3p1 + 1 : Nat) : Int)), (19, I ((i3p1 + 1 : Nat) : Int)), (5, .lsl 3 0 ((vc3p1_0 ++ ((z8 x3p1 by_).l)).length) 2 none), (18, .lsl 3 0 ((vc3p1_0 ++ ((z8 x3p1 by_).l)).length) 2 none), (17, .sl ((z8 x3p1 by_).nl) (((z8 x3p1 by_).l).map S_Span.D) (zsl ((z8 x3p1 by_).nl) 2) none), (16, .agg [I x3p1.lo, I x3p1.hi]), (15, .fn (.func 85) [] [.lref 0 0 1 0]), (14, .lsl 1 0 vc3p1_0.length 2 none), (7, .lref 2 0 2 0), (13, .agg [I x3p1.lo, I x3p1.hi]), (12, .ptr (.agg [I x3p1.lo, I x3p1.hi])), (11, B true), (1, .fn (.func 85) [] [.lref 0 0 1 0]), (5, .lsl 1 0 vc3p1_0.length 2 none), (8, .sl r.nl (r.l.map S_Span.D) (zsl r.nl 2) none), (9, I ((r.l.length : Nat) : Int)), (10, I ((i3p1 : Nat) : Int))], [(0, ⟨[I by_], 1, true⟩), (2, ⟨[.agg [I x3p1.lo, I x3p1.hi]], 2, false⟩), (3, ⟨(vc3p1_0 ++ ((z8 x3p1 by_).l)).map S_Span.D, 2, false⟩)], 4, 1⟩

def sd204 (r : GS S_Span) (by_ : Int) (i3p1 : Nat) (x3p1 : S_Span) (va3p1_0 : List S_Span) : St := ⟨21, [(10, I ((i3p1 + 1 : Nat) : Int)), (19, I ((i3p1 + 1 : Nat) : Int)), (5, .lsl 1 0 va3p1_0.length 2 none), (18, .lsl 1 0 va3p1_0.length 2 none), (17, .sl ((z8 x3p1 by_).nl) (((z8 x3p1 by_).l).map S_Span.D) (zsl ((z8 x3p1 by_).nl) 2) none), (16, .agg [I x3p1.lo, I x3p1.hi]), (15, .fn (.func 85) [] [.lref 0 0 1 0]), (14, .lsl 1 0 va3p1_0.length 2 none), (7, .lref 2 0 2 0), (13, .agg [I x3p1.lo, I x3p1.hi]), (12, .ptr (.agg [I x3p1.lo, I x3p1.hi])), (11, B true), (1, .fn (.func 85) [] [.lref 0 0 1 0]), (5, .lsl 1 0 va3p1_0.length 2 none), (8, .sl r.nl (r.l.map S_Span.D) (zsl r.nl 2) none), (9, I ((r.l.length : Nat) : Int)), (10, I ((i3p1 : Nat) : Int))], [(0, ⟨[I by_], 1, false⟩), (1, ⟨va3p1_0.map S_Span.D, 2, false⟩), (2, ⟨[.agg [I x3p1.lo, I x3p1.hi]], 2, false⟩)], 3, 1⟩

def sd205 (r : GS S_Span) (by_ : Int) (i3p1 : Nat) (x3p1 : S_Span) (va3p1_0 : List S_Span) : St := ⟨21, [(10, I ((i3p1 + 1 : Nat) : Int)), (19, I ((i3p1 + 1 : Nat) : Int)), (5, .lsl 3 0 ((va3p1_0 ++ ((z8 x3p1 by_).l)).length) 2 none), (18, .lsl 3 0 ((va3p1_0 ++ ((z8 x3p1 by_).l)).length) 2 none), (17, .sl ((z8 x3p1 by_).nl) (((z8 x3p1 by_).l).map S_Span.D) (zsl ((z8 x3p1 by_).nl) 2) none), (16, .agg [I x3p1.lo, I x3p1.hi]), (15, .fn (.func 85) [] [.lref 0 0 1 0]), (14, .lsl 1 0 va3p1_0.length 2 none), (7, .lref 2 0 2 0), (13, .agg [I x3p1.lo, I x3p1.hi]), (12, .ptr (.agg [I x3p1.lo, I x3p1.hi])), (11, B true), (1, .fn (.func 85) [] [.lref 0 0 1 0]), (5, .lsl 1 0 va3p1_0.length 2 none), (8, .sl r.nl (r.l.map S_Span.D) (zsl r.nl 2) none), (9, I ((r.l.length : Nat) : Int)), (10, I ((i3p1 : Nat) : Int))], [(0, ⟨[I by_], 1, false⟩), (2, ⟨[.agg [I x3p1.lo, I x3p1.hi]], 2, false⟩), (3, ⟨(va3p1_0 ++ ((z8 x3p1 by_).l)).map S_Span.D, 2, false⟩)], 4, 1⟩

def sd206 (r : GS S_Span) (by_ : Int) (i3p1 : Nat) (x3p1 : S_Span) (va3p1_0 : List S_Span) : St := ⟨21, [(10, I ((i3p1 + 1 : Nat) : Int)), (19, I ((i3p1 + 1 : Nat) : Int)), (5, .lsl 1 0 va3p1_0.length 2 none), (18, .lsl 1 0 va3p1_0.length 2 none), (17, .sl ((z8 x3p1 by_).nl) (((z8 x3p1 by_).l).map S_Span.D) (zsl ((z8 x3p1 by_).nl) 2) none), (16, .agg [I x3p1.lo, I x3p1.hi]), (15, .fn (.func 85) [] [.lref 0 0 1 0]), (14, .lsl 1 0 va3p1_0.length 2 none), (7, .lref 2 0 2 0), (13, .agg [I x3p1.lo, I x3p1.hi]), (12, .ptr (.agg [I x3p1.lo, I x3p1.hi])), (11, B true), (1, .fn (.func 85) [] [.lref 0 0 1 0]), (5, .lsl 1 0 va3p1_0.length 2 none), (8, .sl r.nl (r.l.map S_Span.D) (zsl r.nl 2) none), (9, I ((r.l.length : Nat) : Int)), (10, I ((i3p1 : Nat) : Int))], [(0, ⟨[I by_], 1, true⟩), (1, ⟨va3p1_0.map S_Span.D, 2, false⟩), (2, ⟨[.agg [I x3p1.lo, I x3p1.hi]], 2, false⟩)], 3, 1⟩

def sd207 (r : GS S_Span) (by_ : Int) (i3p1 : Nat) (x3p1 : S_Span) (va3p1_0 : List S_Span) : St := ⟨21, [(10, I ((i3p1 + 1 : Nat) : Int)), (19, I ((i3p1 + 1 : Nat) : Int)), (5, .lsl 3 0 ((va3p1_0 ++ ((z8 x3p1 by_).l)).length) 2 none), (18, .lsl 3 0 ((va3p1_0 ++ ((z8 x3p1 by_).l)).length) 2 none), (17, .sl ((z8 x3p1 by_).nl) (((z8 x3p1 by_).l).map S_Span.D) (zsl ((z8 x3p1 by_).nl) 2) none), (16, .agg [I x3p1.lo, I x3p1.hi]), (15, .fn (.func 85) [] [.lref 0 0 1 0]), (14, .lsl 1 0 va3p1_0.length 2 none), (7, .lref 2 0 2 0), (13, .agg [I x3p1.lo, I x3p1.hi]), (12, .ptr (.agg [I x3p1.lo, I x3p1.hi])), (11, B true), (1, .fn (.func 85) [] [.lref 0 0 1 0]), (5, .lsl 1 0 va3p1_0.length 2 none), (8, .sl r.nl (r.l.map S_Span.D) (zsl r.nl 2) none), (9, I ((r.l.length : Nat) : Int)), (10, I ((i3p1 : Nat) : Int))], [(0, ⟨[I by_], 1, true⟩), (2, ⟨[.agg [I x3p1.lo, I x3p1.hi]], 2, false⟩), (3, ⟨(va3p1_0 ++ ((z8 x3p1 by_).l)).map S_Span.D, 2, false⟩)], 4, 1⟩

def sd208 (r : GS S_Span) (by_ : Int) (i3p1 : Nat) (x3p1 : S_Span) : St := ⟨21, [(10, I ((i3p1 + 1 : Nat) : Int)), (19, I ((i3p1 + 1 : Nat) : Int)), (5, .lsl 2 0 (((z8 x3p1 by_).l).length) 2 none), (18, .lsl 2 0 (((z8 x3p1 by_).l).length) 2 none), (17, .sl ((z8 x3p1 by_).nl) (((z8 x3p1 by_).l).map S_Span.D) (zsl ((z8 x3p1 by_).nl) 2) none), (16, .agg [I x3p1.lo, I x3p1.hi]), (15, .fn (.func 85) [] [.lref 0 0 1 0]), (14, .sl true [] 0 none), (7, .lref 1 0 2 0), (13, .agg [I x3p1.lo, I x3p1.hi]), (12, .ptr (.agg [I x3p1.lo, I x3p1.hi])), (11, B true), (1, .fn (.func 85) [] [.lref 0 0 1 0]), (5, .sl true [] 0 none), (8, .sl r.nl (r.l.map S_Span.D) (zsl r.nl 2) none), (9, I ((r.l.length : Nat) : Int)), (10, I ((i3p1 : Nat) : Int))], [(0, ⟨[I by_], 1, true⟩), (1, ⟨[.agg [I x3p1.lo, I x3p1.hi]], 2, false⟩), (2, ⟨((z8 x3p1 by_).l).map S_Span.D, 2, false⟩)], 3, 1⟩

def sd209 (r : GS S_Span) (by_ : Int) (i3p1 : Nat) (x3p1 : S_Span) : St := ⟨21, [(10, I ((i3p1 + 1 : Nat) : Int)), (19, I ((i3p1 + 1 : Nat) : Int)), (5, .lsl 2 0 (((z8 x3p1 by_).l).length) 2 none), (18, .lsl 2 0 (((z8 x3p1 by_).l).length) 2 none), (17, .sl ((z8 x3p1 by_).nl) (((z8 x3p1 by_).l).map S_Span.D) (zsl ((z8 x3p1 by_).nl) 2) none), (16, .agg [I x3p1.lo, I x3p1.hi]), (15, .fn (.func 85) [] [.lref 0 0 1 0]), (14, .sl true [] 0 none), (7, .lref 1 0 2 0), (13, .agg [I x3p1.lo, I x3p1.hi]), (12, .ptr (.agg [I x3p1.lo, I x3p1.hi])), (11, B true), (1, .fn (.func 85) [] [.lref 0 0 1 0]), (5, .sl true [] 0 none), (8, .sl r.nl (r.l.map S_Span.D) (zsl r.nl 2) none), (9, I ((r.l.length : Nat) : Int)), (10, I ((i3p1 : Nat) : Int))], [(0, ⟨[I by_], 1, false⟩), (1, ⟨[.agg [I x3p1.lo, I x3p1.hi]], 2, false⟩), (2, ⟨((z8 x3p1 by_).l).map S_Span.D, 2, false⟩)], 3, 1⟩

inductive LR_ranges_each_3p1 where
  | x0 (vc3p1_0 : List S_Span)
  | x1 (va3p1_0 : List S_Span)
  | x2
  | x3
instance : Inhabited LR_ranges_each_3p1 := ⟨.x0 default⟩
def zQ (by_ : Int) : List S_Span → (List S_Span) → LR_ranges_each_3p1
  | [], vc3p1_0 => .x0 vc3p1_0
  | x3p1 :: rest3p1, vc3p1_0 =>
    bif (z8 x3p1 by_).nl then
      bif ((z8 x3p1 by_).l).isEmpty then
        zQ by_ rest3p1 vc3p1_0
      else
        zQ by_ rest3p1 (vc3p1_0 ++ ((z8 x3p1 by_).l))
    else
      bif ((z8 x3p1 by_).l).isEmpty then
        zQ by_ rest3p1 vc3p1_0
      else
        zQ by_ rest3p1 (vc3p1_0 ++ ((z8 x3p1 by_).l))
def yg (by_ : Int) : List S_Span → (List S_Span) → LR_ranges_each_3p1
  | [], va3p1_0 => .x1 va3p1_0
  | x3p1 :: rest3p1, va3p1_0 =>
    bif (z8 x3p1 by_).nl then
      bif ((z8 x3p1 by_).l).isEmpty then
        yg by_ rest3p1 va3p1_0
      else
        yg by_ rest3p1 (va3p1_0 ++ ((z8 x3p1 by_).l))
    else
      bif ((z8 x3p1 by_).l).isEmpty then
        zQ by_ rest3p1 va3p1_0
      else
        zQ by_ rest3p1 (va3p1_0 ++ ((z8 x3p1 by_).l))
def ranges_each_3p1b (by_ : Int) : List S_Span → LR_ranges_each_3p1
  | [] => .x2
  | x3p1 :: rest3p1 =>
    bif (z8 x3p1 by_).nl then
      bif ((z8 x3p1 by_).l).isEmpty then
        ranges_each_3p1b by_ rest3p1
      else
        zQ by_ rest3p1 ((z8 x3p1 by_).l)
    else
      bif ((z8 x3p1 by_).l).isEmpty then
        ranges_each_3p1b by_ rest3p1
      else
        zQ by_ rest3p1 ((z8 x3p1 by_).l)
def ya (by_ : Int) : List S_Span → LR_ranges_each_3p1
  | [] => .x3
  | x3p1 :: rest3p1 =>
    bif (z8 x3p1 by_).nl then
      bif ((z8 x3p1 by_).l).isEmpty then
        ya by_ rest3p1
      else
        yg by_ rest3p1 ((z8 x3p1 by_).l)
    else
      bif ((z8 x3p1 by_).l).isEmpty then
        ranges_each_3p1b by_ rest3p1
      else
        zQ by_ rest3p1 ((z8 x3p1 by_).l)
def yh (r : GS S_Span) (by_ : Int) : LR_ranges_each_3p1 → Exit × St
  | .x0 vc3p1_0 => ((.exit 0), ⟨21, [(11, B false), (1, .fn (.func 85) [] [.lref 0 0 1 0]), (5, .lsl 1 0 vc3p1_0.length 2 none), (8, .sl r.nl (r.l.map S_Span.D) (zsl r.nl 2) none), (9, I ((r.l.length : Nat) : Int)), (10, I ((r.l.length : Nat) : Int))], [(0, ⟨[I by_], 1, true⟩), (1, ⟨vc3p1_0.map S_Span.D, 2, false⟩)], 2, 1⟩)
  | .x1 va3p1_0 => ((.exit 0), ⟨21, [(11, B false), (1, .fn (.func 85) [] [.lref 0 0 1 0]), (5, .lsl 1 0 va3p1_0.length 2 none), (8, .sl r.nl (r.l.map S_Span.D) (zsl r.nl 2) none), (9, I ((r.l.length : Nat) : Int)), (10, I ((r.l.length : Nat) : Int))], [(0, ⟨[I by_], 1, false⟩), (1, ⟨va3p1_0.map S_Span.D, 2, false⟩)], 2, 1⟩)
  | .x2 => ((.exit 0), ⟨21, [(11, B false), (1, .fn (.func 85) [] [.lref 0 0 1 0]), (5, .sl true [] 0 none), (8, .sl r.nl (r.l.map S_Span.D) (zsl r.nl 2) none), (9, I ((r.l.length : Nat) : Int)), (10, I ((r.l.length : Nat) : Int))], [(0, ⟨[I by_], 1, true⟩)], 1, 1⟩)
  | .x3 => ((.exit 0), ⟨21, [(11, B false), (1, .fn (.func 85) [] [.lref 0 0 1 0]), (5, .sl true [] 0 none), (8, .sl r.nl (r.l.map S_Span.D) (zsl r.nl 2) none), (9, I ((r.l.length : Nat) : Int)), (10, I ((r.l.length : Nat) : Int))], [(0, ⟨[I by_], 1, false⟩)], 1, 1⟩)
def iv_ranges_each_3p1 (r : GS S_Span) (by_ : Int) : LR_ranges_each_3p1 → Prop
  | .x0 vc3p1_0 => (vc3p1_0.length ≤ r.l.length)
  | .x1 va3p1_0 => (va3p1_0.length ≤ r.l.length)
  | .x2 => True
  | .x3 => True
def ranges_each_3p1c_l_o1 (by_ : Int) (x3p1 : S_Span) : List Ora := [.dec true, .el (.agg [I x3p1.lo, I x3p1.hi]), .pureS (.sl ((z8 x3p1 by_).nl) (((z8 x3p1 by_).l).map S_Span.D) (zsl ((z8 x3p1 by_).nl) 2) none) true []]
def ranges_each_3p1c_l_o2 (by_ : Int) (x3p1 : S_Span) : List Ora := [.dec true, .el (.agg [I x3p1.lo, I x3p1.hi]), .pureS (.sl ((z8 x3p1 by_).nl) (((z8 x3p1 by_).l).map S_Span.D) (zsl ((z8 x3p1 by_).nl) 2) none) false []]
theorem lp_ranges_each_3p1c (r : GS S_Span) (by_ : Int) : ∀ (rest3p1 : List S_Span) (i3p1 : Nat) (vc3p1_0 : List S_Span) (hd3p1 : r.l.drop i3p1 = rest3p1) (hi3p1 : i3p1 ≤ r.l.length) (hg3p1_vc3p1_0 : vc3p1_0.length ≤ i3p1) (hL3p1 : r.l.length ≤ 1099511627776), (lim cfg).loop 70 lp70_3 ⟨21, [(1, .fn (.func 85) [] [.lref 0 0 1 0]), (5, .lsl 1 0 vc3p1_0.length 2 none), (8, .sl r.nl (r.l.map S_Span.D) (zsl r.nl 2) none), (9, I ((r.l.length : Nat) : Int)), (10, I ((i3p1 : Nat) : Int))], [(0, ⟨[I by_], 1, true⟩), (1, ⟨vc3p1_0.map S_Span.D, 2, false⟩)], 2, 1⟩ = some (yh r by_ (zQ by_ rest3p1 vc3p1_0)) := by
  intro rest3p1
  induction rest3p1 with
  | nil =>
    intro i3p1 vc3p1_0 hd3p1 hi3p1 hg3p1_vc3p1_0 hL3p1
    unfold zQ
    obtain rfl : i3p1 = r.l.length := nil_eq hd3p1 hi3p1
    exact zS [.dec false] (And.intro (lt_no hd3p1) trivial) (by kernel_rfl)
  | cons x3p1 rest3p1 ih =>
    intro i3p1 vc3p1_0 hd3p1 hi3p1 hg3p1_vc3p1_0 hL3p1
    have hlt3p1 := zl hd3p1
    have hlx := shift1_len x3p1 by_
    unfold zQ
    have p1 := (el_at (s := r) (f := S_Span.D) (k := 2) hd3p1)
    cases h16 : (z8 x3p1 by_).nl with
    | true =>
      have p2 := (And.intro (show flat fuelD (.sl ((z8 x3p1 by_).nl) (((z8 x3p1 by_).l).map S_Span.D) (zsl ((z8 x3p1 by_).nl) 2) none) = true from (by rw [h16] <;> kernel_rfl)) (And.intro (trivial) (T_ranges_Shift_1 x3p1 by_)))
      cases h17 : ((z8 x3p1 by_).l).isEmpty with
      | true =>
        exact y7 (ks := [1, 5, 8, 9, 10]) (st' := (sd202 r by_ i3p1 x3p1 vc3p1_0)) ((ranges_each_3p1c_l_o1 by_ x3p1) ++ [.op (some 18) ⟨.lsl 1 0 vc3p1_0.length 2 none, [], [], 3⟩, .rw 19 (I ((i3p1 + 1 : Nat) : Int))]) (And.intro (inc_rw (i := i3p1) (by have := zl hd3p1; omega)) (And.intro (app_none (te := ty25) (gO := zv [(0, ⟨[I by_], 1, true⟩), (1, ⟨vc3p1_0.map S_Span.D, 2, false⟩), (2, ⟨[.agg [I x3p1.lo, I x3p1.hi]], 2, false⟩)]) (nxt := 3) (f := S_Span.D) (sz := 2) (d := .lsl 1 0 vc3p1_0.length 2 none) (z8 x3p1 by_) h17 rfl) (And.intro p2 (And.intro p1 (And.intro (lt_at hd3p1) trivial))))) (by kernel_rfl) (by (simp only [sd202, go_sem, List.length_set, Nat.reduceAdd, Nat.reduceEqDiff, Nat.reduceLT, Nat.reduceLeDiff, bI2, za.idsL, za.renL, za.snapAll, z6.idsL, z6.renL, z6.snapAll]) <;> rfl) (ih (i3p1 + 1) vc3p1_0 (zn hd3p1) (zl hd3p1) (by omega) (by omega)) (by kernel_rfl)
      | false =>
        exact y7 (ks := [1, 5, 8, 9, 10]) (st' := (sd203 r by_ i3p1 x3p1 vc3p1_0)) ((ranges_each_3p1c_l_o1 by_ x3p1) ++ [.op (some 18) ⟨.lsl 3 0 ((vc3p1_0 ++ ((z8 x3p1 by_).l)).length) 2 none, [(1, none), (3, some ⟨(vc3p1_0 ++ ((z8 x3p1 by_).l)).map S_Span.D, 2, false⟩)], [1], 4⟩, .rw 19 (I ((i3p1 + 1 : Nat) : Int))]) (And.intro (inc_rw (i := i3p1) (by have := zl hd3p1; omega)) (And.intro (app_moreD (te := ty25) (gO := zv [(0, ⟨[I by_], 1, true⟩), (1, ⟨vc3p1_0.map S_Span.D, 2, false⟩), (2, ⟨[.agg [I x3p1.lo, I x3p1.hi]], 2, false⟩)]) (nxt := 3) (o := 1) (v := vc3p1_0) z6 (z8 x3p1 by_) h17 (by kernel_rfl) rfl (by kernel_rfl) (by decide) ⟨by simp only [ty25, big] <;> (first | assumption | omega | (exact yi (by omega) (by omega)) | (exact zO (by omega)) | (exact zz (by omega)) | (exact zP (by omega)) | (exact zA (by omega)) | (exact zy _ (by omega)) | (simp only [zk] at * <;> omega) | (simp only [zr, GS.some_l, List.length_set, List.length_append, List.length_cons, List.length_nil] at * <;> first | with_reducible assumption | omega) | (simp only [zr, GS.some_l, List.length_set, List.length_append, List.length_cons, List.length_nil, zk] at * <;> first | with_reducible assumption | omega) | (simp at * <;> omega)), by simp only [big] <;> (first | assumption | omega | (exact yi (by omega) (by omega)) | (exact zO (by omega)) | (exact zz (by omega)) | (exact zP (by omega)) | (exact zA (by omega)) | (exact zy _ (by omega)) | (simp only [zk] at * <;> omega) | (simp only [zr, GS.some_l, List.length_set, List.length_append, List.length_cons, List.length_nil] at * <;> first | with_reducible assumption | omega) | (simp only [zr, GS.some_l, List.length_set, List.length_append, List.length_cons, List.length_nil, zk] at * <;> first | with_reducible assumption | omega) | (simp at * <;> omega))⟩) (And.intro p2 (And.intro p1 (And.intro (lt_at hd3p1) trivial))))) (by kernel_rfl) (by (simp only [sd203, go_sem, List.length_set, Nat.reduceAdd, Nat.reduceEqDiff, Nat.reduceLT, Nat.reduceLeDiff, bI2, za.idsL, za.renL, za.snapAll, z6.idsL, z6.renL, z6.snapAll]) <;> rfl) (ih (i3p1 + 1) (vc3p1_0 ++ ((z8 x3p1 by_).l)) (zn hd3p1) (zl hd3p1) (by simp only [List.length_append, List.length_cons, List.length_nil] at * <;> omega) (by omega)) (by kernel_rfl)
    | false =>
      have p3 := (And.intro (show flat fuelD (.sl ((z8 x3p1 by_).nl) (((z8 x3p1 by_).l).map S_Span.D) (zsl ((z8 x3p1 by_).nl) 2) none) = false from (by rw [h16] <;> kernel_rfl)) (And.intro (trivial) (T_ranges_Shift_1 x3p1 by_)))
      cases h18 : ((z8 x3p1 by_).l).isEmpty with
      | true =>
        exact y7 (ks := [1, 5, 8, 9, 10]) (st' := (sd202 r by_ i3p1 x3p1 vc3p1_0)) ((ranges_each_3p1c_l_o2 by_ x3p1) ++ [.op (some 18) ⟨.lsl 1 0 vc3p1_0.length 2 none, [], [], 3⟩, .rw 19 (I ((i3p1 + 1 : Nat) : Int))]) (And.intro (inc_rw (i := i3p1) (by have := zl hd3p1; omega)) (And.intro (app_none (te := ty25) (gO := zv [(0, ⟨[I by_], 1, true⟩), (1, ⟨vc3p1_0.map S_Span.D, 2, false⟩), (2, ⟨[.agg [I x3p1.lo, I x3p1.hi]], 2, false⟩)]) (nxt := 3) (f := S_Span.D) (sz := 2) (d := .lsl 1 0 vc3p1_0.length 2 none) (z8 x3p1 by_) h18 rfl) (And.intro p3 (And.intro p1 (And.intro (lt_at hd3p1) trivial))))) (by kernel_rfl) (by (simp only [sd202, go_sem, List.length_set, Nat.reduceAdd, Nat.reduceEqDiff, Nat.reduceLT, Nat.reduceLeDiff, bI2, za.idsL, za.renL, za.snapAll, z6.idsL, z6.renL, z6.snapAll]) <;> rfl) (ih (i3p1 + 1) vc3p1_0 (zn hd3p1) (zl hd3p1) (by omega) (by omega)) (by kernel_rfl)
      | false =>
        exact y7 (ks := [1, 5, 8, 9, 10]) (st' := (sd203 r by_ i3p1 x3p1 vc3p1_0)) ((ranges_each_3p1c_l_o2 by_ x3p1) ++ [.op (some 18) ⟨.lsl 3 0 ((vc3p1_0 ++ ((z8 x3p1 by_).l)).length) 2 none, [(1, none), (3, some ⟨(vc3p1_0 ++ ((z8 x3p1 by_).l)).map S_Span.D, 2, false⟩)], [1], 4⟩, .rw 19 (I ((i3p1 + 1 : Nat) : Int))]) (And.intro (inc_rw (i := i3p1) (by have := zl hd3p1; omega)) (And.intro (app_moreD (te := ty25) (gO := zv [(0, ⟨[I by_], 1, true⟩), (1, ⟨vc3p1_0.map S_Span.D, 2, false⟩), (2, ⟨[.agg [I x3p1.lo, I x3p1.hi]], 2, false⟩)]) (nxt := 3) (o := 1) (v := vc3p1_0) z6 (z8 x3p1 by_) h18 (by kernel_rfl) rfl (by kernel_rfl) (by decide) ⟨by simp only [ty25, big] <;> (first | assumption | omega | (exact yi (by omega) (by omega)) | (exact zO (by omega)) | (exact zz (by omega)) | (exact zP (by omega)) | (exact zA (by omega)) | (exact zy _ (by omega)) | (simp only [zk] at * <;> omega) | (simp only [zr, GS.some_l, List.length_set, List.length_append, List.length_cons, List.length_nil] at * <;> first | with_reducible assumption | omega) | (simp only [zr, GS.some_l, List.length_set, List.length_append, List.length_cons, List.length_nil, zk] at * <;> first | with_reducible assumption | omega) | (simp at * <;> omega)), by simp only [big] <;> (first | assumption | omega | (exact yi (by omega) (by omega)) | (exact zO (by omega)) | (exact zz (by omega)) | (exact zP (by omega)) | (exact zA (by omega)) | (exact zy _ (by omega)) | (simp only [zk] at * <;> omega) | (simp only [zr, GS.some_l, List.length_set, List.length_append, List.length_cons, List.length_nil] at * <;> first | with_reducible assumption | omega) | (simp only [zr, GS.some_l, List.length_set, List.length_append, List.length_cons, List.length_nil, zk] at * <;> first | with_reducible assumption | omega) | (simp at * <;> omega))⟩) (And.intro p3 (And.intro p1 (And.intro (lt_at hd3p1) trivial))))) (by kernel_rfl) (by (simp only [sd203, go_sem, List.length_set, Nat.reduceAdd, Nat.reduceEqDiff, Nat.reduceLT, Nat.reduceLeDiff, bI2, za.idsL, za.renL, za.snapAll, z6.idsL, z6.renL, z6.snapAll]) <;> rfl) (ih (i3p1 + 1) (vc3p1_0 ++ ((z8 x3p1 by_).l)) (zn hd3p1) (zl hd3p1) (by simp only [List.length_append, List.length_cons, List.length_nil] at * <;> omega) (by omega)) (by kernel_rfl)
theorem ivt_ranges_each_3p1c (r : GS S_Span) (by_ : Int) : ∀ (rest3p1 : List S_Span) (i3p1 : Nat) (vc3p1_0 : List S_Span) (hd3p1 : r.l.drop i3p1 = rest3p1) (hi3p1 : i3p1 ≤ r.l.length) (hg3p1_vc3p1_0 : vc3p1_0.length ≤ i3p1) (hL3p1 : r.l.length ≤ 1099511627776), iv_ranges_each_3p1 r by_ (zQ by_ rest3p1 vc3p1_0) := by
  intro rest3p1
  induction rest3p1 with
  | nil =>
    intro i3p1 vc3p1_0 hd3p1 hi3p1 hg3p1_vc3p1_0 hL3p1
    unfold zQ
    obtain rfl : i3p1 = r.l.length := nil_eq hd3p1 hi3p1
    exact hg3p1_vc3p1_0
  | cons x3p1 rest3p1 ih =>
    intro i3p1 vc3p1_0 hd3p1 hi3p1 hg3p1_vc3p1_0 hL3p1
    have hlt3p1 := zl hd3p1
    have hlx := shift1_len x3p1 by_
    unfold zQ
    cases h16 : (z8 x3p1 by_).nl with
    | true =>
      cases h17 : ((z8 x3p1 by_).l).isEmpty with
      | true =>
        exact ih (i3p1 + 1) vc3p1_0 (zn hd3p1) (zl hd3p1) (by omega) (by omega)
      | false =>
        exact ih (i3p1 + 1) (vc3p1_0 ++ ((z8 x3p1 by_).l)) (zn hd3p1) (zl hd3p1) (by simp only [List.length_append, List.length_cons, List.length_nil] at * <;> omega) (by omega)
    | false =>
      cases h18 : ((z8 x3p1 by_).l).isEmpty with
      | true =>
        exact ih (i3p1 + 1) vc3p1_0 (zn hd3p1) (zl hd3p1) (by omega) (by omega)
      | false =>
        exact ih (i3p1 + 1) (vc3p1_0 ++ ((z8 x3p1 by_).l)) (zn hd3p1) (zl hd3p1) (by simp only [List.length_append, List.length_cons, List.length_nil] at * <;> omega) (by omega)
def ranges_each_3p1a_l_o1 (by_ : Int) (x3p1 : S_Span) : List Ora := [.dec true, .el (.agg [I x3p1.lo, I x3p1.hi]), .pureS (.sl ((z8 x3p1 by_).nl) (((z8 x3p1 by_).l).map S_Span.D) (zsl ((z8 x3p1 by_).nl) 2) none) true []]
def ranges_each_3p1a_l_o2 (by_ : Int) (x3p1 : S_Span) : List Ora := [.dec true, .el (.agg [I x3p1.lo, I x3p1.hi]), .pureS (.sl ((z8 x3p1 by_).nl) (((z8 x3p1 by_).l).map S_Span.D) (zsl ((z8 x3p1 by_).nl) 2) none) false []]
theorem lp_ranges_each_3p1a (r : GS S_Span) (by_ : Int) : ∀ (rest3p1 : List S_Span) (i3p1 : Nat) (va3p1_0 : List S_Span) (hd3p1 : r.l.drop i3p1 = rest3p1) (hi3p1 : i3p1 ≤ r.l.length) (hg3p1_va3p1_0 : va3p1_0.length ≤ i3p1) (hL3p1 : r.l.length ≤ 1099511627776), (lim cfg).loop 70 lp70_3 ⟨21, [(1, .fn (.func 85) [] [.lref 0 0 1 0]), (5, .lsl 1 0 va3p1_0.length 2 none), (8, .sl r.nl (r.l.map S_Span.D) (zsl r.nl 2) none), (9, I ((r.l.length : Nat) : Int)), (10, I ((i3p1 : Nat) : Int))], [(0, ⟨[I by_], 1, false⟩), (1, ⟨va3p1_0.map S_Span.D, 2, false⟩)], 2, 1⟩ = some (yh r by_ (yg by_ rest3p1 va3p1_0)) := by
  intro rest3p1
  induction rest3p1 with
  | nil =>
    intro i3p1 va3p1_0 hd3p1 hi3p1 hg3p1_va3p1_0 hL3p1
    unfold yg
    obtain rfl : i3p1 = r.l.length := nil_eq hd3p1 hi3p1
    exact zS [.dec false] (And.intro (lt_no hd3p1) trivial) (by kernel_rfl)
  | cons x3p1 rest3p1 ih =>
    intro i3p1 va3p1_0 hd3p1 hi3p1 hg3p1_va3p1_0 hL3p1
    have hlt3p1 := zl hd3p1
    have hlx := shift1_len x3p1 by_
    unfold yg
    have p1 := (el_at (s := r) (f := S_Span.D) (k := 2) hd3p1)
    cases h19 : (z8 x3p1 by_).nl with
    | true =>
      have p2 := (And.intro (show flat fuelD (.sl ((z8 x3p1 by_).nl) (((z8 x3p1 by_).l).map S_Span.D) (zsl ((z8 x3p1 by_).nl) 2) none) = true from (by rw [h19] <;> kernel_rfl)) (And.intro (trivial) (T_ranges_Shift_1 x3p1 by_)))
      cases h20 : ((z8 x3p1 by_).l).isEmpty with
      | true =>
        exact y7 (ks := [1, 5, 8, 9, 10]) (st' := (sd204 r by_ i3p1 x3p1 va3p1_0)) ((ranges_each_3p1a_l_o1 by_ x3p1) ++ [.op (some 18) ⟨.lsl 1 0 va3p1_0.length 2 none, [], [], 3⟩, .rw 19 (I ((i3p1 + 1 : Nat) : Int))]) (And.intro (inc_rw (i := i3p1) (by have := zl hd3p1; omega)) (And.intro (app_none (te := ty25) (gO := zv [(0, ⟨[I by_], 1, false⟩), (1, ⟨va3p1_0.map S_Span.D, 2, false⟩), (2, ⟨[.agg [I x3p1.lo, I x3p1.hi]], 2, false⟩)]) (nxt := 3) (f := S_Span.D) (sz := 2) (d := .lsl 1 0 va3p1_0.length 2 none) (z8 x3p1 by_) h20 rfl) (And.intro p2 (And.intro p1 (And.intro (lt_at hd3p1) trivial))))) (by kernel_rfl) (by (simp only [sd204, go_sem, List.length_set, Nat.reduceAdd, Nat.reduceEqDiff, Nat.reduceLT, Nat.reduceLeDiff, bI2, za.idsL, za.renL, za.snapAll, z6.idsL, z6.renL, z6.snapAll]) <;> rfl) (ih (i3p1 + 1) va3p1_0 (zn hd3p1) (zl hd3p1) (by omega) (by omega)) (by kernel_rfl)
      | false =>
        exact y7 (ks := [1, 5, 8, 9, 10]) (st' := (sd205 r by_ i3p1 x3p1 va3p1_0)) ((ranges_each_3p1a_l_o1 by_ x3p1) ++ [.op (some 18) ⟨.lsl 3 0 ((va3p1_0 ++ ((z8 x3p1 by_).l)).length) 2 none, [(1, none), (3, some ⟨(va3p1_0 ++ ((z8 x3p1 by_).l)).map S_Span.D, 2, false⟩)], [1], 4⟩, .rw 19 (I ((i3p1 + 1 : Nat) : Int))]) (And.intro (inc_rw (i := i3p1) (by have := zl hd3p1; omega)) (And.intro (app_moreD (te := ty25) (gO := zv [(0, ⟨[I by_], 1, false⟩), (1, ⟨va3p1_0.map S_Span.D, 2, false⟩), (2, ⟨[.agg [I x3p1.lo, I x3p1.hi]], 2, false⟩)]) (nxt := 3) (o := 1) (v := va3p1_0) z6 (z8 x3p1 by_) h20 (by kernel_rfl) rfl (by kernel_rfl) (by decide) ⟨by simp only [ty25, big] <;> (first | assumption | omega | (exact yi (by omega) (by omega)) | (exact zO (by omega)) | (exact zz (by omega)) | (exact zP (by omega)) | (exact zA (by omega)) | (exact zy _ (by omega)) | (simp only [zk] at * <;> omega) | (simp only [zr, GS.some_l, List.length_set, List.length_append, List.length_cons, List.length_nil] at * <;> first | with_reducible assumption | omega) | (simp only [zr, GS.some_l, List.length_set, List.length_append, List.length_cons, List.length_nil, zk] at * <;> first | with_reducible assumption | omega) | (simp at * <;> omega)), by simp only [big] <;> (first | assumption | omega | (exact yi (by omega) (by omega)) | (exact zO (by omega)) | (exact zz (by omega)) | (exact zP (by omega)) | (exact zA (by omega)) | (exact zy _ (by omega)) | (simp only [zk] at * <;> omega) | (simp only [zr, GS.some_l, List.length_set, List.length_append, List.length_cons, List.length_nil] at * <;> first | with_reducible assumption | omega) | (simp only [zr, GS.some_l, List.length_set, List.length_append, List.length_cons, List.length_nil, zk] at * <;> first | with_reducible assumption | omega) | (simp at * <;> omega))⟩) (And.intro p2 (And.intro p1 (And.intro (lt_at hd3p1) trivial))))) (by kernel_rfl) (by (simp only [sd205, go_sem, List.length_set, Nat.reduceAdd, Nat.reduceEqDiff, Nat.reduceLT, Nat.reduceLeDiff, bI2, za.idsL, za.renL, za.snapAll, z6.idsL, z6.renL, z6.snapAll]) <;> rfl) (ih (i3p1 + 1) (va3p1_0 ++ ((z8 x3p1 by_).l)) (zn hd3p1) (zl hd3p1) (by simp only [List.length_append, List.length_cons, List.length_nil] at * <;> omega) (by omega)) (by kernel_rfl)
    | false =>
      have p3 := (And.intro (show flat fuelD (.sl ((z8 x3p1 by_).nl) (((z8 x3p1 by_).l).map S_Span.D) (zsl ((z8 x3p1 by_).nl) 2) none) = false from (by rw [h19] <;> kernel_rfl)) (And.intro (trivial) (T_ranges_Shift_1 x3p1 by_)))
      cases h21 : ((z8 x3p1 by_).l).isEmpty with
      | true =>
        exact y7 (ks := [1, 5, 8, 9, 10]) (st' := (sd206 r by_ i3p1 x3p1 va3p1_0)) ((ranges_each_3p1a_l_o2 by_ x3p1) ++ [.op (some 18) ⟨.lsl 1 0 va3p1_0.length 2 none, [], [], 3⟩, .rw 19 (I ((i3p1 + 1 : Nat) : Int))]) (And.intro (inc_rw (i := i3p1) (by have := zl hd3p1; omega)) (And.intro (app_none (te := ty25) (gO := zv [(0, ⟨[I by_], 1, true⟩), (1, ⟨va3p1_0.map S_Span.D, 2, false⟩), (2, ⟨[.agg [I x3p1.lo, I x3p1.hi]], 2, false⟩)]) (nxt := 3) (f := S_Span.D) (sz := 2) (d := .lsl 1 0 va3p1_0.length 2 none) (z8 x3p1 by_) h21 rfl) (And.intro p3 (And.intro p1 (And.intro (lt_at hd3p1) trivial))))) (by kernel_rfl) (by (simp only [sd206, go_sem, List.length_set, Nat.reduceAdd, Nat.reduceEqDiff, Nat.reduceLT, Nat.reduceLeDiff, bI2, za.idsL, za.renL, za.snapAll, z6.idsL, z6.renL, z6.snapAll]) <;> rfl) (lp_ranges_each_3p1c r by_ _ (i3p1 + 1) va3p1_0 (zn hd3p1) (zl hd3p1) (by omega) (by omega)) (by kernel_rfl)
      | false =>
        exact y7 (ks := [1, 5, 8, 9, 10]) (st' := (sd207 r by_ i3p1 x3p1 va3p1_0)) ((ranges_each_3p1a_l_o2 by_ x3p1) ++ [.op (some 18) ⟨.lsl 3 0 ((va3p1_0 ++ ((z8 x3p1 by_).l)).length) 2 none, [(1, none), (3, some ⟨(va3p1_0 ++ ((z8 x3p1 by_).l)).map S_Span.D, 2, false⟩)], [1], 4⟩, .rw 19 (I ((i3p1 + 1 : Nat) : Int))]) (And.intro (inc_rw (i := i3p1) (by have := zl hd3p1; omega)) (And.intro (app_moreD (te := ty25) (gO := zv [(0, ⟨[I by_], 1, true⟩), (1, ⟨va3p1_0.map S_Span.D, 2, false⟩), (2, ⟨[.agg [I x3p1.lo, I x3p1.hi]], 2, false⟩)]) (nxt := 3) (o := 1) (v := va3p1_0) z6 (z8 x3p1 by_) h21 (by kernel_rfl) rfl (by kernel_rfl) (by decide) ⟨by simp only [ty25, big] <;> (first | assumption | omega | (exact yi (by omega) (by omega)) | (exact zO (by omega)) | (exact zz (by omega)) | (exact zP (by omega)) | (exact zA (by omega)) | (exact zy _ (by omega)) | (simp only [zk] at * <;> omega) | (simp only [zr, GS.some_l, List.length_set, List.length_append, List.length_cons, List.length_nil] at * <;> first | with_reducible assumption | omega) | (simp only [zr, GS.some_l, List.length_set, List.length_append, List.length_cons, List.length_nil, zk] at * <;> first | with_reducible assumption | omega) | (simp at * <;> omega)), by simp only [big] <;> (first | assumption | omega | (exact yi (by omega) (by omega)) | (exact zO (by omega)) | (exact zz (by omega)) | (exact zP (by omega)) | (exact zA (by omega)) | (exact zy _ (by omega)) | (simp only [zk] at * <;> omega) | (simp only [zr, GS.some_l, List.length_set, List.length_append, List.length_cons, List.length_nil] at * <;> first | with_reducible assumption | omega) | (simp only [zr, GS.some_l, List.length_set, List.length_append, List.length_cons, List.length_nil, zk] at * <;> first | with_reducible assumption | omega) | (simp at * <;> omega))⟩) (And.intro p3 (And.intro p1 (And.intro (lt_at hd3p1) trivial))))) (by kernel_rfl) (by (simp only [sd207, go_sem, List.length_set, Nat.reduceAdd, Nat.reduceEqDiff, Nat.reduceLT, Nat.reduceLeDiff, bI2, za.idsL, za.renL, za.snapAll, z6.idsL, z6.renL, z6.snapAll]) <;> rfl) (lp_ranges_each_3p1c r by_ _ (i3p1 + 1) (va3p1_0 ++ ((z8 x3p1 by_).l)) (zn hd3p1) (zl hd3p1) (by simp only [List.length_append, List.length_cons, List.length_nil] at * <;> omega) (by omega)) (by kernel_rfl)
theorem ivt_ranges_each_3p1a (r : GS S_Span) (by_ : Int) : ∀ (rest3p1 : List S_Span) (i3p1 : Nat) (va3p1_0 : List S_Span) (hd3p1 : r.l.drop i3p1 = rest3p1) (hi3p1 : i3p1 ≤ r.l.length) (hg3p1_va3p1_0 : va3p1_0.length ≤ i3p1) (hL3p1 : r.l.length ≤ 1099511627776), iv_ranges_each_3p1 r by_ (yg by_ rest3p1 va3p1_0) := by
  intro rest3p1
  induction rest3p1 with
  | nil =>
    intro i3p1 va3p1_0 hd3p1 hi3p1 hg3p1_va3p1_0 hL3p1
    unfold yg
    obtain rfl : i3p1 = r.l.length := nil_eq hd3p1 hi3p1
    exact hg3p1_va3p1_0
  | cons x3p1 rest3p1 ih =>
    intro i3p1 va3p1_0 hd3p1 hi3p1 hg3p1_va3p1_0 hL3p1
    have hlt3p1 := zl hd3p1
    have hlx := shift1_len x3p1 by_
    unfold yg
    cases h19 : (z8 x3p1 by_).nl with
    | true =>
      cases h20 : ((z8 x3p1 by_).l).isEmpty with
      | true =>
        exact ih (i3p1 + 1) va3p1_0 (zn hd3p1) (zl hd3p1) (by omega) (by omega)
      | false =>
        exact ih (i3p1 + 1) (va3p1_0 ++ ((z8 x3p1 by_).l)) (zn hd3p1) (zl hd3p1) (by simp only [List.length_append, List.length_cons, List.length_nil] at * <;> omega) (by omega)
    | false =>
      cases h21 : ((z8 x3p1 by_).l).isEmpty with
      | true =>
        exact ivt_ranges_each_3p1c r by_ _ (i3p1 + 1) va3p1_0 (zn hd3p1) (zl hd3p1) (by omega) (by omega)
      | false =>
        exact ivt_ranges_each_3p1c r by_ _ (i3p1 + 1) (va3p1_0 ++ ((z8 x3p1 by_).l)) (zn hd3p1) (zl hd3p1) (by simp only [List.length_append, List.length_cons, List.length_nil] at * <;> omega) (by omega)
def ranges_each_3p1b_l_o1 (by_ : Int) (x3p1 : S_Span) : List Ora := [.dec true, .el (.agg [I x3p1.lo, I x3p1.hi]), .pureS (.sl ((z8 x3p1 by_).nl) (((z8 x3p1 by_).l).map S_Span.D) (zsl ((z8 x3p1 by_).nl) 2) none) true []]
def ranges_each_3p1b_l_o2 (by_ : Int) (x3p1 : S_Span) : List Ora := [.dec true, .el (.agg [I x3p1.lo, I x3p1.hi]), .pureS (.sl ((z8 x3p1 by_).nl) (((z8 x3p1 by_).l).map S_Span.D) (zsl ((z8 x3p1 by_).nl) 2) none) false []]
theorem lp_ranges_each_3p1b (r : GS S_Span) (by_ : Int) : ∀ (rest3p1 : List S_Span) (i3p1 : Nat) (hd3p1 : r.l.drop i3p1 = rest3p1) (hi3p1 : i3p1 ≤ r.l.length) (hL3p1 : r.l.length ≤ 1099511627776), (lim cfg).loop 70 lp70_3 ⟨21, [(1, .fn (.func 85) [] [.lref 0 0 1 0]), (5, .sl true [] 0 none), (8, .sl r.nl (r.l.map S_Span.D) (zsl r.nl 2) none), (9, I ((r.l.length : Nat) : Int)), (10, I ((i3p1 : Nat) : Int))], [(0, ⟨[I by_], 1, true⟩)], 1, 1⟩ = some (yh r by_ (ranges_each_3p1b by_ rest3p1)) := by
  intro rest3p1
  induction rest3p1 with
  | nil =>
    intro i3p1 hd3p1 hi3p1 hL3p1
    unfold ranges_each_3p1b
    obtain rfl : i3p1 = r.l.length := nil_eq hd3p1 hi3p1
    exact zS [.dec false] (And.intro (lt_no hd3p1) trivial) (by kernel_rfl)
  | cons x3p1 rest3p1 ih =>
    intro i3p1 hd3p1 hi3p1 hL3p1
    have hlt3p1 := zl hd3p1
    have hlx := shift1_len x3p1 by_
    unfold ranges_each_3p1b
    have p1 := (el_at (s := r) (f := S_Span.D) (k := 2) hd3p1)
    cases h22 : (z8 x3p1 by_).nl with
    | true =>
      have p2 := (And.intro (show flat fuelD (.sl ((z8 x3p1 by_).nl) (((z8 x3p1 by_).l).map S_Span.D) (zsl ((z8 x3p1 by_).nl) 2) none) = true from (by rw [h22] <;> kernel_rfl)) (And.intro (trivial) (T_ranges_Shift_1 x3p1 by_)))
      cases h23 : ((z8 x3p1 by_).l).isEmpty with
      | true =>
        exact po_turn ((ranges_each_3p1b_l_o1 by_ x3p1) ++ [.op (some 18) ⟨.sl true [] 0 none, [], [], 2⟩, .rw 19 (I ((i3p1 + 1 : Nat) : Int))]) (And.intro (inc_rw (i := i3p1) (by have := zl hd3p1; omega)) (And.intro (app_none (te := ty25) (gO := zv [(0, ⟨[I by_], 1, true⟩), (1, ⟨[.agg [I x3p1.lo, I x3p1.hi]], 2, false⟩)]) (nxt := 2) (f := S_Span.D) (sz := 2) (d := .sl true [] 0 none) (z8 x3p1 by_) h23 rfl) (And.intro p2 (And.intro p1 (And.intro (lt_at hd3p1) trivial))))) (ih (i3p1 + 1) (zn hd3p1) (zl hd3p1) (by omega)) (by kernel_rfl)
      | false =>
        exact y7 (ks := [1, 5, 8, 9, 10]) (st' := (sd208 r by_ i3p1 x3p1)) ((ranges_each_3p1b_l_o1 by_ x3p1) ++ [.op (some 18) ⟨.lsl 2 0 (((z8 x3p1 by_).l).length) 2 none, [(2, some ⟨((z8 x3p1 by_).l).map S_Span.D, 2, false⟩)], [], 3⟩, .rw 19 (I ((i3p1 + 1 : Nat) : Int))]) (And.intro (inc_rw (i := i3p1) (by have := zl hd3p1; omega)) (And.intro (app_newD (te := ty25) (gO := zv [(0, ⟨[I by_], 1, true⟩), (1, ⟨[.agg [I x3p1.lo, I x3p1.hi]], 2, false⟩)]) (nxt := 2) (els0 := []) (sz0 := 0) (cap0 := none) z6 (z8 x3p1 by_) h23 rfl (by kernel_rfl) (by decide) ⟨by simp only [ty25, big] <;> (first | assumption | omega | (exact yi (by omega) (by omega)) | (exact zO (by omega)) | (exact zz (by omega)) | (exact zP (by omega)) | (exact zA (by omega)) | (exact zy _ (by omega)) | (simp only [zk] at * <;> omega) | (simp only [zr, GS.some_l, List.length_set, List.length_append, List.length_cons, List.length_nil] at * <;> first | with_reducible assumption | omega) | (simp only [zr, GS.some_l, List.length_set, List.length_append, List.length_cons, List.length_nil, zk] at * <;> first | with_reducible assumption | omega) | (simp at * <;> omega)), by simp only [big] <;> (first | assumption | omega | (exact yi (by omega) (by omega)) | (exact zO (by omega)) | (exact zz (by omega)) | (exact zP (by omega)) | (exact zA (by omega)) | (exact zy _ (by omega)) | (simp only [zk] at * <;> omega) | (simp only [zr, GS.some_l, List.length_set, List.length_append, List.length_cons, List.length_nil] at * <;> first | with_reducible assumption | omega) | (simp only [zr, GS.some_l, List.length_set, List.length_append, List.length_cons, List.length_nil, zk] at * <;> first | with_reducible assumption | omega) | (simp at * <;> omega))⟩) (And.intro p2 (And.intro p1 (And.intro (lt_at hd3p1) trivial))))) (by kernel_rfl) (by (simp only [sd208, go_sem, List.length_set, Nat.reduceAdd, Nat.reduceEqDiff, Nat.reduceLT, Nat.reduceLeDiff, bI2, za.idsL, za.renL, za.snapAll, z6.idsL, z6.renL, z6.snapAll]) <;> rfl) (lp_ranges_each_3p1c r by_ _ (i3p1 + 1) ((z8 x3p1 by_).l) (zn hd3p1) (zl hd3p1) (by omega) (by omega)) (by kernel_rfl)
    | false =>
      have p3 := (And.intro (show flat fuelD (.sl ((z8 x3p1 by_).nl) (((z8 x3p1 by_).l).map S_Span.D) (zsl ((z8 x3p1 by_).nl) 2) none) = false from (by rw [h22] <;> kernel_rfl)) (And.intro (trivial) (T_ranges_Shift_1 x3p1 by_)))
      cases h24 : ((z8 x3p1 by_).l).isEmpty with
      | true =>
        exact po_turn ((ranges_each_3p1b_l_o2 by_ x3p1) ++ [.op (some 18) ⟨.sl true [] 0 none, [], [], 2⟩, .rw 19 (I ((i3p1 + 1 : Nat) : Int))]) (And.intro (inc_rw (i := i3p1) (by have := zl hd3p1; omega)) (And.intro (app_none (te := ty25) (gO := zv [(0, ⟨[I by_], 1, true⟩), (1, ⟨[.agg [I x3p1.lo, I x3p1.hi]], 2, false⟩)]) (nxt := 2) (f := S_Span.D) (sz := 2) (d := .sl true [] 0 none) (z8 x3p1 by_) h24 rfl) (And.intro p3 (And.intro p1 (And.intro (lt_at hd3p1) trivial))))) (ih (i3p1 + 1) (zn hd3p1) (zl hd3p1) (by omega)) (by kernel_rfl)
      | false =>
        exact y7 (ks := [1, 5, 8, 9, 10]) (st' := (sd208 r by_ i3p1 x3p1)) ((ranges_each_3p1b_l_o2 by_ x3p1) ++ [.op (some 18) ⟨.lsl 2 0 (((z8 x3p1 by_).l).length) 2 none, [(2, some ⟨((z8 x3p1 by_).l).map S_Span.D, 2, false⟩)], [], 3⟩, .rw 19 (I ((i3p1 + 1 : Nat) : Int))]) (And.intro (inc_rw (i := i3p1) (by have := zl hd3p1; omega)) (And.intro (app_newD (te := ty25) (gO := zv [(0, ⟨[I by_], 1, true⟩), (1, ⟨[.agg [I x3p1.lo, I x3p1.hi]], 2, false⟩)]) (nxt := 2) (els0 := []) (sz0 := 0) (cap0 := none) z6 (z8 x3p1 by_) h24 rfl (by kernel_rfl) (by decide) ⟨by simp only [ty25, big] <;> (first | assumption | omega | (exact yi (by omega) (by omega)) | (exact zO (by omega)) | (exact zz (by omega)) | (exact zP (by omega)) | (exact zA (by omega)) | (exact zy _ (by omega)) | (simp only [zk] at * <;> omega) | (simp only [zr, GS.some_l, List.length_set, List.length_append, List.length_cons, List.length_nil] at * <;> first | with_reducible assumption | omega) | (simp only [zr, GS.some_l, List.length_set, List.length_append, List.length_cons, List.length_nil, zk] at * <;> first | with_reducible assumption | omega) | (simp at * <;> omega)), by simp only [big] <;> (first | assumption | omega | (exact yi (by omega) (by omega)) | (exact zO (by omega)) | (exact zz (by omega)) | (exact zP (by omega)) | (exact zA (by omega)) | (exact zy _ (by omega)) | (simp only [zk] at * <;> omega) | (simp only [zr, GS.some_l, List.length_set, List.length_append, List.length_cons, List.length_nil] at * <;> first | with_reducible assumption | omega) | (simp only [zr, GS.some_l, List.length_set, List.length_append, List.length_cons, List.length_nil, zk] at * <;> first | with_reducible assumption | omega) | (simp at * <;> omega))⟩) (And.intro p3 (And.intro p1 (And.intro (lt_at hd3p1) trivial))))) (by kernel_rfl) (by (simp only [sd208, go_sem, List.length_set, Nat.reduceAdd, Nat.reduceEqDiff, Nat.reduceLT, Nat.reduceLeDiff, bI2, za.idsL, za.renL, za.snapAll, z6.idsL, z6.renL, z6.snapAll]) <;> rfl) (lp_ranges_each_3p1c r by_ _ (i3p1 + 1) ((z8 x3p1 by_).l) (zn hd3p1) (zl hd3p1) (by omega) (by omega)) (by kernel_rfl)
theorem ivt_ranges_each_3p1b (r : GS S_Span) (by_ : Int) : ∀ (rest3p1 : List S_Span) (i3p1 : Nat) (hd3p1 : r.l.drop i3p1 = rest3p1) (hi3p1 : i3p1 ≤ r.l.length) (hL3p1 : r.l.length ≤ 1099511627776), iv_ranges_each_3p1 r by_ (ranges_each_3p1b by_ rest3p1) := by
  intro rest3p1
  induction rest3p1 with
  | nil =>
    intro i3p1 hd3p1 hi3p1 hL3p1
    unfold ranges_each_3p1b
    obtain rfl : i3p1 = r.l.length := nil_eq hd3p1 hi3p1
    exact trivial
  | cons x3p1 rest3p1 ih =>
    intro i3p1 hd3p1 hi3p1 hL3p1
    have hlt3p1 := zl hd3p1
    have hlx := shift1_len x3p1 by_
    unfold ranges_each_3p1b
    cases h22 : (z8 x3p1 by_).nl with
    | true =>
      cases h23 : ((z8 x3p1 by_).l).isEmpty with
      | true =>
        exact ih (i3p1 + 1) (zn hd3p1) (zl hd3p1) (by omega)
      | false =>
        exact ivt_ranges_each_3p1c r by_ _ (i3p1 + 1) ((z8 x3p1 by_).l) (zn hd3p1) (zl hd3p1) (by omega) (by omega)
    | false =>
      cases h24 : ((z8 x3p1 by_).l).isEmpty with
      | true =>
        exact ih (i3p1 + 1) (zn hd3p1) (zl hd3p1) (by omega)
      | false =>
        exact ivt_ranges_each_3p1c r by_ _ (i3p1 + 1) ((z8 x3p1 by_).l) (zn hd3p1) (zl hd3p1) (by omega) (by omega)
def ranges_each_3p1_l_o1 (by_ : Int) (x3p1 : S_Span) : List Ora := [.dec true, .el (.agg [I x3p1.lo, I x3p1.hi]), .pureS (.sl ((z8 x3p1 by_).nl) (((z8 x3p1 by_).l).map S_Span.D) (zsl ((z8 x3p1 by_).nl) 2) none) true []]
def ranges_each_3p1_l_o2 (by_ : Int) (x3p1 : S_Span) : List Ora := [.dec true, .el (.agg [I x3p1.lo, I x3p1.hi]), .pureS (.sl ((z8 x3p1 by_).nl) (((z8 x3p1 by_).l).map S_Span.D) (zsl ((z8 x3p1 by_).nl) 2) none) false []]
theorem lp_ranges_each_3p1 (r : GS S_Span) (by_ : Int) : ∀ (rest3p1 : List S_Span) (i3p1 : Nat) (hd3p1 : r.l.drop i3p1 = rest3p1) (hi3p1 : i3p1 ≤ r.l.length) (hL3p1 : r.l.length ≤ 1099511627776), (lim cfg).loop 70 lp70_3 ⟨21, [(1, .fn (.func 85) [] [.lref 0 0 1 0]), (5, .sl true [] 0 none), (8, .sl r.nl (r.l.map S_Span.D) (zsl r.nl 2) none), (9, I ((r.l.length : Nat) : Int)), (10, I ((i3p1 : Nat) : Int))], [(0, ⟨[I by_], 1, false⟩)], 1, 1⟩ = some (yh r by_ (ya by_ rest3p1)) := by
  intro rest3p1
  induction rest3p1 with
  | nil =>
    intro i3p1 hd3p1 hi3p1 hL3p1
    unfold ya
    obtain rfl : i3p1 = r.l.length := nil_eq hd3p1 hi3p1
    exact zS [.dec false] (And.intro (lt_no hd3p1) trivial) (by kernel_rfl)
  | cons x3p1 rest3p1 ih =>
    intro i3p1 hd3p1 hi3p1 hL3p1
    have hlt3p1 := zl hd3p1
    have hlx := shift1_len x3p1 by_
    unfold ya
    have p1 := (el_at (s := r) (f := S_Span.D) (k := 2) hd3p1)
    cases h25 : (z8 x3p1 by_).nl with
    | true =>
      have p2 := (And.intro (show flat fuelD (.sl ((z8 x3p1 by_).nl) (((z8 x3p1 by_).l).map S_Span.D) (zsl ((z8 x3p1 by_).nl) 2) none) = true from (by rw [h25] <;> kernel_rfl)) (And.intro (trivial) (T_ranges_Shift_1 x3p1 by_)))
      cases h26 : ((z8 x3p1 by_).l).isEmpty with
      | true =>
        exact po_turn ((ranges_each_3p1_l_o1 by_ x3p1) ++ [.op (some 18) ⟨.sl true [] 0 none, [], [], 2⟩, .rw 19 (I ((i3p1 + 1 : Nat) : Int))]) (And.intro (inc_rw (i := i3p1) (by have := zl hd3p1; omega)) (And.intro (app_none (te := ty25) (gO := zv [(0, ⟨[I by_], 1, false⟩), (1, ⟨[.agg [I x3p1.lo, I x3p1.hi]], 2, false⟩)]) (nxt := 2) (f := S_Span.D) (sz := 2) (d := .sl true [] 0 none) (z8 x3p1 by_) h26 rfl) (And.intro p2 (And.intro p1 (And.intro (lt_at hd3p1) trivial))))) (ih (i3p1 + 1) (zn hd3p1) (zl hd3p1) (by omega)) (by kernel_rfl)
      | false =>
        exact y7 (ks := [1, 5, 8, 9, 10]) (st' := (sd209 r by_ i3p1 x3p1)) ((ranges_each_3p1_l_o1 by_ x3p1) ++ [.op (some 18) ⟨.lsl 2 0 (((z8 x3p1 by_).l).length) 2 none, [(2, some ⟨((z8 x3p1 by_).l).map S_Span.D, 2, false⟩)], [], 3⟩, .rw 19 (I ((i3p1 + 1 : Nat) : Int))]) (And.intro (inc_rw (i := i3p1) (by have := zl hd3p1; omega)) (And.intro (app_newD (te := ty25) (gO := zv [(0, ⟨[I by_], 1, false⟩), (1, ⟨[.agg [I x3p1.lo, I x3p1.hi]], 2, false⟩)]) (nxt := 2) (els0 := []) (sz0 := 0) (cap0 := none) z6 (z8 x3p1 by_) h26 rfl (by kernel_rfl) (by decide) ⟨by simp only [ty25, big] <;> (first | assumption | omega | (exact yi (by omega) (by omega)) | (exact zO (by omega)) | (exact zz (by omega)) | (exact zP (by omega)) | (exact zA (by omega)) | (exact zy _ (by omega)) | (simp only [zk] at * <;> omega) | (simp only [zr, GS.some_l, List.length_set, List.length_append, List.length_cons, List.length_nil] at * <;> first | with_reducible assumption | omega) | (simp only [zr, GS.some_l, List.length_set, List.length_append, List.length_cons, List.length_nil, zk] at * <;> first | with_reducible assumption | omega) | (simp at * <;> omega)), by simp only [big] <;> (first | assumption | omega | (exact yi (by omega) (by omega)) | (exact zO (by omega)) | (exact zz (by omega)) | (exact zP (by omega)) | (exact zA (by omega)) | (exact zy _ (by omega)) | (simp only [zk] at * <;> omega) | (simp only [zr, GS.some_l, List.length_set, List.length_append, List.length_cons, List.length_nil] at * <;> first | with_reducible assumption | omega) | (simp only [zr, GS.some_l, List.length_set, List.length_append, List.length_cons, List.length_nil, zk] at * <;> first | with_reducible assumption | omega) | (simp at * <;> omega))⟩) (And.intro p2 (And.intro p1 (And.intro (lt_at hd3p1) trivial))))) (by kernel_rfl) (by (simp only [sd209, go_sem, List.length_set, Nat.reduceAdd, Nat.reduceEqDiff, Nat.reduceLT, Nat.reduceLeDiff, bI2, za.idsL, za.renL, za.snapAll, z6.idsL, z6.renL, z6.snapAll]) <;> rfl) (lp_ranges_each_3p1a r by_ _ (i3p1 + 1) ((z8 x3p1 by_).l) (zn hd3p1) (zl hd3p1) (by omega) (by omega)) (by kernel_rfl)
    | false =>
      have p3 := (And.intro (show flat fuelD (.sl ((z8 x3p1 by_).nl) (((z8 x3p1 by_).l).map S_Span.D) (zsl ((z8 x3p1 by_).nl) 2) none) = false from (by rw [h25] <;> kernel_rfl)) (And.intro (trivial) (T_ranges_Shift_1 x3p1 by_)))
      cases h27 : ((z8 x3p1 by_).l).isEmpty with
      | true =>
        exact po_turn ((ranges_each_3p1_l_o2 by_ x3p1) ++ [.op (some 18) ⟨.sl true [] 0 none, [], [], 2⟩, .rw 19 (I ((i3p1 + 1 : Nat) : Int))]) (And.intro (inc_rw (i := i3p1) (by have := zl hd3p1; omega)) (And.intro (app_none (te := ty25) (gO := zv [(0, ⟨[I by_], 1, true⟩), (1, ⟨[.agg [I x3p1.lo, I x3p1.hi]], 2, false⟩)]) (nxt := 2) (f := S_Span.D) (sz := 2) (d := .sl true [] 0 none) (z8 x3p1 by_) h27 rfl) (And.intro p3 (And.intro p1 (And.intro (lt_at hd3p1) trivial))))) (lp_ranges_each_3p1b r by_ _ (i3p1 + 1) (zn hd3p1) (zl hd3p1) (by omega)) (by kernel_rfl)
      | false =>
        exact y7 (ks := [1, 5, 8, 9, 10]) (st' := (sd208 r by_ i3p1 x3p1)) ((ranges_each_3p1_l_o2 by_ x3p1) ++ [.op (some 18) ⟨.lsl 2 0 (((z8 x3p1 by_).l).length) 2 none, [(2, some ⟨((z8 x3p1 by_).l).map S_Span.D, 2, false⟩)], [], 3⟩, .rw 19 (I ((i3p1 + 1 : Nat) : Int))]) (And.intro (inc_rw (i := i3p1) (by have := zl hd3p1; omega)) (And.intro (app_newD (te := ty25) (gO := zv [(0, ⟨[I by_], 1, true⟩), (1, ⟨[.agg [I x3p1.lo, I x3p1.hi]], 2, false⟩)]) (nxt := 2) (els0 := []) (sz0 := 0) (cap0 := none) z6 (z8 x3p1 by_) h27 rfl (by kernel_rfl) (by decide) ⟨by simp only [ty25, big] <;> (first | assumption | omega | (exact yi (by omega) (by omega)) | (exact zO (by omega)) | (exact zz (by omega)) | (exact zP (by omega)) | (exact zA (by omega)) | (exact zy _ (by omega)) | (simp only [zk] at * <;> omega) | (simp only [zr, GS.some_l, List.length_set, List.length_append, List.length_cons, List.length_nil] at * <;> first | with_reducible assumption | omega) | (simp only [zr, GS.some_l, List.length_set, List.length_append, List.length_cons, List.length_nil, zk] at * <;> first | with_reducible assumption | omega) | (simp at * <;> omega)), by simp only [big] <;> (first | assumption | omega | (exact yi (by omega) (by omega)) | (exact zO (by omega)) | (exact zz (by omega)) | (exact zP (by omega)) | (exact zA (by omega)) | (exact zy _ (by omega)) | (simp only [zk] at * <;> omega) | (simp only [zr, GS.some_l, List.length_set, List.length_append, List.length_cons, List.length_nil] at * <;> first | with_reducible assumption | omega) | (simp only [zr, GS.some_l, List.length_set, List.length_append, List.length_cons, List.length_nil, zk] at * <;> first | with_reducible assumption | omega) | (simp at * <;> omega))⟩) (And.intro p3 (And.intro p1 (And.intro (lt_at hd3p1) trivial))))) (by kernel_rfl) (by (simp only [sd208, go_sem, List.length_set, Nat.reduceAdd, Nat.reduceEqDiff, Nat.reduceLT, Nat.reduceLeDiff, bI2, za.idsL, za.renL, za.snapAll, z6.idsL, z6.renL, z6.snapAll]) <;> rfl) (lp_ranges_each_3p1c r by_ _ (i3p1 + 1) ((z8 x3p1 by_).l) (zn hd3p1) (zl hd3p1) (by omega) (by omega)) (by kernel_rfl)
theorem ivt_ranges_each_3p1 (r : GS S_Span) (by_ : Int) : ∀ (rest3p1 : List S_Span) (i3p1 : Nat) (hd3p1 : r.l.drop i3p1 = rest3p1) (hi3p1 : i3p1 ≤ r.l.length) (hL3p1 : r.l.length ≤ 1099511627776), iv_ranges_each_3p1 r by_ (ya by_ rest3p1) := by
  intro rest3p1
  induction rest3p1 with
  | nil =>
    intro i3p1 hd3p1 hi3p1 hL3p1
    unfold ya
    obtain rfl : i3p1 = r.l.length := nil_eq hd3p1 hi3p1
    exact trivial
  | cons x3p1 rest3p1 ih =>
    intro i3p1 hd3p1 hi3p1 hL3p1
    have hlt3p1 := zl hd3p1
    have hlx := shift1_len x3p1 by_
    unfold ya
    cases h25 : (z8 x3p1 by_).nl with
    | true =>
      cases h26 : ((z8 x3p1 by_).l).isEmpty with
      | true =>
        exact ih (i3p1 + 1) (zn hd3p1) (zl hd3p1) (by omega)
      | false =>
        exact ivt_ranges_each_3p1a r by_ _ (i3p1 + 1) ((z8 x3p1 by_).l) (zn hd3p1) (zl hd3p1) (by omega) (by omega)
    | false =>
      cases h27 : ((z8 x3p1 by_).l).isEmpty with
      | true =>
        exact ivt_ranges_each_3p1b r by_ _ (i3p1 + 1) (zn hd3p1) (zl hd3p1) (by omega)
      | false =>
        exact ivt_ranges_each_3p1c r by_ _ (i3p1 + 1) ((z8 x3p1 by_).l) (zn hd3p1) (zl hd3p1) (by omega) (by omega)

def zD (r : GS S_Span) (by_ : Int) : (GS S_Span) × Int :=
  bif ((zC r) != 0) then
    (GS.nil, (zC r))
  else
    bif decide (((r.l.length : Nat) : Int) > 0) then
      bif (ranges_in by_ (-2199023255552) 2199023255552) then
        match ya by_ r.l with
        | .x0 vc3p1_0 =>
          match zx (zf ze vc3p1_0) 0 with
          | .x0 va4p1_0 =>
            bif decide (((va4p1_0.length : Nat) : Int) > 64) then
              (GS.nil, 2)
            else
              (GS.some va4p1_0, 0)
          | .x1 i4p1 x4p1 va4p1_0 =>
            (GS.nil, 2)
          | .x2 i4p1 x4p1 va4p1_0 =>
            (GS.nil, 2)
          | .x3 =>
            (GS.nil, 0)
          | .x4 i4p1 x4p1 =>
            (GS.nil, 2)
          | .x5 i4p1 x4p1 =>
            (GS.nil, 2)
        | .x1 va3p1_0 =>
          match zx (zf ze va3p1_0) 0 with
          | .x0 va4p1_0 =>
            bif decide (((va4p1_0.length : Nat) : Int) > 64) then
              (GS.nil, 2)
            else
              (GS.some va4p1_0, 0)
          | .x1 i4p1 x4p1 va4p1_0 =>
            (GS.nil, 2)
          | .x2 i4p1 x4p1 va4p1_0 =>
            (GS.nil, 2)
          | .x3 =>
            (GS.nil, 0)
          | .x4 i4p1 x4p1 =>
            (GS.nil, 2)
          | .x5 i4p1 x4p1 =>
            (GS.nil, 2)
        | .x2 =>
          (GS.nil, 0)
        | .x3 =>
          (GS.nil, 0)
      else
        (GS.nil, 2)
    else
      match ya by_ r.l with
      | .x0 vc3p1_0 =>
        match zx (zf ze vc3p1_0) 0 with
        | .x0 va4p1_0 =>
          bif decide (((va4p1_0.length : Nat) : Int) > 64) then
            (GS.nil, 2)
          else
            (GS.some va4p1_0, 0)
        | .x1 i4p1 x4p1 va4p1_0 =>
          (GS.nil, 2)
        | .x2 i4p1 x4p1 va4p1_0 =>
          (GS.nil, 2)
        | .x3 =>
          (GS.nil, 0)
        | .x4 i4p1 x4p1 =>
          (GS.nil, 2)
        | .x5 i4p1 x4p1 =>
          (GS.nil, 2)
      | .x1 va3p1_0 =>
        match zx (zf ze va3p1_0) 0 with
        | .x0 va4p1_0 =>
          bif decide (((va4p1_0.length : Nat) : Int) > 64) then
            (GS.nil, 2)
          else
            (GS.some va4p1_0, 0)
        | .x1 i4p1 x4p1 va4p1_0 =>
          (GS.nil, 2)
        | .x2 i4p1 x4p1 va4p1_0 =>
          (GS.nil, 2)
        | .x3 =>
          (GS.nil, 0)
        | .x4 i4p1 x4p1 =>
          (GS.nil, 2)
        | .x5 i4p1 x4p1 =>
          (GS.nil, 2)
      | .x2 =>
        (GS.nil, 0)
      | .x3 =>
        (GS.nil, 0)

def zZ (r : GS S_Span) (by_ : Int) : List Ora := [.pure (I (zC r)), .dec false, .rw 13 (I ((r.l.length : Nat) : Int)), .dec true, .pure (B (ranges_in by_ (-2199023255552) 2199023255552))]

def ranges_Shift_o2 (r : GS S_Span) (by_ : Int) (vc3p1_0 : List S_Span) : List Ora := [.pure (I (zC r)), .dec false, .rw 13 (I ((r.l.length : Nat) : Int)), .dec false, .inl (.lsl 1 0 vc3p1_0.length 2 none) [(0, ⟨[I by_], 1, true⟩), (1, ⟨vc3p1_0.map S_Span.D, 2, false⟩)] 2]

def ranges_Shift_o3 (r : GS S_Span) (by_ : Int) (va3p1_0 : List S_Span) : List Ora := [.pure (I (zC r)), .dec false, .rw 13 (I ((r.l.length : Nat) : Int)), .dec false, .inl (.lsl 1 0 va3p1_0.length 2 none) [(0, ⟨[I by_], 1, false⟩), (1, ⟨va3p1_0.map S_Span.D, 2, false⟩)] 2]

def sd210 (r : GS S_Span) (by_ : Int) (vc3p1_0 : List S_Span) : St := ⟨21, [(11, B false), (1, .fn (.func 85) [] [.lref 0 0 1 0]), (5, .lsl 1 0 vc3p1_0.length 2 none), (8, .sl r.nl (r.l.map S_Span.D) (zsl r.nl 2) none), (9, I ((r.l.length : Nat) : Int)), (10, I ((r.l.length : Nat) : Int))], [(0, ⟨[I by_], 1, true⟩), (1, ⟨vc3p1_0.map S_Span.D, 2, false⟩)], 2, 1⟩

def sd212 (vc3p1_0 : List S_Span) : St := ⟨65, [(4, .sl true [] 0 none), (10, .lsl 1 0 vc3p1_0.length 2 none), (11, I ((vc3p1_0.length : Nat) : Int)), (12, I 0)], [(1, ⟨(zf ze vc3p1_0).map S_Span.D, 2, false⟩)], 2, 2⟩

def sd213 (vc3p1_0 : List S_Span) (va4p1_0 : List S_Span) : St := ⟨65, [(13, B false), (4, .lsl 2 0 va4p1_0.length 2 none), (10, .lsl 1 0 vc3p1_0.length 2 none), (11, I ((vc3p1_0.length : Nat) : Int)), (12, I (((zf ze vc3p1_0).length : Nat) : Int))], [(1, ⟨(zf ze vc3p1_0).map S_Span.D, 2, false⟩), (2, ⟨va4p1_0.map S_Span.D, 2, false⟩)], 3, 2⟩

def sd211 (vc3p1_0 : List S_Span) : St := ⟨65, [(12, I 0), (11, I ((vc3p1_0.length : Nat) : Int)), (10, .lsl 1 0 vc3p1_0.length 2 none), (4, .sl true [] 0 none), (9, .tup []), (8, .lsl 1 0 vc3p1_0.length 2 none), (3, I 0), (2, .sl true [] 0 none), (0, .lsl 1 0 vc3p1_0.length 2 none)], [(1, ⟨(zf ze vc3p1_0).map S_Span.D, 2, false⟩)], 2, 2⟩

def sd214 (vc3p1_0 : List S_Span) (va4p1_0 : List S_Span) (i4p1 : Nat) (x4p1 : S_Span) : St := ⟨65, [(3, I 2), (2, .sl true [] 0 none), (25, B true), (24, B true), (23, B false), (22, I x4p1.hi), (21, .lref 3 0 2 1), (20, B false), (19, B false), (18, B true), (17, I x4p1.lo), (16, .lref 3 0 2 0), (6, .lref 3 0 2 0), (15, .agg [I x4p1.lo, I x4p1.hi]), (14, .lref 1 i4p1 2 0), (13, B true), (4, .lsl 2 0 va4p1_0.length 2 none), (10, .lsl 1 0 vc3p1_0.length 2 none), (11, I ((vc3p1_0.length : Nat) : Int)), (12, I ((i4p1 : Nat) : Int))], [(1, ⟨(zf ze vc3p1_0).map S_Span.D, 2, false⟩), (2, ⟨va4p1_0.map S_Span.D, 2, false⟩), (3, ⟨[.agg [I x4p1.lo, I x4p1.hi]], 2, false⟩)], 4, 2⟩

def sd215 (vc3p1_0 : List S_Span) (va4p1_0 : List S_Span) (i4p1 : Nat) (x4p1 : S_Span) : St := ⟨65, [(3, I 2), (2, .sl true [] 0 none), (25, B true), (24, .tup []), (23, .tup []), (22, .tup []), (21, .tup []), (20, B true), (19, B true), (18, B false), (17, I x4p1.lo), (16, .lref 3 0 2 0), (6, .lref 3 0 2 0), (15, .agg [I x4p1.lo, I x4p1.hi]), (14, .lref 1 i4p1 2 0), (13, B true), (4, .lsl 2 0 va4p1_0.length 2 none), (10, .lsl 1 0 vc3p1_0.length 2 none), (11, I ((vc3p1_0.length : Nat) : Int)), (12, I ((i4p1 : Nat) : Int))], [(1, ⟨(zf ze vc3p1_0).map S_Span.D, 2, false⟩), (2, ⟨va4p1_0.map S_Span.D, 2, false⟩), (3, ⟨[.agg [I x4p1.lo, I x4p1.hi]], 2, false⟩)], 4, 2⟩

def sd216 (vc3p1_0 : List S_Span) : St := ⟨65, [(13, B false), (4, .sl true [] 0 none), (10, .lsl 1 0 vc3p1_0.length 2 none), (11, I ((vc3p1_0.length : Nat) : Int)), (12, I (((zf ze vc3p1_0).length : Nat) : Int))], [(1, ⟨(zf ze vc3p1_0).map S_Span.D, 2, false⟩)], 2, 2⟩

def sd217 (vc3p1_0 : List S_Span) (i4p1 : Nat) (x4p1 : S_Span) : St := ⟨65, [(3, I 2), (2, .sl true [] 0 none), (25, B true), (24, B true), (23, B false), (22, I x4p1.hi), (21, .lref 2 0 2 1), (20, B false), (19, B false), (18, B true), (17, I x4p1.lo), (16, .lref 2 0 2 0), (6, .lref 2 0 2 0), (15, .agg [I x4p1.lo, I x4p1.hi]), (14, .lref 1 i4p1 2 0), (13, B true), (4, .sl true [] 0 none), (10, .lsl 1 0 vc3p1_0.length 2 none), (11, I ((vc3p1_0.length : Nat) : Int)), (12, I ((i4p1 : Nat) : Int))], [(1, ⟨(zf ze vc3p1_0).map S_Span.D, 2, false⟩), (2, ⟨[.agg [I x4p1.lo, I x4p1.hi]], 2, false⟩)], 3, 2⟩

def sd218 (vc3p1_0 : List S_Span) (i4p1 : Nat) (x4p1 : S_Span) : St := ⟨65, [(3, I 2), (2, .sl true [] 0 none), (25, B true), (24, .tup []), (23, .tup []), (22, .tup []), (21, .tup []), (20, B true), (19, B true), (18, B false), (17, I x4p1.lo), (16, .lref 2 0 2 0), (6, .lref 2 0 2 0), (15, .agg [I x4p1.lo, I x4p1.hi]), (14, .lref 1 i4p1 2 0), (13, B true), (4, .sl true [] 0 none), (10, .lsl 1 0 vc3p1_0.length 2 none), (11, I ((vc3p1_0.length : Nat) : Int)), (12, I ((i4p1 : Nat) : Int))], [(1, ⟨(zf ze vc3p1_0).map S_Span.D, 2, false⟩), (2, ⟨[.agg [I x4p1.lo, I x4p1.hi]], 2, false⟩)], 3, 2⟩

def sd219 (r : GS S_Span) (by_ : Int) (va3p1_0 : List S_Span) : St := ⟨21, [(11, B false), (1, .fn (.func 85) [] [.lref 0 0 1 0]), (5, .lsl 1 0 va3p1_0.length 2 none), (8, .sl r.nl (r.l.map S_Span.D) (zsl r.nl 2) none), (9, I ((r.l.length : Nat) : Int)), (10, I ((r.l.length : Nat) : Int))], [(0, ⟨[I by_], 1, false⟩), (1, ⟨va3p1_0.map S_Span.D, 2, false⟩)], 2, 1⟩

def sd220 (r : GS S_Span) (by_ : Int) : St := ⟨21, [(11, B false), (1, .fn (.func 85) [] [.lref 0 0 1 0]), (5, .sl true [] 0 none), (8, .sl r.nl (r.l.map S_Span.D) (zsl r.nl 2) none), (9, I ((r.l.length : Nat) : Int)), (10, I ((r.l.length : Nat) : Int))], [(0, ⟨[I by_], 1, true⟩)], 1, 1⟩

def sd221 (r : GS S_Span) (by_ : Int) : St := ⟨21, [(11, B false), (1, .fn (.func 85) [] [.lref 0 0 1 0]), (5, .sl true [] 0 none), (8, .sl r.nl (r.l.map S_Span.D) (zsl r.nl 2) none), (9, I ((r.l.length : Nat) : Int)), (10, I ((r.l.length : Nat) : Int))], [(0, ⟨[I by_], 1, false⟩)], 1, 1⟩

theorem T_ranges_Shift (r : GS S_Span) (by_ : Int) (hLr : r.l.length ≤ 9223372036854775807) (hL_r : r.l.length ≤ 9223372036854775807) : (lim cfg).pure 26 [GS.D S_Span.D 2 r, I by_] = some (.tup [GS.D S_Span.D 2 ((zD r by_).1), I ((zD r by_).2)]) := by
  unfold zD
  cases h1 : ((zC r) != 0) with
  | true =>
    have g1 := bne_true h1
    exact zq [.pure (I (zC r)), .dec true] (And.intro h1 (And.intro (zt r (by omega)) trivial)) (by kernel_rfl)
  | false =>
    have g1 := check1_len (bne_false h1)
    cases h2 : decide (((r.l.length : Nat) : Int) > 0) with
    | true =>
      have g2 := of_decide_eq_true h2
      have p1 := (T_ranges_in by_ (-2199023255552) 2199023255552)
      cases h3 : (ranges_in by_ (-2199023255552) 2199023255552) with
      | true =>
        cases h28 : ya by_ r.l with
        | x0 vc3p1_0 =>
          try dsimp only
          have hv_h28 := ivt_ranges_each_3p1 r by_ r.l 0 (List.drop_zero) (Nat.zero_le _) (by omega)
          rw [h28] at hv_h28
          have hv_h28_0 := hv_h28
          try dsimp only [iv_ranges_each_3p1] at hv_h28_0
          have p2 := (show (lim cfg).inl 70 [.sl r.nl (r.l.map S_Span.D) (zsl r.nl 2) none, .fn (.func 85) [] [.lref 0 0 1 0]] [(0, ⟨[I by_], 1, false⟩)] 1 = some (.lsl 1 0 vc3p1_0.length 2 none, [(0, ⟨[I by_], 1, true⟩), (1, ⟨vc3p1_0.map S_Span.D, 2, false⟩)], 2) from zw [.rw 9 (I ((r.l.length : Nat) : Int)), .loop (.exit 0) (sd210 r by_ vc3p1_0)] (And.intro (zX (q := yh r by_) (lp_ranges_each_3p1 r by_ r.l 0 (List.drop_zero) (Nat.zero_le _) (by omega)) h28) (And.intro (zG S_Span.D r) trivial)) (by kernel_rfl))
          cases h29 : zx (zf ze vc3p1_0) 0 with
          | x0 va4p1_0 =>
            try dsimp only
            have hv_h29 := zH vc3p1_0 (zf ze vc3p1_0) (zf ze vc3p1_0) 0 (List.drop_zero) (Nat.zero_le _) (by simp only [zr, GS.some_l, List.length_set, List.length_append, List.length_cons, List.length_nil] at * <;> first | with_reducible assumption | omega) (by simp only [zr, GS.some_l, List.length_set, List.length_append, List.length_cons, List.length_nil] at * <;> first | with_reducible assumption | omega)
            rw [h29] at hv_h29
            obtain ⟨hv_h29_0, hv_h29_1⟩ := hv_h29
            try dsimp only [zj] at hv_h29_0
            try dsimp only [zj] at hv_h29_1
            cases h30 : decide (((va4p1_0.length : Nat) : Int) > 64) with
            | true =>
              have g30 := of_decide_eq_true h30
              exact zq ((zZ r by_) ++ [.dec true, .inl (.lsl 1 0 vc3p1_0.length 2 none) [(0, ⟨[I by_], 1, true⟩), (1, ⟨vc3p1_0.map S_Span.D, 2, false⟩)] 2, .inlS [1] (.tup [.sl true [] 0 none, I 2]) [(1, ⟨(zf ze vc3p1_0).map S_Span.D, 2, false⟩), (2, ⟨va4p1_0.map S_Span.D, 2, false⟩)] 3]) (And.intro (And.intro (show zc [(0, ⟨[I by_], 1, true⟩), (1, ⟨vc3p1_0.map S_Span.D, 2, false⟩)] 256 [1] [] = some [1] from (by (simp only [zc, go_sem, List.length_set, Nat.reduceAdd, Nat.reduceEqDiff, Nat.reduceLT, Nat.reduceLeDiff, bI2, za.idsL, za.renL, za.snapAll, z6.idsL, z6.renL, z6.snapAll]) <;> rfl)) (show (lim cfg).inl 69 [.lsl 1 0 vc3p1_0.length 2 none] [(1, ⟨vc3p1_0.map S_Span.D, 2, false⟩)] 2 = some (.tup [.sl true [] 0 none, I 2], [(1, ⟨(zf ze vc3p1_0).map S_Span.D, 2, false⟩), (2, ⟨va4p1_0.map S_Span.D, 2, false⟩)], 3) from zw [.inlS [1] (.tup []) [(1, ⟨(zf ze vc3p1_0).map S_Span.D, 2, false⟩)] 2, .gloop (sd212 vc3p1_0) (.exit 0) (sd213 vc3p1_0 va4p1_0), .dec true] (And.intro h30 (And.intro (zX (q := zg vc3p1_0 (zf ze vc3p1_0)) (lp_ranges_gathered_4p1 vc3p1_0 (zf ze vc3p1_0) (zf ze vc3p1_0) 0 (List.drop_zero) (Nat.zero_le _) (by simp only [zr, GS.some_l, List.length_set, List.length_append, List.length_cons, List.length_nil] at * <;> first | with_reducible assumption | omega) (by simp only [zr, GS.some_l, List.length_set, List.length_append, List.length_cons, List.length_nil] at * <;> first | with_reducible assumption | omega)) h29) (And.intro (gc_of (C := cfg) (f := 69) (a := lp69_4) (ks := [4, 10, 11, 12]) (st := (sd211 vc3p1_0)) (st1 := (sd212 vc3p1_0)) (by kernel_rfl) (by (simp only [sd211, sd212, go_sem, List.length_set, Nat.reduceAdd, Nat.reduceEqDiff, Nat.reduceLT, Nat.reduceLeDiff, bI2, za.idsL, za.renL, za.snapAll, z6.idsL, z6.renL, z6.snapAll]) <;> rfl)) (And.intro (And.intro (show zc [(1, ⟨vc3p1_0.map S_Span.D, 2, false⟩)] 256 [1] [] = some [1] from (by (simp only [zc, go_sem, List.length_set, Nat.reduceAdd, Nat.reduceEqDiff, Nat.reduceLT, Nat.reduceLeDiff, bI2, za.idsL, za.renL, za.snapAll, z6.idsL, z6.renL, z6.snapAll]) <;> rfl)) (y8 1 2 none vc3p1_0 (by omega))) trivial)))) (by kernel_rfl))) (And.intro p2 (And.intro h3 (And.intro p1 (And.intro h2 (And.intro (zG S_Span.D r) (And.intro h1 (And.intro (zt r (by omega)) trivial)))))))) (by kernel_rfl)
            | false =>
              have g30 := of_decide_eq_false h30
              exact po_pureS ((zZ r by_) ++ [.dec true, .inl (.lsl 1 0 vc3p1_0.length 2 none) [(0, ⟨[I by_], 1, true⟩), (1, ⟨vc3p1_0.map S_Span.D, 2, false⟩)] 2, .inlS [1] (.tup [.lsl 2 0 va4p1_0.length 2 none, I 0]) [(1, ⟨(zf ze vc3p1_0).map S_Span.D, 2, false⟩), (2, ⟨va4p1_0.map S_Span.D, 2, false⟩)] 3]) [(2, .sl false (va4p1_0.map S_Span.D) 2 none, [2])] (And.intro (snap_row (gO := zv [(0, ⟨[I by_], 1, true⟩), (1, ⟨(zf ze vc3p1_0).map S_Span.D, 2, false⟩), (2, ⟨va4p1_0.map S_Span.D, 2, false⟩)]) (o := 2) (len := va4p1_0.length) (cap := none) (fz := false) z6 va4p1_0 (by kernel_rfl) (by omega)) (And.intro (And.intro (show zc [(0, ⟨[I by_], 1, true⟩), (1, ⟨vc3p1_0.map S_Span.D, 2, false⟩)] 256 [1] [] = some [1] from (by (simp only [zc, go_sem, List.length_set, Nat.reduceAdd, Nat.reduceEqDiff, Nat.reduceLT, Nat.reduceLeDiff, bI2, za.idsL, za.renL, za.snapAll, z6.idsL, z6.renL, z6.snapAll]) <;> rfl)) (show (lim cfg).inl 69 [.lsl 1 0 vc3p1_0.length 2 none] [(1, ⟨vc3p1_0.map S_Span.D, 2, false⟩)] 2 = some (.tup [.lsl 2 0 va4p1_0.length 2 none, I 0], [(1, ⟨(zf ze vc3p1_0).map S_Span.D, 2, false⟩), (2, ⟨va4p1_0.map S_Span.D, 2, false⟩)], 3) from zw [.inlS [1] (.tup []) [(1, ⟨(zf ze vc3p1_0).map S_Span.D, 2, false⟩)] 2, .gloop (sd212 vc3p1_0) (.exit 0) (sd213 vc3p1_0 va4p1_0), .dec false] (And.intro h30 (And.intro (zX (q := zg vc3p1_0 (zf ze vc3p1_0)) (lp_ranges_gathered_4p1 vc3p1_0 (zf ze vc3p1_0) (zf ze vc3p1_0) 0 (List.drop_zero) (Nat.zero_le _) (by simp only [zr, GS.some_l, List.length_set, List.length_append, List.length_cons, List.length_nil] at * <;> first | with_reducible assumption | omega) (by simp only [zr, GS.some_l, List.length_set, List.length_append, List.length_cons, List.length_nil] at * <;> first | with_reducible assumption | omega)) h29) (And.intro (gc_of (C := cfg) (f := 69) (a := lp69_4) (ks := [4, 10, 11, 12]) (st := (sd211 vc3p1_0)) (st1 := (sd212 vc3p1_0)) (by kernel_rfl) (by (simp only [sd211, sd212, go_sem, List.length_set, Nat.reduceAdd, Nat.reduceEqDiff, Nat.reduceLT, Nat.reduceLeDiff, bI2, za.idsL, za.renL, za.snapAll, z6.idsL, z6.renL, z6.snapAll]) <;> rfl)) (And.intro (And.intro (show zc [(1, ⟨vc3p1_0.map S_Span.D, 2, false⟩)] 256 [1] [] = some [1] from (by (simp only [zc, go_sem, List.length_set, Nat.reduceAdd, Nat.reduceEqDiff, Nat.reduceLT, Nat.reduceLeDiff, bI2, za.idsL, za.renL, za.snapAll, z6.idsL, z6.renL, z6.snapAll]) <;> rfl)) (y8 1 2 none vc3p1_0 (by omega))) trivial)))) (by kernel_rfl))) (And.intro p2 (And.intro h3 (And.intro p1 (And.intro h2 (And.intro (zG S_Span.D r) (And.intro h1 (And.intro (zt r (by omega)) trivial))))))))) (by kernel_rfl)
          | x1 i4p1 x4p1 va4p1_0 =>
            try dsimp only
            have hv_h29 := zH vc3p1_0 (zf ze vc3p1_0) (zf ze vc3p1_0) 0 (List.drop_zero) (Nat.zero_le _) (by simp only [zr, GS.some_l, List.length_set, List.length_append, List.length_cons, List.length_nil] at * <;> first | with_reducible assumption | omega) (by simp only [zr, GS.some_l, List.length_set, List.length_append, List.length_cons, List.length_nil] at * <;> first | with_reducible assumption | omega)
            rw [h29] at hv_h29
            obtain ⟨hv_h29_0, hv_h29_1⟩ := hv_h29
            try dsimp only [zj] at hv_h29_0
            try dsimp only [zj] at hv_h29_1
            exact zq ((zZ r by_) ++ [.dec true, .inl (.lsl 1 0 vc3p1_0.length 2 none) [(0, ⟨[I by_], 1, true⟩), (1, ⟨vc3p1_0.map S_Span.D, 2, false⟩)] 2, .inlS [1] (.tup [.sl true [] 0 none, I 2]) [(1, ⟨(zf ze vc3p1_0).map S_Span.D, 2, false⟩), (2, ⟨va4p1_0.map S_Span.D, 2, false⟩), (3, ⟨[.agg [I x4p1.lo, I x4p1.hi]], 2, false⟩)] 4]) (And.intro (And.intro (show zc [(0, ⟨[I by_], 1, true⟩), (1, ⟨vc3p1_0.map S_Span.D, 2, false⟩)] 256 [1] [] = some [1] from (by (simp only [zc, go_sem, List.length_set, Nat.reduceAdd, Nat.reduceEqDiff, Nat.reduceLT, Nat.reduceLeDiff, bI2, za.idsL, za.renL, za.snapAll, z6.idsL, z6.renL, z6.snapAll]) <;> rfl)) (show (lim cfg).inl 69 [.lsl 1 0 vc3p1_0.length 2 none] [(1, ⟨vc3p1_0.map S_Span.D, 2, false⟩)] 2 = some (.tup [.sl true [] 0 none, I 2], [(1, ⟨(zf ze vc3p1_0).map S_Span.D, 2, false⟩), (2, ⟨va4p1_0.map S_Span.D, 2, false⟩), (3, ⟨[.agg [I x4p1.lo, I x4p1.hi]], 2, false⟩)], 4) from zw [.inlS [1] (.tup []) [(1, ⟨(zf ze vc3p1_0).map S_Span.D, 2, false⟩)] 2, .gloop (sd212 vc3p1_0) .ret (sd214 vc3p1_0 va4p1_0 i4p1 x4p1)] (And.intro (zX (q := zg vc3p1_0 (zf ze vc3p1_0)) (lp_ranges_gathered_4p1 vc3p1_0 (zf ze vc3p1_0) (zf ze vc3p1_0) 0 (List.drop_zero) (Nat.zero_le _) (by simp only [zr, GS.some_l, List.length_set, List.length_append, List.length_cons, List.length_nil] at * <;> first | with_reducible assumption | omega) (by simp only [zr, GS.some_l, List.length_set, List.length_append, List.length_cons, List.length_nil] at * <;> first | with_reducible assumption | omega)) h29) (And.intro (gc_of (C := cfg) (f := 69) (a := lp69_4) (ks := [4, 10, 11, 12]) (st := (sd211 vc3p1_0)) (st1 := (sd212 vc3p1_0)) (by kernel_rfl) (by (simp only [sd211, sd212, go_sem, List.length_set, Nat.reduceAdd, Nat.reduceEqDiff, Nat.reduceLT, Nat.reduceLeDiff, bI2, za.idsL, za.renL, za.snapAll, z6.idsL, z6.renL, z6.snapAll]) <;> rfl)) (And.intro (And.intro (show zc [(1, ⟨vc3p1_0.map S_Span.D, 2, false⟩)] 256 [1] [] = some [1] from (by (simp only [zc, go_sem, List.length_set, Nat.reduceAdd, Nat.reduceEqDiff, Nat.reduceLT, Nat.reduceLeDiff, bI2, za.idsL, za.renL, za.snapAll, z6.idsL, z6.renL, z6.snapAll]) <;> rfl)) (y8 1 2 none vc3p1_0 (by omega))) trivial))) (by kernel_rfl))) (And.intro p2 (And.intro h3 (And.intro p1 (And.intro h2 (And.intro (zG S_Span.D r) (And.intro h1 (And.intro (zt r (by omega)) trivial)))))))) (by kernel_rfl)
          | x2 i4p1 x4p1 va4p1_0 =>
            try dsimp only
            have hv_h29 := zH vc3p1_0 (zf ze vc3p1_0) (zf ze vc3p1_0) 0 (List.drop_zero) (Nat.zero_le _) (by simp only [zr, GS.some_l, List.length_set, List.length_append, List.length_cons, List.length_nil] at * <;> first | with_reducible assumption | omega) (by simp only [zr, GS.some_l, List.length_set, List.length_append, List.length_cons, List.length_nil] at * <;> first | with_reducible assumption | omega)
            rw [h29] at hv_h29
            obtain ⟨hv_h29_0, hv_h29_1⟩ := hv_h29
            try dsimp only [zj] at hv_h29_0
            try dsimp only [zj] at hv_h29_1
            exact zq ((zZ r by_) ++ [.dec true, .inl (.lsl 1 0 vc3p1_0.length 2 none) [(0, ⟨[I by_], 1, true⟩), (1, ⟨vc3p1_0.map S_Span.D, 2, false⟩)] 2, .inlS [1] (.tup [.sl true [] 0 none, I 2]) [(1, ⟨(zf ze vc3p1_0).map S_Span.D, 2, false⟩), (2, ⟨va4p1_0.map S_Span.D, 2, false⟩), (3, ⟨[.agg [I x4p1.lo, I x4p1.hi]], 2, false⟩)] 4]) (And.intro (And.intro (show zc [(0, ⟨[I by_], 1, true⟩), (1, ⟨vc3p1_0.map S_Span.D, 2, false⟩)] 256 [1] [] = some [1] from (by (simp only [zc, go_sem, List.length_set, Nat.reduceAdd, Nat.reduceEqDiff, Nat.reduceLT, Nat.reduceLeDiff, bI2, za.idsL, za.renL, za.snapAll, z6.idsL, z6.renL, z6.snapAll]) <;> rfl)) (show (lim cfg).inl 69 [.lsl 1 0 vc3p1_0.length 2 none] [(1, ⟨vc3p1_0.map S_Span.D, 2, false⟩)] 2 = some (.tup [.sl true [] 0 none, I 2], [(1, ⟨(zf ze vc3p1_0).map S_Span.D, 2, false⟩), (2, ⟨va4p1_0.map S_Span.D, 2, false⟩), (3, ⟨[.agg [I x4p1.lo, I x4p1.hi]], 2, false⟩)], 4) from zw [.inlS [1] (.tup []) [(1, ⟨(zf ze vc3p1_0).map S_Span.D, 2, false⟩)] 2, .gloop (sd212 vc3p1_0) .ret (sd215 vc3p1_0 va4p1_0 i4p1 x4p1)] (And.intro (zX (q := zg vc3p1_0 (zf ze vc3p1_0)) (lp_ranges_gathered_4p1 vc3p1_0 (zf ze vc3p1_0) (zf ze vc3p1_0) 0 (List.drop_zero) (Nat.zero_le _) (by simp only [zr, GS.some_l, List.length_set, List.length_append, List.length_cons, List.length_nil] at * <;> first | with_reducible assumption | omega) (by simp only [zr, GS.some_l, List.length_set, List.length_append, List.length_cons, List.length_nil] at * <;> first | with_reducible assumption | omega)) h29) (And.intro (gc_of (C := cfg) (f := 69) (a := lp69_4) (ks := [4, 10, 11, 12]) (st := (sd211 vc3p1_0)) (st1 := (sd212 vc3p1_0)) (by kernel_rfl) (by (simp only [sd211, sd212, go_sem, List.length_set, Nat.reduceAdd, Nat.reduceEqDiff, Nat.reduceLT, Nat.reduceLeDiff, bI2, za.idsL, za.renL, za.snapAll, z6.idsL, z6.renL, z6.snapAll]) <;> rfl)) (And.intro (And.intro (show zc [(1, ⟨vc3p1_0.map S_Span.D, 2, false⟩)] 256 [1] [] = some [1] from (by (simp only [zc, go_sem, List.length_set, Nat.reduceAdd, Nat.reduceEqDiff, Nat.reduceLT, Nat.reduceLeDiff, bI2, za.idsL, za.renL, za.snapAll, z6.idsL, z6.renL, z6.snapAll]) <;> rfl)) (y8 1 2 none vc3p1_0 (by omega))) trivial))) (by kernel_rfl))) (And.intro p2 (And.intro h3 (And.intro p1 (And.intro h2 (And.intro (zG S_Span.D r) (And.intro h1 (And.intro (zt r (by omega)) trivial)))))))) (by kernel_rfl)
          | x3 =>
            try dsimp only
            exact zq ((zZ r by_) ++ [.dec true, .inl (.lsl 1 0 vc3p1_0.length 2 none) [(0, ⟨[I by_], 1, true⟩), (1, ⟨vc3p1_0.map S_Span.D, 2, false⟩)] 2, .inlS [1] (.tup [.sl true [] 0 none, I 0]) [(1, ⟨(zf ze vc3p1_0).map S_Span.D, 2, false⟩)] 2]) (And.intro (And.intro (show zc [(0, ⟨[I by_], 1, true⟩), (1, ⟨vc3p1_0.map S_Span.D, 2, false⟩)] 256 [1] [] = some [1] from (by (simp only [zc, go_sem, List.length_set, Nat.reduceAdd, Nat.reduceEqDiff, Nat.reduceLT, Nat.reduceLeDiff, bI2, za.idsL, za.renL, za.snapAll, z6.idsL, z6.renL, z6.snapAll]) <;> rfl)) (show (lim cfg).inl 69 [.lsl 1 0 vc3p1_0.length 2 none] [(1, ⟨vc3p1_0.map S_Span.D, 2, false⟩)] 2 = some (.tup [.sl true [] 0 none, I 0], [(1, ⟨(zf ze vc3p1_0).map S_Span.D, 2, false⟩)], 2) from zw [.inlS [1] (.tup []) [(1, ⟨(zf ze vc3p1_0).map S_Span.D, 2, false⟩)] 2, .gloop (sd212 vc3p1_0) (.exit 0) (sd216 vc3p1_0), .dec false] (And.intro (Eq.refl false) (And.intro (zX (q := zg vc3p1_0 (zf ze vc3p1_0)) (lp_ranges_gathered_4p1 vc3p1_0 (zf ze vc3p1_0) (zf ze vc3p1_0) 0 (List.drop_zero) (Nat.zero_le _) (by simp only [zr, GS.some_l, List.length_set, List.length_append, List.length_cons, List.length_nil] at * <;> first | with_reducible assumption | omega) (by simp only [zr, GS.some_l, List.length_set, List.length_append, List.length_cons, List.length_nil] at * <;> first | with_reducible assumption | omega)) h29) (And.intro (gc_of (C := cfg) (f := 69) (a := lp69_4) (ks := [4, 10, 11, 12]) (st := (sd211 vc3p1_0)) (st1 := (sd212 vc3p1_0)) (by kernel_rfl) (by (simp only [sd211, sd212, go_sem, List.length_set, Nat.reduceAdd, Nat.reduceEqDiff, Nat.reduceLT, Nat.reduceLeDiff, bI2, za.idsL, za.renL, za.snapAll, z6.idsL, z6.renL, z6.snapAll]) <;> rfl)) (And.intro (And.intro (show zc [(1, ⟨vc3p1_0.map S_Span.D, 2, false⟩)] 256 [1] [] = some [1] from (by (simp only [zc, go_sem, List.length_set, Nat.reduceAdd, Nat.reduceEqDiff, Nat.reduceLT, Nat.reduceLeDiff, bI2, za.idsL, za.renL, za.snapAll, z6.idsL, z6.renL, z6.snapAll]) <;> rfl)) (y8 1 2 none vc3p1_0 (by omega))) trivial)))) (by kernel_rfl))) (And.intro p2 (And.intro h3 (And.intro p1 (And.intro h2 (And.intro (zG S_Span.D r) (And.intro h1 (And.intro (zt r (by omega)) trivial)))))))) (by kernel_rfl)
          | x4 i4p1 x4p1 =>
            try dsimp only
            exact zq ((zZ r by_) ++ [.dec true, .inl (.lsl 1 0 vc3p1_0.length 2 none) [(0, ⟨[I by_], 1, true⟩), (1, ⟨vc3p1_0.map S_Span.D, 2, false⟩)] 2, .inlS [1] (.tup [.sl true [] 0 none, I 2]) [(1, ⟨(zf ze vc3p1_0).map S_Span.D, 2, false⟩), (2, ⟨[.agg [I x4p1.lo, I x4p1.hi]], 2, false⟩)] 3]) (And.intro (And.intro (show zc [(0, ⟨[I by_], 1, true⟩), (1, ⟨vc3p1_0.map S_Span.D, 2, false⟩)] 256 [1] [] = some [1] from (by (simp only [zc, go_sem, List.length_set, Nat.reduceAdd, Nat.reduceEqDiff, Nat.reduceLT, Nat.reduceLeDiff, bI2, za.idsL, za.renL, za.snapAll, z6.idsL, z6.renL, z6.snapAll]) <;> rfl)) (show (lim cfg).inl 69 [.lsl 1 0 vc3p1_0.length 2 none] [(1, ⟨vc3p1_0.map S_Span.D, 2, false⟩)] 2 = some (.tup [.sl true [] 0 none, I 2], [(1, ⟨(zf ze vc3p1_0).map S_Span.D, 2, false⟩), (2, ⟨[.agg [I x4p1.lo, I x4p1.hi]], 2, false⟩)], 3) from zw [.inlS [1] (.tup []) [(1, ⟨(zf ze vc3p1_0).map S_Span.D, 2, false⟩)] 2, .gloop (sd212 vc3p1_0) .ret (sd217 vc3p1_0 i4p1 x4p1)] (And.intro (zX (q := zg vc3p1_0 (zf ze vc3p1_0)) (lp_ranges_gathered_4p1 vc3p1_0 (zf ze vc3p1_0) (zf ze vc3p1_0) 0 (List.drop_zero) (Nat.zero_le _) (by simp only [zr, GS.some_l, List.length_set, List.length_append, List.length_cons, List.length_nil] at * <;> first | with_reducible assumption | omega) (by simp only [zr, GS.some_l, List.length_set, List.length_append, List.length_cons, List.length_nil] at * <;> first | with_reducible assumption | omega)) h29) (And.intro (gc_of (C := cfg) (f := 69) (a := lp69_4) (ks := [4, 10, 11, 12]) (st := (sd211 vc3p1_0)) (st1 := (sd212 vc3p1_0)) (by kernel_rfl) (by (simp only [sd211, sd212, go_sem, List.length_set, Nat.reduceAdd, Nat.reduceEqDiff, Nat.reduceLT, Nat.reduceLeDiff, bI2, za.idsL, za.renL, za.snapAll, z6.idsL, z6.renL, z6.snapAll]) <;> rfl)) (And.intro (And.intro (show zc [(1, ⟨vc3p1_0.map S_Span.D, 2, false⟩)] 256 [1] [] = some [1] from (by (simp only [zc, go_sem, List.length_set, Nat.reduceAdd, Nat.reduceEqDiff, Nat.reduceLT, Nat.reduceLeDiff, bI2, za.idsL, za.renL, za.snapAll, z6.idsL, z6.renL, z6.snapAll]) <;> rfl)) (y8 1 2 none vc3p1_0 (by omega))) trivial))) (by kernel_rfl))) (And.intro p2 (And.intro h3 (And.intro p1 (And.intro h2 (And.intro (zG S_Span.D r) (And.intro h1 (And.intro (zt r (by omega)) trivial)))))))) (by kernel_rfl)
          | x5 i4p1 x4p1 =>
            try dsimp only
            exact zq ((zZ r by_) ++ [.dec true, .inl (.lsl 1 0 vc3p1_0.length 2 none) [(0, ⟨[I by_], 1, true⟩), (1, ⟨vc3p1_0.map S_Span.D, 2, false⟩)] 2, .inlS [1] (.tup [.sl true [] 0 none, I 2]) [(1, ⟨(zf ze vc3p1_0).map S_Span.D, 2, false⟩), (2, ⟨[.agg [I x4p1.lo, I x4p1.hi]], 2, false⟩)] 3]) (And.intro (And.intro (show zc [(0, ⟨[I by_], 1, true⟩), (1, ⟨vc3p1_0.map S_Span.D, 2, false⟩)] 256 [1] [] = some [1] from (by (simp only [zc, go_sem, List.length_set, Nat.reduceAdd, Nat.reduceEqDiff, Nat.reduceLT, Nat.reduceLeDiff, bI2, za.idsL, za.renL, za.snapAll, z6.idsL, z6.renL, z6.snapAll]) <;> rfl)) (show (lim cfg).inl 69 [.lsl 1 0 vc3p1_0.length 2 none] [(1, ⟨vc3p1_0.map S_Span.D, 2, false⟩)] 2 = some (.tup [.sl true [] 0 none, I 2], [(1, ⟨(zf ze vc3p1_0).map S_Span.D, 2, false⟩), (2, ⟨[.agg [I x4p1.lo, I x4p1.hi]], 2, false⟩)], 3) from zw [.inlS [1] (.tup []) [(1, ⟨(zf ze vc3p1_0).map S_Span.D, 2, false⟩)] 2, .gloop (sd212 vc3p1_0) .ret (sd218 vc3p1_0 i4p1 x4p1)] (And.intro (zX (q := zg vc3p1_0 (zf ze vc3p1_0)) (lp_ranges_gathered_4p1 vc3p1_0 (zf ze vc3p1_0) (zf ze vc3p1_0) 0 (List.drop_zero) (Nat.zero_le _) (by simp only [zr, GS.some_l, List.length_set, List.length_append, List.length_cons, List.length_nil] at * <;> first | with_reducible assumption | omega) (by simp only [zr, GS.some_l, List.length_set, List.length_append, List.length_cons, List.length_nil] at * <;> first | with_reducible assumption | omega)) h29) (And.intro (gc_of (C := cfg) (f := 69) (a := lp69_4) (ks := [4, 10, 11, 12]) (st := (sd211 vc3p1_0)) (st1 := (sd212 vc3p1_0)) (by kernel_rfl) (by (simp only [sd211, sd212, go_sem, List.length_set, Nat.reduceAdd, Nat.reduceEqDiff, Nat.reduceLT, Nat.reduceLeDiff, bI2, za.idsL, za.renL, za.snapAll, z6.idsL, z6.renL, z6.snapAll]) <;> rfl)) (And.intro (And.intro (show zc [(1, ⟨vc3p1_0.map S_Span.D, 2, false⟩)] 256 [1] [] = some [1] from (by (simp only [zc, go_sem, List.length_set, Nat.reduceAdd, Nat.reduceEqDiff, Nat.reduceLT, Nat.reduceLeDiff, bI2, za.idsL, za.renL, za.snapAll, z6.idsL, z6.renL, z6.snapAll]) <;> rfl)) (y8 1 2 none vc3p1_0 (by omega))) trivial))) (by kernel_rfl))) (And.intro p2 (And.intro h3 (And.intro p1 (And.intro h2 (And.intro (zG S_Span.D r) (And.intro h1 (And.intro (zt r (by omega)) trivial)))))))) (by kernel_rfl)
        | x1 va3p1_0 =>
          try dsimp only
          have hv_h28 := ivt_ranges_each_3p1 r by_ r.l 0 (List.drop_zero) (Nat.zero_le _) (by omega)
          rw [h28] at hv_h28
          have hv_h28_0 := hv_h28
          try dsimp only [iv_ranges_each_3p1] at hv_h28_0
          have p3 := (show (lim cfg).inl 70 [.sl r.nl (r.l.map S_Span.D) (zsl r.nl 2) none, .fn (.func 85) [] [.lref 0 0 1 0]] [(0, ⟨[I by_], 1, false⟩)] 1 = some (.lsl 1 0 va3p1_0.length 2 none, [(0, ⟨[I by_], 1, false⟩), (1, ⟨va3p1_0.map S_Span.D, 2, false⟩)], 2) from zw [.rw 9 (I ((r.l.length : Nat) : Int)), .loop (.exit 0) (sd219 r by_ va3p1_0)] (And.intro (zX (q := yh r by_) (lp_ranges_each_3p1 r by_ r.l 0 (List.drop_zero) (Nat.zero_le _) (by omega)) h28) (And.intro (zG S_Span.D r) trivial)) (by kernel_rfl))
          cases h31 : zx (zf ze va3p1_0) 0 with
          | x0 va4p1_0 =>
            try dsimp only
            have hv_h31 := zH va3p1_0 (zf ze va3p1_0) (zf ze va3p1_0) 0 (List.drop_zero) (Nat.zero_le _) (by simp only [zr, GS.some_l, List.length_set, List.length_append, List.length_cons, List.length_nil] at * <;> first | with_reducible assumption | omega) (by simp only [zr, GS.some_l, List.length_set, List.length_append, List.length_cons, List.length_nil] at * <;> first | with_reducible assumption | omega)
            rw [h31] at hv_h31
            obtain ⟨hv_h31_0, hv_h31_1⟩ := hv_h31
            try dsimp only [zj] at hv_h31_0
            try dsimp only [zj] at hv_h31_1
            cases h32 : decide (((va4p1_0.length : Nat) : Int) > 64) with
            | true =>
              have g32 := of_decide_eq_true h32
              exact zq ((zZ r by_) ++ [.dec true, .inl (.lsl 1 0 va3p1_0.length 2 none) [(0, ⟨[I by_], 1, false⟩), (1, ⟨va3p1_0.map S_Span.D, 2, false⟩)] 2, .inlS [1] (.tup [.sl true [] 0 none, I 2]) [(1, ⟨(zf ze va3p1_0).map S_Span.D, 2, false⟩), (2, ⟨va4p1_0.map S_Span.D, 2, false⟩)] 3]) (And.intro (And.intro (show zc [(0, ⟨[I by_], 1, false⟩), (1, ⟨va3p1_0.map S_Span.D, 2, false⟩)] 256 [1] [] = some [1] from (by (simp only [zc, go_sem, List.length_set, Nat.reduceAdd, Nat.reduceEqDiff, Nat.reduceLT, Nat.reduceLeDiff, bI2, za.idsL, za.renL, za.snapAll, z6.idsL, z6.renL, z6.snapAll]) <;> rfl)) (show (lim cfg).inl 69 [.lsl 1 0 va3p1_0.length 2 none] [(1, ⟨va3p1_0.map S_Span.D, 2, false⟩)] 2 = some (.tup [.sl true [] 0 none, I 2], [(1, ⟨(zf ze va3p1_0).map S_Span.D, 2, false⟩), (2, ⟨va4p1_0.map S_Span.D, 2, false⟩)], 3) from zw [.inlS [1] (.tup []) [(1, ⟨(zf ze va3p1_0).map S_Span.D, 2, false⟩)] 2, .gloop (sd97 va3p1_0) (.exit 0) (sd98 va3p1_0 va4p1_0), .dec true] (And.intro h32 (And.intro (zX (q := zg va3p1_0 (zf ze va3p1_0)) (lp_ranges_gathered_4p1 va3p1_0 (zf ze va3p1_0) (zf ze va3p1_0) 0 (List.drop_zero) (Nat.zero_le _) (by simp only [zr, GS.some_l, List.length_set, List.length_append, List.length_cons, List.length_nil] at * <;> first | with_reducible assumption | omega) (by simp only [zr, GS.some_l, List.length_set, List.length_append, List.length_cons, List.length_nil] at * <;> first | with_reducible assumption | omega)) h31) (And.intro (gc_of (C := cfg) (f := 69) (a := lp69_4) (ks := [4, 10, 11, 12]) (st := (sd96 va3p1_0)) (st1 := (sd97 va3p1_0)) (by kernel_rfl) (by (simp only [sd96, sd97, go_sem, List.length_set, Nat.reduceAdd, Nat.reduceEqDiff, Nat.reduceLT, Nat.reduceLeDiff, bI2, za.idsL, za.renL, za.snapAll, z6.idsL, z6.renL, z6.snapAll]) <;> rfl)) (And.intro (And.intro (show zc [(1, ⟨va3p1_0.map S_Span.D, 2, false⟩)] 256 [1] [] = some [1] from (by (simp only [zc, go_sem, List.length_set, Nat.reduceAdd, Nat.reduceEqDiff, Nat.reduceLT, Nat.reduceLeDiff, bI2, za.idsL, za.renL, za.snapAll, z6.idsL, z6.renL, z6.snapAll]) <;> rfl)) (y8 1 2 none va3p1_0 (by omega))) trivial)))) (by kernel_rfl))) (And.intro p3 (And.intro h3 (And.intro p1 (And.intro h2 (And.intro (zG S_Span.D r) (And.intro h1 (And.intro (zt r (by omega)) trivial)))))))) (by kernel_rfl)
            | false =>
              have g32 := of_decide_eq_false h32
              exact po_pureS ((zZ r by_) ++ [.dec true, .inl (.lsl 1 0 va3p1_0.length 2 none) [(0, ⟨[I by_], 1, false⟩), (1, ⟨va3p1_0.map S_Span.D, 2, false⟩)] 2, .inlS [1] (.tup [.lsl 2 0 va4p1_0.length 2 none, I 0]) [(1, ⟨(zf ze va3p1_0).map S_Span.D, 2, false⟩), (2, ⟨va4p1_0.map S_Span.D, 2, false⟩)] 3]) [(2, .sl false (va4p1_0.map S_Span.D) 2 none, [2])] (And.intro (snap_row (gO := zv [(0, ⟨[I by_], 1, false⟩), (1, ⟨(zf ze va3p1_0).map S_Span.D, 2, false⟩), (2, ⟨va4p1_0.map S_Span.D, 2, false⟩)]) (o := 2) (len := va4p1_0.length) (cap := none) (fz := false) z6 va4p1_0 (by kernel_rfl) (by omega)) (And.intro (And.intro (show zc [(0, ⟨[I by_], 1, false⟩), (1, ⟨va3p1_0.map S_Span.D, 2, false⟩)] 256 [1] [] = some [1] from (by (simp only [zc, go_sem, List.length_set, Nat.reduceAdd, Nat.reduceEqDiff, Nat.reduceLT, Nat.reduceLeDiff, bI2, za.idsL, za.renL, za.snapAll, z6.idsL, z6.renL, z6.snapAll]) <;> rfl)) (show (lim cfg).inl 69 [.lsl 1 0 va3p1_0.length 2 none] [(1, ⟨va3p1_0.map S_Span.D, 2, false⟩)] 2 = some (.tup [.lsl 2 0 va4p1_0.length 2 none, I 0], [(1, ⟨(zf ze va3p1_0).map S_Span.D, 2, false⟩), (2, ⟨va4p1_0.map S_Span.D, 2, false⟩)], 3) from zw [.inlS [1] (.tup []) [(1, ⟨(zf ze va3p1_0).map S_Span.D, 2, false⟩)] 2, .gloop (sd97 va3p1_0) (.exit 0) (sd98 va3p1_0 va4p1_0), .dec false] (And.intro h32 (And.intro (zX (q := zg va3p1_0 (zf ze va3p1_0)) (lp_ranges_gathered_4p1 va3p1_0 (zf ze va3p1_0) (zf ze va3p1_0) 0 (List.drop_zero) (Nat.zero_le _) (by simp only [zr, GS.some_l, List.length_set, List.length_append, List.length_cons, List.length_nil] at * <;> first | with_reducible assumption | omega) (by simp only [zr, GS.some_l, List.length_set, List.length_append, List.length_cons, List.length_nil] at * <;> first | with_reducible assumption | omega)) h31) (And.intro (gc_of (C := cfg) (f := 69) (a := lp69_4) (ks := [4, 10, 11, 12]) (st := (sd96 va3p1_0)) (st1 := (sd97 va3p1_0)) (by kernel_rfl) (by (simp only [sd96, sd97, go_sem, List.length_set, Nat.reduceAdd, Nat.reduceEqDiff, Nat.reduceLT, Nat.reduceLeDiff, bI2, za.idsL, za.renL, za.snapAll, z6.idsL, z6.renL, z6.snapAll]) <;> rfl)) (And.intro (And.intro (show zc [(1, ⟨va3p1_0.map S_Span.D, 2, false⟩)] 256 [1] [] = some [1] from (by (simp only [zc, go_sem, List.length_set, Nat.reduceAdd, Nat.reduceEqDiff, Nat.reduceLT, Nat.reduceLeDiff, bI2, za.idsL, za.renL, za.snapAll, z6.idsL, z6.renL, z6.snapAll]) <;> rfl)) (y8 1 2 none va3p1_0 (by omega))) trivial)))) (by kernel_rfl))) (And.intro p3 (And.intro h3 (And.intro p1 (And.intro h2 (And.intro (zG S_Span.D r) (And.intro h1 (And.intro (zt r (by omega)) trivial))))))))) (by kernel_rfl)
          | x1 i4p1 x4p1 va4p1_0 =>
            try dsimp only
            have hv_h31 := zH va3p1_0 (zf ze va3p1_0) (zf ze va3p1_0) 0 (List.drop_zero) (Nat.zero_le _) (by simp only [zr, GS.some_l, List.length_set, List.length_append, List.length_cons, List.length_nil] at * <;> first | with_reducible assumption | omega) (by simp only [zr, GS.some_l, List.length_set, List.length_append, List.length_cons, List.length_nil] at * <;> first | with_reducible assumption | omega)
            rw [h31] at hv_h31
            obtain ⟨hv_h31_0, hv_h31_1⟩ := hv_h31
            try dsimp only [zj] at hv_h31_0
            try dsimp only [zj] at hv_h31_1
            exact zq ((zZ r by_) ++ [.dec true, .inl (.lsl 1 0 va3p1_0.length 2 none) [(0, ⟨[I by_], 1, false⟩), (1, ⟨va3p1_0.map S_Span.D, 2, false⟩)] 2, .inlS [1] (.tup [.sl true [] 0 none, I 2]) [(1, ⟨(zf ze va3p1_0).map S_Span.D, 2, false⟩), (2, ⟨va4p1_0.map S_Span.D, 2, false⟩), (3, ⟨[.agg [I x4p1.lo, I x4p1.hi]], 2, false⟩)] 4]) (And.intro (And.intro (show zc [(0, ⟨[I by_], 1, false⟩), (1, ⟨va3p1_0.map S_Span.D, 2, false⟩)] 256 [1] [] = some [1] from (by (simp only [zc, go_sem, List.length_set, Nat.reduceAdd, Nat.reduceEqDiff, Nat.reduceLT, Nat.reduceLeDiff, bI2, za.idsL, za.renL, za.snapAll, z6.idsL, z6.renL, z6.snapAll]) <;> rfl)) (show (lim cfg).inl 69 [.lsl 1 0 va3p1_0.length 2 none] [(1, ⟨va3p1_0.map S_Span.D, 2, false⟩)] 2 = some (.tup [.sl true [] 0 none, I 2], [(1, ⟨(zf ze va3p1_0).map S_Span.D, 2, false⟩), (2, ⟨va4p1_0.map S_Span.D, 2, false⟩), (3, ⟨[.agg [I x4p1.lo, I x4p1.hi]], 2, false⟩)], 4) from zw [.inlS [1] (.tup []) [(1, ⟨(zf ze va3p1_0).map S_Span.D, 2, false⟩)] 2, .gloop (sd97 va3p1_0) .ret (sd99 va3p1_0 va4p1_0 i4p1 x4p1)] (And.intro (zX (q := zg va3p1_0 (zf ze va3p1_0)) (lp_ranges_gathered_4p1 va3p1_0 (zf ze va3p1_0) (zf ze va3p1_0) 0 (List.drop_zero) (Nat.zero_le _) (by simp only [zr, GS.some_l, List.length_set, List.length_append, List.length_cons, List.length_nil] at * <;> first | with_reducible assumption | omega) (by simp only [zr, GS.some_l, List.length_set, List.length_append, List.length_cons, List.length_nil] at * <;> first | with_reducible assumption | omega)) h31) (And.intro (gc_of (C := cfg) (f := 69) (a := lp69_4) (ks := [4, 10, 11, 12]) (st := (sd96 va3p1_0)) (st1 := (sd97 va3p1_0)) (by kernel_rfl) (by (simp only [sd96, sd97, go_sem, List.length_set, Nat.reduceAdd, Nat.reduceEqDiff, Nat.reduceLT, Nat.reduceLeDiff, bI2, za.idsL, za.renL, za.snapAll, z6.idsL, z6.renL, z6.snapAll]) <;> rfl)) (And.intro (And.intro (show zc [(1, ⟨va3p1_0.map S_Span.D, 2, false⟩)] 256 [1] [] = some [1] from (by (simp only [zc, go_sem, List.length_set, Nat.reduceAdd, Nat.reduceEqDiff, Nat.reduceLT, Nat.reduceLeDiff, bI2, za.idsL, za.renL, za.snapAll, z6.idsL, z6.renL, z6.snapAll]) <;> rfl)) (y8 1 2 none va3p1_0 (by omega))) trivial))) (by kernel_rfl))) (And.intro p3 (And.intro h3 (And.intro p1 (And.intro h2 (And.intro (zG S_Span.D r) (And.intro h1 (And.intro (zt r (by omega)) trivial)))))))) (by kernel_rfl)
          | x2 i4p1 x4p1 va4p1_0 =>
            try dsimp only
            have hv_h31 := zH va3p1_0 (zf ze va3p1_0) (zf ze va3p1_0) 0 (List.drop_zero) (Nat.zero_le _) (by simp only [zr, GS.some_l, List.length_set, List.length_append, List.length_cons, List.length_nil] at * <;> first | with_reducible assumption | omega) (by simp only [zr, GS.some_l, List.length_set, List.length_append, List.length_cons, List.length_nil] at * <;> first | with_reducible assumption | omega)
            rw [h31] at hv_h31
            obtain ⟨hv_h31_0, hv_h31_1⟩ := hv_h31
            try dsimp only [zj] at hv_h31_0
            try dsimp only [zj] at hv_h31_1
            exact zq ((zZ r by_) ++ [.dec true, .inl (.lsl 1 0 va3p1_0.length 2 none) [(0, ⟨[I by_], 1, false⟩), (1, ⟨va3p1_0.map S_Span.D, 2, false⟩)] 2, .inlS [1] (.tup [.sl true [] 0 none, I 2]) [(1, ⟨(zf ze va3p1_0).map S_Span.D, 2, false⟩), (2, ⟨va4p1_0.map S_Span.D, 2, false⟩), (3, ⟨[.agg [I x4p1.lo, I x4p1.hi]], 2, false⟩)] 4]) (And.intro (And.intro (show zc [(0, ⟨[I by_], 1, false⟩), (1, ⟨va3p1_0.map S_Span.D, 2, false⟩)] 256 [1] [] = some [1] from (by (simp only [zc, go_sem, List.length_set, Nat.reduceAdd, Nat.reduceEqDiff, Nat.reduceLT, Nat.reduceLeDiff, bI2, za.idsL, za.renL, za.snapAll, z6.idsL, z6.renL, z6.snapAll]) <;> rfl)) (show (lim cfg).inl 69 [.lsl 1 0 va3p1_0.length 2 none] [(1, ⟨va3p1_0.map S_Span.D, 2, false⟩)] 2 = some (.tup [.sl true [] 0 none, I 2], [(1, ⟨(zf ze va3p1_0).map S_Span.D, 2, false⟩), (2, ⟨va4p1_0.map S_Span.D, 2, false⟩), (3, ⟨[.agg [I x4p1.lo, I x4p1.hi]], 2, false⟩)], 4) from zw [.inlS [1] (.tup []) [(1, ⟨(zf ze va3p1_0).map S_Span.D, 2, false⟩)] 2, .gloop (sd97 va3p1_0) .ret (sd100 va3p1_0 va4p1_0 i4p1 x4p1)] (And.intro (zX (q := zg va3p1_0 (zf ze va3p1_0)) (lp_ranges_gathered_4p1 va3p1_0 (zf ze va3p1_0) (zf ze va3p1_0) 0 (List.drop_zero) (Nat.zero_le _) (by simp only [zr, GS.some_l, List.length_set, List.length_append, List.length_cons, List.length_nil] at * <;> first | with_reducible assumption | omega) (by simp only [zr, GS.some_l, List.length_set, List.length_append, List.length_cons, List.length_nil] at * <;> first | with_reducible assumption | omega)) h31) (And.intro (gc_of (C := cfg) (f := 69) (a := lp69_4) (ks := [4, 10, 11, 12]) (st := (sd96 va3p1_0)) (st1 := (sd97 va3p1_0)) (by kernel_rfl) (by (simp only [sd96, sd97, go_sem, List.length_set, Nat.reduceAdd, Nat.reduceEqDiff, Nat.reduceLT, Nat.reduceLeDiff, bI2, za.idsL, za.renL, za.snapAll, z6.idsL, z6.renL, z6.snapAll]) <;> rfl)) (And.intro (And.intro (show zc [(1, ⟨va3p1_0.map S_Span.D, 2, false⟩)] 256 [1] [] = some [1] from (by (simp only [zc, go_sem, List.length_set, Nat.reduceAdd, Nat.reduceEqDiff, Nat.reduceLT, Nat.reduceLeDiff, bI2, za.idsL, za.renL, za.snapAll, z6.idsL, z6.renL, z6.snapAll]) <;> rfl)) (y8 1 2 none va3p1_0 (by omega))) trivial))) (by kernel_rfl))) (And.intro p3 (And.intro h3 (And.intro p1 (And.intro h2 (And.intro (zG S_Span.D r) (And.intro h1 (And.intro (zt r (by omega)) trivial)))))))) (by kernel_rfl)
          | x3 =>
            try dsimp only
            exact zq ((zZ r by_) ++ [.dec true, .inl (.lsl 1 0 va3p1_0.length 2 none) [(0, ⟨[I by_], 1, false⟩), (1, ⟨va3p1_0.map S_Span.D, 2, false⟩)] 2, .inlS [1] (.tup [.sl true [] 0 none, I 0]) [(1, ⟨(zf ze va3p1_0).map S_Span.D, 2, false⟩)] 2]) (And.intro (And.intro (show zc [(0, ⟨[I by_], 1, false⟩), (1, ⟨va3p1_0.map S_Span.D, 2, false⟩)] 256 [1] [] = some [1] from (by (simp only [zc, go_sem, List.length_set, Nat.reduceAdd, Nat.reduceEqDiff, Nat.reduceLT, Nat.reduceLeDiff, bI2, za.idsL, za.renL, za.snapAll, z6.idsL, z6.renL, z6.snapAll]) <;> rfl)) (show (lim cfg).inl 69 [.lsl 1 0 va3p1_0.length 2 none] [(1, ⟨va3p1_0.map S_Span.D, 2, false⟩)] 2 = some (.tup [.sl true [] 0 none, I 0], [(1, ⟨(zf ze va3p1_0).map S_Span.D, 2, false⟩)], 2) from zw [.inlS [1] (.tup []) [(1, ⟨(zf ze va3p1_0).map S_Span.D, 2, false⟩)] 2, .gloop (sd97 va3p1_0) (.exit 0) (sd101 va3p1_0), .dec false] (And.intro (Eq.refl false) (And.intro (zX (q := zg va3p1_0 (zf ze va3p1_0)) (lp_ranges_gathered_4p1 va3p1_0 (zf ze va3p1_0) (zf ze va3p1_0) 0 (List.drop_zero) (Nat.zero_le _) (by simp only [zr, GS.some_l, List.length_set, List.length_append, List.length_cons, List.length_nil] at * <;> first | with_reducible assumption | omega) (by simp only [zr, GS.some_l, List.length_set, List.length_append, List.length_cons, List.length_nil] at * <;> first | with_reducible assumption | omega)) h31) (And.intro (gc_of (C := cfg) (f := 69) (a := lp69_4) (ks := [4, 10, 11, 12]) (st := (sd96 va3p1_0)) (st1 := (sd97 va3p1_0)) (by kernel_rfl) (by (simp only [sd96, sd97, go_sem, List.length_set, Nat.reduceAdd, Nat.reduceEqDiff, Nat.reduceLT, Nat.reduceLeDiff, bI2, za.idsL, za.renL, za.snapAll, z6.idsL, z6.renL, z6.snapAll]) <;> rfl)) (And.intro (And.intro (show zc [(1, ⟨va3p1_0.map S_Span.D, 2, false⟩)] 256 [1] [] = some [1] from (by (simp only [zc, go_sem, List.length_set, Nat.reduceAdd, Nat.reduceEqDiff, Nat.reduceLT, Nat.reduceLeDiff, bI2, za.idsL, za.renL, za.snapAll, z6.idsL, z6.renL, z6.snapAll]) <;> rfl)) (y8 1 2 none va3p1_0 (by omega))) trivial)))) (by kernel_rfl))) (And.intro p3 (And.intro h3 (And.intro p1 (And.intro h2 (And.intro (zG S_Span.D r) (And.intro h1 (And.intro (zt r (by omega)) trivial)))))))) (by kernel_rfl)
          | x4 i4p1 x4p1 =>
            try dsimp only
            exact zq ((zZ r by_) ++ [.dec true, .inl (.lsl 1 0 va3p1_0.length 2 none) [(0, ⟨[I by_], 1, false⟩), (1, ⟨va3p1_0.map S_Span.D, 2, false⟩)] 2, .inlS [1] (.tup [.sl true [] 0 none, I 2]) [(1, ⟨(zf ze va3p1_0).map S_Span.D, 2, false⟩), (2, ⟨[.agg [I x4p1.lo, I x4p1.hi]], 2, false⟩)] 3]) (And.intro (And.intro (show zc [(0, ⟨[I by_], 1, false⟩), (1, ⟨va3p1_0.map S_Span.D, 2, false⟩)] 256 [1] [] = some [1] from (by (simp only [zc, go_sem, List.length_set, Nat.reduceAdd, Nat.reduceEqDiff, Nat.reduceLT, Nat.reduceLeDiff, bI2, za.idsL, za.renL, za.snapAll, z6.idsL, z6.renL, z6.snapAll]) <;> rfl)) (show (lim cfg).inl 69 [.lsl 1 0 va3p1_0.length 2 none] [(1, ⟨va3p1_0.map S_Span.D, 2, false⟩)] 2 = some (.tup [.sl true [] 0 none, I 2], [(1, ⟨(zf ze va3p1_0).map S_Span.D, 2, false⟩), (2, ⟨[.agg [I x4p1.lo, I x4p1.hi]], 2, false⟩)], 3) from zw [.inlS [1] (.tup []) [(1, ⟨(zf ze va3p1_0).map S_Span.D, 2, false⟩)] 2, .gloop (sd97 va3p1_0) .ret (sd102 va3p1_0 i4p1 x4p1)] (And.intro (zX (q := zg va3p1_0 (zf ze va3p1_0)) (lp_ranges_gathered_4p1 va3p1_0 (zf ze va3p1_0) (zf ze va3p1_0) 0 (List.drop_zero) (Nat.zero_le _) (by simp only [zr, GS.some_l, List.length_set, List.length_append, List.length_cons, List.length_nil] at * <;> first | with_reducible assumption | omega) (by simp only [zr, GS.some_l, List.length_set, List.length_append, List.length_cons, List.length_nil] at * <;> first | with_reducible assumption | omega)) h31) (And.intro (gc_of (C := cfg) (f := 69) (a := lp69_4) (ks := [4, 10, 11, 12]) (st := (sd96 va3p1_0)) (st1 := (sd97 va3p1_0)) (by kernel_rfl) (by (simp only [sd96, sd97, go_sem, List.length_set, Nat.reduceAdd, Nat.reduceEqDiff, Nat.reduceLT, Nat.reduceLeDiff, bI2, za.idsL, za.renL, za.snapAll, z6.idsL, z6.renL, z6.snapAll]) <;> rfl)) (And.intro (And.intro (show zc [(1, ⟨va3p1_0.map S_Span.D, 2, false⟩)] 256 [1] [] = some [1] from (by (simp only [zc, go_sem, List.length_set, Nat.reduceAdd, Nat.reduceEqDiff, Nat.reduceLT, Nat.reduceLeDiff, bI2, za.idsL, za.renL, za.snapAll, z6.idsL, z6.renL, z6.snapAll]) <;> rfl)) (y8 1 2 none va3p1_0 (by omega))) trivial))) (by kernel_rfl))) (And.intro p3 (And.intro h3 (And.intro p1 (And.intro h2 (And.intro (zG S_Span.D r) (And.intro h1 (And.intro (zt r (by omega)) trivial)))))))) (by kernel_rfl)
          | x5 i4p1 x4p1 =>
            try dsimp only
            exact zq ((zZ r by_) ++ [.dec true, .inl (.lsl 1 0 va3p1_0.length 2 none) [(0, ⟨[I by_], 1, false⟩), (1, ⟨va3p1_0.map S_Span.D, 2, false⟩)] 2, .inlS [1] (.tup [.sl true [] 0 none, I 2]) [(1, ⟨(zf ze va3p1_0).map S_Span.D, 2, false⟩), (2, ⟨[.agg [I x4p1.lo, I x4p1.hi]], 2, false⟩)] 3]) (And.intro (And.intro (show zc [(0, ⟨[I by_], 1, false⟩), (1, ⟨va3p1_0.map S_Span.D, 2, false⟩)] 256 [1] [] = some [1] from (by (simp only [zc, go_sem, List.length_set, Nat.reduceAdd, Nat.reduceEqDiff, Nat.reduceLT, Nat.reduceLeDiff, bI2, za.idsL, za.renL, za.snapAll, z6.idsL, z6.renL, z6.snapAll]) <;> rfl)) (show (lim cfg).inl 69 [.lsl 1 0 va3p1_0.length 2 none] [(1, ⟨va3p1_0.map S_Span.D, 2, false⟩)] 2 = some (.tup [.sl true [] 0 none, I 2], [(1, ⟨(zf ze va3p1_0).map S_Span.D, 2, false⟩), (2, ⟨[.agg [I x4p1.lo, I x4p1.hi]], 2, false⟩)], 3) from zw [.inlS [1] (.tup []) [(1, ⟨(zf ze va3p1_0).map S_Span.D, 2, false⟩)] 2, .gloop (sd97 va3p1_0) .ret (sd103 va3p1_0 i4p1 x4p1)] (And.intro (zX (q := zg va3p1_0 (zf ze va3p1_0)) (lp_ranges_gathered_4p1 va3p1_0 (zf ze va3p1_0) (zf ze va3p1_0) 0 (List.drop_zero) (Nat.zero_le _) (by simp only [zr, GS.some_l, List.length_set, List.length_append, List.length_cons, List.length_nil] at * <;> first | with_reducible assumption | omega) (by simp only [zr, GS.some_l, List.length_set, List.length_append, List.length_cons, List.length_nil] at * <;> first | with_reducible assumption | omega)) h31) (And.intro (gc_of (C := cfg) (f := 69) (a := lp69_4) (ks := [4, 10, 11, 12]) (st := (sd96 va3p1_0)) (st1 := (sd97 va3p1_0)) (by kernel_rfl) (by (simp only [sd96, sd97, go_sem, List.length_set, Nat.reduceAdd, Nat.reduceEqDiff, Nat.reduceLT, Nat.reduceLeDiff, bI2, za.idsL, za.renL, za.snapAll, z6.idsL, z6.renL, z6.snapAll]) <;> rfl)) (And.intro (And.intro (show zc [(1, ⟨va3p1_0.map S_Span.D, 2, false⟩)] 256 [1] [] = some [1] from (by (simp only [zc, go_sem, List.length_set, Nat.reduceAdd, Nat.reduceEqDiff, Nat.reduceLT, Nat.reduceLeDiff, bI2, za.idsL, za.renL, za.snapAll, z6.idsL, z6.renL, z6.snapAll]) <;> rfl)) (y8 1 2 none va3p1_0 (by omega))) trivial))) (by kernel_rfl))) (And.intro p3 (And.intro h3 (And.intro p1 (And.intro h2 (And.intro (zG S_Span.D r) (And.intro h1 (And.intro (zt r (by omega)) trivial)))))))) (by kernel_rfl)
        | x2 =>
          try dsimp only
          exact zq ((zZ r by_) ++ [.dec true, .inl (.sl true [] 0 none) [(0, ⟨[I by_], 1, true⟩)] 1, .inl (.tup [.sl true [] 0 none, I 0]) [] 1]) (And.intro (show (lim cfg).inl 69 [.sl true [] 0 none] [] 1 = some (.tup [.sl true [] 0 none, I 0], [], 1) from zw [.inl (.tup []) [] 1, .loop (.exit 0) ⟨65, [(13, B false), (4, .sl true [] 0 none), (10, .sl true [] 0 none), (11, I 0), (12, I 0)], [], 1, 1⟩, .dec false] (And.intro (Eq.refl false) (And.intro (show (lim cfg).loop 69 lp69_4 ⟨65, [(4, .sl true [] 0 none), (10, .sl true [] 0 none), (11, I 0), (12, I 0)], [], 1, 1⟩ = some ((.exit 0), ⟨65, [(13, B false), (4, .sl true [] 0 none), (10, .sl true [] 0 none), (11, I 0), (12, I 0)], [], 1, 1⟩) from (zS [.dec false] (And.intro (Eq.refl false) trivial) (by kernel_rfl))) (And.intro (T_sort_nil 1) trivial))) (by kernel_rfl)) (And.intro (show (lim cfg).inl 70 [.sl r.nl (r.l.map S_Span.D) (zsl r.nl 2) none, .fn (.func 85) [] [.lref 0 0 1 0]] [(0, ⟨[I by_], 1, false⟩)] 1 = some (.sl true [] 0 none, [(0, ⟨[I by_], 1, true⟩)], 1) from zw [.rw 9 (I ((r.l.length : Nat) : Int)), .loop (.exit 0) (sd220 r by_)] (And.intro (zX (q := yh r by_) (lp_ranges_each_3p1 r by_ r.l 0 (List.drop_zero) (Nat.zero_le _) (by omega)) h28) (And.intro (zG S_Span.D r) trivial)) (by kernel_rfl)) (And.intro h3 (And.intro p1 (And.intro h2 (And.intro (zG S_Span.D r) (And.intro h1 (And.intro (zt r (by omega)) trivial)))))))) (by kernel_rfl)
        | x3 =>
          try dsimp only
          exact zq ((zZ r by_) ++ [.dec true, .inl (.sl true [] 0 none) [(0, ⟨[I by_], 1, false⟩)] 1, .inl (.tup [.sl true [] 0 none, I 0]) [] 1]) (And.intro (show (lim cfg).inl 69 [.sl true [] 0 none] [] 1 = some (.tup [.sl true [] 0 none, I 0], [], 1) from zw [.inl (.tup []) [] 1, .loop (.exit 0) ⟨65, [(13, B false), (4, .sl true [] 0 none), (10, .sl true [] 0 none), (11, I 0), (12, I 0)], [], 1, 1⟩, .dec false] (And.intro (Eq.refl false) (And.intro (show (lim cfg).loop 69 lp69_4 ⟨65, [(4, .sl true [] 0 none), (10, .sl true [] 0 none), (11, I 0), (12, I 0)], [], 1, 1⟩ = some ((.exit 0), ⟨65, [(13, B false), (4, .sl true [] 0 none), (10, .sl true [] 0 none), (11, I 0), (12, I 0)], [], 1, 1⟩) from (zS [.dec false] (And.intro (Eq.refl false) trivial) (by kernel_rfl))) (And.intro (T_sort_nil 1) trivial))) (by kernel_rfl)) (And.intro (show (lim cfg).inl 70 [.sl r.nl (r.l.map S_Span.D) (zsl r.nl 2) none, .fn (.func 85) [] [.lref 0 0 1 0]] [(0, ⟨[I by_], 1, false⟩)] 1 = some (.sl true [] 0 none, [(0, ⟨[I by_], 1, false⟩)], 1) from zw [.rw 9 (I ((r.l.length : Nat) : Int)), .loop (.exit 0) (sd221 r by_)] (And.intro (zX (q := yh r by_) (lp_ranges_each_3p1 r by_ r.l 0 (List.drop_zero) (Nat.zero_le _) (by omega)) h28) (And.intro (zG S_Span.D r) trivial)) (by kernel_rfl)) (And.intro h3 (And.intro p1 (And.intro h2 (And.intro (zG S_Span.D r) (And.intro h1 (And.intro (zt r (by omega)) trivial)))))))) (by kernel_rfl)
      | false =>
        exact zq ((zZ r by_) ++ [.dec false]) (And.intro h3 (And.intro p1 (And.intro h2 (And.intro (zG S_Span.D r) (And.intro h1 (And.intro (zt r (by omega)) trivial)))))) (by kernel_rfl)
    | false =>
      have g2 := of_decide_eq_false h2
      cases h33 : ya by_ r.l with
      | x0 vc3p1_0 =>
        try dsimp only
        have hv_h33 := ivt_ranges_each_3p1 r by_ r.l 0 (List.drop_zero) (Nat.zero_le _) (by omega)
        rw [h33] at hv_h33
        have hv_h33_0 := hv_h33
        try dsimp only [iv_ranges_each_3p1] at hv_h33_0
        have p4 := (show (lim cfg).inl 70 [.sl r.nl (r.l.map S_Span.D) (zsl r.nl 2) none, .fn (.func 85) [] [.lref 0 0 1 0]] [(0, ⟨[I by_], 1, false⟩)] 1 = some (.lsl 1 0 vc3p1_0.length 2 none, [(0, ⟨[I by_], 1, true⟩), (1, ⟨vc3p1_0.map S_Span.D, 2, false⟩)], 2) from zw [.rw 9 (I ((r.l.length : Nat) : Int)), .loop (.exit 0) (sd210 r by_ vc3p1_0)] (And.intro (zX (q := yh r by_) (lp_ranges_each_3p1 r by_ r.l 0 (List.drop_zero) (Nat.zero_le _) (by omega)) h33) (And.intro (zG S_Span.D r) trivial)) (by kernel_rfl))
        cases h34 : zx (zf ze vc3p1_0) 0 with
        | x0 va4p1_0 =>
          try dsimp only
          have hv_h34 := zH vc3p1_0 (zf ze vc3p1_0) (zf ze vc3p1_0) 0 (List.drop_zero) (Nat.zero_le _) (by simp only [zr, GS.some_l, List.length_set, List.length_append, List.length_cons, List.length_nil] at * <;> first | with_reducible assumption | omega) (by simp only [zr, GS.some_l, List.length_set, List.length_append, List.length_cons, List.length_nil] at * <;> first | with_reducible assumption | omega)
          rw [h34] at hv_h34
          obtain ⟨hv_h34_0, hv_h34_1⟩ := hv_h34
          try dsimp only [zj] at hv_h34_0
          try dsimp only [zj] at hv_h34_1
          cases h35 : decide (((va4p1_0.length : Nat) : Int) > 64) with
          | true =>
            have g35 := of_decide_eq_true h35
            exact zq ((ranges_Shift_o2 r by_ vc3p1_0) ++ [.inlS [1] (.tup [.sl true [] 0 none, I 2]) [(1, ⟨(zf ze vc3p1_0).map S_Span.D, 2, false⟩), (2, ⟨va4p1_0.map S_Span.D, 2, false⟩)] 3]) (And.intro (And.intro (show zc [(0, ⟨[I by_], 1, true⟩), (1, ⟨vc3p1_0.map S_Span.D, 2, false⟩)] 256 [1] [] = some [1] from (by (simp only [zc, go_sem, List.length_set, Nat.reduceAdd, Nat.reduceEqDiff, Nat.reduceLT, Nat.reduceLeDiff, bI2, za.idsL, za.renL, za.snapAll, z6.idsL, z6.renL, z6.snapAll]) <;> rfl)) (show (lim cfg).inl 69 [.lsl 1 0 vc3p1_0.length 2 none] [(1, ⟨vc3p1_0.map S_Span.D, 2, false⟩)] 2 = some (.tup [.sl true [] 0 none, I 2], [(1, ⟨(zf ze vc3p1_0).map S_Span.D, 2, false⟩), (2, ⟨va4p1_0.map S_Span.D, 2, false⟩)], 3) from zw [.inlS [1] (.tup []) [(1, ⟨(zf ze vc3p1_0).map S_Span.D, 2, false⟩)] 2, .gloop (sd212 vc3p1_0) (.exit 0) (sd213 vc3p1_0 va4p1_0), .dec true] (And.intro h35 (And.intro (zX (q := zg vc3p1_0 (zf ze vc3p1_0)) (lp_ranges_gathered_4p1 vc3p1_0 (zf ze vc3p1_0) (zf ze vc3p1_0) 0 (List.drop_zero) (Nat.zero_le _) (by simp only [zr, GS.some_l, List.length_set, List.length_append, List.length_cons, List.length_nil] at * <;> first | with_reducible assumption | omega) (by simp only [zr, GS.some_l, List.length_set, List.length_append, List.length_cons, List.length_nil] at * <;> first | with_reducible assumption | omega)) h34) (And.intro (gc_of (C := cfg) (f := 69) (a := lp69_4) (ks := [4, 10, 11, 12]) (st := (sd211 vc3p1_0)) (st1 := (sd212 vc3p1_0)) (by kernel_rfl) (by (simp only [sd211, sd212, go_sem, List.length_set, Nat.reduceAdd, Nat.reduceEqDiff, Nat.reduceLT, Nat.reduceLeDiff, bI2, za.idsL, za.renL, za.snapAll, z6.idsL, z6.renL, z6.snapAll]) <;> rfl)) (And.intro (And.intro (show zc [(1, ⟨vc3p1_0.map S_Span.D, 2, false⟩)] 256 [1] [] = some [1] from (by (simp only [zc, go_sem, List.length_set, Nat.reduceAdd, Nat.reduceEqDiff, Nat.reduceLT, Nat.reduceLeDiff, bI2, za.idsL, za.renL, za.snapAll, z6.idsL, z6.renL, z6.snapAll]) <;> rfl)) (y8 1 2 none vc3p1_0 (by omega))) trivial)))) (by kernel_rfl))) (And.intro p4 (And.intro h2 (And.intro (zG S_Span.D r) (And.intro h1 (And.intro (zt r (by omega)) trivial)))))) (by kernel_rfl)
          | false =>
            have g35 := of_decide_eq_false h35
            exact po_pureS ((ranges_Shift_o2 r by_ vc3p1_0) ++ [.inlS [1] (.tup [.lsl 2 0 va4p1_0.length 2 none, I 0]) [(1, ⟨(zf ze vc3p1_0).map S_Span.D, 2, false⟩), (2, ⟨va4p1_0.map S_Span.D, 2, false⟩)] 3]) [(2, .sl false (va4p1_0.map S_Span.D) 2 none, [2])] (And.intro (snap_row (gO := zv [(0, ⟨[I by_], 1, true⟩), (1, ⟨(zf ze vc3p1_0).map S_Span.D, 2, false⟩), (2, ⟨va4p1_0.map S_Span.D, 2, false⟩)]) (o := 2) (len := va4p1_0.length) (cap := none) (fz := false) z6 va4p1_0 (by kernel_rfl) (by omega)) (And.intro (And.intro (show zc [(0, ⟨[I by_], 1, true⟩), (1, ⟨vc3p1_0.map S_Span.D, 2, false⟩)] 256 [1] [] = some [1] from (by (simp only [zc, go_sem, List.length_set, Nat.reduceAdd, Nat.reduceEqDiff, Nat.reduceLT, Nat.reduceLeDiff, bI2, za.idsL, za.renL, za.snapAll, z6.idsL, z6.renL, z6.snapAll]) <;> rfl)) (show (lim cfg).inl 69 [.lsl 1 0 vc3p1_0.length 2 none] [(1, ⟨vc3p1_0.map S_Span.D, 2, false⟩)] 2 = some (.tup [.lsl 2 0 va4p1_0.length 2 none, I 0], [(1, ⟨(zf ze vc3p1_0).map S_Span.D, 2, false⟩), (2, ⟨va4p1_0.map S_Span.D, 2, false⟩)], 3) from zw [.inlS [1] (.tup []) [(1, ⟨(zf ze vc3p1_0).map S_Span.D, 2, false⟩)] 2, .gloop (sd212 vc3p1_0) (.exit 0) (sd213 vc3p1_0 va4p1_0), .dec false] (And.intro h35 (And.intro (zX (q := zg vc3p1_0 (zf ze vc3p1_0)) (lp_ranges_gathered_4p1 vc3p1_0 (zf ze vc3p1_0) (zf ze vc3p1_0) 0 (List.drop_zero) (Nat.zero_le _) (by simp only [zr, GS.some_l, List.length_set, List.length_append, List.length_cons, List.length_nil] at * <;> first | with_reducible assumption | omega) (by simp only [zr, GS.some_l, List.length_set, List.length_append, List.length_cons, List.length_nil] at * <;> first | with_reducible assumption | omega)) h34) (And.intro (gc_of (C := cfg) (f := 69) (a := lp69_4) (ks := [4, 10, 11, 12]) (st := (sd211 vc3p1_0)) (st1 := (sd212 vc3p1_0)) (by kernel_rfl) (by (simp only [sd211, sd212, go_sem, List.length_set, Nat.reduceAdd, Nat.reduceEqDiff, Nat.reduceLT, Nat.reduceLeDiff, bI2, za.idsL, za.renL, za.snapAll, z6.idsL, z6.renL, z6.snapAll]) <;> rfl)) (And.intro (And.intro (show zc [(1, ⟨vc3p1_0.map S_Span.D, 2, false⟩)] 256 [1] [] = some [1] from (by (simp only [zc, go_sem, List.length_set, Nat.reduceAdd, Nat.reduceEqDiff, Nat.reduceLT, Nat.reduceLeDiff, bI2, za.idsL, za.renL, za.snapAll, z6.idsL, z6.renL, z6.snapAll]) <;> rfl)) (y8 1 2 none vc3p1_0 (by omega))) trivial)))) (by kernel_rfl))) (And.intro p4 (And.intro h2 (And.intro (zG S_Span.D r) (And.intro h1 (And.intro (zt r (by omega)) trivial))))))) (by kernel_rfl)
        | x1 i4p1 x4p1 va4p1_0 =>
          try dsimp only
          have hv_h34 := zH vc3p1_0 (zf ze vc3p1_0) (zf ze vc3p1_0) 0 (List.drop_zero) (Nat.zero_le _) (by simp only [zr, GS.some_l, List.length_set, List.length_append, List.length_cons, List.length_nil] at * <;> first | with_reducible assumption | omega) (by simp only [zr, GS.some_l, List.length_set, List.length_append, List.length_cons, List.length_nil] at * <;> first | with_reducible assumption | omega)
          rw [h34] at hv_h34
          obtain ⟨hv_h34_0, hv_h34_1⟩ := hv_h34
          try dsimp only [zj] at hv_h34_0
          try dsimp only [zj] at hv_h34_1
          exact zq ((ranges_Shift_o2 r by_ vc3p1_0) ++ [.inlS [1] (.tup [.sl true [] 0 none, I 2]) [(1, ⟨(zf ze vc3p1_0).map S_Span.D, 2, false⟩), (2, ⟨va4p1_0.map S_Span.D, 2, false⟩), (3, ⟨[.agg [I x4p1.lo, I x4p1.hi]], 2, false⟩)] 4]) (And.intro (And.intro (show zc [(0, ⟨[I by_], 1, true⟩), (1, ⟨vc3p1_0.map S_Span.D, 2, false⟩)] 256 [1] [] = some [1] from (by (simp only [zc, go_sem, List.length_set, Nat.reduceAdd, Nat.reduceEqDiff, Nat.reduceLT, Nat.reduceLeDiff, bI2, za.idsL, za.renL, za.snapAll, z6.idsL, z6.renL, z6.snapAll]) <;> rfl)) (show (lim cfg).inl 69 [.lsl 1 0 vc3p1_0.length 2 none] [(1, ⟨vc3p1_0.map S_Span.D, 2, false⟩)] 2 = some (.tup [.sl true [] 0 none, I 2], [(1, ⟨(zf ze vc3p1_0).map S_Span.D, 2, false⟩), (2, ⟨va4p1_0.map S_Span.D, 2, false⟩), (3, ⟨[.agg [I x4p1.lo, I x4p1.hi]], 2, false⟩)], 4) from zw [.inlS [1] (.tup []) [(1, ⟨(zf ze vc3p1_0).map S_Span.D, 2, false⟩)] 2, .gloop (sd212 vc3p1_0) .ret (sd214 vc3p1_0 va4p1_0 i4p1 x4p1)] (And.intro (zX (q := zg vc3p1_0 (zf ze vc3p1_0)) (lp_ranges_gathered_4p1 vc3p1_0 (zf ze vc3p1_0) (zf ze vc3p1_0) 0 (List.drop_zero) (Nat.zero_le _) (by simp only [zr, GS.some_l, List.length_set, List.length_append, List.length_cons, List.length_nil] at * <;> first | with_reducible assumption | omega) (by simp only [zr, GS.some_l, List.length_set, List.length_append, List.length_cons, List.length_nil] at * <;> first | with_reducible assumption | omega)) h34) (And.intro (gc_of (C := cfg) (f := 69) (a := lp69_4) (ks := [4, 10, 11, 12]) (st := (sd211 vc3p1_0)) (st1 := (sd212 vc3p1_0)) (by kernel_rfl) (by (simp only [sd211, sd212, go_sem, List.length_set, Nat.reduceAdd, Nat.reduceEqDiff, Nat.reduceLT, Nat.reduceLeDiff, bI2, za.idsL, za.renL, za.snapAll, z6.idsL, z6.renL, z6.snapAll]) <;> rfl)) (And.intro (And.intro (show zc [(1, ⟨vc3p1_0.map S_Span.D, 2, false⟩)] 256 [1] [] = some [1] from (by (simp only [zc, go_sem, List.length_set, Nat.reduceAdd, Nat.reduceEqDiff, Nat.reduceLT, Nat.reduceLeDiff, bI2, za.idsL, za.renL, za.snapAll, z6.idsL, z6.renL, z6.snapAll]) <;> rfl)) (y8 1 2 none vc3p1_0 (by omega))) trivial))) (by kernel_rfl))) (And.intro p4 (And.intro h2 (And.intro (zG S_Span.D r) (And.intro h1 (And.intro (zt r (by omega)) trivial)))))) (by kernel_rfl)
        | x2 i4p1 x4p1 va4p1_0 =>
          try dsimp only
          have hv_h34 := zH vc3p1_0 (zf ze vc3p1_0) (zf ze vc3p1_0) 0 (List.drop_zero) (Nat.zero_le _) (by simp only [zr, GS.some_l, List.length_set, List.length_append, List.length_cons, List.length_nil] at * <;> first | with_reducible assumption | omega) (by simp only [zr, GS.some_l, List.length_set, List.length_append, List.length_cons, List.length_nil] at * <;> first | with_reducible assumption | omega)
          rw [h34] at hv_h34
          obtain ⟨hv_h34_0, hv_h34_1⟩ := hv_h34
          try dsimp only [zj] at hv_h34_0
          try dsimp only [zj] at hv_h34_1
          exact zq ((ranges_Shift_o2 r by_ vc3p1_0) ++ [.inlS [1] (.tup [.sl true [] 0 none, I 2]) [(1, ⟨(zf ze vc3p1_0).map S_Span.D, 2, false⟩), (2, ⟨va4p1_0.map S_Span.D, 2, false⟩), (3, ⟨[.agg [I x4p1.lo, I x4p1.hi]], 2, false⟩)] 4]) (And.intro (And.intro (show zc [(0, ⟨[I by_], 1, true⟩), (1, ⟨vc3p1_0.map S_Span.D, 2, false⟩)] 256 [1] [] = some [1] from (by (simp only [zc, go_sem, List.length_set, Nat.reduceAdd, Nat.reduceEqDiff, Nat.reduceLT, Nat.reduceLeDiff, bI2, za.idsL, za.renL, za.snapAll, z6.idsL, z6.renL, z6.snapAll]) <;> rfl)) (show (lim cfg).inl 69 [.lsl 1 0 vc3p1_0.length 2 none] [(1, ⟨vc3p1_0.map S_Span.D, 2, false⟩)] 2 = some (.tup [.sl true [] 0 none, I 2], [(1, ⟨(zf ze vc3p1_0).map S_Span.D, 2, false⟩), (2, ⟨va4p1_0.map S_Span.D, 2, false⟩), (3, ⟨[.agg [I x4p1.lo, I x4p1.hi]], 2, false⟩)], 4) from zw [.inlS [1] (.tup []) [(1, ⟨(zf ze vc3p1_0).map S_Span.D, 2, false⟩)] 2, .gloop (sd212 vc3p1_0) .ret (sd215 vc3p1_0 va4p1_0 i4p1 x4p1)] (And.intro (zX (q := zg vc3p1_0 (zf ze vc3p1_0)) (lp_ranges_gathered_4p1 vc3p1_0 (zf ze vc3p1_0) (zf ze vc3p1_0) 0 (List.drop_zero) (Nat.zero_le _) (by simp only [zr, GS.some_l, List.length_set, List.length_append, List.length_cons, List.length_nil] at * <;> first | with_reducible assumption | omega) (by simp only [zr, GS.some_l, List.length_set, List.length_append, List.length_cons, List.length_nil] at * <;> first | with_reducible assumption | omega)) h34) (And.intro (gc_of (C := cfg) (f := 69) (a := lp69_4) (ks := [4, 10, 11, 12]) (st := (sd211 vc3p1_0)) (st1 := (sd212 vc3p1_0)) (by kernel_rfl) (by (simp only [sd211, sd212, go_sem, List.length_set, Nat.reduceAdd, Nat.reduceEqDiff, Nat.reduceLT, Nat.reduceLeDiff, bI2, za.idsL, za.renL, za.snapAll, z6.idsL, z6.renL, z6.snapAll]) <;> rfl)) (And.intro (And.intro (show zc [(1, ⟨vc3p1_0.map S_Span.D, 2, false⟩)] 256 [1] [] = some [1] from (by (simp only [zc, go_sem, List.length_set, Nat.reduceAdd, Nat.reduceEqDiff, Nat.reduceLT, Nat.reduceLeDiff, bI2, za.idsL, za.renL, za.snapAll, z6.idsL, z6.renL, z6.snapAll]) <;> rfl)) (y8 1 2 none vc3p1_0 (by omega))) trivial))) (by kernel_rfl))) (And.intro p4 (And.intro h2 (And.intro (zG S_Span.D r) (And.intro h1 (And.intro (zt r (by omega)) trivial)))))) (by kernel_rfl)
        | x3 =>
          try dsimp only
          exact zq ((ranges_Shift_o2 r by_ vc3p1_0) ++ [.inlS [1] (.tup [.sl true [] 0 none, I 0]) [(1, ⟨(zf ze vc3p1_0).map S_Span.D, 2, false⟩)] 2]) (And.intro (And.intro (show zc [(0, ⟨[I by_], 1, true⟩), (1, ⟨vc3p1_0.map S_Span.D, 2, false⟩)] 256 [1] [] = some [1] from (by (simp only [zc, go_sem, List.length_set, Nat.reduceAdd, Nat.reduceEqDiff, Nat.reduceLT, Nat.reduceLeDiff, bI2, za.idsL, za.renL, za.snapAll, z6.idsL, z6.renL, z6.snapAll]) <;> rfl)) (show (lim cfg).inl 69 [.lsl 1 0 vc3p1_0.length 2 none] [(1, ⟨vc3p1_0.map S_Span.D, 2, false⟩)] 2 = some (.tup [.sl true [] 0 none, I 0], [(1, ⟨(zf ze vc3p1_0).map S_Span.D, 2, false⟩)], 2) from zw [.inlS [1] (.tup []) [(1, ⟨(zf ze vc3p1_0).map S_Span.D, 2, false⟩)] 2, .gloop (sd212 vc3p1_0) (.exit 0) (sd216 vc3p1_0), .dec false] (And.intro (Eq.refl false) (And.intro (zX (q := zg vc3p1_0 (zf ze vc3p1_0)) (lp_ranges_gathered_4p1 vc3p1_0 (zf ze vc3p1_0) (zf ze vc3p1_0) 0 (List.drop_zero) (Nat.zero_le _) (by simp only [zr, GS.some_l, List.length_set, List.length_append, List.length_cons, List.length_nil] at * <;> first | with_reducible assumption | omega) (by simp only [zr, GS.some_l, List.length_set, List.length_append, List.length_cons, List.length_nil] at * <;> first | with_reducible assumption | omega)) h34) (And.intro (gc_of (C := cfg) (f := 69) (a := lp69_4) (ks := [4, 10, 11, 12]) (st := (sd211 vc3p1_0)) (st1 := (sd212 vc3p1_0)) (by kernel_rfl) (by (simp only [sd211, sd212, go_sem, List.length_set, Nat.reduceAdd, Nat.reduceEqDiff, Nat.reduceLT, Nat.reduceLeDiff, bI2, za.idsL, za.renL, za.snapAll, z6.idsL, z6.renL, z6.snapAll]) <;> rfl)) (And.intro (And.intro (show zc [(1, ⟨vc3p1_0.map S_Span.D, 2, false⟩)] 256 [1] [] = some [1] from (by (simp only [zc, go_sem, List.length_set, Nat.reduceAdd, Nat.reduceEqDiff, Nat.reduceLT, Nat.reduceLeDiff, bI2, za.idsL, za.renL, za.snapAll, z6.idsL, z6.renL, z6.snapAll]) <;> rfl)) (y8 1 2 none vc3p1_0 (by omega))) trivial)))) (by kernel_rfl))) (And.intro p4 (And.intro h2 (And.intro (zG S_Span.D r) (And.intro h1 (And.intro (zt r (by omega)) trivial)))))) (by kernel_rfl)
        | x4 i4p1 x4p1 =>
          try dsimp only
          exact zq ((ranges_Shift_o2 r by_ vc3p1_0) ++ [.inlS [1] (.tup [.sl true [] 0 none, I 2]) [(1, ⟨(zf ze vc3p1_0).map S_Span.D, 2, false⟩), (2, ⟨[.agg [I x4p1.lo, I x4p1.hi]], 2, false⟩)] 3]) (And.intro (And.intro (show zc [(0, ⟨[I by_], 1, true⟩), (1, ⟨vc3p1_0.map S_Span.D, 2, false⟩)] 256 [1] [] = some [1] from (by (simp only [zc, go_sem, List.length_set, Nat.reduceAdd, Nat.reduceEqDiff, Nat.reduceLT, Nat.reduceLeDiff, bI2, za.idsL, za.renL, za.snapAll, z6.idsL, z6.renL, z6.snapAll]) <;> rfl)) (show (lim cfg).inl 69 [.lsl 1 0 vc3p1_0.length 2 none] [(1, ⟨vc3p1_0.map S_Span.D, 2, false⟩)] 2 = some (.tup [.sl true [] 0 none, I 2], [(1, ⟨(zf ze vc3p1_0).map S_Span.D, 2, false⟩), (2, ⟨[.agg [I x4p1.lo, I x4p1.hi]], 2, false⟩)], 3) from zw [.inlS [1] (.tup []) [(1, ⟨(zf ze vc3p1_0).map S_Span.D, 2, false⟩)] 2, .gloop (sd212 vc3p1_0) .ret (sd217 vc3p1_0 i4p1 x4p1)] (And.intro (zX (q := zg vc3p1_0 (zf ze vc3p1_0)) (lp_ranges_gathered_4p1 vc3p1_0 (zf ze vc3p1_0) (zf ze vc3p1_0) 0 (List.drop_zero) (Nat.zero_le _) (by simp only [zr, GS.some_l, List.length_set, List.length_append, List.length_cons, List.length_nil] at * <;> first | with_reducible assumption | omega) (by simp only [zr, GS.some_l, List.length_set, List.length_append, List.length_cons, List.length_nil] at * <;> first | with_reducible assumption | omega)) h34) (And.intro (gc_of (C := cfg) (f := 69) (a := lp69_4) (ks := [4, 10, 11, 12]) (st := (sd211 vc3p1_0)) (st1 := (sd212 vc3p1_0)) (by kernel_rfl) (by (simp only [sd211, sd212, go_sem, List.length_set, Nat.reduceAdd, Nat.reduceEqDiff, Nat.reduceLT, Nat.reduceLeDiff, bI2, za.idsL, za.renL, za.snapAll, z6.idsL, z6.renL, z6.snapAll]) <;> rfl)) (And.intro (And.intro (show zc [(1, ⟨vc3p1_0.map S_Span.D, 2, false⟩)] 256 [1] [] = some [1] from (by (simp only [zc, go_sem, List.length_set, Nat.reduceAdd, Nat.reduceEqDiff, Nat.reduceLT, Nat.reduceLeDiff, bI2, za.idsL, za.renL, za.snapAll, z6.idsL, z6.renL, z6.snapAll]) <;> rfl)) (y8 1 2 none vc3p1_0 (by omega))) trivial))) (by kernel_rfl))) (And.intro p4 (And.intro h2 (And.intro (zG S_Span.D r) (And.intro h1 (And.intro (zt r (by omega)) trivial)))))) (by kernel_rfl)
        | x5 i4p1 x4p1 =>
          try dsimp only
          exact zq ((ranges_Shift_o2 r by_ vc3p1_0) ++ [.inlS [1] (.tup [.sl true [] 0 none, I 2]) [(1, ⟨(zf ze vc3p1_0).map S_Span.D, 2, false⟩), (2, ⟨[.agg [I x4p1.lo, I x4p1.hi]], 2, false⟩)] 3]) (And.intro (And.intro (show zc [(0, ⟨[I by_], 1, true⟩), (1, ⟨vc3p1_0.map S_Span.D, 2, false⟩)] 256 [1] [] = some [1] from (by (simp only [zc, go_sem, List.length_set, Nat.reduceAdd, Nat.reduceEqDiff, Nat.reduceLT, Nat.reduceLeDiff, bI2, za.idsL, za.renL, za.snapAll, z6.idsL, z6.renL, z6.snapAll]) <;> rfl)) (show (lim cfg).inl 69 [.lsl 1 0 vc3p1_0.length 2 none] [(1, ⟨vc3p1_0.map S_Span.D, 2, false⟩)] 2 = some (.tup [.sl true [] 0 none, I 2], [(1, ⟨(zf ze vc3p1_0).map S_Span.D, 2, false⟩), (2, ⟨[.agg [I x4p1.lo, I x4p1.hi]], 2, false⟩)], 3) from zw [.inlS [1] (.tup []) [(1, ⟨(zf ze vc3p1_0).map S_Span.D, 2, false⟩)] 2, .gloop (sd212 vc3p1_0) .ret (sd218 vc3p1_0 i4p1 x4p1)] (And.intro (zX (q := zg vc3p1_0 (zf ze vc3p1_0)) (lp_ranges_gathered_4p1 vc3p1_0 (zf ze vc3p1_0) (zf ze vc3p1_0) 0 (List.drop_zero) (Nat.zero_le _) (by simp only [zr, GS.some_l, List.length_set, List.length_append, List.length_cons, List.length_nil] at * <;> first | with_reducible assumption | omega) (by simp only [zr, GS.some_l, List.length_set, List.length_append, List.length_cons, List.length_nil] at * <;> first | with_reducible assumption | omega)) h34) (And.intro (gc_of (C := cfg) (f := 69) (a := lp69_4) (ks := [4, 10, 11, 12]) (st := (sd211 vc3p1_0)) (st1 := (sd212 vc3p1_0)) (by kernel_rfl) (by (simp only [sd211, sd212, go_sem, List.length_set, Nat.reduceAdd, Nat.reduceEqDiff, Nat.reduceLT, Nat.reduceLeDiff, bI2, za.idsL, za.renL, za.snapAll, z6.idsL, z6.renL, z6.snapAll]) <;> rfl)) (And.intro (And.intro (show zc [(1, ⟨vc3p1_0.map S_Span.D, 2, false⟩)] 256 [1] [] = some [1] from (by (simp only [zc, go_sem, List.length_set, Nat.reduceAdd, Nat.reduceEqDiff, Nat.reduceLT, Nat.reduceLeDiff, bI2, za.idsL, za.renL, za.snapAll, z6.idsL, z6.renL, z6.snapAll]) <;> rfl)) (y8 1 2 none vc3p1_0 (by omega))) trivial))) (by kernel_rfl))) (And.intro p4 (And.intro h2 (And.intro (zG S_Span.D r) (And.intro h1 (And.intro (zt r (by omega)) trivial)))))) (by kernel_rfl)
      | x1 va3p1_0 =>
        try dsimp only
        have hv_h33 := ivt_ranges_each_3p1 r by_ r.l 0 (List.drop_zero) (Nat.zero_le _) (by omega)
        rw [h33] at hv_h33
        have hv_h33_0 := hv_h33
        try dsimp only [iv_ranges_each_3p1] at hv_h33_0
        have p5 := (show (lim cfg).inl 70 [.sl r.nl (r.l.map S_Span.D) (zsl r.nl 2) none, .fn (.func 85) [] [.lref 0 0 1 0]] [(0, ⟨[I by_], 1, false⟩)] 1 = some (.lsl 1 0 va3p1_0.length 2 none, [(0, ⟨[I by_], 1, false⟩), (1, ⟨va3p1_0.map S_Span.D, 2, false⟩)], 2) from zw [.rw 9 (I ((r.l.length : Nat) : Int)), .loop (.exit 0) (sd219 r by_ va3p1_0)] (And.intro (zX (q := yh r by_) (lp_ranges_each_3p1 r by_ r.l 0 (List.drop_zero) (Nat.zero_le _) (by omega)) h33) (And.intro (zG S_Span.D r) trivial)) (by kernel_rfl))
        cases h36 : zx (zf ze va3p1_0) 0 with
        | x0 va4p1_0 =>
          try dsimp only
          have hv_h36 := zH va3p1_0 (zf ze va3p1_0) (zf ze va3p1_0) 0 (List.drop_zero) (Nat.zero_le _) (by simp only [zr, GS.some_l, List.length_set, List.length_append, List.length_cons, List.length_nil] at * <;> first | with_reducible assumption | omega) (by simp only [zr, GS.some_l, List.length_set, List.length_append, List.length_cons, List.length_nil] at * <;> first | with_reducible assumption | omega)
          rw [h36] at hv_h36
          obtain ⟨hv_h36_0, hv_h36_1⟩ := hv_h36
          try dsimp only [zj] at hv_h36_0
          try dsimp only [zj] at hv_h36_1
          cases h37 : decide (((va4p1_0.length : Nat) : Int) > 64) with
          | true =>
            have g37 := of_decide_eq_true h37
            exact zq ((ranges_Shift_o3 r by_ va3p1_0) ++ [.inlS [1] (.tup [.sl true [] 0 none, I 2]) [(1, ⟨(zf ze va3p1_0).map S_Span.D, 2, false⟩), (2, ⟨va4p1_0.map S_Span.D, 2, false⟩)] 3]) (And.intro (And.intro (show zc [(0, ⟨[I by_], 1, false⟩), (1, ⟨va3p1_0.map S_Span.D, 2, false⟩)] 256 [1] [] = some [1] from (by (simp only [zc, go_sem, List.length_set, Nat.reduceAdd, Nat.reduceEqDiff, Nat.reduceLT, Nat.reduceLeDiff, bI2, za.idsL, za.renL, za.snapAll, z6.idsL, z6.renL, z6.snapAll]) <;> rfl)) (show (lim cfg).inl 69 [.lsl 1 0 va3p1_0.length 2 none] [(1, ⟨va3p1_0.map S_Span.D, 2, false⟩)] 2 = some (.tup [.sl true [] 0 none, I 2], [(1, ⟨(zf ze va3p1_0).map S_Span.D, 2, false⟩), (2, ⟨va4p1_0.map S_Span.D, 2, false⟩)], 3) from zw [.inlS [1] (.tup []) [(1, ⟨(zf ze va3p1_0).map S_Span.D, 2, false⟩)] 2, .gloop (sd97 va3p1_0) (.exit 0) (sd98 va3p1_0 va4p1_0), .dec true] (And.intro h37 (And.intro (zX (q := zg va3p1_0 (zf ze va3p1_0)) (lp_ranges_gathered_4p1 va3p1_0 (zf ze va3p1_0) (zf ze va3p1_0) 0 (List.drop_zero) (Nat.zero_le _) (by simp only [zr, GS.some_l, List.length_set, List.length_append, List.length_cons, List.length_nil] at * <;> first | with_reducible assumption | omega) (by simp only [zr, GS.some_l, List.length_set, List.length_append, List.length_cons, List.length_nil] at * <;> first | with_reducible assumption | omega)) h36) (And.intro (gc_of (C := cfg) (f := 69) (a := lp69_4) (ks := [4, 10, 11, 12]) (st := (sd96 va3p1_0)) (st1 := (sd97 va3p1_0)) (by kernel_rfl) (by (simp only [sd96, sd97, go_sem, List.length_set, Nat.reduceAdd, Nat.reduceEqDiff, Nat.reduceLT, Nat.reduceLeDiff, bI2, za.idsL, za.renL, za.snapAll, z6.idsL, z6.renL, z6.snapAll]) <;> rfl)) (And.intro (And.intro (show zc [(1, ⟨va3p1_0.map S_Span.D, 2, false⟩)] 256 [1] [] = some [1] from (by (simp only [zc, go_sem, List.length_set, Nat.reduceAdd, Nat.reduceEqDiff, Nat.reduceLT, Nat.reduceLeDiff, bI2, za.idsL, za.renL, za.snapAll, z6.idsL, z6.renL, z6.snapAll]) <;> rfl)) (y8 1 2 none va3p1_0 (by omega))) trivial)))) (by kernel_rfl))) (And.intro p5 (And.intro h2 (And.intro (zG S_Span.D r) (And.intro h1 (And.intro (zt r (by omega)) trivial)))))) (by kernel_rfl)
          | false =>
            have g37 := of_decide_eq_false h37
            exact po_pureS ((ranges_Shift_o3 r by_ va3p1_0) ++ [.inlS [1] (.tup [.lsl 2 0 va4p1_0.length 2 none, I 0]) [(1, ⟨(zf ze va3p1_0).map S_Span.D, 2, false⟩), (2, ⟨va4p1_0.map S_Span.D, 2, false⟩)] 3]) [(2, .sl false (va4p1_0.map S_Span.D) 2 none, [2])] (And.intro (snap_row (gO := zv [(0, ⟨[I by_], 1, false⟩), (1, ⟨(zf ze va3p1_0).map S_Span.D, 2, false⟩), (2, ⟨va4p1_0.map S_Span.D, 2, false⟩)]) (o := 2) (len := va4p1_0.length) (cap := none) (fz := false) z6 va4p1_0 (by kernel_rfl) (by omega)) (And.intro (And.intro (show zc [(0, ⟨[I by_], 1, false⟩), (1, ⟨va3p1_0.map S_Span.D, 2, false⟩)] 256 [1] [] = some [1] from (by (simp only [zc, go_sem, List.length_set, Nat.reduceAdd, Nat.reduceEqDiff, Nat.reduceLT, Nat.reduceLeDiff, bI2, za.idsL, za.renL, za.snapAll, z6.idsL, z6.renL, z6.snapAll]) <;> rfl)) (show (lim cfg).inl 69 [.lsl 1 0 va3p1_0.length 2 none] [(1, ⟨va3p1_0.map S_Span.D, 2, false⟩)] 2 = some (.tup [.lsl 2 0 va4p1_0.length 2 none, I 0], [(1, ⟨(zf ze va3p1_0).map S_Span.D, 2, false⟩), (2, ⟨va4p1_0.map S_Span.D, 2, false⟩)], 3) from zw [.inlS [1] (.tup []) [(1, ⟨(zf ze va3p1_0).map S_Span.D, 2, false⟩)] 2, .gloop (sd97 va3p1_0) (.exit 0) (sd98 va3p1_0 va4p1_0), .dec false] (And.intro h37 (And.intro (zX (q := zg va3p1_0 (zf ze va3p1_0)) (lp_ranges_gathered_4p1 va3p1_0 (zf ze va3p1_0) (zf ze va3p1_0) 0 (List.drop_zero) (Nat.zero_le _) (by simp only [zr, GS.some_l, List.length_set, List.length_append, List.length_cons, List.length_nil] at * <;> first | with_reducible assumption | omega) (by simp only [zr, GS.some_l, List.length_set, List.length_append, List.length_cons, List.length_nil] at * <;> first | with_reducible assumption | omega)) h36) (And.intro (gc_of (C := cfg) (f := 69) (a := lp69_4) (ks := [4, 10, 11, 12]) (st := (sd96 va3p1_0)) (st1 := (sd97 va3p1_0)) (by kernel_rfl) (by (simp only [sd96, sd97, go_sem, List.length_set, Nat.reduceAdd, Nat.reduceEqDiff, Nat.reduceLT, Nat.reduceLeDiff, bI2, za.idsL, za.renL, za.snapAll, z6.idsL, z6.renL, z6.snapAll]) <;> rfl)) (And.intro (And.intro (show zc [(1, ⟨va3p1_0.map S_Span.D, 2, false⟩)] 256 [1] [] = some [1] from (by (simp only [zc, go_sem, List.length_set, Nat.reduceAdd, Nat.reduceEqDiff, Nat.reduceLT, Nat.reduceLeDiff, bI2, za.idsL, za.renL, za.snapAll, z6.idsL, z6.renL, z6.snapAll]) <;> rfl)) (y8 1 2 none va3p1_0 (by omega))) trivial)))) (by kernel_rfl))) (And.intro p5 (And.intro h2 (And.intro (zG S_Span.D r) (And.intro h1 (And.intro (zt r (by omega)) trivial))))))) (by kernel_rfl)
        | x1 i4p1 x4p1 va4p1_0 =>
          try dsimp only
          have hv_h36 := zH va3p1_0 (zf ze va3p1_0) (zf ze va3p1_0) 0 (List.drop_zero) (Nat.zero_le _) (by simp only [zr, GS.some_l, List.length_set, List.length_append, List.length_cons, List.length_nil] at * <;> first | with_reducible assumption | omega) (by simp only [zr, GS.some_l, List.length_set, List.length_append, List.length_cons, List.length_nil] at * <;> first | with_reducible assumption | omega)
          rw [h36] at hv_h36
          obtain ⟨hv_h36_0, hv_h36_1⟩ := hv_h36
          try dsimp only [zj] at hv_h36_0
          try dsimp only [zj] at hv_h36_1
          exact zq ((ranges_Shift_o3 r by_ va3p1_0) ++ [.inlS [1] (.tup [.sl true [] 0 none, I 2]) [(1, ⟨(zf ze va3p1_0).map S_Span.D, 2, false⟩), (2, ⟨va4p1_0.map S_Span.D, 2, false⟩), (3, ⟨[.agg [I x4p1.lo, I x4p1.hi]], 2, false⟩)] 4]) (And.intro (And.intro (show zc [(0, ⟨[I by_], 1, false⟩), (1, ⟨va3p1_0.map S_Span.D, 2, false⟩)] 256 [1] [] = some [1] from (by (simp only [zc, go_sem, List.length_set, Nat.reduceAdd, Nat.reduceEqDiff, Nat.reduceLT, Nat.reduceLeDiff, bI2, za.idsL, za.renL, za.snapAll, z6.idsL, z6.renL, z6.snapAll]) <;> rfl)) (show (lim cfg).inl 69 [.lsl 1 0 va3p1_0.length 2 none] [(1, ⟨va3p1_0.map S_Span.D, 2, false⟩)] 2 = some (.tup [.sl true [] 0 none, I 2], [(1, ⟨(zf ze va3p1_0).map S_Span.D, 2, false⟩), (2, ⟨va4p1_0.map S_Span.D, 2, false⟩), (3, ⟨[.agg [I x4p1.lo, I x4p1.hi]], 2, false⟩)], 4) from zw [.inlS [1] (.tup []) [(1, ⟨(zf ze va3p1_0).map S_Span.D, 2, false⟩)] 2, .gloop (sd97 va3p1_0) .ret (sd99 va3p1_0 va4p1_0 i4p1 x4p1)] (And.intro (zX (q := zg va3p1_0 (zf ze va3p1_0)) (lp_ranges_gathered_4p1 va3p1_0 (zf ze va3p1_0) (zf ze va3p1_0) 0 (List.drop_zero) (Nat.zero_le _) (by simp only [zr, GS.some_l, List.length_set, List.length_append, List.length_cons, List.length_nil] at * <;> first | with_reducible assumption | omega) (by simp only [zr, GS.some_l, List.length_set, List.length_append, List.length_cons, List.length_nil] at * <;> first | with_reducible assumption | omega)) h36) (And.intro (gc_of (C := cfg) (f := 69) (a := lp69_4) (ks := [4, 10, 11, 12]) (st := (sd96 va3p1_0)) (st1 := (sd97 va3p1_0)) (by kernel_rfl) (by (simp only [sd96, sd97, go_sem, List.length_set, Nat.reduceAdd, Nat.reduceEqDiff, Nat.reduceLT, Nat.reduceLeDiff, bI2, za.idsL, za.renL, za.snapAll, z6.idsL, z6.renL, z6.snapAll]) <;> rfl)) (And.intro (And.intro (show zc [(1, ⟨va3p1_0.map S_Span.D, 2, false⟩)] 256 [1] [] = some [1] from (by (simp only [zc, go_sem, List.length_set, Nat.reduceAdd, Nat.reduceEqDiff, Nat.reduceLT, Nat.reduceLeDiff, bI2, za.idsL, za.renL, za.snapAll, z6.idsL, z6.renL, z6.snapAll]) <;> rfl)) (y8 1 2 none va3p1_0 (by omega))) trivial))) (by kernel_rfl))) (And.intro p5 (And.intro h2 (And.intro (zG S_Span.D r) (And.intro h1 (And.intro (zt r (by omega)) trivial)))))) (by kernel_rfl)
        | x2 i4p1 x4p1 va4p1_0 =>
          try dsimp only
          have hv_h36 := zH va3p1_0 (zf ze va3p1_0) (zf ze va3p1_0) 0 (List.drop_zero) (Nat.zero_le _) (by simp only [zr, GS.some_l, List.length_set, List.length_append, List.length_cons, List.length_nil] at * <;> first | with_reducible assumption | omega) (by simp only [zr, GS.some_l, List.length_set, List.length_append, List.length_cons, List.length_nil] at * <;> first | with_reducible assumption | omega)
          rw [h36] at hv_h36
          obtain ⟨hv_h36_0, hv_h36_1⟩ := hv_h36
          try dsimp only [zj] at hv_h36_0
          try dsimp only [zj] at hv_h36_1
          exact zq ((ranges_Shift_o3 r by_ va3p1_0) ++ [.inlS [1] (.tup [.sl true [] 0 none, I 2]) [(1, ⟨(zf ze va3p1_0).map S_Span.D, 2, false⟩), (2, ⟨va4p1_0.map S_Span.D, 2, false⟩), (3, ⟨[.agg [I x4p1.lo, I x4p1.hi]], 2, false⟩)] 4]) (And.intro (And.intro (show zc [(0, ⟨[I by_], 1, false⟩), (1, ⟨va3p1_0.map S_Span.D, 2, false⟩)] 256 [1] [] = some [1] from (by (simp only [zc, go_sem, List.length_set, Nat.reduceAdd, Nat.reduceEqDiff, Nat.reduceLT, Nat.reduceLeDiff, bI2, za.idsL, za.renL, za.snapAll, z6.idsL, z6.renL, z6.snapAll]) <;> rfl)) (show (lim cfg).inl 69 [.lsl 1 0 va3p1_0.length 2 none] [(1, ⟨va3p1_0.map S_Span.D, 2, false⟩)] 2 = some (.tup [.sl true [] 0 none, I 2], [(1, ⟨(zf ze va3p1_0).map S_Span.D, 2, false⟩), (2, ⟨va4p1_0.map S_Span.D, 2, false⟩), (3, ⟨[.agg [I x4p1.lo, I x4p1.hi]], 2, false⟩)], 4) from zw [.inlS [1] (.tup []) [(1, ⟨(zf ze va3p1_0).map S_Span.D, 2, false⟩)] 2, .gloop (sd97 va3p1_0) .ret (sd100 va3p1_0 va4p1_0 i4p1 x4p1)] (And.intro (zX (q := zg va3p1_0 (zf ze va3p1_0)) (lp_ranges_gathered_4p1 va3p1_0 (zf ze va3p1_0) (zf ze va3p1_0) 0 (List.drop_zero) (Nat.zero_le _) (by simp only [zr, GS.some_l, List.length_set, List.length_append, List.length_cons, List.length_nil] at * <;> first | with_reducible assumption | omega) (by simp only [zr, GS.some_l, List.length_set, List.length_append, List.length_cons, List.length_nil] at * <;> first | with_reducible assumption | omega)) h36) (And.intro (gc_of (C := cfg) (f := 69) (a := lp69_4) (ks := [4, 10, 11, 12]) (st := (sd96 va3p1_0)) (st1 := (sd97 va3p1_0)) (by kernel_rfl) (by (simp only [sd96, sd97, go_sem, List.length_set, Nat.reduceAdd, Nat.reduceEqDiff, Nat.reduceLT, Nat.reduceLeDiff, bI2, za.idsL, za.renL, za.snapAll, z6.idsL, z6.renL, z6.snapAll]) <;> rfl)) (And.intro (And.intro (show zc [(1, ⟨va3p1_0.map S_Span.D, 2, false⟩)] 256 [1] [] = some [1] from (by (simp only [zc, go_sem, List.length_set, Nat.reduceAdd, Nat.reduceEqDiff, Nat.reduceLT, Nat.reduceLeDiff, bI2, za.idsL, za.renL, za.snapAll, z6.idsL, z6.renL, z6.snapAll]) <;> rfl)) (y8 1 2 none va3p1_0 (by omega))) trivial))) (by kernel_rfl))) (And.intro p5 (And.intro h2 (And.intro (zG S_Span.D r) (And.intro h1 (And.intro (zt r (by omega)) trivial)))))) (by kernel_rfl)
        | x3 =>
          try dsimp only
          exact zq ((ranges_Shift_o3 r by_ va3p1_0) ++ [.inlS [1] (.tup [.sl true [] 0 none, I 0]) [(1, ⟨(zf ze va3p1_0).map S_Span.D, 2, false⟩)] 2]) (And.intro (And.intro (show zc [(0, ⟨[I by_], 1, false⟩), (1, ⟨va3p1_0.map S_Span.D, 2, false⟩)] 256 [1] [] = some [1] from (by (simp only [zc, go_sem, List.length_set, Nat.reduceAdd, Nat.reduceEqDiff, Nat.reduceLT, Nat.reduceLeDiff, bI2, za.idsL, za.renL, za.snapAll, z6.idsL, z6.renL, z6.snapAll]) <;> rfl)) (show (lim cfg).inl 69 [.lsl 1 0 va3p1_0.length 2 none] [(1, ⟨va3p1_0.map S_Span.D, 2, false⟩)] 2 = some (.tup [.sl true [] 0 none, I 0], [(1, ⟨(zf ze va3p1_0).map S_Span.D, 2, false⟩)], 2) from zw [.inlS [1] (.tup []) [(1, ⟨(zf ze va3p1_0).map S_Span.D, 2, false⟩)] 2, .gloop (sd97 va3p1_0) (.exit 0) (sd101 va3p1_0), .dec false] (And.intro (Eq.refl false) (And.intro (zX (q := zg va3p1_0 (zf ze va3p1_0)) (lp_ranges_gathered_4p1 va3p1_0 (zf ze va3p1_0) (zf ze va3p1_0) 0 (List.drop_zero) (Nat.zero_le _) (by simp only [zr, GS.some_l, List.length_set, List.length_append, List.length_cons, List.length_nil] at * <;> first | with_reducible assumption | omega) (by simp only [zr, GS.some_l, List.length_set, List.length_append, List.length_cons, List.length_nil] at * <;> first | with_reducible assumption | omega)) h36) (And.intro (gc_of (C := cfg) (f := 69) (a := lp69_4) (ks := [4, 10, 11, 12]) (st := (sd96 va3p1_0)) (st1 := (sd97 va3p1_0)) (by kernel_rfl) (by (simp only [sd96, sd97, go_sem, List.length_set, Nat.reduceAdd, Nat.reduceEqDiff, Nat.reduceLT, Nat.reduceLeDiff, bI2, za.idsL, za.renL, za.snapAll, z6.idsL, z6.renL, z6.snapAll]) <;> rfl)) (And.intro (And.intro (show zc [(1, ⟨va3p1_0.map S_Span.D, 2, false⟩)] 256 [1] [] = some [1] from (by (simp only [zc, go_sem, List.length_set, Nat.reduceAdd, Nat.reduceEqDiff, Nat.reduceLT, Nat.reduceLeDiff, bI2, za.idsL, za.renL, za.snapAll, z6.idsL, z6.renL, z6.snapAll]) <;> rfl)) (y8 1 2 none va3p1_0 (by omega))) trivial)))) (by kernel_rfl))) (And.intro p5 (And.intro h2 (And.intro (zG S_Span.D r) (And.intro h1 (And.intro (zt r (by omega)) trivial)))))) (by kernel_rfl)
        | x4 i4p1 x4p1 =>
          try dsimp only
          exact zq ((ranges_Shift_o3 r by_ va3p1_0) ++ [.inlS [1] (.tup [.sl true [] 0 none, I 2]) [(1, ⟨(zf ze va3p1_0).map S_Span.D, 2, false⟩), (2, ⟨[.agg [I x4p1.lo, I x4p1.hi]], 2, false⟩)] 3]) (And.intro (And.intro (show zc [(0, ⟨[I by_], 1, false⟩), (1, ⟨va3p1_0.map S_Span.D, 2, false⟩)] 256 [1] [] = some [1] from (by (simp only [zc, go_sem, List.length_set, Nat.reduceAdd, Nat.reduceEqDiff, Nat.reduceLT, Nat.reduceLeDiff, bI2, za.idsL, za.renL, za.snapAll, z6.idsL, z6.renL, z6.snapAll]) <;> rfl)) (show (lim cfg).inl 69 [.lsl 1 0 va3p1_0.length 2 none] [(1, ⟨va3p1_0.map S_Span.D, 2, false⟩)] 2 = some (.tup [.sl true [] 0 none, I 2], [(1, ⟨(zf ze va3p1_0).map S_Span.D, 2, false⟩), (2, ⟨[.agg [I x4p1.lo, I x4p1.hi]], 2, false⟩)], 3) from zw [.inlS [1] (.tup []) [(1, ⟨(zf ze va3p1_0).map S_Span.D, 2, false⟩)] 2, .gloop (sd97 va3p1_0) .ret (sd102 va3p1_0 i4p1 x4p1)] (And.intro (zX (q := zg va3p1_0 (zf ze va3p1_0)) (lp_ranges_gathered_4p1 va3p1_0 (zf ze va3p1_0) (zf ze va3p1_0) 0 (List.drop_zero) (Nat.zero_le _) (by simp only [zr, GS.some_l, List.length_set, List.length_append, List.length_cons, List.length_nil] at * <;> first | with_reducible assumption | omega) (by simp only [zr, GS.some_l, List.length_set, List.length_append, List.length_cons, List.length_nil] at * <;> first | with_reducible assumption | omega)) h36) (And.intro (gc_of (C := cfg) (f := 69) (a := lp69_4) (ks := [4, 10, 11, 12]) (st := (sd96 va3p1_0)) (st1 := (sd97 va3p1_0)) (by kernel_rfl) (by (simp only [sd96, sd97, go_sem, List.length_set, Nat.reduceAdd, Nat.reduceEqDiff, Nat.reduceLT, Nat.reduceLeDiff, bI2, za.idsL, za.renL, za.snapAll, z6.idsL, z6.renL, z6.snapAll]) <;> rfl)) (And.intro (And.intro (show zc [(1, ⟨va3p1_0.map S_Span.D, 2, false⟩)] 256 [1] [] = some [1] from (by (simp only [zc, go_sem, List.length_set, Nat.reduceAdd, Nat.reduceEqDiff, Nat.reduceLT, Nat.reduceLeDiff, bI2, za.idsL, za.renL, za.snapAll, z6.idsL, z6.renL, z6.snapAll]) <;> rfl)) (y8 1 2 none va3p1_0 (by omega))) trivial))) (by kernel_rfl))) (And.intro p5 (And.intro h2 (And.intro (zG S_Span.D r) (And.intro h1 (And.intro (zt r (by omega)) trivial)))))) (by kernel_rfl)
        | x5 i4p1 x4p1 =>
          try dsimp only
          exact zq ((ranges_Shift_o3 r by_ va3p1_0) ++ [.inlS [1] (.tup [.sl true [] 0 none, I 2]) [(1, ⟨(zf ze va3p1_0).map S_Span.D, 2, false⟩), (2, ⟨[.agg [I x4p1.lo, I x4p1.hi]], 2, false⟩)] 3]) (And.intro (And.intro (show zc [(0, ⟨[I by_], 1, false⟩), (1, ⟨va3p1_0.map S_Span.D, 2, false⟩)] 256 [1] [] = some [1] from (by (simp only [zc, go_sem, List.length_set, Nat.reduceAdd, Nat.reduceEqDiff, Nat.reduceLT, Nat.reduceLeDiff, bI2, za.idsL, za.renL, za.snapAll, z6.idsL, z6.renL, z6.snapAll]) <;> rfl)) (show (lim cfg).inl 69 [.lsl 1 0 va3p1_0.length 2 none] [(1, ⟨va3p1_0.map S_Span.D, 2, false⟩)] 2 = some (.tup [.sl true [] 0 none, I 2], [(1, ⟨(zf ze va3p1_0).map S_Span.D, 2, false⟩), (2, ⟨[.agg [I x4p1.lo, I x4p1.hi]], 2, false⟩)], 3) from zw [.inlS [1] (.tup []) [(1, ⟨(zf ze va3p1_0).map S_Span.D, 2, false⟩)] 2, .gloop (sd97 va3p1_0) .ret (sd103 va3p1_0 i4p1 x4p1)] (And.intro (zX (q := zg va3p1_0 (zf ze va3p1_0)) (lp_ranges_gathered_4p1 va3p1_0 (zf ze va3p1_0) (zf ze va3p1_0) 0 (List.drop_zero) (Nat.zero_le _) (by simp only [zr, GS.some_l, List.length_set, List.length_append, List.length_cons, List.length_nil] at * <;> first | with_reducible assumption | omega) (by simp only [zr, GS.some_l, List.length_set, List.length_append, List.length_cons, List.length_nil] at * <;> first | with_reducible assumption | omega)) h36) (And.intro (gc_of (C := cfg) (f := 69) (a := lp69_4) (ks := [4, 10, 11, 12]) (st := (sd96 va3p1_0)) (st1 := (sd97 va3p1_0)) (by kernel_rfl) (by (simp only [sd96, sd97, go_sem, List.length_set, Nat.reduceAdd, Nat.reduceEqDiff, Nat.reduceLT, Nat.reduceLeDiff, bI2, za.idsL, za.renL, za.snapAll, z6.idsL, z6.renL, z6.snapAll]) <;> rfl)) (And.intro (And.intro (show zc [(1, ⟨va3p1_0.map S_Span.D, 2, false⟩)] 256 [1] [] = some [1] from (by (simp only [zc, go_sem, List.length_set, Nat.reduceAdd, Nat.reduceEqDiff, Nat.reduceLT, Nat.reduceLeDiff, bI2, za.idsL, za.renL, za.snapAll, z6.idsL, z6.renL, z6.snapAll]) <;> rfl)) (y8 1 2 none va3p1_0 (by omega))) trivial))) (by kernel_rfl))) (And.intro p5 (And.intro h2 (And.intro (zG S_Span.D r) (And.intro h1 (And.intro (zt r (by omega)) trivial)))))) (by kernel_rfl)
      | x2 =>
        try dsimp only
        exact zq [.pure (I (zC r)), .dec false, .rw 13 (I ((r.l.length : Nat) : Int)), .dec false, .inl (.sl true [] 0 none) [(0, ⟨[I by_], 1, true⟩)] 1, .inl (.tup [.sl true [] 0 none, I 0]) [] 1] (And.intro (show (lim cfg).inl 69 [.sl true [] 0 none] [] 1 = some (.tup [.sl true [] 0 none, I 0], [], 1) from zw [.inl (.tup []) [] 1, .loop (.exit 0) ⟨65, [(13, B false), (4, .sl true [] 0 none), (10, .sl true [] 0 none), (11, I 0), (12, I 0)], [], 1, 1⟩, .dec false] (And.intro (Eq.refl false) (And.intro (show (lim cfg).loop 69 lp69_4 ⟨65, [(4, .sl true [] 0 none), (10, .sl true [] 0 none), (11, I 0), (12, I 0)], [], 1, 1⟩ = some ((.exit 0), ⟨65, [(13, B false), (4, .sl true [] 0 none), (10, .sl true [] 0 none), (11, I 0), (12, I 0)], [], 1, 1⟩) from (zS [.dec false] (And.intro (Eq.refl false) trivial) (by kernel_rfl))) (And.intro (T_sort_nil 1) trivial))) (by kernel_rfl)) (And.intro (show (lim cfg).inl 70 [.sl r.nl (r.l.map S_Span.D) (zsl r.nl 2) none, .fn (.func 85) [] [.lref 0 0 1 0]] [(0, ⟨[I by_], 1, false⟩)] 1 = some (.sl true [] 0 none, [(0, ⟨[I by_], 1, true⟩)], 1) from zw [.rw 9 (I ((r.l.length : Nat) : Int)), .loop (.exit 0) (sd220 r by_)] (And.intro (zX (q := yh r by_) (lp_ranges_each_3p1 r by_ r.l 0 (List.drop_zero) (Nat.zero_le _) (by omega)) h33) (And.intro (zG S_Span.D r) trivial)) (by kernel_rfl)) (And.intro h2 (And.intro (zG S_Span.D r) (And.intro h1 (And.intro (zt r (by omega)) trivial)))))) (by kernel_rfl)
      | x3 =>
        try dsimp only
        exact zq [.pure (I (zC r)), .dec false, .rw 13 (I ((r.l.length : Nat) : Int)), .dec false, .inl (.sl true [] 0 none) [(0, ⟨[I by_], 1, false⟩)] 1, .inl (.tup [.sl true [] 0 none, I 0]) [] 1] (And.intro (show (lim cfg).inl 69 [.sl true [] 0 none] [] 1 = some (.tup [.sl true [] 0 none, I 0], [], 1) from zw [.inl (.tup []) [] 1, .loop (.exit 0) ⟨65, [(13, B false), (4, .sl true [] 0 none), (10, .sl true [] 0 none), (11, I 0), (12, I 0)], [], 1, 1⟩, .dec false] (And.intro (Eq.refl false) (And.intro (show (lim cfg).loop 69 lp69_4 ⟨65, [(4, .sl true [] 0 none), (10, .sl true [] 0 none), (11, I 0), (12, I 0)], [], 1, 1⟩ = some ((.exit 0), ⟨65, [(13, B false), (4, .sl true [] 0 none), (10, .sl true [] 0 none), (11, I 0), (12, I 0)], [], 1, 1⟩) from (zS [.dec false] (And.intro (Eq.refl false) trivial) (by kernel_rfl))) (And.intro (T_sort_nil 1) trivial))) (by kernel_rfl)) (And.intro (show (lim cfg).inl 70 [.sl r.nl (r.l.map S_Span.D) (zsl r.nl 2) none, .fn (.func 85) [] [.lref 0 0 1 0]] [(0, ⟨[I by_], 1, false⟩)] 1 = some (.sl true [] 0 none, [(0, ⟨[I by_], 1, false⟩)], 1) from zw [.rw 9 (I ((r.l.length : Nat) : Int)), .loop (.exit 0) (sd221 r by_)] (And.intro (zX (q := yh r by_) (lp_ranges_each_3p1 r by_ r.l 0 (List.drop_zero) (Nat.zero_le _) (by omega)) h33) (And.intro (zG S_Span.D r) trivial)) (by kernel_rfl)) (And.intro h2 (And.intro (zG S_Span.D r) (And.intro h1 (And.intro (zt r (by omega)) trivial)))))) (by kernel_rfl)
end Go.VS

/-
  Ranges: the loop that joins spans in order, plainly (printed by go/rg.py, a program of this claim's own; nothing of it is trusted).
-/
namespace Go.VS
open Go
set_option maxHeartbeats 0
set_option linter.unusedSimpArgs false
set_option linter.unusedVariables false
theorem getD_last {v : List S_Span} {c : S_Span} : (v ++ [c]).getD v.length default = c := by
  rw [List.getD_eq_getElem?_getD, List.getElem?_append_right (Nat.le_refl _)]; simp
theorem set_last {v : List S_Span} {c d : S_Span} : (v ++ [c]).set v.length d = v ++ [d] := by
  rw [List.set_append_right _ _ (Nat.le_refl _)]; simp
theorem len_last {v : List S_Span} {c : S_Span} : w64 ((((v ++ [c]).length : Nat) : Int) - 1) = ((v.length : Nat) : Int) ∨ 9223372036854775807 < v.length := by
  by_cases h : 9223372036854775807 < v.length
  · exact .inr h
  · left
    simp only [List.length_append, List.length_cons, List.length_nil]
    rw [w64_eq (by omega) (by omega)]; omega
def ArL (l : List S_Span) : Prop := ∀ s ∈ l, Ar s.lo ∧ Ar s.hi

theorem ranges_gathered_4p1_ok : ∀ (l : List S_Span) (i : Nat) (v : List S_Span) (c : S_Span), ArL l → Ar c.hi → v.length + l.length ≤ 1099511627776 → zU l i (v ++ [c]) = .x0 (v ++ jn c l)
  | [], i, v, c, _, _, _ => rfl
  | x :: l, i, v, c, h, hc, hv => by
    have hx := h x List.mem_cons_self
    have h' : ArL l := fun t ht => h t (List.mem_cons_of_mem _ ht)
    simp only [List.length_cons] at hv
    unfold zU jn
    rw [area_iff.2 hx.1, area_iff.2 hx.2]
    have hl : w64 ((((v ++ [c]).length : Nat) : Int) - 1) = ((v.length : Nat) : Int) := by
      rcases len_last (v := v) (c := c) with e | e
      · exact e
      · omega
    have hp : decide ((((v ++ [c]).length : Nat) : Int) > 0) = true := decide_eq_true (by simp only [List.length_append, List.length_cons, List.length_nil]; omega)
    rw [hl, hp, Int.toNat_natCast, getD_last, set_last]
    unfold Ar at hc
    have hx2 := hx.2
    unfold Ar at hx2
    rw [w64_eq (n := c.hi + 1) (by omega) (by omega), imax_eq]
    by_cases hle : x.lo ≤ c.hi + 1
    · rw [decide_eq_true hle, if_pos hle]
      exact ranges_gathered_4p1_ok l (i + 1) v ⟨c.lo, max c.hi x.hi⟩ h' (by unfold Ar; simp only; omega) (by omega)
    · rw [decide_eq_false hle, if_neg hle]
      have := ranges_gathered_4p1_ok l (i + 1) (v ++ [c]) x h' hx.2 (by simp only [List.length_append, List.length_cons, List.length_nil]; omega)
      simp only [cond_true, cond_false]
      rw [this, List.append_assoc]; rfl
def ranges_gathered_4p1_er : LR_ranges_gathered_4p1 → Bool
  | .x1 _ _ _ => true
  | .x2 _ _ _ => true
  | .x4 _ _ => true
  | .x5 _ _ => true
  | _ => false
theorem ranges_gathered_4p1_bad : ∀ (l : List S_Span) (i : Nat) (v : List S_Span), ¬ ArL l → ranges_gathered_4p1_er (zU l i v) = true
  | [], i, v, h => absurd (fun s hs => by cases hs) h
  | x :: l, i, v, h => by
    unfold zU
    cases h1 : zh x.lo with
    | false => rfl
    | true =>
      cases h2 : zh x.hi with
      | false => rfl
      | true =>
        have h' : ¬ ArL l := fun k => h fun s hs => by
          rcases List.mem_cons.1 hs with rfl | hs
          · exact ⟨area_iff.1 h1, area_iff.1 h2⟩
          · exact k s hs
        have ih := fun v => ranges_gathered_4p1_bad l (i + 1) v h'
        simp only [cond_true]
        cases decide (((v.length : Nat) : Int) > 0) with
        | false => exact ih _
        | true =>
          simp only [cond_true]
          cases decide (x.lo ≤ w64 ((v.getD ((w64 (((v.length : Nat) : Int) - 1)).toNat) default).hi + 1)) <;> exact ih _
theorem ranges_gathered_4p1_at {l : List S_Span} (hne : l ≠ []) (hl : l.length ≤ 1099511627776) : (ArL l ∧ zx (zf ze l) 0 = .x0 (can ze l)) ∨ (¬ ArL l ∧ ranges_gathered_4p1_er (zx (zf ze l) 0) = true) := by
  have hp := srtG_perm gcmp_lo l
  have hlen := srtG_len gcmp_lo l
  have har : ArL (zf ze l) ↔ ArL l := ⟨fun h s hs => h s (hp.mem_iff.2 hs), fun h s hs => h s (hp.mem_iff.1 hs)⟩
  rw [← har]
  unfold can
  have hne' : zf ze l ≠ [] := fun h => hne (by rw [h] at hp; exact List.nil_perm.1 hp)
  generalize zf ze l = q at *
  cases q with
  | nil => exact absurd rfl hne'
  | cons c q =>
    simp only [List.length_cons] at hlen
    unfold zx jnL
    dsimp only
    by_cases hc : Ar c.lo ∧ Ar c.hi
    · rw [area_iff.2 hc.1, area_iff.2 hc.2]
      by_cases hq : ArL q
      · left
        refine ⟨fun s hs => ?_, ?_⟩
        · rcases List.mem_cons.1 hs with rfl | hs
          · exact hc
          · exact hq s hs
        · exact ranges_gathered_4p1_ok q 1 [] c hq hc.2 (by simp; omega)
      · right
        exact ⟨fun h => hq fun s hs => h s (List.mem_cons_of_mem _ hs), ranges_gathered_4p1_bad q 1 [c] hq⟩
    · right
      refine ⟨fun h => hc (h c List.mem_cons_self), ?_⟩
      cases h1 : zh c.lo with
      | false => rfl
      | true =>
        cases h2 : zh c.hi with
        | false => rfl
        | true => exact absurd ⟨area_iff.1 h1, area_iff.1 h2⟩ hc

end Go.VS

/-
  Ranges: the loops over pairs, plainly (printed by go/rp.py, a program of this claim's own; nothing of it is trusted).
-/
namespace Go.VS
open Go
set_option maxHeartbeats 0
theorem flat_cons_emp {α : Type} {f : α → List S_Span} {x : α} {l : List α} (h : (f x).isEmpty = true) : (x :: l).flatMap f = l.flatMap f := by
  have : f x = [] := by simpa using h
  rw [List.flatMap_cons, this]; rfl

def f_ranges_Sum_1 (x y : S_Span) : List S_Span := ((zb x y).1).l
theorem ranges_pairs_6_eq (x : S_Span) : ∀ (l v : List S_Span), ranges_pairs_6 x l v = .x0 (v ++ l.flatMap (f_ranges_Sum_1 x))
  | [], v => by simp [ranges_pairs_6]
  | y :: l, v => by
    unfold ranges_pairs_6
    rw [emp_app (fun z => ranges_pairs_6 x l z), ranges_pairs_6_eq x l _, List.flatMap_cons, List.append_assoc]; rfl
theorem ranges_pairs_6p1a_eq (x : S_Span) : ∀ (l v : List S_Span), yf x l v = .x0 (v ++ l.flatMap (f_ranges_Sum_1 x))
  | [], v => by simp [yf]
  | y :: l, v => by
    unfold yf
    rw [emp_app (fun z => yf x l z), ranges_pairs_6p1a_eq x l _, List.flatMap_cons, List.append_assoc]; rfl
theorem ranges_pairs_6p1_eq (x : S_Span) : ∀ (l : List S_Span), (l.flatMap (f_ranges_Sum_1 x) = [] ∧ ranges_pairs_6p1 x l = .x1) ∨ (l.flatMap (f_ranges_Sum_1 x) ≠ [] ∧ ranges_pairs_6p1 x l = .x0 (l.flatMap (f_ranges_Sum_1 x)))
  | [] => .inl ⟨rfl, rfl⟩
  | y :: l => by
    unfold ranges_pairs_6p1
    cases h : (((zb x y).1).l).isEmpty with
    | true =>
      rw [flat_cons_emp (f := f_ranges_Sum_1 x) h]
      exact ranges_pairs_6p1_eq x l
    | false =>
      right
      simp only [cond_false]
      rw [ranges_pairs_6p1a_eq, List.flatMap_cons]
      refine ⟨fun k => ?_, rfl⟩
      have := (List.append_eq_nil_iff.1 k).1
      have h2 : ((zb x y).1).l = [] := this
      rw [h2] at h; cases h
theorem ranges_pairs_3a_eq (b : GS S_Span) : ∀ (l v : List S_Span), ranges_pairs_3a b l v = .x0 (v ++ pairsL l b.l f_ranges_Sum_1)
  | [], v => by simp [ranges_pairs_3a, pairsL]
  | x :: l, v => by
    unfold ranges_pairs_3a
    rw [ranges_pairs_6_eq]
    dsimp only
    rw [ranges_pairs_3a_eq b l _, List.append_assoc]; rfl
theorem ranges_pairs_3_eq (b : GS S_Span) : ∀ (l : List S_Span), (pairsL l b.l f_ranges_Sum_1 = [] ∧ ranges_pairs_3 b l = .x1) ∨ (pairsL l b.l f_ranges_Sum_1 ≠ [] ∧ ranges_pairs_3 b l = .x0 (pairsL l b.l f_ranges_Sum_1))
  | [] => .inl ⟨rfl, rfl⟩
  | x :: l => by
    unfold ranges_pairs_3
    have e : pairsL (x :: l) b.l f_ranges_Sum_1 = b.l.flatMap (f_ranges_Sum_1 x) ++ pairsL l b.l f_ranges_Sum_1 := rfl
    rw [e]
    rcases ranges_pairs_6p1_eq x b.l with ⟨h1, h2⟩ | ⟨h1, h2⟩ <;> rw [h2] <;> dsimp only
    · rw [h1]
      exact ranges_pairs_3_eq b l
    · right
      rw [ranges_pairs_3a_eq]
      exact ⟨fun k => h1 (List.append_eq_nil_iff.1 k).1, rfl⟩

end Go.VS

/-
  Ranges: what sums, differences, common and other parts come to (printed by go/ri.py, a program of this claim's own; nothing of it is trusted).
-/
namespace Go.VS
open Go
set_option maxHeartbeats 0
/-- What is made of spans. -/
def GR (l : List S_Span) (res : GS S_Span × Int) : Prop := (ArL l ∧ (can ze l).length ≤ 64 ∧ res.1.l = can ze l ∧ res.2 = 0) ∨ ((¬ ArL l ∨ 64 < (can ze l).length) ∧ res = (GS.nil, 2))
theorem can_nil : can ze [] = [] := by
  have : zf ze [] = [] := List.length_eq_zero_iff.1 (by rw [srtG_len gcmp_lo]; rfl)
  unfold can; rw [this]; rfl
theorem GR_nil : GR [] (GS.nil, 0) := .inl ⟨(fun s hs => by cases hs), by rw [can_nil]; simp, by rw [can_nil]; rfl, rfl⟩
theorem GR_end {l : List S_Span} (h : ArL l) : GR l (bif decide ((((can ze l).length : Nat) : Int) > 64) then (GS.nil, 2) else (GS.some (can ze l), 0)) := by
  cases hd : decide ((((can ze l).length : Nat) : Int) > 64) with
  | true => have := of_decide_eq_true hd; exact .inr ⟨.inr (by omega), rfl⟩
  | false => have := of_decide_eq_false hd; exact .inl ⟨h, by omega, rfl, rfl⟩
theorem pairs_congr {a b : List S_Span} {f g : S_Span → S_Span → List S_Span} (h : ∀ s ∈ a, ∀ t ∈ b, f s t = g s t) : pairsL a b f = pairsL a b g := by
  unfold pairsL
  induction a with
  | nil => rfl
  | cons s a ih =>
    rw [List.flatMap_cons, List.flatMap_cons, ih fun s hs => h s (List.mem_cons_of_mem _ hs)]
    congr 1
    have hs := h s List.mem_cons_self
    clear ih h
    induction b with
    | nil => rfl
    | cons t b ih => rw [List.flatMap_cons, List.flatMap_cons, hs t List.mem_cons_self, ih fun t ht => hs t (List.mem_cons_of_mem _ ht)]
theorem pairs_small {a b : List S_Span} {f : S_Span → S_Span → List S_Span} (h : ∀ s t, (f s t).length ≤ 1) (ha : a.length ≤ 64) (hb : b.length ≤ 65) : (pairsL a b f).length ≤ 1099511627776 := by
  have := pairs_len (a := a) (b := b) h
  have h2 : a.length * b.length ≤ 64 * 65 := Nat.mul_le_mul ha hb
  omega
/-- A range or that it does not fit. -/
def Res (S : Int → Prop) (res : GS S_Span × Int) : Prop := (res.2 = 0 ∧ Ok res.1.l ∧ Rg S res.1.l) ∨ res = (GS.nil, 2)
theorem GR.res {l : List S_Span} {res : GS S_Span × Int} (hl : ∀ s ∈ l, s.lo ≤ s.hi) (h : GR l res) : Res (In l) res := by
  rcases h with ⟨h1, h2, h3, h4⟩ | ⟨_, h⟩
  · left
    have k := can_rg gcmp_lo hl
    rw [h3]
    refine ⟨h4, ⟨k.1, cn_bd k.1 fun x hx => ?_, h2⟩, k⟩
    obtain ⟨s, hs, a, b⟩ := (k.2 x).1 hx
    have := h1 s hs
    unfold Ar at this
    omega
  · exact .inr h
theorem Res.congr {S T : Int → Prop} {res : GS S_Span × Int} (h : Res S res) (e : ∀ x, S x ↔ T x) : Res T res := h.imp (fun ⟨a, b, c⟩ => ⟨a, b, c.congr e⟩) id

theorem Sum_gr {a b : GS S_Span} (ha : Ok a.l) (hb : Ok b.l) : GR (pairsL a.l b.l sumF) (zi a b) := by
  have hbo : b.l = b.l := rfl
  have hf : pairsL a.l b.l f_ranges_Sum_1 = pairsL a.l b.l sumF := pairs_congr fun s hs t ht => by
    have h1 := ha.2.1 s hs
    have h2 := hb.2.1 t ht
    unfold f_ranges_Sum_1 zb sumF
    dsimp only
    rw [w64_eq (by omega) (by omega), w64_eq (by omega) (by omega), some_l]
  unfold zi
  rw [check2_iff.2 ⟨ha, hb⟩]
  simp only [bne_self_eq_false, cond_false]
  have k := ranges_pairs_3_eq b a.l
  rw [hbo, hf] at k
  rcases k with ⟨k1, k2⟩ | ⟨k1, k2⟩ <;> rw [k2] <;> dsimp only
  · rw [k1]; exact GR_nil
  · generalize hq : pairsL a.l b.l sumF = q at *
    have hlen : q.length ≤ 1099511627776 := by
      rw [← hq]
      exact pairs_small (fun s t => some_len) ha.2.2 (by have := hb.2.2; omega)
    rcases ranges_gathered_4p1_at k1 hlen with ⟨g1, g2⟩ | ⟨g1, g2⟩
    · rw [g2]; exact GR_end g1
    · refine .inr ⟨.inl g1, ?_⟩
      revert g2
      cases zx (zf ze q) 0 <;> intro g2 <;> first | rfl | cases g2

theorem sum_res {a b : GS S_Span} (ha : Ok a.l) (hb : Ok b.l) : Res (fun x => ∃ y z, In a.l y ∧ In b.l z ∧ x = y + z) (zi a b) :=
  ((Sum_gr ha hb).res (pairs_ne fun s _ t _ => some_ne)).congr fun x => In_sum (fun s hs => cn_mem ha.1 hs) (fun s hs => cn_mem hb.1 hs)
end Go.VS

