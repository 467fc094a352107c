/- Nothing of a statement is proved in this text alone: it is part 6 of the proof's own tools, an evaluator of the code over deep values, its soundness, and what it makes of this seat's functions. Conditions: none beyond the statement's own. -/
import Derived.Test.YtpkjnefhnedfdaaGreatDoorVsRCAdd5
set_option linter.unusedSimpArgs false
set_option linter.unusedVariables false
namespace Go.VS
open Go Go.Proofs
set_option maxHeartbeats 0
set_option linter.unusedSimpArgs false
set_option linter.unusedVariables false
theorem zadd_rw {x : Nat} (h : x ≤ 9223372036854775807) : I (w64 (0 + ((x : Nat) : Int))) = I ((x : Nat) : Int) := by
  congr 1; unfold w64; rw [IntKind.wrap_i64]; omega
theorem add_rw {x y : Nat} (h : x + y ≤ 9223372036854775807) : I (w64 (((x : Nat) : Int) + ((y : Nat) : Int))) = I ((x + y : Nat) : Int) := by
  congr 1; unfold w64; rw [IntKind.wrap_i64]; omega
theorem sub0_rw {x : Nat} (h : x ≤ 9223372036854775807) : I (w64 (((x : Nat) : Int) - 0)) = I ((x : Nat) : Int) := by
  congr 1; unfold w64; rw [IntKind.wrap_i64]; omega

theorem nemp_add {a b : List S_Span} (h : decide (((a.length + b.length : Nat) : Int) > 0) = true) (ha : a.isEmpty = true) : b.isEmpty = false := by
  have h := of_decide_eq_true h
  cases a with
  | nil => cases b with
    | nil => simp at h
    | cons => rfl
  | cons => cases ha
theorem emp1 {a b : List S_Span} (h : decide (((a.length + b.length : Nat) : Int) > 0) = false) : a.isEmpty = true := by
  have h := of_decide_eq_false h
  cases a with
  | nil => rfl
  | cons => simp at h; omega
theorem emp2 {a b : List S_Span} (h : decide (((a.length + b.length : Nat) : Int) > 0) = false) : b.isEmpty = true := by
  have h := of_decide_eq_false h
  cases b with
  | nil => rfl
  | cons => simp at h; omega

def sd233 (b : GS S_Span) (i4p2 : Nat) (q4p2_0 : List S_Span) (x4p2 : S_Span) (va4p2_0 : List S_Span) : St := ⟨65, [(12, I ((i4p2 + 1 : Nat) : Int)), (60, I ((i4p2 + 1 : Nat) : Int)), (55, .lref 3 ((w64 (((va4p2_0.length : Nat) : Int) - 1)).toNat) 2 1), (54, .lref 3 ((w64 (((va4p2_0.length : Nat) : Int) - 1)).toNat) 2 0), (53, I (imax ((va4p2_0.getD ((w64 (((va4p2_0.length : Nat) : Int) - 1)).toNat) default).hi) x4p2.hi)), (52, I x4p2.hi), (51, .lref 4 0 2 1), (50, I ((va4p2_0.getD ((w64 (((va4p2_0.length : Nat) : Int) - 1)).toNat) default).hi)), (49, .lref 3 ((w64 (((va4p2_0.length : Nat) : Int) - 1)).toNat) 2 1), (48, .lref 3 ((w64 (((va4p2_0.length : Nat) : Int) - 1)).toNat) 2 0), (47, I (w64 (((va4p2_0.length : Nat) : Int) - 1))), (46, I ((va4p2_0.length : Nat) : Int)), (45, .lsl 3 0 va4p2_0.length 2 none), (44, I (w64 (((va4p2_0.length : Nat) : Int) - 1))), (43, I ((va4p2_0.length : Nat) : Int)), (42, .lsl 3 0 va4p2_0.length 2 none), (41, B true), (40, B true), (39, I (w64 (((va4p2_0.getD ((w64 (((va4p2_0.length : Nat) : Int) - 1)).toNat) default).hi) + 1))), (38, I ((va4p2_0.getD ((w64 (((va4p2_0.length : Nat) : Int) - 1)).toNat) default).hi)), (37, .lref 3 ((w64 (((va4p2_0.length : Nat) : Int) - 1)).toNat) 2 1), (36, .lref 3 ((w64 (((va4p2_0.length : Nat) : Int) - 1)).toNat) 2 0), (35, I (w64 (((va4p2_0.length : Nat) : Int) - 1))), (34, I ((va4p2_0.length : Nat) : Int)), (33, .lsl 3 0 va4p2_0.length 2 none), (32, I x4p2.lo), (31, .lref 4 0 2 0), (30, B true), (29, B true), (28, I ((va4p2_0.length : Nat) : Int)), (7, I ((va4p2_0.length : Nat) : Int)), (27, I ((va4p2_0.length : Nat) : Int)), (26, .lsl 3 0 va4p2_0.length 2 none), (25, B false), (24, B false), (23, B true), (22, I x4p2.hi), (21, .lref 4 0 2 1), (20, B false), (19, B false), (18, B true), (17, I x4p2.lo), (16, .lref 4 0 2 0), (6, .lref 4 0 2 0), (15, .agg [I x4p2.lo, I x4p2.hi]), (14, .lref 2 i4p2 2 0), (13, B true), (4, .lsl 3 0 va4p2_0.length 2 none), (10, .lsl 2 0 b.l.length 2 none), (11, I ((b.l.length : Nat) : Int)), (12, I ((i4p2 : Nat) : Int))], [(2, ⟨q4p2_0.map S_Span.D, 2, false⟩), (3, ⟨(va4p2_0.set ((w64 (((va4p2_0.length : Nat) : Int) - 1)).toNat) (⟨(va4p2_0.getD ((w64 (((va4p2_0.length : Nat) : Int) - 1)).toNat) default).lo, imax ((va4p2_0.getD ((w64 (((va4p2_0.length : Nat) : Int) - 1)).toNat) default).hi) x4p2.hi⟩ : S_Span)).map S_Span.D, 2, false⟩), (4, ⟨[.agg [I x4p2.lo, I x4p2.hi]], 2, false⟩)], 5, 3⟩

def sd234 (b : GS S_Span) (i4p2 : Nat) (q4p2_0 : List S_Span) (x4p2 : S_Span) (va4p2_0 : List S_Span) : St := ⟨65, [(12, I ((i4p2 + 1 : Nat) : Int)), (60, I ((i4p2 + 1 : Nat) : Int)), (4, .lsl 6 0 ((va4p2_0 ++ [x4p2]).length) 2 none), (59, .lsl 6 0 ((va4p2_0 ++ [x4p2]).length) 2 none), (58, .lsl 5 0 1 2 (some 1)), (57, .agg [I x4p2.lo, I x4p2.hi]), (56, .lsl 3 0 va4p2_0.length 2 none), (41, B false), (40, B false), (39, I (w64 (((va4p2_0.getD ((w64 (((va4p2_0.length : Nat) : Int) - 1)).toNat) default).hi) + 1))), (38, I ((va4p2_0.getD ((w64 (((va4p2_0.length : Nat) : Int) - 1)).toNat) default).hi)), (37, .lref 3 ((w64 (((va4p2_0.length : Nat) : Int) - 1)).toNat) 2 1), (36, .lref 3 ((w64 (((va4p2_0.length : Nat) : Int) - 1)).toNat) 2 0), (35, I (w64 (((va4p2_0.length : Nat) : Int) - 1))), (34, I ((va4p2_0.length : Nat) : Int)), (33, .lsl 3 0 va4p2_0.length 2 none), (32, I x4p2.lo), (31, .lref 4 0 2 0), (30, B true), (29, B true), (28, I ((va4p2_0.length : Nat) : Int)), (7, I ((va4p2_0.length : Nat) : Int)), (27, I ((va4p2_0.length : Nat) : Int)), (26, .lsl 3 0 va4p2_0.length 2 none), (25, B false), (24, B false), (23, B true), (22, I x4p2.hi), (21, .lref 4 0 2 1), (20, B false), (19, B false), (18, B true), (17, I x4p2.lo), (16, .lref 4 0 2 0), (6, .lref 4 0 2 0), (15, .agg [I x4p2.lo, I x4p2.hi]), (14, .lref 2 i4p2 2 0), (13, B true), (4, .lsl 3 0 va4p2_0.length 2 none), (10, .lsl 2 0 b.l.length 2 none), (11, I ((b.l.length : Nat) : Int)), (12, I ((i4p2 : Nat) : Int))], [(2, ⟨q4p2_0.map S_Span.D, 2, false⟩), (4, ⟨[.agg [I x4p2.lo, I x4p2.hi]], 2, false⟩), (5, ⟨[.agg [I x4p2.lo, I x4p2.hi]], 2, false⟩), (6, ⟨(va4p2_0 ++ [x4p2]).map S_Span.D, 2, false⟩)], 7, 3⟩

def sd235 (b : GS S_Span) (i4p2 : Nat) (q4p2_0 : List S_Span) (x4p2 : S_Span) (va4p2_0 : List S_Span) : St := ⟨65, [(12, I ((i4p2 + 1 : Nat) : Int)), (60, I ((i4p2 + 1 : Nat) : Int)), (4, .lsl 6 0 ((va4p2_0 ++ [x4p2]).length) 2 none), (59, .lsl 6 0 ((va4p2_0 ++ [x4p2]).length) 2 none), (58, .lsl 5 0 1 2 (some 1)), (57, .agg [I x4p2.lo, I x4p2.hi]), (56, .lsl 3 0 va4p2_0.length 2 none), (41, B false), (40, .tup []), (39, .tup []), (38, .tup []), (37, .tup []), (36, .tup []), (35, .tup []), (34, .tup []), (33, .tup []), (32, .tup []), (31, .tup []), (30, B false), (29, B false), (28, I ((va4p2_0.length : Nat) : Int)), (7, I ((va4p2_0.length : Nat) : Int)), (27, I ((va4p2_0.length : Nat) : Int)), (26, .lsl 3 0 va4p2_0.length 2 none), (25, B false), (24, B false), (23, B true), (22, I x4p2.hi), (21, .lref 4 0 2 1), (20, B false), (19, B false), (18, B true), (17, I x4p2.lo), (16, .lref 4 0 2 0), (6, .lref 4 0 2 0), (15, .agg [I x4p2.lo, I x4p2.hi]), (14, .lref 2 i4p2 2 0), (13, B true), (4, .lsl 3 0 va4p2_0.length 2 none), (10, .lsl 2 0 b.l.length 2 none), (11, I ((b.l.length : Nat) : Int)), (12, I ((i4p2 : Nat) : Int))], [(2, ⟨q4p2_0.map S_Span.D, 2, false⟩), (4, ⟨[.agg [I x4p2.lo, I x4p2.hi]], 2, false⟩), (5, ⟨[.agg [I x4p2.lo, I x4p2.hi]], 2, false⟩), (6, ⟨(va4p2_0 ++ [x4p2]).map S_Span.D, 2, false⟩)], 7, 3⟩

def sd236 (b : GS S_Span) (i4p2 : Nat) (q4p2_0 : List S_Span) (x4p2 : S_Span) : St := ⟨65, [(12, I ((i4p2 + 1 : Nat) : Int)), (60, I ((i4p2 + 1 : Nat) : Int)), (4, .lsl 5 0 1 2 none), (59, .lsl 5 0 1 2 none), (58, .lsl 4 0 1 2 (some 1)), (57, .agg [I x4p2.lo, I x4p2.hi]), (56, .sl true [] 0 none), (41, B false), (40, .tup []), (39, .tup []), (38, .tup []), (37, .tup []), (36, .tup []), (35, .tup []), (34, .tup []), (33, .tup []), (32, .tup []), (31, .tup []), (30, B false), (29, B false), (28, I 0), (7, I 0), (27, I 0), (26, .sl true [] 0 none), (25, B false), (24, B false), (23, B true), (22, I x4p2.hi), (21, .lref 3 0 2 1), (20, B false), (19, B false), (18, B true), (17, I x4p2.lo), (16, .lref 3 0 2 0), (6, .lref 3 0 2 0), (15, .agg [I x4p2.lo, I x4p2.hi]), (14, .lref 2 i4p2 2 0), (13, B true), (4, .sl true [] 0 none), (10, .lsl 2 0 b.l.length 2 none), (11, I ((b.l.length : Nat) : Int)), (12, I ((i4p2 : Nat) : Int))], [(2, ⟨q4p2_0.map S_Span.D, 2, false⟩), (3, ⟨[.agg [I x4p2.lo, I x4p2.hi]], 2, false⟩), (4, ⟨[.agg [I x4p2.lo, I x4p2.hi]], 2, false⟩), (5, ⟨[.agg [I x4p2.lo, I x4p2.hi]], 2, false⟩)], 6, 3⟩

inductive LR_ranges_gathered_4p2 where
  | x0 (va4p2_0 : List S_Span)
  | x1 (i4p2 : Nat) (x4p2 : S_Span) (va4p2_0 : List S_Span)
  | x2 (i4p2 : Nat) (x4p2 : S_Span) (va4p2_0 : List S_Span)
  | x3
  | x4 (i4p2 : Nat) (x4p2 : S_Span)
  | x5 (i4p2 : Nat) (x4p2 : S_Span)
instance : Inhabited LR_ranges_gathered_4p2 := ⟨.x0 default⟩
def zV : List S_Span → Nat → (List S_Span) → LR_ranges_gathered_4p2
  | [], i4p2, va4p2_0 => .x0 va4p2_0
  | x4p2 :: rest4p2, i4p2, va4p2_0 =>
    bif (zh x4p2.lo) then
      bif (zh x4p2.hi) then
        bif decide (((va4p2_0.length : Nat) : Int) > 0) then
          bif decide (x4p2.lo ≤ (w64 (((va4p2_0.getD ((w64 (((va4p2_0.length : Nat) : Int) - 1)).toNat) default).hi) + 1))) then
            zV rest4p2 (i4p2 + 1) (va4p2_0.set ((w64 (((va4p2_0.length : Nat) : Int) - 1)).toNat) (⟨(va4p2_0.getD ((w64 (((va4p2_0.length : Nat) : Int) - 1)).toNat) default).lo, imax ((va4p2_0.getD ((w64 (((va4p2_0.length : Nat) : Int) - 1)).toNat) default).hi) x4p2.hi⟩ : S_Span))
          else
            zV rest4p2 (i4p2 + 1) (va4p2_0 ++ [x4p2])
        else
          zV rest4p2 (i4p2 + 1) (va4p2_0 ++ [x4p2])
      else
        .x1 i4p2 x4p2 va4p2_0
    else
      .x2 i4p2 x4p2 va4p2_0
def zT : List S_Span → Nat → LR_ranges_gathered_4p2
  | [], i4p2 => .x3
  | x4p2 :: rest4p2, i4p2 =>
    bif (zh x4p2.lo) then
      bif (zh x4p2.hi) then
        zV rest4p2 (i4p2 + 1) [x4p2]
      else
        .x4 i4p2 x4p2
    else
      .x5 i4p2 x4p2
def zF (b : GS S_Span) (q4p2_0 : List S_Span) : LR_ranges_gathered_4p2 → Exit × St
  | .x0 va4p2_0 => ((.exit 0), ⟨65, [(13, B false), (4, .lsl 3 0 va4p2_0.length 2 none), (10, .lsl 2 0 b.l.length 2 none), (11, I ((b.l.length : Nat) : Int)), (12, I ((q4p2_0.length : Nat) : Int))], [(2, ⟨q4p2_0.map S_Span.D, 2, false⟩), (3, ⟨va4p2_0.map S_Span.D, 2, false⟩)], 4, 3⟩)
  | .x1 i4p2 x4p2 va4p2_0 => (.ret, ⟨65, [(3, I 2), (2, .sl true [] 0 none), (25, B true), (24, B true), (23, B false), (22, I x4p2.hi), (21, .lref 4 0 2 1), (20, B false), (19, B false), (18, B true), (17, I x4p2.lo), (16, .lref 4 0 2 0), (6, .lref 4 0 2 0), (15, .agg [I x4p2.lo, I x4p2.hi]), (14, .lref 2 i4p2 2 0), (13, B true), (4, .lsl 3 0 va4p2_0.length 2 none), (10, .lsl 2 0 b.l.length 2 none), (11, I ((b.l.length : Nat) : Int)), (12, I ((i4p2 : Nat) : Int))], [(2, ⟨q4p2_0.map S_Span.D, 2, false⟩), (3, ⟨va4p2_0.map S_Span.D, 2, false⟩), (4, ⟨[.agg [I x4p2.lo, I x4p2.hi]], 2, false⟩)], 5, 3⟩)
  | .x2 i4p2 x4p2 va4p2_0 => (.ret, ⟨65, [(3, I 2), (2, .sl true [] 0 none), (25, B true), (24, .tup []), (23, .tup []), (22, .tup []), (21, .tup []), (20, B true), (19, B true), (18, B false), (17, I x4p2.lo), (16, .lref 4 0 2 0), (6, .lref 4 0 2 0), (15, .agg [I x4p2.lo, I x4p2.hi]), (14, .lref 2 i4p2 2 0), (13, B true), (4, .lsl 3 0 va4p2_0.length 2 none), (10, .lsl 2 0 b.l.length 2 none), (11, I ((b.l.length : Nat) : Int)), (12, I ((i4p2 : Nat) : Int))], [(2, ⟨q4p2_0.map S_Span.D, 2, false⟩), (3, ⟨va4p2_0.map S_Span.D, 2, false⟩), (4, ⟨[.agg [I x4p2.lo, I x4p2.hi]], 2, false⟩)], 5, 3⟩)
  | .x3 => ((.exit 0), ⟨65, [(13, B false), (4, .sl true [] 0 none), (10, .lsl 2 0 b.l.length 2 none), (11, I ((b.l.length : Nat) : Int)), (12, I ((q4p2_0.length : Nat) : Int))], [(2, ⟨q4p2_0.map S_Span.D, 2, false⟩)], 3, 3⟩)
  | .x4 i4p2 x4p2 => (.ret, ⟨65, [(3, I 2), (2, .sl true [] 0 none), (25, B true), (24, B true), (23, B false), (22, I x4p2.hi), (21, .lref 3 0 2 1), (20, B false), (19, B false), (18, B true), (17, I x4p2.lo), (16, .lref 3 0 2 0), (6, .lref 3 0 2 0), (15, .agg [I x4p2.lo, I x4p2.hi]), (14, .lref 2 i4p2 2 0), (13, B true), (4, .sl true [] 0 none), (10, .lsl 2 0 b.l.length 2 none), (11, I ((b.l.length : Nat) : Int)), (12, I ((i4p2 : Nat) : Int))], [(2, ⟨q4p2_0.map S_Span.D, 2, false⟩), (3, ⟨[.agg [I x4p2.lo, I x4p2.hi]], 2, false⟩)], 4, 3⟩)
  | .x5 i4p2 x4p2 => (.ret, ⟨65, [(3, I 2), (2, .sl true [] 0 none), (25, B true), (24, .tup []), (23, .tup []), (22, .tup []), (21, .tup []), (20, B true), (19, B true), (18, B false), (17, I x4p2.lo), (16, .lref 3 0 2 0), (6, .lref 3 0 2 0), (15, .agg [I x4p2.lo, I x4p2.hi]), (14, .lref 2 i4p2 2 0), (13, B true), (4, .sl true [] 0 none), (10, .lsl 2 0 b.l.length 2 none), (11, I ((b.l.length : Nat) : Int)), (12, I ((i4p2 : Nat) : Int))], [(2, ⟨q4p2_0.map S_Span.D, 2, false⟩), (3, ⟨[.agg [I x4p2.lo, I x4p2.hi]], 2, false⟩)], 4, 3⟩)
def zM (b : GS S_Span) (q4p2_0 : List S_Span) : LR_ranges_gathered_4p2 → Prop
  | .x0 va4p2_0 => (1 ≤ va4p2_0.length) ∧ (va4p2_0.length ≤ q4p2_0.length)
  | .x1 i4p2 x4p2 va4p2_0 => (1 ≤ va4p2_0.length) ∧ (va4p2_0.length ≤ i4p2)
  | .x2 i4p2 x4p2 va4p2_0 => (1 ≤ va4p2_0.length) ∧ (va4p2_0.length ≤ i4p2)
  | .x3 => True
  | .x4 i4p2 x4p2 => True
  | .x5 i4p2 x4p2 => True
def ranges_gathered_4p2a_l_o1 (i4p2 : Nat) (x4p2 : S_Span) : List Ora := [.dec true, .op (some 14) ⟨.lref 2 i4p2 2 0, [], [], 4⟩, .op (some 15) ⟨.agg [I x4p2.lo, I x4p2.hi], [], [2], 4⟩, .pure (B (zh x4p2.lo))]
def ranges_gathered_4p2a_l_o2 (x4p2 : S_Span) (va4p2_0 : List S_Span) : List Ora := [.dec true, .pure (B (zh x4p2.hi)), .dec true, .dec true, .op (some 36) ⟨.lref 3 ((w64 (((va4p2_0.length : Nat) : Int) - 1)).toNat) 2 0, [], [], 5⟩, .op (some 38) ⟨I ((va4p2_0.getD ((w64 (((va4p2_0.length : Nat) : Int) - 1)).toNat) default).hi), [], [3], 5⟩]
theorem lp_ranges_gathered_4p2a (b : GS S_Span) (q4p2_0 : List S_Span) : ∀ (rest4p2 : List S_Span) (i4p2 : Nat) (va4p2_0 : List S_Span) (hd4p2 : q4p2_0.drop i4p2 = rest4p2) (hi4p2 : i4p2 ≤ q4p2_0.length) (hz4p2_va4p2_0 : 1 ≤ va4p2_0.length) (hq4p2 : q4p2_0.length = b.l.length) (hg4p2_va4p2_0 : va4p2_0.length ≤ i4p2) (hL4p2 : q4p2_0.length ≤ 1099511627776), (lim cfg).loop 69 lp69_4 ⟨65, [(4, .lsl 3 0 va4p2_0.length 2 none), (10, .lsl 2 0 b.l.length 2 none), (11, I ((b.l.length : Nat) : Int)), (12, I ((i4p2 : Nat) : Int))], [(2, ⟨q4p2_0.map S_Span.D, 2, false⟩), (3, ⟨va4p2_0.map S_Span.D, 2, false⟩)], 4, 3⟩ = some (zF b q4p2_0 (zV rest4p2 i4p2 va4p2_0)) := by
  intro rest4p2
  induction rest4p2 with
  | nil =>
    intro i4p2 va4p2_0 hd4p2 hi4p2 hz4p2_va4p2_0 hq4p2 hg4p2_va4p2_0 hL4p2
    unfold zV
    obtain rfl : i4p2 = q4p2_0.length := nil_eq hd4p2 hi4p2
    exact zS [.dec false] (And.intro (lt_no' hd4p2 hq4p2) trivial) (by kernel_rfl)
  | cons x4p2 rest4p2 ih =>
    intro i4p2 va4p2_0 hd4p2 hi4p2 hz4p2_va4p2_0 hq4p2 hg4p2_va4p2_0 hL4p2
    have hlt4p2 := zl hd4p2
    unfold zV
    have p1 := (idx_row (C := cfg) (nxt := 4) (t := 22) (ty := ty22) (te := ty25) (e := 25) (o := 2) (len := b.l.length) (sz := 2) (cap := none) (i := ((i4p2 : Nat) : Int)) (by kernel_rfl) rfl (by kernel_rfl) rfl (by omega) (by omega))
    have p2 := (load_row (C := cfg) (objs := [(2, ⟨q4p2_0.map S_Span.D, 2, false⟩), (3, ⟨va4p2_0.map S_Span.D, 2, false⟩)]) (nxt := 4) (t := 25) (ty := ty25) (o := 2) (n := i4p2) (sz := 2) (sub := 0) (ob := ⟨q4p2_0.map S_Span.D, 2, false⟩) (e := S_Span.D x4p2) (d := .agg [I x4p2.lo, I x4p2.hi]) (by kernel_rfl) (by kernel_rfl) rfl (row_at (f := S_Span.D) hd4p2) (by kernel_rfl))
    cases h10 : (zh x4p2.lo) with
    | true =>
      cases h11 : (zh x4p2.hi) with
      | true =>
        cases h12 : decide (((va4p2_0.length : Nat) : Int) > 0) with
        | true =>
          have g12 := of_decide_eq_true h12
          have p3 := (idx_row (C := cfg) (nxt := 5) (t := 23) (ty := ty23) (te := ty25) (e := 25) (o := 3) (len := va4p2_0.length) (sz := 2) (cap := none) (i := w64 (((va4p2_0.length : Nat) : Int) - 1)) (by kernel_rfl) rfl (by kernel_rfl) rfl (by simp only [List.length_append, List.length_cons, List.length_nil, zk] at * <;> omega) (by simp only [List.length_append, List.length_cons, List.length_nil, zk] at * <;> omega))
          have p4 := (load_row (C := cfg) (objs := [(2, ⟨q4p2_0.map S_Span.D, 2, false⟩), (3, ⟨va4p2_0.map S_Span.D, 2, false⟩), (4, ⟨[.agg [I x4p2.lo, I x4p2.hi]], 2, false⟩)]) (nxt := 5) (t := 3) (ty := ty3) (o := 3) (n := (w64 (((va4p2_0.length : Nat) : Int) - 1)).toNat) (sz := 2) (sub := 1) (ob := ⟨va4p2_0.map S_Span.D, 2, false⟩) (e := S_Span.D (va4p2_0.getD ((w64 (((va4p2_0.length : Nat) : Int) - 1)).toNat) default)) (d := I ((va4p2_0.getD ((w64 (((va4p2_0.length : Nat) : Int) - 1)).toNat) default).hi)) (by kernel_rfl) (by kernel_rfl) rfl (row_get (f := S_Span.D) (by simp only [List.length_append, List.length_cons, List.length_nil, zk] at * <;> omega)) (by kernel_rfl))
          cases h13 : decide (x4p2.lo ≤ (w64 (((va4p2_0.getD ((w64 (((va4p2_0.length : Nat) : Int) - 1)).toNat) default).hi) + 1))) with
          | true =>
            have g13 := of_decide_eq_true h13
            exact y7 (ks := [4, 10, 11, 12]) (st' := (sd233 b i4p2 q4p2_0 x4p2 va4p2_0)) ((ranges_gathered_4p2a_l_o1 i4p2 x4p2) ++ ((ranges_gathered_4p2a_l_o2 x4p2 va4p2_0) ++ [.dec true, .op (some 48) ⟨.lref 3 ((w64 (((va4p2_0.length : Nat) : Int) - 1)).toNat) 2 0, [], [], 5⟩, .op (some 50) ⟨I ((va4p2_0.getD ((w64 (((va4p2_0.length : Nat) : Int) - 1)).toNat) default).hi), [], [3], 5⟩, .op (some 54) ⟨.lref 3 ((w64 (((va4p2_0.length : Nat) : Int) - 1)).toNat) 2 0, [], [], 5⟩, .stS 3 ⟨.tup [], [(3, some ⟨(va4p2_0.set ((w64 (((va4p2_0.length : Nat) : Int) - 1)).toNat) (⟨(va4p2_0.getD ((w64 (((va4p2_0.length : Nat) : Int) - 1)).toNat) default).lo, imax ((va4p2_0.getD ((w64 (((va4p2_0.length : Nat) : Int) - 1)).toNat) default).hi) x4p2.hi⟩ : S_Span)).map S_Span.D, 2, false⟩)], [3], 5⟩, .rw 60 (I ((i4p2 + 1 : Nat) : Int))])) (And.intro (inc_rw (i := i4p2) (by have := zl hd4p2; omega)) (And.intro (store_row (C := cfg) (objs := [(2, ⟨q4p2_0.map S_Span.D, 2, false⟩), (3, ⟨va4p2_0.map S_Span.D, 2, false⟩), (4, ⟨[.agg [I x4p2.lo, I x4p2.hi]], 2, false⟩)]) (nxt := 5) (t := 3) (ty := ty3) (o := 3) (n := (w64 (((va4p2_0.length : Nat) : Int) - 1)).toNat) (sz := 2) (sub := 1) (els := va4p2_0.map S_Span.D) (els' := (va4p2_0.set ((w64 (((va4p2_0.length : Nat) : Int) - 1)).toNat) (⟨(va4p2_0.getD ((w64 (((va4p2_0.length : Nat) : Int) - 1)).toNat) default).lo, imax ((va4p2_0.getD ((w64 (((va4p2_0.length : Nat) : Int) - 1)).toNat) default).hi) x4p2.hi⟩ : S_Span)).map S_Span.D) (e := S_Span.D (va4p2_0.getD ((w64 (((va4p2_0.length : Nat) : Int) - 1)).toNat) default)) (e' := S_Span.D (⟨(va4p2_0.getD ((w64 (((va4p2_0.length : Nat) : Int) - 1)).toNat) default).lo, imax ((va4p2_0.getD ((w64 (((va4p2_0.length : Nat) : Int) - 1)).toNat) default).hi) x4p2.hi⟩ : S_Span)) (v := I (imax ((va4p2_0.getD ((w64 (((va4p2_0.length : Nat) : Int) - 1)).toNat) default).hi) x4p2.hi)) (by kernel_rfl) (by kernel_rfl) (row_get (f := S_Span.D) (by simp only [List.length_append, List.length_cons, List.length_nil, zk] at * <;> omega)) rfl (by kernel_rfl) rfl (by kernel_rfl) (row_set (f := S_Span.D))) (And.intro (idx_row (C := cfg) (nxt := 5) (t := 23) (ty := ty23) (te := ty25) (e := 25) (o := 3) (len := va4p2_0.length) (sz := 2) (cap := none) (i := w64 (((va4p2_0.length : Nat) : Int) - 1)) (by kernel_rfl) rfl (by kernel_rfl) rfl (by simp only [List.length_append, List.length_cons, List.length_nil, zk] at * <;> omega) (by simp only [List.length_append, List.length_cons, List.length_nil, zk] at * <;> omega)) (And.intro (load_row (C := cfg) (objs := [(2, ⟨q4p2_0.map S_Span.D, 2, false⟩), (3, ⟨va4p2_0.map S_Span.D, 2, false⟩), (4, ⟨[.agg [I x4p2.lo, I x4p2.hi]], 2, false⟩)]) (nxt := 5) (t := 3) (ty := ty3) (o := 3) (n := (w64 (((va4p2_0.length : Nat) : Int) - 1)).toNat) (sz := 2) (sub := 1) (ob := ⟨va4p2_0.map S_Span.D, 2, false⟩) (e := S_Span.D (va4p2_0.getD ((w64 (((va4p2_0.length : Nat) : Int) - 1)).toNat) default)) (d := I ((va4p2_0.getD ((w64 (((va4p2_0.length : Nat) : Int) - 1)).toNat) default).hi)) (by kernel_rfl) (by kernel_rfl) rfl (row_get (f := S_Span.D) (by simp only [List.length_append, List.length_cons, List.length_nil, zk] at * <;> omega)) (by kernel_rfl)) (And.intro (idx_row (C := cfg) (nxt := 5) (t := 23) (ty := ty23) (te := ty25) (e := 25) (o := 3) (len := va4p2_0.length) (sz := 2) (cap := none) (i := w64 (((va4p2_0.length : Nat) : Int) - 1)) (by kernel_rfl) rfl (by kernel_rfl) rfl (by simp only [List.length_append, List.length_cons, List.length_nil, zk] at * <;> omega) (by simp only [List.length_append, List.length_cons, List.length_nil, zk] at * <;> omega)) (And.intro h13 (And.intro p4 (And.intro p3 (And.intro h12 (And.intro h11 (And.intro (zo x4p2.hi) (And.intro h10 (And.intro (zo x4p2.lo) (And.intro p2 (And.intro p1 (And.intro (lt_at' hd4p2 hq4p2) trivial)))))))))))))))) (by kernel_rfl) (by (simp only [sd233, go_sem, List.length_set, Nat.reduceAdd, Nat.reduceEqDiff, Nat.reduceLT, Nat.reduceLeDiff, bI2, za.idsL, za.renL, za.snapAll, z6.idsL, z6.renL, z6.snapAll]) <;> rfl) (ih (i4p2 + 1) (va4p2_0.set ((w64 (((va4p2_0.length : Nat) : Int) - 1)).toNat) (⟨(va4p2_0.getD ((w64 (((va4p2_0.length : Nat) : Int) - 1)).toNat) default).lo, imax ((va4p2_0.getD ((w64 (((va4p2_0.length : Nat) : Int) - 1)).toNat) default).hi) x4p2.hi⟩ : S_Span)) (zn hd4p2) (zl hd4p2) (by simp only [List.length_set] at * <;> omega) (by omega) (by simp only [List.length_set] at * <;> omega) (by omega)) (by kernel_rfl)
          | false =>
            have g13 := of_decide_eq_false h13
            exact y7 (ks := [4, 10, 11, 12]) (st' := (sd234 b i4p2 q4p2_0 x4p2 va4p2_0)) ((ranges_gathered_4p2a_l_o1 i4p2 x4p2) ++ ((ranges_gathered_4p2a_l_o2 x4p2 va4p2_0) ++ [.dec false, .op (some 59) ⟨.lsl 6 0 ((va4p2_0 ++ [x4p2]).length) 2 none, [(3, none), (6, some ⟨(va4p2_0 ++ [x4p2]).map S_Span.D, 2, false⟩)], [3, 5], 7⟩, .rw 60 (I ((i4p2 + 1 : Nat) : Int))])) (And.intro (inc_rw (i := i4p2) (by have := zl hd4p2; omega)) (And.intro (app_row (f := S_Span.D) (te := ty25) (gO := zv [(2, ⟨q4p2_0.map S_Span.D, 2, false⟩), (3, ⟨va4p2_0.map S_Span.D, 2, false⟩), (4, ⟨[.agg [I x4p2.lo, I x4p2.hi]], 2, false⟩), (5, ⟨[.agg [I x4p2.lo, I x4p2.hi]], 2, false⟩)]) (nxt := 6) (o := 3) (o2 := 5) (fz := false) z6 va4p2_0 x4p2 (by kernel_rfl) (by kernel_rfl) rfl (by kernel_rfl) (by decide) ⟨by simp only [ty25, big] <;> (first | assumption | omega | (exact yi (by omega) (by omega)) | (exact zO (by omega)) | (exact zz (by omega)) | (exact zP (by omega)) | (exact zA (by omega)) | (exact zy _ (by omega)) | (simp only [zk] at * <;> omega) | (simp only [zr, GS.some_l, List.length_set, List.length_append, List.length_cons, List.length_nil] at * <;> first | with_reducible assumption | omega) | (simp only [zr, GS.some_l, List.length_set, List.length_append, List.length_cons, List.length_nil, zk] at * <;> first | with_reducible assumption | omega) | (simp at * <;> omega)), by simp only [big] <;> (first | assumption | omega | (exact yi (by omega) (by omega)) | (exact zO (by omega)) | (exact zz (by omega)) | (exact zP (by omega)) | (exact zA (by omega)) | (exact zy _ (by omega)) | (simp only [zk] at * <;> omega) | (simp only [zr, GS.some_l, List.length_set, List.length_append, List.length_cons, List.length_nil] at * <;> first | with_reducible assumption | omega) | (simp only [zr, GS.some_l, List.length_set, List.length_append, List.length_cons, List.length_nil, zk] at * <;> first | with_reducible assumption | omega) | (simp at * <;> omega))⟩) (And.intro h13 (And.intro p4 (And.intro p3 (And.intro h12 (And.intro h11 (And.intro (zo x4p2.hi) (And.intro h10 (And.intro (zo x4p2.lo) (And.intro p2 (And.intro p1 (And.intro (lt_at' hd4p2 hq4p2) trivial))))))))))))) (by kernel_rfl) (by (simp only [sd234, go_sem, List.length_set, Nat.reduceAdd, Nat.reduceEqDiff, Nat.reduceLT, Nat.reduceLeDiff, bI2, za.idsL, za.renL, za.snapAll, z6.idsL, z6.renL, z6.snapAll]) <;> rfl) (ih (i4p2 + 1) (va4p2_0 ++ [x4p2]) (zn hd4p2) (zl hd4p2) (by simp only [List.length_append, List.length_cons, List.length_nil] at * <;> omega) (by omega) (by simp only [List.length_append, List.length_cons, List.length_nil] at * <;> omega) (by omega)) (by kernel_rfl)
        | false =>
          have g12 := of_decide_eq_false h12
          exact y7 (ks := [4, 10, 11, 12]) (st' := (sd235 b i4p2 q4p2_0 x4p2 va4p2_0)) ((ranges_gathered_4p2a_l_o1 i4p2 x4p2) ++ [.dec true, .pure (B (zh x4p2.hi)), .dec true, .dec false, .op (some 59) ⟨.lsl 6 0 ((va4p2_0 ++ [x4p2]).length) 2 none, [(3, none), (6, some ⟨(va4p2_0 ++ [x4p2]).map S_Span.D, 2, false⟩)], [3, 5], 7⟩, .rw 60 (I ((i4p2 + 1 : Nat) : Int))]) (And.intro (inc_rw (i := i4p2) (by have := zl hd4p2; omega)) (And.intro (app_row (f := S_Span.D) (te := ty25) (gO := zv [(2, ⟨q4p2_0.map S_Span.D, 2, false⟩), (3, ⟨va4p2_0.map S_Span.D, 2, false⟩), (4, ⟨[.agg [I x4p2.lo, I x4p2.hi]], 2, false⟩), (5, ⟨[.agg [I x4p2.lo, I x4p2.hi]], 2, false⟩)]) (nxt := 6) (o := 3) (o2 := 5) (fz := false) z6 va4p2_0 x4p2 (by kernel_rfl) (by kernel_rfl) rfl (by kernel_rfl) (by decide) ⟨by simp only [ty25, big] <;> (first | assumption | omega | (exact yi (by omega) (by omega)) | (exact zO (by omega)) | (exact zz (by omega)) | (exact zP (by omega)) | (exact zA (by omega)) | (exact zy _ (by omega)) | (simp only [zk] at * <;> omega) | (simp only [zr, GS.some_l, List.length_set, List.length_append, List.length_cons, List.length_nil] at * <;> first | with_reducible assumption | omega) | (simp only [zr, GS.some_l, List.length_set, List.length_append, List.length_cons, List.length_nil, zk] at * <;> first | with_reducible assumption | omega) | (simp at * <;> omega)), by simp only [big] <;> (first | assumption | omega | (exact yi (by omega) (by omega)) | (exact zO (by omega)) | (exact zz (by omega)) | (exact zP (by omega)) | (exact zA (by omega)) | (exact zy _ (by omega)) | (simp only [zk] at * <;> omega) | (simp only [zr, GS.some_l, List.length_set, List.length_append, List.length_cons, List.length_nil] at * <;> first | with_reducible assumption | omega) | (simp only [zr, GS.some_l, List.length_set, List.length_append, List.length_cons, List.length_nil, zk] at * <;> first | with_reducible assumption | omega) | (simp at * <;> omega))⟩) (And.intro h12 (And.intro h11 (And.intro (zo x4p2.hi) (And.intro h10 (And.intro (zo x4p2.lo) (And.intro p2 (And.intro p1 (And.intro (lt_at' hd4p2 hq4p2) trivial)))))))))) (by kernel_rfl) (by (simp only [sd235, go_sem, List.length_set, Nat.reduceAdd, Nat.reduceEqDiff, Nat.reduceLT, Nat.reduceLeDiff, bI2, za.idsL, za.renL, za.snapAll, z6.idsL, z6.renL, z6.snapAll]) <;> rfl) (ih (i4p2 + 1) (va4p2_0 ++ [x4p2]) (zn hd4p2) (zl hd4p2) (by omega) (by omega) (by omega) (by omega)) (by kernel_rfl)
      | false =>
        exact zS ((ranges_gathered_4p2a_l_o1 i4p2 x4p2) ++ [.dec true, .pure (B (zh x4p2.hi)), .dec false]) (And.intro h11 (And.intro (zo x4p2.hi) (And.intro h10 (And.intro (zo x4p2.lo) (And.intro p2 (And.intro p1 (And.intro (lt_at' hd4p2 hq4p2) trivial))))))) (by kernel_rfl)
    | false =>
      exact zS ((ranges_gathered_4p2a_l_o1 i4p2 x4p2) ++ [.dec false]) (And.intro h10 (And.intro (zo x4p2.lo) (And.intro p2 (And.intro p1 (And.intro (lt_at' hd4p2 hq4p2) trivial))))) (by kernel_rfl)
theorem ivt_ranges_gathered_4p2a (b : GS S_Span) (q4p2_0 : List S_Span) : ∀ (rest4p2 : List S_Span) (i4p2 : Nat) (va4p2_0 : List S_Span) (hd4p2 : q4p2_0.drop i4p2 = rest4p2) (hi4p2 : i4p2 ≤ q4p2_0.length) (hz4p2_va4p2_0 : 1 ≤ va4p2_0.length) (hq4p2 : q4p2_0.length = b.l.length) (hg4p2_va4p2_0 : va4p2_0.length ≤ i4p2) (hL4p2 : q4p2_0.length ≤ 1099511627776), zM b q4p2_0 (zV rest4p2 i4p2 va4p2_0) := by
  intro rest4p2
  induction rest4p2 with
  | nil =>
    intro i4p2 va4p2_0 hd4p2 hi4p2 hz4p2_va4p2_0 hq4p2 hg4p2_va4p2_0 hL4p2
    unfold zV
    obtain rfl : i4p2 = q4p2_0.length := nil_eq hd4p2 hi4p2
    exact ⟨hz4p2_va4p2_0, hg4p2_va4p2_0⟩
  | cons x4p2 rest4p2 ih =>
    intro i4p2 va4p2_0 hd4p2 hi4p2 hz4p2_va4p2_0 hq4p2 hg4p2_va4p2_0 hL4p2
    have hlt4p2 := zl hd4p2
    unfold zV
    cases h10 : (zh x4p2.lo) with
    | true =>
      cases h11 : (zh x4p2.hi) with
      | true =>
        cases h12 : decide (((va4p2_0.length : Nat) : Int) > 0) with
        | true =>
          have g12 := of_decide_eq_true h12
          cases h13 : decide (x4p2.lo ≤ (w64 (((va4p2_0.getD ((w64 (((va4p2_0.length : Nat) : Int) - 1)).toNat) default).hi) + 1))) with
          | true =>
            have g13 := of_decide_eq_true h13
            exact ih (i4p2 + 1) (va4p2_0.set ((w64 (((va4p2_0.length : Nat) : Int) - 1)).toNat) (⟨(va4p2_0.getD ((w64 (((va4p2_0.length : Nat) : Int) - 1)).toNat) default).lo, imax ((va4p2_0.getD ((w64 (((va4p2_0.length : Nat) : Int) - 1)).toNat) default).hi) x4p2.hi⟩ : S_Span)) (zn hd4p2) (zl hd4p2) (by simp only [List.length_set] at * <;> omega) (by omega) (by simp only [List.length_set] at * <;> omega) (by omega)
          | false =>
            have g13 := of_decide_eq_false h13
            exact ih (i4p2 + 1) (va4p2_0 ++ [x4p2]) (zn hd4p2) (zl hd4p2) (by simp only [List.length_append, List.length_cons, List.length_nil] at * <;> omega) (by omega) (by simp only [List.length_append, List.length_cons, List.length_nil] at * <;> omega) (by omega)
        | false =>
          have g12 := of_decide_eq_false h12
          exact ih (i4p2 + 1) (va4p2_0 ++ [x4p2]) (zn hd4p2) (zl hd4p2) (by omega) (by omega) (by omega) (by omega)
      | false =>
        exact ⟨hz4p2_va4p2_0, hg4p2_va4p2_0⟩
    | false =>
      exact ⟨hz4p2_va4p2_0, hg4p2_va4p2_0⟩
def ranges_gathered_4p2_l_o1 (i4p2 : Nat) (x4p2 : S_Span) : List Ora := [.dec true, .op (some 14) ⟨.lref 2 i4p2 2 0, [], [], 3⟩, .op (some 15) ⟨.agg [I x4p2.lo, I x4p2.hi], [], [2], 3⟩, .pure (B (zh x4p2.lo))]
theorem lp_ranges_gathered_4p2 (b : GS S_Span) (q4p2_0 : List S_Span) : ∀ (rest4p2 : List S_Span) (i4p2 : Nat) (hd4p2 : q4p2_0.drop i4p2 = rest4p2) (hi4p2 : i4p2 ≤ q4p2_0.length) (hq4p2 : q4p2_0.length = b.l.length) (hL4p2 : q4p2_0.length ≤ 1099511627776), (lim cfg).loop 69 lp69_4 ⟨65, [(4, .sl true [] 0 none), (10, .lsl 2 0 b.l.length 2 none), (11, I ((b.l.length : Nat) : Int)), (12, I ((i4p2 : Nat) : Int))], [(2, ⟨q4p2_0.map S_Span.D, 2, false⟩)], 3, 3⟩ = some (zF b q4p2_0 (zT rest4p2 i4p2)) := by
  intro rest4p2
  induction rest4p2 with
  | nil =>
    intro i4p2 hd4p2 hi4p2 hq4p2 hL4p2
    unfold zT
    obtain rfl : i4p2 = q4p2_0.length := nil_eq hd4p2 hi4p2
    exact zS [.dec false] (And.intro (lt_no' hd4p2 hq4p2) trivial) (by kernel_rfl)
  | cons x4p2 rest4p2 ih =>
    intro i4p2 hd4p2 hi4p2 hq4p2 hL4p2
    have hlt4p2 := zl hd4p2
    unfold zT
    dsimp only
    have p1 := (idx_row (C := cfg) (nxt := 3) (t := 22) (ty := ty22) (te := ty25) (e := 25) (o := 2) (len := b.l.length) (sz := 2) (cap := none) (i := ((i4p2 : Nat) : Int)) (by kernel_rfl) rfl (by kernel_rfl) rfl (by omega) (by omega))
    have p2 := (load_row (C := cfg) (objs := [(2, ⟨q4p2_0.map S_Span.D, 2, false⟩)]) (nxt := 3) (t := 25) (ty := ty25) (o := 2) (n := i4p2) (sz := 2) (sub := 0) (ob := ⟨q4p2_0.map S_Span.D, 2, false⟩) (e := S_Span.D x4p2) (d := .agg [I x4p2.lo, I x4p2.hi]) (by kernel_rfl) (by kernel_rfl) rfl (row_at (f := S_Span.D) hd4p2) (by kernel_rfl))
    cases h14 : (zh x4p2.lo) with
    | true =>
      cases h15 : (zh x4p2.hi) with
      | true =>
        exact y7 (ks := [4, 10, 11, 12]) (st' := (sd236 b i4p2 q4p2_0 x4p2)) ((ranges_gathered_4p2_l_o1 i4p2 x4p2) ++ [.dec true, .pure (B (zh x4p2.hi)), .dec true, .dec false, .rw 60 (I ((i4p2 + 1 : Nat) : Int))]) (And.intro (inc_rw (i := i4p2) (by have := zl hd4p2; omega)) (And.intro (Eq.refl false) (And.intro h15 (And.intro (zo x4p2.hi) (And.intro h14 (And.intro (zo x4p2.lo) (And.intro p2 (And.intro p1 (And.intro (lt_at' hd4p2 hq4p2) trivial))))))))) (by kernel_rfl) (by (simp only [sd236, go_sem, List.length_set, Nat.reduceAdd, Nat.reduceEqDiff, Nat.reduceLT, Nat.reduceLeDiff, bI2, za.idsL, za.renL, za.snapAll, z6.idsL, z6.renL, z6.snapAll]) <;> rfl) (lp_ranges_gathered_4p2a b q4p2_0 _ (i4p2 + 1) [x4p2] (zn hd4p2) (zl hd4p2) (by simp only [List.length_append, List.length_cons, List.length_nil] at * <;> omega) (by omega) (by simp only [List.length_append, List.length_cons, List.length_nil] at * <;> omega) (by omega)) (by kernel_rfl)
      | false =>
        exact zS ((ranges_gathered_4p2_l_o1 i4p2 x4p2) ++ [.dec true, .pure (B (zh x4p2.hi)), .dec false]) (And.intro h15 (And.intro (zo x4p2.hi) (And.intro h14 (And.intro (zo x4p2.lo) (And.intro p2 (And.intro p1 (And.intro (lt_at' hd4p2 hq4p2) trivial))))))) (by kernel_rfl)
    | false =>
      exact zS ((ranges_gathered_4p2_l_o1 i4p2 x4p2) ++ [.dec false]) (And.intro h14 (And.intro (zo x4p2.lo) (And.intro p2 (And.intro p1 (And.intro (lt_at' hd4p2 hq4p2) trivial))))) (by kernel_rfl)
theorem ivt_ranges_gathered_4p2 (b : GS S_Span) (q4p2_0 : List S_Span) : ∀ (rest4p2 : List S_Span) (i4p2 : Nat) (hd4p2 : q4p2_0.drop i4p2 = rest4p2) (hi4p2 : i4p2 ≤ q4p2_0.length) (hq4p2 : q4p2_0.length = b.l.length) (hL4p2 : q4p2_0.length ≤ 1099511627776), zM b q4p2_0 (zT rest4p2 i4p2) := by
  intro rest4p2
  induction rest4p2 with
  | nil =>
    intro i4p2 hd4p2 hi4p2 hq4p2 hL4p2
    unfold zT
    obtain rfl : i4p2 = q4p2_0.length := nil_eq hd4p2 hi4p2
    exact trivial
  | cons x4p2 rest4p2 ih =>
    intro i4p2 hd4p2 hi4p2 hq4p2 hL4p2
    have hlt4p2 := zl hd4p2
    unfold zT
    dsimp only
    cases h14 : (zh x4p2.lo) with
    | true =>
      cases h15 : (zh x4p2.hi) with
      | true =>
        exact ivt_ranges_gathered_4p2a b q4p2_0 _ (i4p2 + 1) [x4p2] (zn hd4p2) (zl hd4p2) (by simp only [List.length_append, List.length_cons, List.length_nil] at * <;> omega) (by omega) (by simp only [List.length_append, List.length_cons, List.length_nil] at * <;> omega) (by omega)
      | false =>
        exact trivial
    | false =>
      exact trivial

def sd263 (a : GS S_Span) (b : GS S_Span) (i4p3 : Nat) (q4p3_0 : List S_Span) (x4p3 : S_Span) (va4p3_0 : List S_Span) : St := ⟨65, [(12, I ((i4p3 + 1 : Nat) : Int)), (60, I ((i4p3 + 1 : Nat) : Int)), (55, .lref 3 ((w64 (((va4p3_0.length : Nat) : Int) - 1)).toNat) 2 1), (54, .lref 3 ((w64 (((va4p3_0.length : Nat) : Int) - 1)).toNat) 2 0), (53, I (imax ((va4p3_0.getD ((w64 (((va4p3_0.length : Nat) : Int) - 1)).toNat) default).hi) x4p3.hi)), (52, I x4p3.hi), (51, .lref 4 0 2 1), (50, I ((va4p3_0.getD ((w64 (((va4p3_0.length : Nat) : Int) - 1)).toNat) default).hi)), (49, .lref 3 ((w64 (((va4p3_0.length : Nat) : Int) - 1)).toNat) 2 1), (48, .lref 3 ((w64 (((va4p3_0.length : Nat) : Int) - 1)).toNat) 2 0), (47, I (w64 (((va4p3_0.length : Nat) : Int) - 1))), (46, I ((va4p3_0.length : Nat) : Int)), (45, .lsl 3 0 va4p3_0.length 2 none), (44, I (w64 (((va4p3_0.length : Nat) : Int) - 1))), (43, I ((va4p3_0.length : Nat) : Int)), (42, .lsl 3 0 va4p3_0.length 2 none), (41, B true), (40, B true), (39, I (w64 (((va4p3_0.getD ((w64 (((va4p3_0.length : Nat) : Int) - 1)).toNat) default).hi) + 1))), (38, I ((va4p3_0.getD ((w64 (((va4p3_0.length : Nat) : Int) - 1)).toNat) default).hi)), (37, .lref 3 ((w64 (((va4p3_0.length : Nat) : Int) - 1)).toNat) 2 1), (36, .lref 3 ((w64 (((va4p3_0.length : Nat) : Int) - 1)).toNat) 2 0), (35, I (w64 (((va4p3_0.length : Nat) : Int) - 1))), (34, I ((va4p3_0.length : Nat) : Int)), (33, .lsl 3 0 va4p3_0.length 2 none), (32, I x4p3.lo), (31, .lref 4 0 2 0), (30, B true), (29, B true), (28, I ((va4p3_0.length : Nat) : Int)), (7, I ((va4p3_0.length : Nat) : Int)), (27, I ((va4p3_0.length : Nat) : Int)), (26, .lsl 3 0 va4p3_0.length 2 none), (25, B false), (24, B false), (23, B true), (22, I x4p3.hi), (21, .lref 4 0 2 1), (20, B false), (19, B false), (18, B true), (17, I x4p3.lo), (16, .lref 4 0 2 0), (6, .lref 4 0 2 0), (15, .agg [I x4p3.lo, I x4p3.hi]), (14, .lref 2 i4p3 2 0), (13, B true), (4, .lsl 3 0 va4p3_0.length 2 none), (10, .lsl 2 0 ((a.l ++ b.l).length) 2 none), (11, I (((a.l ++ b.l).length : Nat) : Int)), (12, I ((i4p3 : Nat) : Int))], [(2, ⟨q4p3_0.map S_Span.D, 2, false⟩), (3, ⟨(va4p3_0.set ((w64 (((va4p3_0.length : Nat) : Int) - 1)).toNat) (⟨(va4p3_0.getD ((w64 (((va4p3_0.length : Nat) : Int) - 1)).toNat) default).lo, imax ((va4p3_0.getD ((w64 (((va4p3_0.length : Nat) : Int) - 1)).toNat) default).hi) x4p3.hi⟩ : S_Span)).map S_Span.D, 2, false⟩), (4, ⟨[.agg [I x4p3.lo, I x4p3.hi]], 2, false⟩)], 5, 3⟩

def sd264 (a : GS S_Span) (b : GS S_Span) (i4p3 : Nat) (q4p3_0 : List S_Span) (x4p3 : S_Span) (va4p3_0 : List S_Span) : St := ⟨65, [(12, I ((i4p3 + 1 : Nat) : Int)), (60, I ((i4p3 + 1 : Nat) : Int)), (4, .lsl 6 0 ((va4p3_0 ++ [x4p3]).length) 2 none), (59, .lsl 6 0 ((va4p3_0 ++ [x4p3]).length) 2 none), (58, .lsl 5 0 1 2 (some 1)), (57, .agg [I x4p3.lo, I x4p3.hi]), (56, .lsl 3 0 va4p3_0.length 2 none), (41, B false), (40, B false), (39, I (w64 (((va4p3_0.getD ((w64 (((va4p3_0.length : Nat) : Int) - 1)).toNat) default).hi) + 1))), (38, I ((va4p3_0.getD ((w64 (((va4p3_0.length : Nat) : Int) - 1)).toNat) default).hi)), (37, .lref 3 ((w64 (((va4p3_0.length : Nat) : Int) - 1)).toNat) 2 1), (36, .lref 3 ((w64 (((va4p3_0.length : Nat) : Int) - 1)).toNat) 2 0), (35, I (w64 (((va4p3_0.length : Nat) : Int) - 1))), (34, I ((va4p3_0.length : Nat) : Int)), (33, .lsl 3 0 va4p3_0.length 2 none), (32, I x4p3.lo), (31, .lref 4 0 2 0), (30, B true), (29, B true), (28, I ((va4p3_0.length : Nat) : Int)), (7, I ((va4p3_0.length : Nat) : Int)), (27, I ((va4p3_0.length : Nat) : Int)), (26, .lsl 3 0 va4p3_0.length 2 none), (25, B false), (24, B false), (23, B true), (22, I x4p3.hi), (21, .lref 4 0 2 1), (20, B false), (19, B false), (18, B true), (17, I x4p3.lo), (16, .lref 4 0 2 0), (6, .lref 4 0 2 0), (15, .agg [I x4p3.lo, I x4p3.hi]), (14, .lref 2 i4p3 2 0), (13, B true), (4, .lsl 3 0 va4p3_0.length 2 none), (10, .lsl 2 0 ((a.l ++ b.l).length) 2 none), (11, I (((a.l ++ b.l).length : Nat) : Int)), (12, I ((i4p3 : Nat) : Int))], [(2, ⟨q4p3_0.map S_Span.D, 2, false⟩), (4, ⟨[.agg [I x4p3.lo, I x4p3.hi]], 2, false⟩), (5, ⟨[.agg [I x4p3.lo, I x4p3.hi]], 2, false⟩), (6, ⟨(va4p3_0 ++ [x4p3]).map S_Span.D, 2, false⟩)], 7, 3⟩

def sd265 (a : GS S_Span) (b : GS S_Span) (i4p3 : Nat) (q4p3_0 : List S_Span) (x4p3 : S_Span) (va4p3_0 : List S_Span) : St := ⟨65, [(12, I ((i4p3 + 1 : Nat) : Int)), (60, I ((i4p3 + 1 : Nat) : Int)), (4, .lsl 6 0 ((va4p3_0 ++ [x4p3]).length) 2 none), (59, .lsl 6 0 ((va4p3_0 ++ [x4p3]).length) 2 none), (58, .lsl 5 0 1 2 (some 1)), (57, .agg [I x4p3.lo, I x4p3.hi]), (56, .lsl 3 0 va4p3_0.length 2 none), (41, B false), (40, .tup []), (39, .tup []), (38, .tup []), (37, .tup []), (36, .tup []), (35, .tup []), (34, .tup []), (33, .tup []), (32, .tup []), (31, .tup []), (30, B false), (29, B false), (28, I ((va4p3_0.length : Nat) : Int)), (7, I ((va4p3_0.length : Nat) : Int)), (27, I ((va4p3_0.length : Nat) : Int)), (26, .lsl 3 0 va4p3_0.length 2 none), (25, B false), (24, B false), (23, B true), (22, I x4p3.hi), (21, .lref 4 0 2 1), (20, B false), (19, B false), (18, B true), (17, I x4p3.lo), (16, .lref 4 0 2 0), (6, .lref 4 0 2 0), (15, .agg [I x4p3.lo, I x4p3.hi]), (14, .lref 2 i4p3 2 0), (13, B true), (4, .lsl 3 0 va4p3_0.length 2 none), (10, .lsl 2 0 ((a.l ++ b.l).length) 2 none), (11, I (((a.l ++ b.l).length : Nat) : Int)), (12, I ((i4p3 : Nat) : Int))], [(2, ⟨q4p3_0.map S_Span.D, 2, false⟩), (4, ⟨[.agg [I x4p3.lo, I x4p3.hi]], 2, false⟩), (5, ⟨[.agg [I x4p3.lo, I x4p3.hi]], 2, false⟩), (6, ⟨(va4p3_0 ++ [x4p3]).map S_Span.D, 2, false⟩)], 7, 3⟩

def sd266 (a : GS S_Span) (b : GS S_Span) (i4p3 : Nat) (q4p3_0 : List S_Span) (x4p3 : S_Span) : St := ⟨65, [(12, I ((i4p3 + 1 : Nat) : Int)), (60, I ((i4p3 + 1 : Nat) : Int)), (4, .lsl 5 0 1 2 none), (59, .lsl 5 0 1 2 none), (58, .lsl 4 0 1 2 (some 1)), (57, .agg [I x4p3.lo, I x4p3.hi]), (56, .sl true [] 0 none), (41, B false), (40, .tup []), (39, .tup []), (38, .tup []), (37, .tup []), (36, .tup []), (35, .tup []), (34, .tup []), (33, .tup []), (32, .tup []), (31, .tup []), (30, B false), (29, B false), (28, I 0), (7, I 0), (27, I 0), (26, .sl true [] 0 none), (25, B false), (24, B false), (23, B true), (22, I x4p3.hi), (21, .lref 3 0 2 1), (20, B false), (19, B false), (18, B true), (17, I x4p3.lo), (16, .lref 3 0 2 0), (6, .lref 3 0 2 0), (15, .agg [I x4p3.lo, I x4p3.hi]), (14, .lref 2 i4p3 2 0), (13, B true), (4, .sl true [] 0 none), (10, .lsl 2 0 ((a.l ++ b.l).length) 2 none), (11, I (((a.l ++ b.l).length : Nat) : Int)), (12, I ((i4p3 : Nat) : Int))], [(2, ⟨q4p3_0.map S_Span.D, 2, false⟩), (3, ⟨[.agg [I x4p3.lo, I x4p3.hi]], 2, false⟩), (4, ⟨[.agg [I x4p3.lo, I x4p3.hi]], 2, false⟩), (5, ⟨[.agg [I x4p3.lo, I x4p3.hi]], 2, false⟩)], 6, 3⟩

inductive LR_ranges_gathered_4p3 where
  | x0 (va4p3_0 : List S_Span)
  | x1 (i4p3 : Nat) (x4p3 : S_Span) (va4p3_0 : List S_Span)
  | x2 (i4p3 : Nat) (x4p3 : S_Span) (va4p3_0 : List S_Span)
  | x3
  | x4 (i4p3 : Nat) (x4p3 : S_Span)
  | x5 (i4p3 : Nat) (x4p3 : S_Span)
instance : Inhabited LR_ranges_gathered_4p3 := ⟨.x0 default⟩
def zW : List S_Span → Nat → (List S_Span) → LR_ranges_gathered_4p3
  | [], i4p3, va4p3_0 => .x0 va4p3_0
  | x4p3 :: rest4p3, i4p3, va4p3_0 =>
    bif (zh x4p3.lo) then
      bif (zh x4p3.hi) then
        bif decide (((va4p3_0.length : Nat) : Int) > 0) then
          bif decide (x4p3.lo ≤ (w64 (((va4p3_0.getD ((w64 (((va4p3_0.length : Nat) : Int) - 1)).toNat) default).hi) + 1))) then
            zW rest4p3 (i4p3 + 1) (va4p3_0.set ((w64 (((va4p3_0.length : Nat) : Int) - 1)).toNat) (⟨(va4p3_0.getD ((w64 (((va4p3_0.length : Nat) : Int) - 1)).toNat) default).lo, imax ((va4p3_0.getD ((w64 (((va4p3_0.length : Nat) : Int) - 1)).toNat) default).hi) x4p3.hi⟩ : S_Span))
          else
            zW rest4p3 (i4p3 + 1) (va4p3_0 ++ [x4p3])
        else
          zW rest4p3 (i4p3 + 1) (va4p3_0 ++ [x4p3])
      else
        .x1 i4p3 x4p3 va4p3_0
    else
      .x2 i4p3 x4p3 va4p3_0
def yb : List S_Span → Nat → LR_ranges_gathered_4p3
  | [], i4p3 => .x3
  | x4p3 :: rest4p3, i4p3 =>
    bif (zh x4p3.lo) then
      bif (zh x4p3.hi) then
        zW rest4p3 (i4p3 + 1) [x4p3]
      else
        .x4 i4p3 x4p3
    else
      .x5 i4p3 x4p3
def lr_ranges_gathered_4p3 (a : GS S_Span) (b : GS S_Span) (q4p3_0 : List S_Span) : LR_ranges_gathered_4p3 → Exit × St
  | .x0 va4p3_0 => ((.exit 0), ⟨65, [(13, B false), (4, .lsl 3 0 va4p3_0.length 2 none), (10, .lsl 2 0 ((a.l ++ b.l).length) 2 none), (11, I (((a.l ++ b.l).length : Nat) : Int)), (12, I ((q4p3_0.length : Nat) : Int))], [(2, ⟨q4p3_0.map S_Span.D, 2, false⟩), (3, ⟨va4p3_0.map S_Span.D, 2, false⟩)], 4, 3⟩)
  | .x1 i4p3 x4p3 va4p3_0 => (.ret, ⟨65, [(3, I 2), (2, .sl true [] 0 none), (25, B true), (24, B true), (23, B false), (22, I x4p3.hi), (21, .lref 4 0 2 1), (20, B false), (19, B false), (18, B true), (17, I x4p3.lo), (16, .lref 4 0 2 0), (6, .lref 4 0 2 0), (15, .agg [I x4p3.lo, I x4p3.hi]), (14, .lref 2 i4p3 2 0), (13, B true), (4, .lsl 3 0 va4p3_0.length 2 none), (10, .lsl 2 0 ((a.l ++ b.l).length) 2 none), (11, I (((a.l ++ b.l).length : Nat) : Int)), (12, I ((i4p3 : Nat) : Int))], [(2, ⟨q4p3_0.map S_Span.D, 2, false⟩), (3, ⟨va4p3_0.map S_Span.D, 2, false⟩), (4, ⟨[.agg [I x4p3.lo, I x4p3.hi]], 2, false⟩)], 5, 3⟩)
  | .x2 i4p3 x4p3 va4p3_0 => (.ret, ⟨65, [(3, I 2), (2, .sl true [] 0 none), (25, B true), (24, .tup []), (23, .tup []), (22, .tup []), (21, .tup []), (20, B true), (19, B true), (18, B false), (17, I x4p3.lo), (16, .lref 4 0 2 0), (6, .lref 4 0 2 0), (15, .agg [I x4p3.lo, I x4p3.hi]), (14, .lref 2 i4p3 2 0), (13, B true), (4, .lsl 3 0 va4p3_0.length 2 none), (10, .lsl 2 0 ((a.l ++ b.l).length) 2 none), (11, I (((a.l ++ b.l).length : Nat) : Int)), (12, I ((i4p3 : Nat) : Int))], [(2, ⟨q4p3_0.map S_Span.D, 2, false⟩), (3, ⟨va4p3_0.map S_Span.D, 2, false⟩), (4, ⟨[.agg [I x4p3.lo, I x4p3.hi]], 2, false⟩)], 5, 3⟩)
  | .x3 => ((.exit 0), ⟨65, [(13, B false), (4, .sl true [] 0 none), (10, .lsl 2 0 ((a.l ++ b.l).length) 2 none), (11, I (((a.l ++ b.l).length : Nat) : Int)), (12, I ((q4p3_0.length : Nat) : Int))], [(2, ⟨q4p3_0.map S_Span.D, 2, false⟩)], 3, 3⟩)
  | .x4 i4p3 x4p3 => (.ret, ⟨65, [(3, I 2), (2, .sl true [] 0 none), (25, B true), (24, B true), (23, B false), (22, I x4p3.hi), (21, .lref 3 0 2 1), (20, B false), (19, B false), (18, B true), (17, I x4p3.lo), (16, .lref 3 0 2 0), (6, .lref 3 0 2 0), (15, .agg [I x4p3.lo, I x4p3.hi]), (14, .lref 2 i4p3 2 0), (13, B true), (4, .sl true [] 0 none), (10, .lsl 2 0 ((a.l ++ b.l).length) 2 none), (11, I (((a.l ++ b.l).length : Nat) : Int)), (12, I ((i4p3 : Nat) : Int))], [(2, ⟨q4p3_0.map S_Span.D, 2, false⟩), (3, ⟨[.agg [I x4p3.lo, I x4p3.hi]], 2, false⟩)], 4, 3⟩)
  | .x5 i4p3 x4p3 => (.ret, ⟨65, [(3, I 2), (2, .sl true [] 0 none), (25, B true), (24, .tup []), (23, .tup []), (22, .tup []), (21, .tup []), (20, B true), (19, B true), (18, B false), (17, I x4p3.lo), (16, .lref 3 0 2 0), (6, .lref 3 0 2 0), (15, .agg [I x4p3.lo, I x4p3.hi]), (14, .lref 2 i4p3 2 0), (13, B true), (4, .sl true [] 0 none), (10, .lsl 2 0 ((a.l ++ b.l).length) 2 none), (11, I (((a.l ++ b.l).length : Nat) : Int)), (12, I ((i4p3 : Nat) : Int))], [(2, ⟨q4p3_0.map S_Span.D, 2, false⟩), (3, ⟨[.agg [I x4p3.lo, I x4p3.hi]], 2, false⟩)], 4, 3⟩)
def iv_ranges_gathered_4p3 (a : GS S_Span) (b : GS S_Span) (q4p3_0 : List S_Span) : LR_ranges_gathered_4p3 → Prop
  | .x0 va4p3_0 => (1 ≤ va4p3_0.length) ∧ (va4p3_0.length ≤ q4p3_0.length)
  | .x1 i4p3 x4p3 va4p3_0 => (1 ≤ va4p3_0.length) ∧ (va4p3_0.length ≤ i4p3)
  | .x2 i4p3 x4p3 va4p3_0 => (1 ≤ va4p3_0.length) ∧ (va4p3_0.length ≤ i4p3)
  | .x3 => True
  | .x4 i4p3 x4p3 => True
  | .x5 i4p3 x4p3 => True
def ranges_gathered_4p3a_l_o1 (i4p3 : Nat) (x4p3 : S_Span) : List Ora := [.dec true, .op (some 14) ⟨.lref 2 i4p3 2 0, [], [], 4⟩, .op (some 15) ⟨.agg [I x4p3.lo, I x4p3.hi], [], [2], 4⟩, .pure (B (zh x4p3.lo))]
def ranges_gathered_4p3a_l_o2 (x4p3 : S_Span) (va4p3_0 : List S_Span) : List Ora := [.dec true, .pure (B (zh x4p3.hi)), .dec true, .dec true, .op (some 36) ⟨.lref 3 ((w64 (((va4p3_0.length : Nat) : Int) - 1)).toNat) 2 0, [], [], 5⟩, .op (some 38) ⟨I ((va4p3_0.getD ((w64 (((va4p3_0.length : Nat) : Int) - 1)).toNat) default).hi), [], [3], 5⟩]
theorem lp_ranges_gathered_4p3a (a : GS S_Span) (b : GS S_Span) (q4p3_0 : List S_Span) : ∀ (rest4p3 : List S_Span) (i4p3 : Nat) (va4p3_0 : List S_Span) (hd4p3 : q4p3_0.drop i4p3 = rest4p3) (hi4p3 : i4p3 ≤ q4p3_0.length) (hz4p3_va4p3_0 : 1 ≤ va4p3_0.length) (hq4p3 : q4p3_0.length = (a.l ++ b.l).length) (hg4p3_va4p3_0 : va4p3_0.length ≤ i4p3) (hL4p3 : q4p3_0.length ≤ 1099511627776), (lim cfg).loop 69 lp69_4 ⟨65, [(4, .lsl 3 0 va4p3_0.length 2 none), (10, .lsl 2 0 ((a.l ++ b.l).length) 2 none), (11, I (((a.l ++ b.l).length : Nat) : Int)), (12, I ((i4p3 : Nat) : Int))], [(2, ⟨q4p3_0.map S_Span.D, 2, false⟩), (3, ⟨va4p3_0.map S_Span.D, 2, false⟩)], 4, 3⟩ = some (lr_ranges_gathered_4p3 a b q4p3_0 (zW rest4p3 i4p3 va4p3_0)) := by
  intro rest4p3
  induction rest4p3 with
  | nil =>
    intro i4p3 va4p3_0 hd4p3 hi4p3 hz4p3_va4p3_0 hq4p3 hg4p3_va4p3_0 hL4p3
    unfold zW
    obtain rfl : i4p3 = q4p3_0.length := nil_eq hd4p3 hi4p3
    exact zS [.dec false] (And.intro (lt_no' hd4p3 hq4p3) trivial) (by kernel_rfl)
  | cons x4p3 rest4p3 ih =>
    intro i4p3 va4p3_0 hd4p3 hi4p3 hz4p3_va4p3_0 hq4p3 hg4p3_va4p3_0 hL4p3
    have hlt4p3 := zl hd4p3
    unfold zW
    have p1 := (idx_row (C := cfg) (nxt := 4) (t := 22) (ty := ty22) (te := ty25) (e := 25) (o := 2) (len := (a.l ++ b.l).length) (sz := 2) (cap := none) (i := ((i4p3 : Nat) : Int)) (by kernel_rfl) rfl (by kernel_rfl) rfl (by omega) (by omega))
    have p2 := (load_row (C := cfg) (objs := [(2, ⟨q4p3_0.map S_Span.D, 2, false⟩), (3, ⟨va4p3_0.map S_Span.D, 2, false⟩)]) (nxt := 4) (t := 25) (ty := ty25) (o := 2) (n := i4p3) (sz := 2) (sub := 0) (ob := ⟨q4p3_0.map S_Span.D, 2, false⟩) (e := S_Span.D x4p3) (d := .agg [I x4p3.lo, I x4p3.hi]) (by kernel_rfl) (by kernel_rfl) rfl (row_at (f := S_Span.D) hd4p3) (by kernel_rfl))
    cases h27 : (zh x4p3.lo) with
    | true =>
      cases h28 : (zh x4p3.hi) with
      | true =>
        cases h29 : decide (((va4p3_0.length : Nat) : Int) > 0) with
        | true =>
          have g29 := of_decide_eq_true h29
          have p3 := (idx_row (C := cfg) (nxt := 5) (t := 23) (ty := ty23) (te := ty25) (e := 25) (o := 3) (len := va4p3_0.length) (sz := 2) (cap := none) (i := w64 (((va4p3_0.length : Nat) : Int) - 1)) (by kernel_rfl) rfl (by kernel_rfl) rfl (by simp only [List.length_append, List.length_cons, List.length_nil, zk] at * <;> omega) (by simp only [List.length_append, List.length_cons, List.length_nil, zk] at * <;> omega))
          have p4 := (load_row (C := cfg) (objs := [(2, ⟨q4p3_0.map S_Span.D, 2, false⟩), (3, ⟨va4p3_0.map S_Span.D, 2, false⟩), (4, ⟨[.agg [I x4p3.lo, I x4p3.hi]], 2, false⟩)]) (nxt := 5) (t := 3) (ty := ty3) (o := 3) (n := (w64 (((va4p3_0.length : Nat) : Int) - 1)).toNat) (sz := 2) (sub := 1) (ob := ⟨va4p3_0.map S_Span.D, 2, false⟩) (e := S_Span.D (va4p3_0.getD ((w64 (((va4p3_0.length : Nat) : Int) - 1)).toNat) default)) (d := I ((va4p3_0.getD ((w64 (((va4p3_0.length : Nat) : Int) - 1)).toNat) default).hi)) (by kernel_rfl) (by kernel_rfl) rfl (row_get (f := S_Span.D) (by simp only [List.length_append, List.length_cons, List.length_nil, zk] at * <;> omega)) (by kernel_rfl))
          cases h30 : decide (x4p3.lo ≤ (w64 (((va4p3_0.getD ((w64 (((va4p3_0.length : Nat) : Int) - 1)).toNat) default).hi) + 1))) with
          | true =>
            have g30 := of_decide_eq_true h30
            exact y7 (ks := [4, 10, 11, 12]) (st' := (sd263 a b i4p3 q4p3_0 x4p3 va4p3_0)) ((ranges_gathered_4p3a_l_o1 i4p3 x4p3) ++ ((ranges_gathered_4p3a_l_o2 x4p3 va4p3_0) ++ [.dec true, .op (some 48) ⟨.lref 3 ((w64 (((va4p3_0.length : Nat) : Int) - 1)).toNat) 2 0, [], [], 5⟩, .op (some 50) ⟨I ((va4p3_0.getD ((w64 (((va4p3_0.length : Nat) : Int) - 1)).toNat) default).hi), [], [3], 5⟩, .op (some 54) ⟨.lref 3 ((w64 (((va4p3_0.length : Nat) : Int) - 1)).toNat) 2 0, [], [], 5⟩, .stS 3 ⟨.tup [], [(3, some ⟨(va4p3_0.set ((w64 (((va4p3_0.length : Nat) : Int) - 1)).toNat) (⟨(va4p3_0.getD ((w64 (((va4p3_0.length : Nat) : Int) - 1)).toNat) default).lo, imax ((va4p3_0.getD ((w64 (((va4p3_0.length : Nat) : Int) - 1)).toNat) default).hi) x4p3.hi⟩ : S_Span)).map S_Span.D, 2, false⟩)], [3], 5⟩, .rw 60 (I ((i4p3 + 1 : Nat) : Int))])) (And.intro (inc_rw (i := i4p3) (by have := zl hd4p3; omega)) (And.intro (store_row (C := cfg) (objs := [(2, ⟨q4p3_0.map S_Span.D, 2, false⟩), (3, ⟨va4p3_0.map S_Span.D, 2, false⟩), (4, ⟨[.agg [I x4p3.lo, I x4p3.hi]], 2, false⟩)]) (nxt := 5) (t := 3) (ty := ty3) (o := 3) (n := (w64 (((va4p3_0.length : Nat) : Int) - 1)).toNat) (sz := 2) (sub := 1) (els := va4p3_0.map S_Span.D) (els' := (va4p3_0.set ((w64 (((va4p3_0.length : Nat) : Int) - 1)).toNat) (⟨(va4p3_0.getD ((w64 (((va4p3_0.length : Nat) : Int) - 1)).toNat) default).lo, imax ((va4p3_0.getD ((w64 (((va4p3_0.length : Nat) : Int) - 1)).toNat) default).hi) x4p3.hi⟩ : S_Span)).map S_Span.D) (e := S_Span.D (va4p3_0.getD ((w64 (((va4p3_0.length : Nat) : Int) - 1)).toNat) default)) (e' := S_Span.D (⟨(va4p3_0.getD ((w64 (((va4p3_0.length : Nat) : Int) - 1)).toNat) default).lo, imax ((va4p3_0.getD ((w64 (((va4p3_0.length : Nat) : Int) - 1)).toNat) default).hi) x4p3.hi⟩ : S_Span)) (v := I (imax ((va4p3_0.getD ((w64 (((va4p3_0.length : Nat) : Int) - 1)).toNat) default).hi) x4p3.hi)) (by kernel_rfl) (by kernel_rfl) (row_get (f := S_Span.D) (by simp only [List.length_append, List.length_cons, List.length_nil, zk] at * <;> omega)) rfl (by kernel_rfl) rfl (by kernel_rfl) (row_set (f := S_Span.D))) (And.intro (idx_row (C := cfg) (nxt := 5) (t := 23) (ty := ty23) (te := ty25) (e := 25) (o := 3) (len := va4p3_0.length) (sz := 2) (cap := none) (i := w64 (((va4p3_0.length : Nat) : Int) - 1)) (by kernel_rfl) rfl (by kernel_rfl) rfl (by simp only [List.length_append, List.length_cons, List.length_nil, zk] at * <;> omega) (by simp only [List.length_append, List.length_cons, List.length_nil, zk] at * <;> omega)) (And.intro (load_row (C := cfg) (objs := [(2, ⟨q4p3_0.map S_Span.D, 2, false⟩), (3, ⟨va4p3_0.map S_Span.D, 2, false⟩), (4, ⟨[.agg [I x4p3.lo, I x4p3.hi]], 2, false⟩)]) (nxt := 5) (t := 3) (ty := ty3) (o := 3) (n := (w64 (((va4p3_0.length : Nat) : Int) - 1)).toNat) (sz := 2) (sub := 1) (ob := ⟨va4p3_0.map S_Span.D, 2, false⟩) (e := S_Span.D (va4p3_0.getD ((w64 (((va4p3_0.length : Nat) : Int) - 1)).toNat) default)) (d := I ((va4p3_0.getD ((w64 (((va4p3_0.length : Nat) : Int) - 1)).toNat) default).hi)) (by kernel_rfl) (by kernel_rfl) rfl (row_get (f := S_Span.D) (by simp only [List.length_append, List.length_cons, List.length_nil, zk] at * <;> omega)) (by kernel_rfl)) (And.intro (idx_row (C := cfg) (nxt := 5) (t := 23) (ty := ty23) (te := ty25) (e := 25) (o := 3) (len := va4p3_0.length) (sz := 2) (cap := none) (i := w64 (((va4p3_0.length : Nat) : Int) - 1)) (by kernel_rfl) rfl (by kernel_rfl) rfl (by simp only [List.length_append, List.length_cons, List.length_nil, zk] at * <;> omega) (by simp only [List.length_append, List.length_cons, List.length_nil, zk] at * <;> omega)) (And.intro h30 (And.intro p4 (And.intro p3 (And.intro h29 (And.intro h28 (And.intro (zo x4p3.hi) (And.intro h27 (And.intro (zo x4p3.lo) (And.intro p2 (And.intro p1 (And.intro (lt_at' hd4p3 hq4p3) trivial)))))))))))))))) (by kernel_rfl) (by (simp only [sd263, go_sem, List.length_set, Nat.reduceAdd, Nat.reduceEqDiff, Nat.reduceLT, Nat.reduceLeDiff, bI2, za.idsL, za.renL, za.snapAll, z6.idsL, z6.renL, z6.snapAll]) <;> rfl) (ih (i4p3 + 1) (va4p3_0.set ((w64 (((va4p3_0.length : Nat) : Int) - 1)).toNat) (⟨(va4p3_0.getD ((w64 (((va4p3_0.length : Nat) : Int) - 1)).toNat) default).lo, imax ((va4p3_0.getD ((w64 (((va4p3_0.length : Nat) : Int) - 1)).toNat) default).hi) x4p3.hi⟩ : S_Span)) (zn hd4p3) (zl hd4p3) (by simp only [List.length_set] at * <;> omega) (by omega) (by simp only [List.length_set] at * <;> omega) (by omega)) (by kernel_rfl)
          | false =>
            have g30 := of_decide_eq_false h30
            exact y7 (ks := [4, 10, 11, 12]) (st' := (sd264 a b i4p3 q4p3_0 x4p3 va4p3_0)) ((ranges_gathered_4p3a_l_o1 i4p3 x4p3) ++ ((ranges_gathered_4p3a_l_o2 x4p3 va4p3_0) ++ [.dec false, .op (some 59) ⟨.lsl 6 0 ((va4p3_0 ++ [x4p3]).length) 2 none, [(3, none), (6, some ⟨(va4p3_0 ++ [x4p3]).map S_Span.D, 2, false⟩)], [3, 5], 7⟩, .rw 60 (I ((i4p3 + 1 : Nat) : Int))])) (And.intro (inc_rw (i := i4p3) (by have := zl hd4p3; omega)) (And.intro (app_row (f := S_Span.D) (te := ty25) (gO := zv [(2, ⟨q4p3_0.map S_Span.D, 2, false⟩), (3, ⟨va4p3_0.map S_Span.D, 2, false⟩), (4, ⟨[.agg [I x4p3.lo, I x4p3.hi]], 2, false⟩), (5, ⟨[.agg [I x4p3.lo, I x4p3.hi]], 2, false⟩)]) (nxt := 6) (o := 3) (o2 := 5) (fz := false) z6 va4p3_0 x4p3 (by kernel_rfl) (by kernel_rfl) rfl (by kernel_rfl) (by decide) ⟨by simp only [ty25, big] <;> (first | assumption | omega | (exact yi (by omega) (by omega)) | (exact zO (by omega)) | (exact zz (by omega)) | (exact zP (by omega)) | (exact zA (by omega)) | (exact zy _ (by omega)) | (simp only [zk] at * <;> omega) | (simp only [zr, GS.some_l, List.length_set, List.length_append, List.length_cons, List.length_nil] at * <;> first | with_reducible assumption | omega) | (simp only [zr, GS.some_l, List.length_set, List.length_append, List.length_cons, List.length_nil, zk] at * <;> first | with_reducible assumption | omega) | (simp at * <;> omega)), by simp only [big] <;> (first | assumption | omega | (exact yi (by omega) (by omega)) | (exact zO (by omega)) | (exact zz (by omega)) | (exact zP (by omega)) | (exact zA (by omega)) | (exact zy _ (by omega)) | (simp only [zk] at * <;> omega) | (simp only [zr, GS.some_l, List.length_set, List.length_append, List.length_cons, List.length_nil] at * <;> first | with_reducible assumption | omega) | (simp only [zr, GS.some_l, List.length_set, List.length_append, List.length_cons, List.length_nil, zk] at * <;> first | with_reducible assumption | omega) | (simp at * <;> omega))⟩) (And.intro h30 (And.intro p4 (And.intro p3 (And.intro h29 (And.intro h28 (And.intro (zo x4p3.hi) (And.intro h27 (And.intro (zo x4p3.lo) (And.intro p2 (And.intro p1 (And.intro (lt_at' hd4p3 hq4p3) trivial))))))))))))) (by kernel_rfl) (by (simp only [sd264, go_sem, List.length_set, Nat.reduceAdd, Nat.reduceEqDiff, Nat.reduceLT, Nat.reduceLeDiff, bI2, za.idsL, za.renL, za.snapAll, z6.idsL, z6.renL, z6.snapAll]) <;> rfl) (ih (i4p3 + 1) (va4p3_0 ++ [x4p3]) (zn hd4p3) (zl hd4p3) (by simp only [List.length_append, List.length_cons, List.length_nil] at * <;> omega) (by omega) (by simp only [List.length_append, List.length_cons, List.length_nil] at * <;> omega) (by omega)) (by kernel_rfl)
        | false =>
          have g29 := of_decide_eq_false h29
          exact y7 (ks := [4, 10, 11, 12]) (st' := (sd265 a b i4p3 q4p3_0 x4p3 va4p3_0)) ((ranges_gathered_4p3a_l_o1 i4p3 x4p3) ++ [.dec true, .pure (B (zh x4p3.hi)), .dec true, .dec false, .op (some 59) ⟨.lsl 6 0 ((va4p3_0 ++ [x4p3]).length) 2 none, [(3, none), (6, some ⟨(va4p3_0 ++ [x4p3]).map S_Span.D, 2, false⟩)], [3, 5], 7⟩, .rw 60 (I ((i4p3 + 1 : Nat) : Int))]) (And.intro (inc_rw (i := i4p3) (by have := zl hd4p3; omega)) (And.intro (app_row (f := S_Span.D) (te := ty25) (gO := zv [(2, ⟨q4p3_0.map S_Span.D, 2, false⟩), (3, ⟨va4p3_0.map S_Span.D, 2, false⟩), (4, ⟨[.agg [I x4p3.lo, I x4p3.hi]], 2, false⟩), (5, ⟨[.agg [I x4p3.lo, I x4p3.hi]], 2, false⟩)]) (nxt := 6) (o := 3) (o2 := 5) (fz := false) z6 va4p3_0 x4p3 (by kernel_rfl) (by kernel_rfl) rfl (by kernel_rfl) (by decide) ⟨by simp only [ty25, big] <;> (first | assumption | omega | (exact yi (by omega) (by omega)) | (exact zO (by omega)) | (exact zz (by omega)) | (exact zP (by omega)) | (exact zA (by omega)) | (exact zy _ (by omega)) | (simp only [zk] at * <;> omega) | (simp only [zr, GS.some_l, List.length_set, List.length_append, List.length_cons, List.length_nil] at * <;> first | with_reducible assumption | omega) | (simp only [zr, GS.some_l, List.length_set, List.length_append, List.length_cons, List.length_nil, zk] at * <;> first | with_reducible assumption | omega) | (simp at * <;> omega)), by simp only [big] <;> (first | assumption | omega | (exact yi (by omega) (by omega)) | (exact zO (by omega)) | (exact zz (by omega)) | (exact zP (by omega)) | (exact zA (by omega)) | (exact zy _ (by omega)) | (simp only [zk] at * <;> omega) | (simp only [zr, GS.some_l, List.length_set, List.length_append, List.length_cons, List.length_nil] at * <;> first | with_reducible assumption | omega) | (simp only [zr, GS.some_l, List.length_set, List.length_append, List.length_cons, List.length_nil, zk] at * <;> first | with_reducible assumption | omega) | (simp at * <;> omega))⟩) (And.intro h29 (And.intro h28 (And.intro (zo x4p3.hi) (And.intro h27 (And.intro (zo x4p3.lo) (And.intro p2 (And.intro p1 (And.intro (lt_at' hd4p3 hq4p3) trivial)))))))))) (by kernel_rfl) (by (simp only [sd265, go_sem, List.length_set, Nat.reduceAdd, Nat.reduceEqDiff, Nat.reduceLT, Nat.reduceLeDiff, bI2, za.idsL, za.renL, za.snapAll, z6.idsL, z6.renL, z6.snapAll]) <;> rfl) (ih (i4p3 + 1) (va4p3_0 ++ [x4p3]) (zn hd4p3) (zl hd4p3) (by omega) (by omega) (by omega) (by omega)) (by kernel_rfl)
      | false =>
        exact zS ((ranges_gathered_4p3a_l_o1 i4p3 x4p3) ++ [.dec true, .pure (B (zh x4p3.hi)), .dec false]) (And.intro h28 (And.intro (zo x4p3.hi) (And.intro h27 (And.intro (zo x4p3.lo) (And.intro p2 (And.intro p1 (And.intro (lt_at' hd4p3 hq4p3) trivial))))))) (by kernel_rfl)
    | false =>
      exact zS ((ranges_gathered_4p3a_l_o1 i4p3 x4p3) ++ [.dec false]) (And.intro h27 (And.intro (zo x4p3.lo) (And.intro p2 (And.intro p1 (And.intro (lt_at' hd4p3 hq4p3) trivial))))) (by kernel_rfl)
theorem ivt_ranges_gathered_4p3a (a : GS S_Span) (b : GS S_Span) (q4p3_0 : List S_Span) : ∀ (rest4p3 : List S_Span) (i4p3 : Nat) (va4p3_0 : List S_Span) (hd4p3 : q4p3_0.drop i4p3 = rest4p3) (hi4p3 : i4p3 ≤ q4p3_0.length) (hz4p3_va4p3_0 : 1 ≤ va4p3_0.length) (hq4p3 : q4p3_0.length = (a.l ++ b.l).length) (hg4p3_va4p3_0 : va4p3_0.length ≤ i4p3) (hL4p3 : q4p3_0.length ≤ 1099511627776), iv_ranges_gathered_4p3 a b q4p3_0 (zW rest4p3 i4p3 va4p3_0) := by
  intro rest4p3
  induction rest4p3 with
  | nil =>
    intro i4p3 va4p3_0 hd4p3 hi4p3 hz4p3_va4p3_0 hq4p3 hg4p3_va4p3_0 hL4p3
    unfold zW
    obtain rfl : i4p3 = q4p3_0.length := nil_eq hd4p3 hi4p3
    exact ⟨hz4p3_va4p3_0, hg4p3_va4p3_0⟩
  | cons x4p3 rest4p3 ih =>
    intro i4p3 va4p3_0 hd4p3 hi4p3 hz4p3_va4p3_0 hq4p3 hg4p3_va4p3_0 hL4p3
    have hlt4p3 := zl hd4p3
    unfold zW
    cases h27 : (zh x4p3.lo) with
    | true =>
      cases h28 : (zh x4p3.hi) with
      | true =>
        cases h29 : decide (((va4p3_0.length : Nat) : Int) > 0) with
        | true =>
          have g29 := of_decide_eq_true h29
          cases h30 : decide (x4p3.lo ≤ (w64 (((va4p3_0.getD ((w64 (((va4p3_0.length : Nat) : Int) - 1)).toNat) default).hi) + 1))) with
          | true =>
            have g30 := of_decide_eq_true h30
            exact ih (i4p3 + 1) (va4p3_0.set ((w64 (((va4p3_0.length : Nat) : Int) - 1)).toNat) (⟨(va4p3_0.getD ((w64 (((va4p3_0.length : Nat) : Int) - 1)).toNat) default).lo, imax ((va4p3_0.getD ((w64 (((va4p3_0.length : Nat) : Int) - 1)).toNat) default).hi) x4p3.hi⟩ : S_Span)) (zn hd4p3) (zl hd4p3) (by simp only [List.length_set] at * <;> omega) (by omega) (by simp only [List.length_set] at * <;> omega) (by omega)
          | false =>
            have g30 := of_decide_eq_false h30
            exact ih (i4p3 + 1) (va4p3_0 ++ [x4p3]) (zn hd4p3) (zl hd4p3) (by simp only [List.length_append, List.length_cons, List.length_nil] at * <;> omega) (by omega) (by simp only [List.length_append, List.length_cons, List.length_nil] at * <;> omega) (by omega)
        | false =>
          have g29 := of_decide_eq_false h29
          exact ih (i4p3 + 1) (va4p3_0 ++ [x4p3]) (zn hd4p3) (zl hd4p3) (by omega) (by omega) (by omega) (by omega)
      | false =>
        exact ⟨hz4p3_va4p3_0, hg4p3_va4p3_0⟩
    | false =>
      exact ⟨hz4p3_va4p3_0, hg4p3_va4p3_0⟩
def ranges_gathered_4p3_l_o1 (i4p3 : Nat) (x4p3 : S_Span) : List Ora := [.dec true, .op (some 14) ⟨.lref 2 i4p3 2 0, [], [], 3⟩, .op (some 15) ⟨.agg [I x4p3.lo, I x4p3.hi], [], [2], 3⟩, .pure (B (zh x4p3.lo))]
theorem lp_ranges_gathered_4p3 (a : GS S_Span) (b : GS S_Span) (q4p3_0 : List S_Span) : ∀ (rest4p3 : List S_Span) (i4p3 : Nat) (hd4p3 : q4p3_0.drop i4p3 = rest4p3) (hi4p3 : i4p3 ≤ q4p3_0.length) (hq4p3 : q4p3_0.length = (a.l ++ b.l).length) (hL4p3 : q4p3_0.length ≤ 1099511627776), (lim cfg).loop 69 lp69_4 ⟨65, [(4, .sl true [] 0 none), (10, .lsl 2 0 ((a.l ++ b.l).length) 2 none), (11, I (((a.l ++ b.l).length : Nat) : Int)), (12, I ((i4p3 : Nat) : Int))], [(2, ⟨q4p3_0.map S_Span.D, 2, false⟩)], 3, 3⟩ = some (lr_ranges_gathered_4p3 a b q4p3_0 (yb rest4p3 i4p3)) := by
  intro rest4p3
  induction rest4p3 with
  | nil =>
    intro i4p3 hd4p3 hi4p3 hq4p3 hL4p3
    unfold yb
    obtain rfl : i4p3 = q4p3_0.length := nil_eq hd4p3 hi4p3
    exact zS [.dec false] (And.intro (lt_no' hd4p3 hq4p3) trivial) (by kernel_rfl)
  | cons x4p3 rest4p3 ih =>
    intro i4p3 hd4p3 hi4p3 hq4p3 hL4p3
    have hlt4p3 := zl hd4p3
    unfold yb
    dsimp only
    have p1 := (idx_row (C := cfg) (nxt := 3) (t := 22) (ty := ty22) (te := ty25) (e := 25) (o := 2) (len := (a.l ++ b.l).length) (sz := 2) (cap := none) (i := ((i4p3 : Nat) : Int)) (by kernel_rfl) rfl (by kernel_rfl) rfl (by omega) (by omega))
    have p2 := (load_row (C := cfg) (objs := [(2, ⟨q4p3_0.map S_Span.D, 2, false⟩)]) (nxt := 3) (t := 25) (ty := ty25) (o := 2) (n := i4p3) (sz := 2) (sub := 0) (ob := ⟨q4p3_0.map S_Span.D, 2, false⟩) (e := S_Span.D x4p3) (d := .agg [I x4p3.lo, I x4p3.hi]) (by kernel_rfl) (by kernel_rfl) rfl (row_at (f := S_Span.D) hd4p3) (by kernel_rfl))
    cases h31 : (zh x4p3.lo) with
    | true =>
      cases h32 : (zh x4p3.hi) with
      | true =>
        exact y7 (ks := [4, 10, 11, 12]) (st' := (sd266 a b i4p3 q4p3_0 x4p3)) ((ranges_gathered_4p3_l_o1 i4p3 x4p3) ++ [.dec true, .pure (B (zh x4p3.hi)), .dec true, .dec false, .rw 60 (I ((i4p3 + 1 : Nat) : Int))]) (And.intro (inc_rw (i := i4p3) (by have := zl hd4p3; omega)) (And.intro (Eq.refl false) (And.intro h32 (And.intro (zo x4p3.hi) (And.intro h31 (And.intro (zo x4p3.lo) (And.intro p2 (And.intro p1 (And.intro (lt_at' hd4p3 hq4p3) trivial))))))))) (by kernel_rfl) (by (simp only [sd266, go_sem, List.length_set, Nat.reduceAdd, Nat.reduceEqDiff, Nat.reduceLT, Nat.reduceLeDiff, bI2, za.idsL, za.renL, za.snapAll, z6.idsL, z6.renL, z6.snapAll]) <;> rfl) (lp_ranges_gathered_4p3a a b q4p3_0 _ (i4p3 + 1) [x4p3] (zn hd4p3) (zl hd4p3) (by simp only [List.length_append, List.length_cons, List.length_nil] at * <;> omega) (by omega) (by simp only [List.length_append, List.length_cons, List.length_nil] at * <;> omega) (by omega)) (by kernel_rfl)
      | false =>
        exact zS ((ranges_gathered_4p3_l_o1 i4p3 x4p3) ++ [.dec true, .pure (B (zh x4p3.hi)), .dec false]) (And.intro h32 (And.intro (zo x4p3.hi) (And.intro h31 (And.intro (zo x4p3.lo) (And.intro p2 (And.intro p1 (And.intro (lt_at' hd4p3 hq4p3) trivial))))))) (by kernel_rfl)
    | false =>
      exact zS ((ranges_gathered_4p3_l_o1 i4p3 x4p3) ++ [.dec false]) (And.intro h31 (And.intro (zo x4p3.lo) (And.intro p2 (And.intro p1 (And.intro (lt_at' hd4p3 hq4p3) trivial))))) (by kernel_rfl)
theorem ivt_ranges_gathered_4p3 (a : GS S_Span) (b : GS S_Span) (q4p3_0 : List S_Span) : ∀ (rest4p3 : List S_Span) (i4p3 : Nat) (hd4p3 : q4p3_0.drop i4p3 = rest4p3) (hi4p3 : i4p3 ≤ q4p3_0.length) (hq4p3 : q4p3_0.length = (a.l ++ b.l).length) (hL4p3 : q4p3_0.length ≤ 1099511627776), iv_ranges_gathered_4p3 a b q4p3_0 (yb rest4p3 i4p3) := by
  intro rest4p3
  induction rest4p3 with
  | nil =>
    intro i4p3 hd4p3 hi4p3 hq4p3 hL4p3
    unfold yb
    obtain rfl : i4p3 = q4p3_0.length := nil_eq hd4p3 hi4p3
    exact trivial
  | cons x4p3 rest4p3 ih =>
    intro i4p3 hd4p3 hi4p3 hq4p3 hL4p3
    have hlt4p3 := zl hd4p3
    unfold yb
    dsimp only
    cases h31 : (zh x4p3.lo) with
    | true =>
      cases h32 : (zh x4p3.hi) with
      | true =>
        exact ivt_ranges_gathered_4p3a a b q4p3_0 _ (i4p3 + 1) [x4p3] (zn hd4p3) (zl hd4p3) (by simp only [List.length_append, List.length_cons, List.length_nil] at * <;> omega) (by omega) (by simp only [List.length_append, List.length_cons, List.length_nil] at * <;> omega) (by omega)
      | false =>
        exact trivial
    | false =>
      exact trivial

def zN (a : GS S_Span) (b : GS S_Span) : (GS S_Span) × Int :=
  bif ((y6 (GS.some [a, b])) != 0) then
    (GS.nil, (y6 (GS.some [a, b])))
  else
    bif decide (((a.l.length + b.l.length : Nat) : Int) > 0) then
      bif a.l.isEmpty then
        match zT (zf ze b.l) 0 with
        | .x0 va4p2_0 =>
          bif decide (((va4p2_0.length : Nat) : Int) > 64) then
            (GS.nil, 2)
          else
            (GS.some va4p2_0, 0)
        | .x1 i4p2 x4p2 va4p2_0 =>
          (GS.nil, 2)
        | .x2 i4p2 x4p2 va4p2_0 =>
          (GS.nil, 2)
        | .x3 =>
          (GS.nil, 0)
        | .x4 i4p2 x4p2 =>
          (GS.nil, 2)
        | .x5 i4p2 x4p2 =>
          (GS.nil, 2)
      else
        bif b.l.isEmpty then
          match zT (zf ze a.l) 0 with
          | .x0 va4p2_0 =>
            bif decide (((va4p2_0.length : Nat) : Int) > 64) then
              (GS.nil, 2)
            else
              (GS.some va4p2_0, 0)
          | .x1 i4p2 x4p2 va4p2_0 =>
            (GS.nil, 2)
          | .x2 i4p2 x4p2 va4p2_0 =>
            (GS.nil, 2)
          | .x3 =>
            (GS.nil, 0)
          | .x4 i4p2 x4p2 =>
            (GS.nil, 2)
          | .x5 i4p2 x4p2 =>
            (GS.nil, 2)
        else
          match yb (zf ze (a.l ++ b.l)) 0 with
          | .x0 va4p3_0 =>
            bif decide (((va4p3_0.length : Nat) : Int) > 64) then
              (GS.nil, 2)
            else
              (GS.some va4p3_0, 0)
          | .x1 i4p3 x4p3 va4p3_0 =>
            (GS.nil, 2)
          | .x2 i4p3 x4p3 va4p3_0 =>
            (GS.nil, 2)
          | .x3 =>
            (GS.nil, 0)
          | .x4 i4p3 x4p3 =>
            (GS.nil, 2)
          | .x5 i4p3 x4p3 =>
            (GS.nil, 2)
    else
      (GS.nil, 0)

def ranges_Union_o1 (a : GS S_Span) (b : GS S_Span) : List Ora := [.pure (I (y6 (GS.some [a, b]))), .dec false, .inl (.lsl 2 0 b.l.length 2 none) [(1, ⟨[.sl a.nl (a.l.map S_Span.D) (zsl a.nl 2) none, .sl b.nl (b.l.map S_Span.D) (zsl b.nl 2) none], 1, false⟩), (2, ⟨b.l.map S_Span.D, 2, false⟩)] 3]

def ranges_Union_o2 (a : GS S_Span) (b : GS S_Span) : List Ora := [.pure (I (y6 (GS.some [a, b]))), .dec false, .inl (.lsl 2 0 a.l.length 2 none) [(1, ⟨[.sl a.nl (a.l.map S_Span.D) (zsl a.nl 2) none, .sl b.nl (b.l.map S_Span.D) (zsl b.nl 2) none], 1, false⟩), (2, ⟨a.l.map S_Span.D, 2, false⟩)] 3]

def ranges_Union_o3 (a : GS S_Span) (b : GS S_Span) : List Ora := [.pure (I (y6 (GS.some [a, b]))), .dec false, .inl (.lsl 2 0 ((a.l ++ b.l).length) 2 none) [(1, ⟨[.sl a.nl (a.l.map S_Span.D) (zsl a.nl 2) none, .sl b.nl (b.l.map S_Span.D) (zsl b.nl 2) none], 1, false⟩), (2, ⟨(a.l ++ b.l).map S_Span.D, 2, false⟩)] 3]

noncomputable def lp96_3 : Code := subC [1, 1, 0, 1, 0, 0] (bodyC Tryz.f96)

def sd223 (a : GS S_Span) (b : GS S_Span) : St := ⟨36, [(0, .lsl 1 0 2 1 (some 2)), (3, I ((a.l.length : Nat) : Int)), (9, .lsl 1 0 2 1 (some 2)), (10, I 2), (11, I 1)], [(1, ⟨[.sl a.nl (a.l.map S_Span.D) (zsl a.nl 2) none, .sl b.nl (b.l.map S_Span.D) (zsl b.nl 2) none], 1, false⟩)], 2, 2⟩

def sd222 (a : GS S_Span) (b : GS S_Span) : St := ⟨36, [(0, .lsl 1 0 2 1 (some 2)), (3, I 0), (9, .lsl 1 0 2 1 (some 2)), (10, I 2), (11, I 0)], [(1, ⟨[.sl a.nl (a.l.map S_Span.D) (zsl a.nl 2) none, .sl b.nl (b.l.map S_Span.D) (zsl b.nl 2) none], 1, false⟩)], 2, 2⟩

def sd224 (a : GS S_Span) (b : GS S_Span) : St := ⟨36, [(0, .lsl 1 0 2 1 (some 2)), (3, I ((a.l.length + b.l.length : Nat) : Int)), (9, .lsl 1 0 2 1 (some 2)), (10, I 2), (11, I 2)], [(1, ⟨[.sl a.nl (a.l.map S_Span.D) (zsl a.nl 2) none, .sl b.nl (b.l.map S_Span.D) (zsl b.nl 2) none], 1, false⟩)], 2, 2⟩

noncomputable def lp96_11 : Code := subC [1, 1, 1, 1, 0, 1, 0, 0] (bodyC Tryz.f96)

def sd227 (a : GS S_Span) (b : GS S_Span) : St := ⟨36, [(6, .lsl 2 0 0 2 none), (25, .lsl 1 0 2 1 (some 2)), (26, I 2), (27, I 1)], [(1, ⟨[.sl a.nl (a.l.map S_Span.D) (zsl a.nl 2) none, .sl b.nl (b.l.map S_Span.D) (zsl b.nl 2) none], 1, false⟩), (2, ⟨(List.replicate (a.l.length + b.l.length) (⟨0, 0⟩ : S_Span)).map S_Span.D, 2, false⟩)], 3, 2⟩

def sd226 (a : GS S_Span) (b : GS S_Span) : St := ⟨36, [(6, .lsl 2 0 0 2 none), (25, .lsl 1 0 2 1 (some 2)), (26, I 2), (27, I 0)], [(1, ⟨[.sl a.nl (a.l.map S_Span.D) (zsl a.nl 2) none, .sl b.nl (b.l.map S_Span.D) (zsl b.nl 2) none], 1, false⟩), (2, ⟨(List.replicate (a.l.length + b.l.length) (⟨0, 0⟩ : S_Span)).map S_Span.D, 2, false⟩)], 3, 2⟩

def sd228 (a : GS S_Span) (b : GS S_Span) : St := ⟨36, [(27, I 1), (34, I 1), (6, .lsl 2 0 0 2 none), (33, .lsl 2 0 0 2 none), (32, .sl a.nl (a.l.map S_Span.D) (zsl a.nl 2) none), (31, .lsl 2 0 0 2 none), (8, .sl a.nl (a.l.map S_Span.D) (zsl a.nl 2) none), (30, .sl a.nl (a.l.map S_Span.D) (zsl a.nl 2) none), (29, .lref 1 0 1 0), (28, B true), (6, .lsl 2 0 0 2 none), (25, .lsl 1 0 2 1 (some 2)), (26, I 2), (27, I 0)], [(1, ⟨[.sl a.nl (a.l.map S_Span.D) (zsl a.nl 2) none, .sl b.nl (b.l.map S_Span.D) (zsl b.nl 2) none], 1, false⟩), (2, ⟨(List.replicate (a.l.length + b.l.length) (⟨0, 0⟩ : S_Span)).map S_Span.D, 2, false⟩)], 3, 2⟩

def sd229 (a : GS S_Span) (b : GS S_Span) : St := ⟨36, [(6, .lsl 2 0 b.l.length 2 none), (25, .lsl 1 0 2 1 (some 2)), (26, I 2), (27, I 2)], [(1, ⟨[.sl a.nl (a.l.map S_Span.D) (zsl a.nl 2) none, .sl b.nl (b.l.map S_Span.D) (zsl b.nl 2) none], 1, false⟩), (2, ⟨b.l.map S_Span.D, 2, false⟩)], 3, 2⟩

def sd230 (a : GS S_Span) (b : GS S_Span) : St := ⟨36, [(27, I 2), (34, I 2), (6, .lsl 2 0 b.l.length 2 none), (33, .lsl 2 0 b.l.length 2 none), (32, .sl b.nl (b.l.map S_Span.D) (zsl b.nl 2) none), (31, .lsl 2 0 0 2 none), (8, .sl b.nl (b.l.map S_Span.D) (zsl b.nl 2) none), (30, .sl b.nl (b.l.map S_Span.D) (zsl b.nl 2) none), (29, .lref 1 1 1 0), (28, B true), (6, .lsl 2 0 0 2 none), (25, .lsl 1 0 2 1 (some 2)), (26, I 2), (27, I 1)], [(1, ⟨[.sl a.nl (a.l.map S_Span.D) (zsl a.nl 2) none, .sl b.nl (b.l.map S_Span.D) (zsl b.nl 2) none], 1, false⟩), (2, ⟨b.l.map S_Span.D, 2, false⟩)], 3, 2⟩

def sd225 (a : GS S_Span) (b : GS S_Span) : St := ⟨36, [(12, B false), (0, .lsl 1 0 2 1 (some 2)), (3, I ((a.l.length + b.l.length : Nat) : Int)), (9, .lsl 1 0 2 1 (some 2)), (10, I 2), (11, I 2)], [(1, ⟨[.sl a.nl (a.l.map S_Span.D) (zsl a.nl 2) none, .sl b.nl (b.l.map S_Span.D) (zsl b.nl 2) none], 1, false⟩)], 2, 2⟩

def sd231 (a : GS S_Span) (b : GS S_Span) : St := ⟨36, [(28, B false), (6, .lsl 2 0 b.l.length 2 none), (25, .lsl 1 0 2 1 (some 2)), (26, I 2), (27, I 2)], [(1, ⟨[.sl a.nl (a.l.map S_Span.D) (zsl a.nl 2) none, .sl b.nl (b.l.map S_Span.D) (zsl b.nl 2) none], 1, false⟩), (2, ⟨b.l.map S_Span.D, 2, false⟩)], 3, 2⟩

def sd232 (a : GS S_Span) (b : GS S_Span) : St := ⟨36, [(27, I 0), (26, I 2), (25, .lsl 1 0 2 1 (some 2)), (6, .lsl 2 0 0 2 none), (24, .lsl 2 0 0 2 none), (23, I ((a.l.length + b.l.length : Nat) : Int)), (12, B false), (0, .lsl 1 0 2 1 (some 2)), (3, I ((a.l.length + b.l.length : Nat) : Int)), (9, .lsl 1 0 2 1 (some 2)), (10, I 2), (11, I 2)], [(1, ⟨[.sl a.nl (a.l.map S_Span.D) (zsl a.nl 2) none, .sl b.nl (b.l.map S_Span.D) (zsl b.nl 2) none], 1, false⟩), (2, ⟨(List.replicate (a.l.length + b.l.length) (⟨0, 0⟩ : S_Span)).map S_Span.D, 2, false⟩)], 3, 2⟩

def sd238 (b : GS S_Span) : St := ⟨65, [(4, .sl true [] 0 none), (10, .lsl 2 0 b.l.length 2 none), (11, I ((b.l.length : Nat) : Int)), (12, I 0)], [(2, ⟨(zf ze b.l).map S_Span.D, 2, false⟩)], 3, 3⟩

def sd239 (b : GS S_Span) (va4p2_0 : List S_Span) : St := ⟨65, [(13, B false), (4, .lsl 3 0 va4p2_0.length 2 none), (10, .lsl 2 0 b.l.length 2 none), (11, I ((b.l.length : Nat) : Int)), (12, I (((zf ze b.l).length : Nat) : Int))], [(2, ⟨(zf ze b.l).map S_Span.D, 2, false⟩), (3, ⟨va4p2_0.map S_Span.D, 2, false⟩)], 4, 3⟩

def sd237 (b : GS S_Span) : St := ⟨65, [(12, I 0), (11, I ((b.l.length : Nat) : Int)), (10, .lsl 2 0 b.l.length 2 none), (4, .sl true [] 0 none), (9, .tup []), (8, .lsl 2 0 b.l.length 2 none), (3, I 0), (2, .sl true [] 0 none), (0, .lsl 2 0 b.l.length 2 none)], [(2, ⟨(zf ze b.l).map S_Span.D, 2, false⟩)], 3, 3⟩

def sd240 (b : GS S_Span) (i4p2 : Nat) (x4p2 : S_Span) (va4p2_0 : List S_Span) : St := ⟨65, [(3, I 2), (2, .sl true [] 0 none), (25, B true), (24, B true), (23, B false), (22, I x4p2.hi), (21, .lref 4 0 2 1), (20, B false), (19, B false), (18, B true), (17, I x4p2.lo), (16, .lref 4 0 2 0), (6, .lref 4 0 2 0), (15, .agg [I x4p2.lo, I x4p2.hi]), (14, .lref 2 i4p2 2 0), (13, B true), (4, .lsl 3 0 va4p2_0.length 2 none), (10, .lsl 2 0 b.l.length 2 none), (11, I ((b.l.length : Nat) : Int)), (12, I ((i4p2 : Nat) : Int))], [(2, ⟨(zf ze b.l).map S_Span.D, 2, false⟩), (3, ⟨va4p2_0.map S_Span.D, 2, false⟩), (4, ⟨[.agg [I x4p2.lo, I x4p2.hi]], 2, false⟩)], 5, 3⟩

def sd241 (b : GS S_Span) (i4p2 : Nat) (x4p2 : S_Span) (va4p2_0 : List S_Span) : St := ⟨65, [(3, I 2), (2, .sl true [] 0 none), (25, B true), (24, .tup []), (23, .tup []), (22, .tup []), (21, .tup []), (20, B true), (19, B true), (18, B false), (17, I x4p2.lo), (16, .lref 4 0 2 0), (6, .lref 4 0 2 0), (15, .agg [I x4p2.lo, I x4p2.hi]), (14, .lref 2 i4p2 2 0), (13, B true), (4, .lsl 3 0 va4p2_0.length 2 none), (10, .lsl 2 0 b.l.length 2 none), (11, I ((b.l.length : Nat) : Int)), (12, I ((i4p2 : Nat) : Int))], [(2, ⟨(zf ze b.l).map S_Span.D, 2, false⟩), (3, ⟨va4p2_0.map S_Span.D, 2, false⟩), (4, ⟨[.agg [I x4p2.lo, I x4p2.hi]], 2, false⟩)], 5, 3⟩

def sd242 (b : GS S_Span) : St := ⟨65, [(13, B false), (4, .sl true [] 0 none), (10, .lsl 2 0 b.l.length 2 none), (11, I ((b.l.length : Nat) : Int)), (12, I (((zf ze b.l).length : Nat) : Int))], [(2, ⟨(zf ze b.l).map S_Span.D, 2, false⟩)], 3, 3⟩

def sd243 (b : GS S_Span) (i4p2 : Nat) (x4p2 : S_Span) : St := ⟨65, [(3, I 2), (2, .sl true [] 0 none), (25, B true), (24, B true), (23, B false), (22, I x4p2.hi), (21, .lref 3 0 2 1), (20, B false), (19, B false), (18, B true), (17, I x4p2.lo), (16, .lref 3 0 2 0), (6, .lref 3 0 2 0), (15, .agg [I x4p2.lo, I x4p2.hi]), (14, .lref 2 i4p2 2 0), (13, B true), (4, .sl true [] 0 none), (10, .lsl 2 0 b.l.length 2 none), (11, I ((b.l.length : Nat) : Int)), (12, I ((i4p2 : Nat) : Int))], [(2, ⟨(zf ze b.l).map S_Span.D, 2, false⟩), (3, ⟨[.agg [I x4p2.lo, I x4p2.hi]], 2, false⟩)], 4, 3⟩

def sd244 (b : GS S_Span) (i4p2 : Nat) (x4p2 : S_Span) : St := ⟨65, [(3, I 2), (2, .sl true [] 0 none), (25, B true), (24, .tup []), (23, .tup []), (22, .tup []), (21, .tup []), (20, B true), (19, B true), (18, B false), (17, I x4p2.lo), (16, .lref 3 0 2 0), (6, .lref 3 0 2 0), (15, .agg [I x4p2.lo, I x4p2.hi]), (14, .lref 2 i4p2 2 0), (13, B true), (4, .sl true [] 0 none), (10, .lsl 2 0 b.l.length 2 none), (11, I ((b.l.length : Nat) : Int)), (12, I ((i4p2 : Nat) : Int))], [(2, ⟨(zf ze b.l).map S_Span.D, 2, false⟩), (3, ⟨[.agg [I x4p2.lo, I x4p2.hi]], 2, false⟩)], 4, 3⟩

def sd245 (a : GS S_Span) (b : GS S_Span) : St := ⟨36, [(6, .lsl 2 0 a.l.length 2 none), (25, .lsl 1 0 2 1 (some 2)), (26, I 2), (27, I 1)], [(1, ⟨[.sl a.nl (a.l.map S_Span.D) (zsl a.nl 2) none, .sl b.nl (b.l.map S_Span.D) (zsl b.nl 2) none], 1, false⟩), (2, ⟨a.l.map S_Span.D, 2, false⟩)], 3, 2⟩

def sd246 (a : GS S_Span) (b : GS S_Span) : St := ⟨36, [(27, I 1), (34, I 1), (6, .lsl 2 0 a.l.length 2 none), (33, .lsl 2 0 a.l.length 2 none), (32, .sl a.nl (a.l.map S_Span.D) (zsl a.nl 2) none), (31, .lsl 2 0 0 2 none), (8, .sl a.nl (a.l.map S_Span.D) (zsl a.nl 2) none), (30, .sl a.nl (a.l.map S_Span.D) (zsl a.nl 2) none), (29, .lref 1 0 1 0), (28, B true), (6, .lsl 2 0 0 2 none), (25, .lsl 1 0 2 1 (some 2)), (26, I 2), (27, I 0)], [(1, ⟨[.sl a.nl (a.l.map S_Span.D) (zsl a.nl 2) none, .sl b.nl (b.l.map S_Span.D) (zsl b.nl 2) none], 1, false⟩), (2, ⟨a.l.map S_Span.D, 2, false⟩)], 3, 2⟩

def sd247 (a : GS S_Span) (b : GS S_Span) : St := ⟨36, [(6, .lsl 2 0 a.l.length 2 none), (25, .lsl 1 0 2 1 (some 2)), (26, I 2), (27, I 2)], [(1, ⟨[.sl a.nl (a.l.map S_Span.D) (zsl a.nl 2) none, .sl b.nl (b.l.map S_Span.D) (zsl b.nl 2) none], 1, false⟩), (2, ⟨a.l.map S_Span.D, 2, false⟩)], 3, 2⟩

def sd248 (a : GS S_Span) (b : GS S_Span) : St := ⟨36, [(27, I 2), (34, I 2), (6, .lsl 2 0 a.l.length 2 none), (33, .lsl 2 0 a.l.length 2 none), (32, .sl b.nl (b.l.map S_Span.D) (zsl b.nl 2) none), (31, .lsl 2 0 a.l.length 2 none), (8, .sl b.nl (b.l.map S_Span.D) (zsl b.nl 2) none), (30, .sl b.nl (b.l.map S_Span.D) (zsl b.nl 2) none), (29, .lref 1 1 1 0), (28, B true), (6, .lsl 2 0 a.l.length 2 none), (25, .lsl 1 0 2 1 (some 2)), (26, I 2), (27, I 1)], [(1, ⟨[.sl a.nl (a.l.map S_Span.D) (zsl a.nl 2) none, .sl b.nl (b.l.map S_Span.D) (zsl b.nl 2) none], 1, false⟩), (2, ⟨a.l.map S_Span.D, 2, false⟩)], 3, 2⟩

def sd249 (a : GS S_Span) (b : GS S_Span) : St := ⟨36, [(28, B false), (6, .lsl 2 0 a.l.length 2 none), (25, .lsl 1 0 2 1 (some 2)), (26, I 2), (27, I 2)], [(1, ⟨[.sl a.nl (a.l.map S_Span.D) (zsl a.nl 2) none, .sl b.nl (b.l.map S_Span.D) (zsl b.nl 2) none], 1, false⟩), (2, ⟨a.l.map S_Span.D, 2, false⟩)], 3, 2⟩

def sd251 (a : GS S_Span) : St := ⟨65, [(4, .sl true [] 0 none), (10, .lsl 2 0 a.l.length 2 none), (11, I ((a.l.length : Nat) : Int)), (12, I 0)], [(2, ⟨(zf ze a.l).map S_Span.D, 2, false⟩)], 3, 3⟩

def sd252 (a : GS S_Span) (va4p2_0 : List S_Span) : St := ⟨65, [(13, B false), (4, .lsl 3 0 va4p2_0.length 2 none), (10, .lsl 2 0 a.l.length 2 none), (11, I ((a.l.length : Nat) : Int)), (12, I (((zf ze a.l).length : Nat) : Int))], [(2, ⟨(zf ze a.l).map S_Span.D, 2, false⟩), (3, ⟨va4p2_0.map S_Span.D, 2, false⟩)], 4, 3⟩

def sd250 (a : GS S_Span) : St := ⟨65, [(12, I 0), (11, I ((a.l.length : Nat) : Int)), (10, .lsl 2 0 a.l.length 2 none), (4, .sl true [] 0 none), (9, .tup []), (8, .lsl 2 0 a.l.length 2 none), (3, I 0), (2, .sl true [] 0 none), (0, .lsl 2 0 a.l.length 2 none)], [(2, ⟨(zf ze a.l).map S_Span.D, 2, false⟩)], 3, 3⟩

def sd253 (a : GS S_Span) (i4p2 : Nat) (x4p2 : S_Span) (va4p2_0 : List S_Span) : St := ⟨65, [(3, I 2), (2, .sl true [] 0 none), (25, B true), (24, B true), (23, B false), (22, I x4p2.hi), (21, .lref 4 0 2 1), (20, B false), (19, B false), (18, B true), (17, I x4p2.lo), (16, .lref 4 0 2 0), (6, .lref 4 0 2 0), (15, .agg [I x4p2.lo, I x4p2.hi]), (14, .lref 2 i4p2 2 0), (13, B true), (4, .lsl 3 0 va4p2_0.length 2 none), (10, .lsl 2 0 a.l.length 2 none), (11, I ((a.l.length : Nat) : Int)), (12, I ((i4p2 : Nat) : Int))], [(2, ⟨(zf ze a.l).map S_Span.D, 2, false⟩), (3, ⟨va4p2_0.map S_Span.D, 2, false⟩), (4, ⟨[.agg [I x4p2.lo, I x4p2.hi]], 2, false⟩)], 5, 3⟩

def sd254 (a : GS S_Span) (i4p2 : Nat) (x4p2 : S_Span) (va4p2_0 : List S_Span) : St := ⟨65, [(3, I 2), (2, .sl true [] 0 none), (25, B true), (24, .tup []), (23, .tup []), (22, .tup []), (21, .tup []), (20, B true), (19, B true), (18, B false), (17, I x4p2.lo), (16, .lref 4 0 2 0), (6, .lref 4 0 2 0), (15, .agg [I x4p2.lo, I x4p2.hi]), (14, .lref 2 i4p2 2 0), (13, B true), (4, .lsl 3 0 va4p2_0.length 2 none), (10, .lsl 2 0 a.l.length 2 none), (11, I ((a.l.length : Nat) : Int)), (12, I ((i4p2 : Nat) : Int))], [(2, ⟨(zf ze a.l).map S_Span.D, 2, false⟩), (3, ⟨va4p2_0.map S_Span.D, 2, false⟩), (4, ⟨[.agg [I x4p2.lo, I x4p2.hi]], 2, false⟩)], 5, 3⟩

def sd255 (a : GS S_Span) : St := ⟨65, [(13, B false), (4, .sl true [] 0 none), (10, .lsl 2 0 a.l.length 2 none), (11, I ((a.l.length : Nat) : Int)), (12, I (((zf ze a.l).length : Nat) : Int))], [(2, ⟨(zf ze a.l).map S_Span.D, 2, false⟩)], 3, 3⟩

def sd256 (a : GS S_Span) (i4p2 : Nat) (x4p2 : S_Span) : St := ⟨65, [(3, I 2), (2, .sl true [] 0 none), (25, B true), (24, B true), (23, B false), (22, I x4p2.hi), (21, .lref 3 0 2 1), (20, B false), (19, B false), (18, B true), (17, I x4p2.lo), (16, .lref 3 0 2 0), (6, .lref 3 0 2 0), (15, .agg [I x4p2.lo, I x4p2.hi]), (14, .lref 2 i4p2 2 0), (13, B true), (4, .sl true [] 0 none), (10, .lsl 2 0 a.l.length 2 none), (11, I ((a.l.length : Nat) : Int)), (12, I ((i4p2 : Nat) : Int))], [(2, ⟨(zf ze a.l).map S_Span.D, 2, false⟩), (3, ⟨[.agg [I x4p2.lo, I x4p2.hi]], 2, false⟩)], 4, 3⟩

def sd257 (a : GS S_Span) (i4p2 : Nat) (x4p2 : S_Span) : St := ⟨65, [(3, I 2), (2, .sl true [] 0 none), (25, B true), (24, .tup []), (23, .tup []), (22, .tup []), (21, .tup []), (20, B true), (19, B true), (18, B false), (17, I x4p2.lo), (16, .lref 3 0 2 0), (6, .lref 3 0 2 0), (15, .agg [I x4p2.lo, I x4p2.hi]), (14, .lref 2 i4p2 2 0), (13, B true), (4, .sl true [] 0 none), (10, .lsl 2 0 a.l.length 2 none), (11, I ((a.l.length : Nat) : Int)), (12, I ((i4p2 : Nat) : Int))], [(2, ⟨(zf ze a.l).map S_Span.D, 2, false⟩), (3, ⟨[.agg [I x4p2.lo, I x4p2.hi]], 2, false⟩)], 4, 3⟩

def sd258 (a : GS S_Span) (b : GS S_Span) : St := ⟨36, [(6, .lsl 2 0 a.l.length 2 none), (25, .lsl 1 0 2 1 (some 2)), (26, I 2), (27, I 1)], [(1, ⟨[.sl a.nl (a.l.map S_Span.D) (zsl a.nl 2) none, .sl b.nl (b.l.map S_Span.D) (zsl b.nl 2) none], 1, false⟩), (2, ⟨(a.l ++ List.replicate ((a.l.length + b.l.length) - a.l.length) (⟨0, 0⟩ : S_Span)).map S_Span.D, 2, false⟩)], 3, 2⟩

def sd259 (a : GS S_Span) (b : GS S_Span) : St := ⟨36, [(27, I 1), (34, I 1), (6, .lsl 2 0 a.l.length 2 none), (33, .lsl 2 0 a.l.length 2 none), (32, .sl a.nl (a.l.map S_Span.D) (zsl a.nl 2) none), (31, .lsl 2 0 0 2 none), (8, .sl a.nl (a.l.map S_Span.D) (zsl a.nl 2) none), (30, .sl a.nl (a.l.map S_Span.D) (zsl a.nl 2) none), (29, .lref 1 0 1 0), (28, B true), (6, .lsl 2 0 0 2 none), (25, .lsl 1 0 2 1 (some 2)), (26, I 2), (27, I 0)], [(1, ⟨[.sl a.nl (a.l.map S_Span.D) (zsl a.nl 2) none, .sl b.nl (b.l.map S_Span.D) (zsl b.nl 2) none], 1, false⟩), (2, ⟨(a.l ++ List.replicate ((a.l.length + b.l.length) - a.l.length) (⟨0, 0⟩ : S_Span)).map S_Span.D, 2, false⟩)], 3, 2⟩

def sd260 (a : GS S_Span) (b : GS S_Span) : St := ⟨36, [(6, .lsl 2 0 ((a.l ++ b.l).length) 2 none), (25, .lsl 1 0 2 1 (some 2)), (26, I 2), (27, I 2)], [(1, ⟨[.sl a.nl (a.l.map S_Span.D) (zsl a.nl 2) none, .sl b.nl (b.l.map S_Span.D) (zsl b.nl 2) none], 1, false⟩), (2, ⟨(a.l ++ b.l).map S_Span.D, 2, false⟩)], 3, 2⟩

def sd261 (a : GS S_Span) (b : GS S_Span) : St := ⟨36, [(27, I 2), (34, I 2), (6, .lsl 2 0 ((a.l ++ b.l).length) 2 none), (33, .lsl 2 0 ((a.l ++ b.l).length) 2 none), (32, .sl b.nl (b.l.map S_Span.D) (zsl b.nl 2) none), (31, .lsl 2 0 a.l.length 2 none), (8, .sl b.nl (b.l.map S_Span.D) (zsl b.nl 2) none), (30, .sl b.nl (b.l.map S_Span.D) (zsl b.nl 2) none), (29, .lref 1 1 1 0), (28, B true), (6, .lsl 2 0 a.l.length 2 none), (25, .lsl 1 0 2 1 (some 2)), (26, I 2), (27, I 1)], [(1, ⟨[.sl a.nl (a.l.map S_Span.D) (zsl a.nl 2) none, .sl b.nl (b.l.map S_Span.D) (zsl b.nl 2) none], 1, false⟩), (2, ⟨(a.l ++ b.l).map S_Span.D, 2, false⟩)], 3, 2⟩

def sd262 (a : GS S_Span) (b : GS S_Span) : St := ⟨36, [(28, B false), (6, .lsl 2 0 ((a.l ++ b.l).length) 2 none), (25, .lsl 1 0 2 1 (some 2)), (26, I 2), (27, I 2)], [(1, ⟨[.sl a.nl (a.l.map S_Span.D) (zsl a.nl 2) none, .sl b.nl (b.l.map S_Span.D) (zsl b.nl 2) none], 1, false⟩), (2, ⟨(a.l ++ b.l).map S_Span.D, 2, false⟩)], 3, 2⟩

def sd268 (a : GS S_Span) (b : GS S_Span) : St := ⟨65, [(4, .sl true [] 0 none), (10, .lsl 2 0 ((a.l ++ b.l).length) 2 none), (11, I (((a.l ++ b.l).length : Nat) : Int)), (12, I 0)], [(2, ⟨(zf ze (a.l ++ b.l)).map S_Span.D, 2, false⟩)], 3, 3⟩

def sd269 (a : GS S_Span) (b : GS S_Span) (va4p3_0 : List S_Span) : St := ⟨65, [(13, B false), (4, .lsl 3 0 va4p3_0.length 2 none), (10, .lsl 2 0 ((a.l ++ b.l).length) 2 none), (11, I (((a.l ++ b.l).length : Nat) : Int)), (12, I (((zf ze (a.l ++ b.l)).length : Nat) : Int))], [(2, ⟨(zf ze (a.l ++ b.l)).map S_Span.D, 2, false⟩), (3, ⟨va4p3_0.map S_Span.D, 2, false⟩)], 4, 3⟩

def sd267 (a : GS S_Span) (b : GS S_Span) : St := ⟨65, [(12, I 0), (11, I (((a.l ++ b.l).length : Nat) : Int)), (10, .lsl 2 0 ((a.l ++ b.l).length) 2 none), (4, .sl true [] 0 none), (9, .tup []), (8, .lsl 2 0 ((a.l ++ b.l).length) 2 none), (3, I 0), (2, .sl true [] 0 none), (0, .lsl 2 0 ((a.l ++ b.l).length) 2 none)], [(2, ⟨(zf ze (a.l ++ b.l)).map S_Span.D, 2, false⟩)], 3, 3⟩

def sd270 (a : GS S_Span) (b : GS S_Span) (i4p3 : Nat) (x4p3 : S_Span) (va4p3_0 : List S_Span) : St := ⟨65, [(3, I 2), (2, .sl true [] 0 none), (25, B true), (24, B true), (23, B false), (22, I x4p3.hi), (21, .lref 4 0 2 1), (20, B false), (19, B false), (18, B true), (17, I x4p3.lo), (16, .lref 4 0 2 0), (6, .lref 4 0 2 0), (15, .agg [I x4p3.lo, I x4p3.hi]), (14, .lref 2 i4p3 2 0), (13, B true), (4, .lsl 3 0 va4p3_0.length 2 none), (10, .lsl 2 0 ((a.l ++ b.l).length) 2 none), (11, I (((a.l ++ b.l).length : Nat) : Int)), (12, I ((i4p3 : Nat) : Int))], [(2, ⟨(zf ze (a.l ++ b.l)).map S_Span.D, 2, false⟩), (3, ⟨va4p3_0.map S_Span.D, 2, false⟩), (4, ⟨[.agg [I x4p3.lo, I x4p3.hi]], 2, false⟩)], 5, 3⟩

def sd271 (a : GS S_Span) (b : GS S_Span) (i4p3 : Nat) (x4p3 : S_Span) (va4p3_0 : List S_Span) : St := ⟨65, [(3, I 2), (2, .sl true [] 0 none), (25, B true), (24, .tup []), (23, .tup []), (22, .tup []), (21, .tup []), (20, B true), (19, B true), (18, B false), (17, I x4p3.lo), (16, .lref 4 0 2 0), (6, .lref 4 0 2 0), (15, .agg [I x4p3.lo, I x4p3.hi]), (14, .lref 2 i4p3 2 0), (13, B true), (4, .lsl 3 0 va4p3_0.length 2 none), (10, .lsl 2 0 ((a.l ++ b.l).length) 2 none), (11, I (((a.l ++ b.l).length : Nat) : Int)), (12, I ((i4p3 : Nat) : Int))], [(2, ⟨(zf ze (a.l ++ b.l)).map S_Span.D, 2, false⟩), (3, ⟨va4p3_0.map S_Span.D, 2, false⟩), (4, ⟨[.agg [I x4p3.lo, I x4p3.hi]], 2, false⟩)], 5, 3⟩

def sd272 (a : GS S_Span) (b : GS S_Span) : St := ⟨65, [(13, B false), (4, .sl true [] 0 none), (10, .lsl 2 0 ((a.l ++ b.l).length) 2 none), (11, I (((a.l ++ b.l).length : Nat) : Int)), (12, I (((zf ze (a.l ++ b.l)).length : Nat) : Int))], [(2, ⟨(zf ze (a.l ++ b.l)).map S_Span.D, 2, false⟩)], 3, 3⟩

def sd273 (a : GS S_Span) (b : GS S_Span) (i4p3 : Nat) (x4p3 : S_Span) : St := ⟨65, [(3, I 2), (2, .sl true [] 0 none), (25, B true), (24, B true), (23, B false), (22, I x4p3.hi), (21, .lref 3 0 2 1), (20, B false), (19, B false), (18, B true), (17, I x4p3.lo), (16, .lref 3 0 2 0), (6, .lref 3 0 2 0), (15, .agg [I x4p3.lo, I x4p3.hi]), (14, .lref 2 i4p3 2 0), (13, B true), (4, .sl true [] 0 none), (10, .lsl 2 0 ((a.l ++ b.l).length) 2 none), (11, I (((a.l ++ b.l).length : Nat) : Int)), (12, I ((i4p3 : Nat) : Int))], [(2, ⟨(zf ze (a.l ++ b.l)).map S_Span.D, 2, false⟩), (3, ⟨[.agg [I x4p3.lo, I x4p3.hi]], 2, false⟩)], 4, 3⟩

def sd274 (a : GS S_Span) (b : GS S_Span) (i4p3 : Nat) (x4p3 : S_Span) : St := ⟨65, [(3, I 2), (2, .sl true [] 0 none), (25, B true), (24, .tup []), (23, .tup []), (22, .tup []), (21, .tup []), (20, B true), (19, B true), (18, B false), (17, I x4p3.lo), (16, .lref 3 0 2 0), (6, .lref 3 0 2 0), (15, .agg [I x4p3.lo, I x4p3.hi]), (14, .lref 2 i4p3 2 0), (13, B true), (4, .sl true [] 0 none), (10, .lsl 2 0 ((a.l ++ b.l).length) 2 none), (11, I (((a.l ++ b.l).length : Nat) : Int)), (12, I ((i4p3 : Nat) : Int))], [(2, ⟨(zf ze (a.l ++ b.l)).map S_Span.D, 2, false⟩), (3, ⟨[.agg [I x4p3.lo, I x4p3.hi]], 2, false⟩)], 4, 3⟩

def sd276 (a : GS S_Span) (b : GS S_Span) : St := ⟨36, [(6, .sl true [] 0 none), (25, .lsl 1 0 2 1 (some 2)), (26, I 2), (27, I 1)], [(1, ⟨[.sl a.nl (a.l.map S_Span.D) (zsl a.nl 2) none, .sl b.nl (b.l.map S_Span.D) (zsl b.nl 2) none], 1, false⟩)], 2, 2⟩

def sd275 (a : GS S_Span) (b : GS S_Span) : St := ⟨36, [(6, .sl true [] 0 none), (25, .lsl 1 0 2 1 (some 2)), (26, I 2), (27, I 0)], [(1, ⟨[.sl a.nl (a.l.map S_Span.D) (zsl a.nl 2) none, .sl b.nl (b.l.map S_Span.D) (zsl b.nl 2) none], 1, false⟩)], 2, 2⟩

def sd277 (a : GS S_Span) (b : GS S_Span) : St := ⟨36, [(6, .sl true [] 0 none), (25, .lsl 1 0 2 1 (some 2)), (26, I 2), (27, I 2)], [(1, ⟨[.sl a.nl (a.l.map S_Span.D) (zsl a.nl 2) none, .sl b.nl (b.l.map S_Span.D) (zsl b.nl 2) none], 1, false⟩)], 2, 2⟩

def sd278 (a : GS S_Span) (b : GS S_Span) : St := ⟨36, [(28, B false), (6, .sl true [] 0 none), (25, .lsl 1 0 2 1 (some 2)), (26, I 2), (27, I 2)], [(1, ⟨[.sl a.nl (a.l.map S_Span.D) (zsl a.nl 2) none, .sl b.nl (b.l.map S_Span.D) (zsl b.nl 2) none], 1, false⟩)], 2, 2⟩

theorem T_ranges_Union (a : GS S_Span) (b : GS S_Span) (hLa : a.l.length ≤ 9223372036854775807) (hLb : b.l.length ≤ 9223372036854775807) : (lim cfg).pure 45 [GS.D S_Span.D 2 a, GS.D S_Span.D 2 b] = some (.tup [GS.D S_Span.D 2 ((zN a b).1), I ((zN a b).2)]) := by
  unfold zN
  have p1 := (T_ranges_check (GS.some [a, b]) (by exact yi (by omega) (by omega)) (by simp only [zr, GS.some_l, List.length_set, List.length_append, List.length_cons, List.length_nil] at * <;> first | with_reducible assumption | omega))
  cases h1 : ((y6 (GS.some [a, b])) != 0) with
  | true =>
    have g1 := bne_true h1
    exact zq [.pure (I (y6 (GS.some [a, b]))), .dec true] (And.intro h1 (And.intro p1 trivial)) (by kernel_rfl)
  | false =>
    have g1 := check2_len (bne_false h1)
    have l1 := (show decide (((a.l.length : Nat) : Int) < 0) = false from (decide_eq_false (by omega)))
    have l2 := (show ∀ q, (lim cfg).loop 96 lp96_3 (sd223 a b) = some q → (lim cfg).loop 96 lp96_3 (sd222 a b) = some q from fun q hq => po_turn (st1 := (sd223 a b)) [.dec true, .rw 17 (I ((a.l.length : Nat) : Int)), .rw 18 (I ((a.l.length : Nat) : Int)), .dec false, .rw 22 (I 1)] (And.intro (zadd_rw (x := 1) (by omega)) (And.intro (l1) (And.intro (zadd_rw (x := a.l.length) (by omega)) (And.intro (zG S_Span.D a) (And.intro (Eq.refl true) trivial))))) hq (by kernel_rfl))
    have l3 := (show decide (((a.l.length + b.l.length : Nat) : Int) < 0) = false from (decide_eq_false (by omega)))
    have l4 := (show ∀ q, (lim cfg).loop 96 lp96_3 (sd224 a b) = some q → (lim cfg).loop 96 lp96_3 (sd223 a b) = some q from fun q hq => po_turn (st1 := (sd224 a b)) [.dec true, .rw 17 (I ((b.l.length : Nat) : Int)), .rw 18 (I ((a.l.length + b.l.length : Nat) : Int)), .dec false] (And.intro (l3) (And.intro (add_rw (x := a.l.length) (y := b.l.length) (by omega)) (And.intro (zG S_Span.D b) (And.intro (Eq.refl true) trivial)))) hq (by kernel_rfl))
    cases h2 : decide (((a.l.length + b.l.length : Nat) : Int) > 0) with
    | true =>
      have g2 := of_decide_eq_true h2
      cases h3 : a.l.isEmpty with
      | true =>
        have l5 := (app_none (te := ty25) (gO := zv [(1, ⟨[.sl a.nl (a.l.map S_Span.D) (zsl a.nl 2) none, .sl b.nl (b.l.map S_Span.D) (zsl b.nl 2) none], 1, false⟩), (2, ⟨(List.replicate (a.l.length + b.l.length) (⟨0, 0⟩ : S_Span)).map S_Span.D, 2, false⟩)]) (nxt := 3) (f := S_Span.D) (sz := 2) (d := .lsl 2 0 0 2 none) a h3 rfl)
        have l6 := (show ∀ q, (lim cfg).loop 96 lp96_11 (sd227 a b) = some q → (lim cfg).loop 96 lp96_11 (sd226 a b) = some q from fun q hq => y7 (ks := [6, 25, 26, 27]) (st' := (sd228 a b)) (st1 := (sd227 a b)) [.dec true, .op (some 33) ⟨.lsl 2 0 0 2 none, [], [], 3⟩, .rw 34 (I 1)] (And.intro (zadd_rw (x := 1) (by omega)) (And.intro (l5) (And.intro (Eq.refl true) trivial))) (by kernel_rfl) (by (simp only [sd227, sd228, go_sem, List.length_set, Nat.reduceAdd, Nat.reduceEqDiff, Nat.reduceLT, Nat.reduceLeDiff, bI2, za.idsL, za.renL, za.snapAll, z6.idsL, z6.renL, z6.snapAll]) <;> rfl) hq (by kernel_rfl))
        have l7 := (app_fullD (te := ty25) (gO := zv [(1, ⟨[.sl a.nl (a.l.map S_Span.D) (zsl a.nl 2) none, .sl b.nl (b.l.map S_Span.D) (zsl b.nl 2) none], 1, false⟩), (2, ⟨(List.replicate (a.l.length + b.l.length) (⟨0, 0⟩ : S_Span)).map S_Span.D, 2, false⟩)]) (nxt := 3) (o := 2) (v := []) (z := (⟨0, 0⟩ : S_Span)) (n := (a.l.length + b.l.length)) z6 b (show b.l.isEmpty = false from (nemp_add h2 h3)) (by kernel_rfl) rfl (by kernel_rfl) (by decide) (by simp at * <;> omega) ⟨by simp only [ty25, big] <;> (first | assumption | omega | (exact yi (by omega) (by omega)) | (exact zO (by omega)) | (exact zz (by omega)) | (exact zP (by omega)) | (exact zA (by omega)) | (exact zy _ (by omega)) | (simp only [zk] at * <;> omega) | (simp only [zr, GS.some_l, List.length_set, List.length_append, List.length_cons, List.length_nil] at * <;> first | with_reducible assumption | omega) | (simp only [zr, GS.some_l, List.length_set, List.length_append, List.length_cons, List.length_nil, zk] at * <;> first | with_reducible assumption | omega) | (simp at * <;> omega)), by simp only [big] <;> (first | assumption | omega | (exact yi (by omega) (by omega)) | (exact zO (by omega)) | (exact zz (by omega)) | (exact zP (by omega)) | (exact zA (by omega)) | (exact zy _ (by omega)) | (simp only [zk] at * <;> omega) | (simp only [zr, GS.some_l, List.length_set, List.length_append, List.length_cons, List.length_nil] at * <;> first | with_reducible assumption | omega) | (simp only [zr, GS.some_l, List.length_set, List.length_append, List.length_cons, List.length_nil, zk] at * <;> first | with_reducible assumption | omega) | (simp at * <;> omega))⟩)
        have l8 := (show ∀ q, (lim cfg).loop 96 lp96_11 (sd229 a b) = some q → (lim cfg).loop 96 lp96_11 (sd227 a b) = some q from fun q hq => y7 (ks := [6, 25, 26, 27]) (st' := (sd230 a b)) (st1 := (sd229 a b)) [.dec true, .op (some 33) ⟨.lsl 2 0 b.l.length 2 none, [(2, some ⟨b.l.map S_Span.D, 2, false⟩)], [2], 3⟩] (And.intro (l7) (And.intro (Eq.refl true) trivial)) (by kernel_rfl) (by (simp only [sd229, sd230, go_sem, List.length_set, Nat.reduceAdd, Nat.reduceEqDiff, Nat.reduceLT, Nat.reduceLeDiff, bI2, za.idsL, za.renL, za.snapAll, z6.idsL, z6.renL, z6.snapAll]) <;> rfl) hq (by kernel_rfl))
        have p2 := (show (lim cfg).inl 96 [.lsl 1 0 2 1 (some 2)] [(1, ⟨[.sl a.nl (a.l.map S_Span.D) (zsl a.nl 2) none, .sl b.nl (b.l.map S_Span.D) (zsl b.nl 2) none], 1, false⟩)] 2 = some (.lsl 2 0 b.l.length 2 none, [(1, ⟨[.sl a.nl (a.l.map S_Span.D) (zsl a.nl 2) none, .sl b.nl (b.l.map S_Span.D) (zsl b.nl 2) none], 1, false⟩), (2, ⟨b.l.map S_Span.D, 2, false⟩)], 3) from zw [.loop (.exit 0) (sd225 a b), .inl (.lsl 2 0 0 2 none) [(2, ⟨(List.replicate (a.l.length + b.l.length) (⟨0, 0⟩ : S_Span)).map S_Span.D, 2, false⟩)] 3, .gloop (sd226 a b) (.exit 2) (sd231 a b)] (And.intro (show (lim cfg).loop 96 lp96_11 (sd226 a b) = some ((.exit 2), (sd231 a b)) from (l6 _ (l8 _ (zS [.dec false] (And.intro (Eq.refl false) trivial) (by kernel_rfl))))) (And.intro (gc_of (C := cfg) (f := 96) (a := lp96_11) (ks := [6, 25, 26, 27]) (st := (sd232 a b)) (st1 := (sd226 a b)) (by kernel_rfl) (by (simp only [sd226, sd232, go_sem, List.length_set, Nat.reduceAdd, Nat.reduceEqDiff, Nat.reduceLT, Nat.reduceLeDiff, bI2, za.idsL, za.renL, za.snapAll, z6.idsL, z6.renL, z6.snapAll]) <;> rfl)) (And.intro (show (lim cfg).inl 108 [.sl true [] 0 none, I ((a.l.length + b.l.length : Nat) : Int)] [] 2 = some (.lsl 2 0 0 2 none, [(2, ⟨(List.replicate (a.l.length + b.l.length) (⟨0, 0⟩ : S_Span)).map S_Span.D, 2, false⟩)], 3) from zw [.dec false, .rw 14 (I ((a.l.length + b.l.length : Nat) : Int)), .dec true, .op (some 22) ⟨.lsl 2 0 (a.l.length + b.l.length) 2 none, [(2, some ⟨(List.replicate (a.l.length + b.l.length) (⟨0, 0⟩ : S_Span)).map S_Span.D, 2, false⟩)], [], 3⟩, .op (some 25) ⟨.lsl 2 0 0 2 none, [], [2], 3⟩] (And.intro (cut_zero (C := cfg) (objs := [(2, ⟨(List.replicate (a.l.length + b.l.length) (⟨0, 0⟩ : S_Span)).map S_Span.D, 2, false⟩)]) (t := 22) (nxt := 3) (o := 2) (sz := 2) (len := (a.l.length + b.l.length)) rfl rfl rfl rfl (by omega)) (And.intro (app_zero (C := cfg) (gO := zv []) (nxt := 2) (t := 22) (t' := 3) (te := ty25) (f := S_Span.D) (sz := 2) (k := .i64) (n := ((a.l.length + b.l.length : Nat) : Int)) (els0 := []) (sz0 := 0) (cap0 := none) (⟨0, 0⟩ : S_Span) rfl rfl rfl rfl rfl (by kernel_rfl) (by decide) rfl (by omega) ⟨by simp only [ty25, big] <;> (first | assumption | omega | (exact yi (by omega) (by omega)) | (exact zO (by omega)) | (exact zz (by omega)) | (exact zP (by omega)) | (exact zA (by omega)) | (exact zy _ (by omega)) | (simp only [zk] at * <;> omega) | (simp only [zr, GS.some_l, List.length_set, List.length_append, List.length_cons, List.length_nil] at * <;> first | with_reducible assumption | omega) | (simp only [zr, GS.some_l, List.length_set, List.length_append, List.length_cons, List.length_nil, zk] at * <;> first | with_reducible assumption | omega) | (simp at * <;> omega)), by simp only [big] <;> (first | assumption | omega | (exact yi (by omega) (by omega)) | (exact zO (by omega)) | (exact zz (by omega)) | (exact zP (by omega)) | (exact zA (by omega)) | (exact zy _ (by omega)) | (simp only [zk] at * <;> omega) | (simp only [zr, GS.some_l, List.length_set, List.length_append, List.length_cons, List.length_nil] at * <;> first | with_reducible assumption | omega) | (simp only [zr, GS.some_l, List.length_set, List.length_append, List.length_cons, List.length_nil, zk] at * <;> first | with_reducible assumption | omega) | (simp at * <;> omega))⟩) (And.intro h2 (And.intro (sub0_rw (x := a.l.length + b.l.length) (by omega)) (And.intro (show decide (((a.l.length + b.l.length : Nat) : Int) < 0) = false from (decide_eq_false (by omega))) trivial))))) (by kernel_rfl)) (And.intro (show (lim cfg).loop 96 lp96_3 (sd222 a b) = some ((.exit 0), (sd225 a b)) from (l2 _ (l4 _ (zS [.dec false] (And.intro (Eq.refl false) trivial) (by kernel_rfl))))) trivial)))) (by kernel_rfl))
        cases h16 : zT (zf ze b.l) 0 with
        | x0 va4p2_0 =>
          try dsimp only
          have hv_h16 := ivt_ranges_gathered_4p2 b (zf ze b.l) (zf ze b.l) 0 (List.drop_zero) (Nat.zero_le _) (by simp only [zr, GS.some_l, List.length_set, List.length_append, List.length_cons, List.length_nil] at * <;> first | with_reducible assumption | omega) (by simp only [zr, GS.some_l, List.length_set, List.length_append, List.length_cons, List.length_nil] at * <;> first | with_reducible assumption | omega)
          rw [h16] at hv_h16
          obtain ⟨hv_h16_0, hv_h16_1⟩ := hv_h16
          try dsimp only [zM] at hv_h16_0
          try dsimp only [zM] at hv_h16_1
          cases h17 : decide (((va4p2_0.length : Nat) : Int) > 64) with
          | true =>
            have g17 := of_decide_eq_true h17
            exact zq ((ranges_Union_o1 a b) ++ [.inlS [2] (.tup [.sl true [] 0 none, I 2]) [(2, ⟨(zf ze b.l).map S_Span.D, 2, false⟩), (3, ⟨va4p2_0.map S_Span.D, 2, false⟩)] 4]) (And.intro (And.intro (show zc [(0, ⟨[.sl a.nl (a.l.map S_Span.D) (zsl a.nl 2) none, .sl b.nl (b.l.map S_Span.D) (zsl b.nl 2) none], 1, false⟩), (1, ⟨[.sl a.nl (a.l.map S_Span.D) (zsl a.nl 2) none, .sl b.nl (b.l.map S_Span.D) (zsl b.nl 2) none], 1, false⟩), (2, ⟨b.l.map S_Span.D, 2, false⟩)] 256 [2] [] = some [2] from (by (simp only [zc, go_sem, List.length_set, Nat.reduceAdd, Nat.reduceEqDiff, Nat.reduceLT, Nat.reduceLeDiff, bI2, za.idsL, za.renL, za.snapAll, z6.idsL, z6.renL, z6.snapAll]) <;> rfl)) (show (lim cfg).inl 69 [.lsl 2 0 b.l.length 2 none] [(2, ⟨b.l.map S_Span.D, 2, false⟩)] 3 = some (.tup [.sl true [] 0 none, I 2], [(2, ⟨(zf ze b.l).map S_Span.D, 2, false⟩), (3, ⟨va4p2_0.map S_Span.D, 2, false⟩)], 4) from zw [.inlS [2] (.tup []) [(2, ⟨(zf ze b.l).map S_Span.D, 2, false⟩)] 3, .gloop (sd238 b) (.exit 0) (sd239 b va4p2_0), .dec true] (And.intro h17 (And.intro (zX (q := zF b (zf ze b.l)) (lp_ranges_gathered_4p2 b (zf ze b.l) (zf ze b.l) 0 (List.drop_zero) (Nat.zero_le _) (by simp only [zr, GS.some_l, List.length_set, List.length_append, List.length_cons, List.length_nil] at * <;> first | with_reducible assumption | omega) (by simp only [zr, GS.some_l, List.length_set, List.length_append, List.length_cons, List.length_nil] at * <;> first | with_reducible assumption | omega)) h16) (And.intro (gc_of (C := cfg) (f := 69) (a := lp69_4) (ks := [4, 10, 11, 12]) (st := (sd237 b)) (st1 := (sd238 b)) (by kernel_rfl) (by (simp only [sd237, sd238, go_sem, List.length_set, Nat.reduceAdd, Nat.reduceEqDiff, Nat.reduceLT, Nat.reduceLeDiff, bI2, za.idsL, za.renL, za.snapAll, z6.idsL, z6.renL, z6.snapAll]) <;> rfl)) (And.intro (And.intro (show zc [(2, ⟨b.l.map S_Span.D, 2, false⟩)] 256 [2] [] = some [2] from (by (simp only [zc, go_sem, List.length_set, Nat.reduceAdd, Nat.reduceEqDiff, Nat.reduceLT, Nat.reduceLeDiff, bI2, za.idsL, za.renL, za.snapAll, z6.idsL, z6.renL, z6.snapAll]) <;> rfl)) (y8 2 3 none b.l (by omega))) trivial)))) (by kernel_rfl))) (And.intro p2 (And.intro h1 (And.intro p1 trivial)))) (by kernel_rfl)
          | false =>
            have g17 := of_decide_eq_false h17
            exact po_pureS ((ranges_Union_o1 a b) ++ [.inlS [2] (.tup [.lsl 3 0 va4p2_0.length 2 none, I 0]) [(2, ⟨(zf ze b.l).map S_Span.D, 2, false⟩), (3, ⟨va4p2_0.map S_Span.D, 2, false⟩)] 4]) [(3, .sl false (va4p2_0.map S_Span.D) 2 none, [3])] (And.intro (snap_row (gO := zv [(0, ⟨[.sl a.nl (a.l.map S_Span.D) (zsl a.nl 2) none, .sl b.nl (b.l.map S_Span.D) (zsl b.nl 2) none], 1, false⟩), (1, ⟨[.sl a.nl (a.l.map S_Span.D) (zsl a.nl 2) none, .sl b.nl (b.l.map S_Span.D) (zsl b.nl 2) none], 1, false⟩), (2, ⟨(zf ze b.l).map S_Span.D, 2, false⟩), (3, ⟨va4p2_0.map S_Span.D, 2, false⟩)]) (o := 3) (len := va4p2_0.length) (cap := none) (fz := false) z6 va4p2_0 (by kernel_rfl) (by omega)) (And.intro (And.intro (show zc [(0, ⟨[.sl a.nl (a.l.map S_Span.D) (zsl a.nl 2) none, .sl b.nl (b.l.map S_Span.D) (zsl b.nl 2) none], 1, false⟩), (1, ⟨[.sl a.nl (a.l.map S_Span.D) (zsl a.nl 2) none, .sl b.nl (b.l.map S_Span.D) (zsl b.nl 2) none], 1, false⟩), (2, ⟨b.l.map S_Span.D, 2, false⟩)] 256 [2] [] = some [2] from (by (simp only [zc, go_sem, List.length_set, Nat.reduceAdd, Nat.reduceEqDiff, Nat.reduceLT, Nat.reduceLeDiff, bI2, za.idsL, za.renL, za.snapAll, z6.idsL, z6.renL, z6.snapAll]) <;> rfl)) (show (lim cfg).inl 69 [.lsl 2 0 b.l.length 2 none] [(2, ⟨b.l.map S_Span.D, 2, false⟩)] 3 = some (.tup [.lsl 3 0 va4p2_0.length 2 none, I 0], [(2, ⟨(zf ze b.l).map S_Span.D, 2, false⟩), (3, ⟨va4p2_0.map S_Span.D, 2, false⟩)], 4) from zw [.inlS [2] (.tup []) [(2, ⟨(zf ze b.l).map S_Span.D, 2, false⟩)] 3, .gloop (sd238 b) (.exit 0) (sd239 b va4p2_0), .dec false] (And.intro h17 (And.intro (zX (q := zF b (zf ze b.l)) (lp_ranges_gathered_4p2 b (zf ze b.l) (zf ze b.l) 0 (List.drop_zero) (Nat.zero_le _) (by simp only [zr, GS.some_l, List.length_set, List.length_append, List.length_cons, List.length_nil] at * <;> first | with_reducible assumption | omega) (by simp only [zr, GS.some_l, List.length_set, List.length_append, List.length_cons, List.length_nil] at * <;> first | with_reducible assumption | omega)) h16) (And.intro (gc_of (C := cfg) (f := 69) (a := lp69_4) (ks := [4, 10, 11, 12]) (st := (sd237 b)) (st1 := (sd238 b)) (by kernel_rfl) (by (simp only [sd237, sd238, go_sem, List.length_set, Nat.reduceAdd, Nat.reduceEqDiff, Nat.reduceLT, Nat.reduceLeDiff, bI2, za.idsL, za.renL, za.snapAll, z6.idsL, z6.renL, z6.snapAll]) <;> rfl)) (And.intro (And.intro (show zc [(2, ⟨b.l.map S_Span.D, 2, false⟩)] 256 [2] [] = some [2] from (by (simp only [zc, go_sem, List.length_set, Nat.reduceAdd, Nat.reduceEqDiff, Nat.reduceLT, Nat.reduceLeDiff, bI2, za.idsL, za.renL, za.snapAll, z6.idsL, z6.renL, z6.snapAll]) <;> rfl)) (y8 2 3 none b.l (by omega))) trivial)))) (by kernel_rfl))) (And.intro p2 (And.intro h1 (And.intro p1 trivial))))) (by kernel_rfl)
        | x1 i4p2 x4p2 va4p2_0 =>
          try dsimp only
          have hv_h16 := ivt_ranges_gathered_4p2 b (zf ze b.l) (zf ze b.l) 0 (List.drop_zero) (Nat.zero_le _) (by simp only [zr, GS.some_l, List.length_set, List.length_append, List.length_cons, List.length_nil] at * <;> first | with_reducible assumption | omega) (by simp only [zr, GS.some_l, List.length_set, List.length_append, List.length_cons, List.length_nil] at * <;> first | with_reducible assumption | omega)
          rw [h16] at hv_h16
          obtain ⟨hv_h16_0, hv_h16_1⟩ := hv_h16
          try dsimp only [zM] at hv_h16_0
          try dsimp only [zM] at hv_h16_1
          exact zq ((ranges_Union_o1 a b) ++ [.inlS [2] (.tup [.sl true [] 0 none, I 2]) [(2, ⟨(zf ze b.l).map S_Span.D, 2, false⟩), (3, ⟨va4p2_0.map S_Span.D, 2, false⟩), (4, ⟨[.agg [I x4p2.lo, I x4p2.hi]], 2, false⟩)] 5]) (And.intro (And.intro (show zc [(0, ⟨[.sl a.nl (a.l.map S_Span.D) (zsl a.nl 2) none, .sl b.nl (b.l.map S_Span.D) (zsl b.nl 2) none], 1, false⟩), (1, ⟨[.sl a.nl (a.l.map S_Span.D) (zsl a.nl 2) none, .sl b.nl (b.l.map S_Span.D) (zsl b.nl 2) none], 1, false⟩), (2, ⟨b.l.map S_Span.D, 2, false⟩)] 256 [2] [] = some [2] from (by (simp only [zc, go_sem, List.length_set, Nat.reduceAdd, Nat.reduceEqDiff, Nat.reduceLT, Nat.reduceLeDiff, bI2, za.idsL, za.renL, za.snapAll, z6.idsL, z6.renL, z6.snapAll]) <;> rfl)) (show (lim cfg).inl 69 [.lsl 2 0 b.l.length 2 none] [(2, ⟨b.l.map S_Span.D, 2, false⟩)] 3 = some (.tup [.sl true [] 0 none, I 2], [(2, ⟨(zf ze b.l).map S_Span.D, 2, false⟩), (3, ⟨va4p2_0.map S_Span.D, 2, false⟩), (4, ⟨[.agg [I x4p2.lo, I x4p2.hi]], 2, false⟩)], 5) from zw [.inlS [2] (.tup []) [(2, ⟨(zf ze b.l).map S_Span.D, 2, false⟩)] 3, .gloop (sd238 b) .ret (sd240 b i4p2 x4p2 va4p2_0)] (And.intro (zX (q := zF b (zf ze b.l)) (lp_ranges_gathered_4p2 b (zf ze b.l) (zf ze b.l) 0 (List.drop_zero) (Nat.zero_le _) (by simp only [zr, GS.some_l, List.length_set, List.length_append, List.length_cons, List.length_nil] at * <;> first | with_reducible assumption | omega) (by simp only [zr, GS.some_l, List.length_set, List.length_append, List.length_cons, List.length_nil] at * <;> first | with_reducible assumption | omega)) h16) (And.intro (gc_of (C := cfg) (f := 69) (a := lp69_4) (ks := [4, 10, 11, 12]) (st := (sd237 b)) (st1 := (sd238 b)) (by kernel_rfl) (by (simp only [sd237, sd238, go_sem, List.length_set, Nat.reduceAdd, Nat.reduceEqDiff, Nat.reduceLT, Nat.reduceLeDiff, bI2, za.idsL, za.renL, za.snapAll, z6.idsL, z6.renL, z6.snapAll]) <;> rfl)) (And.intro (And.intro (show zc [(2, ⟨b.l.map S_Span.D, 2, false⟩)] 256 [2] [] = some [2] from (by (simp only [zc, go_sem, List.length_set, Nat.reduceAdd, Nat.reduceEqDiff, Nat.reduceLT, Nat.reduceLeDiff, bI2, za.idsL, za.renL, za.snapAll, z6.idsL, z6.renL, z6.snapAll]) <;> rfl)) (y8 2 3 none b.l (by omega))) trivial))) (by kernel_rfl))) (And.intro p2 (And.intro h1 (And.intro p1 trivial)))) (by kernel_rfl)
        | x2 i4p2 x4p2 va4p2_0 =>
          try dsimp only
          have hv_h16 := ivt_ranges_gathered_4p2 b (zf ze b.l) (zf ze b.l) 0 (List.drop_zero) (Nat.zero_le _) (by simp only [zr, GS.some_l, List.length_set, List.length_append, List.length_cons, List.length_nil] at * <;> first | with_reducible assumption | omega) (by simp only [zr, GS.some_l, List.length_set, List.length_append, List.length_cons, List.length_nil] at * <;> first | with_reducible assumption | omega)
          rw [h16] at hv_h16
          obtain ⟨hv_h16_0, hv_h16_1⟩ := hv_h16
          try dsimp only [zM] at hv_h16_0
          try dsimp only [zM] at hv_h16_1
          exact zq ((ranges_Union_o1 a b) ++ [.inlS [2] (.tup [.sl true [] 0 none, I 2]) [(2, ⟨(zf ze b.l).map S_Span.D, 2, false⟩), (3, ⟨va4p2_0.map S_Span.D, 2, false⟩), (4, ⟨[.agg [I x4p2.lo, I x4p2.hi]], 2, false⟩)] 5]) (And.intro (And.intro (show zc [(0, ⟨[.sl a.nl (a.l.map S_Span.D) (zsl a.nl 2) none, .sl b.nl (b.l.map S_Span.D) (zsl b.nl 2) none], 1, false⟩), (1, ⟨[.sl a.nl (a.l.map S_Span.D) (zsl a.nl 2) none, .sl b.nl (b.l.map S_Span.D) (zsl b.nl 2) none], 1, false⟩), (2, ⟨b.l.map S_Span.D, 2, false⟩)] 256 [2] [] = some [2] from (by (simp only [zc, go_sem, List.length_set, Nat.reduceAdd, Nat.reduceEqDiff, Nat.reduceLT, Nat.reduceLeDiff, bI2, za.idsL, za.renL, za.snapAll, z6.idsL, z6.renL, z6.snapAll]) <;> rfl)) (show (lim cfg).inl 69 [.lsl 2 0 b.l.length 2 none] [(2, ⟨b.l.map S_Span.D, 2, false⟩)] 3 = some (.tup [.sl true [] 0 none, I 2], [(2, ⟨(zf ze b.l).map S_Span.D, 2, false⟩), (3, ⟨va4p2_0.map S_Span.D, 2, false⟩), (4, ⟨[.agg [I x4p2.lo, I x4p2.hi]], 2, false⟩)], 5) from zw [.inlS [2] (.tup []) [(2, ⟨(zf ze b.l).map S_Span.D, 2, false⟩)] 3, .gloop (sd238 b) .ret (sd241 b i4p2 x4p2 va4p2_0)] (And.intro (zX (q := zF b (zf ze b.l)) (lp_ranges_gathered_4p2 b (zf ze b.l) (zf ze b.l) 0 (List.drop_zero) (Nat.zero_le _) (by simp only [zr, GS.some_l, List.length_set, List.length_append, List.length_cons, List.length_nil] at * <;> first | with_reducible assumption | omega) (by simp only [zr, GS.some_l, List.length_set, List.length_append, List.length_cons, List.length_nil] at * <;> first | with_reducible assumption | omega)) h16) (And.intro (gc_of (C := cfg) (f := 69) (a := lp69_4) (ks := [4, 10, 11, 12]) (st := (sd237 b)) (st1 := (sd238 b)) (by kernel_rfl) (by (simp only [sd237, sd238, go_sem, List.length_set, Nat.reduceAdd, Nat.reduceEqDiff, Nat.reduceLT, Nat.reduceLeDiff, bI2, za.idsL, za.renL, za.snapAll, z6.idsL, z6.renL, z6.snapAll]) <;> rfl)) (And.intro (And.intro (show zc [(2, ⟨b.l.map S_Span.D, 2, false⟩)] 256 [2] [] = some [2] from (by (simp only [zc, go_sem, List.length_set, Nat.reduceAdd, Nat.reduceEqDiff, Nat.reduceLT, Nat.reduceLeDiff, bI2, za.idsL, za.renL, za.snapAll, z6.idsL, z6.renL, z6.snapAll]) <;> rfl)) (y8 2 3 none b.l (by omega))) trivial))) (by kernel_rfl))) (And.intro p2 (And.intro h1 (And.intro p1 trivial)))) (by kernel_rfl)
        | x3 =>
          try dsimp only
          exact zq ((ranges_Union_o1 a b) ++ [.inlS [2] (.tup [.sl true [] 0 none, I 0]) [(2, ⟨(zf ze b.l).map S_Span.D, 2, false⟩)] 3]) (And.intro (And.intro (show zc [(0, ⟨[.sl a.nl (a.l.map S_Span.D) (zsl a.nl 2) none, .sl b.nl (b.l.map S_Span.D) (zsl b.nl 2) none], 1, false⟩), (1, ⟨[.sl a.nl (a.l.map S_Span.D) (zsl a.nl 2) none, .sl b.nl (b.l.map S_Span.D) (zsl b.nl 2) none], 1, false⟩), (2, ⟨b.l.map S_Span.D, 2, false⟩)] 256 [2] [] = some [2] from (by (simp only [zc, go_sem, List.length_set, Nat.reduceAdd, Nat.reduceEqDiff, Nat.reduceLT, Nat.reduceLeDiff, bI2, za.idsL, za.renL, za.snapAll, z6.idsL, z6.renL, z6.snapAll]) <;> rfl)) (show (lim cfg).inl 69 [.lsl 2 0 b.l.length 2 none] [(2, ⟨b.l.map S_Span.D, 2, false⟩)] 3 = some (.tup [.sl true [] 0 none, I 0], [(2, ⟨(zf ze b.l).map S_Span.D, 2, false⟩)], 3) from zw [.inlS [2] (.tup []) [(2, ⟨(zf ze b.l).map S_Span.D, 2, false⟩)] 3, .gloop (sd238 b) (.exit 0) (sd242 b), .dec false] (And.intro (Eq.refl false) (And.intro (zX (q := zF b (zf ze b.l)) (lp_ranges_gathered_4p2 b (zf ze b.l) (zf ze b.l) 0 (List.drop_zero) (Nat.zero_le _) (by simp only [zr, GS.some_l, List.length_set, List.length_append, List.length_cons, List.length_nil] at * <;> first | with_reducible assumption | omega) (by simp only [zr, GS.some_l, List.length_set, List.length_append, List.length_cons, List.length_nil] at * <;> first | with_reducible assumption | omega)) h16) (And.intro (gc_of (C := cfg) (f := 69) (a := lp69_4) (ks := [4, 10, 11, 12]) (st := (sd237 b)) (st1 := (sd238 b)) (by kernel_rfl) (by (simp only [sd237, sd238, go_sem, List.length_set, Nat.reduceAdd, Nat.reduceEqDiff, Nat.reduceLT, Nat.reduceLeDiff, bI2, za.idsL, za.renL, za.snapAll, z6.idsL, z6.renL, z6.snapAll]) <;> rfl)) (And.intro (And.intro (show zc [(2, ⟨b.l.map S_Span.D, 2, false⟩)] 256 [2] [] = some [2] from (by (simp only [zc, go_sem, List.length_set, Nat.reduceAdd, Nat.reduceEqDiff, Nat.reduceLT, Nat.reduceLeDiff, bI2, za.idsL, za.renL, za.snapAll, z6.idsL, z6.renL, z6.snapAll]) <;> rfl)) (y8 2 3 none b.l (by omega))) trivial)))) (by kernel_rfl))) (And.intro p2 (And.intro h1 (And.intro p1 trivial)))) (by kernel_rfl)
        | x4 i4p2 x4p2 =>
          try dsimp only
          exact zq ((ranges_Union_o1 a b) ++ [.inlS [2] (.tup [.sl true [] 0 none, I 2]) [(2, ⟨(zf ze b.l).map S_Span.D, 2, false⟩), (3, ⟨[.agg [I x4p2.lo, I x4p2.hi]], 2, false⟩)] 4]) (And.intro (And.intro (show zc [(0, ⟨[.sl a.nl (a.l.map S_Span.D) (zsl a.nl 2) none, .sl b.nl (b.l.map S_Span.D) (zsl b.nl 2) none], 1, false⟩), (1, ⟨[.sl a.nl (a.l.map S_Span.D) (zsl a.nl 2) none, .sl b.nl (b.l.map S_Span.D) (zsl b.nl 2) none], 1, false⟩), (2, ⟨b.l.map S_Span.D, 2, false⟩)] 256 [2] [] = some [2] from (by (simp only [zc, go_sem, List.length_set, Nat.reduceAdd, Nat.reduceEqDiff, Nat.reduceLT, Nat.reduceLeDiff, bI2, za.idsL, za.renL, za.snapAll, z6.idsL, z6.renL, z6.snapAll]) <;> rfl)) (show (lim cfg).inl 69 [.lsl 2 0 b.l.length 2 none] [(2, ⟨b.l.map S_Span.D, 2, false⟩)] 3 = some (.tup [.sl true [] 0 none, I 2], [(2, ⟨(zf ze b.l).map S_Span.D, 2, false⟩), (3, ⟨[.agg [I x4p2.lo, I x4p2.hi]], 2, false⟩)], 4) from zw [.inlS [2] (.tup []) [(2, ⟨(zf ze b.l).map S_Span.D, 2, false⟩)] 3, .gloop (sd238 b) .ret (sd243 b i4p2 x4p2)] (And.intro (zX (q := zF b (zf ze b.l)) (lp_ranges_gathered_4p2 b (zf ze b.l) (zf ze b.l) 0 (List.drop_zero) (Nat.zero_le _) (by simp only [zr, GS.some_l, List.length_set, List.length_append, List.length_cons, List.length_nil] at * <;> first | with_reducible assumption | omega) (by simp only [zr, GS.some_l, List.length_set, List.length_append, List.length_cons, List.length_nil] at * <;> first | with_reducible assumption | omega)) h16) (And.intro (gc_of (C := cfg) (f := 69) (a := lp69_4) (ks := [4, 10, 11, 12]) (st := (sd237 b)) (st1 := (sd238 b)) (by kernel_rfl) (by (simp only [sd237, sd238, go_sem, List.length_set, Nat.reduceAdd, Nat.reduceEqDiff, Nat.reduceLT, Nat.reduceLeDiff, bI2, za.idsL, za.renL, za.snapAll, z6.idsL, z6.renL, z6.snapAll]) <;> rfl)) (And.intro (And.intro (show zc [(2, ⟨b.l.map S_Span.D, 2, false⟩)] 256 [2] [] = some [2] from (by (simp only [zc, go_sem, List.length_set, Nat.reduceAdd, Nat.reduceEqDiff, Nat.reduceLT, Nat.reduceLeDiff, bI2, za.idsL, za.renL, za.snapAll, z6.idsL, z6.renL, z6.snapAll]) <;> rfl)) (y8 2 3 none b.l (by omega))) trivial))) (by kernel_rfl))) (And.intro p2 (And.intro h1 (And.intro p1 trivial)))) (by kernel_rfl)
        | x5 i4p2 x4p2 =>
          try dsimp only
          exact zq ((ranges_Union_o1 a b) ++ [.inlS [2] (.tup [.sl true [] 0 none, I 2]) [(2, ⟨(zf ze b.l).map S_Span.D, 2, false⟩), (3, ⟨[.agg [I x4p2.lo, I x4p2.hi]], 2, false⟩)] 4]) (And.intro (And.intro (show zc [(0, ⟨[.sl a.nl (a.l.map S_Span.D) (zsl a.nl 2) none, .sl b.nl (b.l.map S_Span.D) (zsl b.nl 2) none], 1, false⟩), (1, ⟨[.sl a.nl (a.l.map S_Span.D) (zsl a.nl 2) none, .sl b.nl (b.l.map S_Span.D) (zsl b.nl 2) none], 1, false⟩), (2, ⟨b.l.map S_Span.D, 2, false⟩)] 256 [2] [] = some [2] from (by (simp only [zc, go_sem, List.length_set, Nat.reduceAdd, Nat.reduceEqDiff, Nat.reduceLT, Nat.reduceLeDiff, bI2, za.idsL, za.renL, za.snapAll, z6.idsL, z6.renL, z6.snapAll]) <;> rfl)) (show (lim cfg).inl 69 [.lsl 2 0 b.l.length 2 none] [(2, ⟨b.l.map S_Span.D, 2, false⟩)] 3 = some (.tup [.sl true [] 0 none, I 2], [(2, ⟨(zf ze b.l).map S_Span.D, 2, false⟩), (3, ⟨[.agg [I x4p2.lo, I x4p2.hi]], 2, false⟩)], 4) from zw [.inlS [2] (.tup []) [(2, ⟨(zf ze b.l).map S_Span.D, 2, false⟩)] 3, .gloop (sd238 b) .ret (sd244 b i4p2 x4p2)] (And.intro (zX (q := zF b (zf ze b.l)) (lp_ranges_gathered_4p2 b (zf ze b.l) (zf ze b.l) 0 (List.drop_zero) (Nat.zero_le _) (by simp only [zr, GS.some_l, List.length_set, List.length_append, List.length_cons, List.length_nil] at * <;> first | with_reducible assumption | omega) (by simp only [zr, GS.some_l, List.length_set, List.length_append, List.length_cons, List.length_nil] at * <;> first | with_reducible assumption | omega)) h16) (And.intro (gc_of (C := cfg) (f := 69) (a := lp69_4) (ks := [4, 10, 11, 12]) (st := (sd237 b)) (st1 := (sd238 b)) (by kernel_rfl) (by (simp only [sd237, sd238, go_sem, List.length_set, Nat.reduceAdd, Nat.reduceEqDiff, Nat.reduceLT, Nat.reduceLeDiff, bI2, za.idsL, za.renL, za.snapAll, z6.idsL, z6.renL, z6.snapAll]) <;> rfl)) (And.intro (And.intro (show zc [(2, ⟨b.l.map S_Span.D, 2, false⟩)] 256 [2] [] = some [2] from (by (simp only [zc, go_sem, List.length_set, Nat.reduceAdd, Nat.reduceEqDiff, Nat.reduceLT, Nat.reduceLeDiff, bI2, za.idsL, za.renL, za.snapAll, z6.idsL, z6.renL, z6.snapAll]) <;> rfl)) (y8 2 3 none b.l (by omega))) trivial))) (by kernel_rfl))) (And.intro p2 (And.intro h1 (And.intro p1 trivial)))) (by kernel_rfl)
      | false =>
        cases h18 : b.l.isEmpty with
        | true =>
          have l9 := (app_fullD (te := ty25) (gO := zv [(1, ⟨[.sl a.nl (a.l.map S_Span.D) (zsl a.nl 2) none, .sl b.nl (b.l.map S_Span.D) (zsl b.nl 2) none], 1, false⟩), (2, ⟨(List.replicate (a.l.length + b.l.length) (⟨0, 0⟩ : S_Span)).map S_Span.D, 2, false⟩)]) (nxt := 3) (o := 2) (v := []) (z := (⟨0, 0⟩ : S_Span)) (n := (a.l.length + b.l.length)) z6 a h3 (by kernel_rfl) rfl (by kernel_rfl) (by decide) (by simp at * <;> omega) ⟨by simp only [ty25, big] <;> (first | assumption | omega | (exact yi (by omega) (by omega)) | (exact zO (by omega)) | (exact zz (by omega)) | (exact zP (by omega)) | (exact zA (by omega)) | (exact zy _ (by omega)) | (simp only [zk] at * <;> omega) | (simp only [zr, GS.some_l, List.length_set, List.length_append, List.length_cons, List.length_nil] at * <;> first | with_reducible assumption | omega) | (simp only [zr, GS.some_l, List.length_set, List.length_append, List.length_cons, List.length_nil, zk] at * <;> first | with_reducible assumption | omega) | (simp at * <;> omega)), by simp only [big] <;> (first | assumption | omega | (exact yi (by omega) (by omega)) | (exact zO (by omega)) | (exact zz (by omega)) | (exact zP (by omega)) | (exact zA (by omega)) | (exact zy _ (by omega)) | (simp only [zk] at * <;> omega) | (simp only [zr, GS.some_l, List.length_set, List.length_append, List.length_cons, List.length_nil] at * <;> first | with_reducible assumption | omega) | (simp only [zr, GS.some_l, List.length_set, List.length_append, List.length_cons, List.length_nil, zk] at * <;> first | with_reducible assumption | omega) | (simp at * <;> omega))⟩)
          have l10 := (show ∀ q, (lim cfg).loop 96 lp96_11 (sd245 a b) = some q → (lim cfg).loop 96 lp96_11 (sd226 a b) = some q from fun q hq => y7 (ks := [6, 25, 26, 27]) (st' := (sd246 a b)) (st1 := (sd245 a b)) [.dec true, .op (some 33) ⟨.lsl 2 0 a.l.length 2 none, [(2, some ⟨a.l.map S_Span.D, 2, false⟩)], [2], 3⟩, .rw 34 (I 1)] (And.intro (zadd_rw (x := 1) (by omega)) (And.intro (l9) (And.intro (Eq.refl true) trivial))) (by kernel_rfl) (by (simp only [sd245, sd246, go_sem, List.length_set, Nat.reduceAdd, Nat.reduceEqDiff, Nat.reduceLT, Nat.reduceLeDiff, bI2, za.idsL, za.renL, za.snapAll, z6.idsL, z6.renL, z6.snapAll]) <;> rfl) hq (by kernel_rfl))
          have l11 := (app_none (te := ty25) (gO := zv [(1, ⟨[.sl a.nl (a.l.map S_Span.D) (zsl a.nl 2) none, .sl b.nl (b.l.map S_Span.D) (zsl b.nl 2) none], 1, false⟩), (2, ⟨a.l.map S_Span.D, 2, false⟩)]) (nxt := 3) (f := S_Span.D) (sz := 2) (d := .lsl 2 0 a.l.length 2 none) b h18 rfl)
          have l12 := (show ∀ q, (lim cfg).loop 96 lp96_11 (sd247 a b) = some q → (lim cfg).loop 96 lp96_11 (sd245 a b) = some q from fun q hq => y7 (ks := [6, 25, 26, 27]) (st' := (sd248 a b)) (st1 := (sd247 a b)) [.dec true, .op (some 33) ⟨.lsl 2 0 a.l.length 2 none, [], [], 3⟩] (And.intro (l11) (And.intro (Eq.refl true) trivial)) (by kernel_rfl) (by (simp only [sd247, sd248, go_sem, List.length_set, Nat.reduceAdd, Nat.reduceEqDiff, Nat.reduceLT, Nat.reduceLeDiff, bI2, za.idsL, za.renL, za.snapAll, z6.idsL, z6.renL, z6.snapAll]) <;> rfl) hq (by kernel_rfl))
          have p3 := (show (lim cfg).inl 96 [.lsl 1 0 2 1 (some 2)] [(1, ⟨[.sl a.nl (a.l.map S_Span.D) (zsl a.nl 2) none, .sl b.nl (b.l.map S_Span.D) (zsl b.nl 2) none], 1, false⟩)] 2 = some (.lsl 2 0 a.l.length 2 none, [(1, ⟨[.sl a.nl (a.l.map S_Span.D) (zsl a.nl 2) none, .sl b.nl (b.l.map S_Span.D) (zsl b.nl 2) none], 1, false⟩), (2, ⟨a.l.map S_Span.D, 2, false⟩)], 3) from zw [.loop (.exit 0) (sd225 a b), .inl (.lsl 2 0 0 2 none) [(2, ⟨(List.replicate (a.l.length + b.l.length) (⟨0, 0⟩ : S_Span)).map S_Span.D, 2, false⟩)] 3, .gloop (sd226 a b) (.exit 2) (sd249 a b)] (And.intro (show (lim cfg).loop 96 lp96_11 (sd226 a b) = some ((.exit 2), (sd249 a b)) from (l10 _ (l12 _ (zS [.dec false] (And.intro (Eq.refl false) trivial) (by kernel_rfl))))) (And.intro (gc_of (C := cfg) (f := 96) (a := lp96_11) (ks := [6, 25, 26, 27]) (st := (sd232 a b)) (st1 := (sd226 a b)) (by kernel_rfl) (by (simp only [sd226, sd232, go_sem, List.length_set, Nat.reduceAdd, Nat.reduceEqDiff, Nat.reduceLT, Nat.reduceLeDiff, bI2, za.idsL, za.renL, za.snapAll, z6.idsL, z6.renL, z6.snapAll]) <;> rfl)) (And.intro (show (lim cfg).inl 108 [.sl true [] 0 none, I ((a.l.length + b.l.length : Nat) : Int)] [] 2 = some (.lsl 2 0 0 2 none, [(2, ⟨(List.replicate (a.l.length + b.l.length) (⟨0, 0⟩ : S_Span)).map S_Span.D, 2, false⟩)], 3) from zw [.dec false, .rw 14 (I ((a.l.length + b.l.length : Nat) : Int)), .dec true, .op (some 22) ⟨.lsl 2 0 (a.l.length + b.l.length) 2 none, [(2, some ⟨(List.replicate (a.l.length + b.l.length) (⟨0, 0⟩ : S_Span)).map S_Span.D, 2, false⟩)], [], 3⟩, .op (some 25) ⟨.lsl 2 0 0 2 none, [], [2], 3⟩] (And.intro (cut_zero (C := cfg) (objs := [(2, ⟨(List.replicate (a.l.length + b.l.length) (⟨0, 0⟩ : S_Span)).map S_Span.D, 2, false⟩)]) (t := 22) (nxt := 3) (o := 2) (sz := 2) (len := (a.l.length + b.l.length)) rfl rfl rfl rfl (by omega)) (And.intro (app_zero (C := cfg) (gO := zv []) (nxt := 2) (t := 22) (t' := 3) (te := ty25) (f := S_Span.D) (sz := 2) (k := .i64) (n := ((a.l.length + b.l.length : Nat) : Int)) (els0 := []) (sz0 := 0) (cap0 := none) (⟨0, 0⟩ : S_Span) rfl rfl rfl rfl rfl (by kernel_rfl) (by decide) rfl (by omega) ⟨by simp only [ty25, big] <;> (first | assumption | omega | (exact yi (by omega) (by omega)) | (exact zO (by omega)) | (exact zz (by omega)) | (exact zP (by omega)) | (exact zA (by omega)) | (exact zy _ (by omega)) | (simp only [zk] at * <;> omega) | (simp only [zr, GS.some_l, List.length_set, List.length_append, List.length_cons, List.length_nil] at * <;> first | with_reducible assumption | omega) | (simp only [zr, GS.some_l, List.length_set, List.length_append, List.length_cons, List.length_nil, zk] at * <;> first | with_reducible assumption | omega) | (simp at * <;> omega)), by simp only [big] <;> (first | assumption | omega | (exact yi (by omega) (by omega)) | (exact zO (by omega)) | (exact zz (by omega)) | (exact zP (by omega)) | (exact zA (by omega)) | (exact zy _ (by omega)) | (simp only [zk] at * <;> omega) | (simp only [zr, GS.some_l, List.length_set, List.length_append, List.length_cons, List.length_nil] at * <;> first | with_reducible assumption | omega) | (simp only [zr, GS.some_l, List.length_set, List.length_append, List.length_cons, List.length_nil, zk] at * <;> first | with_reducible assumption | omega) | (simp at * <;> omega))⟩) (And.intro h2 (And.intro (sub0_rw (x := a.l.length + b.l.length) (by omega)) (And.intro (show decide (((a.l.length + b.l.length : Nat) : Int) < 0) = false from (decide_eq_false (by omega))) trivial))))) (by kernel_rfl)) (And.intro (show (lim cfg).loop 96 lp96_3 (sd222 a b) = some ((.exit 0), (sd225 a b)) from (l2 _ (l4 _ (zS [.dec false] (And.intro (Eq.refl false) trivial) (by kernel_rfl))))) trivial)))) (by kernel_rfl))
          cases h19 : zT (zf ze a.l) 0 with
          | x0 va4p2_0 =>
            try dsimp only
            have hv_h19 := ivt_ranges_gathered_4p2 a (zf ze a.l) (zf ze a.l) 0 (List.drop_zero) (Nat.zero_le _) (by simp only [zr, GS.some_l, List.length_set, List.length_append, List.length_cons, List.length_nil] at * <;> first | with_reducible assumption | omega) (by simp only [zr, GS.some_l, List.length_set, List.length_append, List.length_cons, List.length_nil] at * <;> first | with_reducible assumption | omega)
            rw [h19] at hv_h19
            obtain ⟨hv_h19_0, hv_h19_1⟩ := hv_h19
            try dsimp only [zM] at hv_h19_0
            try dsimp only [zM] at hv_h19_1
            cases h20 : decide (((va4p2_0.length : Nat) : Int) > 64) with
            | true =>
              have g20 := of_decide_eq_true h20
              exact zq ((ranges_Union_o2 a b) ++ [.inlS [2] (.tup [.sl true [] 0 none, I 2]) [(2, ⟨(zf ze a.l).map S_Span.D, 2, false⟩), (3, ⟨va4p2_0.map S_Span.D, 2, false⟩)] 4]) (And.intro (And.intro (show zc [(0, ⟨[.sl a.nl (a.l.map S_Span.D) (zsl a.nl 2) none, .sl b.nl (b.l.map S_Span.D) (zsl b.nl 2) none], 1, false⟩), (1, ⟨[.sl a.nl (a.l.map S_Span.D) (zsl a.nl 2) none, .sl b.nl (b.l.map S_Span.D) (zsl b.nl 2) none], 1, false⟩), (2, ⟨a.l.map S_Span.D, 2, false⟩)] 256 [2] [] = some [2] from (by (simp only [zc, go_sem, List.length_set, Nat.reduceAdd, Nat.reduceEqDiff, Nat.reduceLT, Nat.reduceLeDiff, bI2, za.idsL, za.renL, za.snapAll, z6.idsL, z6.renL, z6.snapAll]) <;> rfl)) (show (lim cfg).inl 69 [.lsl 2 0 a.l.length 2 none] [(2, ⟨a.l.map S_Span.D, 2, false⟩)] 3 = some (.tup [.sl true [] 0 none, I 2], [(2, ⟨(zf ze a.l).map S_Span.D, 2, false⟩), (3, ⟨va4p2_0.map S_Span.D, 2, false⟩)], 4) from zw [.inlS [2] (.tup []) [(2, ⟨(zf ze a.l).map S_Span.D, 2, false⟩)] 3, .gloop (sd251 a) (.exit 0) (sd252 a va4p2_0), .dec true] (And.intro h20 (And.intro (zX (q := zF a (zf ze a.l)) (lp_ranges_gathered_4p2 a (zf ze a.l) (zf ze a.l) 0 (List.drop_zero) (Nat.zero_le _) (by simp only [zr, GS.some_l, List.length_set, List.length_append, List.length_cons, List.length_nil] at * <;> first | with_reducible assumption | omega) (by simp only [zr, GS.some_l, List.length_set, List.length_append, List.length_cons, List.length_nil] at * <;> first | with_reducible assumption | omega)) h19) (And.intro (gc_of (C := cfg) (f := 69) (a := lp69_4) (ks := [4, 10, 11, 12]) (st := (sd250 a)) (st1 := (sd251 a)) (by kernel_rfl) (by (simp only [sd250, sd251, go_sem, List.length_set, Nat.reduceAdd, Nat.reduceEqDiff, Nat.reduceLT, Nat.reduceLeDiff, bI2, za.idsL, za.renL, za.snapAll, z6.idsL, z6.renL, z6.snapAll]) <;> rfl)) (And.intro (And.intro (show zc [(2, ⟨a.l.map S_Span.D, 2, false⟩)] 256 [2] [] = some [2] from (by (simp only [zc, go_sem, List.length_set, Nat.reduceAdd, Nat.reduceEqDiff, Nat.reduceLT, Nat.reduceLeDiff, bI2, za.idsL, za.renL, za.snapAll, z6.idsL, z6.renL, z6.snapAll]) <;> rfl)) (y8 2 3 none a.l (by omega))) trivial)))) (by kernel_rfl))) (And.intro p3 (And.intro h1 (And.intro p1 trivial)))) (by kernel_rfl)
            | false =>
              have g20 := of_decide_eq_false h20
              exact po_pureS ((ranges_Union_o2 a b) ++ [.inlS [2] (.tup [.lsl 3 0 va4p2_0.length 2 none, I 0]) [(2, ⟨(zf ze a.l).map S_Span.D, 2, false⟩), (3, ⟨va4p2_0.map S_Span.D, 2, false⟩)] 4]) [(3, .sl false (va4p2_0.map S_Span.D) 2 none, [3])] (And.intro (snap_row (gO := zv [(0, ⟨[.sl a.nl (a.l.map S_Span.D) (zsl a.nl 2) none, .sl b.nl (b.l.map S_Span.D) (zsl b.nl 2) none], 1, false⟩), (1, ⟨[.sl a.nl (a.l.map S_Span.D) (zsl a.nl 2) none, .sl b.nl (b.l.map S_Span.D) (zsl b.nl 2) none], 1, false⟩), (2, ⟨(zf ze a.l).map S_Span.D, 2, false⟩), (3, ⟨va4p2_0.map S_Span.D, 2, false⟩)]) (o := 3) (len := va4p2_0.length) (cap := none) (fz := false) z6 va4p2_0 (by kernel_rfl) (by omega)) (And.intro (And.intro (show zc [(0, ⟨[.sl a.nl (a.l.map S_Span.D) (zsl a.nl 2) none, .sl b.nl (b.l.map S_Span.D) (zsl b.nl 2) none], 1, false⟩), (1, ⟨[.sl a.nl (a.l.map S_Span.D) (zsl a.nl 2) none, .sl b.nl (b.l.map S_Span.D) (zsl b.nl 2) none], 1, false⟩), (2, ⟨a.l.map S_Span.D, 2, false⟩)] 256 [2] [] = some [2] from (by (simp only [zc, go_sem, List.length_set, Nat.reduceAdd, Nat.reduceEqDiff, Nat.reduceLT, Nat.reduceLeDiff, bI2, za.idsL, za.renL, za.snapAll, z6.idsL, z6.renL, z6.snapAll]) <;> rfl)) (show (lim cfg).inl 69 [.lsl 2 0 a.l.length 2 none] [(2, ⟨a.l.map S_Span.D, 2, false⟩)] 3 = some (.tup [.lsl 3 0 va4p2_0.length 2 none, I 0], [(2, ⟨(zf ze a.l).map S_Span.D, 2, false⟩), (3, ⟨va4p2_0.map S_Span.D, 2, false⟩)], 4) from zw [.inlS [2] (.tup []) [(2, ⟨(zf ze a.l).map S_Span.D, 2, false⟩)] 3, .gloop (sd251 a) (.exit 0) (sd252 a va4p2_0), .dec false] (And.intro h20 (And.intro (zX (q := zF a (zf ze a.l)) (lp_ranges_gathered_4p2 a (zf ze a.l) (zf ze a.l) 0 (List.drop_zero) (Nat.zero_le _) (by simp only [zr, GS.some_l, List.length_set, List.length_append, List.length_cons, List.length_nil] at * <;> first | with_reducible assumption | omega) (by simp only [zr, GS.some_l, List.length_set, List.length_append, List.length_cons, List.length_nil] at * <;> first | with_reducible assumption | omega)) h19) (And.intro (gc_of (C := cfg) (f := 69) (a := lp69_4) (ks := [4, 10, 11, 12]) (st := (sd250 a)) (st1 := (sd251 a)) (by kernel_rfl) (by (simp only [sd250, sd251, go_sem, List.length_set, Nat.reduceAdd, Nat.reduceEqDiff, Nat.reduceLT, Nat.reduceLeDiff, bI2, za.idsL, za.renL, za.snapAll, z6.idsL, z6.renL, z6.snapAll]) <;> rfl)) (And.intro (And.intro (show zc [(2, ⟨a.l.map S_Span.D, 2, false⟩)] 256 [2] [] = some [2] from (by (simp only [zc, go_sem, List.length_set, Nat.reduceAdd, Nat.reduceEqDiff, Nat.reduceLT, Nat.reduceLeDiff, bI2, za.idsL, za.renL, za.snapAll, z6.idsL, z6.renL, z6.snapAll]) <;> rfl)) (y8 2 3 none a.l (by omega))) trivial)))) (by kernel_rfl))) (And.intro p3 (And.intro h1 (And.intro p1 trivial))))) (by kernel_rfl)
          | x1 i4p2 x4p2 va4p2_0 =>
            try dsimp only
            have hv_h19 := ivt_ranges_gathered_4p2 a (zf ze a.l) (zf ze a.l) 0 (List.drop_zero) (Nat.zero_le _) (by simp only [zr, GS.some_l, List.length_set, List.length_append, List.length_cons, List.length_nil] at * <;> first | with_reducible assumption | omega) (by simp only [zr, GS.some_l, List.length_set, List.length_append, List.length_cons, List.length_nil] at * <;> first | with_reducible assumption | omega)
            rw [h19] at hv_h19
            obtain ⟨hv_h19_0, hv_h19_1⟩ := hv_h19
            try dsimp only [zM] at hv_h19_0
            try dsimp only [zM] at hv_h19_1
            exact zq ((ranges_Union_o2 a b) ++ [.inlS [2] (.tup [.sl true [] 0 none, I 2]) [(2, ⟨(zf ze a.l).map S_Span.D, 2, false⟩), (3, ⟨va4p2_0.map S_Span.D, 2, false⟩), (4, ⟨[.agg [I x4p2.lo, I x4p2.hi]], 2, false⟩)] 5]) (And.intro (And.intro (show zc [(0, ⟨[.sl a.nl (a.l.map S_Span.D) (zsl a.nl 2) none, .sl b.nl (b.l.map S_Span.D) (zsl b.nl 2) none], 1, false⟩), (1, ⟨[.sl a.nl (a.l.map S_Span.D) (zsl a.nl 2) none, .sl b.nl (b.l.map S_Span.D) (zsl b.nl 2) none], 1, false⟩), (2, ⟨a.l.map S_Span.D, 2, false⟩)] 256 [2] [] = some [2] from (by (simp only [zc, go_sem, List.length_set, Nat.reduceAdd, Nat.reduceEqDiff, Nat.reduceLT, Nat.reduceLeDiff, bI2, za.idsL, za.renL, za.snapAll, z6.idsL, z6.renL, z6.snapAll]) <;> rfl)) (show (lim cfg).inl 69 [.lsl 2 0 a.l.length 2 none] [(2, ⟨a.l.map S_Span.D, 2, false⟩)] 3 = some (.tup [.sl true [] 0 none, I 2], [(2, ⟨(zf ze a.l).map S_Span.D, 2, false⟩), (3, ⟨va4p2_0.map S_Span.D, 2, false⟩), (4, ⟨[.agg [I x4p2.lo, I x4p2.hi]], 2, false⟩)], 5) from zw [.inlS [2] (.tup []) [(2, ⟨(zf ze a.l).map S_Span.D, 2, false⟩)] 3, .gloop (sd251 a) .ret (sd253 a i4p2 x4p2 va4p2_0)] (And.intro (zX (q := zF a (zf ze a.l)) (lp_ranges_gathered_4p2 a (zf ze a.l) (zf ze a.l) 0 (List.drop_zero) (Nat.zero_le _) (by simp only [zr, GS.some_l, List.length_set, List.length_append, List.length_cons, List.length_nil] at * <;> first | with_reducible assumption | omega) (by simp only [zr, GS.some_l, List.length_set, List.length_append, List.length_cons, List.length_nil] at * <;> first | with_reducible assumption | omega)) h19) (And.intro (gc_of (C := cfg) (f := 69) (a := lp69_4) (ks := [4, 10, 11, 12]) (st := (sd250 a)) (st1 := (sd251 a)) (by kernel_rfl) (by (simp only [sd250, sd251, go_sem, List.length_set, Nat.reduceAdd, Nat.reduceEqDiff, Nat.reduceLT, Nat.reduceLeDiff, bI2, za.idsL, za.renL, za.snapAll, z6.idsL, z6.renL, z6.snapAll]) <;> rfl)) (And.intro (And.intro (show zc [(2, ⟨a.l.map S_Span.D, 2, false⟩)] 256 [2] [] = some [2] from (by (simp only [zc, go_sem, List.length_set, Nat.reduceAdd, Nat.reduceEqDiff, Nat.reduceLT, Nat.reduceLeDiff, bI2, za.idsL, za.renL, za.snapAll, z6.idsL, z6.renL, z6.snapAll]) <;> rfl)) (y8 2 3 none a.l (by omega))) trivial))) (by kernel_rfl))) (And.intro p3 (And.intro h1 (And.intro p1 trivial)))) (by kernel_rfl)
          | x2 i4p2 x4p2 va4p2_0 =>
            try dsimp only
            have hv_h19 := ivt_ranges_gathered_4p2 a (zf ze a.l) (zf ze a.l) 0 (List.drop_zero) (Nat.zero_le _) (by simp only [zr, GS.some_l, List.length_set, List.length_append, List.length_cons, List.length_nil] at * <;> first | with_reducible assumption | omega) (by simp only [zr, GS.some_l, List.length_set, List.length_append, List.length_cons, List.length_nil] at * <;> first | with_reducible assumption | omega)
            rw [h19] at hv_h19
            obtain ⟨hv_h19_0, hv_h19_1⟩ := hv_h19
            try dsimp only [zM] at hv_h19_0
            try dsimp only [zM] at hv_h19_1
            exact zq ((ranges_Union_o2 a b) ++ [.inlS [2] (.tup [.sl true [] 0 none, I 2]) [(2, ⟨(zf ze a.l).map S_Span.D, 2, false⟩), (3, ⟨va4p2_0.map S_Span.D, 2, false⟩), (4, ⟨[.agg [I x4p2.lo, I x4p2.hi]], 2, false⟩)] 5]) (And.intro (And.intro (show zc [(0, ⟨[.sl a.nl (a.l.map S_Span.D) (zsl a.nl 2) none, .sl b.nl (b.l.map S_Span.D) (zsl b.nl 2) none], 1, false⟩), (1, ⟨[.sl a.nl (a.l.map S_Span.D) (zsl a.nl 2) none, .sl b.nl (b.l.map S_Span.D) (zsl b.nl 2) none], 1, false⟩), (2, ⟨a.l.map S_Span.D, 2, false⟩)] 256 [2] [] = some [2] from (by (simp only [zc, go_sem, List.length_set, Nat.reduceAdd, Nat.reduceEqDiff, Nat.reduceLT, Nat.reduceLeDiff, bI2, za.idsL, za.renL, za.snapAll, z6.idsL, z6.renL, z6.snapAll]) <;> rfl)) (show (lim cfg).inl 69 [.lsl 2 0 a.l.length 2 none] [(2, ⟨a.l.map S_Span.D, 2, false⟩)] 3 = some (.tup [.sl true [] 0 none, I 2], [(2, ⟨(zf ze a.l).map S_Span.D, 2, false⟩), (3, ⟨va4p2_0.map S_Span.D, 2, false⟩), (4, ⟨[.agg [I x4p2.lo, I x4p2.hi]], 2, false⟩)], 5) from zw [.inlS [2] (.tup []) [(2, ⟨(zf ze a.l).map S_Span.D, 2, false⟩)] 3, .gloop (sd251 a) .ret (sd254 a i4p2 x4p2 va4p2_0)] (And.intro (zX (q := zF a (zf ze a.l)) (lp_ranges_gathered_4p2 a (zf ze a.l) (zf ze a.l) 0 (List.drop_zero) (Nat.zero_le _) (by simp only [zr, GS.some_l, List.length_set, List.length_append, List.length_cons, List.length_nil] at * <;> first | with_reducible assumption | omega) (by simp only [zr, GS.some_l, List.length_set, List.length_append, List.length_cons, List.length_nil] at * <;> first | with_reducible assumption | omega)) h19) (And.intro (gc_of (C := cfg) (f := 69) (a := lp69_4) (ks := [4, 10, 11, 12]) (st := (sd250 a)) (st1 := (sd251 a)) (by kernel_rfl) (by (simp only [sd250, sd251, go_sem, List.length_set, Nat.reduceAdd, Nat.reduceEqDiff, Nat.reduceLT, Nat.reduceLeDiff, bI2, za.idsL, za.renL, za.snapAll, z6.idsL, z6.renL, z6.snapAll]) <;> rfl)) (And.intro (And.intro (show zc [(2, ⟨a.l.map S_Span.D, 2, false⟩)] 256 [2] [] = some [2] from (by (simp only [zc, go_sem, List.length_set, Nat.reduceAdd, Nat.reduceEqDiff, Nat.reduceLT, Nat.reduceLeDiff, bI2, za.idsL, za.renL, za.snapAll, z6.idsL, z6.renL, z6.snapAll]) <;> rfl)) (y8 2 3 none a.l (by omega))) trivial))) (by kernel_rfl))) (And.intro p3 (And.intro h1 (And.intro p1 trivial)))) (by kernel_rfl)
          | x3 =>
            try dsimp only
            exact zq ((ranges_Union_o2 a b) ++ [.inlS [2] (.tup [.sl true [] 0 none, I 0]) [(2, ⟨(zf ze a.l).map S_Span.D, 2, false⟩)] 3]) (And.intro (And.intro (show zc [(0, ⟨[.sl a.nl (a.l.map S_Span.D) (zsl a.nl 2) none, .sl b.nl (b.l.map S_Span.D) (zsl b.nl 2) none], 1, false⟩), (1, ⟨[.sl a.nl (a.l.map S_Span.D) (zsl a.nl 2) none, .sl b.nl (b.l.map S_Span.D) (zsl b.nl 2) none], 1, false⟩), (2, ⟨a.l.map S_Span.D, 2, false⟩)] 256 [2] [] = some [2] from (by (simp only [zc, go_sem, List.length_set, Nat.reduceAdd, Nat.reduceEqDiff, Nat.reduceLT, Nat.reduceLeDiff, bI2, za.idsL, za.renL, za.snapAll, z6.idsL, z6.renL, z6.snapAll]) <;> rfl)) (show (lim cfg).inl 69 [.lsl 2 0 a.l.length 2 none] [(2, ⟨a.l.map S_Span.D, 2, false⟩)] 3 = some (.tup [.sl true [] 0 none, I 0], [(2, ⟨(zf ze a.l).map S_Span.D, 2, false⟩)], 3) from zw [.inlS [2] (.tup []) [(2, ⟨(zf ze a.l).map S_Span.D, 2, false⟩)] 3, .gloop (sd251 a) (.exit 0) (sd255 a), .dec false] (And.intro (Eq.refl false) (And.intro (zX (q := zF a (zf ze a.l)) (lp_ranges_gathered_4p2 a (zf ze a.l) (zf ze a.l) 0 (List.drop_zero) (Nat.zero_le _) (by simp only [zr, GS.some_l, List.length_set, List.length_append, List.length_cons, List.length_nil] at * <;> first | with_reducible assumption | omega) (by simp only [zr, GS.some_l, List.length_set, List.length_append, List.length_cons, List.length_nil] at * <;> first | with_reducible assumption | omega)) h19) (And.intro (gc_of (C := cfg) (f := 69) (a := lp69_4) (ks := [4, 10, 11, 12]) (st := (sd250 a)) (st1 := (sd251 a)) (by kernel_rfl) (by (simp only [sd250, sd251, go_sem, List.length_set, Nat.reduceAdd, Nat.reduceEqDiff, Nat.reduceLT, Nat.reduceLeDiff, bI2, za.idsL, za.renL, za.snapAll, z6.idsL, z6.renL, z6.snapAll]) <;> rfl)) (And.intro (And.intro (show zc [(2, ⟨a.l.map S_Span.D, 2, false⟩)] 256 [2] [] = some [2] from (by (simp only [zc, go_sem, List.length_set, Nat.reduceAdd, Nat.reduceEqDiff, Nat.reduceLT, Nat.reduceLeDiff, bI2, za.idsL, za.renL, za.snapAll, z6.idsL, z6.renL, z6.snapAll]) <;> rfl)) (y8 2 3 none a.l (by omega))) trivial)))) (by kernel_rfl))) (And.intro p3 (And.intro h1 (And.intro p1 trivial)))) (by kernel_rfl)
          | x4 i4p2 x4p2 =>
            try dsimp only
            exact zq ((ranges_Union_o2 a b) ++ [.inlS [2] (.tup [.sl true [] 0 none, I 2]) [(2, ⟨(zf ze a.l).map S_Span.D, 2, false⟩), (3, ⟨[.agg [I x4p2.lo, I x4p2.hi]], 2, false⟩)] 4]) (And.intro (And.intro (show zc [(0, ⟨[.sl a.nl (a.l.map S_Span.D) (zsl a.nl 2) none, .sl b.nl (b.l.map S_Span.D) (zsl b.nl 2) none], 1, false⟩), (1, ⟨[.sl a.nl (a.l.map S_Span.D) (zsl a.nl 2) none, .sl b.nl (b.l.map S_Span.D) (zsl b.nl 2) none], 1, false⟩), (2, ⟨a.l.map S_Span.D, 2, false⟩)] 256 [2] [] = some [2] from (by (simp only [zc, go_sem, List.length_set, Nat.reduceAdd, Nat.reduceEqDiff, Nat.reduceLT, Nat.reduceLeDiff, bI2, za.idsL, za.renL, za.snapAll, z6.idsL, z6.renL, z6.snapAll]) <;> rfl)) (show (lim cfg).inl 69 [.lsl 2 0 a.l.length 2 none] [(2, ⟨a.l.map S_Span.D, 2, false⟩)] 3 = some (.tup [.sl true [] 0 none, I 2], [(2, ⟨(zf ze a.l).map S_Span.D, 2, false⟩), (3, ⟨[.agg [I x4p2.lo, I x4p2.hi]], 2, false⟩)], 4) from zw [.inlS [2] (.tup []) [(2, ⟨(zf ze a.l).map S_Span.D, 2, false⟩)] 3, .gloop (sd251 a) .ret (sd256 a i4p2 x4p2)] (And.intro (zX (q := zF a (zf ze a.l)) (lp_ranges_gathered_4p2 a (zf ze a.l) (zf ze a.l) 0 (List.drop_zero) (Nat.zero_le _) (by simp only [zr, GS.some_l, List.length_set, List.length_append, List.length_cons, List.length_nil] at * <;> first | with_reducible assumption | omega) (by simp only [zr, GS.some_l, List.length_set, List.length_append, List.length_cons, List.length_nil] at * <;> first | with_reducible assumption | omega)) h19) (And.intro (gc_of (C := cfg) (f := 69) (a := lp69_4) (ks := [4, 10, 11, 12]) (st := (sd250 a)) (st1 := (sd251 a)) (by kernel_rfl) (by (simp only [sd250, sd251, go_sem, List.length_set, Nat.reduceAdd, Nat.reduceEqDiff, Nat.reduceLT, Nat.reduceLeDiff, bI2, za.idsL, za.renL, za.snapAll, z6.idsL, z6.renL, z6.snapAll]) <;> rfl)) (And.intro (And.intro (show zc [(2, ⟨a.l.map S_Span.D, 2, false⟩)] 256 [2] [] = some [2] from (by (simp only [zc, go_sem, List.length_set, Nat.reduceAdd, Nat.reduceEqDiff, Nat.reduceLT, Nat.reduceLeDiff, bI2, za.idsL, za.renL, za.snapAll, z6.idsL, z6.renL, z6.snapAll]) <;> rfl)) (y8 2 3 none a.l (by omega))) trivial))) (by kernel_rfl))) (And.intro p3 (And.intro h1 (And.intro p1 trivial)))) (by kernel_rfl)
          | x5 i4p2 x4p2 =>
            try dsimp only
            exact zq ((ranges_Union_o2 a b) ++ [.inlS [2] (.tup [.sl true [] 0 none, I 2]) [(2, ⟨(zf ze a.l).map S_Span.D, 2, false⟩), (3, ⟨[.agg [I x4p2.lo, I x4p2.hi]], 2, false⟩)] 4]) (And.intro (And.intro (show zc [(0, ⟨[.sl a.nl (a.l.map S_Span.D) (zsl a.nl 2) none, .sl b.nl (b.l.map S_Span.D) (zsl b.nl 2) none], 1, false⟩), (1, ⟨[.sl a.nl (a.l.map S_Span.D) (zsl a.nl 2) none, .sl b.nl (b.l.map S_Span.D) (zsl b.nl 2) none], 1, false⟩), (2, ⟨a.l.map S_Span.D, 2, false⟩)] 256 [2] [] = some [2] from (by (simp only [zc, go_sem, List.length_set, Nat.reduceAdd, Nat.reduceEqDiff, Nat.reduceLT, Nat.reduceLeDiff, bI2, za.idsL, za.renL, za.snapAll, z6.idsL, z6.renL, z6.snapAll]) <;> rfl)) (show (lim cfg).inl 69 [.lsl 2 0 a.l.length 2 none] [(2, ⟨a.l.map S_Span.D, 2, false⟩)] 3 = some (.tup [.sl true [] 0 none, I 2], [(2, ⟨(zf ze a.l).map S_Span.D, 2, false⟩), (3, ⟨[.agg [I x4p2.lo, I x4p2.hi]], 2, false⟩)], 4) from zw [.inlS [2] (.tup []) [(2, ⟨(zf ze a.l).map S_Span.D, 2, false⟩)] 3, .gloop (sd251 a) .ret (sd257 a i4p2 x4p2)] (And.intro (zX (q := zF a (zf ze a.l)) (lp_ranges_gathered_4p2 a (zf ze a.l) (zf ze a.l) 0 (List.drop_zero) (Nat.zero_le _) (by simp only [zr, GS.some_l, List.length_set, List.length_append, List.length_cons, List.length_nil] at * <;> first | with_reducible assumption | omega) (by simp only [zr, GS.some_l, List.length_set, List.length_append, List.length_cons, List.length_nil] at * <;> first | with_reducible assumption | omega)) h19) (And.intro (gc_of (C := cfg) (f := 69) (a := lp69_4) (ks := [4, 10, 11, 12]) (st := (sd250 a)) (st1 := (sd251 a)) (by kernel_rfl) (by (simp only [sd250, sd251, go_sem, List.length_set, Nat.reduceAdd, Nat.reduceEqDiff, Nat.reduceLT, Nat.reduceLeDiff, bI2, za.idsL, za.renL, za.snapAll, z6.idsL, z6.renL, z6.snapAll]) <;> rfl)) (And.intro (And.intro (show zc [(2, ⟨a.l.map S_Span.D, 2, false⟩)] 256 [2] [] = some [2] from (by (simp only [zc, go_sem, List.length_set, Nat.reduceAdd, Nat.reduceEqDiff, Nat.reduceLT, Nat.reduceLeDiff, bI2, za.idsL, za.renL, za.snapAll, z6.idsL, z6.renL, z6.snapAll]) <;> rfl)) (y8 2 3 none a.l (by omega))) trivial))) (by kernel_rfl))) (And.intro p3 (And.intro h1 (And.intro p1 trivial)))) (by kernel_rfl)
        | false =>
          have l13 := (app_fillD (te := ty25) (gO := zv [(1, ⟨[.sl a.nl (a.l.map S_Span.D) (zsl a.nl 2) none, .sl b.nl (b.l.map S_Span.D) (zsl b.nl 2) none], 1, false⟩), (2, ⟨(List.replicate (a.l.length + b.l.length) (⟨0, 0⟩ : S_Span)).map S_Span.D, 2, false⟩)]) (nxt := 3) (o := 2) (v := []) (z := (⟨0, 0⟩ : S_Span)) (n := (a.l.length + b.l.length)) z6 a h3 (by kernel_rfl) rfl (by kernel_rfl) (by decide) (by omega) ⟨by simp only [ty25, big] <;> (first | assumption | omega | (exact yi (by omega) (by omega)) | (exact zO (by omega)) | (exact zz (by omega)) | (exact zP (by omega)) | (exact zA (by omega)) | (exact zy _ (by omega)) | (simp only [zk] at * <;> omega) | (simp only [zr, GS.some_l, List.length_set, List.length_append, List.length_cons, List.length_nil] at * <;> first | with_reducible assumption | omega) | (simp only [zr, GS.some_l, List.length_set, List.length_append, List.length_cons, List.length_nil, zk] at * <;> first | with_reducible assumption | omega) | (simp at * <;> omega)), by simp only [big] <;> (first | assumption | omega | (exact yi (by omega) (by omega)) | (exact zO (by omega)) | (exact zz (by omega)) | (exact zP (by omega)) | (exact zA (by omega)) | (exact zy _ (by omega)) | (simp only [zk] at * <;> omega) | (simp only [zr, GS.some_l, List.length_set, List.length_append, List.length_cons, List.length_nil] at * <;> first | with_reducible assumption | omega) | (simp only [zr, GS.some_l, List.length_set, List.length_append, List.length_cons, List.length_nil, zk] at * <;> first | with_reducible assumption | omega) | (simp at * <;> omega))⟩)
          have l14 := (show ∀ q, (lim cfg).loop 96 lp96_11 (sd258 a b) = some q → (lim cfg).loop 96 lp96_11 (sd226 a b) = some q from fun q hq => y7 (ks := [6, 25, 26, 27]) (st' := (sd259 a b)) (st1 := (sd258 a b)) [.dec true, .op (some 33) ⟨.lsl 2 0 a.l.length 2 none, [(2, some ⟨(a.l ++ List.replicate ((a.l.length + b.l.length) - a.l.length) (⟨0, 0⟩ : S_Span)).map S_Span.D, 2, false⟩)], [2], 3⟩, .rw 34 (I 1)] (And.intro (zadd_rw (x := 1) (by omega)) (And.intro (l13) (And.intro (Eq.refl true) trivial))) (by kernel_rfl) (by (simp only [sd258, sd259, go_sem, List.length_set, Nat.reduceAdd, Nat.reduceEqDiff, Nat.reduceLT, Nat.reduceLeDiff, bI2, za.idsL, za.renL, za.snapAll, z6.idsL, z6.renL, z6.snapAll]) <;> rfl) hq (by kernel_rfl))
          have l15 := (app_fullD (te := ty25) (gO := zv [(1, ⟨[.sl a.nl (a.l.map S_Span.D) (zsl a.nl 2) none, .sl b.nl (b.l.map S_Span.D) (zsl b.nl 2) none], 1, false⟩), (2, ⟨(a.l ++ List.replicate ((a.l.length + b.l.length) - a.l.length) (⟨0, 0⟩ : S_Span)).map S_Span.D, 2, false⟩)]) (nxt := 3) (o := 2) (v := a.l) (z := (⟨0, 0⟩ : S_Span)) (n := ((a.l.length + b.l.length) - a.l.length)) z6 b h18 (by kernel_rfl) rfl (by kernel_rfl) (by decide) (by omega) ⟨by simp only [ty25, big] <;> (first | assumption | omega | (exact yi (by omega) (by omega)) | (exact zO (by omega)) | (exact zz (by omega)) | (exact zP (by omega)) | (exact zA (by omega)) | (exact zy _ (by omega)) | (simp only [zk] at * <;> omega) | (simp only [zr, GS.some_l, List.length_set, List.length_append, List.length_cons, List.length_nil] at * <;> first | with_reducible assumption | omega) | (simp only [zr, GS.some_l, List.length_set, List.length_append, List.length_cons, List.length_nil, zk] at * <;> first | with_reducible assumption | omega) | (simp at * <;> omega)), by simp only [big] <;> (first | assumption | omega | (exact yi (by omega) (by omega)) | (exact zO (by omega)) | (exact zz (by omega)) | (exact zP (by omega)) | (exact zA (by omega)) | (exact zy _ (by omega)) | (simp only [zk] at * <;> omega) | (simp only [zr, GS.some_l, List.length_set, List.length_append, List.length_cons, List.length_nil] at * <;> first | with_reducible assumption | omega) | (simp only [zr, GS.some_l, List.length_set, List.length_append, List.length_cons, List.length_nil, zk] at * <;> first | with_reducible assumption | omega) | (simp at * <;> omega))⟩)
          have l16 := (show ∀ q, (lim cfg).loop 96 lp96_11 (sd260 a b) = some q → (lim cfg).loop 96 lp96_11 (sd258 a b) = some q from fun q hq => y7 (ks := [6, 25, 26, 27]) (st' := (sd261 a b)) (st1 := (sd260 a b)) [.dec true, .op (some 33) ⟨.lsl 2 0 ((a.l ++ b.l).length) 2 none, [(2, some ⟨(a.l ++ b.l).map S_Span.D, 2, false⟩)], [2], 3⟩] (And.intro (l15) (And.intro (Eq.refl true) trivial)) (by kernel_rfl) (by (simp only [sd260, sd261, go_sem, List.length_set, Nat.reduceAdd, Nat.reduceEqDiff, Nat.reduceLT, Nat.reduceLeDiff, bI2, za.idsL, za.renL, za.snapAll, z6.idsL, z6.renL, z6.snapAll]) <;> rfl) hq (by kernel_rfl))
          have p4 := (show (lim cfg).inl 96 [.lsl 1 0 2 1 (some 2)] [(1, ⟨[.sl a.nl (a.l.map S_Span.D) (zsl a.nl 2) none, .sl b.nl (b.l.map S_Span.D) (zsl b.nl 2) none], 1, false⟩)] 2 = some (.lsl 2 0 ((a.l ++ b.l).length) 2 none, [(1, ⟨[.sl a.nl (a.l.map S_Span.D) (zsl a.nl 2) none, .sl b.nl (b.l.map S_Span.D) (zsl b.nl 2) none], 1, false⟩), (2, ⟨(a.l ++ b.l).map S_Span.D, 2, false⟩)], 3) from zw [.loop (.exit 0) (sd225 a b), .inl (.lsl 2 0 0 2 none) [(2, ⟨(List.replicate (a.l.length + b.l.length) (⟨0, 0⟩ : S_Span)).map S_Span.D, 2, false⟩)] 3, .gloop (sd226 a b) (.exit 2) (sd262 a b)] (And.intro (show (lim cfg).loop 96 lp96_11 (sd226 a b) = some ((.exit 2), (sd262 a b)) from (l14 _ (l16 _ (zS [.dec false] (And.intro (Eq.refl false) trivial) (by kernel_rfl))))) (And.intro (gc_of (C := cfg) (f := 96) (a := lp96_11) (ks := [6, 25, 26, 27]) (st := (sd232 a b)) (st1 := (sd226 a b)) (by kernel_rfl) (by (simp only [sd226, sd232, go_sem, List.length_set, Nat.reduceAdd, Nat.reduceEqDiff, Nat.reduceLT, Nat.reduceLeDiff, bI2, za.idsL, za.renL, za.snapAll, z6.idsL, z6.renL, z6.snapAll]) <;> rfl)) (And.intro (show (lim cfg).inl 108 [.sl true [] 0 none, I ((a.l.length + b.l.length : Nat) : Int)] [] 2 = some (.lsl 2 0 0 2 none, [(2, ⟨(List.replicate (a.l.length + b.l.length) (⟨0, 0⟩ : S_Span)).map S_Span.D, 2, false⟩)], 3) from zw [.dec false, .rw 14 (I ((a.l.length + b.l.length : Nat) : Int)), .dec true, .op (some 22) ⟨.lsl 2 0 (a.l.length + b.l.length) 2 none, [(2, some ⟨(List.replicate (a.l.length + b.l.length) (⟨0, 0⟩ : S_Span)).map S_Span.D, 2, false⟩)], [], 3⟩, .op (some 25) ⟨.lsl 2 0 0 2 none, [], [2], 3⟩] (And.intro (cut_zero (C := cfg) (objs := [(2, ⟨(List.replicate (a.l.length + b.l.length) (⟨0, 0⟩ : S_Span)).map S_Span.D, 2, false⟩)]) (t := 22) (nxt := 3) (o := 2) (sz := 2) (len := (a.l.length + b.l.length)) rfl rfl rfl rfl (by omega)) (And.intro (app_zero (C := cfg) (gO := zv []) (nxt := 2) (t := 22) (t' := 3) (te := ty25) (f := S_Span.D) (sz := 2) (k := .i64) (n := ((a.l.length + b.l.length : Nat) : Int)) (els0 := []) (sz0 := 0) (cap0 := none) (⟨0, 0⟩ : S_Span) rfl rfl rfl rfl rfl (by kernel_rfl) (by decide) rfl (by omega) ⟨by simp only [ty25, big] <;> (first | assumption | omega | (exact yi (by omega) (by omega)) | (exact zO (by omega)) | (exact zz (by omega)) | (exact zP (by omega)) | (exact zA (by omega)) | (exact zy _ (by omega)) | (simp only [zk] at * <;> omega) | (simp only [zr, GS.some_l, List.length_set, List.length_append, List.length_cons, List.length_nil] at * <;> first | with_reducible assumption | omega) | (simp only [zr, GS.some_l, List.length_set, List.length_append, List.length_cons, List.length_nil, zk] at * <;> first | with_reducible assumption | omega) | (simp at * <;> omega)), by simp only [big] <;> (first | assumption | omega | (exact yi (by omega) (by omega)) | (exact zO (by omega)) | (exact zz (by omega)) | (exact zP (by omega)) | (exact zA (by omega)) | (exact zy _ (by omega)) | (simp only [zk] at * <;> omega) | (simp only [zr, GS.some_l, List.length_set, List.length_append, List.length_cons, List.length_nil] at * <;> first | with_reducible assumption | omega) | (simp only [zr, GS.some_l, List.length_set, List.length_append, List.length_cons, List.length_nil, zk] at * <;> first | with_reducible assumption | omega) | (simp at * <;> omega))⟩) (And.intro h2 (And.intro (sub0_rw (x := a.l.length + b.l.length) (by omega)) (And.intro (show decide (((a.l.length + b.l.length : Nat) : Int) < 0) = false from (decide_eq_false (by omega))) trivial))))) (by kernel_rfl)) (And.intro (show (lim cfg).loop 96 lp96_3 (sd222 a b) = some ((.exit 0), (sd225 a b)) from (l2 _ (l4 _ (zS [.dec false] (And.intro (Eq.refl false) trivial) (by kernel_rfl))))) trivial)))) (by kernel_rfl))
          cases h33 : yb (zf ze (a.l ++ b.l)) 0 with
          | x0 va4p3_0 =>
            try dsimp only
            have hv_h33 := ivt_ranges_gathered_4p3 a b (zf ze (a.l ++ b.l)) (zf ze (a.l ++ b.l)) 0 (List.drop_zero) (Nat.zero_le _) (by simp only [zr, GS.some_l, List.length_set, List.length_append, List.length_cons, List.length_nil] at * <;> first | with_reducible assumption | omega) (by simp only [zr, GS.some_l, List.length_set, List.length_append, List.length_cons, List.length_nil] at * <;> first | with_reducible assumption | omega)
            rw [h33] at hv_h33
            obtain ⟨hv_h33_0, hv_h33_1⟩ := hv_h33
            try dsimp only [iv_ranges_gathered_4p3] at hv_h33_0
            try dsimp only [iv_ranges_gathered_4p3] at hv_h33_1
            cases h34 : decide (((va4p3_0.length : Nat) : Int) > 64) with
            | true =>
              have g34 := of_decide_eq_true h34
              exact zq ((ranges_Union_o3 a b) ++ [.inlS [2] (.tup [.sl true [] 0 none, I 2]) [(2, ⟨(zf ze (a.l ++ b.l)).map S_Span.D, 2, false⟩), (3, ⟨va4p3_0.map S_Span.D, 2, false⟩)] 4]) (And.intro (And.intro (show zc [(0, ⟨[.sl a.nl (a.l.map S_Span.D) (zsl a.nl 2) none, .sl b.nl (b.l.map S_Span.D) (zsl b.nl 2) none], 1, false⟩), (1, ⟨[.sl a.nl (a.l.map S_Span.D) (zsl a.nl 2) none, .sl b.nl (b.l.map S_Span.D) (zsl b.nl 2) none], 1, false⟩), (2, ⟨(a.l ++ b.l).map S_Span.D, 2, false⟩)] 256 [2] [] = some [2] from (by (simp only [zc, go_sem, List.length_set, Nat.reduceAdd, Nat.reduceEqDiff, Nat.reduceLT, Nat.reduceLeDiff, bI2, za.idsL, za.renL, za.snapAll, z6.idsL, z6.renL, z6.snapAll]) <;> rfl)) (show (lim cfg).inl 69 [.lsl 2 0 ((a.l ++ b.l).length) 2 none] [(2, ⟨(a.l ++ b.l).map S_Span.D, 2, false⟩)] 3 = some (.tup [.sl true [] 0 none, I 2], [(2, ⟨(zf ze (a.l ++ b.l)).map S_Span.D, 2, false⟩), (3, ⟨va4p3_0.map S_Span.D, 2, false⟩)], 4) from zw [.inlS [2] (.tup []) [(2, ⟨(zf ze (a.l ++ b.l)).map S_Span.D, 2, false⟩)] 3, .gloop (sd268 a b) (.exit 0) (sd269 a b va4p3_0), .dec true] (And.intro h34 (And.intro (zX (q := lr_ranges_gathered_4p3 a b (zf ze (a.l ++ b.l))) (lp_ranges_gathered_4p3 a b (zf ze (a.l ++ b.l)) (zf ze (a.l ++ b.l)) 0 (List.drop_zero) (Nat.zero_le _) (by simp only [zr, GS.some_l, List.length_set, List.length_append, List.length_cons, List.length_nil] at * <;> first | with_reducible assumption | omega) (by simp only [zr, GS.some_l, List.length_set, List.length_append, List.length_cons, List.length_nil] at * <;> first | with_reducible assumption | omega)) h33) (And.intro (gc_of (C := cfg) (f := 69) (a := lp69_4) (ks := [4, 10, 11, 12]) (st := (sd267 a b)) (st1 := (sd268 a b)) (by kernel_rfl) (by (simp only [sd267, sd268, go_sem, List.length_set, Nat.reduceAdd, Nat.reduceEqDiff, Nat.reduceLT, Nat.reduceLeDiff, bI2, za.idsL, za.renL, za.snapAll, z6.idsL, z6.renL, z6.snapAll]) <;> rfl)) (And.intro (And.intro (show zc [(2, ⟨(a.l ++ b.l).map S_Span.D, 2, false⟩)] 256 [2] [] = some [2] from (by (simp only [zc, go_sem, List.length_set, Nat.reduceAdd, Nat.reduceEqDiff, Nat.reduceLT, Nat.reduceLeDiff, bI2, za.idsL, za.renL, za.snapAll, z6.idsL, z6.renL, z6.snapAll]) <;> rfl)) (y8 2 3 none (a.l ++ b.l) (by simp only [List.length_append, List.length_cons, List.length_nil] at * <;> omega))) trivial)))) (by kernel_rfl))) (And.intro p4 (And.intro h1 (And.intro p1 trivial)))) (by kernel_rfl)
            | false =>
              have g34 := of_decide_eq_false h34
              exact po_pureS ((ranges_Union_o3 a b) ++ [.inlS [2] (.tup [.lsl 3 0 va4p3_0.length 2 none, I 0]) [(2, ⟨(zf ze (a.l ++ b.l)).map S_Span.D, 2, false⟩), (3, ⟨va4p3_0.map S_Span.D, 2, false⟩)] 4]) [(3, .sl false (va4p3_0.map S_Span.D) 2 none, [3])] (And.intro (snap_row (gO := zv [(0, ⟨[.sl a.nl (a.l.map S_Span.D) (zsl a.nl 2) none, .sl b.nl (b.l.map S_Span.D) (zsl b.nl 2) none], 1, false⟩), (1, ⟨[.sl a.nl (a.l.map S_Span.D) (zsl a.nl 2) none, .sl b.nl (b.l.map S_Span.D) (zsl b.nl 2) none], 1, false⟩), (2, ⟨(zf ze (a.l ++ b.l)).map S_Span.D, 2, false⟩), (3, ⟨va4p3_0.map S_Span.D, 2, false⟩)]) (o := 3) (len := va4p3_0.length) (cap := none) (fz := false) z6 va4p3_0 (by kernel_rfl) (by omega)) (And.intro (And.intro (show zc [(0, ⟨[.sl a.nl (a.l.map S_Span.D) (zsl a.nl 2) none, .sl b.nl (b.l.map S_Span.D) (zsl b.nl 2) none], 1, false⟩), (1, ⟨[.sl a.nl (a.l.map S_Span.D) (zsl a.nl 2) none, .sl b.nl (b.l.map S_Span.D) (zsl b.nl 2) none], 1, false⟩), (2, ⟨(a.l ++ b.l).map S_Span.D, 2, false⟩)] 256 [2] [] = some [2] from (by (simp only [zc, go_sem, List.length_set, Nat.reduceAdd, Nat.reduceEqDiff, Nat.reduceLT, Nat.reduceLeDiff, bI2, za.idsL, za.renL, za.snapAll, z6.idsL, z6.renL, z6.snapAll]) <;> rfl)) (show (lim cfg).inl 69 [.lsl 2 0 ((a.l ++ b.l).length) 2 none] [(2, ⟨(a.l ++ b.l).map S_Span.D, 2, false⟩)] 3 = some (.tup [.lsl 3 0 va4p3_0.length 2 none, I 0], [(2, ⟨(zf ze (a.l ++ b.l)).map S_Span.D, 2, false⟩), (3, ⟨va4p3_0.map S_Span.D, 2, false⟩)], 4) from zw [.inlS [2] (.tup []) [(2, ⟨(zf ze (a.l ++ b.l)).map S_Span.D, 2, false⟩)] 3, .gloop (sd268 a b) (.exit 0) (sd269 a b va4p3_0), .dec false] (And.intro h34 (And.intro (zX (q := lr_ranges_gathered_4p3 a b (zf ze (a.l ++ b.l))) (lp_ranges_gathered_4p3 a b (zf ze (a.l ++ b.l)) (zf ze (a.l ++ b.l)) 0 (List.drop_zero) (Nat.zero_le _) (by simp only [zr, GS.some_l, List.length_set, List.length_append, List.length_cons, List.length_nil] at * <;> first | with_reducible assumption | omega) (by simp only [zr, GS.some_l, List.length_set, List.length_append, List.length_cons, List.length_nil] at * <;> first | with_reducible assumption | omega)) h33) (And.intro (gc_of (C := cfg) (f := 69) (a := lp69_4) (ks := [4, 10, 11, 12]) (st := (sd267 a b)) (st1 := (sd268 a b)) (by kernel_rfl) (by (simp only [sd267, sd268, go_sem, List.length_set, Nat.reduceAdd, Nat.reduceEqDiff, Nat.reduceLT, Nat.reduceLeDiff, bI2, za.idsL, za.renL, za.snapAll, z6.idsL, z6.renL, z6.snapAll]) <;> rfl)) (And.intro (And.intro (show zc [(2, ⟨(a.l ++ b.l).map S_Span.D, 2, false⟩)] 256 [2] [] = some [2] from (by (simp only [zc, go_sem, List.length_set, Nat.reduceAdd, Nat.reduceEqDiff, Nat.reduceLT, Nat.reduceLeDiff, bI2, za.idsL, za.renL, za.snapAll, z6.idsL, z6.renL, z6.snapAll]) <;> rfl)) (y8 2 3 none (a.l ++ b.l) (by simp only [List.length_append, List.length_cons, List.length_nil] at * <;> omega))) trivial)))) (by kernel_rfl))) (And.intro p4 (And.intro h1 (And.intro p1 trivial))))) (by kernel_rfl)
          | x1 i4p3 x4p3 va4p3_0 =>
            try dsimp only
            have hv_h33 := ivt_ranges_gathered_4p3 a b (zf ze (a.l ++ b.l)) (zf ze (a.l ++ b.l)) 0 (List.drop_zero) (Nat.zero_le _) (by simp only [zr, GS.some_l, List.length_set, List.length_append, List.length_cons, List.length_nil] at * <;> first | with_reducible assumption | omega) (by simp only [zr, GS.some_l, List.length_set, List.length_append, List.length_cons, List.length_nil] at * <;> first | with_reducible assumption | omega)
            rw [h33] at hv_h33
            obtain ⟨hv_h33_0, hv_h33_1⟩ := hv_h33
            try dsimp only [iv_ranges_gathered_4p3] at hv_h33_0
            try dsimp only [iv_ranges_gathered_4p3] at hv_h33_1
            exact zq ((ranges_Union_o3 a b) ++ [.inlS [2] (.tup [.sl true [] 0 none, I 2]) [(2, ⟨(zf ze (a.l ++ b.l)).map S_Span.D, 2, false⟩), (3, ⟨va4p3_0.map S_Span.D, 2, false⟩), (4, ⟨[.agg [I x4p3.lo, I x4p3.hi]], 2, false⟩)] 5]) (And.intro (And.intro (show zc [(0, ⟨[.sl a.nl (a.l.map S_Span.D) (zsl a.nl 2) none, .sl b.nl (b.l.map S_Span.D) (zsl b.nl 2) none], 1, false⟩), (1, ⟨[.sl a.nl (a.l.map S_Span.D) (zsl a.nl 2) none, .sl b.nl (b.l.map S_Span.D) (zsl b.nl 2) none], 1, false⟩), (2, ⟨(a.l ++ b.l).map S_Span.D, 2, false⟩)] 256 [2] [] = some [2] from (by (simp only [zc, go_sem, List.length_set, Nat.reduceAdd, Nat.reduceEqDiff, Nat.reduceLT, Nat.reduceLeDiff, bI2, za.idsL, za.renL, za.snapAll, z6.idsL, z6.renL, z6.snapAll]) <;> rfl)) (show (lim cfg).inl 69 [.lsl 2 0 ((a.l ++ b.l).length) 2 none] [(2, ⟨(a.l ++ b.l).map S_Span.D, 2, false⟩)] 3 = some (.tup [.sl true [] 0 none, I 2], [(2, ⟨(zf ze (a.l ++ b.l)).map S_Span.D, 2, false⟩), (3, ⟨va4p3_0.map S_Span.D, 2, false⟩), (4, ⟨[.agg [I x4p3.lo, I x4p3.hi]], 2, false⟩)], 5) from zw [.inlS [2] (.tup []) [(2, ⟨(zf ze (a.l ++ b.l)).map S_Span.D, 2, false⟩)] 3, .gloop (sd268 a b) .ret (sd270 a b i4p3 x4p3 va4p3_0)] (And.intro (zX (q := lr_ranges_gathered_4p3 a b (zf ze (a.l ++ b.l))) (lp_ranges_gathered_4p3 a b (zf ze (a.l ++ b.l)) (zf ze (a.l ++ b.l)) 0 (List.drop_zero) (Nat.zero_le _) (by simp only [zr, GS.some_l, List.length_set, List.length_append, List.length_cons, List.length_nil] at * <;> first | with_reducible assumption | omega) (by simp only [zr, GS.some_l, List.length_set, List.length_append, List.length_cons, List.length_nil] at * <;> first | with_reducible assumption | omega)) h33) (And.intro (gc_of (C := cfg) (f := 69) (a := lp69_4) (ks := [4, 10, 11, 12]) (st := (sd267 a b)) (st1 := (sd268 a b)) (by kernel_rfl) (by (simp only [sd267, sd268, go_sem, List.length_set, Nat.reduceAdd, Nat.reduceEqDiff, Nat.reduceLT, Nat.reduceLeDiff, bI2, za.idsL, za.renL, za.snapAll, z6.idsL, z6.renL, z6.snapAll]) <;> rfl)) (And.intro (And.intro (show zc [(2, ⟨(a.l ++ b.l).map S_Span.D, 2, false⟩)] 256 [2] [] = some [2] from (by (simp only [zc, go_sem, List.length_set, Nat.reduceAdd, Nat.reduceEqDiff, Nat.reduceLT, Nat.reduceLeDiff, bI2, za.idsL, za.renL, za.snapAll, z6.idsL, z6.renL, z6.snapAll]) <;> rfl)) (y8 2 3 none (a.l ++ b.l) (by simp only [List.length_append, List.length_cons, List.length_nil] at * <;> omega))) trivial))) (by kernel_rfl))) (And.intro p4 (And.intro h1 (And.intro p1 trivial)))) (by kernel_rfl)
          | x2 i4p3 x4p3 va4p3_0 =>
            try dsimp only
            have hv_h33 := ivt_ranges_gathered_4p3 a b (zf ze (a.l ++ b.l)) (zf ze (a.l ++ b.l)) 0 (List.drop_zero) (Nat.zero_le _) (by simp only [zr, GS.some_l, List.length_set, List.length_append, List.length_cons, List.length_nil] at * <;> first | with_reducible assumption | omega) (by simp only [zr, GS.some_l, List.length_set, List.length_append, List.length_cons, List.length_nil] at * <;> first | with_reducible assumption | omega)
            rw [h33] at hv_h33
            obtain ⟨hv_h33_0, hv_h33_1⟩ := hv_h33
            try dsimp only [iv_ranges_gathered_4p3] at hv_h33_0
            try dsimp only [iv_ranges_gathered_4p3] at hv_h33_1
            exact zq ((ranges_Union_o3 a b) ++ [.inlS [2] (.tup [.sl true [] 0 none, I 2]) [(2, ⟨(zf ze (a.l ++ b.l)).map S_Span.D, 2, false⟩), (3, ⟨va4p3_0.map S_Span.D, 2, false⟩), (4, ⟨[.agg [I x4p3.lo, I x4p3.hi]], 2, false⟩)] 5]) (And.intro (And.intro (show zc [(0, ⟨[.sl a.nl (a.l.map S_Span.D) (zsl a.nl 2) none, .sl b.nl (b.l.map S_Span.D) (zsl b.nl 2) none], 1, false⟩), (1, ⟨[.sl a.nl (a.l.map S_Span.D) (zsl a.nl 2) none, .sl b.nl (b.l.map S_Span.D) (zsl b.nl 2) none], 1, false⟩), (2, ⟨(a.l ++ b.l).map S_Span.D, 2, false⟩)] 256 [2] [] = some [2] from (by (simp only [zc, go_sem, List.length_set, Nat.reduceAdd, Nat.reduceEqDiff, Nat.reduceLT, Nat.reduceLeDiff, bI2, za.idsL, za.renL, za.snapAll, z6.idsL, z6.renL, z6.snapAll]) <;> rfl)) (show (lim cfg).inl 69 [.lsl 2 0 ((a.l ++ b.l).length) 2 none] [(2, ⟨(a.l ++ b.l).map S_Span.D, 2, false⟩)] 3 = some (.tup [.sl true [] 0 none, I 2], [(2, ⟨(zf ze (a.l ++ b.l)).map S_Span.D, 2, false⟩), (3, ⟨va4p3_0.map S_Span.D, 2, false⟩), (4, ⟨[.agg [I x4p3.lo, I x4p3.hi]], 2, false⟩)], 5) from zw [.inlS [2] (.tup []) [(2, ⟨(zf ze (a.l ++ b.l)).map S_Span.D, 2, false⟩)] 3, .gloop (sd268 a b) .ret (sd271 a b i4p3 x4p3 va4p3_0)] (And.intro (zX (q := lr_ranges_gathered_4p3 a b (zf ze (a.l ++ b.l))) (lp_ranges_gathered_4p3 a b (zf ze (a.l ++ b.l)) (zf ze (a.l ++ b.l)) 0 (List.drop_zero) (Nat.zero_le _) (by simp only [zr, GS.some_l, List.length_set, List.length_append, List.length_cons, List.length_nil] at * <;> first | with_reducible assumption | omega) (by simp only [zr, GS.some_l, List.length_set, List.length_append, List.length_cons, List.length_nil] at * <;> first | with_reducible assumption | omega)) h33) (And.intro (gc_of (C := cfg) (f := 69) (a := lp69_4) (ks := [4, 10, 11, 12]) (st := (sd267 a b)) (st1 := (sd268 a b)) (by kernel_rfl) (by (simp only [sd267, sd268, go_sem, List.length_set, Nat.reduceAdd, Nat.reduceEqDiff, Nat.reduceLT, Nat.reduceLeDiff, bI2, za.idsL, za.renL, za.snapAll, z6.idsL, z6.renL, z6.snapAll]) <;> rfl)) (And.intro (And.intro (show zc [(2, ⟨(a.l ++ b.l).map S_Span.D, 2, false⟩)] 256 [2] [] = some [2] from (by (simp only [zc, go_sem, List.length_set, Nat.reduceAdd, Nat.reduceEqDiff, Nat.reduceLT, Nat.reduceLeDiff, bI2, za.idsL, za.renL, za.snapAll, z6.idsL, z6.renL, z6.snapAll]) <;> rfl)) (y8 2 3 none (a.l ++ b.l) (by simp only [List.length_append, List.length_cons, List.length_nil] at * <;> omega))) trivial))) (by kernel_rfl))) (And.intro p4 (And.intro h1 (And.intro p1 trivial)))) (by kernel_rfl)
          | x3 =>
            try dsimp only
            exact zq ((ranges_Union_o3 a b) ++ [.inlS [2] (.tup [.sl true [] 0 none, I 0]) [(2, ⟨(zf ze (a.l ++ b.l)).map S_Span.D, 2, false⟩)] 3]) (And.intro (And.intro (show zc [(0, ⟨[.sl a.nl (a.l.map S_Span.D) (zsl a.nl 2) none, .sl b.nl (b.l.map S_Span.D) (zsl b.nl 2) none], 1, false⟩), (1, ⟨[.sl a.nl (a.l.map S_Span.D) (zsl a.nl 2) none, .sl b.nl (b.l.map S_Span.D) (zsl b.nl 2) none], 1, false⟩), (2, ⟨(a.l ++ b.l).map S_Span.D, 2, false⟩)] 256 [2] [] = some [2] from (by (simp only [zc, go_sem, List.length_set, Nat.reduceAdd, Nat.reduceEqDiff, Nat.reduceLT, Nat.reduceLeDiff, bI2, za.idsL, za.renL, za.snapAll, z6.idsL, z6.renL, z6.snapAll]) <;> rfl)) (show (lim cfg).inl 69 [.lsl 2 0 ((a.l ++ b.l).length) 2 none] [(2, ⟨(a.l ++ b.l).map S_Span.D, 2, false⟩)] 3 = some (.tup [.sl true [] 0 none, I 0], [(2, ⟨(zf ze (a.l ++ b.l)).map S_Span.D, 2, false⟩)], 3) from zw [.inlS [2] (.tup []) [(2, ⟨(zf ze (a.l ++ b.l)).map S_Span.D, 2, false⟩)] 3, .gloop (sd268 a b) (.exit 0) (sd272 a b), .dec false] (And.intro (Eq.refl false) (And.intro (zX (q := lr_ranges_gathered_4p3 a b (zf ze (a.l ++ b.l))) (lp_ranges_gathered_4p3 a b (zf ze (a.l ++ b.l)) (zf ze (a.l ++ b.l)) 0 (List.drop_zero) (Nat.zero_le _) (by simp only [zr, GS.some_l, List.length_set, List.length_append, List.length_cons, List.length_nil] at * <;> first | with_reducible assumption | omega) (by simp only [zr, GS.some_l, List.length_set, List.length_append, List.length_cons, List.length_nil] at * <;> first | with_reducible assumption | omega)) h33) (And.intro (gc_of (C := cfg) (f := 69) (a := lp69_4) (ks := [4, 10, 11, 12]) (st := (sd267 a b)) (st1 := (sd268 a b)) (by kernel_rfl) (by (simp only [sd267, sd268, go_sem, List.length_set, Nat.reduceAdd, Nat.reduceEqDiff, Nat.reduceLT, Nat.reduceLeDiff, bI2, za.idsL, za.renL, za.snapAll, z6.idsL, z6.renL, z6.snapAll]) <;> rfl)) (And.intro (And.intro (show zc [(2, ⟨(a.l ++ b.l).map S_Span.D, 2, false⟩)] 256 [2] [] = some [2] from (by (simp only [zc, go_sem, List.length_set, Nat.reduceAdd, Nat.reduceEqDiff, Nat.reduceLT, Nat.reduceLeDiff, bI2, za.idsL, za.renL, za.snapAll, z6.idsL, z6.renL, z6.snapAll]) <;> rfl)) (y8 2 3 none (a.l ++ b.l) (by simp only [List.length_append, List.length_cons, List.length_nil] at * <;> omega))) trivial)))) (by kernel_rfl))) (And.intro p4 (And.intro h1 (And.intro p1 trivial)))) (by kernel_rfl)
          | x4 i4p3 x4p3 =>
            try dsimp only
            exact zq ((ranges_Union_o3 a b) ++ [.inlS [2] (.tup [.sl true [] 0 none, I 2]) [(2, ⟨(zf ze (a.l ++ b.l)).map S_Span.D, 2, false⟩), (3, ⟨[.agg [I x4p3.lo, I x4p3.hi]], 2, false⟩)] 4]) (And.intro (And.intro (show zc [(0, ⟨[.sl a.nl (a.l.map S_Span.D) (zsl a.nl 2) none, .sl b.nl (b.l.map S_Span.D) (zsl b.nl 2) none], 1, false⟩), (1, ⟨[.sl a.nl (a.l.map S_Span.D) (zsl a.nl 2) none, .sl b.nl (b.l.map S_Span.D) (zsl b.nl 2) none], 1, false⟩), (2, ⟨(a.l ++ b.l).map S_Span.D, 2, false⟩)] 256 [2] [] = some [2] from (by (simp only [zc, go_sem, List.length_set, Nat.reduceAdd, Nat.reduceEqDiff, Nat.reduceLT, Nat.reduceLeDiff, bI2, za.idsL, za.renL, za.snapAll, z6.idsL, z6.renL, z6.snapAll]) <;> rfl)) (show (lim cfg).inl 69 [.lsl 2 0 ((a.l ++ b.l).length) 2 none] [(2, ⟨(a.l ++ b.l).map S_Span.D, 2, false⟩)] 3 = some (.tup [.sl true [] 0 none, I 2], [(2, ⟨(zf ze (a.l ++ b.l)).map S_Span.D, 2, false⟩), (3, ⟨[.agg [I x4p3.lo, I x4p3.hi]], 2, false⟩)], 4) from zw [.inlS [2] (.tup []) [(2, ⟨(zf ze (a.l ++ b.l)).map S_Span.D, 2, false⟩)] 3, .gloop (sd268 a b) .ret (sd273 a b i4p3 x4p3)] (And.intro (zX (q := lr_ranges_gathered_4p3 a b (zf ze (a.l ++ b.l))) (lp_ranges_gathered_4p3 a b (zf ze (a.l ++ b.l)) (zf ze (a.l ++ b.l)) 0 (List.drop_zero) (Nat.zero_le _) (by simp only [zr, GS.some_l, List.length_set, List.length_append, List.length_cons, List.length_nil] at * <;> first | with_reducible assumption | omega) (by simp only [zr, GS.some_l, List.length_set, List.length_append, List.length_cons, List.length_nil] at * <;> first | with_reducible assumption | omega)) h33) (And.intro (gc_of (C := cfg) (f := 69) (a := lp69_4) (ks := [4, 10, 11, 12]) (st := (sd267 a b)) (st1 := (sd268 a b)) (by kernel_rfl) (by (simp only [sd267, sd268, go_sem, List.length_set, Nat.reduceAdd, Nat.reduceEqDiff, Nat.reduceLT, Nat.reduceLeDiff, bI2, za.idsL, za.renL, za.snapAll, z6.idsL, z6.renL, z6.snapAll]) <;> rfl)) (And.intro (And.intro (show zc [(2, ⟨(a.l ++ b.l).map S_Span.D, 2, false⟩)] 256 [2] [] = some [2] from (by (simp only [zc, go_sem, List.length_set, Nat.reduceAdd, Nat.reduceEqDiff, Nat.reduceLT, Nat.reduceLeDiff, bI2, za.idsL, za.renL, za.snapAll, z6.idsL, z6.renL, z6.snapAll]) <;> rfl)) (y8 2 3 none (a.l ++ b.l) (by simp only [List.length_append, List.length_cons, List.length_nil] at * <;> omega))) trivial))) (by kernel_rfl))) (And.intro p4 (And.intro h1 (And.intro p1 trivial)))) (by kernel_rfl)
          | x5 i4p3 x4p3 =>
            try dsimp only
            exact zq ((ranges_Union_o3 a b) ++ [.inlS [2] (.tup [.sl true [] 0 none, I 2]) [(2, ⟨(zf ze (a.l ++ b.l)).map S_Span.D, 2, false⟩), (3, ⟨[.agg [I x4p3.lo, I x4p3.hi]], 2, false⟩)] 4]) (And.intro (And.intro (show zc [(0, ⟨[.sl a.nl (a.l.map S_Span.D) (zsl a.nl 2) none, .sl b.nl (b.l.map S_Span.D) (zsl b.nl 2) none], 1, false⟩), (1, ⟨[.sl a.nl (a.l.map S_Span.D) (zsl a.nl 2) none, .sl b.nl (b.l.map S_Span.D) (zsl b.nl 2) none], 1, false⟩), (2, ⟨(a.l ++ b.l).map S_Span.D, 2, false⟩)] 256 [2] [] = some [2] from (by (simp only [zc, go_sem, List.length_set, Nat.reduceAdd, Nat.reduceEqDiff, Nat.reduceLT, Nat.reduceLeDiff, bI2, za.idsL, za.renL, za.snapAll, z6.idsL, z6.renL, z6.snapAll]) <;> rfl)) (show (lim cfg).inl 69 [.lsl 2 0 ((a.l ++ b.l).length) 2 none] [(2, ⟨(a.l ++ b.l).map S_Span.D, 2, false⟩)] 3 = some (.tup [.sl true [] 0 none, I 2], [(2, ⟨(zf ze (a.l ++ b.l)).map S_Span.D, 2, false⟩), (3, ⟨[.agg [I x4p3.lo, I x4p3.hi]], 2, false⟩)], 4) from zw [.inlS [2] (.tup []) [(2, ⟨(zf ze (a.l ++ b.l)).map S_Span.D, 2, false⟩)] 3, .gloop (sd268 a b) .ret (sd274 a b i4p3 x4p3)] (And.intro (zX (q := lr_ranges_gathered_4p3 a b (zf ze (a.l ++ b.l))) (lp_ranges_gathered_4p3 a b (zf ze (a.l ++ b.l)) (zf ze (a.l ++ b.l)) 0 (List.drop_zero) (Nat.zero_le _) (by simp only [zr, GS.some_l, List.length_set, List.length_append, List.length_cons, List.length_nil] at * <;> first | with_reducible assumption | omega) (by simp only [zr, GS.some_l, List.length_set, List.length_append, List.length_cons, List.length_nil] at * <;> first | with_reducible assumption | omega)) h33) (And.intro (gc_of (C := cfg) (f := 69) (a := lp69_4) (ks := [4, 10, 11, 12]) (st := (sd267 a b)) (st1 := (sd268 a b)) (by kernel_rfl) (by (simp only [sd267, sd268, go_sem, List.length_set, Nat.reduceAdd, Nat.reduceEqDiff, Nat.reduceLT, Nat.reduceLeDiff, bI2, za.idsL, za.renL, za.snapAll, z6.idsL, z6.renL, z6.snapAll]) <;> rfl)) (And.intro (And.intro (show zc [(2, ⟨(a.l ++ b.l).map S_Span.D, 2, false⟩)] 256 [2] [] = some [2] from (by (simp only [zc, go_sem, List.length_set, Nat.reduceAdd, Nat.reduceEqDiff, Nat.reduceLT, Nat.reduceLeDiff, bI2, za.idsL, za.renL, za.snapAll, z6.idsL, z6.renL, z6.snapAll]) <;> rfl)) (y8 2 3 none (a.l ++ b.l) (by simp only [List.length_append, List.length_cons, List.length_nil] at * <;> omega))) trivial))) (by kernel_rfl))) (And.intro p4 (And.intro h1 (And.intro p1 trivial)))) (by kernel_rfl)
    | false =>
      have g2 := of_decide_eq_false h2
      have l17 := (app_none (te := ty25) (gO := zv [(1, ⟨[.sl a.nl (a.l.map S_Span.D) (zsl a.nl 2) none, .sl b.nl (b.l.map S_Span.D) (zsl b.nl 2) none], 1, false⟩)]) (nxt := 2) (f := S_Span.D) (sz := 2) (d := .sl true [] 0 none) a (show a.l.isEmpty = true from (emp1 h2)) rfl)
      have l18 := (show ∀ q, (lim cfg).loop 96 lp96_11 (sd276 a b) = some q → (lim cfg).loop 96 lp96_11 (sd275 a b) = some q from fun q hq => po_turn (st1 := (sd276 a b)) [.dec true, .op (some 33) ⟨.sl true [] 0 none, [], [], 2⟩, .rw 34 (I 1)] (And.intro (zadd_rw (x := 1) (by omega)) (And.intro (l17) (And.intro (Eq.refl true) trivial))) hq (by kernel_rfl))
      have l19 := (app_none (te := ty25) (gO := zv [(1, ⟨[.sl a.nl (a.l.map S_Span.D) (zsl a.nl 2) none, .sl b.nl (b.l.map S_Span.D) (zsl b.nl 2) none], 1, false⟩)]) (nxt := 2) (f := S_Span.D) (sz := 2) (d := .sl true [] 0 none) b (show b.l.isEmpty = true from (emp2 h2)) rfl)
      have l20 := (show ∀ q, (lim cfg).loop 96 lp96_11 (sd277 a b) = some q → (lim cfg).loop 96 lp96_11 (sd276 a b) = some q from fun q hq => po_turn (st1 := (sd277 a b)) [.dec true, .op (some 33) ⟨.sl true [] 0 none, [], [], 2⟩] (And.intro (l19) (And.intro (Eq.refl true) trivial)) hq (by kernel_rfl))
      exact zq [.pure (I (y6 (GS.some [a, b]))), .dec false, .inl (.sl true [] 0 none) [(1, ⟨[.sl a.nl (a.l.map S_Span.D) (zsl a.nl 2) none, .sl b.nl (b.l.map S_Span.D) (zsl b.nl 2) none], 1, false⟩)] 2, .inl (.tup [.sl true [] 0 none, I 0]) [] 2] (And.intro (show (lim cfg).inl 69 [.sl true [] 0 none] [] 2 = some (.tup [.sl true [] 0 none, I 0], [], 2) from zw [.inl (.tup []) [] 2, .loop (.exit 0) ⟨65, [(13, B false), (4, .sl true [] 0 none), (10, .sl true [] 0 none), (11, I 0), (12, I 0)], [], 2, 2⟩, .dec false] (And.intro (Eq.refl false) (And.intro (show (lim cfg).loop 69 lp69_4 ⟨65, [(4, .sl true [] 0 none), (10, .sl true [] 0 none), (11, I 0), (12, I 0)], [], 2, 2⟩ = some ((.exit 0), ⟨65, [(13, B false), (4, .sl true [] 0 none), (10, .sl true [] 0 none), (11, I 0), (12, I 0)], [], 2, 2⟩) from (zS [.dec false] (And.intro (Eq.refl false) trivial) (by kernel_rfl))) (And.intro (T_sort_nil 2) trivial))) (by kernel_rfl)) (And.intro (show (lim cfg).inl 96 [.lsl 1 0 2 1 (some 2)] [(1, ⟨[.sl a.nl (a.l.map S_Span.D) (zsl a.nl 2) none, .sl b.nl (b.l.map S_Span.D) (zsl b.nl 2) none], 1, false⟩)] 2 = some (.sl true [] 0 none, [(1, ⟨[.sl a.nl (a.l.map S_Span.D) (zsl a.nl 2) none, .sl b.nl (b.l.map S_Span.D) (zsl b.nl 2) none], 1, false⟩)], 2) from zw [.loop (.exit 0) (sd225 a b), .inl (.sl true [] 0 none) [] 2, .loop (.exit 2) (sd278 a b)] (And.intro (show (lim cfg).loop 96 lp96_11 (sd275 a b) = some ((.exit 2), (sd278 a b)) from (l18 _ (l20 _ (zS [.dec false] (And.intro (Eq.refl false) trivial) (by kernel_rfl))))) (And.intro (show (lim cfg).inl 108 [.sl true [] 0 none, I ((a.l.length + b.l.length : Nat) : Int)] [] 2 = some (.sl true [] 0 none, [], 2) from zw [.dec false, .rw 14 (I ((a.l.length + b.l.length : Nat) : Int)), .dec false] (And.intro h2 (And.intro (sub0_rw (x := a.l.length + b.l.length) (by omega)) (And.intro (show decide (((a.l.length + b.l.length : Nat) : Int) < 0) = false from (decide_eq_false (by omega))) trivial))) (by kernel_rfl)) (And.intro (show (lim cfg).loop 96 lp96_3 (sd222 a b) = some ((.exit 0), (sd225 a b)) from (l2 _ (l4 _ (zS [.dec false] (And.intro (Eq.refl false) trivial) (by kernel_rfl))))) trivial))) (by kernel_rfl)) (And.intro h1 (And.intro p1 trivial)))) (by kernel_rfl)
end Go.VS

/-
  Ranges: the loop that joins spans in order, plainly (printed by go/rg.py, a program of this claim's own; nothing of it is trusted).
-/
namespace Go.VS
open Go
set_option maxHeartbeats 0
set_option linter.unusedSimpArgs false
set_option linter.unusedVariables false

theorem ranges_gathered_4p2_ok : ∀ (l : List S_Span) (i : Nat) (v : List S_Span) (c : S_Span), ArL l → Ar c.hi → v.length + l.length ≤ 1099511627776 → zV l i (v ++ [c]) = .x0 (v ++ jn c l)
  | [], i, v, c, _, _, _ => rfl
  | x :: l, i, v, c, h, hc, hv => by
    have hx := h x List.mem_cons_self
    have h' : ArL l := fun t ht => h t (List.mem_cons_of_mem _ ht)
    simp only [List.length_cons] at hv
    unfold zV jn
    rw [area_iff.2 hx.1, area_iff.2 hx.2]
    have hl : w64 ((((v ++ [c]).length : Nat) : Int) - 1) = ((v.length : Nat) : Int) := by
      rcases len_last (v := v) (c := c) with e | e
      · exact e
      · omega
    have hp : decide ((((v ++ [c]).length : Nat) : Int) > 0) = true := decide_eq_true (by simp only [List.length_append, List.length_cons, List.length_nil]; omega)
    rw [hl, hp, Int.toNat_natCast, getD_last, set_last]
    unfold Ar at hc
    have hx2 := hx.2
    unfold Ar at hx2
    rw [w64_eq (n := c.hi + 1) (by omega) (by omega), imax_eq]
    by_cases hle : x.lo ≤ c.hi + 1
    · rw [decide_eq_true hle, if_pos hle]
      exact ranges_gathered_4p2_ok l (i + 1) v ⟨c.lo, max c.hi x.hi⟩ h' (by unfold Ar; simp only; omega) (by omega)
    · rw [decide_eq_false hle, if_neg hle]
      have := ranges_gathered_4p2_ok l (i + 1) (v ++ [c]) x h' hx.2 (by simp only [List.length_append, List.length_cons, List.length_nil]; omega)
      simp only [cond_true, cond_false]
      rw [this, List.append_assoc]; rfl
def ranges_gathered_4p2_er : LR_ranges_gathered_4p2 → Bool
  | .x1 _ _ _ => true
  | .x2 _ _ _ => true
  | .x4 _ _ => true
  | .x5 _ _ => true
  | _ => false
theorem ranges_gathered_4p2_bad : ∀ (l : List S_Span) (i : Nat) (v : List S_Span), ¬ ArL l → ranges_gathered_4p2_er (zV l i v) = true
  | [], i, v, h => absurd (fun s hs => by cases hs) h
  | x :: l, i, v, h => by
    unfold zV
    cases h1 : zh x.lo with
    | false => rfl
    | true =>
      cases h2 : zh x.hi with
      | false => rfl
      | true =>
        have h' : ¬ ArL l := fun k => h fun s hs => by
          rcases List.mem_cons.1 hs with rfl | hs
          · exact ⟨area_iff.1 h1, area_iff.1 h2⟩
          · exact k s hs
        have ih := fun v => ranges_gathered_4p2_bad l (i + 1) v h'
        simp only [cond_true]
        cases decide (((v.length : Nat) : Int) > 0) with
        | false => exact ih _
        | true =>
          simp only [cond_true]
          cases decide (x.lo ≤ w64 ((v.getD ((w64 (((v.length : Nat) : Int) - 1)).toNat) default).hi + 1)) <;> exact ih _
theorem ranges_gathered_4p2_at {l : List S_Span} (hne : l ≠ []) (hl : l.length ≤ 1099511627776) : (ArL l ∧ zT (zf ze l) 0 = .x0 (can ze l)) ∨ (¬ ArL l ∧ ranges_gathered_4p2_er (zT (zf ze l) 0) = true) := by
  have hp := srtG_perm gcmp_lo l
  have hlen := srtG_len gcmp_lo l
  have har : ArL (zf ze l) ↔ ArL l := ⟨fun h s hs => h s (hp.mem_iff.2 hs), fun h s hs => h s (hp.mem_iff.1 hs)⟩
  rw [← har]
  unfold can
  have hne' : zf ze l ≠ [] := fun h => hne (by rw [h] at hp; exact List.nil_perm.1 hp)
  generalize zf ze l = q at *
  cases q with
  | nil => exact absurd rfl hne'
  | cons c q =>
    simp only [List.length_cons] at hlen
    unfold zT jnL
    dsimp only
    by_cases hc : Ar c.lo ∧ Ar c.hi
    · rw [area_iff.2 hc.1, area_iff.2 hc.2]
      by_cases hq : ArL q
      · left
        refine ⟨fun s hs => ?_, ?_⟩
        · rcases List.mem_cons.1 hs with rfl | hs
          · exact hc
          · exact hq s hs
        · exact ranges_gathered_4p2_ok q 1 [] c hq hc.2 (by simp; omega)
      · right
        exact ⟨fun h => hq fun s hs => h s (List.mem_cons_of_mem _ hs), ranges_gathered_4p2_bad q 1 [c] hq⟩
    · right
      refine ⟨fun h => hc (h c List.mem_cons_self), ?_⟩
      cases h1 : zh c.lo with
      | false => rfl
      | true =>
        cases h2 : zh c.hi with
        | false => rfl
        | true => exact absurd ⟨area_iff.1 h1, area_iff.1 h2⟩ hc

theorem ranges_gathered_4p3_ok : ∀ (l : List S_Span) (i : Nat) (v : List S_Span) (c : S_Span), ArL l → Ar c.hi → v.length + l.length ≤ 1099511627776 → zW l i (v ++ [c]) = .x0 (v ++ jn c l)
  | [], i, v, c, _, _, _ => rfl
  | x :: l, i, v, c, h, hc, hv => by
    have hx := h x List.mem_cons_self
    have h' : ArL l := fun t ht => h t (List.mem_cons_of_mem _ ht)
    simp only [List.length_cons] at hv
    unfold zW jn
    rw [area_iff.2 hx.1, area_iff.2 hx.2]
    have hl : w64 ((((v ++ [c]).length : Nat) : Int) - 1) = ((v.length : Nat) : Int) := by
      rcases len_last (v := v) (c := c) with e | e
      · exact e
      · omega
    have hp : decide ((((v ++ [c]).length : Nat) : Int) > 0) = true := decide_eq_true (by simp only [List.length_append, List.length_cons, List.length_nil]; omega)
    rw [hl, hp, Int.toNat_natCast, getD_last, set_last]
    unfold Ar at hc
    have hx2 := hx.2
    unfold Ar at hx2
    rw [w64_eq (n := c.hi + 1) (by omega) (by omega), imax_eq]
    by_cases hle : x.lo ≤ c.hi + 1
    · rw [decide_eq_true hle, if_pos hle]
      exact ranges_gathered_4p3_ok l (i + 1) v ⟨c.lo, max c.hi x.hi⟩ h' (by unfold Ar; simp only; omega) (by omega)
    · rw [decide_eq_false hle, if_neg hle]
      have := ranges_gathered_4p3_ok l (i + 1) (v ++ [c]) x h' hx.2 (by simp only [List.length_append, List.length_cons, List.length_nil]; omega)
      simp only [cond_true, cond_false]
      rw [this, List.append_assoc]; rfl
def ranges_gathered_4p3_er : LR_ranges_gathered_4p3 → Bool
  | .x1 _ _ _ => true
  | .x2 _ _ _ => true
  | .x4 _ _ => true
  | .x5 _ _ => true
  | _ => false
theorem ranges_gathered_4p3_bad : ∀ (l : List S_Span) (i : Nat) (v : List S_Span), ¬ ArL l → ranges_gathered_4p3_er (zW l i v) = true
  | [], i, v, h => absurd (fun s hs => by cases hs) h
  | x :: l, i, v, h => by
    unfold zW
    cases h1 : zh x.lo with
    | false => rfl
    | true =>
      cases h2 : zh x.hi with
      | false => rfl
      | true =>
        have h' : ¬ ArL l := fun k => h fun s hs => by
          rcases List.mem_cons.1 hs with rfl | hs
          · exact ⟨area_iff.1 h1, area_iff.1 h2⟩
          · exact k s hs
        have ih := fun v => ranges_gathered_4p3_bad l (i + 1) v h'
        simp only [cond_true]
        cases decide (((v.length : Nat) : Int) > 0) with
        | false => exact ih _
        | true =>
          simp only [cond_true]
          cases decide (x.lo ≤ w64 ((v.getD ((w64 (((v.length : Nat) : Int) - 1)).toNat) default).hi + 1)) <;> exact ih _
theorem ranges_gathered_4p3_at {l : List S_Span} (hne : l ≠ []) (hl : l.length ≤ 1099511627776) : (ArL l ∧ yb (zf ze l) 0 = .x0 (can ze l)) ∨ (¬ ArL l ∧ ranges_gathered_4p3_er (yb (zf ze l) 0) = true) := by
  have hp := srtG_perm gcmp_lo l
  have hlen := srtG_len gcmp_lo l
  have har : ArL (zf ze l) ↔ ArL l := ⟨fun h s hs => h s (hp.mem_iff.2 hs), fun h s hs => h s (hp.mem_iff.1 hs)⟩
  rw [← har]
  unfold can
  have hne' : zf ze l ≠ [] := fun h => hne (by rw [h] at hp; exact List.nil_perm.1 hp)
  generalize zf ze l = q at *
  cases q with
  | nil => exact absurd rfl hne'
  | cons c q =>
    simp only [List.length_cons] at hlen
    unfold yb jnL
    dsimp only
    by_cases hc : Ar c.lo ∧ Ar c.hi
    · rw [area_iff.2 hc.1, area_iff.2 hc.2]
      by_cases hq : ArL q
      · left
        refine ⟨fun s hs => ?_, ?_⟩
        · rcases List.mem_cons.1 hs with rfl | hs
          · exact hc
          · exact hq s hs
        · exact ranges_gathered_4p3_ok q 1 [] c hq hc.2 (by simp; omega)
      · right
        exact ⟨fun h => hq fun s hs => h s (List.mem_cons_of_mem _ hs), ranges_gathered_4p3_bad q 1 [c] hq⟩
    · right
      refine ⟨fun h => hc (h c List.mem_cons_self), ?_⟩
      cases h1 : zh c.lo with
      | false => rfl
      | true =>
        cases h2 : zh c.hi with
        | false => rfl
        | true => exact absurd ⟨area_iff.1 h1, area_iff.1 h2⟩ hc

end Go.VS

namespace Go.VS
open Go Go.Proofs
set_option maxHeartbeats 0
set_option linter.unusedSimpArgs false
set_option linter.unusedVariables false
def zY (x : S_Span) (y : S_Span) : (GS S_Span) × Bool :=
  bif decide ((((zJ (imax x.lo y.lo) (imin x.hi y.hi)).l.length : Nat) : Int) > 0) then
    ((zJ (imax x.lo y.lo) (imin x.hi y.hi)), true)
  else
    ((zJ (imax x.lo y.lo) (imin x.hi y.hi)), false)

inductive LR_ranges_pairs_6p8 where
  | x0 (v6p8_0 : List S_Span)
  | x1 (i6p8 : Nat) (x6p8 : S_Span) (v6p8_0 : List S_Span)
  | x2 (i6p8 : Nat) (x6p8 : S_Span) (v6p8_0 : List S_Span)
instance : Inhabited LR_ranges_pairs_6p8 := ⟨.x0 default⟩
def ranges_pairs_6p8 (x3p4 : S_Span) : List S_Span → Nat → (List S_Span) → LR_ranges_pairs_6p8
  | [], i6p8, v6p8_0 => .x0 v6p8_0
  | x6p8 :: rest6p8, i6p8, v6p8_0 =>
    bif ((zY x3p4 x6p8).2) then
      bif (((zY x3p4 x6p8).1).l).isEmpty then
        .x1 i6p8 x6p8 v6p8_0
      else
        .x2 i6p8 x6p8 v6p8_0
    else
      bif (((zY x3p4 x6p8).1).l).isEmpty then
        ranges_pairs_6p8 x3p4 rest6p8 (i6p8 + 1) v6p8_0
      else
        ranges_pairs_6p8 x3p4 rest6p8 (i6p8 + 1) (v6p8_0 ++ (((zY x3p4 x6p8).1).l))
inductive LR_ranges_pairs_6p9 where
  | x0 (va6p9_0 : List S_Span)
  | x1 (i6p9 : Nat) (x6p9 : S_Span) (va6p9_0 : List S_Span)
  | x2 (i6p9 : Nat) (x6p9 : S_Span) (va6p9_0 : List S_Span)
  | x3
  | x4 (i6p9 : Nat) (x6p9 : S_Span)
  | x5 (i6p9 : Nat) (x6p9 : S_Span)
instance : Inhabited LR_ranges_pairs_6p9 := ⟨.x0 default⟩
def ranges_pairs_6p9a (x3p4 : S_Span) : List S_Span → Nat → (List S_Span) → LR_ranges_pairs_6p9
  | [], i6p9, va6p9_0 => .x0 va6p9_0
  | x6p9 :: rest6p9, i6p9, va6p9_0 =>
    bif ((zY x3p4 x6p9).2) then
      bif (((zY x3p4 x6p9).1).l).isEmpty then
        .x1 i6p9 x6p9 va6p9_0
      else
        .x2 i6p9 x6p9 va6p9_0
    else
      bif (((zY x3p4 x6p9).1).l).isEmpty then
        ranges_pairs_6p9a x3p4 rest6p9 (i6p9 + 1) va6p9_0
      else
        ranges_pairs_6p9a x3p4 rest6p9 (i6p9 + 1) (va6p9_0 ++ (((zY x3p4 x6p9).1).l))
def ranges_pairs_6p9 (x3p4 : S_Span) : List S_Span → Nat → LR_ranges_pairs_6p9
  | [], i6p9 => .x3
  | x6p9 :: rest6p9, i6p9 =>
    bif ((zY x3p4 x6p9).2) then
      bif (((zY x3p4 x6p9).1).l).isEmpty then
        .x4 i6p9 x6p9
      else
        .x5 i6p9 x6p9
    else
      bif (((zY x3p4 x6p9).1).l).isEmpty then
        ranges_pairs_6p9 x3p4 rest6p9 (i6p9 + 1)
      else
        ranges_pairs_6p9a x3p4 rest6p9 (i6p9 + 1) (((zY x3p4 x6p9).1).l)
inductive LR_ranges_pairs_3p4 where
  | x0 (va3p4_0 : List S_Span)
  | x1 (i3p4 : Nat) (x3p4 : S_Span) (i6p8 : Nat) (x6p8 : S_Span) (v6p8_0 : List S_Span)
  | x2 (i3p4 : Nat) (x3p4 : S_Span) (i6p8 : Nat) (x6p8 : S_Span) (v6p8_0 : List S_Span)
  | x3
  | x4 (i3p4 : Nat) (x3p4 : S_Span) (i6p9 : Nat) (x6p9 : S_Span) (va6p9_0 : List S_Span)
  | x5 (i3p4 : Nat) (x3p4 : S_Span) (i6p9 : Nat) (x6p9 : S_Span) (va6p9_0 : List S_Span)
  | x6 (i3p4 : Nat) (x3p4 : S_Span) (i6p9 : Nat) (x6p9 : S_Span)
  | x7 (i3p4 : Nat) (x3p4 : S_Span) (i6p9 : Nat) (x6p9 : S_Span)
instance : Inhabited LR_ranges_pairs_3p4 := ⟨.x0 default⟩
def ranges_pairs_3p4a (q3p4_0 : GS S_Span) : List S_Span → Nat → (List S_Span) → LR_ranges_pairs_3p4
  | [], i3p4, va3p4_0 => .x0 va3p4_0
  | x3p4 :: rest3p4, i3p4, va3p4_0 =>
    match ranges_pairs_6p8 x3p4 q3p4_0.l 0 va3p4_0 with
    | .x0 v6p8_0 =>
      ranges_pairs_3p4a q3p4_0 rest3p4 (i3p4 + 1) v6p8_0
    | .x1 i6p8 x6p8 v6p8_0 =>
      .x1 i3p4 x3p4 i6p8 x6p8 v6p8_0
    | .x2 i6p8 x6p8 v6p8_0 =>
      .x2 i3p4 x3p4 i6p8 x6p8 v6p8_0
def ranges_pairs_3p4 (q3p4_0 : GS S_Span) : List S_Span → Nat → LR_ranges_pairs_3p4
  | [], i3p4 => .x3
  | x3p4 :: rest3p4, i3p4 =>
    match ranges_pairs_6p9 x3p4 q3p4_0.l 0 with
    | .x0 va6p9_0 =>
      ranges_pairs_3p4a q3p4_0 rest3p4 (i3p4 + 1) va6p9_0
    | .x1 i6p9 x6p9 va6p9_0 =>
      .x4 i3p4 x3p4 i6p9 x6p9 va6p9_0
    | .x2 i6p9 x6p9 va6p9_0 =>
      .x5 i3p4 x3p4 i6p9 x6p9 va6p9_0
    | .x3 =>
      ranges_pairs_3p4 q3p4_0 rest3p4 (i3p4 + 1)
    | .x4 i6p9 x6p9 =>
      .x6 i3p4 x3p4 i6p9 x6p9
    | .x5 i6p9 x6p9 =>
      .x7 i3p4 x3p4 i6p9 x6p9
def ranges_Within (a : GS S_Span) (b : GS S_Span) : Bool × Int :=
  bif ((y6 (GS.some [a, b])) != 0) then
    (false, (y6 (GS.some [a, b])))
  else
    match ranges_pairs_3p4 (ranges_outside b) a.l 0 with
    | .x0 va3p4_0 =>
      bif (((va3p4_0.length : Nat) : Int) == 0) then
        (true, 0)
      else
        (false, 0)
    | .x1 i3p4 x3p4 i6p8 x6p8 v6p8_0 =>
      bif (((v6p8_0.length : Nat) : Int) == 0) then
        (true, 0)
      else
        (false, 0)
    | .x2 i3p4 x3p4 i6p8 x6p8 v6p8_0 =>
      bif ((((v6p8_0 ++ (((zY x3p4 x6p8).1).l)).length : Nat) : Int) == 0) then
        (true, 0)
      else
        (false, 0)
    | .x3 =>
      (true, 0)
    | .x4 i3p4 x3p4 i6p9 x6p9 va6p9_0 =>
      bif (((va6p9_0.length : Nat) : Int) == 0) then
        (true, 0)
      else
        (false, 0)
    | .x5 i3p4 x3p4 i6p9 x6p9 va6p9_0 =>
      bif ((((va6p9_0 ++ (((zY x3p4 x6p9).1).l)).length : Nat) : Int) == 0) then
        (true, 0)
      else
        (false, 0)
    | .x6 i3p4 x3p4 i6p9 x6p9 =>
      (true, 0)
    | .x7 i3p4 x3p4 i6p9 x6p9 =>
      bif ((((((zY x3p4 x6p9).1).l).length : Nat) : Int) == 0) then
        (true, 0)
      else
        (false, 0)

end Go.VS

/-
  Ranges: Hull, Next, Near, plainly. (A text of this claim's own; nothing of it is trusted.)
-/
namespace Go.VS
open Go
set_option maxHeartbeats 0
/-! ### Near -/
def Di (m z : Int) : Int := max (z - m) (m - z)
/-- The nearest of a set; of two the lesser one. -/
def Nst (m : Int) (S : Int → Prop) (v : Int) : Prop := S v ∧ ∀ z, S z → Di m v ≤ Di m z ∧ (Di m z = Di m v → v ≤ z)
theorem Nst.congr {m : Int} {S T : Int → Prop} {v : Int} (h : Nst m S v) (e : ∀ z, S z ↔ T z) : Nst m T v := ⟨(e v).1 h.1, fun z hz => h.2 z ((e z).2 hz)⟩
end Go.VS

/-
  Ranges: errors that do not come of valid ranges. (A text of this claim's own; nothing of it is trusted.)
-/
namespace Go.VS
open Go
section
variable {r : GS S_Span} (h : r_Valid r = true)
include h
end
end Go.VS

/-
  Ranges: work, plainly. (A text of this claim's own; nothing of it is trusted.)
-/
namespace Go.VS
open Go
/-- What is taken of an answer: nothing, if it did not fit. -/
def takeR (r : GS S_Span) (e : Int) : GS S_Span := bif (e == 2) then GS.nil else r
def takeL (L : Bool) (e : Int) : Bool := bif (e == 2) then true else L
def holdsB (L z : Bool) : Bool := bif L then true else z
/-- An answer that may be taken. -/
def Tkn (r : GS S_Span) (e : Int) : Prop := (e = 2 ∧ r = GS.nil) ∨ (e = 0 ∧ Ok r.l)
theorem tk_e {r : GS S_Span} {e : Int} (h : Tkn r e) (h2 : (e == 2) = false) : (e != 0) = false := by
  rcases h with ⟨rfl, _⟩ | ⟨rfl, _⟩
  · cases h2
  · rfl
theorem tk_r {r : GS S_Span} {e : Int} (h : Tkn r e) (h2 : (e == 2) = false) : ((r_Check r) != 0) = false := by
  rcases h with ⟨rfl, _⟩ | ⟨rfl, h⟩
  · cases h2
  · rw [← same_check, check_iff.2 h]; rfl
theorem tkn_len {r : GS S_Span} {e : Int} (h : Tkn r e) : r.l.length ≤ 9223372036854775807 := by
  rcases h with ⟨_, rfl⟩ | ⟨_, h⟩
  · simp [GS.nil]
  · exact Nat.le_trans h.2.2 (by decide)
theorem ok64 {r : GS S_Span} (h : Ok r.l) : r.l.length ≤ 64 := h.2.2
theorem ok_nil : Ok (GS.nil : GS S_Span).l := ⟨trivial, (fun s hs => by cases hs), by simp [GS.nil]⟩
theorem ok_take {r : GS S_Span} {e : Int} (h : Tkn r e) : Ok (takeR r e).l := by
  unfold takeR
  rcases h with ⟨rfl, _⟩ | ⟨rfl, h⟩
  · exact ok_nil
  · exact h
theorem tk_res {S : Int → Prop} {res : GS S_Span × Int} (h : Res S res) : Tkn res.1 res.2 := by
  rcases h with ⟨h1, h2, _⟩ | h
  · exact .inr ⟨h1, h2⟩
  · rw [h]; exact .inl ⟨rfl, rfl⟩
theorem tk_Sum {a b : GS S_Span} (ha : Ok a.l) (hb : Ok b.l) : Tkn (zi a b).1 (zi a b).2 := tk_res (sum_res ha hb)
/-- Whether a value taken stands for a set, or nothing fits any more. -/
def Tk (L : Bool) (S : Int → Prop) (r : GS S_Span) : Prop := L = true ∨ (Ok r.l ∧ Rg S r.l)
theorem Tk.take {L : Bool} {S : Int → Prop} {res : GS S_Span × Int} (h : Res S res) : Tk (takeL L res.2) S (takeR res.1 res.2) := by
  unfold takeL takeR
  rcases h with ⟨h1, h2, h3⟩ | h
  · right; rw [h1]; exact ⟨h2, h3⟩
  · left; rw [h]; rfl
theorem Tk.up {L : Bool} {S : Int → Prop} {r : GS S_Span} (h : Tk L S r) (e : Int) : Tk (takeL L e) S r := by
  unfold takeL
  rcases h with h | h
  · left; rw [h]; cases (e == 2) <;> rfl
  · exact .inr h
theorem holds_of {L z : Bool} (h : L = true ∨ z = true) : holdsB L z = true := by
  unfold holdsB
  rcases h with h | h <;> rw [h]
  · rfl
  · cases L <;> rfl
end Go.VS

/-
  Ranges: what Of, Union, Shift and Within come to (printed by go/rj.py, a program of this claim's own; nothing of it is trusted).
-/
namespace Go.VS
open Go
set_option maxHeartbeats 0

theorem Union_gr {a b : GS S_Span} (ha : Ok a.l) (hb : Ok b.l) : GR (a.l ++ b.l) (zN a b) := by
  have la := ha.2.2
  have lb := hb.2.2
  unfold zN
  rw [check2_iff.2 ⟨ha, hb⟩]
  simp only [bne_self_eq_false, cond_false]
  cases hd : decide (((a.l.length + b.l.length : Nat) : Int) > 0) with
  | false =>
    have e1 : a.l = [] := by simpa using emp1 hd
    have e2 : b.l = [] := by simpa using emp2 hd
    rw [e1, e2]; exact GR_nil
  | true =>
    simp only [cond_true]
    cases h1 : a.l.isEmpty with
    | true =>
      have e1 : a.l = [] := by simpa using h1
      have hne : b.l ≠ [] := by simpa using nemp_add hd h1
      rw [e1, List.nil_append]
      simp only [cond_true]
      rcases ranges_gathered_4p2_at (l := b.l) hne (by omega) with ⟨g1, g2⟩ | ⟨g1, g2⟩
      · rw [g2]; exact GR_end g1
      · refine .inr ⟨.inl g1, ?_⟩
        revert g2
        cases zT (zf ze b.l) 0 <;> intro g2 <;> first | rfl | cases g2
    | false =>
      have hna : a.l ≠ [] := by simpa using h1
      simp only [cond_false]
      cases h2 : b.l.isEmpty with
      | true =>
        have e2 : b.l = [] := by simpa using h2
        rw [e2, List.append_nil]
        simp only [cond_true]
        rcases ranges_gathered_4p2_at (l := a.l) hna (by omega) with ⟨g1, g2⟩ | ⟨g1, g2⟩
        · rw [g2]; exact GR_end g1
        · refine .inr ⟨.inl g1, ?_⟩
          revert g2
          cases zT (zf ze a.l) 0 <;> intro g2 <;> first | rfl | cases g2
      | false =>
        have hne : a.l ++ b.l ≠ [] := fun h => hna (List.append_eq_nil_iff.1 h).1
        simp only [cond_false]
        rcases ranges_gathered_4p3_at (l := (a.l ++ b.l)) hne (by rw [List.length_append]; omega) with ⟨g1, g2⟩ | ⟨g1, g2⟩
        · rw [g2]; exact GR_end g1
        · refine .inr ⟨.inl g1, ?_⟩
          revert g2
          cases yb (zf ze (a.l ++ b.l)) 0 <;> intro g2 <;> first | rfl | cases g2
theorem union_res {a b : GS S_Span} (ha : Ok a.l) (hb : Ok b.l) : Res (fun x => In a.l x ∨ In b.l x) (zN a b) :=
  ((Union_gr ha hb).res (fun s hs => by
    rcases List.mem_append.1 hs with h | h
    · exact cn_mem ha.1 h
    · exact cn_mem hb.1 h)).congr fun x => In_append

def ofF (s : S_Span) : List S_Span := someS s.lo s.hi
def sh1 (k : Int) (s : S_Span) : List S_Span := (z8 s k).l
theorem each3c_eq (k : Int) : ∀ (l v : List S_Span), zQ k l v = .x0 (v ++ l.flatMap (sh1 k))
  | [], v => by simp [zQ]
  | y :: l, v => by
    unfold zQ
    rw [emp_app (fun z => zQ k l z), each3c_eq k l _, List.flatMap_cons, List.append_assoc, Bool.cond_self]; rfl
theorem each3a'_eq (k : Int) : ∀ (l v : List S_Span), yg k l v = .x0 (v ++ l.flatMap (sh1 k)) ∨ yg k l v = .x1 (v ++ l.flatMap (sh1 k))
  | [], v => by right; simp [yg]
  | y :: l, v => by
    unfold yg
    rw [emp_app (fun z => yg k l z), emp_app (fun z => zQ k l z), each3c_eq k l _, List.flatMap_cons, ← List.append_assoc]
    cases (z8 y k).nl with
    | false => exact .inl rfl
    | true => exact each3a'_eq k l _
theorem each3b_eq (k : Int) : ∀ (l : List S_Span), (l.flatMap (sh1 k) = [] ∧ ranges_each_3p1b k l = .x2) ∨ (l.flatMap (sh1 k) ≠ [] ∧ ranges_each_3p1b k l = .x0 (l.flatMap (sh1 k)))
  | [] => .inl ⟨rfl, rfl⟩
  | y :: l => by
    unfold ranges_each_3p1b
    rw [Bool.cond_self]
    cases h : ((z8 y k).l).isEmpty with
    | true =>
      rw [flat_cons_emp (f := sh1 k) h]
      exact each3b_eq k l
    | false =>
      right
      simp only [cond_false]
      rw [each3c_eq, List.flatMap_cons]
      refine ⟨fun z => ?_, rfl⟩
      have h2 : (z8 y k).l = [] := (List.append_eq_nil_iff.1 z).1
      rw [h2] at h; cases h
theorem each3'_eq (k : Int) : ∀ (l : List S_Span), (l.flatMap (sh1 k) = [] ∧ (ya k l = .x2 ∨ ya k l = .x3)) ∨ (l.flatMap (sh1 k) ≠ [] ∧ (ya k l = .x0 (l.flatMap (sh1 k)) ∨ ya k l = .x1 (l.flatMap (sh1 k))))
  | [] => .inl ⟨rfl, .inr rfl⟩
  | y :: l => by
    unfold ya
    cases h : ((z8 y k).l).isEmpty with
    | true =>
      rw [flat_cons_emp (f := sh1 k) h]
      cases (z8 y k).nl with
      | true => exact each3'_eq k l
      | false =>
        rcases each3b_eq k l with ⟨h1, h2⟩ | ⟨h1, h2⟩
        · exact .inl ⟨h1, .inl h2⟩
        · exact .inr ⟨h1, .inl h2⟩
    | false =>
      right
      refine ⟨fun z => ?_, ?_⟩
      · rw [List.flatMap_cons] at z
        have h2 : (z8 y k).l = [] := (List.append_eq_nil_iff.1 z).1
        rw [h2] at h; cases h
      · rw [List.flatMap_cons]
        cases (z8 y k).nl with
        | true => exact each3a'_eq k l _
        | false => exact .inl (each3c_eq k l _)
theorem Shift_emp {r : GS S_Span} {k : Int} (h : r.l = []) : zD r k = (GS.nil, 0) := by
  have hr : Ok r.l := by rw [h]; exact ⟨trivial, (fun s hs => by cases hs), by simp⟩
  unfold zD
  rw [check_iff.2 hr, h]
  rfl
theorem Shift_far {r : GS S_Span} {k : Int} (hr : Ok r.l) (h : r.l ≠ []) (hk : ¬ (-2199023255552 ≤ k ∧ k ≤ 2199023255552)) : zD r k = (GS.nil, 2) := by
  unfold zD
  have e : ranges_in k (-2199023255552) 2199023255552 = false := by
    cases h : ranges_in k (-2199023255552) 2199023255552
    · rfl
    · exact absurd (in_iff.1 h) hk
  have hp : decide (((r.l.length : Nat) : Int) > 0) = true := decide_eq_true (by have := List.length_pos_iff.2 h; omega)
  rw [check_iff.2 hr, e, hp]; rfl
theorem shi_len (k : Int) : ∀ l : List S_Span, (l.flatMap (sh1 k)).length ≤ l.length
  | [] => Nat.le_refl _
  | y :: l => by
    rw [List.flatMap_cons, List.length_append, List.length_cons]
    have := shi_len k l
    have : (sh1 k y).length ≤ 1 := shift1_len _ _
    omega
theorem Shift_gr {r : GS S_Span} {k : Int} (hr : Ok r.l) (hk : -2199023255552 ≤ k ∧ k ≤ 2199023255552) : GR (shiL r.l k) (zD r k) := by
  by_cases hne : r.l = []
  · rw [Shift_emp hne, hne]; exact GR_nil
  have hq : r.l.flatMap (sh1 k) = shiL r.l k := by
    have : ∀ l : List S_Span, (∀ s ∈ l, s.lo ≤ s.hi ∧ -1099511627776 ≤ s.lo ∧ s.hi ≤ 1099511627776) → l.flatMap (sh1 k) = shiL l k := by
      intro l
      induction l with
      | nil => intro _; rfl
      | cons s l ih =>
        intro h
        have hs := h s List.mem_cons_self
        rw [List.flatMap_cons, ih fun t ht => h t (List.mem_cons_of_mem _ ht)]
        unfold sh1 z8
        rw [w64_eq (by omega) (by omega), w64_eq (by omega) (by omega), some_l]
        unfold shiL
        rw [List.flatMap_cons]
    exact this r.l fun s hs => (by have h1 := cn_mem hr.1 hs; have h2 := hr.2.1 s hs; omega)
  have hp : decide (((r.l.length : Nat) : Int) > 0) = true := decide_eq_true (by have := List.length_pos_iff.2 hne; omega)
  unfold zD
  rw [check_iff.2 hr, hp, in_iff.2 hk]
  simp only [bne_self_eq_false, cond_false, cond_true]
  have hl := shi_len k r.l
  have hl2 := hr.2.2
  rw [← hq]
  rcases each3'_eq k r.l with ⟨k1, k2 | k2⟩ | ⟨k1, k2 | k2⟩ <;> rw [k2] <;> dsimp only
  · rw [k1]; exact GR_nil
  · rw [k1]; exact GR_nil
  · generalize r.l.flatMap (sh1 k) = q at *
    rcases ranges_gathered_4p1_at (l := q) k1 (by omega) with ⟨g1, g2⟩ | ⟨g1, g2⟩
    · rw [g2]; exact GR_end g1
    · refine .inr ⟨.inl g1, ?_⟩
      revert g2
      cases zx (zf ze q) 0 <;> intro g2 <;> first | rfl | cases g2
  · generalize r.l.flatMap (sh1 k) = q at *
    rcases ranges_gathered_4p1_at (l := q) k1 (by omega) with ⟨g1, g2⟩ | ⟨g1, g2⟩
    · rw [g2]; exact GR_end g1
    · refine .inr ⟨.inl g1, ?_⟩
      revert g2
      cases zx (zf ze q) 0 <;> intro g2 <;> first | rfl | cases g2
theorem shift_res {r : GS S_Span} {k : Int} (hr : Ok r.l) : Res (fun x => In r.l (x - k)) (zD r k) := by
  by_cases hk : -2199023255552 ≤ k ∧ k ≤ 2199023255552
  · exact ((Shift_gr hr hk).res (flat_ne fun a _ => some_ne)).congr fun x => In_shift
  · by_cases hne : r.l = []
    · rw [Shift_emp hne, hne]
      exact .inl ⟨rfl, ⟨trivial, (fun s hs => by cases hs), by simp [GS.nil]⟩, trivial, fun x => ⟨fun h => absurd h In_nil, fun h => absurd h In_nil⟩⟩
    · rw [Shift_far hr hne hk]; exact .inr rfl

theorem within1 (x y : S_Span) : ((zY x y).1).l = comF x y ∧ (zY x y).2 = !(comF x y).isEmpty := by
  have e : (zJ (imax x.lo y.lo) (imin x.hi y.hi)).l = comF x y := by rw [some_l, imax_eq, imin_eq]; rfl
  unfold zY
  rw [e]
  cases h : comF x y with
  | nil => exact ⟨e.trans h, rfl⟩
  | cons s l =>
    rw [decide_eq_true (by simp only [List.length_cons]; omega)]
    exact ⟨e.trans h, rfl⟩
theorem p69_eq (x : S_Span) : ∀ (l : List S_Span) (i : Nat), (l.flatMap (comF x) = [] ∧ ranges_pairs_6p9 x l i = .x3) ∨ (∃ j y, ranges_pairs_6p9 x l i = .x5 j y ∧ comF x y ≠ [] ∧ l.flatMap (comF x) ≠ [])
  | [], i => .inl ⟨rfl, rfl⟩
  | y :: l, i => by
    unfold ranges_pairs_6p9
    rw [(within1 x y).1, (within1 x y).2]
    cases h : (comF x y).isEmpty with
    | true =>
      rw [flat_cons_emp h]
      exact p69_eq x l (i + 1)
    | false =>
      right
      have hne : comF x y ≠ [] := by simpa using h
      refine ⟨i, y, rfl, hne, fun k => ?_⟩
      rw [List.flatMap_cons] at k
      exact hne (List.append_eq_nil_iff.1 k).1
theorem p34_eq (q : GS S_Span) : ∀ (l : List S_Span) (i : Nat), (pairsL l q.l comF = [] ∧ ranges_pairs_3p4 q l i = .x3) ∨ (∃ j x k y, ranges_pairs_3p4 q l i = .x7 j x k y ∧ comF x y ≠ [] ∧ pairsL l q.l comF ≠ [])
  | [], i => .inl ⟨rfl, rfl⟩
  | x :: l, i => by
    unfold ranges_pairs_3p4
    have e : pairsL (x :: l) q.l comF = q.l.flatMap (comF x) ++ pairsL l q.l comF := rfl
    rw [e]
    rcases p69_eq x q.l 0 with ⟨h1, h2⟩ | ⟨j, y, h2, h3, h4⟩ <;> rw [h2] <;> dsimp only
    · rw [h1]; exact p34_eq q l (i + 1)
    · exact .inr ⟨i, x, j, y, rfl, h3, fun k => h4 (List.append_eq_nil_iff.1 k).1⟩
theorem within_ok {a b : GS S_Span} (ha : Ok a.l) (hb : Ok b.l) : ∃ z, ranges_Within a b = (z, 0) ∧ (z = true ↔ ∀ x, In a.l x → In b.l x) := by
  unfold ranges_Within
  rw [check2_iff.2 ⟨ha, hb⟩]
  simp only [bne_self_eq_false, cond_false]
  have w := within_iff ha.1 ha.2.1 hb.1 hb.2.1
  rw [← outside_eq hb.2.1] at w
  rcases p34_eq (ranges_outside b) a.l 0 with ⟨h1, h2⟩ | ⟨j, x, k, y, h2, h3, h4⟩ <;> rw [h2] <;> dsimp only
  · exact ⟨true, rfl, fun _ => w.1 h1, fun _ => rfl⟩
  · rw [(within1 x y).1]
    refine ⟨false, ?_, fun z => (by cases z), fun z => absurd (w.2 z) h4⟩
    cases hc : comF x y with
    | nil => exact absurd hc h3
    | cons s l =>
      have : ((((s :: l).length : Nat) : Int) == 0) = false := by simp only [List.length_cons]; exact beq_eq_false_iff_ne.2 (by omega)
      rw [this]; rfl
theorem tk_Union {a b : GS S_Span} (ha : Ok a.l) (hb : Ok b.l) : Tkn (zN a b).1 (zN a b).2 := tk_res (union_res ha hb)
theorem tk_Shift {r : GS S_Span} (hr : Ok r.l) (k : Int) : Tkn (zD r k).1 (zD r k).2 := tk_res (shift_res hr)
end Go.VS

namespace Go.VS
open Go Go.Proofs
set_option maxHeartbeats 0
set_option linter.unusedSimpArgs false
set_option linter.unusedVariables false
abbrev tL0 (a : GS S_Span) (b : GS S_Span) : Bool := (takeL false ((zi a b).2))

abbrev tv1 (a : GS S_Span) (b : GS S_Span) : GS S_Span := (takeR ((zi a b).1) ((zi a b).2))

abbrev tL2 (a : GS S_Span) (b : GS S_Span) : Bool := (takeL (tL0 a b) ((zi b a).2))

abbrev tv3 (a : GS S_Span) (b : GS S_Span) : GS S_Span := (takeR ((zi b a).1) ((zi b a).2))

abbrev tL4 (a : GS S_Span) (b : GS S_Span) (c : GS S_Span) : Bool := (takeL (tL2 a b) ((zi (tv1 a b) c).2))

abbrev tv5 (a : GS S_Span) (b : GS S_Span) (c : GS S_Span) : GS S_Span := (takeR ((zi (tv1 a b) c).1) ((zi (tv1 a b) c).2))

abbrev tL6 (a : GS S_Span) (b : GS S_Span) (c : GS S_Span) : Bool := (takeL (tL4 a b c) ((zi b c).2))

abbrev tv7 (b : GS S_Span) (c : GS S_Span) : GS S_Span := (takeR ((zi b c).1) ((zi b c).2))

abbrev tL8 (a : GS S_Span) (b : GS S_Span) (c : GS S_Span) : Bool := (takeL (tL6 a b c) ((zi a (tv7 b c)).2))

abbrev tv9 (a : GS S_Span) (b : GS S_Span) (c : GS S_Span) : GS S_Span := (takeR ((zi a (tv7 b c)).1) ((zi a (tv7 b c)).2))

abbrev tL10 (a : GS S_Span) (b : GS S_Span) (c : GS S_Span) : Bool := (takeL (tL8 a b c) ((zN b c).2))

abbrev tv11 (b : GS S_Span) (c : GS S_Span) : GS S_Span := (takeR ((zN b c).1) ((zN b c).2))

abbrev tL12 (a : GS S_Span) (b : GS S_Span) (c : GS S_Span) : Bool := (takeL (tL10 a b c) ((zi a (tv11 b c)).2))

abbrev tv13 (a : GS S_Span) (b : GS S_Span) (c : GS S_Span) : GS S_Span := (takeR ((zi a (tv11 b c)).1) ((zi a (tv11 b c)).2))

abbrev tL14 (a : GS S_Span) (b : GS S_Span) (c : GS S_Span) : Bool := (takeL (tL12 a b c) ((zi a c).2))

abbrev tv15 (a : GS S_Span) (c : GS S_Span) : GS S_Span := (takeR ((zi a c).1) ((zi a c).2))

abbrev tL16 (a : GS S_Span) (b : GS S_Span) (c : GS S_Span) : Bool := (takeL (tL14 a b c) ((zN (tv1 a b) (tv15 a c)).2))

abbrev tv17 (a : GS S_Span) (b : GS S_Span) (c : GS S_Span) : GS S_Span := (takeR ((zN (tv1 a b) (tv15 a c)).1) ((zN (tv1 a b) (tv15 a c)).2))

abbrev tL18 (a : GS S_Span) (by_ : Int) : Bool := (takeL false ((zD a by_).2))

abbrev tv19 (a : GS S_Span) (by_ : Int) : GS S_Span := (takeR ((zD a by_).1) ((zD a by_).2))

abbrev tL20 (a : GS S_Span) (b : GS S_Span) (by_ : Int) : Bool := (takeL (tL18 a by_) ((zi (tv19 a by_) b).2))

abbrev tv21 (a : GS S_Span) (b : GS S_Span) (by_ : Int) : GS S_Span := (takeR ((zi (tv19 a by_) b).1) ((zi (tv19 a by_) b).2))

abbrev tL22 (a : GS S_Span) (b : GS S_Span) (by_ : Int) : Bool := (takeL (tL20 a b by_) ((zD (tv1 a b) by_).2))

abbrev tv23 (a : GS S_Span) (b : GS S_Span) (by_ : Int) : GS S_Span := (takeR ((zD (tv1 a b) by_).1) ((zD (tv1 a b) by_).2))

def l_RangesAdd (a : GS S_Span) (b : GS S_Span) (c : GS S_Span) (by_ : Int) : Bool :=
  bif (r_Valid a) then
    bif (r_Valid b) then
      bif (r_Valid c) then
        bif (holdsB (tL2 a b) (r_Same (tv1 a b) (tv3 a b))) then
          bif (holdsB (tL8 a b c) (r_Same (tv5 a b c) (tv9 a b c))) then
            bif (holdsB (tL16 a b c) (r_Same (tv13 a b c) (tv17 a b c))) then
              bif (tL16 a b c) then
                bif (holdsB (tL20 a b by_) true) then
                  true
                else
                  false
              else
                bif (holdsB (tL22 a b by_) (r_Same (tv21 a b by_) (tv23 a b by_))) then
                  true
                else
                  false
            else
              false
          else
            false
        else
          false
      else
        true
    else
      true
  else
    true

def l_RangesAdd_o1 (a : GS S_Span) (b : GS S_Span) (c : GS S_Span) : List Ora := [.pure (B true), .dec true, .pure (B (r_Valid a)), .dec true, .pure (B (r_Valid b)), .dec true, .pure (B (r_Valid c)), .dec true, .inl (.sl ((tv1 a b).nl) (((tv1 a b).l).map S_Span.D) (zsl ((tv1 a b).nl) 2) none) [(0, ⟨[.agg [B (tL0 a b), B false]], 2, false⟩), (1, ⟨[.lref 0 0 2 0], 1, false⟩)] 2, .inl (.sl ((tv3 a b).nl) (((tv3 a b).l).map S_Span.D) (zsl ((tv3 a b).nl) 2) none) [(0, ⟨[.agg [B (tL2 a b), B false]], 2, false⟩), (1, ⟨[.lref 0 0 2 0], 1, false⟩)] 2, .pure (B (r_Same (tv1 a b) (tv3 a b))), .inl (B (holdsB (tL2 a b) (r_Same (tv1 a b) (tv3 a b)))) [(0, ⟨[.agg [B (tL2 a b), B false]], 2, false⟩)] 2]

def l_RangesAdd_o2 (a : GS S_Span) (b : GS S_Span) (c : GS S_Span) : List Ora := [.dec true, .inl (.sl ((tv5 a b c).nl) (((tv5 a b c).l).map S_Span.D) (zsl ((tv5 a b c).nl) 2) none) [(0, ⟨[.agg [B (tL4 a b c), B false]], 2, false⟩), (1, ⟨[.lref 0 0 2 0], 1, false⟩)] 2, .inl (.sl ((tv7 b c).nl) (((tv7 b c).l).map S_Span.D) (zsl ((tv7 b c).nl) 2) none) [(0, ⟨[.agg [B (tL6 a b c), B false]], 2, false⟩), (1, ⟨[.lref 0 0 2 0], 1, false⟩)] 2, .inl (.sl ((tv9 a b c).nl) (((tv9 a b c).l).map S_Span.D) (zsl ((tv9 a b c).nl) 2) none) [(0, ⟨[.agg [B (tL8 a b c), B false]], 2, false⟩), (1, ⟨[.lref 0 0 2 0], 1, false⟩)] 2, .pure (B (r_Same (tv5 a b c) (tv9 a b c))), .inl (B (holdsB (tL8 a b c) (r_Same (tv5 a b c) (tv9 a b c)))) [(0, ⟨[.agg [B (tL8 a b c), B false]], 2, false⟩)] 2]

def l_RangesAdd_o3 (a : GS S_Span) (b : GS S_Span) (c : GS S_Span) : List Ora := [.dec true, .inl (.sl ((tv11 b c).nl) (((tv11 b c).l).map S_Span.D) (zsl ((tv11 b c).nl) 2) none) [(0, ⟨[.agg [B (tL10 a b c), B false]], 2, false⟩), (1, ⟨[.lref 0 0 2 0], 1, false⟩)] 2, .inl (.sl ((tv13 a b c).nl) (((tv13 a b c).l).map S_Span.D) (zsl ((tv13 a b c).nl) 2) none) [(0, ⟨[.agg [B (tL12 a b c), B false]], 2, false⟩), (1, ⟨[.lref 0 0 2 0], 1, false⟩)] 2, .inl (.sl ((tv15 a c).nl) (((tv15 a c).l).map S_Span.D) (zsl ((tv15 a c).nl) 2) none) [(0, ⟨[.agg [B (tL14 a b c), B false]], 2, false⟩), (1, ⟨[.lref 0 0 2 0], 1, false⟩)] 2, .inl (.sl ((tv17 a b c).nl) (((tv17 a b c).l).map S_Span.D) (zsl ((tv17 a b c).nl) 2) none) [(0, ⟨[.agg [B (tL16 a b c), B false]], 2, false⟩), (1, ⟨[.lref 0 0 2 0], 1, false⟩)] 2, .pure (B (r_Same (tv13 a b c) (tv17 a b c))), .inl (B (holdsB (tL16 a b c) (r_Same (tv13 a b c) (tv17 a b c)))) [(0, ⟨[.agg [B (tL16 a b c), B false]], 2, false⟩)] 2]

def l_RangesAdd_o4 (a : GS S_Span) (b : GS S_Span) (by_ : Int) : List Ora := [.dec true, .pure (.tup [.sl (((zD a by_).1).nl) ((((zD a by_).1).l).map S_Span.D) (zsl (((zD a by_).1).nl) 2) none, I ((zD a by_).2)]), .inl (.sl ((tv19 a by_).nl) (((tv19 a by_).l).map S_Span.D) (zsl ((tv19 a by_).nl) 2) none) [(2, ⟨[.agg [B (tL18 a by_), B false]], 2, false⟩)] 3, .pure (.tup [.sl (((zi (tv19 a by_) b).1).nl) ((((zi (tv19 a by_) b).1).l).map S_Span.D) (zsl (((zi (tv19 a by_) b).1).nl) 2) none, I ((zi (tv19 a by_) b).2)]), .inl (.sl ((tv21 a b by_).nl) (((tv21 a b by_).l).map S_Span.D) (zsl ((tv21 a b by_).nl) 2) none) [(2, ⟨[.agg [B (tL20 a b by_), B false]], 2, false⟩)] 3]

def l_RangesAdd_o5 (a : GS S_Span) (b : GS S_Span) (by_ : Int) : List Ora := [.dec false, .pure (.tup [.sl (((zD (tv1 a b) by_).1).nl) ((((zD (tv1 a b) by_).1).l).map S_Span.D) (zsl (((zD (tv1 a b) by_).1).nl) 2) none, I ((zD (tv1 a b) by_).2)]), .inl (.sl ((tv23 a b by_).nl) (((tv23 a b by_).l).map S_Span.D) (zsl ((tv23 a b by_).nl) 2) none) [(2, ⟨[.agg [B (tL22 a b by_), B false]], 2, false⟩)] 3, .pure (B (r_Same (tv21 a b by_) (tv23 a b by_))), .inl (B (holdsB (tL22 a b by_) (r_Same (tv21 a b by_) (tv23 a b by_)))) [(2, ⟨[.agg [B (tL22 a b by_), B false]], 2, false⟩)] 3]

theorem take_0_2 (L : Bool) (r : GS S_Span) (e : Int) (hL : r.l.length ≤ 9223372036854775807) (ht : Tkn r e) : (lim cfg).inl 36 [.lref 0 0 2 0, .sl r.nl (r.l.map S_Span.D) (zsl r.nl 2) none, I e] [(0, ⟨[.agg [B L, B false]], 2, false⟩)] 2 = some (.sl ((takeR r e).nl) (((takeR r e).l).map S_Span.D) (zsl ((takeR r e).nl) 2) none, [(0, ⟨[.agg [B (takeL L e), B false]], 2, false⟩)], 2) := by
  unfold takeR takeL
  cases h1 : (e == 2) with
  | true =>
    have g1 := eq_of_beq h1
    exact zw [.dec true] (And.intro h1 trivial) (by kernel_rfl)
  | false =>
    have g1 := ne_of_beq_false h1
    exact zw [.dec false, .dec false, .pure (I (r_Check r)), .dec false] (And.intro (show ((r_Check r) != 0) = false from (tk_r ht h1)) (And.intro (T_r_Check r (by omega)) (And.intro (show (e != 0) = false from (tk_e ht h1)) (And.intro h1 trivial)))) (by kernel_rfl)

theorem holds_0_2 (L : Bool) (z : Bool) : (lim cfg).inl 38 [.lref 0 0 2 0, B z] [(0, ⟨[.agg [B L, B false]], 2, false⟩)] 2 = some (B (holdsB L z), [(0, ⟨[.agg [B L, B false]], 2, false⟩)], 2) := by
  unfold holdsB
  rcases Bool.eq_false_or_eq_true L with h1 | h1
  · rw [cond_t h1]
    exact zw [.dec false, .dec true] (And.intro h1 (And.intro (Eq.refl false) trivial)) (by kernel_rfl)
  · rw [cond_f h1]
    exact zw [.dec false, .dec false] (And.intro h1 (And.intro (Eq.refl false) trivial)) (by kernel_rfl)

theorem take_2_3 (L : Bool) (r : GS S_Span) (e : Int) (hL : r.l.length ≤ 9223372036854775807) (ht : Tkn r e) : (lim cfg).inl 36 [.lref 2 0 2 0, .sl r.nl (r.l.map S_Span.D) (zsl r.nl 2) none, I e] [(2, ⟨[.agg [B L, B false]], 2, false⟩)] 3 = some (.sl ((takeR r e).nl) (((takeR r e).l).map S_Span.D) (zsl ((takeR r e).nl) 2) none, [(2, ⟨[.agg [B (takeL L e), B false]], 2, false⟩)], 3) := by
  unfold takeR takeL
  cases h1 : (e == 2) with
  | true =>
    have g1 := eq_of_beq h1
    exact zw [.dec true] (And.intro h1 trivial) (by kernel_rfl)
  | false =>
    have g1 := ne_of_beq_false h1
    exact zw [.dec false, .dec false, .pure (I (r_Check r)), .dec false] (And.intro (show ((r_Check r) != 0) = false from (tk_r ht h1)) (And.intro (T_r_Check r (by omega)) (And.intro (show (e != 0) = false from (tk_e ht h1)) (And.intro h1 trivial)))) (by kernel_rfl)

theorem holds_2_3 (L : Bool) (z : Bool) : (lim cfg).inl 38 [.lref 2 0 2 0, B z] [(2, ⟨[.agg [B L, B false]], 2, false⟩)] 3 = some (B (holdsB L z), [(2, ⟨[.agg [B L, B false]], 2, false⟩)], 3) := by
  unfold holdsB
  rcases Bool.eq_false_or_eq_true L with h1 | h1
  · rw [cond_t h1]
    exact zw [.dec false, .dec true] (And.intro h1 (And.intro (Eq.refl false) trivial)) (by kernel_rfl)
  · rw [cond_f h1]
    exact zw [.dec false, .dec false] (And.intro h1 (And.intro (Eq.refl false) trivial)) (by kernel_rfl)

theorem T_l_RangesAdd (a : GS S_Span) (b : GS S_Span) (c : GS S_Span) (by_ : Int) (hLa : a.l.length ≤ 9223372036854775807) (hLb : b.l.length ≤ 9223372036854775807) (hLc : c.l.length ≤ 9223372036854775807) : (lim cfg).pure 11 [GS.D S_Span.D 2 a, GS.D S_Span.D 2 b, GS.D S_Span.D 2 c, I by_] = some (B (l_RangesAdd a b c by_)) := by
  unfold l_RangesAdd
  cases h1 : (r_Valid a) with
  | true =>
    cases h2 : (r_Valid b) with
    | true =>
      cases h3 : (r_Valid c) with
      | true =>
        have p1 := (show (lim cfg).inl 43 [.sl a.nl (a.l.map S_Span.D) (zsl a.nl 2) none, .sl b.nl (b.l.map S_Span.D) (zsl b.nl 2) none, .lref 1 0 1 0] [(0, ⟨[.agg [B false, B false]], 2, false⟩), (1, ⟨[.lref 0 0 2 0], 1, false⟩)] 2 = some (.sl ((tv1 a b).nl) (((tv1 a b).l).map S_Span.D) (zsl ((tv1 a b).nl) 2) none, [(0, ⟨[.agg [B (tL0 a b), B false]], 2, false⟩), (1, ⟨[.lref 0 0 2 0], 1, false⟩)], 2) from zw [.pure (.tup [.sl (((zi a b).1).nl) ((((zi a b).1).l).map S_Span.D) (zsl (((zi a b).1).nl) 2) none, I ((zi a b).2)]), .inl (.sl ((tv1 a b).nl) (((tv1 a b).l).map S_Span.D) (zsl ((tv1 a b).nl) 2) none) [(0, ⟨[.agg [B (tL0 a b), B false]], 2, false⟩)] 2] (And.intro (take_0_2 false ((zi a b).1) ((zi a b).2) (tkn_len (tk_Sum (zm.1 (by assumption)) (zm.1 (by assumption)))) (tk_Sum (zm.1 (by assumption)) (zm.1 (by assumption)))) (And.intro (T_ranges_Sum a b (by omega) (by omega)) trivial)) (by kernel_rfl))
        have p2 := (show (lim cfg).inl 43 [.sl b.nl (b.l.map S_Span.D) (zsl b.nl 2) none, .sl a.nl (a.l.map S_Span.D) (zsl a.nl 2) none, .lref 1 0 1 0] [(0, ⟨[.agg [B (tL0 a b), B false]], 2, false⟩), (1, ⟨[.lref 0 0 2 0], 1, false⟩)] 2 = some (.sl ((tv3 a b).nl) (((tv3 a b).l).map S_Span.D) (zsl ((tv3 a b).nl) 2) none, [(0, ⟨[.agg [B (tL2 a b), B false]], 2, false⟩), (1, ⟨[.lref 0 0 2 0], 1, false⟩)], 2) from zw [.pure (.tup [.sl (((zi b a).1).nl) ((((zi b a).1).l).map S_Span.D) (zsl (((zi b a).1).nl) 2) none, I ((zi b a).2)]), .inl (.sl ((tv3 a b).nl) (((tv3 a b).l).map S_Span.D) (zsl ((tv3 a b).nl) 2) none) [(0, ⟨[.agg [B (tL2 a b), B false]], 2, false⟩)] 2] (And.intro (take_0_2 (tL0 a b) ((zi b a).1) ((zi b a).2) (tkn_len (tk_Sum (zm.1 (by assumption)) (zm.1 (by assumption)))) (tk_Sum (zm.1 (by assumption)) (zm.1 (by assumption)))) (And.intro (T_ranges_Sum b a (by omega) (by omega)) trivial)) (by kernel_rfl))
        have p3 := (T_r_Same (tv1 a b) (tv3 a b) (Nat.le_trans (ok64 (ok_take (tk_Sum (zm.1 (by assumption)) (zm.1 (by assumption))))) (by decide)))
        have p4 := (holds_0_2 (tL2 a b) (r_Same (tv1 a b) (tv3 a b)))
        cases h4 : (holdsB (tL2 a b) (r_Same (tv1 a b) (tv3 a b))) with
        | true =>
          have p5 := (show (lim cfg).inl 43 [.sl ((tv1 a b).nl) (((tv1 a b).l).map S_Span.D) (zsl ((tv1 a b).nl) 2) none, .sl c.nl (c.l.map S_Span.D) (zsl c.nl 2) none, .lref 1 0 1 0] [(0, ⟨[.agg [B (tL2 a b), B false]], 2, false⟩), (1, ⟨[.lref 0 0 2 0], 1, false⟩)] 2 = some (.sl ((tv5 a b c).nl) (((tv5 a b c).l).map S_Span.D) (zsl ((tv5 a b c).nl) 2) none, [(0, ⟨[.agg [B (tL4 a b c), B false]], 2, false⟩), (1, ⟨[.lref 0 0 2 0], 1, false⟩)], 2) from zw [.pure (.tup [.sl (((zi (tv1 a b) c).1).nl) ((((zi (tv1 a b) c).1).l).map S_Span.D) (zsl (((zi (tv1 a b) c).1).nl) 2) none, I ((zi (tv1 a b) c).2)]), .inl (.sl ((tv5 a b c).nl) (((tv5 a b c).l).map S_Span.D) (zsl ((tv5 a b c).nl) 2) none) [(0, ⟨[.agg [B (tL4 a b c), B false]], 2, false⟩)] 2] (And.intro (take_0_2 (tL2 a b) ((zi (tv1 a b) c).1) ((zi (tv1 a b) c).2) (tkn_len (tk_Sum (ok_take (tk_Sum (zm.1 (by assumption)) (zm.1 (by assumption)))) (zm.1 (by assumption)))) (tk_Sum (ok_take (tk_Sum (zm.1 (by assumption)) (zm.1 (by assumption)))) (zm.1 (by assumption)))) (And.intro (T_ranges_Sum (tv1 a b) c (Nat.le_trans (ok64 (ok_take (tk_Sum (zm.1 (by assumption)) (zm.1 (by assumption))))) (by decide)) (by omega)) trivial)) (by kernel_rfl))
          have p6 := (show (lim cfg).inl 43 [.sl b.nl (b.l.map S_Span.D) (zsl b.nl 2) none, .sl c.nl (c.l.map S_Span.D) (zsl c.nl 2) none, .lref 1 0 1 0] [(0, ⟨[.agg [B (tL4 a b c), B false]], 2, false⟩), (1, ⟨[.lref 0 0 2 0], 1, false⟩)] 2 = some (.sl ((tv7 b c).nl) (((tv7 b c).l).map S_Span.D) (zsl ((tv7 b c).nl) 2) none, [(0, ⟨[.agg [B (tL6 a b c), B false]], 2, false⟩), (1, ⟨[.lref 0 0 2 0], 1, false⟩)], 2) from zw [.pure (.tup [.sl (((zi b c).1).nl) ((((zi b c).1).l).map S_Span.D) (zsl (((zi b c).1).nl) 2) none, I ((zi b c).2)]), .inl (.sl ((tv7 b c).nl) (((tv7 b c).l).map S_Span.D) (zsl ((tv7 b c).nl) 2) none) [(0, ⟨[.agg [B (tL6 a b c), B false]], 2, false⟩)] 2] (And.intro (take_0_2 (tL4 a b c) ((zi b c).1) ((zi b c).2) (tkn_len (tk_Sum (zm.1 (by assumption)) (zm.1 (by assumption)))) (tk_Sum (zm.1 (by assumption)) (zm.1 (by assumption)))) (And.intro (T_ranges_Sum b c (by omega) (by omega)) trivial)) (by kernel_rfl))
          have p7 := (show (lim cfg).inl 43 [.sl a.nl (a.l.map S_Span.D) (zsl a.nl 2) none, .sl ((tv7 b c).nl) (((tv7 b c).l).map S_Span.D) (zsl ((tv7 b c).nl) 2) none, .lref 1 0 1 0] [(0, ⟨[.agg [B (tL6 a b c), B false]], 2, false⟩), (1, ⟨[.lref 0 0 2 0], 1, false⟩)] 2 = some (.sl ((tv9 a b c).nl) (((tv9 a b c).l).map S_Span.D) (zsl ((tv9 a b c).nl) 2) none, [(0, ⟨[.agg [B (tL8 a b c), B false]], 2, false⟩), (1, ⟨[.lref 0 0 2 0], 1, false⟩)], 2) from zw [.pure (.tup [.sl (((zi a (tv7 b c)).1).nl) ((((zi a (tv7 b c)).1).l).map S_Span.D) (zsl (((zi a (tv7 b c)).1).nl) 2) none, I ((zi a (tv7 b c)).2)]), .inl (.sl ((tv9 a b c).nl) (((tv9 a b c).l).map S_Span.D) (zsl ((tv9 a b c).nl) 2) none) [(0, ⟨[.agg [B (tL8 a b c), B false]], 2, false⟩)] 2] (And.intro (take_0_2 (tL6 a b c) ((zi a (tv7 b c)).1) ((zi a (tv7 b c)).2) (tkn_len (tk_Sum (zm.1 (by assumption)) (ok_take (tk_Sum (zm.1 (by assumption)) (zm.1 (by assumption)))))) (tk_Sum (zm.1 (by assumption)) (ok_take (tk_Sum (zm.1 (by assumption)) (zm.1 (by assumption)))))) (And.intro (T_ranges_Sum a (tv7 b c) (by omega) (Nat.le_trans (ok64 (ok_take (tk_Sum (zm.1 (by assumption)) (zm.1 (by assumption))))) (by decide))) trivial)) (by kernel_rfl))
          have p8 := (T_r_Same (tv5 a b c) (tv9 a b c) (Nat.le_trans (ok64 (ok_take (tk_Sum (ok_take (tk_Sum (zm.1 (by assumption)) (zm.1 (by assumption)))) (zm.1 (by assumption))))) (by decide)))
          have p9 := (holds_0_2 (tL8 a b c) (r_Same (tv5 a b c) (tv9 a b c)))
          cases h5 : (holdsB (tL8 a b c) (r_Same (tv5 a b c) (tv9 a b c))) with
          | true =>
            have p10 := (show (lim cfg).inl 44 [.sl b.nl (b.l.map S_Span.D) (zsl b.nl 2) none, .sl c.nl (c.l.map S_Span.D) (zsl c.nl 2) none, .lref 1 0 1 0] [(0, ⟨[.agg [B (tL8 a b c), B false]], 2, false⟩), (1, ⟨[.lref 0 0 2 0], 1, false⟩)] 2 = some (.sl ((tv11 b c).nl) (((tv11 b c).l).map S_Span.D) (zsl ((tv11 b c).nl) 2) none, [(0, ⟨[.agg [B (tL10 a b c), B false]], 2, false⟩), (1, ⟨[.lref 0 0 2 0], 1, false⟩)], 2) from zw [.pure (.tup [.sl (((zN b c).1).nl) ((((zN b c).1).l).map S_Span.D) (zsl (((zN b c).1).nl) 2) none, I ((zN b c).2)]), .inl (.sl ((tv11 b c).nl) (((tv11 b c).l).map S_Span.D) (zsl ((tv11 b c).nl) 2) none) [(0, ⟨[.agg [B (tL10 a b c), B false]], 2, false⟩)] 2] (And.intro (take_0_2 (tL8 a b c) ((zN b c).1) ((zN b c).2) (tkn_len (tk_Union (zm.1 (by assumption)) (zm.1 (by assumption)))) (tk_Union (zm.1 (by assumption)) (zm.1 (by assumption)))) (And.intro (T_ranges_Union b c (by omega) (by omega)) trivial)) (by kernel_rfl))
            have p11 := (show (lim cfg).inl 43 [.sl a.nl (a.l.map S_Span.D) (zsl a.nl 2) none, .sl ((tv11 b c).nl) (((tv11 b c).l).map S_Span.D) (zsl ((tv11 b c).nl) 2) none, .lref 1 0 1 0] [(0, ⟨[.agg [B (tL10 a b c), B false]], 2, false⟩), (1, ⟨[.lref 0 0 2 0], 1, false⟩)] 2 = some (.sl ((tv13 a b c).nl) (((tv13 a b c).l).map S_Span.D) (zsl ((tv13 a b c).nl) 2) none, [(0, ⟨[.agg [B (tL12 a b c), B false]], 2, false⟩), (1, ⟨[.lref 0 0 2 0], 1, false⟩)], 2) from zw [.pure (.tup [.sl (((zi a (tv11 b c)).1).nl) ((((zi a (tv11 b c)).1).l).map S_Span.D) (zsl (((zi a (tv11 b c)).1).nl) 2) none, I ((zi a (tv11 b c)).2)]), .inl (.sl ((tv13 a b c).nl) (((tv13 a b c).l).map S_Span.D) (zsl ((tv13 a b c).nl) 2) none) [(0, ⟨[.agg [B (tL12 a b c), B false]], 2, false⟩)] 2] (And.intro (take_0_2 (tL10 a b c) ((zi a (tv11 b c)).1) ((zi a (tv11 b c)).2) (tkn_len (tk_Sum (zm.1 (by assumption)) (ok_take (tk_Union (zm.1 (by assumption)) (zm.1 (by assumption)))))) (tk_Sum (zm.1 (by assumption)) (ok_take (tk_Union (zm.1 (by assumption)) (zm.1 (by assumption)))))) (And.intro (T_ranges_Sum a (tv11 b c) (by omega) (Nat.le_trans (ok64 (ok_take (tk_Union (zm.1 (by assumption)) (zm.1 (by assumption))))) (by decide))) trivial)) (by kernel_rfl))
            have p12 := (show (lim cfg).inl 43 [.sl a.nl (a.l.map S_Span.D) (zsl a.nl 2) none, .sl c.nl (c.l.map S_Span.D) (zsl c.nl 2) none, .lref 1 0 1 0] [(0, ⟨[.agg [B (tL12 a b c), B false]], 2, false⟩), (1, ⟨[.lref 0 0 2 0], 1, false⟩)] 2 = some (.sl ((tv15 a c).nl) (((tv15 a c).l).map S_Span.D) (zsl ((tv15 a c).nl) 2) none, [(0, ⟨[.agg [B (tL14 a b c), B false]], 2, false⟩), (1, ⟨[.lref 0 0 2 0], 1, false⟩)], 2) from zw [.pure (.tup [.sl (((zi a c).1).nl) ((((zi a c).1).l).map S_Span.D) (zsl (((zi a c).1).nl) 2) none, I ((zi a c).2)]), .inl (.sl ((tv15 a c).nl) (((tv15 a c).l).map S_Span.D) (zsl ((tv15 a c).nl) 2) none) [(0, ⟨[.agg [B (tL14 a b c), B false]], 2, false⟩)] 2] (And.intro (take_0_2 (tL12 a b c) ((zi a c).1) ((zi a c).2) (tkn_len (tk_Sum (zm.1 (by assumption)) (zm.1 (by assumption)))) (tk_Sum (zm.1 (by assumption)) (zm.1 (by assumption)))) (And.intro (T_ranges_Sum a c (by omega) (by omega)) trivial)) (by kernel_rfl))
            have p13 := (show (lim cfg).inl 44 [.sl ((tv1 a b).nl) (((tv1 a b).l).map S_Span.D) (zsl ((tv1 a b).nl) 2) none, .sl ((tv15 a c).nl) (((tv15 a c).l).map S_Span.D) (zsl ((tv15 a c).nl) 2) none, .lref 1 0 1 0] [(0, ⟨[.agg [B (tL14 a b c), B false]], 2, false⟩), (1, ⟨[.lref 0 0 2 0], 1, false⟩)] 2 = some (.sl ((tv17 a b c).nl) (((tv17 a b c).l).map S_Span.D) (zsl ((tv17 a b c).nl) 2) none, [(0, ⟨[.agg [B (tL16 a b c), B false]], 2, false⟩), (1, ⟨[.lref 0 0 2 0], 1, false⟩)], 2) from zw [.pure (.tup [.sl (((zN (tv1 a b) (tv15 a c)).1).nl) ((((zN (tv1 a b) (tv15 a c)).1).l).map S_Span.D) (zsl (((zN (tv1 a b) (tv15 a c)).1).nl) 2) none, I ((zN (tv1 a b) (tv15 a c)).2)]), .inl (.sl ((tv17 a b c).nl) (((tv17 a b c).l).map S_Span.D) (zsl ((tv17 a b c).nl) 2) none) [(0, ⟨[.agg [B (tL16 a b c), B false]], 2, false⟩)] 2] (And.intro (take_0_2 (tL14 a b c) ((zN (tv1 a b) (tv15 a c)).1) ((zN (tv1 a b) (tv15 a c)).2) (tkn_len (tk_Union (ok_take (tk_Sum (zm.1 (by assumption)) (zm.1 (by assumption)))) (ok_take (tk_Sum (zm.1 (by assumption)) (zm.1 (by assumption)))))) (tk_Union (ok_take (tk_Sum (zm.1 (by assumption)) (zm.1 (by assumption)))) (ok_take (tk_Sum (zm.1 (by assumption)) (zm.1 (by assumption)))))) (And.intro (T_ranges_Union (tv1 a b) (tv15 a c) (Nat.le_trans (ok64 (ok_take (tk_Sum (zm.1 (by assumption)) (zm.1 (by assumption))))) (by decide)) (Nat.le_trans (ok64 (ok_take (tk_Sum (zm.1 (by assumption)) (zm.1 (by assumption))))) (by decide))) trivial)) (by kernel_rfl))
            have p14 := (T_r_Same (tv13 a b c) (tv17 a b c) (Nat.le_trans (ok64 (ok_take (tk_Sum (zm.1 (by assumption)) (ok_take (tk_Union (zm.1 (by assumption)) (zm.1 (by assumption))))))) (by decide)))
            have p15 := (holds_0_2 (tL16 a b c) (r_Same (tv13 a b c) (tv17 a b c)))
            cases h6 : (holdsB (tL16 a b c) (r_Same (tv13 a b c) (tv17 a b c))) with
            | true =>
              have p16 := (T_ranges_Shift a by_ (by omega) (by omega))
              have p17 := (take_2_3 false ((zD a by_).1) ((zD a by_).2) (tkn_len (tk_Shift (zm.1 (by assumption)) _)) (tk_Shift (zm.1 (by assumption)) _))
              have p18 := (T_ranges_Sum (tv19 a by_) b (Nat.le_trans (ok64 (ok_take (tk_Shift (zm.1 (by assumption)) _))) (by decide)) (by omega))
              have p19 := (take_2_3 (tL18 a by_) ((zi (tv19 a by_) b).1) ((zi (tv19 a by_) b).2) (tkn_len (tk_Sum (ok_take (tk_Shift (zm.1 (by assumption)) _)) (zm.1 (by assumption)))) (tk_Sum (ok_take (tk_Shift (zm.1 (by assumption)) _)) (zm.1 (by assumption))))
              cases h7 : (tL16 a b c) with
              | true =>
                cases h8 : (holdsB (tL20 a b by_) true) with
                | true =>
                  exact zq ((l_RangesAdd_o1 a b c) ++ ((l_RangesAdd_o2 a b c) ++ ((l_RangesAdd_o3 a b c) ++ ((l_RangesAdd_o4 a b by_) ++ [.dec true, .inl (B (holdsB (tL20 a b by_) true)) [(2, ⟨[.agg [B (tL20 a b by_), B false]], 2, false⟩)] 3, .dec true])))) (And.intro h8 (And.intro (holds_2_3 (tL20 a b by_) true) (And.intro h7 (And.intro p19 (And.intro p18 (And.intro p17 (And.intro p16 (And.intro h6 (And.intro p15 (And.intro p14 (And.intro p13 (And.intro p12 (And.intro p11 (And.intro p10 (And.intro h5 (And.intro p9 (And.intro p8 (And.intro p7 (And.intro p6 (And.intro p5 (And.intro h4 (And.intro p4 (And.intro p3 (And.intro p2 (And.intro p1 (And.intro h3 (And.intro (ye c (by omega)) (And.intro h2 (And.intro (ye b (by omega)) (And.intro h1 (And.intro (ye a (by omega)) (And.intro (Eq.refl true) (And.intro sane_ok trivial))))))))))))))))))))))))))))))))) (by kernel_rfl)
                | false =>
                  exact zq ((l_RangesAdd_o1 a b c) ++ ((l_RangesAdd_o2 a b c) ++ ((l_RangesAdd_o3 a b c) ++ ((l_RangesAdd_o4 a b by_) ++ [.dec true, .inl (B (holdsB (tL20 a b by_) true)) [(2, ⟨[.agg [B (tL20 a b by_), B false]], 2, false⟩)] 3, .dec false])))) (And.intro h8 (And.intro (holds_2_3 (tL20 a b by_) true) (And.intro h7 (And.intro p19 (And.intro p18 (And.intro p17 (And.intro p16 (And.intro h6 (And.intro p15 (And.intro p14 (And.intro p13 (And.intro p12 (And.intro p11 (And.intro p10 (And.intro h5 (And.intro p9 (And.intro p8 (And.intro p7 (And.intro p6 (And.intro p5 (And.intro h4 (And.intro p4 (And.intro p3 (And.intro p2 (And.intro p1 (And.intro h3 (And.intro (ye c (by omega)) (And.intro h2 (And.intro (ye b (by omega)) (And.intro h1 (And.intro (ye a (by omega)) (And.intro (Eq.refl true) (And.intro sane_ok trivial))))))))))))))))))))))))))))))))) (by kernel_rfl)
              | false =>
                have p20 := (T_ranges_Shift (tv1 a b) by_ (Nat.le_trans (ok64 (ok_take (tk_Sum (zm.1 (by assumption)) (zm.1 (by assumption))))) (by decide)) (Nat.le_trans (ok64 (ok_take (tk_Sum (zm.1 (by assumption)) (zm.1 (by assumption))))) (by decide)))
                have p21 := (take_2_3 (tL20 a b by_) ((zD (tv1 a b) by_).1) ((zD (tv1 a b) by_).2) (tkn_len (tk_Shift (ok_take (tk_Sum (zm.1 (by assumption)) (zm.1 (by assumption)))) _)) (tk_Shift (ok_take (tk_Sum (zm.1 (by assumption)) (zm.1 (by assumption)))) _))
                have p22 := (T_r_Same (tv21 a b by_) (tv23 a b by_) (Nat.le_trans (ok64 (ok_take (tk_Sum (ok_take (tk_Shift (zm.1 (by assumption)) _)) (zm.1 (by assumption))))) (by decide)))
                have p23 := (holds_2_3 (tL22 a b by_) (r_Same (tv21 a b by_) (tv23 a b by_)))
                cases h9 : (holdsB (tL22 a b by_) (r_Same (tv21 a b by_) (tv23 a b by_))) with
                | true =>
                  exact zq ((l_RangesAdd_o1 a b c) ++ ((l_RangesAdd_o2 a b c) ++ ((l_RangesAdd_o3 a b c) ++ ((l_RangesAdd_o4 a b by_) ++ ((l_RangesAdd_o5 a b by_) ++ [.dec true]))))) (And.intro h9 (And.intro p23 (And.intro p22 (And.intro p21 (And.intro p20 (And.intro h7 (And.intro p19 (And.intro p18 (And.intro p17 (And.intro p16 (And.intro h6 (And.intro p15 (And.intro p14 (And.intro p13 (And.intro p12 (And.intro p11 (And.intro p10 (And.intro h5 (And.intro p9 (And.intro p8 (And.intro p7 (And.intro p6 (And.intro p5 (And.intro h4 (And.intro p4 (And.intro p3 (And.intro p2 (And.intro p1 (And.intro h3 (And.intro (ye c (by omega)) (And.intro h2 (And.intro (ye b (by omega)) (And.intro h1 (And.intro (ye a (by omega)) (And.intro (Eq.refl true) (And.intro sane_ok trivial)))))))))))))))))))))))))))))))))))) (by kernel_rfl)
                | false =>
                  exact zq ((l_RangesAdd_o1 a b c) ++ ((l_RangesAdd_o2 a b c) ++ ((l_RangesAdd_o3 a b c) ++ ((l_RangesAdd_o4 a b by_) ++ ((l_RangesAdd_o5 a b by_) ++ [.dec false]))))) (And.intro h9 (And.intro p23 (And.intro p22 (And.intro p21 (And.intro p20 (And.intro h7 (And.intro p19 (And.intro p18 (And.intro p17 (And.intro p16 (And.intro h6 (And.intro p15 (And.intro p14 (And.intro p13 (And.intro p12 (And.intro p11 (And.intro p10 (And.intro h5 (And.intro p9 (And.intro p8 (And.intro p7 (And.intro p6 (And.intro p5 (And.intro h4 (And.intro p4 (And.intro p3 (And.intro p2 (And.intro p1 (And.intro h3 (And.intro (ye c (by omega)) (And.intro h2 (And.intro (ye b (by omega)) (And.intro h1 (And.intro (ye a (by omega)) (And.intro (Eq.refl true) (And.intro sane_ok trivial)))))))))))))))))))))))))))))))))))) (by kernel_rfl)
            | false =>
              exact zq ((l_RangesAdd_o1 a b c) ++ ((l_RangesAdd_o2 a b c) ++ ((l_RangesAdd_o3 a b c) ++ [.dec false]))) (And.intro h6 (And.intro p15 (And.intro p14 (And.intro p13 (And.intro p12 (And.intro p11 (And.intro p10 (And.intro h5 (And.intro p9 (And.intro p8 (And.intro p7 (And.intro p6 (And.intro p5 (And.intro h4 (And.intro p4 (And.intro p3 (And.intro p2 (And.intro p1 (And.intro h3 (And.intro (ye c (by omega)) (And.intro h2 (And.intro (ye b (by omega)) (And.intro h1 (And.intro (ye a (by omega)) (And.intro (Eq.refl true) (And.intro sane_ok trivial)))))))))))))))))))))))))) (by kernel_rfl)
          | false =>
            exact zq ((l_RangesAdd_o1 a b c) ++ ((l_RangesAdd_o2 a b c) ++ [.dec false])) (And.intro h5 (And.intro p9 (And.intro p8 (And.intro p7 (And.intro p6 (And.intro p5 (And.intro h4 (And.intro p4 (And.intro p3 (And.intro p2 (And.intro p1 (And.intro h3 (And.intro (ye c (by omega)) (And.intro h2 (And.intro (ye b (by omega)) (And.intro h1 (And.intro (ye a (by omega)) (And.intro (Eq.refl true) (And.intro sane_ok trivial))))))))))))))))))) (by kernel_rfl)
        | false =>
          exact zq ((l_RangesAdd_o1 a b c) ++ [.dec false]) (And.intro h4 (And.intro p4 (And.intro p3 (And.intro p2 (And.intro p1 (And.intro h3 (And.intro (ye c (by omega)) (And.intro h2 (And.intro (ye b (by omega)) (And.intro h1 (And.intro (ye a (by omega)) (And.intro (Eq.refl true) (And.intro sane_ok trivial))))))))))))) (by kernel_rfl)
      | false =>
        exact zq [.pure (B true), .dec true, .pure (B (r_Valid a)), .dec true, .pure (B (r_Valid b)), .dec true, .pure (B (r_Valid c)), .dec false] (And.intro h3 (And.intro (ye c (by omega)) (And.intro h2 (And.intro (ye b (by omega)) (And.intro h1 (And.intro (ye a (by omega)) (And.intro (Eq.refl true) (And.intro sane_ok trivial)))))))) (by kernel_rfl)
    | false =>
      exact zq [.pure (B true), .dec true, .pure (B (r_Valid a)), .dec true, .pure (B (r_Valid b)), .dec false] (And.intro h2 (And.intro (ye b (by omega)) (And.intro h1 (And.intro (ye a (by omega)) (And.intro (Eq.refl true) (And.intro sane_ok trivial)))))) (by kernel_rfl)
  | false =>
    exact zq [.pure (B true), .dec true, .pure (B (r_Valid a)), .dec false] (And.intro h1 (And.intro (ye a (by omega)) (And.intro (Eq.refl true) (And.intro sane_ok trivial)))) (by kernel_rfl)
end Go.VS

/-
  Ranges: Size, plainly; how many elements lie above a number. (A text of this claim's own; nothing of it is trusted.)
-/
namespace Go.VS
open Go
set_option maxHeartbeats 0
end Go.VS

/-
  Ranges: what is taken of the operations' answers, plainly. (A text of this claim's own; nothing of it is trusted.)
-/
namespace Go.VS
open Go
set_option maxHeartbeats 0
theorem Tk.lift {L : Bool} {S : Int → Prop} {res : GS S_Span × Int} (h : L = true ∨ Res S res) : Tk (takeL L res.2) S (takeR res.1 res.2) := by
  rcases h with h | h
  · left; rw [h]; unfold takeL; cases (res.2 == 2) <;> rfl
  · exact Tk.take h
theorem Tk.base {L : Bool} {r : GS S_Span} (h : Ok r.l) : Tk L (In r.l) r := .inr ⟨h, h.1, fun _ => Iff.rfl⟩
theorem Tk.down {L L' : Bool} {S : Int → Prop} {r : GS S_Span} (h : Tk L S r) (hL : L = false) : Tk L' S r := by
  rcases h with h | h
  · rw [hL] at h; cases h
  · exact .inr h
section
variable {L : Bool} {S T : Int → Prop} {a b : GS S_Span}
theorem Tk.union (ha : Tk L S a) (hb : Tk L T b) : Tk (takeL L (zN a b).2) (fun x => S x ∨ T x) (takeR (zN a b).1 (zN a b).2) := by
  refine Tk.lift ?_
  rcases ha with h | ⟨ha, ra⟩
  · exact .inl h
  rcases hb with h | ⟨hb, rb⟩
  · exact .inl h
  exact .inr ((union_res ha hb).congr fun x => by rw [ra.2, rb.2])
theorem Tk.sum (ha : Tk L S a) (hb : Tk L T b) : Tk (takeL L (zi a b).2) (fun x => ∃ y z, S y ∧ T z ∧ x = y + z) (takeR (zi a b).1 (zi a b).2) := by
  refine Tk.lift ?_
  rcases ha with h | ⟨ha, ra⟩
  · exact .inl h
  rcases hb with h | ⟨hb, rb⟩
  · exact .inl h
  exact .inr ((sum_res ha hb).congr fun x => by simp only [ra.2, rb.2])
theorem Tk.shift (k : Int) (ha : Tk L S a) : Tk (takeL L (zD a k).2) (fun x => S (x - k)) (takeR (zD a k).1 (zD a k).2) := by
  refine Tk.lift ?_
  rcases ha with h | ⟨ha, ra⟩
  · exact .inl h
  exact .inr ((shift_res ha).congr fun x => ra.2 _)
theorem Tk.same (ha : Tk L S a) (hb : Tk L T b) (h : ∀ x, S x ↔ T x) : holdsB L (r_Same a b) = true := by
  refine holds_of ?_
  rcases ha with h | ⟨ha, ra⟩
  · exact .inl h
  rcases hb with h | ⟨hb, rb⟩
  · exact .inl h
  exact .inr (same_refl (ra.eq rb h))
/-- Whether all of one is in the other. -/
theorem Tk.within (ha : Tk L S a) (hb : Tk L T b) : L = true ∨ ((ranges_Within a b).1 = true ↔ ∀ x, S x → T x) := by
  rcases ha with h | ⟨ha, ra⟩
  · exact .inl h
  rcases hb with h | ⟨hb, rb⟩
  · exact .inl h
  obtain ⟨z, e, k⟩ := within_ok ha hb
  right
  rw [e]
  simp only [ra.2, rb.2] at k
  exact k
theorem Tk.same_iff (ha : Tk L S a) (hb : Tk L T b) : L = true ∨ (r_Same a b = true ↔ ∀ x, S x ↔ T x) := by
  rcases ha with h | ⟨ha, ra⟩
  · exact .inl h
  rcases hb with h | ⟨hb, rb⟩
  · exact .inl h
  right
  rw [_root_.Go.VS.same_iff]
  constructor
  · intro h x
    rw [← ra.2, ← rb.2, h]
  · exact fun h => ra.eq rb h
end
end Go.VS

