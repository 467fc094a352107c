/- Nothing of a statement is proved in this text alone: it is part 5 of the proof's own tools, an evaluator of the code over deep values, its soundness, and what it makes of this seat's functions. Conditions: none beyond the statement's own. -/
import Derived.Test.YtpkjnefhnedfdaaGreatDoorVsRCAdj4
import Derived.Test.YtpkjnefhnedfdaaGreatDoorRows
import Derived.Test.YtpkjnefhnedfdaaGreatDoorTie
import Derived.WalkKit
import Derived.ProofKit
import Derived.Deep.DeepHandedRow
import Derived.Lib.LaidTab
set_option linter.unusedSimpArgs false
set_option linter.unusedVariables false
namespace Go.VS
open Go Go.Proofs
set_option maxHeartbeats 0
set_option linter.unusedSimpArgs false
set_option linter.unusedVariables false
def sd86 (a : GS S_Span) (b : GS S_Span) (i3p1 : Nat) (x3p1 : S_Span) (i6p2 : Nat) (x6p2 : S_Span) (v6p2_0 : List S_Span) : St := ⟨40, [(22, I ((i6p2 + 1 : Nat) : Int)), (37, I ((i6p2 + 1 : Nat) : Int)), (36, B false), (7, .lsl 1 0 v6p2_0.length 2 none), (35, .lsl 1 0 v6p2_0.length 2 none), (34, .sl (((z8 x3p1 x6p2).1).nl) ((((z8 x3p1 x6p2).1).l).map S_Span.D) (zsl (((z8 x3p1 x6p2).1).nl) 2) none), (33, .lsl 1 0 v6p2_0.length 2 none), (13, B false), (12, .sl (((z8 x3p1 x6p2).1).nl) ((((z8 x3p1 x6p2).1).l).map S_Span.D) (zsl (((z8 x3p1 x6p2).1).nl) 2) none), (32, B false), (31, .sl (((z8 x3p1 x6p2).1).nl) ((((z8 x3p1 x6p2).1).l).map S_Span.D) (zsl (((z8 x3p1 x6p2).1).nl) 2) none), (26, .tup [.sl (((z8 x3p1 x6p2).1).nl) ((((z8 x3p1 x6p2).1).l).map S_Span.D) (zsl (((z8 x3p1 x6p2).1).nl) 2) none, B ((z8 x3p1 x6p2).2)]), (30, .tup [.sl (((z8 x3p1 x6p2).1).nl) ((((z8 x3p1 x6p2).1).l).map S_Span.D) (zsl (((z8 x3p1 x6p2).1).nl) 2) none, B ((z8 x3p1 x6p2).2)]), (29, .agg [I x6p2.lo, I x6p2.hi]), (28, .agg [I x3p1.lo, I x3p1.hi]), (27, .fn (.func 89) [] []), (11, .lref 3 0 2 0), (25, .agg [I x6p2.lo, I x6p2.hi]), (24, .ptr (.agg [I x6p2.lo, I x6p2.hi])), (23, B true), (1, .sl b.nl (b.l.map S_Span.D) (zsl b.nl 2) none), (2, .fn (.func 89) [] []), (7, .lsl 1 0 v6p2_0.length 2 none), (9, .lref 2 0 2 0), (14, .sl a.nl (a.l.map S_Span.D) (zsl a.nl 2) none), (15, I ((a.l.length : Nat) : Int)), (16, I ((i3p1 : Nat) : Int)), (20, .sl b.nl (b.l.map S_Span.D) (zsl b.nl 2) none), (21, I ((b.l.length : Nat) : Int)), (22, I ((i6p2 : Nat) : Int))], [(1, ⟨v6p2_0.map S_Span.D, 2, false⟩), (2, ⟨[.agg [I x3p1.lo, I x3p1.hi]], 2, false⟩), (3, ⟨[.agg [I x6p2.lo, I x6p2.hi]], 2, false⟩)], 4, 1⟩

def sd87 (a : GS S_Span) (b : GS S_Span) (i3p1 : Nat) (x3p1 : S_Span) (i6p2 : Nat) (x6p2 : S_Span) (v6p2_0 : List S_Span) : St := ⟨40, [(22, I ((i6p2 + 1 : Nat) : Int)), (37, I ((i6p2 + 1 : Nat) : Int)), (36, B false), (7, .lsl 4 0 ((v6p2_0 ++ (((z8 x3p1 x6p2).1).l)).length) 2 none), (35, .lsl 4 0 ((v6p2_0 ++ (((z8 x3p1 x6p2).1).l)).length) 2 none), (34, .sl (((z8 x3p1 x6p2).1).nl) ((((z8 x3p1 x6p2).1).l).map S_Span.D) (zsl (((z8 x3p1 x6p2).1).nl) 2) none), (33, .lsl 1 0 v6p2_0.length 2 none), (13, B false), (12, .sl (((z8 x3p1 x6p2).1).nl) ((((z8 x3p1 x6p2).1).l).map S_Span.D) (zsl (((z8 x3p1 x6p2).1).nl) 2) none), (32, B false), (31, .sl (((z8 x3p1 x6p2).1).nl) ((((z8 x3p1 x6p2).1).l).map S_Span.D) (zsl (((z8 x3p1 x6p2).1).nl) 2) none), (26, .tup [.sl (((z8 x3p1 x6p2).1).nl) ((((z8 x3p1 x6p2).1).l).map S_Span.D) (zsl (((z8 x3p1 x6p2).1).nl) 2) none, B ((z8 x3p1 x6p2).2)]), (30, .tup [.sl (((z8 x3p1 x6p2).1).nl) ((((z8 x3p1 x6p2).1).l).map S_Span.D) (zsl (((z8 x3p1 x6p2).1).nl) 2) none, B ((z8 x3p1 x6p2).2)]), (29, .agg [I x6p2.lo, I x6p2.hi]), (28, .agg [I x3p1.lo, I x3p1.hi]), (27, .fn (.func 89) [] []), (11, .lref 3 0 2 0), (25, .agg [I x6p2.lo, I x6p2.hi]), (24, .ptr (.agg [I x6p2.lo, I x6p2.hi])), (23, B true), (1, .sl b.nl (b.l.map S_Span.D) (zsl b.nl 2) none), (2, .fn (.func 89) [] []), (7, .lsl 1 0 v6p2_0.length 2 none), (9, .lref 2 0 2 0), (14, .sl a.nl (a.l.map S_Span.D) (zsl a.nl 2) none), (15, I ((a.l.length : Nat) : Int)), (16, I ((i3p1 : Nat) : Int)), (20, .sl b.nl (b.l.map S_Span.D) (zsl b.nl 2) none), (21, I ((b.l.length : Nat) : Int)), (22, I ((i6p2 : Nat) : Int))], [(2, ⟨[.agg [I x3p1.lo, I x3p1.hi]], 2, false⟩), (3, ⟨[.agg [I x6p2.lo, I x6p2.hi]], 2, false⟩), (4, ⟨(v6p2_0 ++ (((z8 x3p1 x6p2).1).l)).map S_Span.D, 2, false⟩)], 5, 1⟩

inductive LR_ranges_pairs_6p2 where
  | x0 (v6p2_0 : List S_Span)
instance : Inhabited LR_ranges_pairs_6p2 := ⟨.x0 default⟩
def zO (x3p1 : S_Span) : List S_Span → (List S_Span) → LR_ranges_pairs_6p2
  | [], v6p2_0 => .x0 v6p2_0
  | x6p2 :: rest6p2, v6p2_0 =>
    bif (((z8 x3p1 x6p2).1).l).isEmpty then
      zO x3p1 rest6p2 v6p2_0
    else
      zO x3p1 rest6p2 (v6p2_0 ++ (((z8 x3p1 x6p2).1).l))
def lr_ranges_pairs_6p2 (a : GS S_Span) (b : GS S_Span) (i3p1 : Nat) (x3p1 : S_Span) : LR_ranges_pairs_6p2 → Exit × St
  | .x0 v6p2_0 => ((.exit 2), ⟨40, [(23, B false), (1, .sl b.nl (b.l.map S_Span.D) (zsl b.nl 2) none), (2, .fn (.func 89) [] []), (7, .lsl 1 0 v6p2_0.length 2 none), (9, .lref 2 0 2 0), (14, .sl a.nl (a.l.map S_Span.D) (zsl a.nl 2) none), (15, I ((a.l.length : Nat) : Int)), (16, I ((i3p1 : Nat) : Int)), (20, .sl b.nl (b.l.map S_Span.D) (zsl b.nl 2) none), (21, I ((b.l.length : Nat) : Int)), (22, I ((b.l.length : Nat) : Int))], [(1, ⟨v6p2_0.map S_Span.D, 2, false⟩), (2, ⟨[.agg [I x3p1.lo, I x3p1.hi]], 2, false⟩)], 3, 1⟩)
def iv_ranges_pairs_6p2 (a : GS S_Span) (b : GS S_Span) (i3p1 : Nat) (x3p1 : S_Span) : LR_ranges_pairs_6p2 → Prop
  | .x0 v6p2_0 => (v6p2_0.length ≤ 65 * i3p1 + b.l.length)
theorem lp_ranges_pairs_6p2 (a : GS S_Span) (b : GS S_Span) (i3p1 : Nat) (x3p1 : S_Span) : ∀ (rest6p2 : List S_Span) (i6p2 : Nat) (v6p2_0 : List S_Span) (hd6p2 : b.l.drop i6p2 = rest6p2) (hi6p2 : i6p2 ≤ b.l.length) (hb65 : b.l.length ≤ 65) (ho64 : i3p1 < 64) (hg6p2_v6p2_0 : v6p2_0.length ≤ 65 * i3p1 + i6p2) (hL6p2 : b.l.length ≤ 1099511627776), (lim cfg).loop 87 lp87_6 ⟨40, [(1, .sl b.nl (b.l.map S_Span.D) (zsl b.nl 2) none), (2, .fn (.func 89) [] []), (7, .lsl 1 0 v6p2_0.length 2 none), (9, .lref 2 0 2 0), (14, .sl a.nl (a.l.map S_Span.D) (zsl a.nl 2) none), (15, I ((a.l.length : Nat) : Int)), (16, I ((i3p1 : Nat) : Int)), (20, .sl b.nl (b.l.map S_Span.D) (zsl b.nl 2) none), (21, I ((b.l.length : Nat) : Int)), (22, I ((i6p2 : Nat) : Int))], [(1, ⟨v6p2_0.map S_Span.D, 2, false⟩), (2, ⟨[.agg [I x3p1.lo, I x3p1.hi]], 2, false⟩)], 3, 1⟩ = some (lr_ranges_pairs_6p2 a b i3p1 x3p1 (zO x3p1 rest6p2 v6p2_0)) := by
  intro rest6p2
  induction rest6p2 with
  | nil =>
    intro i6p2 v6p2_0 hd6p2 hi6p2 hb65 ho64 hg6p2_v6p2_0 hL6p2
    unfold zO
    obtain rfl : i6p2 = b.l.length := nil_eq hd6p2 hi6p2
    exact po_last [.dec false] (And.intro (lt_no hd6p2) trivial) (by kernel_rfl)
  | cons x6p2 rest6p2 ih =>
    intro i6p2 v6p2_0 hd6p2 hi6p2 hb65 ho64 hg6p2_v6p2_0 hL6p2
    have hlt6p2 := zk hd6p2
    have hlx := difference1_len x3p1 x6p2
    unfold zO
    cases h11 : (((z8 x3p1 x6p2).1).l).isEmpty with
    | true =>
      exact po_turn' (ks := [1, 2, 7, 9, 14, 15, 16, 20, 21, 22]) (st' := (sd86 a b i3p1 x3p1 i6p2 x6p2 v6p2_0)) [.dec true, .el (.agg [I x6p2.lo, I x6p2.hi]), .pure (.tup [.sl (((z8 x3p1 x6p2).1).nl) ((((z8 x3p1 x6p2).1).l).map S_Span.D) (zsl (((z8 x3p1 x6p2).1).nl) 2) none, B ((z8 x3p1 x6p2).2)]), .dec false, .op (some 35) ⟨.lsl 1 0 v6p2_0.length 2 none, [], [], 4⟩, .rw 37 (I ((i6p2 + 1 : Nat) : Int))] (And.intro (inc_rw (i := i6p2) (by have := zk hd6p2; omega)) (And.intro (app_none (te := ty25) (gO := zu [(1, ⟨v6p2_0.map S_Span.D, 2, false⟩), (2, ⟨[.agg [I x3p1.lo, I x3p1.hi]], 2, false⟩), (3, ⟨[.agg [I x6p2.lo, I x6p2.hi]], 2, false⟩)]) (nxt := 4) (f := S_Span.D) (sz := 2) (d := .lsl 1 0 v6p2_0.length 2 none) ((z8 x3p1 x6p2).1) h11 rfl) (And.intro (show ((z8 x3p1 x6p2).2) = false from rfl) (And.intro (T_ranges_Difference_1 x3p1 x6p2) (And.intro (el_at (s := b) (f := S_Span.D) (k := 2) hd6p2) (And.intro (lt_at hd6p2) trivial)))))) (by kernel_rfl) (by (simp only [sd86, go_sem, List.length_set, Nat.reduceAdd, Nat.reduceEqDiff, Nat.reduceLT, Nat.reduceLeDiff, bI2, zg.idsL, zg.renL, zg.snapAll, z7.idsL, z7.renL, z7.snapAll]) <;> rfl) (ih (i6p2 + 1) v6p2_0 (zm hd6p2) (zk hd6p2) (by omega) (by omega) (by omega) (by omega)) (by kernel_rfl)
    | false =>
      exact po_turn' (ks := [1, 2, 7, 9, 14, 15, 16, 20, 21, 22]) (st' := (sd87 a b i3p1 x3p1 i6p2 x6p2 v6p2_0)) [.dec true, .el (.agg [I x6p2.lo, I x6p2.hi]), .pure (.tup [.sl (((z8 x3p1 x6p2).1).nl) ((((z8 x3p1 x6p2).1).l).map S_Span.D) (zsl (((z8 x3p1 x6p2).1).nl) 2) none, B ((z8 x3p1 x6p2).2)]), .dec false, .op (some 35) ⟨.lsl 4 0 ((v6p2_0 ++ (((z8 x3p1 x6p2).1).l)).length) 2 none, [(1, none), (4, some ⟨(v6p2_0 ++ (((z8 x3p1 x6p2).1).l)).map S_Span.D, 2, false⟩)], [1], 5⟩, .rw 37 (I ((i6p2 + 1 : Nat) : Int))] (And.intro (inc_rw (i := i6p2) (by have := zk hd6p2; omega)) (And.intro (app_moreD (te := ty25) (gO := zu [(1, ⟨v6p2_0.map S_Span.D, 2, false⟩), (2, ⟨[.agg [I x3p1.lo, I x3p1.hi]], 2, false⟩), (3, ⟨[.agg [I x6p2.lo, I x6p2.hi]], 2, false⟩)]) (nxt := 4) (o := 1) (v := v6p2_0) z7 ((z8 x3p1 x6p2).1) h11 (by kernel_rfl) rfl (by kernel_rfl) (by decide) ⟨by simp only [ty25, big] <;> (first | assumption | omega | (exact two_bd (by omega) (by omega)) | (exact add_some (by omega)) | (exact add_some' (by omega)) | (exact one_some (by omega)) | (exact one_some' (by omega)) | (simp only [zD] at * <;> omega) | (simp only [zR, GS.some_l, List.length_set, List.length_append, List.length_cons, List.length_nil] at * <;> first | with_reducible assumption | omega) | (simp only [zR, GS.some_l, List.length_set, List.length_append, List.length_cons, List.length_nil, zD] at * <;> first | with_reducible assumption | omega) | (simp at * <;> omega)), by simp only [big] <;> (first | assumption | omega | (exact two_bd (by omega) (by omega)) | (exact add_some (by omega)) | (exact add_some' (by omega)) | (exact one_some (by omega)) | (exact one_some' (by omega)) | (simp only [zD] at * <;> omega) | (simp only [zR, GS.some_l, List.length_set, List.length_append, List.length_cons, List.length_nil] at * <;> first | with_reducible assumption | omega) | (simp only [zR, GS.some_l, List.length_set, List.length_append, List.length_cons, List.length_nil, zD] at * <;> first | with_reducible assumption | omega) | (simp at * <;> omega))⟩) (And.intro (show ((z8 x3p1 x6p2).2) = false from rfl) (And.intro (T_ranges_Difference_1 x3p1 x6p2) (And.intro (el_at (s := b) (f := S_Span.D) (k := 2) hd6p2) (And.intro (lt_at hd6p2) trivial)))))) (by kernel_rfl) (by (simp only [sd87, go_sem, List.length_set, Nat.reduceAdd, Nat.reduceEqDiff, Nat.reduceLT, Nat.reduceLeDiff, bI2, zg.idsL, zg.renL, zg.snapAll, z7.idsL, z7.renL, z7.snapAll]) <;> rfl) (ih (i6p2 + 1) (v6p2_0 ++ (((z8 x3p1 x6p2).1).l)) (zm hd6p2) (zk hd6p2) (by omega) (by omega) (by simp only [List.length_append, List.length_cons, List.length_nil] at * <;> omega) (by omega)) (by kernel_rfl)
theorem ivt_ranges_pairs_6p2 (a : GS S_Span) (b : GS S_Span) (i3p1 : Nat) (x3p1 : S_Span) : ∀ (rest6p2 : List S_Span) (i6p2 : Nat) (v6p2_0 : List S_Span) (hd6p2 : b.l.drop i6p2 = rest6p2) (hi6p2 : i6p2 ≤ b.l.length) (hb65 : b.l.length ≤ 65) (ho64 : i3p1 < 64) (hg6p2_v6p2_0 : v6p2_0.length ≤ 65 * i3p1 + i6p2) (hL6p2 : b.l.length ≤ 1099511627776), iv_ranges_pairs_6p2 a b i3p1 x3p1 (zO x3p1 rest6p2 v6p2_0) := by
  intro rest6p2
  induction rest6p2 with
  | nil =>
    intro i6p2 v6p2_0 hd6p2 hi6p2 hb65 ho64 hg6p2_v6p2_0 hL6p2
    unfold zO
    obtain rfl : i6p2 = b.l.length := nil_eq hd6p2 hi6p2
    exact hg6p2_v6p2_0
  | cons x6p2 rest6p2 ih =>
    intro i6p2 v6p2_0 hd6p2 hi6p2 hb65 ho64 hg6p2_v6p2_0 hL6p2
    have hlt6p2 := zk hd6p2
    have hlx := difference1_len x3p1 x6p2
    unfold zO
    cases h11 : (((z8 x3p1 x6p2).1).l).isEmpty with
    | true =>
      exact ih (i6p2 + 1) v6p2_0 (zm hd6p2) (zk hd6p2) (by omega) (by omega) (by omega) (by omega)
    | false =>
      exact ih (i6p2 + 1) (v6p2_0 ++ (((z8 x3p1 x6p2).1).l)) (zm hd6p2) (zk hd6p2) (by omega) (by omega) (by simp only [List.length_append, List.length_cons, List.length_nil] at * <;> omega) (by omega)

def sd89 (a : GS S_Span) (b : GS S_Span) (i3p1 : Nat) (x3p1 : S_Span) (i6p3 : Nat) (x6p3 : S_Span) (va6p3_0 : List S_Span) : St := ⟨40, [(22, I ((i6p3 + 1 : Nat) : Int)), (37, I ((i6p3 + 1 : Nat) : Int)), (36, B false), (7, .lsl 1 0 va6p3_0.length 2 none), (35, .lsl 1 0 va6p3_0.length 2 none), (34, .sl (((z8 x3p1 x6p3).1).nl) ((((z8 x3p1 x6p3).1).l).map S_Span.D) (zsl (((z8 x3p1 x6p3).1).nl) 2) none), (33, .lsl 1 0 va6p3_0.length 2 none), (13, B false), (12, .sl (((z8 x3p1 x6p3).1).nl) ((((z8 x3p1 x6p3).1).l).map S_Span.D) (zsl (((z8 x3p1 x6p3).1).nl) 2) none), (32, B false), (31, .sl (((z8 x3p1 x6p3).1).nl) ((((z8 x3p1 x6p3).1).l).map S_Span.D) (zsl (((z8 x3p1 x6p3).1).nl) 2) none), (26, .tup [.sl (((z8 x3p1 x6p3).1).nl) ((((z8 x3p1 x6p3).1).l).map S_Span.D) (zsl (((z8 x3p1 x6p3).1).nl) 2) none, B ((z8 x3p1 x6p3).2)]), (30, .tup [.sl (((z8 x3p1 x6p3).1).nl) ((((z8 x3p1 x6p3).1).l).map S_Span.D) (zsl (((z8 x3p1 x6p3).1).nl) 2) none, B ((z8 x3p1 x6p3).2)]), (29, .agg [I x6p3.lo, I x6p3.hi]), (28, .agg [I x3p1.lo, I x3p1.hi]), (27, .fn (.func 89) [] []), (11, .lref 3 0 2 0), (25, .agg [I x6p3.lo, I x6p3.hi]), (24, .ptr (.agg [I x6p3.lo, I x6p3.hi])), (23, B true), (1, .sl b.nl (b.l.map S_Span.D) (zsl b.nl 2) none), (2, .fn (.func 89) [] []), (7, .lsl 1 0 va6p3_0.length 2 none), (9, .lref 2 0 2 0), (14, .sl a.nl (a.l.map S_Span.D) (zsl a.nl 2) none), (15, I ((a.l.length : Nat) : Int)), (16, I ((i3p1 : Nat) : Int)), (20, .sl b.nl (b.l.map S_Span.D) (zsl b.nl 2) none), (21, I ((b.l.length : Nat) : Int)), (22, I ((i6p3 : Nat) : Int))], [(1, ⟨va6p3_0.map S_Span.D, 2, false⟩), (2, ⟨[.agg [I x3p1.lo, I x3p1.hi]], 2, false⟩), (3, ⟨[.agg [I x6p3.lo, I x6p3.hi]], 2, false⟩)], 4, 1⟩

def sd90 (a : GS S_Span) (b : GS S_Span) (i3p1 : Nat) (x3p1 : S_Span) (i6p3 : Nat) (x6p3 : S_Span) (va6p3_0 : List S_Span) : St := ⟨40, [(22, I ((i6p3 + 1 : Nat) : Int)), (37, I ((i6p3 + 1 : Nat) : Int)), (36, B false), (7, .lsl 4 0 ((va6p3_0 ++ (((z8 x3p1 x6p3).1).l)).length) 2 none), (35, .lsl 4 0 ((va6p3_0 ++ (((z8 x3p1 x6p3).1).l)).length) 2 none), (34, .sl (((z8 x3p1 x6p3).1).nl) ((((z8 x3p1 x6p3).1).l).map S_Span.D) (zsl (((z8 x3p1 x6p3).1).nl) 2) none), (33, .lsl 1 0 va6p3_0.length 2 none), (13, B false), (12, .sl (((z8 x3p1 x6p3).1).nl) ((((z8 x3p1 x6p3).1).l).map S_Span.D) (zsl (((z8 x3p1 x6p3).1).nl) 2) none), (32, B false), (31, .sl (((z8 x3p1 x6p3).1).nl) ((((z8 x3p1 x6p3).1).l).map S_Span.D) (zsl (((z8 x3p1 x6p3).1).nl) 2) none), (26, .tup [.sl (((z8 x3p1 x6p3).1).nl) ((((z8 x3p1 x6p3).1).l).map S_Span.D) (zsl (((z8 x3p1 x6p3).1).nl) 2) none, B ((z8 x3p1 x6p3).2)]), (30, .tup [.sl (((z8 x3p1 x6p3).1).nl) ((((z8 x3p1 x6p3).1).l).map S_Span.D) (zsl (((z8 x3p1 x6p3).1).nl) 2) none, B ((z8 x3p1 x6p3).2)]), (29, .agg [I x6p3.lo, I x6p3.hi]), (28, .agg [I x3p1.lo, I x3p1.hi]), (27, .fn (.func 89) [] []), (11, .lref 3 0 2 0), (25, .agg [I x6p3.lo, I x6p3.hi]), (24, .ptr (.agg [I x6p3.lo, I x6p3.hi])), (23, B true), (1, .sl b.nl (b.l.map S_Span.D) (zsl b.nl 2) none), (2, .fn (.func 89) [] []), (7, .lsl 1 0 va6p3_0.length 2 none), (9, .lref 2 0 2 0), (14, .sl a.nl (a.l.map S_Span.D) (zsl a.nl 2) none), (15, I ((a.l.length : Nat) : Int)), (16, I ((i3p1 : Nat) : Int)), (20, .sl b.nl (b.l.map S_Span.D) (zsl b.nl 2) none), (21, I ((b.l.length : Nat) : Int)), (22, I ((i6p3 : Nat) : Int))], [(2, ⟨[.agg [I x3p1.lo, I x3p1.hi]], 2, false⟩), (3, ⟨[.agg [I x6p3.lo, I x6p3.hi]], 2, false⟩), (4, ⟨(va6p3_0 ++ (((z8 x3p1 x6p3).1).l)).map S_Span.D, 2, false⟩)], 5, 1⟩

def sd91 (a : GS S_Span) (b : GS S_Span) (i3p1 : Nat) (x3p1 : S_Span) (i6p3 : Nat) (x6p3 : S_Span) : St := ⟨40, [(22, I ((i6p3 + 1 : Nat) : Int)), (37, I ((i6p3 + 1 : Nat) : Int)), (36, B false), (7, .lsl 3 0 ((((z8 x3p1 x6p3).1).l).length) 2 none), (35, .lsl 3 0 ((((z8 x3p1 x6p3).1).l).length) 2 none), (34, .sl (((z8 x3p1 x6p3).1).nl) ((((z8 x3p1 x6p3).1).l).map S_Span.D) (zsl (((z8 x3p1 x6p3).1).nl) 2) none), (33, .sl true [] 0 none), (13, B false), (12, .sl (((z8 x3p1 x6p3).1).nl) ((((z8 x3p1 x6p3).1).l).map S_Span.D) (zsl (((z8 x3p1 x6p3).1).nl) 2) none), (32, B false), (31, .sl (((z8 x3p1 x6p3).1).nl) ((((z8 x3p1 x6p3).1).l).map S_Span.D) (zsl (((z8 x3p1 x6p3).1).nl) 2) none), (26, .tup [.sl (((z8 x3p1 x6p3).1).nl) ((((z8 x3p1 x6p3).1).l).map S_Span.D) (zsl (((z8 x3p1 x6p3).1).nl) 2) none, B ((z8 x3p1 x6p3).2)]), (30, .tup [.sl (((z8 x3p1 x6p3).1).nl) ((((z8 x3p1 x6p3).1).l).map S_Span.D) (zsl (((z8 x3p1 x6p3).1).nl) 2) none, B ((z8 x3p1 x6p3).2)]), (29, .agg [I x6p3.lo, I x6p3.hi]), (28, .agg [I x3p1.lo, I x3p1.hi]), (27, .fn (.func 89) [] []), (11, .lref 2 0 2 0), (25, .agg [I x6p3.lo, I x6p3.hi]), (24, .ptr (.agg [I x6p3.lo, I x6p3.hi])), (23, B true), (1, .sl b.nl (b.l.map S_Span.D) (zsl b.nl 2) none), (2, .fn (.func 89) [] []), (7, .sl true [] 0 none), (9, .lref 1 0 2 0), (14, .sl a.nl (a.l.map S_Span.D) (zsl a.nl 2) none), (15, I ((a.l.length : Nat) : Int)), (16, I ((i3p1 : Nat) : Int)), (20, .sl b.nl (b.l.map S_Span.D) (zsl b.nl 2) none), (21, I ((b.l.length : Nat) : Int)), (22, I ((i6p3 : Nat) : Int))], [(1, ⟨[.agg [I x3p1.lo, I x3p1.hi]], 2, false⟩), (2, ⟨[.agg [I x6p3.lo, I x6p3.hi]], 2, false⟩), (3, ⟨(((z8 x3p1 x6p3).1).l).map S_Span.D, 2, false⟩)], 4, 1⟩

inductive LR_ranges_pairs_6p3 where
  | x0 (va6p3_0 : List S_Span)
  | x1
instance : Inhabited LR_ranges_pairs_6p3 := ⟨.x0 default⟩
def zU (x3p1 : S_Span) : List S_Span → (List S_Span) → LR_ranges_pairs_6p3
  | [], va6p3_0 => .x0 va6p3_0
  | x6p3 :: rest6p3, va6p3_0 =>
    bif (((z8 x3p1 x6p3).1).l).isEmpty then
      zU x3p1 rest6p3 va6p3_0
    else
      zU x3p1 rest6p3 (va6p3_0 ++ (((z8 x3p1 x6p3).1).l))
def ranges_pairs_6p3 (x3p1 : S_Span) : List S_Span → LR_ranges_pairs_6p3
  | [] => .x1
  | x6p3 :: rest6p3 =>
    bif (((z8 x3p1 x6p3).1).l).isEmpty then
      ranges_pairs_6p3 x3p1 rest6p3
    else
      zU x3p1 rest6p3 (((z8 x3p1 x6p3).1).l)
def lr_ranges_pairs_6p3 (a : GS S_Span) (b : GS S_Span) (i3p1 : Nat) (x3p1 : S_Span) : LR_ranges_pairs_6p3 → Exit × St
  | .x0 va6p3_0 => ((.exit 2), ⟨40, [(23, B false), (1, .sl b.nl (b.l.map S_Span.D) (zsl b.nl 2) none), (2, .fn (.func 89) [] []), (7, .lsl 1 0 va6p3_0.length 2 none), (9, .lref 2 0 2 0), (14, .sl a.nl (a.l.map S_Span.D) (zsl a.nl 2) none), (15, I ((a.l.length : Nat) : Int)), (16, I ((i3p1 : Nat) : Int)), (20, .sl b.nl (b.l.map S_Span.D) (zsl b.nl 2) none), (21, I ((b.l.length : Nat) : Int)), (22, I ((b.l.length : Nat) : Int))], [(1, ⟨va6p3_0.map S_Span.D, 2, false⟩), (2, ⟨[.agg [I x3p1.lo, I x3p1.hi]], 2, false⟩)], 3, 1⟩)
  | .x1 => ((.exit 2), ⟨40, [(23, B false), (1, .sl b.nl (b.l.map S_Span.D) (zsl b.nl 2) none), (2, .fn (.func 89) [] []), (7, .sl true [] 0 none), (9, .lref 1 0 2 0), (14, .sl a.nl (a.l.map S_Span.D) (zsl a.nl 2) none), (15, I ((a.l.length : Nat) : Int)), (16, I ((i3p1 : Nat) : Int)), (20, .sl b.nl (b.l.map S_Span.D) (zsl b.nl 2) none), (21, I ((b.l.length : Nat) : Int)), (22, I ((b.l.length : Nat) : Int))], [(1, ⟨[.agg [I x3p1.lo, I x3p1.hi]], 2, false⟩)], 2, 1⟩)
def iv_ranges_pairs_6p3 (a : GS S_Span) (b : GS S_Span) (i3p1 : Nat) (x3p1 : S_Span) : LR_ranges_pairs_6p3 → Prop
  | .x0 va6p3_0 => (va6p3_0.length ≤ 65 * i3p1 + b.l.length)
  | .x1 => True
theorem lp_ranges_pairs_6p3a (a : GS S_Span) (b : GS S_Span) (i3p1 : Nat) (x3p1 : S_Span) : ∀ (rest6p3 : List S_Span) (i6p3 : Nat) (va6p3_0 : List S_Span) (hd6p3 : b.l.drop i6p3 = rest6p3) (hi6p3 : i6p3 ≤ b.l.length) (hb65 : b.l.length ≤ 65) (ho64 : i3p1 < 64) (hg6p3_va6p3_0 : va6p3_0.length ≤ 65 * i3p1 + i6p3) (hL6p3 : b.l.length ≤ 1099511627776), (lim cfg).loop 87 lp87_6 ⟨40, [(1, .sl b.nl (b.l.map S_Span.D) (zsl b.nl 2) none), (2, .fn (.func 89) [] []), (7, .lsl 1 0 va6p3_0.length 2 none), (9, .lref 2 0 2 0), (14, .sl a.nl (a.l.map S_Span.D) (zsl a.nl 2) none), (15, I ((a.l.length : Nat) : Int)), (16, I ((i3p1 : Nat) : Int)), (20, .sl b.nl (b.l.map S_Span.D) (zsl b.nl 2) none), (21, I ((b.l.length : Nat) : Int)), (22, I ((i6p3 : Nat) : Int))], [(1, ⟨va6p3_0.map S_Span.D, 2, false⟩), (2, ⟨[.agg [I x3p1.lo, I x3p1.hi]], 2, false⟩)], 3, 1⟩ = some (lr_ranges_pairs_6p3 a b i3p1 x3p1 (zU x3p1 rest6p3 va6p3_0)) := by
  intro rest6p3
  induction rest6p3 with
  | nil =>
    intro i6p3 va6p3_0 hd6p3 hi6p3 hb65 ho64 hg6p3_va6p3_0 hL6p3
    unfold zU
    obtain rfl : i6p3 = b.l.length := nil_eq hd6p3 hi6p3
    exact po_last [.dec false] (And.intro (lt_no hd6p3) trivial) (by kernel_rfl)
  | cons x6p3 rest6p3 ih =>
    intro i6p3 va6p3_0 hd6p3 hi6p3 hb65 ho64 hg6p3_va6p3_0 hL6p3
    have hlt6p3 := zk hd6p3
    have hlx := difference1_len x3p1 x6p3
    unfold zU
    cases h15 : (((z8 x3p1 x6p3).1).l).isEmpty with
    | true =>
      exact po_turn' (ks := [1, 2, 7, 9, 14, 15, 16, 20, 21, 22]) (st' := (sd89 a b i3p1 x3p1 i6p3 x6p3 va6p3_0)) [.dec true, .el (.agg [I x6p3.lo, I x6p3.hi]), .pure (.tup [.sl (((z8 x3p1 x6p3).1).nl) ((((z8 x3p1 x6p3).1).l).map S_Span.D) (zsl (((z8 x3p1 x6p3).1).nl) 2) none, B ((z8 x3p1 x6p3).2)]), .dec false, .op (some 35) ⟨.lsl 1 0 va6p3_0.length 2 none, [], [], 4⟩, .rw 37 (I ((i6p3 + 1 : Nat) : Int))] (And.intro (inc_rw (i := i6p3) (by have := zk hd6p3; omega)) (And.intro (app_none (te := ty25) (gO := zu [(1, ⟨va6p3_0.map S_Span.D, 2, false⟩), (2, ⟨[.agg [I x3p1.lo, I x3p1.hi]], 2, false⟩), (3, ⟨[.agg [I x6p3.lo, I x6p3.hi]], 2, false⟩)]) (nxt := 4) (f := S_Span.D) (sz := 2) (d := .lsl 1 0 va6p3_0.length 2 none) ((z8 x3p1 x6p3).1) h15 rfl) (And.intro (show ((z8 x3p1 x6p3).2) = false from rfl) (And.intro (T_ranges_Difference_1 x3p1 x6p3) (And.intro (el_at (s := b) (f := S_Span.D) (k := 2) hd6p3) (And.intro (lt_at hd6p3) trivial)))))) (by kernel_rfl) (by (simp only [sd89, go_sem, List.length_set, Nat.reduceAdd, Nat.reduceEqDiff, Nat.reduceLT, Nat.reduceLeDiff, bI2, zg.idsL, zg.renL, zg.snapAll, z7.idsL, z7.renL, z7.snapAll]) <;> rfl) (ih (i6p3 + 1) va6p3_0 (zm hd6p3) (zk hd6p3) (by omega) (by omega) (by omega) (by omega)) (by kernel_rfl)
    | false =>
      exact po_turn' (ks := [1, 2, 7, 9, 14, 15, 16, 20, 21, 22]) (st' := (sd90 a b i3p1 x3p1 i6p3 x6p3 va6p3_0)) [.dec true, .el (.agg [I x6p3.lo, I x6p3.hi]), .pure (.tup [.sl (((z8 x3p1 x6p3).1).nl) ((((z8 x3p1 x6p3).1).l).map S_Span.D) (zsl (((z8 x3p1 x6p3).1).nl) 2) none, B ((z8 x3p1 x6p3).2)]), .dec false, .op (some 35) ⟨.lsl 4 0 ((va6p3_0 ++ (((z8 x3p1 x6p3).1).l)).length) 2 none, [(1, none), (4, some ⟨(va6p3_0 ++ (((z8 x3p1 x6p3).1).l)).map S_Span.D, 2, false⟩)], [1], 5⟩, .rw 37 (I ((i6p3 + 1 : Nat) : Int))] (And.intro (inc_rw (i := i6p3) (by have := zk hd6p3; omega)) (And.intro (app_moreD (te := ty25) (gO := zu [(1, ⟨va6p3_0.map S_Span.D, 2, false⟩), (2, ⟨[.agg [I x3p1.lo, I x3p1.hi]], 2, false⟩), (3, ⟨[.agg [I x6p3.lo, I x6p3.hi]], 2, false⟩)]) (nxt := 4) (o := 1) (v := va6p3_0) z7 ((z8 x3p1 x6p3).1) h15 (by kernel_rfl) rfl (by kernel_rfl) (by decide) ⟨by simp only [ty25, big] <;> (first | assumption | omega | (exact two_bd (by omega) (by omega)) | (exact add_some (by omega)) | (exact add_some' (by omega)) | (exact one_some (by omega)) | (exact one_some' (by omega)) | (simp only [zD] at * <;> omega) | (simp only [zR, GS.some_l, List.length_set, List.length_append, List.length_cons, List.length_nil] at * <;> first | with_reducible assumption | omega) | (simp only [zR, GS.some_l, List.length_set, List.length_append, List.length_cons, List.length_nil, zD] at * <;> first | with_reducible assumption | omega) | (simp at * <;> omega)), by simp only [big] <;> (first | assumption | omega | (exact two_bd (by omega) (by omega)) | (exact add_some (by omega)) | (exact add_some' (by omega)) | (exact one_some (by omega)) | (exact one_some' (by omega)) | (simp only [zD] at * <;> omega) | (simp only [zR, GS.some_l, List.length_set, List.length_append, List.length_cons, List.length_nil] at * <;> first | with_reducible assumption | omega) | (simp only [zR, GS.some_l, List.length_set, List.length_append, List.length_cons, List.length_nil, zD] at * <;> first | with_reducible assumption | omega) | (simp at * <;> omega))⟩) (And.intro (show ((z8 x3p1 x6p3).2) = false from rfl) (And.intro (T_ranges_Difference_1 x3p1 x6p3) (And.intro (el_at (s := b) (f := S_Span.D) (k := 2) hd6p3) (And.intro (lt_at hd6p3) trivial)))))) (by kernel_rfl) (by (simp only [sd90, go_sem, List.length_set, Nat.reduceAdd, Nat.reduceEqDiff, Nat.reduceLT, Nat.reduceLeDiff, bI2, zg.idsL, zg.renL, zg.snapAll, z7.idsL, z7.renL, z7.snapAll]) <;> rfl) (ih (i6p3 + 1) (va6p3_0 ++ (((z8 x3p1 x6p3).1).l)) (zm hd6p3) (zk hd6p3) (by omega) (by omega) (by simp only [List.length_append, List.length_cons, List.length_nil] at * <;> omega) (by omega)) (by kernel_rfl)
theorem ivt_ranges_pairs_6p3a (a : GS S_Span) (b : GS S_Span) (i3p1 : Nat) (x3p1 : S_Span) : ∀ (rest6p3 : List S_Span) (i6p3 : Nat) (va6p3_0 : List S_Span) (hd6p3 : b.l.drop i6p3 = rest6p3) (hi6p3 : i6p3 ≤ b.l.length) (hb65 : b.l.length ≤ 65) (ho64 : i3p1 < 64) (hg6p3_va6p3_0 : va6p3_0.length ≤ 65 * i3p1 + i6p3) (hL6p3 : b.l.length ≤ 1099511627776), iv_ranges_pairs_6p3 a b i3p1 x3p1 (zU x3p1 rest6p3 va6p3_0) := by
  intro rest6p3
  induction rest6p3 with
  | nil =>
    intro i6p3 va6p3_0 hd6p3 hi6p3 hb65 ho64 hg6p3_va6p3_0 hL6p3
    unfold zU
    obtain rfl : i6p3 = b.l.length := nil_eq hd6p3 hi6p3
    exact hg6p3_va6p3_0
  | cons x6p3 rest6p3 ih =>
    intro i6p3 va6p3_0 hd6p3 hi6p3 hb65 ho64 hg6p3_va6p3_0 hL6p3
    have hlt6p3 := zk hd6p3
    have hlx := difference1_len x3p1 x6p3
    unfold zU
    cases h15 : (((z8 x3p1 x6p3).1).l).isEmpty with
    | true =>
      exact ih (i6p3 + 1) va6p3_0 (zm hd6p3) (zk hd6p3) (by omega) (by omega) (by omega) (by omega)
    | false =>
      exact ih (i6p3 + 1) (va6p3_0 ++ (((z8 x3p1 x6p3).1).l)) (zm hd6p3) (zk hd6p3) (by omega) (by omega) (by simp only [List.length_append, List.length_cons, List.length_nil] at * <;> omega) (by omega)
theorem lp_ranges_pairs_6p3 (a : GS S_Span) (b : GS S_Span) (i3p1 : Nat) (x3p1 : S_Span) : ∀ (rest6p3 : List S_Span) (i6p3 : Nat) (hd6p3 : b.l.drop i6p3 = rest6p3) (hi6p3 : i6p3 ≤ b.l.length) (hb65 : b.l.length ≤ 65) (ho64 : i3p1 < 64) (hL6p3 : b.l.length ≤ 1099511627776), (lim cfg).loop 87 lp87_6 ⟨40, [(1, .sl b.nl (b.l.map S_Span.D) (zsl b.nl 2) none), (2, .fn (.func 89) [] []), (7, .sl true [] 0 none), (9, .lref 1 0 2 0), (14, .sl a.nl (a.l.map S_Span.D) (zsl a.nl 2) none), (15, I ((a.l.length : Nat) : Int)), (16, I ((i3p1 : Nat) : Int)), (20, .sl b.nl (b.l.map S_Span.D) (zsl b.nl 2) none), (21, I ((b.l.length : Nat) : Int)), (22, I ((i6p3 : Nat) : Int))], [(1, ⟨[.agg [I x3p1.lo, I x3p1.hi]], 2, false⟩)], 2, 1⟩ = some (lr_ranges_pairs_6p3 a b i3p1 x3p1 (ranges_pairs_6p3 x3p1 rest6p3)) := by
  intro rest6p3
  induction rest6p3 with
  | nil =>
    intro i6p3 hd6p3 hi6p3 hb65 ho64 hL6p3
    unfold ranges_pairs_6p3
    obtain rfl : i6p3 = b.l.length := nil_eq hd6p3 hi6p3
    exact po_last [.dec false] (And.intro (lt_no hd6p3) trivial) (by kernel_rfl)
  | cons x6p3 rest6p3 ih =>
    intro i6p3 hd6p3 hi6p3 hb65 ho64 hL6p3
    have hlt6p3 := zk hd6p3
    have hlx := difference1_len x3p1 x6p3
    unfold ranges_pairs_6p3
    cases h16 : (((z8 x3p1 x6p3).1).l).isEmpty with
    | true =>
      exact po_turn [.dec true, .el (.agg [I x6p3.lo, I x6p3.hi]), .pure (.tup [.sl (((z8 x3p1 x6p3).1).nl) ((((z8 x3p1 x6p3).1).l).map S_Span.D) (zsl (((z8 x3p1 x6p3).1).nl) 2) none, B ((z8 x3p1 x6p3).2)]), .dec false, .op (some 35) ⟨.sl true [] 0 none, [], [], 3⟩, .rw 37 (I ((i6p3 + 1 : Nat) : Int))] (And.intro (inc_rw (i := i6p3) (by have := zk hd6p3; omega)) (And.intro (app_none (te := ty25) (gO := zu [(1, ⟨[.agg [I x3p1.lo, I x3p1.hi]], 2, false⟩), (2, ⟨[.agg [I x6p3.lo, I x6p3.hi]], 2, false⟩)]) (nxt := 3) (f := S_Span.D) (sz := 2) (d := .sl true [] 0 none) ((z8 x3p1 x6p3).1) h16 rfl) (And.intro (show ((z8 x3p1 x6p3).2) = false from rfl) (And.intro (T_ranges_Difference_1 x3p1 x6p3) (And.intro (el_at (s := b) (f := S_Span.D) (k := 2) hd6p3) (And.intro (lt_at hd6p3) trivial)))))) (ih (i6p3 + 1) (zm hd6p3) (zk hd6p3) (by omega) (by omega) (by omega)) (by kernel_rfl)
    | false =>
      exact po_turn' (ks := [1, 2, 7, 9, 14, 15, 16, 20, 21, 22]) (st' := (sd91 a b i3p1 x3p1 i6p3 x6p3)) [.dec true, .el (.agg [I x6p3.lo, I x6p3.hi]), .pure (.tup [.sl (((z8 x3p1 x6p3).1).nl) ((((z8 x3p1 x6p3).1).l).map S_Span.D) (zsl (((z8 x3p1 x6p3).1).nl) 2) none, B ((z8 x3p1 x6p3).2)]), .dec false, .op (some 35) ⟨.lsl 3 0 ((((z8 x3p1 x6p3).1).l).length) 2 none, [(3, some ⟨(((z8 x3p1 x6p3).1).l).map S_Span.D, 2, false⟩)], [], 4⟩, .rw 37 (I ((i6p3 + 1 : Nat) : Int))] (And.intro (inc_rw (i := i6p3) (by have := zk hd6p3; omega)) (And.intro (app_newD (te := ty25) (gO := zu [(1, ⟨[.agg [I x3p1.lo, I x3p1.hi]], 2, false⟩), (2, ⟨[.agg [I x6p3.lo, I x6p3.hi]], 2, false⟩)]) (nxt := 3) (els0 := []) (sz0 := 0) (cap0 := none) z7 ((z8 x3p1 x6p3).1) h16 rfl (by kernel_rfl) (by decide) ⟨by simp only [ty25, big] <;> (first | assumption | omega | (exact two_bd (by omega) (by omega)) | (exact add_some (by omega)) | (exact add_some' (by omega)) | (exact one_some (by omega)) | (exact one_some' (by omega)) | (simp only [zD] at * <;> omega) | (simp only [zR, GS.some_l, List.length_set, List.length_append, List.length_cons, List.length_nil] at * <;> first | with_reducible assumption | omega) | (simp only [zR, GS.some_l, List.length_set, List.length_append, List.length_cons, List.length_nil, zD] at * <;> first | with_reducible assumption | omega) | (simp at * <;> omega)), by simp only [big] <;> (first | assumption | omega | (exact two_bd (by omega) (by omega)) | (exact add_some (by omega)) | (exact add_some' (by omega)) | (exact one_some (by omega)) | (exact one_some' (by omega)) | (simp only [zD] at * <;> omega) | (simp only [zR, GS.some_l, List.length_set, List.length_append, List.length_cons, List.length_nil] at * <;> first | with_reducible assumption | omega) | (simp only [zR, GS.some_l, List.length_set, List.length_append, List.length_cons, List.length_nil, zD] at * <;> first | with_reducible assumption | omega) | (simp at * <;> omega))⟩) (And.intro (show ((z8 x3p1 x6p3).2) = false from rfl) (And.intro (T_ranges_Difference_1 x3p1 x6p3) (And.intro (el_at (s := b) (f := S_Span.D) (k := 2) hd6p3) (And.intro (lt_at hd6p3) trivial)))))) (by kernel_rfl) (by (simp only [sd91, go_sem, List.length_set, Nat.reduceAdd, Nat.reduceEqDiff, Nat.reduceLT, Nat.reduceLeDiff, bI2, zg.idsL, zg.renL, zg.snapAll, z7.idsL, z7.renL, z7.snapAll]) <;> rfl) (lp_ranges_pairs_6p3a a b i3p1 x3p1 _ (i6p3 + 1) (((z8 x3p1 x6p3).1).l) (zm hd6p3) (zk hd6p3) (by omega) (by omega) (by omega) (by omega)) (by kernel_rfl)
theorem ivt_ranges_pairs_6p3 (a : GS S_Span) (b : GS S_Span) (i3p1 : Nat) (x3p1 : S_Span) : ∀ (rest6p3 : List S_Span) (i6p3 : Nat) (hd6p3 : b.l.drop i6p3 = rest6p3) (hi6p3 : i6p3 ≤ b.l.length) (hb65 : b.l.length ≤ 65) (ho64 : i3p1 < 64) (hL6p3 : b.l.length ≤ 1099511627776), iv_ranges_pairs_6p3 a b i3p1 x3p1 (ranges_pairs_6p3 x3p1 rest6p3) := by
  intro rest6p3
  induction rest6p3 with
  | nil =>
    intro i6p3 hd6p3 hi6p3 hb65 ho64 hL6p3
    unfold ranges_pairs_6p3
    obtain rfl : i6p3 = b.l.length := nil_eq hd6p3 hi6p3
    exact trivial
  | cons x6p3 rest6p3 ih =>
    intro i6p3 hd6p3 hi6p3 hb65 ho64 hL6p3
    have hlt6p3 := zk hd6p3
    have hlx := difference1_len x3p1 x6p3
    unfold ranges_pairs_6p3
    cases h16 : (((z8 x3p1 x6p3).1).l).isEmpty with
    | true =>
      exact ih (i6p3 + 1) (zm hd6p3) (zk hd6p3) (by omega) (by omega) (by omega)
    | false =>
      exact ivt_ranges_pairs_6p3a a b i3p1 x3p1 _ (i6p3 + 1) (((z8 x3p1 x6p3).1).l) (zm hd6p3) (zk hd6p3) (by omega) (by omega) (by omega) (by omega)

def sd93 (a : GS S_Span) (b : GS S_Span) (i3p1 : Nat) (x3p1 : S_Span) (v6p2_0 : List S_Span) : St := ⟨40, [(16, I ((i3p1 + 1 : Nat) : Int)), (38, I ((i3p1 + 1 : Nat) : Int)), (23, B false), (1, .sl b.nl (b.l.map S_Span.D) (zsl b.nl 2) none), (2, .fn (.func 89) [] []), (7, .lsl 1 0 v6p2_0.length 2 none), (9, .lref 2 0 2 0), (14, .sl a.nl (a.l.map S_Span.D) (zsl a.nl 2) none), (15, I ((a.l.length : Nat) : Int)), (16, I ((i3p1 : Nat) : Int)), (20, .sl b.nl (b.l.map S_Span.D) (zsl b.nl 2) none), (21, I ((b.l.length : Nat) : Int)), (22, I ((b.l.length : Nat) : Int))], [(1, ⟨v6p2_0.map S_Span.D, 2, false⟩), (2, ⟨[.agg [I x3p1.lo, I x3p1.hi]], 2, false⟩)], 3, 1⟩

def sd84 (a : GS S_Span) (b : GS S_Span) (i3p1 : Nat) (x3p1 : S_Span) (va3p1_0 : List S_Span) : St := ⟨40, [(1, .sl b.nl (b.l.map S_Span.D) (zsl b.nl 2) none), (2, .fn (.func 89) [] []), (7, .lsl 1 0 va3p1_0.length 2 none), (9, .lref 2 0 2 0), (14, .sl a.nl (a.l.map S_Span.D) (zsl a.nl 2) none), (15, I ((a.l.length : Nat) : Int)), (16, I ((i3p1 : Nat) : Int)), (20, .sl b.nl (b.l.map S_Span.D) (zsl b.nl 2) none), (21, I ((b.l.length : Nat) : Int)), (22, I 0)], [(1, ⟨va3p1_0.map S_Span.D, 2, false⟩), (2, ⟨[.agg [I x3p1.lo, I x3p1.hi]], 2, false⟩)], 3, 1⟩

def sd88 (a : GS S_Span) (b : GS S_Span) (i3p1 : Nat) (x3p1 : S_Span) (v6p2_0 : List S_Span) : St := ⟨40, [(23, B false), (1, .sl b.nl (b.l.map S_Span.D) (zsl b.nl 2) none), (2, .fn (.func 89) [] []), (7, .lsl 1 0 v6p2_0.length 2 none), (9, .lref 2 0 2 0), (14, .sl a.nl (a.l.map S_Span.D) (zsl a.nl 2) none), (15, I ((a.l.length : Nat) : Int)), (16, I ((i3p1 : Nat) : Int)), (20, .sl b.nl (b.l.map S_Span.D) (zsl b.nl 2) none), (21, I ((b.l.length : Nat) : Int)), (22, I ((b.l.length : Nat) : Int))], [(1, ⟨v6p2_0.map S_Span.D, 2, false⟩), (2, ⟨[.agg [I x3p1.lo, I x3p1.hi]], 2, false⟩)], 3, 1⟩

def sd83 (a : GS S_Span) (b : GS S_Span) (i3p1 : Nat) (x3p1 : S_Span) (va3p1_0 : List S_Span) : St := ⟨40, [(22, I 0), (21, I ((b.l.length : Nat) : Int)), (20, .sl b.nl (b.l.map S_Span.D) (zsl b.nl 2) none), (9, .lref 2 0 2 0), (19, .agg [I x3p1.lo, I x3p1.hi]), (18, .ptr (.agg [I x3p1.lo, I x3p1.hi])), (17, B true), (1, .sl b.nl (b.l.map S_Span.D) (zsl b.nl 2) none), (2, .fn (.func 89) [] []), (7, .lsl 1 0 va3p1_0.length 2 none), (14, .sl a.nl (a.l.map S_Span.D) (zsl a.nl 2) none), (15, I ((a.l.length : Nat) : Int)), (16, I ((i3p1 : Nat) : Int))], [(1, ⟨va3p1_0.map S_Span.D, 2, false⟩), (2, ⟨[.agg [I x3p1.lo, I x3p1.hi]], 2, false⟩)], 3, 1⟩

def sd94 (a : GS S_Span) (b : GS S_Span) (i3p1 : Nat) (x3p1 : S_Span) (va6p3_0 : List S_Span) : St := ⟨40, [(16, I ((i3p1 + 1 : Nat) : Int)), (38, I ((i3p1 + 1 : Nat) : Int)), (23, B false), (1, .sl b.nl (b.l.map S_Span.D) (zsl b.nl 2) none), (2, .fn (.func 89) [] []), (7, .lsl 1 0 va6p3_0.length 2 none), (9, .lref 2 0 2 0), (14, .sl a.nl (a.l.map S_Span.D) (zsl a.nl 2) none), (15, I ((a.l.length : Nat) : Int)), (16, I ((i3p1 : Nat) : Int)), (20, .sl b.nl (b.l.map S_Span.D) (zsl b.nl 2) none), (21, I ((b.l.length : Nat) : Int)), (22, I ((b.l.length : Nat) : Int))], [(1, ⟨va6p3_0.map S_Span.D, 2, false⟩), (2, ⟨[.agg [I x3p1.lo, I x3p1.hi]], 2, false⟩)], 3, 1⟩

def sd92 (a : GS S_Span) (b : GS S_Span) (i3p1 : Nat) (x3p1 : S_Span) (va6p3_0 : List S_Span) : St := ⟨40, [(23, B false), (1, .sl b.nl (b.l.map S_Span.D) (zsl b.nl 2) none), (2, .fn (.func 89) [] []), (7, .lsl 1 0 va6p3_0.length 2 none), (9, .lref 2 0 2 0), (14, .sl a.nl (a.l.map S_Span.D) (zsl a.nl 2) none), (15, I ((a.l.length : Nat) : Int)), (16, I ((i3p1 : Nat) : Int)), (20, .sl b.nl (b.l.map S_Span.D) (zsl b.nl 2) none), (21, I ((b.l.length : Nat) : Int)), (22, I ((b.l.length : Nat) : Int))], [(1, ⟨va6p3_0.map S_Span.D, 2, false⟩), (2, ⟨[.agg [I x3p1.lo, I x3p1.hi]], 2, false⟩)], 3, 1⟩

def sd80 (a : GS S_Span) (b : GS S_Span) (i3p1 : Nat) (x3p1 : S_Span) : St := ⟨40, [(23, B false), (1, .sl b.nl (b.l.map S_Span.D) (zsl b.nl 2) none), (2, .fn (.func 89) [] []), (7, .sl true [] 0 none), (9, .lref 1 0 2 0), (14, .sl a.nl (a.l.map S_Span.D) (zsl a.nl 2) none), (15, I ((a.l.length : Nat) : Int)), (16, I ((i3p1 : Nat) : Int)), (20, .sl b.nl (b.l.map S_Span.D) (zsl b.nl 2) none), (21, I ((b.l.length : Nat) : Int)), (22, I ((b.l.length : Nat) : Int))], [(1, ⟨[.agg [I x3p1.lo, I x3p1.hi]], 2, false⟩)], 2, 1⟩

inductive LR_ranges_pairs_3p1 where
  | x0 (va3p1_0 : List S_Span)
  | x1
instance : Inhabited LR_ranges_pairs_3p1 := ⟨.x0 default⟩
def ranges_pairs_3p1a (b : GS S_Span) : List S_Span → (List S_Span) → LR_ranges_pairs_3p1
  | [], va3p1_0 => .x0 va3p1_0
  | x3p1 :: rest3p1, va3p1_0 =>
    match zO x3p1 b.l va3p1_0 with
    | .x0 v6p2_0 =>
      ranges_pairs_3p1a b rest3p1 v6p2_0
def ranges_pairs_3p1 (b : GS S_Span) : List S_Span → LR_ranges_pairs_3p1
  | [] => .x1
  | x3p1 :: rest3p1 =>
    match ranges_pairs_6p3 x3p1 b.l with
    | .x0 va6p3_0 =>
      ranges_pairs_3p1a b rest3p1 va6p3_0
    | .x1 =>
      ranges_pairs_3p1 b rest3p1
def lr_ranges_pairs_3p1 (a : GS S_Span) (b : GS S_Span) : LR_ranges_pairs_3p1 → Exit × St
  | .x0 va3p1_0 => ((.exit 0), ⟨40, [(17, B false), (1, .sl b.nl (b.l.map S_Span.D) (zsl b.nl 2) none), (2, .fn (.func 89) [] []), (7, .lsl 1 0 va3p1_0.length 2 none), (14, .sl a.nl (a.l.map S_Span.D) (zsl a.nl 2) none), (15, I ((a.l.length : Nat) : Int)), (16, I ((a.l.length : Nat) : Int))], [(1, ⟨va3p1_0.map S_Span.D, 2, false⟩)], 2, 1⟩)
  | .x1 => ((.exit 0), ⟨40, [(17, B false), (1, .sl b.nl (b.l.map S_Span.D) (zsl b.nl 2) none), (2, .fn (.func 89) [] []), (7, .sl true [] 0 none), (14, .sl a.nl (a.l.map S_Span.D) (zsl a.nl 2) none), (15, I ((a.l.length : Nat) : Int)), (16, I ((a.l.length : Nat) : Int))], [], 1, 1⟩)
def iv_ranges_pairs_3p1 (a : GS S_Span) (b : GS S_Span) : LR_ranges_pairs_3p1 → Prop
  | .x0 va3p1_0 => (va3p1_0.length ≤ 65 * a.l.length)
  | .x1 => True
theorem lp_ranges_pairs_3p1a (a : GS S_Span) (b : GS S_Span) : ∀ (rest3p1 : List S_Span) (i3p1 : Nat) (va3p1_0 : List S_Span) (hd3p1 : a.l.drop i3p1 = rest3p1) (hi3p1 : i3p1 ≤ a.l.length) (ha64 : a.l.length ≤ 64) (hb65 : b.l.length ≤ 65) (hg3p1_va3p1_0 : va3p1_0.length ≤ 65 * i3p1) (hL3p1 : a.l.length ≤ 1099511627776), (lim cfg).loop 87 lp87_3 ⟨40, [(1, .sl b.nl (b.l.map S_Span.D) (zsl b.nl 2) none), (2, .fn (.func 89) [] []), (7, .lsl 1 0 va3p1_0.length 2 none), (14, .sl a.nl (a.l.map S_Span.D) (zsl a.nl 2) none), (15, I ((a.l.length : Nat) : Int)), (16, I ((i3p1 : Nat) : Int))], [(1, ⟨va3p1_0.map S_Span.D, 2, false⟩)], 2, 1⟩ = some (lr_ranges_pairs_3p1 a b (ranges_pairs_3p1a b rest3p1 va3p1_0)) := by
  intro rest3p1
  induction rest3p1 with
  | nil =>
    intro i3p1 va3p1_0 hd3p1 hi3p1 ha64 hb65 hg3p1_va3p1_0 hL3p1
    unfold ranges_pairs_3p1a
    obtain rfl : i3p1 = a.l.length := nil_eq hd3p1 hi3p1
    exact po_last [.dec false] (And.intro (lt_no hd3p1) trivial) (by kernel_rfl)
  | cons x3p1 rest3p1 ih =>
    intro i3p1 va3p1_0 hd3p1 hi3p1 ha64 hb65 hg3p1_va3p1_0 hL3p1
    have hlt3p1 := zk hd3p1
    unfold ranges_pairs_3p1a
    cases h12 : zO x3p1 b.l va3p1_0 with
    | x0 v6p2_0 =>
      try dsimp only
      have hv_h12 := ivt_ranges_pairs_6p2 a b i3p1 x3p1 b.l 0 va3p1_0 (List.drop_zero) (Nat.zero_le _) (by omega) (by omega) (by omega) (by omega)
      rw [h12] at hv_h12
      have hv_h12_0 := hv_h12
      try dsimp only [iv_ranges_pairs_6p2] at hv_h12_0
      exact po_turn' (ks := [1, 2, 7, 14, 15, 16]) (st' := (sd93 a b i3p1 x3p1 v6p2_0)) [.dec true, .el (.agg [I x3p1.lo, I x3p1.hi]), .rw 21 (I ((b.l.length : Nat) : Int)), .gloop (sd84 a b i3p1 x3p1 va3p1_0) (.exit 2) (sd88 a b i3p1 x3p1 v6p2_0), .rw 38 (I ((i3p1 + 1 : Nat) : Int))] (And.intro (inc_rw (i := i3p1) (by have := zk hd3p1; omega)) (And.intro (po_lr (q := lr_ranges_pairs_6p2 a b i3p1 x3p1) (lp_ranges_pairs_6p2 a b i3p1 x3p1 b.l 0 va3p1_0 (List.drop_zero) (Nat.zero_le _) (by omega) (by omega) (by omega) (by omega)) h12) (And.intro (gc_of (C := cfg) (f := 87) (a := lp87_6) (ks := [1, 2, 7, 9, 14, 15, 16, 20, 21, 22]) (st := (sd83 a b i3p1 x3p1 va3p1_0)) (st1 := (sd84 a b i3p1 x3p1 va3p1_0)) (by kernel_rfl) (by (simp only [sd83, sd84, go_sem, List.length_set, Nat.reduceAdd, Nat.reduceEqDiff, Nat.reduceLT, Nat.reduceLeDiff, bI2, zg.idsL, zg.renL, zg.snapAll, z7.idsL, z7.renL, z7.snapAll]) <;> rfl)) (And.intro (len_rw S_Span.D b) (And.intro (el_at (s := a) (f := S_Span.D) (k := 2) hd3p1) (And.intro (lt_at hd3p1) trivial)))))) (by kernel_rfl) (by (simp only [sd93, go_sem, List.length_set, Nat.reduceAdd, Nat.reduceEqDiff, Nat.reduceLT, Nat.reduceLeDiff, bI2, zg.idsL, zg.renL, zg.snapAll, z7.idsL, z7.renL, z7.snapAll]) <;> rfl) (ih (i3p1 + 1) v6p2_0 (zm hd3p1) (zk hd3p1) (by omega) (by omega) (by omega) (by omega)) (by kernel_rfl)
theorem ivt_ranges_pairs_3p1a (a : GS S_Span) (b : GS S_Span) : ∀ (rest3p1 : List S_Span) (i3p1 : Nat) (va3p1_0 : List S_Span) (hd3p1 : a.l.drop i3p1 = rest3p1) (hi3p1 : i3p1 ≤ a.l.length) (ha64 : a.l.length ≤ 64) (hb65 : b.l.length ≤ 65) (hg3p1_va3p1_0 : va3p1_0.length ≤ 65 * i3p1) (hL3p1 : a.l.length ≤ 1099511627776), iv_ranges_pairs_3p1 a b (ranges_pairs_3p1a b rest3p1 va3p1_0) := by
  intro rest3p1
  induction rest3p1 with
  | nil =>
    intro i3p1 va3p1_0 hd3p1 hi3p1 ha64 hb65 hg3p1_va3p1_0 hL3p1
    unfold ranges_pairs_3p1a
    obtain rfl : i3p1 = a.l.length := nil_eq hd3p1 hi3p1
    exact hg3p1_va3p1_0
  | cons x3p1 rest3p1 ih =>
    intro i3p1 va3p1_0 hd3p1 hi3p1 ha64 hb65 hg3p1_va3p1_0 hL3p1
    have hlt3p1 := zk hd3p1
    unfold ranges_pairs_3p1a
    cases h12 : zO x3p1 b.l va3p1_0 with
    | x0 v6p2_0 =>
      try dsimp only
      have hv_h12 := ivt_ranges_pairs_6p2 a b i3p1 x3p1 b.l 0 va3p1_0 (List.drop_zero) (Nat.zero_le _) (by omega) (by omega) (by omega) (by omega)
      rw [h12] at hv_h12
      have hv_h12_0 := hv_h12
      try dsimp only [iv_ranges_pairs_6p2] at hv_h12_0
      exact ih (i3p1 + 1) v6p2_0 (zm hd3p1) (zk hd3p1) (by omega) (by omega) (by omega) (by omega)
theorem lp_ranges_pairs_3p1 (a : GS S_Span) (b : GS S_Span) : ∀ (rest3p1 : List S_Span) (i3p1 : Nat) (hd3p1 : a.l.drop i3p1 = rest3p1) (hi3p1 : i3p1 ≤ a.l.length) (ha64 : a.l.length ≤ 64) (hb65 : b.l.length ≤ 65) (hL3p1 : a.l.length ≤ 1099511627776), (lim cfg).loop 87 lp87_3 ⟨40, [(1, .sl b.nl (b.l.map S_Span.D) (zsl b.nl 2) none), (2, .fn (.func 89) [] []), (7, .sl true [] 0 none), (14, .sl a.nl (a.l.map S_Span.D) (zsl a.nl 2) none), (15, I ((a.l.length : Nat) : Int)), (16, I ((i3p1 : Nat) : Int))], [], 1, 1⟩ = some (lr_ranges_pairs_3p1 a b (ranges_pairs_3p1 b rest3p1)) := by
  intro rest3p1
  induction rest3p1 with
  | nil =>
    intro i3p1 hd3p1 hi3p1 ha64 hb65 hL3p1
    unfold ranges_pairs_3p1
    obtain rfl : i3p1 = a.l.length := nil_eq hd3p1 hi3p1
    exact po_last [.dec false] (And.intro (lt_no hd3p1) trivial) (by kernel_rfl)
  | cons x3p1 rest3p1 ih =>
    intro i3p1 hd3p1 hi3p1 ha64 hb65 hL3p1
    have hlt3p1 := zk hd3p1
    unfold ranges_pairs_3p1
    cases h17 : ranges_pairs_6p3 x3p1 b.l with
    | x0 va6p3_0 =>
      try dsimp only
      have hv_h17 := ivt_ranges_pairs_6p3 a b i3p1 x3p1 b.l 0 (List.drop_zero) (Nat.zero_le _) (by omega) (by omega) (by omega)
      rw [h17] at hv_h17
      have hv_h17_0 := hv_h17
      try dsimp only [iv_ranges_pairs_6p3] at hv_h17_0
      exact po_turn' (ks := [1, 2, 7, 14, 15, 16]) (st' := (sd94 a b i3p1 x3p1 va6p3_0)) [.dec true, .el (.agg [I x3p1.lo, I x3p1.hi]), .rw 21 (I ((b.l.length : Nat) : Int)), .loop (.exit 2) (sd92 a b i3p1 x3p1 va6p3_0), .rw 38 (I ((i3p1 + 1 : Nat) : Int))] (And.intro (inc_rw (i := i3p1) (by have := zk hd3p1; omega)) (And.intro (po_lr (q := lr_ranges_pairs_6p3 a b i3p1 x3p1) (lp_ranges_pairs_6p3 a b i3p1 x3p1 b.l 0 (List.drop_zero) (Nat.zero_le _) (by omega) (by omega) (by omega)) h17) (And.intro (len_rw S_Span.D b) (And.intro (el_at (s := a) (f := S_Span.D) (k := 2) hd3p1) (And.intro (lt_at hd3p1) trivial))))) (by kernel_rfl) (by (simp only [sd94, go_sem, List.length_set, Nat.reduceAdd, Nat.reduceEqDiff, Nat.reduceLT, Nat.reduceLeDiff, bI2, zg.idsL, zg.renL, zg.snapAll, z7.idsL, z7.renL, z7.snapAll]) <;> rfl) (lp_ranges_pairs_3p1a a b _ (i3p1 + 1) va6p3_0 (zm hd3p1) (zk hd3p1) (by omega) (by omega) (by omega) (by omega)) (by kernel_rfl)
    | x1 =>
      try dsimp only
      exact po_turn [.dec true, .el (.agg [I x3p1.lo, I x3p1.hi]), .rw 21 (I ((b.l.length : Nat) : Int)), .loop (.exit 2) (sd80 a b i3p1 x3p1), .rw 38 (I ((i3p1 + 1 : Nat) : Int))] (And.intro (inc_rw (i := i3p1) (by have := zk hd3p1; omega)) (And.intro (po_lr (q := lr_ranges_pairs_6p3 a b i3p1 x3p1) (lp_ranges_pairs_6p3 a b i3p1 x3p1 b.l 0 (List.drop_zero) (Nat.zero_le _) (by omega) (by omega) (by omega)) h17) (And.intro (len_rw S_Span.D b) (And.intro (el_at (s := a) (f := S_Span.D) (k := 2) hd3p1) (And.intro (lt_at hd3p1) trivial))))) (ih (i3p1 + 1) (zm hd3p1) (zk hd3p1) (by omega) (by omega) (by omega)) (by kernel_rfl)
theorem ivt_ranges_pairs_3p1 (a : GS S_Span) (b : GS S_Span) : ∀ (rest3p1 : List S_Span) (i3p1 : Nat) (hd3p1 : a.l.drop i3p1 = rest3p1) (hi3p1 : i3p1 ≤ a.l.length) (ha64 : a.l.length ≤ 64) (hb65 : b.l.length ≤ 65) (hL3p1 : a.l.length ≤ 1099511627776), iv_ranges_pairs_3p1 a b (ranges_pairs_3p1 b rest3p1) := by
  intro rest3p1
  induction rest3p1 with
  | nil =>
    intro i3p1 hd3p1 hi3p1 ha64 hb65 hL3p1
    unfold ranges_pairs_3p1
    obtain rfl : i3p1 = a.l.length := nil_eq hd3p1 hi3p1
    exact trivial
  | cons x3p1 rest3p1 ih =>
    intro i3p1 hd3p1 hi3p1 ha64 hb65 hL3p1
    have hlt3p1 := zk hd3p1
    unfold ranges_pairs_3p1
    cases h17 : ranges_pairs_6p3 x3p1 b.l with
    | x0 va6p3_0 =>
      try dsimp only
      have hv_h17 := ivt_ranges_pairs_6p3 a b i3p1 x3p1 b.l 0 (List.drop_zero) (Nat.zero_le _) (by omega) (by omega) (by omega)
      rw [h17] at hv_h17
      have hv_h17_0 := hv_h17
      try dsimp only [iv_ranges_pairs_6p3] at hv_h17_0
      exact ivt_ranges_pairs_3p1a a b _ (i3p1 + 1) va6p3_0 (zm hd3p1) (zk hd3p1) (by omega) (by omega) (by omega) (by omega)
    | x1 =>
      try dsimp only
      exact ih (i3p1 + 1) (zm hd3p1) (zk hd3p1) (by omega) (by omega) (by omega)

def z6 (a : GS S_Span) (b : GS S_Span) : (GS S_Span) × Int :=
  bif ((zI (GS.some [a, b])) != 0) then
    (GS.nil, (zI (GS.some [a, b])))
  else
    match ranges_pairs_3p1 b a.l with
    | .x0 va3p1_0 =>
      match zy (zr zq va3p1_0) 0 with
      | .x0 va4p1_0 =>
        bif decide (((va4p1_0.length : Nat) : Int) > 64) then
          (GS.nil, 2)
        else
          (GS.some va4p1_0, 0)
      | .x1 i4p1 x4p1 va4p1_0 =>
        (GS.nil, 2)
      | .x2 i4p1 x4p1 va4p1_0 =>
        (GS.nil, 2)
      | .x3 =>
        (GS.nil, 0)
      | .x4 i4p1 x4p1 =>
        (GS.nil, 2)
      | .x5 i4p1 x4p1 =>
        (GS.nil, 2)
    | .x1 =>
      (GS.nil, 0)

def ranges_Difference_o1 (a : GS S_Span) (b : GS S_Span) (va3p1_0 : List S_Span) : List Ora := [.pure (I (zI (GS.some [a, b]))), .dec false, .inl (.lsl 1 0 va3p1_0.length 2 none) [(1, ⟨va3p1_0.map S_Span.D, 2, false⟩)] 2]

def sd95 (a : GS S_Span) (b : GS S_Span) (va3p1_0 : List S_Span) : St := ⟨40, [(17, B false), (1, .sl b.nl (b.l.map S_Span.D) (zsl b.nl 2) none), (2, .fn (.func 89) [] []), (7, .lsl 1 0 va3p1_0.length 2 none), (14, .sl a.nl (a.l.map S_Span.D) (zsl a.nl 2) none), (15, I ((a.l.length : Nat) : Int)), (16, I ((a.l.length : Nat) : Int))], [(1, ⟨va3p1_0.map S_Span.D, 2, false⟩)], 2, 1⟩

def sd97 (va3p1_0 : List S_Span) : St := ⟨65, [(4, .sl true [] 0 none), (10, .lsl 1 0 va3p1_0.length 2 none), (11, I ((va3p1_0.length : Nat) : Int)), (12, I 0)], [(1, ⟨(zr zq va3p1_0).map S_Span.D, 2, false⟩)], 2, 2⟩

def sd98 (va3p1_0 : List S_Span) (va4p1_0 : List S_Span) : St := ⟨65, [(13, B false), (4, .lsl 2 0 va4p1_0.length 2 none), (10, .lsl 1 0 va3p1_0.length 2 none), (11, I ((va3p1_0.length : Nat) : Int)), (12, I (((zr zq va3p1_0).length : Nat) : Int))], [(1, ⟨(zr zq va3p1_0).map S_Span.D, 2, false⟩), (2, ⟨va4p1_0.map S_Span.D, 2, false⟩)], 3, 2⟩

def sd96 (va3p1_0 : List S_Span) : St := ⟨65, [(12, I 0), (11, I ((va3p1_0.length : Nat) : Int)), (10, .lsl 1 0 va3p1_0.length 2 none), (4, .sl true [] 0 none), (9, .tup []), (8, .lsl 1 0 va3p1_0.length 2 none), (3, I 0), (2, .sl true [] 0 none), (0, .lsl 1 0 va3p1_0.length 2 none)], [(1, ⟨(zr zq va3p1_0).map S_Span.D, 2, false⟩)], 2, 2⟩

def sd99 (va3p1_0 : List S_Span) (va4p1_0 : List S_Span) (i4p1 : Nat) (x4p1 : S_Span) : St := ⟨65, [(3, I 2), (2, .sl true [] 0 none), (25, B true), (24, B true), (23, B false), (22, I x4p1.hi), (21, .lref 3 0 2 1), (20, B false), (19, B false), (18, B true), (17, I x4p1.lo), (16, .lref 3 0 2 0), (6, .lref 3 0 2 0), (15, .agg [I x4p1.lo, I x4p1.hi]), (14, .lref 1 i4p1 2 0), (13, B true), (4, .lsl 2 0 va4p1_0.length 2 none), (10, .lsl 1 0 va3p1_0.length 2 none), (11, I ((va3p1_0.length : Nat) : Int)), (12, I ((i4p1 : Nat) : Int))], [(1, ⟨(zr zq va3p1_0).map S_Span.D, 2, false⟩), (2, ⟨va4p1_0.map S_Span.D, 2, false⟩), (3, ⟨[.agg [I x4p1.lo, I x4p1.hi]], 2, false⟩)], 4, 2⟩

def sd100 (va3p1_0 : List S_Span) (va4p1_0 : List S_Span) (i4p1 : Nat) (x4p1 : S_Span) : St := ⟨65, [(3, I 2), (2, .sl true [] 0 none), (25, B true), (24, .tup []), (23, .tup []), (22, .tup []), (21, .tup []), (20, B true), (19, B true), (18, B false), (17, I x4p1.lo), (16, .lref 3 0 2 0), (6, .lref 3 0 2 0), (15, .agg [I x4p1.lo, I x4p1.hi]), (14, .lref 1 i4p1 2 0), (13, B true), (4, .lsl 2 0 va4p1_0.length 2 none), (10, .lsl 1 0 va3p1_0.length 2 none), (11, I ((va3p1_0.length : Nat) : Int)), (12, I ((i4p1 : Nat) : Int))], [(1, ⟨(zr zq va3p1_0).map S_Span.D, 2, false⟩), (2, ⟨va4p1_0.map S_Span.D, 2, false⟩), (3, ⟨[.agg [I x4p1.lo, I x4p1.hi]], 2, false⟩)], 4, 2⟩

def sd101 (va3p1_0 : List S_Span) : St := ⟨65, [(13, B false), (4, .sl true [] 0 none), (10, .lsl 1 0 va3p1_0.length 2 none), (11, I ((va3p1_0.length : Nat) : Int)), (12, I (((zr zq va3p1_0).length : Nat) : Int))], [(1, ⟨(zr zq va3p1_0).map S_Span.D, 2, false⟩)], 2, 2⟩

def sd102 (va3p1_0 : List S_Span) (i4p1 : Nat) (x4p1 : S_Span) : St := ⟨65, [(3, I 2), (2, .sl true [] 0 none), (25, B true), (24, B true), (23, B false), (22, I x4p1.hi), (21, .lref 2 0 2 1), (20, B false), (19, B false), (18, B true), (17, I x4p1.lo), (16, .lref 2 0 2 0), (6, .lref 2 0 2 0), (15, .agg [I x4p1.lo, I x4p1.hi]), (14, .lref 1 i4p1 2 0), (13, B true), (4, .sl true [] 0 none), (10, .lsl 1 0 va3p1_0.length 2 none), (11, I ((va3p1_0.length : Nat) : Int)), (12, I ((i4p1 : Nat) : Int))], [(1, ⟨(zr zq va3p1_0).map S_Span.D, 2, false⟩), (2, ⟨[.agg [I x4p1.lo, I x4p1.hi]], 2, false⟩)], 3, 2⟩

def sd103 (va3p1_0 : List S_Span) (i4p1 : Nat) (x4p1 : S_Span) : St := ⟨65, [(3, I 2), (2, .sl true [] 0 none), (25, B true), (24, .tup []), (23, .tup []), (22, .tup []), (21, .tup []), (20, B true), (19, B true), (18, B false), (17, I x4p1.lo), (16, .lref 2 0 2 0), (6, .lref 2 0 2 0), (15, .agg [I x4p1.lo, I x4p1.hi]), (14, .lref 1 i4p1 2 0), (13, B true), (4, .sl true [] 0 none), (10, .lsl 1 0 va3p1_0.length 2 none), (11, I ((va3p1_0.length : Nat) : Int)), (12, I ((i4p1 : Nat) : Int))], [(1, ⟨(zr zq va3p1_0).map S_Span.D, 2, false⟩), (2, ⟨[.agg [I x4p1.lo, I x4p1.hi]], 2, false⟩)], 3, 2⟩

def sd104 (a : GS S_Span) (b : GS S_Span) : St := ⟨40, [(17, B false), (1, .sl b.nl (b.l.map S_Span.D) (zsl b.nl 2) none), (2, .fn (.func 89) [] []), (7, .sl true [] 0 none), (14, .sl a.nl (a.l.map S_Span.D) (zsl a.nl 2) none), (15, I ((a.l.length : Nat) : Int)), (16, I ((a.l.length : Nat) : Int))], [], 1, 1⟩

theorem T_ranges_Difference (a : GS S_Span) (b : GS S_Span) (hLa : a.l.length ≤ 9223372036854775807) (hLb : b.l.length ≤ 9223372036854775807) : (lim cfg).pure 30 [GS.D S_Span.D 2 a, GS.D S_Span.D 2 b] = some (.tup [GS.D S_Span.D 2 ((z6 a b).1), I ((z6 a b).2)]) := by
  unfold z6
  have p1 := (T_ranges_check (GS.some [a, b]) (by exact two_bd (by omega) (by omega)) (by simp only [zR, GS.some_l, List.length_set, List.length_append, List.length_cons, List.length_nil] at * <;> first | with_reducible assumption | omega))
  cases h1 : ((zI (GS.some [a, b])) != 0) with
  | true =>
    have g1 := bne_true h1
    exact zt [.pure (I (zI (GS.some [a, b]))), .dec true] (And.intro h1 (And.intro p1 trivial)) (by kernel_rfl)
  | false =>
    have g1 := check2_len (bne_false h1)
    cases h18 : ranges_pairs_3p1 b a.l with
    | x0 va3p1_0 =>
      try dsimp only
      have hv_h18 := ivt_ranges_pairs_3p1 a b a.l 0 (List.drop_zero) (Nat.zero_le _) (by omega) (by omega) (by omega)
      rw [h18] at hv_h18
      have hv_h18_0 := hv_h18
      try dsimp only [iv_ranges_pairs_3p1] at hv_h18_0
      have p2 := (show (lim cfg).inl 87 [.sl a.nl (a.l.map S_Span.D) (zsl a.nl 2) none, .sl b.nl (b.l.map S_Span.D) (zsl b.nl 2) none, .fn (.func 89) [] []] [] 1 = some (.lsl 1 0 va3p1_0.length 2 none, [(1, ⟨va3p1_0.map S_Span.D, 2, false⟩)], 2) from po_inl [.rw 15 (I ((a.l.length : Nat) : Int)), .loop (.exit 0) (sd95 a b va3p1_0)] (And.intro (po_lr (q := lr_ranges_pairs_3p1 a b) (lp_ranges_pairs_3p1 a b a.l 0 (List.drop_zero) (Nat.zero_le _) (by omega) (by omega) (by omega)) h18) (And.intro (len_rw S_Span.D a) trivial)) (by kernel_rfl))
      cases h19 : zy (zr zq va3p1_0) 0 with
      | x0 va4p1_0 =>
        try dsimp only
        have hv_h19 := zT va3p1_0 (zr zq va3p1_0) (zr zq va3p1_0) 0 (List.drop_zero) (Nat.zero_le _) (by simp only [zR, GS.some_l, List.length_set, List.length_append, List.length_cons, List.length_nil] at * <;> first | with_reducible assumption | omega) (by simp only [zR, GS.some_l, List.length_set, List.length_append, List.length_cons, List.length_nil] at * <;> first | with_reducible assumption | omega)
        rw [h19] at hv_h19
        obtain ⟨hv_h19_0, hv_h19_1⟩ := hv_h19
        try dsimp only [zp] at hv_h19_0
        try dsimp only [zp] at hv_h19_1
        cases h20 : decide (((va4p1_0.length : Nat) : Int) > 64) with
        | true =>
          have g20 := of_decide_eq_true h20
          exact zt ((ranges_Difference_o1 a b va3p1_0) ++ [.inlS [1] (.tup [.sl true [] 0 none, I 2]) [(1, ⟨(zr zq va3p1_0).map S_Span.D, 2, false⟩), (2, ⟨va4p1_0.map S_Span.D, 2, false⟩)] 3]) (And.intro (And.intro (show zj [(0, ⟨[.sl a.nl (a.l.map S_Span.D) (zsl a.nl 2) none, .sl b.nl (b.l.map S_Span.D) (zsl b.nl 2) none], 1, false⟩), (1, ⟨va3p1_0.map S_Span.D, 2, false⟩)] 256 [1] [] = some [1] from (by (simp only [zj, go_sem, List.length_set, Nat.reduceAdd, Nat.reduceEqDiff, Nat.reduceLT, Nat.reduceLeDiff, bI2, zg.idsL, zg.renL, zg.snapAll, z7.idsL, z7.renL, z7.snapAll]) <;> rfl)) (show (lim cfg).inl 69 [.lsl 1 0 va3p1_0.length 2 none] [(1, ⟨va3p1_0.map S_Span.D, 2, false⟩)] 2 = some (.tup [.sl true [] 0 none, I 2], [(1, ⟨(zr zq va3p1_0).map S_Span.D, 2, false⟩), (2, ⟨va4p1_0.map S_Span.D, 2, false⟩)], 3) from po_inl [.inlS [1] (.tup []) [(1, ⟨(zr zq va3p1_0).map S_Span.D, 2, false⟩)] 2, .gloop (sd97 va3p1_0) (.exit 0) (sd98 va3p1_0 va4p1_0), .dec true] (And.intro h20 (And.intro (po_lr (q := zn va3p1_0 (zr zq va3p1_0)) (lp_ranges_gathered_4p1 va3p1_0 (zr zq va3p1_0) (zr zq va3p1_0) 0 (List.drop_zero) (Nat.zero_le _) (by simp only [zR, GS.some_l, List.length_set, List.length_append, List.length_cons, List.length_nil] at * <;> first | with_reducible assumption | omega) (by simp only [zR, GS.some_l, List.length_set, List.length_append, List.length_cons, List.length_nil] at * <;> first | with_reducible assumption | omega)) h19) (And.intro (gc_of (C := cfg) (f := 69) (a := lp69_4) (ks := [4, 10, 11, 12]) (st := (sd96 va3p1_0)) (st1 := (sd97 va3p1_0)) (by kernel_rfl) (by (simp only [sd96, sd97, go_sem, List.length_set, Nat.reduceAdd, Nat.reduceEqDiff, Nat.reduceLT, Nat.reduceLeDiff, bI2, zg.idsL, zg.renL, zg.snapAll, z7.idsL, z7.renL, z7.snapAll]) <;> rfl)) (And.intro (And.intro (show zj [(1, ⟨va3p1_0.map S_Span.D, 2, false⟩)] 256 [1] [] = some [1] from (by (simp only [zj, go_sem, List.length_set, Nat.reduceAdd, Nat.reduceEqDiff, Nat.reduceLT, Nat.reduceLeDiff, bI2, zg.idsL, zg.renL, zg.snapAll, z7.idsL, z7.renL, z7.snapAll]) <;> rfl)) (T_sort 1 2 none va3p1_0 (by omega))) trivial)))) (by kernel_rfl))) (And.intro p2 (And.intro h1 (And.intro p1 trivial)))) (by kernel_rfl)
        | false =>
          have g20 := of_decide_eq_false h20
          exact po_pureS ((ranges_Difference_o1 a b va3p1_0) ++ [.inlS [1] (.tup [.lsl 2 0 va4p1_0.length 2 none, I 0]) [(1, ⟨(zr zq va3p1_0).map S_Span.D, 2, false⟩), (2, ⟨va4p1_0.map S_Span.D, 2, false⟩)] 3]) [(2, .sl false (va4p1_0.map S_Span.D) 2 none, [2])] (And.intro (snap_row (gO := zu [(0, ⟨[.sl a.nl (a.l.map S_Span.D) (zsl a.nl 2) none, .sl b.nl (b.l.map S_Span.D) (zsl b.nl 2) none], 1, false⟩), (1, ⟨(zr zq va3p1_0).map S_Span.D, 2, false⟩), (2, ⟨va4p1_0.map S_Span.D, 2, false⟩)]) (o := 2) (len := va4p1_0.length) (cap := none) (fz := false) z7 va4p1_0 (by kernel_rfl) (by omega)) (And.intro (And.intro (show zj [(0, ⟨[.sl a.nl (a.l.map S_Span.D) (zsl a.nl 2) none, .sl b.nl (b.l.map S_Span.D) (zsl b.nl 2) none], 1, false⟩), (1, ⟨va3p1_0.map S_Span.D, 2, false⟩)] 256 [1] [] = some [1] from (by (simp only [zj, go_sem, List.length_set, Nat.reduceAdd, Nat.reduceEqDiff, Nat.reduceLT, Nat.reduceLeDiff, bI2, zg.idsL, zg.renL, zg.snapAll, z7.idsL, z7.renL, z7.snapAll]) <;> rfl)) (show (lim cfg).inl 69 [.lsl 1 0 va3p1_0.length 2 none] [(1, ⟨va3p1_0.map S_Span.D, 2, false⟩)] 2 = some (.tup [.lsl 2 0 va4p1_0.length 2 none, I 0], [(1, ⟨(zr zq va3p1_0).map S_Span.D, 2, false⟩), (2, ⟨va4p1_0.map S_Span.D, 2, false⟩)], 3) from po_inl [.inlS [1] (.tup []) [(1, ⟨(zr zq va3p1_0).map S_Span.D, 2, false⟩)] 2, .gloop (sd97 va3p1_0) (.exit 0) (sd98 va3p1_0 va4p1_0), .dec false] (And.intro h20 (And.intro (po_lr (q := zn va3p1_0 (zr zq va3p1_0)) (lp_ranges_gathered_4p1 va3p1_0 (zr zq va3p1_0) (zr zq va3p1_0) 0 (List.drop_zero) (Nat.zero_le _) (by simp only [zR, GS.some_l, List.length_set, List.length_append, List.length_cons, List.length_nil] at * <;> first | with_reducible assumption | omega) (by simp only [zR, GS.some_l, List.length_set, List.length_append, List.length_cons, List.length_nil] at * <;> first | with_reducible assumption | omega)) h19) (And.intro (gc_of (C := cfg) (f := 69) (a := lp69_4) (ks := [4, 10, 11, 12]) (st := (sd96 va3p1_0)) (st1 := (sd97 va3p1_0)) (by kernel_rfl) (by (simp only [sd96, sd97, go_sem, List.length_set, Nat.reduceAdd, Nat.reduceEqDiff, Nat.reduceLT, Nat.reduceLeDiff, bI2, zg.idsL, zg.renL, zg.snapAll, z7.idsL, z7.renL, z7.snapAll]) <;> rfl)) (And.intro (And.intro (show zj [(1, ⟨va3p1_0.map S_Span.D, 2, false⟩)] 256 [1] [] = some [1] from (by (simp only [zj, go_sem, List.length_set, Nat.reduceAdd, Nat.reduceEqDiff, Nat.reduceLT, Nat.reduceLeDiff, bI2, zg.idsL, zg.renL, zg.snapAll, z7.idsL, z7.renL, z7.snapAll]) <;> rfl)) (T_sort 1 2 none va3p1_0 (by omega))) trivial)))) (by kernel_rfl))) (And.intro p2 (And.intro h1 (And.intro p1 trivial))))) (by kernel_rfl)
      | x1 i4p1 x4p1 va4p1_0 =>
        try dsimp only
        have hv_h19 := zT va3p1_0 (zr zq va3p1_0) (zr zq va3p1_0) 0 (List.drop_zero) (Nat.zero_le _) (by simp only [zR, GS.some_l, List.length_set, List.length_append, List.length_cons, List.length_nil] at * <;> first | with_reducible assumption | omega) (by simp only [zR, GS.some_l, List.length_set, List.length_append, List.length_cons, List.length_nil] at * <;> first | with_reducible assumption | omega)
        rw [h19] at hv_h19
        obtain ⟨hv_h19_0, hv_h19_1⟩ := hv_h19
        try dsimp only [zp] at hv_h19_0
        try dsimp only [zp] at hv_h19_1
        exact zt ((ranges_Difference_o1 a b va3p1_0) ++ [.inlS [1] (.tup [.sl true [] 0 none, I 2]) [(1, ⟨(zr zq va3p1_0).map S_Span.D, 2, false⟩), (2, ⟨va4p1_0.map S_Span.D, 2, false⟩), (3, ⟨[.agg [I x4p1.lo, I x4p1.hi]], 2, false⟩)] 4]) (And.intro (And.intro (show zj [(0, ⟨[.sl a.nl (a.l.map S_Span.D) (zsl a.nl 2) none, .sl b.nl (b.l.map S_Span.D) (zsl b.nl 2) none], 1, false⟩), (1, ⟨va3p1_0.map S_Span.D, 2, false⟩)] 256 [1] [] = some [1] from (by (simp only [zj, go_sem, List.length_set, Nat.reduceAdd, Nat.reduceEqDiff, Nat.reduceLT, Nat.reduceLeDiff, bI2, zg.idsL, zg.renL, zg.snapAll, z7.idsL, z7.renL, z7.snapAll]) <;> rfl)) (show (lim cfg).inl 69 [.lsl 1 0 va3p1_0.length 2 none] [(1, ⟨va3p1_0.map S_Span.D, 2, false⟩)] 2 = some (.tup [.sl true [] 0 none, I 2], [(1, ⟨(zr zq va3p1_0).map S_Span.D, 2, false⟩), (2, ⟨va4p1_0.map S_Span.D, 2, false⟩), (3, ⟨[.agg [I x4p1.lo, I x4p1.hi]], 2, false⟩)], 4) from po_inl [.inlS [1] (.tup []) [(1, ⟨(zr zq va3p1_0).map S_Span.D, 2, false⟩)] 2, .gloop (sd97 va3p1_0) .ret (sd99 va3p1_0 va4p1_0 i4p1 x4p1)] (And.intro (po_lr (q := zn va3p1_0 (zr zq va3p1_0)) (lp_ranges_gathered_4p1 va3p1_0 (zr zq va3p1_0) (zr zq va3p1_0) 0 (List.drop_zero) (Nat.zero_le _) (by simp only [zR, GS.some_l, List.length_set, List.length_append, List.length_cons, List.length_nil] at * <;> first | with_reducible assumption | omega) (by simp only [zR, GS.some_l, List.length_set, List.length_append, List.length_cons, List.length_nil] at * <;> first | with_reducible assumption | omega)) h19) (And.intro (gc_of (C := cfg) (f := 69) (a := lp69_4) (ks := [4, 10, 11, 12]) (st := (sd96 va3p1_0)) (st1 := (sd97 va3p1_0)) (by kernel_rfl) (by (simp only [sd96, sd97, go_sem, List.length_set, Nat.reduceAdd, Nat.reduceEqDiff, Nat.reduceLT, Nat.reduceLeDiff, bI2, zg.idsL, zg.renL, zg.snapAll, z7.idsL, z7.renL, z7.snapAll]) <;> rfl)) (And.intro (And.intro (show zj [(1, ⟨va3p1_0.map S_Span.D, 2, false⟩)] 256 [1] [] = some [1] from (by (simp only [zj, go_sem, List.length_set, Nat.reduceAdd, Nat.reduceEqDiff, Nat.reduceLT, Nat.reduceLeDiff, bI2, zg.idsL, zg.renL, zg.snapAll, z7.idsL, z7.renL, z7.snapAll]) <;> rfl)) (T_sort 1 2 none va3p1_0 (by omega))) trivial))) (by kernel_rfl))) (And.intro p2 (And.intro h1 (And.intro p1 trivial)))) (by kernel_rfl)
      | x2 i4p1 x4p1 va4p1_0 =>
        try dsimp only
        have hv_h19 := zT va3p1_0 (zr zq va3p1_0) (zr zq va3p1_0) 0 (List.drop_zero) (Nat.zero_le _) (by simp only [zR, GS.some_l, List.length_set, List.length_append, List.length_cons, List.length_nil] at * <;> first | with_reducible assumption | omega) (by simp only [zR, GS.some_l, List.length_set, List.length_append, List.length_cons, List.length_nil] at * <;> first | with_reducible assumption | omega)
        rw [h19] at hv_h19
        obtain ⟨hv_h19_0, hv_h19_1⟩ := hv_h19
        try dsimp only [zp] at hv_h19_0
        try dsimp only [zp] at hv_h19_1
        exact zt ((ranges_Difference_o1 a b va3p1_0) ++ [.inlS [1] (.tup [.sl true [] 0 none, I 2]) [(1, ⟨(zr zq va3p1_0).map S_Span.D, 2, false⟩), (2, ⟨va4p1_0.map S_Span.D, 2, false⟩), (3, ⟨[.agg [I x4p1.lo, I x4p1.hi]], 2, false⟩)] 4]) (And.intro (And.intro (show zj [(0, ⟨[.sl a.nl (a.l.map S_Span.D) (zsl a.nl 2) none, .sl b.nl (b.l.map S_Span.D) (zsl b.nl 2) none], 1, false⟩), (1, ⟨va3p1_0.map S_Span.D, 2, false⟩)] 256 [1] [] = some [1] from (by (simp only [zj, go_sem, List.length_set, Nat.reduceAdd, Nat.reduceEqDiff, Nat.reduceLT, Nat.reduceLeDiff, bI2, zg.idsL, zg.renL, zg.snapAll, z7.idsL, z7.renL, z7.snapAll]) <;> rfl)) (show (lim cfg).inl 69 [.lsl 1 0 va3p1_0.length 2 none] [(1, ⟨va3p1_0.map S_Span.D, 2, false⟩)] 2 = some (.tup [.sl true [] 0 none, I 2], [(1, ⟨(zr zq va3p1_0).map S_Span.D, 2, false⟩), (2, ⟨va4p1_0.map S_Span.D, 2, false⟩), (3, ⟨[.agg [I x4p1.lo, I x4p1.hi]], 2, false⟩)], 4) from po_inl [.inlS [1] (.tup []) [(1, ⟨(zr zq va3p1_0).map S_Span.D, 2, false⟩)] 2, .gloop (sd97 va3p1_0) .ret (sd100 va3p1_0 va4p1_0 i4p1 x4p1)] (And.intro (po_lr (q := zn va3p1_0 (zr zq va3p1_0)) (lp_ranges_gathered_4p1 va3p1_0 (zr zq va3p1_0) (zr zq va3p1_0) 0 (List.drop_zero) (Nat.zero_le _) (by simp only [zR, GS.some_l, List.length_set, List.length_append, List.length_cons, List.length_nil] at * <;> first | with_reducible assumption | omega) (by simp only [zR, GS.some_l, List.length_set, List.length_append, List.length_cons, List.length_nil] at * <;> first | with_reducible assumption | omega)) h19) (And.intro (gc_of (C := cfg) (f := 69) (a := lp69_4) (ks := [4, 10, 11, 12]) (st := (sd96 va3p1_0)) (st1 := (sd97 va3p1_0)) (by kernel_rfl) (by (simp only [sd96, sd97, go_sem, List.length_set, Nat.reduceAdd, Nat.reduceEqDiff, Nat.reduceLT, Nat.reduceLeDiff, bI2, zg.idsL, zg.renL, zg.snapAll, z7.idsL, z7.renL, z7.snapAll]) <;> rfl)) (And.intro (And.intro (show zj [(1, ⟨va3p1_0.map S_Span.D, 2, false⟩)] 256 [1] [] = some [1] from (by (simp only [zj, go_sem, List.length_set, Nat.reduceAdd, Nat.reduceEqDiff, Nat.reduceLT, Nat.reduceLeDiff, bI2, zg.idsL, zg.renL, zg.snapAll, z7.idsL, z7.renL, z7.snapAll]) <;> rfl)) (T_sort 1 2 none va3p1_0 (by omega))) trivial))) (by kernel_rfl))) (And.intro p2 (And.intro h1 (And.intro p1 trivial)))) (by kernel_rfl)
      | x3 =>
        try dsimp only
        exact zt ((ranges_Difference_o1 a b va3p1_0) ++ [.inlS [1] (.tup [.sl true [] 0 none, I 0]) [(1, ⟨(zr zq va3p1_0).map S_Span.D, 2, false⟩)] 2]) (And.intro (And.intro (show zj [(0, ⟨[.sl a.nl (a.l.map S_Span.D) (zsl a.nl 2) none, .sl b.nl (b.l.map S_Span.D) (zsl b.nl 2) none], 1, false⟩), (1, ⟨va3p1_0.map S_Span.D, 2, false⟩)] 256 [1] [] = some [1] from (by (simp only [zj, go_sem, List.length_set, Nat.reduceAdd, Nat.reduceEqDiff, Nat.reduceLT, Nat.reduceLeDiff, bI2, zg.idsL, zg.renL, zg.snapAll, z7.idsL, z7.renL, z7.snapAll]) <;> rfl)) (show (lim cfg).inl 69 [.lsl 1 0 va3p1_0.length 2 none] [(1, ⟨va3p1_0.map S_Span.D, 2, false⟩)] 2 = some (.tup [.sl true [] 0 none, I 0], [(1, ⟨(zr zq va3p1_0).map S_Span.D, 2, false⟩)], 2) from po_inl [.inlS [1] (.tup []) [(1, ⟨(zr zq va3p1_0).map S_Span.D, 2, false⟩)] 2, .gloop (sd97 va3p1_0) (.exit 0) (sd101 va3p1_0), .dec false] (And.intro (Eq.refl false) (And.intro (po_lr (q := zn va3p1_0 (zr zq va3p1_0)) (lp_ranges_gathered_4p1 va3p1_0 (zr zq va3p1_0) (zr zq va3p1_0) 0 (List.drop_zero) (Nat.zero_le _) (by simp only [zR, GS.some_l, List.length_set, List.length_append, List.length_cons, List.length_nil] at * <;> first | with_reducible assumption | omega) (by simp only [zR, GS.some_l, List.length_set, List.length_append, List.length_cons, List.length_nil] at * <;> first | with_reducible assumption | omega)) h19) (And.intro (gc_of (C := cfg) (f := 69) (a := lp69_4) (ks := [4, 10, 11, 12]) (st := (sd96 va3p1_0)) (st1 := (sd97 va3p1_0)) (by kernel_rfl) (by (simp only [sd96, sd97, go_sem, List.length_set, Nat.reduceAdd, Nat.reduceEqDiff, Nat.reduceLT, Nat.reduceLeDiff, bI2, zg.idsL, zg.renL, zg.snapAll, z7.idsL, z7.renL, z7.snapAll]) <;> rfl)) (And.intro (And.intro (show zj [(1, ⟨va3p1_0.map S_Span.D, 2, false⟩)] 256 [1] [] = some [1] from (by (simp only [zj, go_sem, List.length_set, Nat.reduceAdd, Nat.reduceEqDiff, Nat.reduceLT, Nat.reduceLeDiff, bI2, zg.idsL, zg.renL, zg.snapAll, z7.idsL, z7.renL, z7.snapAll]) <;> rfl)) (T_sort 1 2 none va3p1_0 (by omega))) trivial)))) (by kernel_rfl))) (And.intro p2 (And.intro h1 (And.intro p1 trivial)))) (by kernel_rfl)
      | x4 i4p1 x4p1 =>
        try dsimp only
        exact zt ((ranges_Difference_o1 a b va3p1_0) ++ [.inlS [1] (.tup [.sl true [] 0 none, I 2]) [(1, ⟨(zr zq va3p1_0).map S_Span.D, 2, false⟩), (2, ⟨[.agg [I x4p1.lo, I x4p1.hi]], 2, false⟩)] 3]) (And.intro (And.intro (show zj [(0, ⟨[.sl a.nl (a.l.map S_Span.D) (zsl a.nl 2) none, .sl b.nl (b.l.map S_Span.D) (zsl b.nl 2) none], 1, false⟩), (1, ⟨va3p1_0.map S_Span.D, 2, false⟩)] 256 [1] [] = some [1] from (by (simp only [zj, go_sem, List.length_set, Nat.reduceAdd, Nat.reduceEqDiff, Nat.reduceLT, Nat.reduceLeDiff, bI2, zg.idsL, zg.renL, zg.snapAll, z7.idsL, z7.renL, z7.snapAll]) <;> rfl)) (show (lim cfg).inl 69 [.lsl 1 0 va3p1_0.length 2 none] [(1, ⟨va3p1_0.map S_Span.D, 2, false⟩)] 2 = some (.tup [.sl true [] 0 none, I 2], [(1, ⟨(zr zq va3p1_0).map S_Span.D, 2, false⟩), (2, ⟨[.agg [I x4p1.lo, I x4p1.hi]], 2, false⟩)], 3) from po_inl [.inlS [1] (.tup []) [(1, ⟨(zr zq va3p1_0).map S_Span.D, 2, false⟩)] 2, .gloop (sd97 va3p1_0) .ret (sd102 va3p1_0 i4p1 x4p1)] (And.intro (po_lr (q := zn va3p1_0 (zr zq va3p1_0)) (lp_ranges_gathered_4p1 va3p1_0 (zr zq va3p1_0) (zr zq va3p1_0) 0 (List.drop_zero) (Nat.zero_le _) (by simp only [zR, GS.some_l, List.length_set, List.length_append, List.length_cons, List.length_nil] at * <;> first | with_reducible assumption | omega) (by simp only [zR, GS.some_l, List.length_set, List.length_append, List.length_cons, List.length_nil] at * <;> first | with_reducible assumption | omega)) h19) (And.intro (gc_of (C := cfg) (f := 69) (a := lp69_4) (ks := [4, 10, 11, 12]) (st := (sd96 va3p1_0)) (st1 := (sd97 va3p1_0)) (by kernel_rfl) (by (simp only [sd96, sd97, go_sem, List.length_set, Nat.reduceAdd, Nat.reduceEqDiff, Nat.reduceLT, Nat.reduceLeDiff, bI2, zg.idsL, zg.renL, zg.snapAll, z7.idsL, z7.renL, z7.snapAll]) <;> rfl)) (And.intro (And.intro (show zj [(1, ⟨va3p1_0.map S_Span.D, 2, false⟩)] 256 [1] [] = some [1] from (by (simp only [zj, go_sem, List.length_set, Nat.reduceAdd, Nat.reduceEqDiff, Nat.reduceLT, Nat.reduceLeDiff, bI2, zg.idsL, zg.renL, zg.snapAll, z7.idsL, z7.renL, z7.snapAll]) <;> rfl)) (T_sort 1 2 none va3p1_0 (by omega))) trivial))) (by kernel_rfl))) (And.intro p2 (And.intro h1 (And.intro p1 trivial)))) (by kernel_rfl)
      | x5 i4p1 x4p1 =>
        try dsimp only
        exact zt ((ranges_Difference_o1 a b va3p1_0) ++ [.inlS [1] (.tup [.sl true [] 0 none, I 2]) [(1, ⟨(zr zq va3p1_0).map S_Span.D, 2, false⟩), (2, ⟨[.agg [I x4p1.lo, I x4p1.hi]], 2, false⟩)] 3]) (And.intro (And.intro (show zj [(0, ⟨[.sl a.nl (a.l.map S_Span.D) (zsl a.nl 2) none, .sl b.nl (b.l.map S_Span.D) (zsl b.nl 2) none], 1, false⟩), (1, ⟨va3p1_0.map S_Span.D, 2, false⟩)] 256 [1] [] = some [1] from (by (simp only [zj, go_sem, List.length_set, Nat.reduceAdd, Nat.reduceEqDiff, Nat.reduceLT, Nat.reduceLeDiff, bI2, zg.idsL, zg.renL, zg.snapAll, z7.idsL, z7.renL, z7.snapAll]) <;> rfl)) (show (lim cfg).inl 69 [.lsl 1 0 va3p1_0.length 2 none] [(1, ⟨va3p1_0.map S_Span.D, 2, false⟩)] 2 = some (.tup [.sl true [] 0 none, I 2], [(1, ⟨(zr zq va3p1_0).map S_Span.D, 2, false⟩), (2, ⟨[.agg [I x4p1.lo, I x4p1.hi]], 2, false⟩)], 3) from po_inl [.inlS [1] (.tup []) [(1, ⟨(zr zq va3p1_0).map S_Span.D, 2, false⟩)] 2, .gloop (sd97 va3p1_0) .ret (sd103 va3p1_0 i4p1 x4p1)] (And.intro (po_lr (q := zn va3p1_0 (zr zq va3p1_0)) (lp_ranges_gathered_4p1 va3p1_0 (zr zq va3p1_0) (zr zq va3p1_0) 0 (List.drop_zero) (Nat.zero_le _) (by simp only [zR, GS.some_l, List.length_set, List.length_append, List.length_cons, List.length_nil] at * <;> first | with_reducible assumption | omega) (by simp only [zR, GS.some_l, List.length_set, List.length_append, List.length_cons, List.length_nil] at * <;> first | with_reducible assumption | omega)) h19) (And.intro (gc_of (C := cfg) (f := 69) (a := lp69_4) (ks := [4, 10, 11, 12]) (st := (sd96 va3p1_0)) (st1 := (sd97 va3p1_0)) (by kernel_rfl) (by (simp only [sd96, sd97, go_sem, List.length_set, Nat.reduceAdd, Nat.reduceEqDiff, Nat.reduceLT, Nat.reduceLeDiff, bI2, zg.idsL, zg.renL, zg.snapAll, z7.idsL, z7.renL, z7.snapAll]) <;> rfl)) (And.intro (And.intro (show zj [(1, ⟨va3p1_0.map S_Span.D, 2, false⟩)] 256 [1] [] = some [1] from (by (simp only [zj, go_sem, List.length_set, Nat.reduceAdd, Nat.reduceEqDiff, Nat.reduceLT, Nat.reduceLeDiff, bI2, zg.idsL, zg.renL, zg.snapAll, z7.idsL, z7.renL, z7.snapAll]) <;> rfl)) (T_sort 1 2 none va3p1_0 (by omega))) trivial))) (by kernel_rfl))) (And.intro p2 (And.intro h1 (And.intro p1 trivial)))) (by kernel_rfl)
    | x1 =>
      try dsimp only
      exact zt [.pure (I (zI (GS.some [a, b]))), .dec false, .inl (.sl true [] 0 none) [] 1, .inl (.tup [.sl true [] 0 none, I 0]) [] 1] (And.intro (show (lim cfg).inl 69 [.sl true [] 0 none] [] 1 = some (.tup [.sl true [] 0 none, I 0], [], 1) from po_inl [.inl (.tup []) [] 1, .loop (.exit 0) ⟨65, [(13, B false), (4, .sl true [] 0 none), (10, .sl true [] 0 none), (11, I 0), (12, I 0)], [], 1, 1⟩, .dec false] (And.intro (Eq.refl false) (And.intro (show (lim cfg).loop 69 lp69_4 ⟨65, [(4, .sl true [] 0 none), (10, .sl true [] 0 none), (11, I 0), (12, I 0)], [], 1, 1⟩ = some ((.exit 0), ⟨65, [(13, B false), (4, .sl true [] 0 none), (10, .sl true [] 0 none), (11, I 0), (12, I 0)], [], 1, 1⟩) from (po_last [.dec false] (And.intro (Eq.refl false) trivial) (by kernel_rfl))) (And.intro (T_sort_nil 1) trivial))) (by kernel_rfl)) (And.intro (show (lim cfg).inl 87 [.sl a.nl (a.l.map S_Span.D) (zsl a.nl 2) none, .sl b.nl (b.l.map S_Span.D) (zsl b.nl 2) none, .fn (.func 89) [] []] [] 1 = some (.sl true [] 0 none, [], 1) from po_inl [.rw 15 (I ((a.l.length : Nat) : Int)), .loop (.exit 0) (sd104 a b)] (And.intro (po_lr (q := lr_ranges_pairs_3p1 a b) (lp_ranges_pairs_3p1 a b a.l 0 (List.drop_zero) (Nat.zero_le _) (by omega) (by omega) (by omega)) h18) (And.intro (len_rw S_Span.D a) trivial)) (by kernel_rfl)) (And.intro h1 (And.intro p1 trivial)))) (by kernel_rfl)

def sd115 (a : GS S_Span) (b : GS S_Span) (i3p2 : Nat) (x3p2 : S_Span) (i6p4 : Nat) (x6p4 : S_Span) (v6p4_0 : List S_Span) : St := ⟨40, [(22, I ((i6p4 + 1 : Nat) : Int)), (37, I ((i6p4 + 1 : Nat) : Int)), (36, B false), (7, .lsl 1 0 v6p4_0.length 2 none), (35, .lsl 1 0 v6p4_0.length 2 none), (34, .sl (((zc x3p2 x6p4).1).nl) ((((zc x3p2 x6p4).1).l).map S_Span.D) (zsl (((zc x3p2 x6p4).1).nl) 2) none), (33, .lsl 1 0 v6p4_0.length 2 none), (13, B false), (12, .sl (((zc x3p2 x6p4).1).nl) ((((zc x3p2 x6p4).1).l).map S_Span.D) (zsl (((zc x3p2 x6p4).1).nl) 2) none), (32, B false), (31, .sl (((zc x3p2 x6p4).1).nl) ((((zc x3p2 x6p4).1).l).map S_Span.D) (zsl (((zc x3p2 x6p4).1).nl) 2) none), (26, .tup [.sl (((zc x3p2 x6p4).1).nl) ((((zc x3p2 x6p4).1).l).map S_Span.D) (zsl (((zc x3p2 x6p4).1).nl) 2) none, B ((zc x3p2 x6p4).2)]), (30, .tup [.sl (((zc x3p2 x6p4).1).nl) ((((zc x3p2 x6p4).1).l).map S_Span.D) (zsl (((zc x3p2 x6p4).1).nl) 2) none, B ((zc x3p2 x6p4).2)]), (29, .agg [I x6p4.lo, I x6p4.hi]), (28, .agg [I x3p2.lo, I x3p2.hi]), (27, .fn (.func 93) [] []), (11, .lref 3 0 2 0), (25, .agg [I x6p4.lo, I x6p4.hi]), (24, .ptr (.agg [I x6p4.lo, I x6p4.hi])), (23, B true), (1, .sl b.nl (b.l.map S_Span.D) (zsl b.nl 2) none), (2, .fn (.func 93) [] []), (7, .lsl 1 0 v6p4_0.length 2 none), (9, .lref 2 0 2 0), (14, .sl a.nl (a.l.map S_Span.D) (zsl a.nl 2) none), (15, I ((a.l.length : Nat) : Int)), (16, I ((i3p2 : Nat) : Int)), (20, .sl b.nl (b.l.map S_Span.D) (zsl b.nl 2) none), (21, I ((b.l.length : Nat) : Int)), (22, I ((i6p4 : Nat) : Int))], [(1, ⟨v6p4_0.map S_Span.D, 2, false⟩), (2, ⟨[.agg [I x3p2.lo, I x3p2.hi]], 2, false⟩), (3, ⟨[.agg [I x6p4.lo, I x6p4.hi]], 2, false⟩)], 4, 1⟩

def sd116 (a : GS S_Span) (b : GS S_Span) (i3p2 : Nat) (x3p2 : S_Span) (i6p4 : Nat) (x6p4 : S_Span) (v6p4_0 : List S_Span) : St := ⟨40, [(22, I ((i6p4 + 1 : Nat) : Int)), (37, I ((i6p4 + 1 : Nat) : Int)), (36, B false), (7, .lsl 4 0 ((v6p4_0 ++ (((zc x3p2 x6p4).1).l)).length) 2 none), (35, .lsl 4 0 ((v6p4_0 ++ (((zc x3p2 x6p4).1).l)).length) 2 none), (34, .sl (((zc x3p2 x6p4).1).nl) ((((zc x3p2 x6p4).1).l).map S_Span.D) (zsl (((zc x3p2 x6p4).1).nl) 2) none), (33, .lsl 1 0 v6p4_0.length 2 none), (13, B false), (12, .sl (((zc x3p2 x6p4).1).nl) ((((zc x3p2 x6p4).1).l).map S_Span.D) (zsl (((zc x3p2 x6p4).1).nl) 2) none), (32, B false), (31, .sl (((zc x3p2 x6p4).1).nl) ((((zc x3p2 x6p4).1).l).map S_Span.D) (zsl (((zc x3p2 x6p4).1).nl) 2) none), (26, .tup [.sl (((zc x3p2 x6p4).1).nl) ((((zc x3p2 x6p4).1).l).map S_Span.D) (zsl (((zc x3p2 x6p4).1).nl) 2) none, B ((zc x3p2 x6p4).2)]), (30, .tup [.sl (((zc x3p2 x6p4).1).nl) ((((zc x3p2 x6p4).1).l).map S_Span.D) (zsl (((zc x3p2 x6p4).1).nl) 2) none, B ((zc x3p2 x6p4).2)]), (29, .agg [I x6p4.lo, I x6p4.hi]), (28, .agg [I x3p2.lo, I x3p2.hi]), (27, .fn (.func 93) [] []), (11, .lref 3 0 2 0), (25, .agg [I x6p4.lo, I x6p4.hi]), (24, .ptr (.agg [I x6p4.lo, I x6p4.hi])), (23, B true), (1, .sl b.nl (b.l.map S_Span.D) (zsl b.nl 2) none), (2, .fn (.func 93) [] []), (7, .lsl 1 0 v6p4_0.length 2 none), (9, .lref 2 0 2 0), (14, .sl a.nl (a.l.map S_Span.D) (zsl a.nl 2) none), (15, I ((a.l.length : Nat) : Int)), (16, I ((i3p2 : Nat) : Int)), (20, .sl b.nl (b.l.map S_Span.D) (zsl b.nl 2) none), (21, I ((b.l.length : Nat) : Int)), (22, I ((i6p4 : Nat) : Int))], [(2, ⟨[.agg [I x3p2.lo, I x3p2.hi]], 2, false⟩), (3, ⟨[.agg [I x6p4.lo, I x6p4.hi]], 2, false⟩), (4, ⟨(v6p4_0 ++ (((zc x3p2 x6p4).1).l)).map S_Span.D, 2, false⟩)], 5, 1⟩

inductive LR_ranges_pairs_6p4 where
  | x0 (v6p4_0 : List S_Span)
instance : Inhabited LR_ranges_pairs_6p4 := ⟨.x0 default⟩
def zP (x3p2 : S_Span) : List S_Span → (List S_Span) → LR_ranges_pairs_6p4
  | [], v6p4_0 => .x0 v6p4_0
  | x6p4 :: rest6p4, v6p4_0 =>
    bif (((zc x3p2 x6p4).1).l).isEmpty then
      zP x3p2 rest6p4 v6p4_0
    else
      zP x3p2 rest6p4 (v6p4_0 ++ (((zc x3p2 x6p4).1).l))
def lr_ranges_pairs_6p4 (a : GS S_Span) (b : GS S_Span) (i3p2 : Nat) (x3p2 : S_Span) : LR_ranges_pairs_6p4 → Exit × St
  | .x0 v6p4_0 => ((.exit 2), ⟨40, [(23, B false), (1, .sl b.nl (b.l.map S_Span.D) (zsl b.nl 2) none), (2, .fn (.func 93) [] []), (7, .lsl 1 0 v6p4_0.length 2 none), (9, .lref 2 0 2 0), (14, .sl a.nl (a.l.map S_Span.D) (zsl a.nl 2) none), (15, I ((a.l.length : Nat) : Int)), (16, I ((i3p2 : Nat) : Int)), (20, .sl b.nl (b.l.map S_Span.D) (zsl b.nl 2) none), (21, I ((b.l.length : Nat) : Int)), (22, I ((b.l.length : Nat) : Int))], [(1, ⟨v6p4_0.map S_Span.D, 2, false⟩), (2, ⟨[.agg [I x3p2.lo, I x3p2.hi]], 2, false⟩)], 3, 1⟩)
def iv_ranges_pairs_6p4 (a : GS S_Span) (b : GS S_Span) (i3p2 : Nat) (x3p2 : S_Span) : LR_ranges_pairs_6p4 → Prop
  | .x0 v6p4_0 => (v6p4_0.length ≤ 65 * i3p2 + b.l.length)
theorem lp_ranges_pairs_6p4 (a : GS S_Span) (b : GS S_Span) (i3p2 : Nat) (x3p2 : S_Span) : ∀ (rest6p4 : List S_Span) (i6p4 : Nat) (v6p4_0 : List S_Span) (hd6p4 : b.l.drop i6p4 = rest6p4) (hi6p4 : i6p4 ≤ b.l.length) (hb65 : b.l.length ≤ 65) (ho64 : i3p2 < 64) (hg6p4_v6p4_0 : v6p4_0.length ≤ 65 * i3p2 + i6p4) (hL6p4 : b.l.length ≤ 1099511627776), (lim cfg).loop 87 lp87_6 ⟨40, [(1, .sl b.nl (b.l.map S_Span.D) (zsl b.nl 2) none), (2, .fn (.func 93) [] []), (7, .lsl 1 0 v6p4_0.length 2 none), (9, .lref 2 0 2 0), (14, .sl a.nl (a.l.map S_Span.D) (zsl a.nl 2) none), (15, I ((a.l.length : Nat) : Int)), (16, I ((i3p2 : Nat) : Int)), (20, .sl b.nl (b.l.map S_Span.D) (zsl b.nl 2) none), (21, I ((b.l.length : Nat) : Int)), (22, I ((i6p4 : Nat) : Int))], [(1, ⟨v6p4_0.map S_Span.D, 2, false⟩), (2, ⟨[.agg [I x3p2.lo, I x3p2.hi]], 2, false⟩)], 3, 1⟩ = some (lr_ranges_pairs_6p4 a b i3p2 x3p2 (zP x3p2 rest6p4 v6p4_0)) := by
  intro rest6p4
  induction rest6p4 with
  | nil =>
    intro i6p4 v6p4_0 hd6p4 hi6p4 hb65 ho64 hg6p4_v6p4_0 hL6p4
    unfold zP
    obtain rfl : i6p4 = b.l.length := nil_eq hd6p4 hi6p4
    exact po_last [.dec false] (And.intro (lt_no hd6p4) trivial) (by kernel_rfl)
  | cons x6p4 rest6p4 ih =>
    intro i6p4 v6p4_0 hd6p4 hi6p4 hb65 ho64 hg6p4_v6p4_0 hL6p4
    have hlt6p4 := zk hd6p4
    have hlx := common1_len x3p2 x6p4
    unfold zP
    cases h11 : (((zc x3p2 x6p4).1).l).isEmpty with
    | true =>
      exact po_turn' (ks := [1, 2, 7, 9, 14, 15, 16, 20, 21, 22]) (st' := (sd115 a b i3p2 x3p2 i6p4 x6p4 v6p4_0)) [.dec true, .el (.agg [I x6p4.lo, I x6p4.hi]), .pure (.tup [.sl (((zc x3p2 x6p4).1).nl) ((((zc x3p2 x6p4).1).l).map S_Span.D) (zsl (((zc x3p2 x6p4).1).nl) 2) none, B ((zc x3p2 x6p4).2)]), .dec false, .op (some 35) ⟨.lsl 1 0 v6p4_0.length 2 none, [], [], 4⟩, .rw 37 (I ((i6p4 + 1 : Nat) : Int))] (And.intro (inc_rw (i := i6p4) (by have := zk hd6p4; omega)) (And.intro (app_none (te := ty25) (gO := zu [(1, ⟨v6p4_0.map S_Span.D, 2, false⟩), (2, ⟨[.agg [I x3p2.lo, I x3p2.hi]], 2, false⟩), (3, ⟨[.agg [I x6p4.lo, I x6p4.hi]], 2, false⟩)]) (nxt := 4) (f := S_Span.D) (sz := 2) (d := .lsl 1 0 v6p4_0.length 2 none) ((zc x3p2 x6p4).1) h11 rfl) (And.intro (show ((zc x3p2 x6p4).2) = false from rfl) (And.intro (T_ranges_Common_1 x3p2 x6p4) (And.intro (el_at (s := b) (f := S_Span.D) (k := 2) hd6p4) (And.intro (lt_at hd6p4) trivial)))))) (by kernel_rfl) (by (simp only [sd115, go_sem, List.length_set, Nat.reduceAdd, Nat.reduceEqDiff, Nat.reduceLT, Nat.reduceLeDiff, bI2, zg.idsL, zg.renL, zg.snapAll, z7.idsL, z7.renL, z7.snapAll]) <;> rfl) (ih (i6p4 + 1) v6p4_0 (zm hd6p4) (zk hd6p4) (by omega) (by omega) (by omega) (by omega)) (by kernel_rfl)
    | false =>
      exact po_turn' (ks := [1, 2, 7, 9, 14, 15, 16, 20, 21, 22]) (st' := (sd116 a b i3p2 x3p2 i6p4 x6p4 v6p4_0)) [.dec true, .el (.agg [I x6p4.lo, I x6p4.hi]), .pure (.tup [.sl (((zc x3p2 x6p4).1).nl) ((((zc x3p2 x6p4).1).l).map S_Span.D) (zsl (((zc x3p2 x6p4).1).nl) 2) none, B ((zc x3p2 x6p4).2)]), .dec false, .op (some 35) ⟨.lsl 4 0 ((v6p4_0 ++ (((zc x3p2 x6p4).1).l)).length) 2 none, [(1, none), (4, some ⟨(v6p4_0 ++ (((zc x3p2 x6p4).1).l)).map S_Span.D, 2, false⟩)], [1], 5⟩, .rw 37 (I ((i6p4 + 1 : Nat) : Int))] (And.intro (inc_rw (i := i6p4) (by have := zk hd6p4; omega)) (And.intro (app_moreD (te := ty25) (gO := zu [(1, ⟨v6p4_0.map S_Span.D, 2, false⟩), (2, ⟨[.agg [I x3p2.lo, I x3p2.hi]], 2, false⟩), (3, ⟨[.agg [I x6p4.lo, I x6p4.hi]], 2, false⟩)]) (nxt := 4) (o := 1) (v := v6p4_0) z7 ((zc x3p2 x6p4).1) h11 (by kernel_rfl) rfl (by kernel_rfl) (by decide) ⟨by simp only [ty25, big] <;> (first | assumption | omega | (exact two_bd (by omega) (by omega)) | (exact add_some (by omega)) | (exact add_some' (by omega)) | (exact one_some (by omega)) | (exact one_some' (by omega)) | (simp only [zD] at * <;> omega) | (simp only [zR, GS.some_l, List.length_set, List.length_append, List.length_cons, List.length_nil] at * <;> first | with_reducible assumption | omega) | (simp only [zR, GS.some_l, List.length_set, List.length_append, List.length_cons, List.length_nil, zD] at * <;> first | with_reducible assumption | omega) | (simp at * <;> omega)), by simp only [big] <;> (first | assumption | omega | (exact two_bd (by omega) (by omega)) | (exact add_some (by omega)) | (exact add_some' (by omega)) | (exact one_some (by omega)) | (exact one_some' (by omega)) | (simp only [zD] at * <;> omega) | (simp only [zR, GS.some_l, List.length_set, List.length_append, List.length_cons, List.length_nil] at * <;> first | with_reducible assumption | omega) | (simp only [zR, GS.some_l, List.length_set, List.length_append, List.length_cons, List.length_nil, zD] at * <;> first | with_reducible assumption | omega) | (simp at * <;> omega))⟩) (And.intro (show ((zc x3p2 x6p4).2) = false from rfl) (And.intro (T_ranges_Common_1 x3p2 x6p4) (And.intro (el_at (s := b) (f := S_Span.D) (k := 2) hd6p4) (And.intro (lt_at hd6p4) trivial)))))) (by kernel_rfl) (by (simp only [sd116, go_sem, List.length_set, Nat.reduceAdd, Nat.reduceEqDiff, Nat.reduceLT, Nat.reduceLeDiff, bI2, zg.idsL, zg.renL, zg.snapAll, z7.idsL, z7.renL, z7.snapAll]) <;> rfl) (ih (i6p4 + 1) (v6p4_0 ++ (((zc x3p2 x6p4).1).l)) (zm hd6p4) (zk hd6p4) (by omega) (by omega) (by simp only [List.length_append, List.length_cons, List.length_nil] at * <;> omega) (by omega)) (by kernel_rfl)
theorem ivt_ranges_pairs_6p4 (a : GS S_Span) (b : GS S_Span) (i3p2 : Nat) (x3p2 : S_Span) : ∀ (rest6p4 : List S_Span) (i6p4 : Nat) (v6p4_0 : List S_Span) (hd6p4 : b.l.drop i6p4 = rest6p4) (hi6p4 : i6p4 ≤ b.l.length) (hb65 : b.l.length ≤ 65) (ho64 : i3p2 < 64) (hg6p4_v6p4_0 : v6p4_0.length ≤ 65 * i3p2 + i6p4) (hL6p4 : b.l.length ≤ 1099511627776), iv_ranges_pairs_6p4 a b i3p2 x3p2 (zP x3p2 rest6p4 v6p4_0) := by
  intro rest6p4
  induction rest6p4 with
  | nil =>
    intro i6p4 v6p4_0 hd6p4 hi6p4 hb65 ho64 hg6p4_v6p4_0 hL6p4
    unfold zP
    obtain rfl : i6p4 = b.l.length := nil_eq hd6p4 hi6p4
    exact hg6p4_v6p4_0
  | cons x6p4 rest6p4 ih =>
    intro i6p4 v6p4_0 hd6p4 hi6p4 hb65 ho64 hg6p4_v6p4_0 hL6p4
    have hlt6p4 := zk hd6p4
    have hlx := common1_len x3p2 x6p4
    unfold zP
    cases h11 : (((zc x3p2 x6p4).1).l).isEmpty with
    | true =>
      exact ih (i6p4 + 1) v6p4_0 (zm hd6p4) (zk hd6p4) (by omega) (by omega) (by omega) (by omega)
    | false =>
      exact ih (i6p4 + 1) (v6p4_0 ++ (((zc x3p2 x6p4).1).l)) (zm hd6p4) (zk hd6p4) (by omega) (by omega) (by simp only [List.length_append, List.length_cons, List.length_nil] at * <;> omega) (by omega)

def sd118 (a : GS S_Span) (b : GS S_Span) (i3p2 : Nat) (x3p2 : S_Span) (i6p5 : Nat) (x6p5 : S_Span) (va6p5_0 : List S_Span) : St := ⟨40, [(22, I ((i6p5 + 1 : Nat) : Int)), (37, I ((i6p5 + 1 : Nat) : Int)), (36, B false), (7, .lsl 1 0 va6p5_0.length 2 none), (35, .lsl 1 0 va6p5_0.length 2 none), (34, .sl (((zc x3p2 x6p5).1).nl) ((((zc x3p2 x6p5).1).l).map S_Span.D) (zsl (((zc x3p2 x6p5).1).nl) 2) none), (33, .lsl 1 0 va6p5_0.length 2 none), (13, B false), (12, .sl (((zc x3p2 x6p5).1).nl) ((((zc x3p2 x6p5).1).l).map S_Span.D) (zsl (((zc x3p2 x6p5).1).nl) 2) none), (32, B false), (31, .sl (((zc x3p2 x6p5).1).nl) ((((zc x3p2 x6p5).1).l).map S_Span.D) (zsl (((zc x3p2 x6p5).1).nl) 2) none), (26, .tup [.sl (((zc x3p2 x6p5).1).nl) ((((zc x3p2 x6p5).1).l).map S_Span.D) (zsl (((zc x3p2 x6p5).1).nl) 2) none, B ((zc x3p2 x6p5).2)]), (30, .tup [.sl (((zc x3p2 x6p5).1).nl) ((((zc x3p2 x6p5).1).l).map S_Span.D) (zsl (((zc x3p2 x6p5).1).nl) 2) none, B ((zc x3p2 x6p5).2)]), (29, .agg [I x6p5.lo, I x6p5.hi]), (28, .agg [I x3p2.lo, I x3p2.hi]), (27, .fn (.func 93) [] []), (11, .lref 3 0 2 0), (25, .agg [I x6p5.lo, I x6p5.hi]), (24, .ptr (.agg [I x6p5.lo, I x6p5.hi])), (23, B true), (1, .sl b.nl (b.l.map S_Span.D) (zsl b.nl 2) none), (2, .fn (.func 93) [] []), (7, .lsl 1 0 va6p5_0.length 2 none), (9, .lref 2 0 2 0), (14, .sl a.nl (a.l.map S_Span.D) (zsl a.nl 2) none), (15, I ((a.l.length : Nat) : Int)), (16, I ((i3p2 : Nat) : Int)), (20, .sl b.nl (b.l.map S_Span.D) (zsl b.nl 2) none), (21, I ((b.l.length : Nat) : Int)), (22, I ((i6p5 : Nat) : Int))], [(1, ⟨va6p5_0.map S_Span.D, 2, false⟩), (2, ⟨[.agg [I x3p2.lo, I x3p2.hi]], 2, false⟩), (3, ⟨[.agg [I x6p5.lo, I x6p5.hi]], 2, false⟩)], 4, 1⟩

def sd119 (a : GS S_Span) (b : GS S_Span) (i3p2 : Nat) (x3p2 : S_Span) (i6p5 : Nat) (x6p5 : S_Span) (va6p5_0 : List S_Span) : St := ⟨40, [(22, I ((i6p5 + 1 : Nat) : Int)), (37, I ((i6p5 + 1 : Nat) : Int)), (36, B false), (7, .lsl 4 0 ((va6p5_0 ++ (((zc x3p2 x6p5).1).l)).length) 2 none), (35, .lsl 4 0 ((va6p5_0 ++ (((zc x3p2 x6p5).1).l)).length) 2 none), (34, .sl (((zc x3p2 x6p5).1).nl) ((((zc x3p2 x6p5).1).l).map S_Span.D) (zsl (((zc x3p2 x6p5).1).nl) 2) none), (33, .lsl 1 0 va6p5_0.length 2 none), (13, B false), (12, .sl (((zc x3p2 x6p5).1).nl) ((((zc x3p2 x6p5).1).l).map S_Span.D) (zsl (((zc x3p2 x6p5).1).nl) 2) none), (32, B false), (31, .sl (((zc x3p2 x6p5).1).nl) ((((zc x3p2 x6p5).1).l).map S_Span.D) (zsl (((zc x3p2 x6p5).1).nl) 2) none), (26, .tup [.sl (((zc x3p2 x6p5).1).nl) ((((zc x3p2 x6p5).1).l).map S_Span.D) (zsl (((zc x3p2 x6p5).1).nl) 2) none, B ((zc x3p2 x6p5).2)]), (30, .tup [.sl (((zc x3p2 x6p5).1).nl) ((((zc x3p2 x6p5).1).l).map S_Span.D) (zsl (((zc x3p2 x6p5).1).nl) 2) none, B ((zc x3p2 x6p5).2)]), (29, .agg [I x6p5.lo, I x6p5.hi]), (28, .agg [I x3p2.lo, I x3p2.hi]), (27, .fn (.func 93) [] []), (11, .lref 3 0 2 0), (25, .agg [I x6p5.lo, I x6p5.hi]), (24, .ptr (.agg [I x6p5.lo, I x6p5.hi])), (23, B true), (1, .sl b.nl (b.l.map S_Span.D) (zsl b.nl 2) none), (2, .fn (.func 93) [] []), (7, .lsl 1 0 va6p5_0.length 2 none), (9, .lref 2 0 2 0), (14, .sl a.nl (a.l.map S_Span.D) (zsl a.nl 2) none), (15, I ((a.l.length : Nat) : Int)), (16, I ((i3p2 : Nat) : Int)), (20, .sl b.nl (b.l.map S_Span.D) (zsl b.nl 2) none), (21, I ((b.l.length : Nat) : Int)), (22, I ((i6p5 : Nat) : Int))], [(2, ⟨[.agg [I x3p2.lo, I x3p2.hi]], 2, false⟩), (3, ⟨[.agg [I x6p5.lo, I x6p5.hi]], 2, false⟩), (4, ⟨(va6p5_0 ++ (((zc x3p2 x6p5).1).l)).map S_Span.D, 2, false⟩)], 5, 1⟩

def sd120 (a : GS S_Span) (b : GS S_Span) (i3p2 : Nat) (x3p2 : S_Span) (i6p5 : Nat) (x6p5 : S_Span) : St := ⟨40, [(22, I ((i6p5 + 1 : Nat) : Int)), (37, I ((i6p5 + 1 : Nat) : Int)), (36, B false), (7, .lsl 3 0 ((((zc x3p2 x6p5).1).l).length) 2 none), (35, .lsl 3 0 ((((zc x3p2 x6p5).1).l).length) 2 none), (34, .sl (((zc x3p2 x6p5).1).nl) ((((zc x3p2 x6p5).1).l).map S_Span.D) (zsl (((zc x3p2 x6p5).1).nl) 2) none), (33, .sl true [] 0 none), (13, B false), (12, .sl (((zc x3p2 x6p5).1).nl) ((((zc x3p2 x6p5).1).l).map S_Span.D) (zsl (((zc x3p2 x6p5).1).nl) 2) none), (32, B false), (31, .sl (((zc x3p2 x6p5).1).nl) ((((zc x3p2 x6p5).1).l).map S_Span.D) (zsl (((zc x3p2 x6p5).1).nl) 2) none), (26, .tup [.sl (((zc x3p2 x6p5).1).nl) ((((zc x3p2 x6p5).1).l).map S_Span.D) (zsl (((zc x3p2 x6p5).1).nl) 2) none, B ((zc x3p2 x6p5).2)]), (30, .tup [.sl (((zc x3p2 x6p5).1).nl) ((((zc x3p2 x6p5).1).l).map S_Span.D) (zsl (((zc x3p2 x6p5).1).nl) 2) none, B ((zc x3p2 x6p5).2)]), (29, .agg [I x6p5.lo, I x6p5.hi]), (28, .agg [I x3p2.lo, I x3p2.hi]), (27, .fn (.func 93) [] []), (11, .lref 2 0 2 0), (25, .agg [I x6p5.lo, I x6p5.hi]), (24, .ptr (.agg [I x6p5.lo, I x6p5.hi])), (23, B true), (1, .sl b.nl (b.l.map S_Span.D) (zsl b.nl 2) none), (2, .fn (.func 93) [] []), (7, .sl true [] 0 none), (9, .lref 1 0 2 0), (14, .sl a.nl (a.l.map S_Span.D) (zsl a.nl 2) none), (15, I ((a.l.length : Nat) : Int)), (16, I ((i3p2 : Nat) : Int)), (20, .sl b.nl (b.l.map S_Span.D) (zsl b.nl 2) none), (21, I ((b.l.length : Nat) : Int)), (22, I ((i6p5 : Nat) : Int))], [(1, ⟨[.agg [I x3p2.lo, I x3p2.hi]], 2, false⟩), (2, ⟨[.agg [I x6p5.lo, I x6p5.hi]], 2, false⟩), (3, ⟨(((zc x3p2 x6p5).1).l).map S_Span.D, 2, false⟩)], 4, 1⟩

inductive LR_ranges_pairs_6p5 where
  | x0 (va6p5_0 : List S_Span)
  | x1
instance : Inhabited LR_ranges_pairs_6p5 := ⟨.x0 default⟩
def zV (x3p2 : S_Span) : List S_Span → (List S_Span) → LR_ranges_pairs_6p5
  | [], va6p5_0 => .x0 va6p5_0
  | x6p5 :: rest6p5, va6p5_0 =>
    bif (((zc x3p2 x6p5).1).l).isEmpty then
      zV x3p2 rest6p5 va6p5_0
    else
      zV x3p2 rest6p5 (va6p5_0 ++ (((zc x3p2 x6p5).1).l))
def ranges_pairs_6p5 (x3p2 : S_Span) : List S_Span → LR_ranges_pairs_6p5
  | [] => .x1
  | x6p5 :: rest6p5 =>
    bif (((zc x3p2 x6p5).1).l).isEmpty then
      ranges_pairs_6p5 x3p2 rest6p5
    else
      zV x3p2 rest6p5 (((zc x3p2 x6p5).1).l)
def lr_ranges_pairs_6p5 (a : GS S_Span) (b : GS S_Span) (i3p2 : Nat) (x3p2 : S_Span) : LR_ranges_pairs_6p5 → Exit × St
  | .x0 va6p5_0 => ((.exit 2), ⟨40, [(23, B false), (1, .sl b.nl (b.l.map S_Span.D) (zsl b.nl 2) none), (2, .fn (.func 93) [] []), (7, .lsl 1 0 va6p5_0.length 2 none), (9, .lref 2 0 2 0), (14, .sl a.nl (a.l.map S_Span.D) (zsl a.nl 2) none), (15, I ((a.l.length : Nat) : Int)), (16, I ((i3p2 : Nat) : Int)), (20, .sl b.nl (b.l.map S_Span.D) (zsl b.nl 2) none), (21, I ((b.l.length : Nat) : Int)), (22, I ((b.l.length : Nat) : Int))], [(1, ⟨va6p5_0.map S_Span.D, 2, false⟩), (2, ⟨[.agg [I x3p2.lo, I x3p2.hi]], 2, false⟩)], 3, 1⟩)
  | .x1 => ((.exit 2), ⟨40, [(23, B false), (1, .sl b.nl (b.l.map S_Span.D) (zsl b.nl 2) none), (2, .fn (.func 93) [] []), (7, .sl true [] 0 none), (9, .lref 1 0 2 0), (14, .sl a.nl (a.l.map S_Span.D) (zsl a.nl 2) none), (15, I ((a.l.length : Nat) : Int)), (16, I ((i3p2 : Nat) : Int)), (20, .sl b.nl (b.l.map S_Span.D) (zsl b.nl 2) none), (21, I ((b.l.length : Nat) : Int)), (22, I ((b.l.length : Nat) : Int))], [(1, ⟨[.agg [I x3p2.lo, I x3p2.hi]], 2, false⟩)], 2, 1⟩)
def iv_ranges_pairs_6p5 (a : GS S_Span) (b : GS S_Span) (i3p2 : Nat) (x3p2 : S_Span) : LR_ranges_pairs_6p5 → Prop
  | .x0 va6p5_0 => (va6p5_0.length ≤ 65 * i3p2 + b.l.length)
  | .x1 => True
theorem lp_ranges_pairs_6p5a (a : GS S_Span) (b : GS S_Span) (i3p2 : Nat) (x3p2 : S_Span) : ∀ (rest6p5 : List S_Span) (i6p5 : Nat) (va6p5_0 : List S_Span) (hd6p5 : b.l.drop i6p5 = rest6p5) (hi6p5 : i6p5 ≤ b.l.length) (hb65 : b.l.length ≤ 65) (ho64 : i3p2 < 64) (hg6p5_va6p5_0 : va6p5_0.length ≤ 65 * i3p2 + i6p5) (hL6p5 : b.l.length ≤ 1099511627776), (lim cfg).loop 87 lp87_6 ⟨40, [(1, .sl b.nl (b.l.map S_Span.D) (zsl b.nl 2) none), (2, .fn (.func 93) [] []), (7, .lsl 1 0 va6p5_0.length 2 none), (9, .lref 2 0 2 0), (14, .sl a.nl (a.l.map S_Span.D) (zsl a.nl 2) none), (15, I ((a.l.length : Nat) : Int)), (16, I ((i3p2 : Nat) : Int)), (20, .sl b.nl (b.l.map S_Span.D) (zsl b.nl 2) none), (21, I ((b.l.length : Nat) : Int)), (22, I ((i6p5 : Nat) : Int))], [(1, ⟨va6p5_0.map S_Span.D, 2, false⟩), (2, ⟨[.agg [I x3p2.lo, I x3p2.hi]], 2, false⟩)], 3, 1⟩ = some (lr_ranges_pairs_6p5 a b i3p2 x3p2 (zV x3p2 rest6p5 va6p5_0)) := by
  intro rest6p5
  induction rest6p5 with
  | nil =>
    intro i6p5 va6p5_0 hd6p5 hi6p5 hb65 ho64 hg6p5_va6p5_0 hL6p5
    unfold zV
    obtain rfl : i6p5 = b.l.length := nil_eq hd6p5 hi6p5
    exact po_last [.dec false] (And.intro (lt_no hd6p5) trivial) (by kernel_rfl)
  | cons x6p5 rest6p5 ih =>
    intro i6p5 va6p5_0 hd6p5 hi6p5 hb65 ho64 hg6p5_va6p5_0 hL6p5
    have hlt6p5 := zk hd6p5
    have hlx := common1_len x3p2 x6p5
    unfold zV
    cases h15 : (((zc x3p2 x6p5).1).l).isEmpty with
    | true =>
      exact po_turn' (ks := [1, 2, 7, 9, 14, 15, 16, 20, 21, 22]) (st' := (sd118 a b i3p2 x3p2 i6p5 x6p5 va6p5_0)) [.dec true, .el (.agg [I x6p5.lo, I x6p5.hi]), .pure (.tup [.sl (((zc x3p2 x6p5).1).nl) ((((zc x3p2 x6p5).1).l).map S_Span.D) (zsl (((zc x3p2 x6p5).1).nl) 2) none, B ((zc x3p2 x6p5).2)]), .dec false, .op (some 35) ⟨.lsl 1 0 va6p5_0.length 2 none, [], [], 4⟩, .rw 37 (I ((i6p5 + 1 : Nat) : Int))] (And.intro (inc_rw (i := i6p5) (by have := zk hd6p5; omega)) (And.intro (app_none (te := ty25) (gO := zu [(1, ⟨va6p5_0.map S_Span.D, 2, false⟩), (2, ⟨[.agg [I x3p2.lo, I x3p2.hi]], 2, false⟩), (3, ⟨[.agg [I x6p5.lo, I x6p5.hi]], 2, false⟩)]) (nxt := 4) (f := S_Span.D) (sz := 2) (d := .lsl 1 0 va6p5_0.length 2 none) ((zc x3p2 x6p5).1) h15 rfl) (And.intro (show ((zc x3p2 x6p5).2) = false from rfl) (And.intro (T_ranges_Common_1 x3p2 x6p5) (And.intro (el_at (s := b) (f := S_Span.D) (k := 2) hd6p5) (And.intro (lt_at hd6p5) trivial)))))) (by kernel_rfl) (by (simp only [sd118, go_sem, List.length_set, Nat.reduceAdd, Nat.reduceEqDiff, Nat.reduceLT, Nat.reduceLeDiff, bI2, zg.idsL, zg.renL, zg.snapAll, z7.idsL, z7.renL, z7.snapAll]) <;> rfl) (ih (i6p5 + 1) va6p5_0 (zm hd6p5) (zk hd6p5) (by omega) (by omega) (by omega) (by omega)) (by kernel_rfl)
    | false =>
      exact po_turn' (ks := [1, 2, 7, 9, 14, 15, 16, 20, 21, 22]) (st' := (sd119 a b i3p2 x3p2 i6p5 x6p5 va6p5_0)) [.dec true, .el (.agg [I x6p5.lo, I x6p5.hi]), .pure (.tup [.sl (((zc x3p2 x6p5).1).nl) ((((zc x3p2 x6p5).1).l).map S_Span.D) (zsl (((zc x3p2 x6p5).1).nl) 2) none, B ((zc x3p2 x6p5).2)]), .dec false, .op (some 35) ⟨.lsl 4 0 ((va6p5_0 ++ (((zc x3p2 x6p5).1).l)).length) 2 none, [(1, none), (4, some ⟨(va6p5_0 ++ (((zc x3p2 x6p5).1).l)).map S_Span.D, 2, false⟩)], [1], 5⟩, .rw 37 (I ((i6p5 + 1 : Nat) : Int))] (And.intro (inc_rw (i := i6p5) (by have := zk hd6p5; omega)) (And.intro (app_moreD (te := ty25) (gO := zu [(1, ⟨va6p5_0.map S_Span.D, 2, false⟩), (2, ⟨[.agg [I x3p2.lo, I x3p2.hi]], 2, false⟩), (3, ⟨[.agg [I x6p5.lo, I x6p5.hi]], 2, false⟩)]) (nxt := 4) (o := 1) (v := va6p5_0) z7 ((zc x3p2 x6p5).1) h15 (by kernel_rfl) rfl (by kernel_rfl) (by decide) ⟨by simp only [ty25, big] <;> (first | assumption | omega | (exact two_bd (by omega) (by omega)) | (exact add_some (by omega)) | (exact add_some' (by omega)) | (exact one_some (by omega)) | (exact one_some' (by omega)) | (simp only [zD] at * <;> omega) | (simp only [zR, GS.some_l, List.length_set, List.length_append, List.length_cons, List.length_nil] at * <;> first | with_reducible assumption | omega) | (simp only [zR, GS.some_l, List.length_set, List.length_append, List.length_cons, List.length_nil, zD] at * <;> first | with_reducible assumption | omega) | (simp at * <;> omega)), by simp only [big] <;> (first | assumption | omega | (exact two_bd (by omega) (by omega)) | (exact add_some (by omega)) | (exact add_some' (by omega)) | (exact one_some (by omega)) | (exact one_some' (by omega)) | (simp only [zD] at * <;> omega) | (simp only [zR, GS.some_l, List.length_set, List.length_append, List.length_cons, List.length_nil] at * <;> first | with_reducible assumption | omega) | (simp only [zR, GS.some_l, List.length_set, List.length_append, List.length_cons, List.length_nil, zD] at * <;> first | with_reducible assumption | omega) | (simp at * <;> omega))⟩) (And.intro (show ((zc x3p2 x6p5).2) = false from rfl) (And.intro (T_ranges_Common_1 x3p2 x6p5) (And.intro (el_at (s := b) (f := S_Span.D) (k := 2) hd6p5) (And.intro (lt_at hd6p5) trivial)))))) (by kernel_rfl) (by (simp only [sd119, go_sem, List.length_set, Nat.reduceAdd, Nat.reduceEqDiff, Nat.reduceLT, Nat.reduceLeDiff, bI2, zg.idsL, zg.renL, zg.snapAll, z7.idsL, z7.renL, z7.snapAll]) <;> rfl) (ih (i6p5 + 1) (va6p5_0 ++ (((zc x3p2 x6p5).1).l)) (zm hd6p5) (zk hd6p5) (by omega) (by omega) (by simp only [List.length_append, List.length_cons, List.length_nil] at * <;> omega) (by omega)) (by kernel_rfl)
theorem ivt_ranges_pairs_6p5a (a : GS S_Span) (b : GS S_Span) (i3p2 : Nat) (x3p2 : S_Span) : ∀ (rest6p5 : List S_Span) (i6p5 : Nat) (va6p5_0 : List S_Span) (hd6p5 : b.l.drop i6p5 = rest6p5) (hi6p5 : i6p5 ≤ b.l.length) (hb65 : b.l.length ≤ 65) (ho64 : i3p2 < 64) (hg6p5_va6p5_0 : va6p5_0.length ≤ 65 * i3p2 + i6p5) (hL6p5 : b.l.length ≤ 1099511627776), iv_ranges_pairs_6p5 a b i3p2 x3p2 (zV x3p2 rest6p5 va6p5_0) := by
  intro rest6p5
  induction rest6p5 with
  | nil =>
    intro i6p5 va6p5_0 hd6p5 hi6p5 hb65 ho64 hg6p5_va6p5_0 hL6p5
    unfold zV
    obtain rfl : i6p5 = b.l.length := nil_eq hd6p5 hi6p5
    exact hg6p5_va6p5_0
  | cons x6p5 rest6p5 ih =>
    intro i6p5 va6p5_0 hd6p5 hi6p5 hb65 ho64 hg6p5_va6p5_0 hL6p5
    have hlt6p5 := zk hd6p5
    have hlx := common1_len x3p2 x6p5
    unfold zV
    cases h15 : (((zc x3p2 x6p5).1).l).isEmpty with
    | true =>
      exact ih (i6p5 + 1) va6p5_0 (zm hd6p5) (zk hd6p5) (by omega) (by omega) (by omega) (by omega)
    | false =>
      exact ih (i6p5 + 1) (va6p5_0 ++ (((zc x3p2 x6p5).1).l)) (zm hd6p5) (zk hd6p5) (by omega) (by omega) (by simp only [List.length_append, List.length_cons, List.length_nil] at * <;> omega) (by omega)
theorem lp_ranges_pairs_6p5 (a : GS S_Span) (b : GS S_Span) (i3p2 : Nat) (x3p2 : S_Span) : ∀ (rest6p5 : List S_Span) (i6p5 : Nat) (hd6p5 : b.l.drop i6p5 = rest6p5) (hi6p5 : i6p5 ≤ b.l.length) (hb65 : b.l.length ≤ 65) (ho64 : i3p2 < 64) (hL6p5 : b.l.length ≤ 1099511627776), (lim cfg).loop 87 lp87_6 ⟨40, [(1, .sl b.nl (b.l.map S_Span.D) (zsl b.nl 2) none), (2, .fn (.func 93) [] []), (7, .sl true [] 0 none), (9, .lref 1 0 2 0), (14, .sl a.nl (a.l.map S_Span.D) (zsl a.nl 2) none), (15, I ((a.l.length : Nat) : Int)), (16, I ((i3p2 : Nat) : Int)), (20, .sl b.nl (b.l.map S_Span.D) (zsl b.nl 2) none), (21, I ((b.l.length : Nat) : Int)), (22, I ((i6p5 : Nat) : Int))], [(1, ⟨[.agg [I x3p2.lo, I x3p2.hi]], 2, false⟩)], 2, 1⟩ = some (lr_ranges_pairs_6p5 a b i3p2 x3p2 (ranges_pairs_6p5 x3p2 rest6p5)) := by
  intro rest6p5
  induction rest6p5 with
  | nil =>
    intro i6p5 hd6p5 hi6p5 hb65 ho64 hL6p5
    unfold ranges_pairs_6p5
    obtain rfl : i6p5 = b.l.length := nil_eq hd6p5 hi6p5
    exact po_last [.dec false] (And.intro (lt_no hd6p5) trivial) (by kernel_rfl)
  | cons x6p5 rest6p5 ih =>
    intro i6p5 hd6p5 hi6p5 hb65 ho64 hL6p5
    have hlt6p5 := zk hd6p5
    have hlx := common1_len x3p2 x6p5
    unfold ranges_pairs_6p5
    cases h16 : (((zc x3p2 x6p5).1).l).isEmpty with
    | true =>
      exact po_turn [.dec true, .el (.agg [I x6p5.lo, I x6p5.hi]), .pure (.tup [.sl (((zc x3p2 x6p5).1).nl) ((((zc x3p2 x6p5).1).l).map S_Span.D) (zsl (((zc x3p2 x6p5).1).nl) 2) none, B ((zc x3p2 x6p5).2)]), .dec false, .op (some 35) ⟨.sl true [] 0 none, [], [], 3⟩, .rw 37 (I ((i6p5 + 1 : Nat) : Int))] (And.intro (inc_rw (i := i6p5) (by have := zk hd6p5; omega)) (And.intro (app_none (te := ty25) (gO := zu [(1, ⟨[.agg [I x3p2.lo, I x3p2.hi]], 2, false⟩), (2, ⟨[.agg [I x6p5.lo, I x6p5.hi]], 2, false⟩)]) (nxt := 3) (f := S_Span.D) (sz := 2) (d := .sl true [] 0 none) ((zc x3p2 x6p5).1) h16 rfl) (And.intro (show ((zc x3p2 x6p5).2) = false from rfl) (And.intro (T_ranges_Common_1 x3p2 x6p5) (And.intro (el_at (s := b) (f := S_Span.D) (k := 2) hd6p5) (And.intro (lt_at hd6p5) trivial)))))) (ih (i6p5 + 1) (zm hd6p5) (zk hd6p5) (by omega) (by omega) (by omega)) (by kernel_rfl)
    | false =>
      exact po_turn' (ks := [1, 2, 7, 9, 14, 15, 16, 20, 21, 22]) (st' := (sd120 a b i3p2 x3p2 i6p5 x6p5)) [.dec true, .el (.agg [I x6p5.lo, I x6p5.hi]), .pure (.tup [.sl (((zc x3p2 x6p5).1).nl) ((((zc x3p2 x6p5).1).l).map S_Span.D) (zsl (((zc x3p2 x6p5).1).nl) 2) none, B ((zc x3p2 x6p5).2)]), .dec false, .op (some 35) ⟨.lsl 3 0 ((((zc x3p2 x6p5).1).l).length) 2 none, [(3, some ⟨(((zc x3p2 x6p5).1).l).map S_Span.D, 2, false⟩)], [], 4⟩, .rw 37 (I ((i6p5 + 1 : Nat) : Int))] (And.intro (inc_rw (i := i6p5) (by have := zk hd6p5; omega)) (And.intro (app_newD (te := ty25) (gO := zu [(1, ⟨[.agg [I x3p2.lo, I x3p2.hi]], 2, false⟩), (2, ⟨[.agg [I x6p5.lo, I x6p5.hi]], 2, false⟩)]) (nxt := 3) (els0 := []) (sz0 := 0) (cap0 := none) z7 ((zc x3p2 x6p5).1) h16 rfl (by kernel_rfl) (by decide) ⟨by simp only [ty25, big] <;> (first | assumption | omega | (exact two_bd (by omega) (by omega)) | (exact add_some (by omega)) | (exact add_some' (by omega)) | (exact one_some (by omega)) | (exact one_some' (by omega)) | (simp only [zD] at * <;> omega) | (simp only [zR, GS.some_l, List.length_set, List.length_append, List.length_cons, List.length_nil] at * <;> first | with_reducible assumption | omega) | (simp only [zR, GS.some_l, List.length_set, List.length_append, List.length_cons, List.length_nil, zD] at * <;> first | with_reducible assumption | omega) | (simp at * <;> omega)), by simp only [big] <;> (first | assumption | omega | (exact two_bd (by omega) (by omega)) | (exact add_some (by omega)) | (exact add_some' (by omega)) | (exact one_some (by omega)) | (exact one_some' (by omega)) | (simp only [zD] at * <;> omega) | (simp only [zR, GS.some_l, List.length_set, List.length_append, List.length_cons, List.length_nil] at * <;> first | with_reducible assumption | omega) | (simp only [zR, GS.some_l, List.length_set, List.length_append, List.length_cons, List.length_nil, zD] at * <;> first | with_reducible assumption | omega) | (simp at * <;> omega))⟩) (And.intro (show ((zc x3p2 x6p5).2) = false from rfl) (And.intro (T_ranges_Common_1 x3p2 x6p5) (And.intro (el_at (s := b) (f := S_Span.D) (k := 2) hd6p5) (And.intro (lt_at hd6p5) trivial)))))) (by kernel_rfl) (by (simp only [sd120, go_sem, List.length_set, Nat.reduceAdd, Nat.reduceEqDiff, Nat.reduceLT, Nat.reduceLeDiff, bI2, zg.idsL, zg.renL, zg.snapAll, z7.idsL, z7.renL, z7.snapAll]) <;> rfl) (lp_ranges_pairs_6p5a a b i3p2 x3p2 _ (i6p5 + 1) (((zc x3p2 x6p5).1).l) (zm hd6p5) (zk hd6p5) (by omega) (by omega) (by omega) (by omega)) (by kernel_rfl)
theorem ivt_ranges_pairs_6p5 (a : GS S_Span) (b : GS S_Span) (i3p2 : Nat) (x3p2 : S_Span) : ∀ (rest6p5 : List S_Span) (i6p5 : Nat) (hd6p5 : b.l.drop i6p5 = rest6p5) (hi6p5 : i6p5 ≤ b.l.length) (hb65 : b.l.length ≤ 65) (ho64 : i3p2 < 64) (hL6p5 : b.l.length ≤ 1099511627776), iv_ranges_pairs_6p5 a b i3p2 x3p2 (ranges_pairs_6p5 x3p2 rest6p5) := by
  intro rest6p5
  induction rest6p5 with
  | nil =>
    intro i6p5 hd6p5 hi6p5 hb65 ho64 hL6p5
    unfold ranges_pairs_6p5
    obtain rfl : i6p5 = b.l.length := nil_eq hd6p5 hi6p5
    exact trivial
  | cons x6p5 rest6p5 ih =>
    intro i6p5 hd6p5 hi6p5 hb65 ho64 hL6p5
    have hlt6p5 := zk hd6p5
    have hlx := common1_len x3p2 x6p5
    unfold ranges_pairs_6p5
    cases h16 : (((zc x3p2 x6p5).1).l).isEmpty with
    | true =>
      exact ih (i6p5 + 1) (zm hd6p5) (zk hd6p5) (by omega) (by omega) (by omega)
    | false =>
      exact ivt_ranges_pairs_6p5a a b i3p2 x3p2 _ (i6p5 + 1) (((zc x3p2 x6p5).1).l) (zm hd6p5) (zk hd6p5) (by omega) (by omega) (by omega) (by omega)

def sd122 (a : GS S_Span) (b : GS S_Span) (i3p2 : Nat) (x3p2 : S_Span) (v6p4_0 : List S_Span) : St := ⟨40, [(16, I ((i3p2 + 1 : Nat) : Int)), (38, I ((i3p2 + 1 : Nat) : Int)), (23, B false), (1, .sl b.nl (b.l.map S_Span.D) (zsl b.nl 2) none), (2, .fn (.func 93) [] []), (7, .lsl 1 0 v6p4_0.length 2 none), (9, .lref 2 0 2 0), (14, .sl a.nl (a.l.map S_Span.D) (zsl a.nl 2) none), (15, I ((a.l.length : Nat) : Int)), (16, I ((i3p2 : Nat) : Int)), (20, .sl b.nl (b.l.map S_Span.D) (zsl b.nl 2) none), (21, I ((b.l.length : Nat) : Int)), (22, I ((b.l.length : Nat) : Int))], [(1, ⟨v6p4_0.map S_Span.D, 2, false⟩), (2, ⟨[.agg [I x3p2.lo, I x3p2.hi]], 2, false⟩)], 3, 1⟩

def sd113 (a : GS S_Span) (b : GS S_Span) (i3p2 : Nat) (x3p2 : S_Span) (va3p2_0 : List S_Span) : St := ⟨40, [(1, .sl b.nl (b.l.map S_Span.D) (zsl b.nl 2) none), (2, .fn (.func 93) [] []), (7, .lsl 1 0 va3p2_0.length 2 none), (9, .lref 2 0 2 0), (14, .sl a.nl (a.l.map S_Span.D) (zsl a.nl 2) none), (15, I ((a.l.length : Nat) : Int)), (16, I ((i3p2 : Nat) : Int)), (20, .sl b.nl (b.l.map S_Span.D) (zsl b.nl 2) none), (21, I ((b.l.length : Nat) : Int)), (22, I 0)], [(1, ⟨va3p2_0.map S_Span.D, 2, false⟩), (2, ⟨[.agg [I x3p2.lo, I x3p2.hi]], 2, false⟩)], 3, 1⟩

def sd117 (a : GS S_Span) (b : GS S_Span) (i3p2 : Nat) (x3p2 : S_Span) (v6p4_0 : List S_Span) : St := ⟨40, [(23, B false), (1, .sl b.nl (b.l.map S_Span.D) (zsl b.nl 2) none), (2, .fn (.func 93) [] []), (7, .lsl 1 0 v6p4_0.length 2 none), (9, .lref 2 0 2 0), (14, .sl a.nl (a.l.map S_Span.D) (zsl a.nl 2) none), (15, I ((a.l.length : Nat) : Int)), (16, I ((i3p2 : Nat) : Int)), (20, .sl b.nl (b.l.map S_Span.D) (zsl b.nl 2) none), (21, I ((b.l.length : Nat) : Int)), (22, I ((b.l.length : Nat) : Int))], [(1, ⟨v6p4_0.map S_Span.D, 2, false⟩), (2, ⟨[.agg [I x3p2.lo, I x3p2.hi]], 2, false⟩)], 3, 1⟩

def sd112 (a : GS S_Span) (b : GS S_Span) (i3p2 : Nat) (x3p2 : S_Span) (va3p2_0 : List S_Span) : St := ⟨40, [(22, I 0), (21, I ((b.l.length : Nat) : Int)), (20, .sl b.nl (b.l.map S_Span.D) (zsl b.nl 2) none), (9, .lref 2 0 2 0), (19, .agg [I x3p2.lo, I x3p2.hi]), (18, .ptr (.agg [I x3p2.lo, I x3p2.hi])), (17, B true), (1, .sl b.nl (b.l.map S_Span.D) (zsl b.nl 2) none), (2, .fn (.func 93) [] []), (7, .lsl 1 0 va3p2_0.length 2 none), (14, .sl a.nl (a.l.map S_Span.D) (zsl a.nl 2) none), (15, I ((a.l.length : Nat) : Int)), (16, I ((i3p2 : Nat) : Int))], [(1, ⟨va3p2_0.map S_Span.D, 2, false⟩), (2, ⟨[.agg [I x3p2.lo, I x3p2.hi]], 2, false⟩)], 3, 1⟩

def sd123 (a : GS S_Span) (b : GS S_Span) (i3p2 : Nat) (x3p2 : S_Span) (va6p5_0 : List S_Span) : St := ⟨40, [(16, I ((i3p2 + 1 : Nat) : Int)), (38, I ((i3p2 + 1 : Nat) : Int)), (23, B false), (1, .sl b.nl (b.l.map S_Span.D) (zsl b.nl 2) none), (2, .fn (.func 93) [] []), (7, .lsl 1 0 va6p5_0.length 2 none), (9, .lref 2 0 2 0), (14, .sl a.nl (a.l.map S_Span.D) (zsl a.nl 2) none), (15, I ((a.l.length : Nat) : Int)), (16, I ((i3p2 : Nat) : Int)), (20, .sl b.nl (b.l.map S_Span.D) (zsl b.nl 2) none), (21, I ((b.l.length : Nat) : Int)), (22, I ((b.l.length : Nat) : Int))], [(1, ⟨va6p5_0.map S_Span.D, 2, false⟩), (2, ⟨[.agg [I x3p2.lo, I x3p2.hi]], 2, false⟩)], 3, 1⟩

def sd121 (a : GS S_Span) (b : GS S_Span) (i3p2 : Nat) (x3p2 : S_Span) (va6p5_0 : List S_Span) : St := ⟨40, [(23, B false), (1, .sl b.nl (b.l.map S_Span.D) (zsl b.nl 2) none), (2, .fn (.func 93) [] []), (7, .lsl 1 0 va6p5_0.length 2 none), (9, .lref 2 0 2 0), (14, .sl a.nl (a.l.map S_Span.D) (zsl a.nl 2) none), (15, I ((a.l.length : Nat) : Int)), (16, I ((i3p2 : Nat) : Int)), (20, .sl b.nl (b.l.map S_Span.D) (zsl b.nl 2) none), (21, I ((b.l.length : Nat) : Int)), (22, I ((b.l.length : Nat) : Int))], [(1, ⟨va6p5_0.map S_Span.D, 2, false⟩), (2, ⟨[.agg [I x3p2.lo, I x3p2.hi]], 2, false⟩)], 3, 1⟩

def sd109 (a : GS S_Span) (b : GS S_Span) (i3p2 : Nat) (x3p2 : S_Span) : St := ⟨40, [(23, B false), (1, .sl b.nl (b.l.map S_Span.D) (zsl b.nl 2) none), (2, .fn (.func 93) [] []), (7, .sl true [] 0 none), (9, .lref 1 0 2 0), (14, .sl a.nl (a.l.map S_Span.D) (zsl a.nl 2) none), (15, I ((a.l.length : Nat) : Int)), (16, I ((i3p2 : Nat) : Int)), (20, .sl b.nl (b.l.map S_Span.D) (zsl b.nl 2) none), (21, I ((b.l.length : Nat) : Int)), (22, I ((b.l.length : Nat) : Int))], [(1, ⟨[.agg [I x3p2.lo, I x3p2.hi]], 2, false⟩)], 2, 1⟩

inductive LR_ranges_pairs_3p2 where
  | x0 (va3p2_0 : List S_Span)
  | x1
instance : Inhabited LR_ranges_pairs_3p2 := ⟨.x0 default⟩
def ranges_pairs_3p2a (b : GS S_Span) : List S_Span → (List S_Span) → LR_ranges_pairs_3p2
  | [], va3p2_0 => .x0 va3p2_0
  | x3p2 :: rest3p2, va3p2_0 =>
    match zP x3p2 b.l va3p2_0 with
    | .x0 v6p4_0 =>
      ranges_pairs_3p2a b rest3p2 v6p4_0
def ranges_pairs_3p2 (b : GS S_Span) : List S_Span → LR_ranges_pairs_3p2
  | [] => .x1
  | x3p2 :: rest3p2 =>
    match ranges_pairs_6p5 x3p2 b.l with
    | .x0 va6p5_0 =>
      ranges_pairs_3p2a b rest3p2 va6p5_0
    | .x1 =>
      ranges_pairs_3p2 b rest3p2
def lr_ranges_pairs_3p2 (a : GS S_Span) (b : GS S_Span) : LR_ranges_pairs_3p2 → Exit × St
  | .x0 va3p2_0 => ((.exit 0), ⟨40, [(17, B false), (1, .sl b.nl (b.l.map S_Span.D) (zsl b.nl 2) none), (2, .fn (.func 93) [] []), (7, .lsl 1 0 va3p2_0.length 2 none), (14, .sl a.nl (a.l.map S_Span.D) (zsl a.nl 2) none), (15, I ((a.l.length : Nat) : Int)), (16, I ((a.l.length : Nat) : Int))], [(1, ⟨va3p2_0.map S_Span.D, 2, false⟩)], 2, 1⟩)
  | .x1 => ((.exit 0), ⟨40, [(17, B false), (1, .sl b.nl (b.l.map S_Span.D) (zsl b.nl 2) none), (2, .fn (.func 93) [] []), (7, .sl true [] 0 none), (14, .sl a.nl (a.l.map S_Span.D) (zsl a.nl 2) none), (15, I ((a.l.length : Nat) : Int)), (16, I ((a.l.length : Nat) : Int))], [], 1, 1⟩)
def iv_ranges_pairs_3p2 (a : GS S_Span) (b : GS S_Span) : LR_ranges_pairs_3p2 → Prop
  | .x0 va3p2_0 => (va3p2_0.length ≤ 65 * a.l.length)
  | .x1 => True
theorem lp_ranges_pairs_3p2a (a : GS S_Span) (b : GS S_Span) : ∀ (rest3p2 : List S_Span) (i3p2 : Nat) (va3p2_0 : List S_Span) (hd3p2 : a.l.drop i3p2 = rest3p2) (hi3p2 : i3p2 ≤ a.l.length) (ha64 : a.l.length ≤ 64) (hb65 : b.l.length ≤ 65) (hg3p2_va3p2_0 : va3p2_0.length ≤ 65 * i3p2) (hL3p2 : a.l.length ≤ 1099511627776), (lim cfg).loop 87 lp87_3 ⟨40, [(1, .sl b.nl (b.l.map S_Span.D) (zsl b.nl 2) none), (2, .fn (.func 93) [] []), (7, .lsl 1 0 va3p2_0.length 2 none), (14, .sl a.nl (a.l.map S_Span.D) (zsl a.nl 2) none), (15, I ((a.l.length : Nat) : Int)), (16, I ((i3p2 : Nat) : Int))], [(1, ⟨va3p2_0.map S_Span.D, 2, false⟩)], 2, 1⟩ = some (lr_ranges_pairs_3p2 a b (ranges_pairs_3p2a b rest3p2 va3p2_0)) := by
  intro rest3p2
  induction rest3p2 with
  | nil =>
    intro i3p2 va3p2_0 hd3p2 hi3p2 ha64 hb65 hg3p2_va3p2_0 hL3p2
    unfold ranges_pairs_3p2a
    obtain rfl : i3p2 = a.l.length := nil_eq hd3p2 hi3p2
    exact po_last [.dec false] (And.intro (lt_no hd3p2) trivial) (by kernel_rfl)
  | cons x3p2 rest3p2 ih =>
    intro i3p2 va3p2_0 hd3p2 hi3p2 ha64 hb65 hg3p2_va3p2_0 hL3p2
    have hlt3p2 := zk hd3p2
    unfold ranges_pairs_3p2a
    cases h12 : zP x3p2 b.l va3p2_0 with
    | x0 v6p4_0 =>
      try dsimp only
      have hv_h12 := ivt_ranges_pairs_6p4 a b i3p2 x3p2 b.l 0 va3p2_0 (List.drop_zero) (Nat.zero_le _) (by omega) (by omega) (by omega) (by omega)
      rw [h12] at hv_h12
      have hv_h12_0 := hv_h12
      try dsimp only [iv_ranges_pairs_6p4] at hv_h12_0
      exact po_turn' (ks := [1, 2, 7, 14, 15, 16]) (st' := (sd122 a b i3p2 x3p2 v6p4_0)) [.dec true, .el (.agg [I x3p2.lo, I x3p2.hi]), .rw 21 (I ((b.l.length : Nat) : Int)), .gloop (sd113 a b i3p2 x3p2 va3p2_0) (.exit 2) (sd117 a b i3p2 x3p2 v6p4_0), .rw 38 (I ((i3p2 + 1 : Nat) : Int))] (And.intro (inc_rw (i := i3p2) (by have := zk hd3p2; omega)) (And.intro (po_lr (q := lr_ranges_pairs_6p4 a b i3p2 x3p2) (lp_ranges_pairs_6p4 a b i3p2 x3p2 b.l 0 va3p2_0 (List.drop_zero) (Nat.zero_le _) (by omega) (by omega) (by omega) (by omega)) h12) (And.intro (gc_of (C := cfg) (f := 87) (a := lp87_6) (ks := [1, 2, 7, 9, 14, 15, 16, 20, 21, 22]) (st := (sd112 a b i3p2 x3p2 va3p2_0)) (st1 := (sd113 a b i3p2 x3p2 va3p2_0)) (by kernel_rfl) (by (simp only [sd112, sd113, go_sem, List.length_set, Nat.reduceAdd, Nat.reduceEqDiff, Nat.reduceLT, Nat.reduceLeDiff, bI2, zg.idsL, zg.renL, zg.snapAll, z7.idsL, z7.renL, z7.snapAll]) <;> rfl)) (And.intro (len_rw S_Span.D b) (And.intro (el_at (s := a) (f := S_Span.D) (k := 2) hd3p2) (And.intro (lt_at hd3p2) trivial)))))) (by kernel_rfl) (by (simp only [sd122, go_sem, List.length_set, Nat.reduceAdd, Nat.reduceEqDiff, Nat.reduceLT, Nat.reduceLeDiff, bI2, zg.idsL, zg.renL, zg.snapAll, z7.idsL, z7.renL, z7.snapAll]) <;> rfl) (ih (i3p2 + 1) v6p4_0 (zm hd3p2) (zk hd3p2) (by omega) (by omega) (by omega) (by omega)) (by kernel_rfl)
theorem ivt_ranges_pairs_3p2a (a : GS S_Span) (b : GS S_Span) : ∀ (rest3p2 : List S_Span) (i3p2 : Nat) (va3p2_0 : List S_Span) (hd3p2 : a.l.drop i3p2 = rest3p2) (hi3p2 : i3p2 ≤ a.l.length) (ha64 : a.l.length ≤ 64) (hb65 : b.l.length ≤ 65) (hg3p2_va3p2_0 : va3p2_0.length ≤ 65 * i3p2) (hL3p2 : a.l.length ≤ 1099511627776), iv_ranges_pairs_3p2 a b (ranges_pairs_3p2a b rest3p2 va3p2_0) := by
  intro rest3p2
  induction rest3p2 with
  | nil =>
    intro i3p2 va3p2_0 hd3p2 hi3p2 ha64 hb65 hg3p2_va3p2_0 hL3p2
    unfold ranges_pairs_3p2a
    obtain rfl : i3p2 = a.l.length := nil_eq hd3p2 hi3p2
    exact hg3p2_va3p2_0
  | cons x3p2 rest3p2 ih =>
    intro i3p2 va3p2_0 hd3p2 hi3p2 ha64 hb65 hg3p2_va3p2_0 hL3p2
    have hlt3p2 := zk hd3p2
    unfold ranges_pairs_3p2a
    cases h12 : zP x3p2 b.l va3p2_0 with
    | x0 v6p4_0 =>
      try dsimp only
      have hv_h12 := ivt_ranges_pairs_6p4 a b i3p2 x3p2 b.l 0 va3p2_0 (List.drop_zero) (Nat.zero_le _) (by omega) (by omega) (by omega) (by omega)
      rw [h12] at hv_h12
      have hv_h12_0 := hv_h12
      try dsimp only [iv_ranges_pairs_6p4] at hv_h12_0
      exact ih (i3p2 + 1) v6p4_0 (zm hd3p2) (zk hd3p2) (by omega) (by omega) (by omega) (by omega)
theorem lp_ranges_pairs_3p2 (a : GS S_Span) (b : GS S_Span) : ∀ (rest3p2 : List S_Span) (i3p2 : Nat) (hd3p2 : a.l.drop i3p2 = rest3p2) (hi3p2 : i3p2 ≤ a.l.length) (ha64 : a.l.length ≤ 64) (hb65 : b.l.length ≤ 65) (hL3p2 : a.l.length ≤ 1099511627776), (lim cfg).loop 87 lp87_3 ⟨40, [(1, .sl b.nl (b.l.map S_Span.D) (zsl b.nl 2) none), (2, .fn (.func 93) [] []), (7, .sl true [] 0 none), (14, .sl a.nl (a.l.map S_Span.D) (zsl a.nl 2) none), (15, I ((a.l.length : Nat) : Int)), (16, I ((i3p2 : Nat) : Int))], [], 1, 1⟩ = some (lr_ranges_pairs_3p2 a b (ranges_pairs_3p2 b rest3p2)) := by
  intro rest3p2
  induction rest3p2 with
  | nil =>
    intro i3p2 hd3p2 hi3p2 ha64 hb65 hL3p2
    unfold ranges_pairs_3p2
    obtain rfl : i3p2 = a.l.length := nil_eq hd3p2 hi3p2
    exact po_last [.dec false] (And.intro (lt_no hd3p2) trivial) (by kernel_rfl)
  | cons x3p2 rest3p2 ih =>
    intro i3p2 hd3p2 hi3p2 ha64 hb65 hL3p2
    have hlt3p2 := zk hd3p2
    unfold ranges_pairs_3p2
    cases h17 : ranges_pairs_6p5 x3p2 b.l with
    | x0 va6p5_0 =>
      try dsimp only
      have hv_h17 := ivt_ranges_pairs_6p5 a b i3p2 x3p2 b.l 0 (List.drop_zero) (Nat.zero_le _) (by omega) (by omega) (by omega)
      rw [h17] at hv_h17
      have hv_h17_0 := hv_h17
      try dsimp only [iv_ranges_pairs_6p5] at hv_h17_0
      exact po_turn' (ks := [1, 2, 7, 14, 15, 16]) (st' := (sd123 a b i3p2 x3p2 va6p5_0)) [.dec true, .el (.agg [I x3p2.lo, I x3p2.hi]), .rw 21 (I ((b.l.length : Nat) : Int)), .loop (.exit 2) (sd121 a b i3p2 x3p2 va6p5_0), .rw 38 (I ((i3p2 + 1 : Nat) : Int))] (And.intro (inc_rw (i := i3p2) (by have := zk hd3p2; omega)) (And.intro (po_lr (q := lr_ranges_pairs_6p5 a b i3p2 x3p2) (lp_ranges_pairs_6p5 a b i3p2 x3p2 b.l 0 (List.drop_zero) (Nat.zero_le _) (by omega) (by omega) (by omega)) h17) (And.intro (len_rw S_Span.D b) (And.intro (el_at (s := a) (f := S_Span.D) (k := 2) hd3p2) (And.intro (lt_at hd3p2) trivial))))) (by kernel_rfl) (by (simp only [sd123, go_sem, List.length_set, Nat.reduceAdd, Nat.reduceEqDiff, Nat.reduceLT, Nat.reduceLeDiff, bI2, zg.idsL, zg.renL, zg.snapAll, z7.idsL, z7.renL, z7.snapAll]) <;> rfl) (lp_ranges_pairs_3p2a a b _ (i3p2 + 1) va6p5_0 (zm hd3p2) (zk hd3p2) (by omega) (by omega) (by omega) (by omega)) (by kernel_rfl)
    | x1 =>
      try dsimp only
      exact po_turn [.dec true, .el (.agg [I x3p2.lo, I x3p2.hi]), .rw 21 (I ((b.l.length : Nat) : Int)), .loop (.exit 2) (sd109 a b i3p2 x3p2), .rw 38 (I ((i3p2 + 1 : Nat) : Int))] (And.intro (inc_rw (i := i3p2) (by have := zk hd3p2; omega)) (And.intro (po_lr (q := lr_ranges_pairs_6p5 a b i3p2 x3p2) (lp_ranges_pairs_6p5 a b i3p2 x3p2 b.l 0 (List.drop_zero) (Nat.zero_le _) (by omega) (by omega) (by omega)) h17) (And.intro (len_rw S_Span.D b) (And.intro (el_at (s := a) (f := S_Span.D) (k := 2) hd3p2) (And.intro (lt_at hd3p2) trivial))))) (ih (i3p2 + 1) (zm hd3p2) (zk hd3p2) (by omega) (by omega) (by omega)) (by kernel_rfl)
theorem ivt_ranges_pairs_3p2 (a : GS S_Span) (b : GS S_Span) : ∀ (rest3p2 : List S_Span) (i3p2 : Nat) (hd3p2 : a.l.drop i3p2 = rest3p2) (hi3p2 : i3p2 ≤ a.l.length) (ha64 : a.l.length ≤ 64) (hb65 : b.l.length ≤ 65) (hL3p2 : a.l.length ≤ 1099511627776), iv_ranges_pairs_3p2 a b (ranges_pairs_3p2 b rest3p2) := by
  intro rest3p2
  induction rest3p2 with
  | nil =>
    intro i3p2 hd3p2 hi3p2 ha64 hb65 hL3p2
    unfold ranges_pairs_3p2
    obtain rfl : i3p2 = a.l.length := nil_eq hd3p2 hi3p2
    exact trivial
  | cons x3p2 rest3p2 ih =>
    intro i3p2 hd3p2 hi3p2 ha64 hb65 hL3p2
    have hlt3p2 := zk hd3p2
    unfold ranges_pairs_3p2
    cases h17 : ranges_pairs_6p5 x3p2 b.l with
    | x0 va6p5_0 =>
      try dsimp only
      have hv_h17 := ivt_ranges_pairs_6p5 a b i3p2 x3p2 b.l 0 (List.drop_zero) (Nat.zero_le _) (by omega) (by omega) (by omega)
      rw [h17] at hv_h17
      have hv_h17_0 := hv_h17
      try dsimp only [iv_ranges_pairs_6p5] at hv_h17_0
      exact ivt_ranges_pairs_3p2a a b _ (i3p2 + 1) va6p5_0 (zm hd3p2) (zk hd3p2) (by omega) (by omega) (by omega) (by omega)
    | x1 =>
      try dsimp only
      exact ih (i3p2 + 1) (zm hd3p2) (zk hd3p2) (by omega) (by omega) (by omega)

def zb (a : GS S_Span) (b : GS S_Span) : (GS S_Span) × Int :=
  bif ((zI (GS.some [a, b])) != 0) then
    (GS.nil, (zI (GS.some [a, b])))
  else
    match ranges_pairs_3p2 b a.l with
    | .x0 va3p2_0 =>
      match zy (zr zq va3p2_0) 0 with
      | .x0 va4p1_0 =>
        bif decide (((va4p1_0.length : Nat) : Int) > 64) then
          (GS.nil, 2)
        else
          (GS.some va4p1_0, 0)
      | .x1 i4p1 x4p1 va4p1_0 =>
        (GS.nil, 2)
      | .x2 i4p1 x4p1 va4p1_0 =>
        (GS.nil, 2)
      | .x3 =>
        (GS.nil, 0)
      | .x4 i4p1 x4p1 =>
        (GS.nil, 2)
      | .x5 i4p1 x4p1 =>
        (GS.nil, 2)
    | .x1 =>
      (GS.nil, 0)

def ranges_Common_o1 (a : GS S_Span) (b : GS S_Span) (va3p2_0 : List S_Span) : List Ora := [.pure (I (zI (GS.some [a, b]))), .dec false, .inl (.lsl 1 0 va3p2_0.length 2 none) [(1, ⟨va3p2_0.map S_Span.D, 2, false⟩)] 2]

def sd124 (a : GS S_Span) (b : GS S_Span) (va3p2_0 : List S_Span) : St := ⟨40, [(17, B false), (1, .sl b.nl (b.l.map S_Span.D) (zsl b.nl 2) none), (2, .fn (.func 93) [] []), (7, .lsl 1 0 va3p2_0.length 2 none), (14, .sl a.nl (a.l.map S_Span.D) (zsl a.nl 2) none), (15, I ((a.l.length : Nat) : Int)), (16, I ((a.l.length : Nat) : Int))], [(1, ⟨va3p2_0.map S_Span.D, 2, false⟩)], 2, 1⟩

def sd126 (va3p2_0 : List S_Span) : St := ⟨65, [(4, .sl true [] 0 none), (10, .lsl 1 0 va3p2_0.length 2 none), (11, I ((va3p2_0.length : Nat) : Int)), (12, I 0)], [(1, ⟨(zr zq va3p2_0).map S_Span.D, 2, false⟩)], 2, 2⟩

def sd127 (va3p2_0 : List S_Span) (va4p1_0 : List S_Span) : St := ⟨65, [(13, B false), (4, .lsl 2 0 va4p1_0.length 2 none), (10, .lsl 1 0 va3p2_0.length 2 none), (11, I ((va3p2_0.length : Nat) : Int)), (12, I (((zr zq va3p2_0).length : Nat) : Int))], [(1, ⟨(zr zq va3p2_0).map S_Span.D, 2, false⟩), (2, ⟨va4p1_0.map S_Span.D, 2, false⟩)], 3, 2⟩

def sd125 (va3p2_0 : List S_Span) : St := ⟨65, [(12, I 0), (11, I ((va3p2_0.length : Nat) : Int)), (10, .lsl 1 0 va3p2_0.length 2 none), (4, .sl true [] 0 none), (9, .tup []), (8, .lsl 1 0 va3p2_0.length 2 none), (3, I 0), (2, .sl true [] 0 none), (0, .lsl 1 0 va3p2_0.length 2 none)], [(1, ⟨(zr zq va3p2_0).map S_Span.D, 2, false⟩)], 2, 2⟩

def sd128 (va3p2_0 : List S_Span) (va4p1_0 : List S_Span) (i4p1 : Nat) (x4p1 : S_Span) : St := ⟨65, [(3, I 2), (2, .sl true [] 0 none), (25, B true), (24, B true), (23, B false), (22, I x4p1.hi), (21, .lref 3 0 2 1), (20, B false), (19, B false), (18, B true), (17, I x4p1.lo), (16, .lref 3 0 2 0), (6, .lref 3 0 2 0), (15, .agg [I x4p1.lo, I x4p1.hi]), (14, .lref 1 i4p1 2 0), (13, B true), (4, .lsl 2 0 va4p1_0.length 2 none), (10, .lsl 1 0 va3p2_0.length 2 none), (11, I ((va3p2_0.length : Nat) : Int)), (12, I ((i4p1 : Nat) : Int))], [(1, ⟨(zr zq va3p2_0).map S_Span.D, 2, false⟩), (2, ⟨va4p1_0.map S_Span.D, 2, false⟩), (3, ⟨[.agg [I x4p1.lo, I x4p1.hi]], 2, false⟩)], 4, 2⟩

def sd129 (va3p2_0 : List S_Span) (va4p1_0 : List S_Span) (i4p1 : Nat) (x4p1 : S_Span) : St := ⟨65, [(3, I 2), (2, .sl true [] 0 none), (25, B true), (24, .tup []), (23, .tup []), (22, .tup []), (21, .tup []), (20, B true), (19, B true), (18, B false), (17, I x4p1.lo), (16, .lref 3 0 2 0), (6, .lref 3 0 2 0), (15, .agg [I x4p1.lo, I x4p1.hi]), (14, .lref 1 i4p1 2 0), (13, B true), (4, .lsl 2 0 va4p1_0.length 2 none), (10, .lsl 1 0 va3p2_0.length 2 none), (11, I ((va3p2_0.length : Nat) : Int)), (12, I ((i4p1 : Nat) : Int))], [(1, ⟨(zr zq va3p2_0).map S_Span.D, 2, false⟩), (2, ⟨va4p1_0.map S_Span.D, 2, false⟩), (3, ⟨[.agg [I x4p1.lo, I x4p1.hi]], 2, false⟩)], 4, 2⟩

def sd130 (va3p2_0 : List S_Span) : St := ⟨65, [(13, B false), (4, .sl true [] 0 none), (10, .lsl 1 0 va3p2_0.length 2 none), (11, I ((va3p2_0.length : Nat) : Int)), (12, I (((zr zq va3p2_0).length : Nat) : Int))], [(1, ⟨(zr zq va3p2_0).map S_Span.D, 2, false⟩)], 2, 2⟩

def sd131 (va3p2_0 : List S_Span) (i4p1 : Nat) (x4p1 : S_Span) : St := ⟨65, [(3, I 2), (2, .sl true [] 0 none), (25, B true), (24, B true), (23, B false), (22, I x4p1.hi), (21, .lref 2 0 2 1), (20, B false), (19, B false), (18, B true), (17, I x4p1.lo), (16, .lref 2 0 2 0), (6, .lref 2 0 2 0), (15, .agg [I x4p1.lo, I x4p1.hi]), (14, .lref 1 i4p1 2 0), (13, B true), (4, .sl true [] 0 none), (10, .lsl 1 0 va3p2_0.length 2 none), (11, I ((va3p2_0.length : Nat) : Int)), (12, I ((i4p1 : Nat) : Int))], [(1, ⟨(zr zq va3p2_0).map S_Span.D, 2, false⟩), (2, ⟨[.agg [I x4p1.lo, I x4p1.hi]], 2, false⟩)], 3, 2⟩

def sd132 (va3p2_0 : List S_Span) (i4p1 : Nat) (x4p1 : S_Span) : St := ⟨65, [(3, I 2), (2, .sl true [] 0 none), (25, B true), (24, .tup []), (23, .tup []), (22, .tup []), (21, .tup []), (20, B true), (19, B true), (18, B false), (17, I x4p1.lo), (16, .lref 2 0 2 0), (6, .lref 2 0 2 0), (15, .agg [I x4p1.lo, I x4p1.hi]), (14, .lref 1 i4p1 2 0), (13, B true), (4, .sl true [] 0 none), (10, .lsl 1 0 va3p2_0.length 2 none), (11, I ((va3p2_0.length : Nat) : Int)), (12, I ((i4p1 : Nat) : Int))], [(1, ⟨(zr zq va3p2_0).map S_Span.D, 2, false⟩), (2, ⟨[.agg [I x4p1.lo, I x4p1.hi]], 2, false⟩)], 3, 2⟩

def sd133 (a : GS S_Span) (b : GS S_Span) : St := ⟨40, [(17, B false), (1, .sl b.nl (b.l.map S_Span.D) (zsl b.nl 2) none), (2, .fn (.func 93) [] []), (7, .sl true [] 0 none), (14, .sl a.nl (a.l.map S_Span.D) (zsl a.nl 2) none), (15, I ((a.l.length : Nat) : Int)), (16, I ((a.l.length : Nat) : Int))], [], 1, 1⟩

theorem T_ranges_Common (a : GS S_Span) (b : GS S_Span) (hLa : a.l.length ≤ 9223372036854775807) (hLb : b.l.length ≤ 9223372036854775807) : (lim cfg).pure 37 [GS.D S_Span.D 2 a, GS.D S_Span.D 2 b] = some (.tup [GS.D S_Span.D 2 ((zb a b).1), I ((zb a b).2)]) := by
  unfold zb
  have p1 := (T_ranges_check (GS.some [a, b]) (by exact two_bd (by omega) (by omega)) (by simp only [zR, GS.some_l, List.length_set, List.length_append, List.length_cons, List.length_nil] at * <;> first | with_reducible assumption | omega))
  cases h1 : ((zI (GS.some [a, b])) != 0) with
  | true =>
    have g1 := bne_true h1
    exact zt [.pure (I (zI (GS.some [a, b]))), .dec true] (And.intro h1 (And.intro p1 trivial)) (by kernel_rfl)
  | false =>
    have g1 := check2_len (bne_false h1)
    cases h18 : ranges_pairs_3p2 b a.l with
    | x0 va3p2_0 =>
      try dsimp only
      have hv_h18 := ivt_ranges_pairs_3p2 a b a.l 0 (List.drop_zero) (Nat.zero_le _) (by omega) (by omega) (by omega)
      rw [h18] at hv_h18
      have hv_h18_0 := hv_h18
      try dsimp only [iv_ranges_pairs_3p2] at hv_h18_0
      have p2 := (show (lim cfg).inl 87 [.sl a.nl (a.l.map S_Span.D) (zsl a.nl 2) none, .sl b.nl (b.l.map S_Span.D) (zsl b.nl 2) none, .fn (.func 93) [] []] [] 1 = some (.lsl 1 0 va3p2_0.length 2 none, [(1, ⟨va3p2_0.map S_Span.D, 2, false⟩)], 2) from po_inl [.rw 15 (I ((a.l.length : Nat) : Int)), .loop (.exit 0) (sd124 a b va3p2_0)] (And.intro (po_lr (q := lr_ranges_pairs_3p2 a b) (lp_ranges_pairs_3p2 a b a.l 0 (List.drop_zero) (Nat.zero_le _) (by omega) (by omega) (by omega)) h18) (And.intro (len_rw S_Span.D a) trivial)) (by kernel_rfl))
      cases h19 : zy (zr zq va3p2_0) 0 with
      | x0 va4p1_0 =>
        try dsimp only
        have hv_h19 := zT va3p2_0 (zr zq va3p2_0) (zr zq va3p2_0) 0 (List.drop_zero) (Nat.zero_le _) (by simp only [zR, GS.some_l, List.length_set, List.length_append, List.length_cons, List.length_nil] at * <;> first | with_reducible assumption | omega) (by simp only [zR, GS.some_l, List.length_set, List.length_append, List.length_cons, List.length_nil] at * <;> first | with_reducible assumption | omega)
        rw [h19] at hv_h19
        obtain ⟨hv_h19_0, hv_h19_1⟩ := hv_h19
        try dsimp only [zp] at hv_h19_0
        try dsimp only [zp] at hv_h19_1
        cases h20 : decide (((va4p1_0.length : Nat) : Int) > 64) with
        | true =>
          have g20 := of_decide_eq_true h20
          exact zt ((ranges_Common_o1 a b va3p2_0) ++ [.inlS [1] (.tup [.sl true [] 0 none, I 2]) [(1, ⟨(zr zq va3p2_0).map S_Span.D, 2, false⟩), (2, ⟨va4p1_0.map S_Span.D, 2, false⟩)] 3]) (And.intro (And.intro (show zj [(0, ⟨[.sl a.nl (a.l.map S_Span.D) (zsl a.nl 2) none, .sl b.nl (b.l.map S_Span.D) (zsl b.nl 2) none], 1, false⟩), (1, ⟨va3p2_0.map S_Span.D, 2, false⟩)] 256 [1] [] = some [1] from (by (simp only [zj, go_sem, List.length_set, Nat.reduceAdd, Nat.reduceEqDiff, Nat.reduceLT, Nat.reduceLeDiff, bI2, zg.idsL, zg.renL, zg.snapAll, z7.idsL, z7.renL, z7.snapAll]) <;> rfl)) (show (lim cfg).inl 69 [.lsl 1 0 va3p2_0.length 2 none] [(1, ⟨va3p2_0.map S_Span.D, 2, false⟩)] 2 = some (.tup [.sl true [] 0 none, I 2], [(1, ⟨(zr zq va3p2_0).map S_Span.D, 2, false⟩), (2, ⟨va4p1_0.map S_Span.D, 2, false⟩)], 3) from po_inl [.inlS [1] (.tup []) [(1, ⟨(zr zq va3p2_0).map S_Span.D, 2, false⟩)] 2, .gloop (sd126 va3p2_0) (.exit 0) (sd127 va3p2_0 va4p1_0), .dec true] (And.intro h20 (And.intro (po_lr (q := zn va3p2_0 (zr zq va3p2_0)) (lp_ranges_gathered_4p1 va3p2_0 (zr zq va3p2_0) (zr zq va3p2_0) 0 (List.drop_zero) (Nat.zero_le _) (by simp only [zR, GS.some_l, List.length_set, List.length_append, List.length_cons, List.length_nil] at * <;> first | with_reducible assumption | omega) (by simp only [zR, GS.some_l, List.length_set, List.length_append, List.length_cons, List.length_nil] at * <;> first | with_reducible assumption | omega)) h19) (And.intro (gc_of (C := cfg) (f := 69) (a := lp69_4) (ks := [4, 10, 11, 12]) (st := (sd125 va3p2_0)) (st1 := (sd126 va3p2_0)) (by kernel_rfl) (by (simp only [sd125, sd126, go_sem, List.length_set, Nat.reduceAdd, Nat.reduceEqDiff, Nat.reduceLT, Nat.reduceLeDiff, bI2, zg.idsL, zg.renL, zg.snapAll, z7.idsL, z7.renL, z7.snapAll]) <;> rfl)) (And.intro (And.intro (show zj [(1, ⟨va3p2_0.map S_Span.D, 2, false⟩)] 256 [1] [] = some [1] from (by (simp only [zj, go_sem, List.length_set, Nat.reduceAdd, Nat.reduceEqDiff, Nat.reduceLT, Nat.reduceLeDiff, bI2, zg.idsL, zg.renL, zg.snapAll, z7.idsL, z7.renL, z7.snapAll]) <;> rfl)) (T_sort 1 2 none va3p2_0 (by omega))) trivial)))) (by kernel_rfl))) (And.intro p2 (And.intro h1 (And.intro p1 trivial)))) (by kernel_rfl)
        | false =>
          have g20 := of_decide_eq_false h20
          exact po_pureS ((ranges_Common_o1 a b va3p2_0) ++ [.inlS [1] (.tup [.lsl 2 0 va4p1_0.length 2 none, I 0]) [(1, ⟨(zr zq va3p2_0).map S_Span.D, 2, false⟩), (2, ⟨va4p1_0.map S_Span.D, 2, false⟩)] 3]) [(2, .sl false (va4p1_0.map S_Span.D) 2 none, [2])] (And.intro (snap_row (gO := zu [(0, ⟨[.sl a.nl (a.l.map S_Span.D) (zsl a.nl 2) none, .sl b.nl (b.l.map S_Span.D) (zsl b.nl 2) none], 1, false⟩), (1, ⟨(zr zq va3p2_0).map S_Span.D, 2, false⟩), (2, ⟨va4p1_0.map S_Span.D, 2, false⟩)]) (o := 2) (len := va4p1_0.length) (cap := none) (fz := false) z7 va4p1_0 (by kernel_rfl) (by omega)) (And.intro (And.intro (show zj [(0, ⟨[.sl a.nl (a.l.map S_Span.D) (zsl a.nl 2) none, .sl b.nl (b.l.map S_Span.D) (zsl b.nl 2) none], 1, false⟩), (1, ⟨va3p2_0.map S_Span.D, 2, false⟩)] 256 [1] [] = some [1] from (by (simp only [zj, go_sem, List.length_set, Nat.reduceAdd, Nat.reduceEqDiff, Nat.reduceLT, Nat.reduceLeDiff, bI2, zg.idsL, zg.renL, zg.snapAll, z7.idsL, z7.renL, z7.snapAll]) <;> rfl)) (show (lim cfg).inl 69 [.lsl 1 0 va3p2_0.length 2 none] [(1, ⟨va3p2_0.map S_Span.D, 2, false⟩)] 2 = some (.tup [.lsl 2 0 va4p1_0.length 2 none, I 0], [(1, ⟨(zr zq va3p2_0).map S_Span.D, 2, false⟩), (2, ⟨va4p1_0.map S_Span.D, 2, false⟩)], 3) from po_inl [.inlS [1] (.tup []) [(1, ⟨(zr zq va3p2_0).map S_Span.D, 2, false⟩)] 2, .gloop (sd126 va3p2_0) (.exit 0) (sd127 va3p2_0 va4p1_0), .dec false] (And.intro h20 (And.intro (po_lr (q := zn va3p2_0 (zr zq va3p2_0)) (lp_ranges_gathered_4p1 va3p2_0 (zr zq va3p2_0) (zr zq va3p2_0) 0 (List.drop_zero) (Nat.zero_le _) (by simp only [zR, GS.some_l, List.length_set, List.length_append, List.length_cons, List.length_nil] at * <;> first | with_reducible assumption | omega) (by simp only [zR, GS.some_l, List.length_set, List.length_append, List.length_cons, List.length_nil] at * <;> first | with_reducible assumption | omega)) h19) (And.intro (gc_of (C := cfg) (f := 69) (a := lp69_4) (ks := [4, 10, 11, 12]) (st := (sd125 va3p2_0)) (st1 := (sd126 va3p2_0)) (by kernel_rfl) (by (simp only [sd125, sd126, go_sem, List.length_set, Nat.reduceAdd, Nat.reduceEqDiff, Nat.reduceLT, Nat.reduceLeDiff, bI2, zg.idsL, zg.renL, zg.snapAll, z7.idsL, z7.renL, z7.snapAll]) <;> rfl)) (And.intro (And.intro (show zj [(1, ⟨va3p2_0.map S_Span.D, 2, false⟩)] 256 [1] [] = some [1] from (by (simp only [zj, go_sem, List.length_set, Nat.reduceAdd, Nat.reduceEqDiff, Nat.reduceLT, Nat.reduceLeDiff, bI2, zg.idsL, zg.renL, zg.snapAll, z7.idsL, z7.renL, z7.snapAll]) <;> rfl)) (T_sort 1 2 none va3p2_0 (by omega))) trivial)))) (by kernel_rfl))) (And.intro p2 (And.intro h1 (And.intro p1 trivial))))) (by kernel_rfl)
      | x1 i4p1 x4p1 va4p1_0 =>
        try dsimp only
        have hv_h19 := zT va3p2_0 (zr zq va3p2_0) (zr zq va3p2_0) 0 (List.drop_zero) (Nat.zero_le _) (by simp only [zR, GS.some_l, List.length_set, List.length_append, List.length_cons, List.length_nil] at * <;> first | with_reducible assumption | omega) (by simp only [zR, GS.some_l, List.length_set, List.length_append, List.length_cons, List.length_nil] at * <;> first | with_reducible assumption | omega)
        rw [h19] at hv_h19
        obtain ⟨hv_h19_0, hv_h19_1⟩ := hv_h19
        try dsimp only [zp] at hv_h19_0
        try dsimp only [zp] at hv_h19_1
        exact zt ((ranges_Common_o1 a b va3p2_0) ++ [.inlS [1] (.tup [.sl true [] 0 none, I 2]) [(1, ⟨(zr zq va3p2_0).map S_Span.D, 2, false⟩), (2, ⟨va4p1_0.map S_Span.D, 2, false⟩), (3, ⟨[.agg [I x4p1.lo, I x4p1.hi]], 2, false⟩)] 4]) (And.intro (And.intro (show zj [(0, ⟨[.sl a.nl (a.l.map S_Span.D) (zsl a.nl 2) none, .sl b.nl (b.l.map S_Span.D) (zsl b.nl 2) none], 1, false⟩), (1, ⟨va3p2_0.map S_Span.D, 2, false⟩)] 256 [1] [] = some [1] from (by (simp only [zj, go_sem, List.length_set, Nat.reduceAdd, Nat.reduceEqDiff, Nat.reduceLT, Nat.reduceLeDiff, bI2, zg.idsL, zg.renL, zg.snapAll, z7.idsL, z7.renL, z7.snapAll]) <;> rfl)) (show (lim cfg).inl 69 [.lsl 1 0 va3p2_0.length 2 none] [(1, ⟨va3p2_0.map S_Span.D, 2, false⟩)] 2 = some (.tup [.sl true [] 0 none, I 2], [(1, ⟨(zr zq va3p2_0).map S_Span.D, 2, false⟩), (2, ⟨va4p1_0.map S_Span.D, 2, false⟩), (3, ⟨[.agg [I x4p1.lo, I x4p1.hi]], 2, false⟩)], 4) from po_inl [.inlS [1] (.tup []) [(1, ⟨(zr zq va3p2_0).map S_Span.D, 2, false⟩)] 2, .gloop (sd126 va3p2_0) .ret (sd128 va3p2_0 va4p1_0 i4p1 x4p1)] (And.intro (po_lr (q := zn va3p2_0 (zr zq va3p2_0)) (lp_ranges_gathered_4p1 va3p2_0 (zr zq va3p2_0) (zr zq va3p2_0) 0 (List.drop_zero) (Nat.zero_le _) (by simp only [zR, GS.some_l, List.length_set, List.length_append, List.length_cons, List.length_nil] at * <;> first | with_reducible assumption | omega) (by simp only [zR, GS.some_l, List.length_set, List.length_append, List.length_cons, List.length_nil] at * <;> first | with_reducible assumption | omega)) h19) (And.intro (gc_of (C := cfg) (f := 69) (a := lp69_4) (ks := [4, 10, 11, 12]) (st := (sd125 va3p2_0)) (st1 := (sd126 va3p2_0)) (by kernel_rfl) (by (simp only [sd125, sd126, go_sem, List.length_set, Nat.reduceAdd, Nat.reduceEqDiff, Nat.reduceLT, Nat.reduceLeDiff, bI2, zg.idsL, zg.renL, zg.snapAll, z7.idsL, z7.renL, z7.snapAll]) <;> rfl)) (And.intro (And.intro (show zj [(1, ⟨va3p2_0.map S_Span.D, 2, false⟩)] 256 [1] [] = some [1] from (by (simp only [zj, go_sem, List.length_set, Nat.reduceAdd, Nat.reduceEqDiff, Nat.reduceLT, Nat.reduceLeDiff, bI2, zg.idsL, zg.renL, zg.snapAll, z7.idsL, z7.renL, z7.snapAll]) <;> rfl)) (T_sort 1 2 none va3p2_0 (by omega))) trivial))) (by kernel_rfl))) (And.intro p2 (And.intro h1 (And.intro p1 trivial)))) (by kernel_rfl)
      | x2 i4p1 x4p1 va4p1_0 =>
        try dsimp only
        have hv_h19 := zT va3p2_0 (zr zq va3p2_0) (zr zq va3p2_0) 0 (List.drop_zero) (Nat.zero_le _) (by simp only [zR, GS.some_l, List.length_set, List.length_append, List.length_cons, List.length_nil] at * <;> first | with_reducible assumption | omega) (by simp only [zR, GS.some_l, List.length_set, List.length_append, List.length_cons, List.length_nil] at * <;> first | with_reducible assumption | omega)
        rw [h19] at hv_h19
        obtain ⟨hv_h19_0, hv_h19_1⟩ := hv_h19
        try dsimp only [zp] at hv_h19_0
        try dsimp only [zp] at hv_h19_1
        exact zt ((ranges_Common_o1 a b va3p2_0) ++ [.inlS [1] (.tup [.sl true [] 0 none, I 2]) [(1, ⟨(zr zq va3p2_0).map S_Span.D, 2, false⟩), (2, ⟨va4p1_0.map S_Span.D, 2, false⟩), (3, ⟨[.agg [I x4p1.lo, I x4p1.hi]], 2, false⟩)] 4]) (And.intro (And.intro (show zj [(0, ⟨[.sl a.nl (a.l.map S_Span.D) (zsl a.nl 2) none, .sl b.nl (b.l.map S_Span.D) (zsl b.nl 2) none], 1, false⟩), (1, ⟨va3p2_0.map S_Span.D, 2, false⟩)] 256 [1] [] = some [1] from (by (simp only [zj, go_sem, List.length_set, Nat.reduceAdd, Nat.reduceEqDiff, Nat.reduceLT, Nat.reduceLeDiff, bI2, zg.idsL, zg.renL, zg.snapAll, z7.idsL, z7.renL, z7.snapAll]) <;> rfl)) (show (lim cfg).inl 69 [.lsl 1 0 va3p2_0.length 2 none] [(1, ⟨va3p2_0.map S_Span.D, 2, false⟩)] 2 = some (.tup [.sl true [] 0 none, I 2], [(1, ⟨(zr zq va3p2_0).map S_Span.D, 2, false⟩), (2, ⟨va4p1_0.map S_Span.D, 2, false⟩), (3, ⟨[.agg [I x4p1.lo, I x4p1.hi]], 2, false⟩)], 4) from po_inl [.inlS [1] (.tup []) [(1, ⟨(zr zq va3p2_0).map S_Span.D, 2, false⟩)] 2, .gloop (sd126 va3p2_0) .ret (sd129 va3p2_0 va4p1_0 i4p1 x4p1)] (And.intro (po_lr (q := zn va3p2_0 (zr zq va3p2_0)) (lp_ranges_gathered_4p1 va3p2_0 (zr zq va3p2_0) (zr zq va3p2_0) 0 (List.drop_zero) (Nat.zero_le _) (by simp only [zR, GS.some_l, List.length_set, List.length_append, List.length_cons, List.length_nil] at * <;> first | with_reducible assumption | omega) (by simp only [zR, GS.some_l, List.length_set, List.length_append, List.length_cons, List.length_nil] at * <;> first | with_reducible assumption | omega)) h19) (And.intro (gc_of (C := cfg) (f := 69) (a := lp69_4) (ks := [4, 10, 11, 12]) (st := (sd125 va3p2_0)) (st1 := (sd126 va3p2_0)) (by kernel_rfl) (by (simp only [sd125, sd126, go_sem, List.length_set, Nat.reduceAdd, Nat.reduceEqDiff, Nat.reduceLT, Nat.reduceLeDiff, bI2, zg.idsL, zg.renL, zg.snapAll, z7.idsL, z7.renL, z7.snapAll]) <;> rfl)) (And.intro (And.intro (show zj [(1, ⟨va3p2_0.map S_Span.D, 2, false⟩)] 256 [1] [] = some [1] from (by (simp only [zj, go_sem, List.length_set, Nat.reduceAdd, Nat.reduceEqDiff, Nat.reduceLT, Nat.reduceLeDiff, bI2, zg.idsL, zg.renL, zg.snapAll, z7.idsL, z7.renL, z7.snapAll]) <;> rfl)) (T_sort 1 2 none va3p2_0 (by omega))) trivial))) (by kernel_rfl))) (And.intro p2 (And.intro h1 (And.intro p1 trivial)))) (by kernel_rfl)
      | x3 =>
        try dsimp only
        exact zt ((ranges_Common_o1 a b va3p2_0) ++ [.inlS [1] (.tup [.sl true [] 0 none, I 0]) [(1, ⟨(zr zq va3p2_0).map S_Span.D, 2, false⟩)] 2]) (And.intro (And.intro (show zj [(0, ⟨[.sl a.nl (a.l.map S_Span.D) (zsl a.nl 2) none, .sl b.nl (b.l.map S_Span.D) (zsl b.nl 2) none], 1, false⟩), (1, ⟨va3p2_0.map S_Span.D, 2, false⟩)] 256 [1] [] = some [1] from (by (simp only [zj, go_sem, List.length_set, Nat.reduceAdd, Nat.reduceEqDiff, Nat.reduceLT, Nat.reduceLeDiff, bI2, zg.idsL, zg.renL, zg.snapAll, z7.idsL, z7.renL, z7.snapAll]) <;> rfl)) (show (lim cfg).inl 69 [.lsl 1 0 va3p2_0.length 2 none] [(1, ⟨va3p2_0.map S_Span.D, 2, false⟩)] 2 = some (.tup [.sl true [] 0 none, I 0], [(1, ⟨(zr zq va3p2_0).map S_Span.D, 2, false⟩)], 2) from po_inl [.inlS [1] (.tup []) [(1, ⟨(zr zq va3p2_0).map S_Span.D, 2, false⟩)] 2, .gloop (sd126 va3p2_0) (.exit 0) (sd130 va3p2_0), .dec false] (And.intro (Eq.refl false) (And.intro (po_lr (q := zn va3p2_0 (zr zq va3p2_0)) (lp_ranges_gathered_4p1 va3p2_0 (zr zq va3p2_0) (zr zq va3p2_0) 0 (List.drop_zero) (Nat.zero_le _) (by simp only [zR, GS.some_l, List.length_set, List.length_append, List.length_cons, List.length_nil] at * <;> first | with_reducible assumption | omega) (by simp only [zR, GS.some_l, List.length_set, List.length_append, List.length_cons, List.length_nil] at * <;> first | with_reducible assumption | omega)) h19) (And.intro (gc_of (C := cfg) (f := 69) (a := lp69_4) (ks := [4, 10, 11, 12]) (st := (sd125 va3p2_0)) (st1 := (sd126 va3p2_0)) (by kernel_rfl) (by (simp only [sd125, sd126, go_sem, List.length_set, Nat.reduceAdd, Nat.reduceEqDiff, Nat.reduceLT, Nat.reduceLeDiff, bI2, zg.idsL, zg.renL, zg.snapAll, z7.idsL, z7.renL, z7.snapAll]) <;> rfl)) (And.intro (And.intro (show zj [(1, ⟨va3p2_0.map S_Span.D, 2, false⟩)] 256 [1] [] = some [1] from (by (simp only [zj, go_sem, List.length_set, Nat.reduceAdd, Nat.reduceEqDiff, Nat.reduceLT, Nat.reduceLeDiff, bI2, zg.idsL, zg.renL, zg.snapAll, z7.idsL, z7.renL, z7.snapAll]) <;> rfl)) (T_sort 1 2 none va3p2_0 (by omega))) trivial)))) (by kernel_rfl))) (And.intro p2 (And.intro h1 (And.intro p1 trivial)))) (by kernel_rfl)
      | x4 i4p1 x4p1 =>
        try dsimp only
        exact zt ((ranges_Common_o1 a b va3p2_0) ++ [.inlS [1] (.tup [.sl true [] 0 none, I 2]) [(1, ⟨(zr zq va3p2_0).map S_Span.D, 2, false⟩), (2, ⟨[.agg [I x4p1.lo, I x4p1.hi]], 2, false⟩)] 3]) (And.intro (And.intro (show zj [(0, ⟨[.sl a.nl (a.l.map S_Span.D) (zsl a.nl 2) none, .sl b.nl (b.l.map S_Span.D) (zsl b.nl 2) none], 1, false⟩), (1, ⟨va3p2_0.map S_Span.D, 2, false⟩)] 256 [1] [] = some [1] from (by (simp only [zj, go_sem, List.length_set, Nat.reduceAdd, Nat.reduceEqDiff, Nat.reduceLT, Nat.reduceLeDiff, bI2, zg.idsL, zg.renL, zg.snapAll, z7.idsL, z7.renL, z7.snapAll]) <;> rfl)) (show (lim cfg).inl 69 [.lsl 1 0 va3p2_0.length 2 none] [(1, ⟨va3p2_0.map S_Span.D, 2, false⟩)] 2 = some (.tup [.sl true [] 0 none, I 2], [(1, ⟨(zr zq va3p2_0).map S_Span.D, 2, false⟩), (2, ⟨[.agg [I x4p1.lo, I x4p1.hi]], 2, false⟩)], 3) from po_inl [.inlS [1] (.tup []) [(1, ⟨(zr zq va3p2_0).map S_Span.D, 2, false⟩)] 2, .gloop (sd126 va3p2_0) .ret (sd131 va3p2_0 i4p1 x4p1)] (And.intro (po_lr (q := zn va3p2_0 (zr zq va3p2_0)) (lp_ranges_gathered_4p1 va3p2_0 (zr zq va3p2_0) (zr zq va3p2_0) 0 (List.drop_zero) (Nat.zero_le _) (by simp only [zR, GS.some_l, List.length_set, List.length_append, List.length_cons, List.length_nil] at * <;> first | with_reducible assumption | omega) (by simp only [zR, GS.some_l, List.length_set, List.length_append, List.length_cons, List.length_nil] at * <;> first | with_reducible assumption | omega)) h19) (And.intro (gc_of (C := cfg) (f := 69) (a := lp69_4) (ks := [4, 10, 11, 12]) (st := (sd125 va3p2_0)) (st1 := (sd126 va3p2_0)) (by kernel_rfl) (by (simp only [sd125, sd126, go_sem, List.length_set, Nat.reduceAdd, Nat.reduceEqDiff, Nat.reduceLT, Nat.reduceLeDiff, bI2, zg.idsL, zg.renL, zg.snapAll, z7.idsL, z7.renL, z7.snapAll]) <;> rfl)) (And.intro (And.intro (show zj [(1, ⟨va3p2_0.map S_Span.D, 2, false⟩)] 256 [1] [] = some [1] from (by (simp only [zj, go_sem, List.length_set, Nat.reduceAdd, Nat.reduceEqDiff, Nat.reduceLT, Nat.reduceLeDiff, bI2, zg.idsL, zg.renL, zg.snapAll, z7.idsL, z7.renL, z7.snapAll]) <;> rfl)) (T_sort 1 2 none va3p2_0 (by omega))) trivial))) (by kernel_rfl))) (And.intro p2 (And.intro h1 (And.intro p1 trivial)))) (by kernel_rfl)
      | x5 i4p1 x4p1 =>
        try dsimp only
        exact zt ((ranges_Common_o1 a b va3p2_0) ++ [.inlS [1] (.tup [.sl true [] 0 none, I 2]) [(1, ⟨(zr zq va3p2_0).map S_Span.D, 2, false⟩), (2, ⟨[.agg [I x4p1.lo, I x4p1.hi]], 2, false⟩)] 3]) (And.intro (And.intro (show zj [(0, ⟨[.sl a.nl (a.l.map S_Span.D) (zsl a.nl 2) none, .sl b.nl (b.l.map S_Span.D) (zsl b.nl 2) none], 1, false⟩), (1, ⟨va3p2_0.map S_Span.D, 2, false⟩)] 256 [1] [] = some [1] from (by (simp only [zj, go_sem, List.length_set, Nat.reduceAdd, Nat.reduceEqDiff, Nat.reduceLT, Nat.reduceLeDiff, bI2, zg.idsL, zg.renL, zg.snapAll, z7.idsL, z7.renL, z7.snapAll]) <;> rfl)) (show (lim cfg).inl 69 [.lsl 1 0 va3p2_0.length 2 none] [(1, ⟨va3p2_0.map S_Span.D, 2, false⟩)] 2 = some (.tup [.sl true [] 0 none, I 2], [(1, ⟨(zr zq va3p2_0).map S_Span.D, 2, false⟩), (2, ⟨[.agg [I x4p1.lo, I x4p1.hi]], 2, false⟩)], 3) from po_inl [.inlS [1] (.tup []) [(1, ⟨(zr zq va3p2_0).map S_Span.D, 2, false⟩)] 2, .gloop (sd126 va3p2_0) .ret (sd132 va3p2_0 i4p1 x4p1)] (And.intro (po_lr (q := zn va3p2_0 (zr zq va3p2_0)) (lp_ranges_gathered_4p1 va3p2_0 (zr zq va3p2_0) (zr zq va3p2_0) 0 (List.drop_zero) (Nat.zero_le _) (by simp only [zR, GS.some_l, List.length_set, List.length_append, List.length_cons, List.length_nil] at * <;> first | with_reducible assumption | omega) (by simp only [zR, GS.some_l, List.length_set, List.length_append, List.length_cons, List.length_nil] at * <;> first | with_reducible assumption | omega)) h19) (And.intro (gc_of (C := cfg) (f := 69) (a := lp69_4) (ks := [4, 10, 11, 12]) (st := (sd125 va3p2_0)) (st1 := (sd126 va3p2_0)) (by kernel_rfl) (by (simp only [sd125, sd126, go_sem, List.length_set, Nat.reduceAdd, Nat.reduceEqDiff, Nat.reduceLT, Nat.reduceLeDiff, bI2, zg.idsL, zg.renL, zg.snapAll, z7.idsL, z7.renL, z7.snapAll]) <;> rfl)) (And.intro (And.intro (show zj [(1, ⟨va3p2_0.map S_Span.D, 2, false⟩)] 256 [1] [] = some [1] from (by (simp only [zj, go_sem, List.length_set, Nat.reduceAdd, Nat.reduceEqDiff, Nat.reduceLT, Nat.reduceLeDiff, bI2, zg.idsL, zg.renL, zg.snapAll, z7.idsL, z7.renL, z7.snapAll]) <;> rfl)) (T_sort 1 2 none va3p2_0 (by omega))) trivial))) (by kernel_rfl))) (And.intro p2 (And.intro h1 (And.intro p1 trivial)))) (by kernel_rfl)
    | x1 =>
      try dsimp only
      exact zt [.pure (I (zI (GS.some [a, b]))), .dec false, .inl (.sl true [] 0 none) [] 1, .inl (.tup [.sl true [] 0 none, I 0]) [] 1] (And.intro (show (lim cfg).inl 69 [.sl true [] 0 none] [] 1 = some (.tup [.sl true [] 0 none, I 0], [], 1) from po_inl [.inl (.tup []) [] 1, .loop (.exit 0) ⟨65, [(13, B false), (4, .sl true [] 0 none), (10, .sl true [] 0 none), (11, I 0), (12, I 0)], [], 1, 1⟩, .dec false] (And.intro (Eq.refl false) (And.intro (show (lim cfg).loop 69 lp69_4 ⟨65, [(4, .sl true [] 0 none), (10, .sl true [] 0 none), (11, I 0), (12, I 0)], [], 1, 1⟩ = some ((.exit 0), ⟨65, [(13, B false), (4, .sl true [] 0 none), (10, .sl true [] 0 none), (11, I 0), (12, I 0)], [], 1, 1⟩) from (po_last [.dec false] (And.intro (Eq.refl false) trivial) (by kernel_rfl))) (And.intro (T_sort_nil 1) trivial))) (by kernel_rfl)) (And.intro (show (lim cfg).inl 87 [.sl a.nl (a.l.map S_Span.D) (zsl a.nl 2) none, .sl b.nl (b.l.map S_Span.D) (zsl b.nl 2) none, .fn (.func 93) [] []] [] 1 = some (.sl true [] 0 none, [], 1) from po_inl [.rw 15 (I ((a.l.length : Nat) : Int)), .loop (.exit 0) (sd133 a b)] (And.intro (po_lr (q := lr_ranges_pairs_3p2 a b) (lp_ranges_pairs_3p2 a b a.l 0 (List.drop_zero) (Nat.zero_le _) (by omega) (by omega) (by omega)) h18) (And.intro (len_rw S_Span.D a) trivial)) (by kernel_rfl)) (And.intro h1 (And.intro p1 trivial)))) (by kernel_rfl)
end Go.VS

/-
  Ranges: what lies outside. (A text of this claim's own; nothing of it is trusted.)
-/
namespace Go.VS
open Go
set_option maxHeartbeats 0
theorem some_l (lo hi : Int) : (zX lo hi).l = someS lo hi := by
  unfold zX someS
  by_cases h : lo > hi
  · rw [decide_eq_true h, if_pos h]; rfl
  · rw [decide_eq_false h, if_neg h]; rfl
theorem emp_app {α : Type} {v l : List α} {β : Type} (f : List α → β) : (bif l.isEmpty then f v else f (v ++ l)) = f (v ++ l) := by
  cases l <;> simp
end Go.VS

namespace Go.VS
open Go Go.Proofs
set_option maxHeartbeats 0
set_option linter.unusedSimpArgs false
set_option linter.unusedVariables false
end Go.VS

namespace Go.VS
open Go Go.Proofs
set_option maxHeartbeats 0
set_option linter.unusedSimpArgs false
set_option linter.unusedVariables false
end Go.VS

/-
  Ranges: the loop that joins spans in order, plainly (printed by go/rg.py, a program of this claim's own; nothing of it is trusted).
-/
namespace Go.VS
open Go
set_option maxHeartbeats 0
set_option linter.unusedSimpArgs false
set_option linter.unusedVariables false
theorem getD_last {v : List S_Span} {c : S_Span} : (v ++ [c]).getD v.length default = c := by
  rw [List.getD_eq_getElem?_getD, List.getElem?_append_right (Nat.le_refl _)]; simp
theorem set_last {v : List S_Span} {c d : S_Span} : (v ++ [c]).set v.length d = v ++ [d] := by
  rw [List.set_append_right _ _ (Nat.le_refl _)]; simp
theorem len_last {v : List S_Span} {c : S_Span} : w64 ((((v ++ [c]).length : Nat) : Int) - 1) = ((v.length : Nat) : Int) ∨ 9223372036854775807 < v.length := by
  by_cases h : 9223372036854775807 < v.length
  · exact .inr h
  · left
    simp only [List.length_append, List.length_cons, List.length_nil]
    rw [w64_eq (by omega) (by omega)]; omega
def ArL (l : List S_Span) : Prop := ∀ s ∈ l, Ar s.lo ∧ Ar s.hi

theorem ranges_gathered_4p1_ok : ∀ (l : List S_Span) (i : Nat) (v : List S_Span) (c : S_Span), ArL l → Ar c.hi → v.length + l.length ≤ 1099511627776 → zG l i (v ++ [c]) = .x0 (v ++ jn c l)
  | [], i, v, c, _, _, _ => rfl
  | x :: l, i, v, c, h, hc, hv => by
    have hx := h x List.mem_cons_self
    have h' : ArL l := fun t ht => h t (List.mem_cons_of_mem _ ht)
    simp only [List.length_cons] at hv
    unfold zG jn
    rw [area_iff.2 hx.1, area_iff.2 hx.2]
    have hl : w64 ((((v ++ [c]).length : Nat) : Int) - 1) = ((v.length : Nat) : Int) := by
      rcases len_last (v := v) (c := c) with e | e
      · exact e
      · omega
    have hp : decide ((((v ++ [c]).length : Nat) : Int) > 0) = true := decide_eq_true (by simp only [List.length_append, List.length_cons, List.length_nil]; omega)
    rw [hl, hp, Int.toNat_natCast, getD_last, set_last]
    unfold Ar at hc
    have hx2 := hx.2
    unfold Ar at hx2
    rw [w64_eq (n := c.hi + 1) (by omega) (by omega), imax_eq]
    by_cases hle : x.lo ≤ c.hi + 1
    · rw [decide_eq_true hle, if_pos hle]
      exact ranges_gathered_4p1_ok l (i + 1) v ⟨c.lo, max c.hi x.hi⟩ h' (by unfold Ar; simp only; omega) (by omega)
    · rw [decide_eq_false hle, if_neg hle]
      have := ranges_gathered_4p1_ok l (i + 1) (v ++ [c]) x h' hx.2 (by simp only [List.length_append, List.length_cons, List.length_nil]; omega)
      simp only [cond_true, cond_false]
      rw [this, List.append_assoc]; rfl
def ranges_gathered_4p1_er : LR_ranges_gathered_4p1 → Bool
  | .x1 _ _ _ => true
  | .x2 _ _ _ => true
  | .x4 _ _ => true
  | .x5 _ _ => true
  | _ => false
theorem ranges_gathered_4p1_bad : ∀ (l : List S_Span) (i : Nat) (v : List S_Span), ¬ ArL l → ranges_gathered_4p1_er (zG l i v) = true
  | [], i, v, h => absurd (fun s hs => by cases hs) h
  | x :: l, i, v, h => by
    unfold zG
    cases h1 : zv x.lo with
    | false => rfl
    | true =>
      cases h2 : zv x.hi with
      | false => rfl
      | true =>
        have h' : ¬ ArL l := fun k => h fun s hs => by
          rcases List.mem_cons.1 hs with rfl | hs
          · exact ⟨area_iff.1 h1, area_iff.1 h2⟩
          · exact k s hs
        have ih := fun v => ranges_gathered_4p1_bad l (i + 1) v h'
        simp only [cond_true]
        cases decide (((v.length : Nat) : Int) > 0) with
        | false => exact ih _
        | true =>
          simp only [cond_true]
          cases decide (x.lo ≤ w64 ((v.getD ((w64 (((v.length : Nat) : Int) - 1)).toNat) default).hi + 1)) <;> exact ih _
theorem ranges_gathered_4p1_at {l : List S_Span} (hne : l ≠ []) (hl : l.length ≤ 1099511627776) : (ArL l ∧ zy (zr zq l) 0 = .x0 (can zq l)) ∨ (¬ ArL l ∧ ranges_gathered_4p1_er (zy (zr zq l) 0) = true) := by
  have hp := srtG_perm gcmp_lo l
  have hlen := srtG_len gcmp_lo l
  have har : ArL (zr zq l) ↔ ArL l := ⟨fun h s hs => h s (hp.mem_iff.2 hs), fun h s hs => h s (hp.mem_iff.1 hs)⟩
  rw [← har]
  unfold can
  have hne' : zr zq l ≠ [] := fun h => hne (by rw [h] at hp; exact List.nil_perm.1 hp)
  generalize zr zq l = q at *
  cases q with
  | nil => exact absurd rfl hne'
  | cons c q =>
    simp only [List.length_cons] at hlen
    unfold zy jnL
    dsimp only
    by_cases hc : Ar c.lo ∧ Ar c.hi
    · rw [area_iff.2 hc.1, area_iff.2 hc.2]
      by_cases hq : ArL q
      · left
        refine ⟨fun s hs => ?_, ?_⟩
        · rcases List.mem_cons.1 hs with rfl | hs
          · exact hc
          · exact hq s hs
        · exact ranges_gathered_4p1_ok q 1 [] c hq hc.2 (by simp; omega)
      · right
        exact ⟨fun h => hq fun s hs => h s (List.mem_cons_of_mem _ hs), ranges_gathered_4p1_bad q 1 [c] hq⟩
    · right
      refine ⟨fun h => hc (h c List.mem_cons_self), ?_⟩
      cases h1 : zv c.lo with
      | false => rfl
      | true =>
        cases h2 : zv c.hi with
        | false => rfl
        | true => exact absurd ⟨area_iff.1 h1, area_iff.1 h2⟩ hc

end Go.VS

/-
  Ranges: the loops over pairs, plainly (printed by go/rp.py, a program of this claim's own; nothing of it is trusted).
-/
namespace Go.VS
open Go
set_option maxHeartbeats 0
theorem flat_cons_emp {α : Type} {f : α → List S_Span} {x : α} {l : List α} (h : (f x).isEmpty = true) : (x :: l).flatMap f = l.flatMap f := by
  have : f x = [] := by simpa using h
  rw [List.flatMap_cons, this]; rfl

def f_ranges_Sum_1 (x y : S_Span) : List S_Span := ((zd x y).1).l
theorem ranges_pairs_6_eq (x : S_Span) : ∀ (l v : List S_Span), ranges_pairs_6 x l v = .x0 (v ++ l.flatMap (f_ranges_Sum_1 x))
  | [], v => by simp [ranges_pairs_6]
  | y :: l, v => by
    unfold ranges_pairs_6
    rw [emp_app (fun z => ranges_pairs_6 x l z), ranges_pairs_6_eq x l _, List.flatMap_cons, List.append_assoc]; rfl
theorem ranges_pairs_6p1a_eq (x : S_Span) : ∀ (l v : List S_Span), zS x l v = .x0 (v ++ l.flatMap (f_ranges_Sum_1 x))
  | [], v => by simp [zS]
  | y :: l, v => by
    unfold zS
    rw [emp_app (fun z => zS x l z), ranges_pairs_6p1a_eq x l _, List.flatMap_cons, List.append_assoc]; rfl
theorem ranges_pairs_6p1_eq (x : S_Span) : ∀ (l : List S_Span), (l.flatMap (f_ranges_Sum_1 x) = [] ∧ ranges_pairs_6p1 x l = .x1) ∨ (l.flatMap (f_ranges_Sum_1 x) ≠ [] ∧ ranges_pairs_6p1 x l = .x0 (l.flatMap (f_ranges_Sum_1 x)))
  | [] => .inl ⟨rfl, rfl⟩
  | y :: l => by
    unfold ranges_pairs_6p1
    cases h : (((zd x y).1).l).isEmpty with
    | true =>
      rw [flat_cons_emp (f := f_ranges_Sum_1 x) h]
      exact ranges_pairs_6p1_eq x l
    | false =>
      right
      simp only [cond_false]
      rw [ranges_pairs_6p1a_eq, List.flatMap_cons]
      refine ⟨fun k => ?_, rfl⟩
      have := (List.append_eq_nil_iff.1 k).1
      have h2 : ((zd x y).1).l = [] := this
      rw [h2] at h; cases h
theorem ranges_pairs_3a_eq (b : GS S_Span) : ∀ (l v : List S_Span), ranges_pairs_3a b l v = .x0 (v ++ pairsL l b.l f_ranges_Sum_1)
  | [], v => by simp [ranges_pairs_3a, pairsL]
  | x :: l, v => by
    unfold ranges_pairs_3a
    rw [ranges_pairs_6_eq]
    dsimp only
    rw [ranges_pairs_3a_eq b l _, List.append_assoc]; rfl
theorem ranges_pairs_3_eq (b : GS S_Span) : ∀ (l : List S_Span), (pairsL l b.l f_ranges_Sum_1 = [] ∧ ranges_pairs_3 b l = .x1) ∨ (pairsL l b.l f_ranges_Sum_1 ≠ [] ∧ ranges_pairs_3 b l = .x0 (pairsL l b.l f_ranges_Sum_1))
  | [] => .inl ⟨rfl, rfl⟩
  | x :: l => by
    unfold ranges_pairs_3
    have e : pairsL (x :: l) b.l f_ranges_Sum_1 = b.l.flatMap (f_ranges_Sum_1 x) ++ pairsL l b.l f_ranges_Sum_1 := rfl
    rw [e]
    rcases ranges_pairs_6p1_eq x b.l with ⟨h1, h2⟩ | ⟨h1, h2⟩ <;> rw [h2] <;> dsimp only
    · rw [h1]
      exact ranges_pairs_3_eq b l
    · right
      rw [ranges_pairs_3a_eq]
      exact ⟨fun k => h1 (List.append_eq_nil_iff.1 k).1, rfl⟩

def zB (x y : S_Span) : List S_Span := ((z8 x y).1).l
theorem ranges_pairs_6p2_eq (x : S_Span) : ∀ (l v : List S_Span), zO x l v = .x0 (v ++ l.flatMap (zB x))
  | [], v => by simp [zO]
  | y :: l, v => by
    unfold zO
    rw [emp_app (fun z => zO x l z), ranges_pairs_6p2_eq x l _, List.flatMap_cons, List.append_assoc]; rfl
theorem ranges_pairs_6p3a_eq (x : S_Span) : ∀ (l v : List S_Span), zU x l v = .x0 (v ++ l.flatMap (zB x))
  | [], v => by simp [zU]
  | y :: l, v => by
    unfold zU
    rw [emp_app (fun z => zU x l z), ranges_pairs_6p3a_eq x l _, List.flatMap_cons, List.append_assoc]; rfl
theorem ranges_pairs_6p3_eq (x : S_Span) : ∀ (l : List S_Span), (l.flatMap (zB x) = [] ∧ ranges_pairs_6p3 x l = .x1) ∨ (l.flatMap (zB x) ≠ [] ∧ ranges_pairs_6p3 x l = .x0 (l.flatMap (zB x)))
  | [] => .inl ⟨rfl, rfl⟩
  | y :: l => by
    unfold ranges_pairs_6p3
    cases h : (((z8 x y).1).l).isEmpty with
    | true =>
      rw [flat_cons_emp (f := zB x) h]
      exact ranges_pairs_6p3_eq x l
    | false =>
      right
      simp only [cond_false]
      rw [ranges_pairs_6p3a_eq, List.flatMap_cons]
      refine ⟨fun k => ?_, rfl⟩
      have := (List.append_eq_nil_iff.1 k).1
      have h2 : ((z8 x y).1).l = [] := this
      rw [h2] at h; cases h
theorem ranges_pairs_3p1a_eq (b : GS S_Span) : ∀ (l v : List S_Span), ranges_pairs_3p1a b l v = .x0 (v ++ pairsL l b.l zB)
  | [], v => by simp [ranges_pairs_3p1a, pairsL]
  | x :: l, v => by
    unfold ranges_pairs_3p1a
    rw [ranges_pairs_6p2_eq]
    dsimp only
    rw [ranges_pairs_3p1a_eq b l _, List.append_assoc]; rfl
theorem ranges_pairs_3p1_eq (b : GS S_Span) : ∀ (l : List S_Span), (pairsL l b.l zB = [] ∧ ranges_pairs_3p1 b l = .x1) ∨ (pairsL l b.l zB ≠ [] ∧ ranges_pairs_3p1 b l = .x0 (pairsL l b.l zB))
  | [] => .inl ⟨rfl, rfl⟩
  | x :: l => by
    unfold ranges_pairs_3p1
    have e : pairsL (x :: l) b.l zB = b.l.flatMap (zB x) ++ pairsL l b.l zB := rfl
    rw [e]
    rcases ranges_pairs_6p3_eq x b.l with ⟨h1, h2⟩ | ⟨h1, h2⟩ <;> rw [h2] <;> dsimp only
    · rw [h1]
      exact ranges_pairs_3p1_eq b l
    · right
      rw [ranges_pairs_3p1a_eq]
      exact ⟨fun k => h1 (List.append_eq_nil_iff.1 k).1, rfl⟩

def zK (x y : S_Span) : List S_Span := ((zc x y).1).l
theorem ranges_pairs_6p4_eq (x : S_Span) : ∀ (l v : List S_Span), zP x l v = .x0 (v ++ l.flatMap (zK x))
  | [], v => by simp [zP]
  | y :: l, v => by
    unfold zP
    rw [emp_app (fun z => zP x l z), ranges_pairs_6p4_eq x l _, List.flatMap_cons, List.append_assoc]; rfl
theorem ranges_pairs_6p5a_eq (x : S_Span) : ∀ (l v : List S_Span), zV x l v = .x0 (v ++ l.flatMap (zK x))
  | [], v => by simp [zV]
  | y :: l, v => by
    unfold zV
    rw [emp_app (fun z => zV x l z), ranges_pairs_6p5a_eq x l _, List.flatMap_cons, List.append_assoc]; rfl
theorem ranges_pairs_6p5_eq (x : S_Span) : ∀ (l : List S_Span), (l.flatMap (zK x) = [] ∧ ranges_pairs_6p5 x l = .x1) ∨ (l.flatMap (zK x) ≠ [] ∧ ranges_pairs_6p5 x l = .x0 (l.flatMap (zK x)))
  | [] => .inl ⟨rfl, rfl⟩
  | y :: l => by
    unfold ranges_pairs_6p5
    cases h : (((zc x y).1).l).isEmpty with
    | true =>
      rw [flat_cons_emp (f := zK x) h]
      exact ranges_pairs_6p5_eq x l
    | false =>
      right
      simp only [cond_false]
      rw [ranges_pairs_6p5a_eq, List.flatMap_cons]
      refine ⟨fun k => ?_, rfl⟩
      have := (List.append_eq_nil_iff.1 k).1
      have h2 : ((zc x y).1).l = [] := this
      rw [h2] at h; cases h
theorem ranges_pairs_3p2a_eq (b : GS S_Span) : ∀ (l v : List S_Span), ranges_pairs_3p2a b l v = .x0 (v ++ pairsL l b.l zK)
  | [], v => by simp [ranges_pairs_3p2a, pairsL]
  | x :: l, v => by
    unfold ranges_pairs_3p2a
    rw [ranges_pairs_6p4_eq]
    dsimp only
    rw [ranges_pairs_3p2a_eq b l _, List.append_assoc]; rfl
theorem ranges_pairs_3p2_eq (b : GS S_Span) : ∀ (l : List S_Span), (pairsL l b.l zK = [] ∧ ranges_pairs_3p2 b l = .x1) ∨ (pairsL l b.l zK ≠ [] ∧ ranges_pairs_3p2 b l = .x0 (pairsL l b.l zK))
  | [] => .inl ⟨rfl, rfl⟩
  | x :: l => by
    unfold ranges_pairs_3p2
    have e : pairsL (x :: l) b.l zK = b.l.flatMap (zK x) ++ pairsL l b.l zK := rfl
    rw [e]
    rcases ranges_pairs_6p5_eq x b.l with ⟨h1, h2⟩ | ⟨h1, h2⟩ <;> rw [h2] <;> dsimp only
    · rw [h1]
      exact ranges_pairs_3p2_eq b l
    · right
      rw [ranges_pairs_3p2a_eq]
      exact ⟨fun k => h1 (List.append_eq_nil_iff.1 k).1, rfl⟩

end Go.VS

/-
  Ranges: what sums, differences, common and other parts come to (printed by go/ri.py, a program of this claim's own; nothing of it is trusted).
-/
namespace Go.VS
open Go
set_option maxHeartbeats 0
/-- What is made of spans. -/
def GR (l : List S_Span) (res : GS S_Span × Int) : Prop := (ArL l ∧ (can zq l).length ≤ 64 ∧ res.1.l = can zq l ∧ res.2 = 0) ∨ ((¬ ArL l ∨ 64 < (can zq l).length) ∧ res = (GS.nil, 2))
theorem can_nil : can zq [] = [] := by
  have : zr zq [] = [] := List.length_eq_zero_iff.1 (by rw [srtG_len gcmp_lo]; rfl)
  unfold can; rw [this]; rfl
theorem GR_nil : GR [] (GS.nil, 0) := .inl ⟨(fun s hs => by cases hs), by rw [can_nil]; simp, by rw [can_nil]; rfl, rfl⟩
theorem GR_end {l : List S_Span} (h : ArL l) : GR l (bif decide ((((can zq l).length : Nat) : Int) > 64) then (GS.nil, 2) else (GS.some (can zq l), 0)) := by
  cases hd : decide ((((can zq l).length : Nat) : Int) > 64) with
  | true => have := of_decide_eq_true hd; exact .inr ⟨.inr (by omega), rfl⟩
  | false => have := of_decide_eq_false hd; exact .inl ⟨h, by omega, rfl, rfl⟩
theorem pairs_congr {a b : List S_Span} {f g : S_Span → S_Span → List S_Span} (h : ∀ s ∈ a, ∀ t ∈ b, f s t = g s t) : pairsL a b f = pairsL a b g := by
  unfold pairsL
  induction a with
  | nil => rfl
  | cons s a ih =>
    rw [List.flatMap_cons, List.flatMap_cons, ih fun s hs => h s (List.mem_cons_of_mem _ hs)]
    congr 1
    have hs := h s List.mem_cons_self
    clear ih h
    induction b with
    | nil => rfl
    | cons t b ih => rw [List.flatMap_cons, List.flatMap_cons, hs t List.mem_cons_self, ih fun t ht => hs t (List.mem_cons_of_mem _ ht)]
theorem pairs_small {a b : List S_Span} {f : S_Span → S_Span → List S_Span} (h : ∀ s t, (f s t).length ≤ 1) (ha : a.length ≤ 64) (hb : b.length ≤ 65) : (pairsL a b f).length ≤ 1099511627776 := by
  have := pairs_len (a := a) (b := b) h
  have h2 : a.length * b.length ≤ 64 * 65 := Nat.mul_le_mul ha hb
  omega
/-- A range or that it does not fit. -/
def Res (S : Int → Prop) (res : GS S_Span × Int) : Prop := (res.2 = 0 ∧ Ok res.1.l ∧ Rg S res.1.l) ∨ res = (GS.nil, 2)
theorem GR.res {l : List S_Span} {res : GS S_Span × Int} (hl : ∀ s ∈ l, s.lo ≤ s.hi) (h : GR l res) : Res (In l) res := by
  rcases h with ⟨h1, h2, h3, h4⟩ | ⟨_, h⟩
  · left
    have k := can_rg gcmp_lo hl
    rw [h3]
    refine ⟨h4, ⟨k.1, cn_bd k.1 fun x hx => ?_, h2⟩, k⟩
    obtain ⟨s, hs, a, b⟩ := (k.2 x).1 hx
    have := h1 s hs
    unfold Ar at this
    omega
  · exact .inr h
theorem Res.congr {S T : Int → Prop} {res : GS S_Span × Int} (h : Res S res) (e : ∀ x, S x ↔ T x) : Res T res := h.imp (fun ⟨a, b, c⟩ => ⟨a, b, c.congr e⟩) id

theorem Sum_gr {a b : GS S_Span} (ha : Ok a.l) (hb : Ok b.l) : GR (pairsL a.l b.l sumF) (ze a b) := by
  have hbo : b.l = b.l := rfl
  have hf : pairsL a.l b.l f_ranges_Sum_1 = pairsL a.l b.l sumF := pairs_congr fun s hs t ht => by
    have h1 := ha.2.1 s hs
    have h2 := hb.2.1 t ht
    unfold f_ranges_Sum_1 zd sumF
    dsimp only
    rw [w64_eq (by omega) (by omega), w64_eq (by omega) (by omega), some_l]
  unfold ze
  rw [check2_iff.2 ⟨ha, hb⟩]
  simp only [bne_self_eq_false, cond_false]
  have k := ranges_pairs_3_eq b a.l
  rw [hbo, hf] at k
  rcases k with ⟨k1, k2⟩ | ⟨k1, k2⟩ <;> rw [k2] <;> dsimp only
  · rw [k1]; exact GR_nil
  · generalize hq : pairsL a.l b.l sumF = q at *
    have hlen : q.length ≤ 1099511627776 := by
      rw [← hq]
      exact pairs_small (fun s t => some_len) ha.2.2 (by have := hb.2.2; omega)
    rcases ranges_gathered_4p1_at k1 hlen with ⟨g1, g2⟩ | ⟨g1, g2⟩
    · rw [g2]; exact GR_end g1
    · refine .inr ⟨.inl g1, ?_⟩
      revert g2
      cases zy (zr zq q) 0 <;> intro g2 <;> first | rfl | cases g2

theorem Difference_gr {a b : GS S_Span} (ha : Ok a.l) (hb : Ok b.l) : GR (pairsL a.l b.l difF) (z6 a b) := by
  have hbo : b.l = b.l := rfl
  have hf : pairsL a.l b.l zB = pairsL a.l b.l difF := pairs_congr fun s hs t ht => by
    have h1 := ha.2.1 s hs
    have h2 := hb.2.1 t ht
    unfold zB z8 difF
    dsimp only
    rw [w64_eq (by omega) (by omega), w64_eq (by omega) (by omega), some_l]
  unfold z6
  rw [check2_iff.2 ⟨ha, hb⟩]
  simp only [bne_self_eq_false, cond_false]
  have k := ranges_pairs_3p1_eq b a.l
  rw [hbo, hf] at k
  rcases k with ⟨k1, k2⟩ | ⟨k1, k2⟩ <;> rw [k2] <;> dsimp only
  · rw [k1]; exact GR_nil
  · generalize hq : pairsL a.l b.l difF = q at *
    have hlen : q.length ≤ 1099511627776 := by
      rw [← hq]
      exact pairs_small (fun s t => some_len) ha.2.2 (by have := hb.2.2; omega)
    rcases ranges_gathered_4p1_at k1 hlen with ⟨g1, g2⟩ | ⟨g1, g2⟩
    · rw [g2]; exact GR_end g1
    · refine .inr ⟨.inl g1, ?_⟩
      revert g2
      cases zy (zr zq q) 0 <;> intro g2 <;> first | rfl | cases g2

theorem Common_gr {a b : GS S_Span} (ha : Ok a.l) (hb : Ok b.l) : GR (pairsL a.l b.l comF) (zb a b) := by
  have hbo : b.l = b.l := rfl
  have hf : pairsL a.l b.l zK = pairsL a.l b.l comF := pairs_congr fun s hs t ht => by
    unfold zK zc comF
    dsimp only
    rw [imax_eq, imin_eq, some_l]
  unfold zb
  rw [check2_iff.2 ⟨ha, hb⟩]
  simp only [bne_self_eq_false, cond_false]
  have k := ranges_pairs_3p2_eq b a.l
  rw [hbo, hf] at k
  rcases k with ⟨k1, k2⟩ | ⟨k1, k2⟩ <;> rw [k2] <;> dsimp only
  · rw [k1]; exact GR_nil
  · generalize hq : pairsL a.l b.l comF = q at *
    have hlen : q.length ≤ 1099511627776 := by
      rw [← hq]
      exact pairs_small (fun s t => some_len) ha.2.2 (by have := hb.2.2; omega)
    rcases ranges_gathered_4p1_at k1 hlen with ⟨g1, g2⟩ | ⟨g1, g2⟩
    · rw [g2]; exact GR_end g1
    · refine .inr ⟨.inl g1, ?_⟩
      revert g2
      cases zy (zr zq q) 0 <;> intro g2 <;> first | rfl | cases g2

theorem sum_res {a b : GS S_Span} (ha : Ok a.l) (hb : Ok b.l) : Res (fun x => ∃ y z, In a.l y ∧ In b.l z ∧ x = y + z) (ze a b) :=
  ((Sum_gr ha hb).res (pairs_ne fun s _ t _ => some_ne)).congr fun x => In_sum (fun s hs => cn_mem ha.1 hs) (fun s hs => cn_mem hb.1 hs)
theorem diff_res {a b : GS S_Span} (ha : Ok a.l) (hb : Ok b.l) : Res (fun x => ∃ y z, In a.l y ∧ In b.l z ∧ x = y - z) (z6 a b) :=
  ((Difference_gr ha hb).res (pairs_ne fun s _ t _ => some_ne)).congr fun x => In_diff (fun s hs => cn_mem ha.1 hs) (fun s hs => cn_mem hb.1 hs)
theorem common_res {a b : GS S_Span} (ha : Ok a.l) (hb : Ok b.l) : Res (fun x => In a.l x ∧ In b.l x) (zb a b) :=
  ((Common_gr ha hb).res (pairs_ne fun s _ t _ => some_ne)).congr fun x => In_common
end Go.VS

/-
  Ranges: Hull, Next, Near, plainly. (A text of this claim's own; nothing of it is trusted.)
-/
namespace Go.VS
open Go
set_option maxHeartbeats 0
/-! ### Near -/
def Di (m z : Int) : Int := max (z - m) (m - z)
/-- The nearest of a set; of two the lesser one. -/
def Nst (m : Int) (S : Int → Prop) (v : Int) : Prop := S v ∧ ∀ z, S z → Di m v ≤ Di m z ∧ (Di m z = Di m v → v ≤ z)
theorem Nst.congr {m : Int} {S T : Int → Prop} {v : Int} (h : Nst m S v) (e : ∀ z, S z ↔ T z) : Nst m T v := ⟨(e v).1 h.1, fun z hz => h.2 z ((e z).2 hz)⟩
end Go.VS

/-
  Ranges: errors that do not come of valid ranges. (A text of this claim's own; nothing of it is trusted.)
-/
namespace Go.VS
open Go
section
variable {r : GS S_Span} (h : r_Valid r = true)
include h
end
end Go.VS

/-
  Ranges: work, plainly. (A text of this claim's own; nothing of it is trusted.)
-/
namespace Go.VS
open Go
/-- What is taken of an answer: nothing, if it did not fit. -/
def zh (r : GS S_Span) (e : Int) : GS S_Span := bif (e == 2) then GS.nil else r
def zi (L : Bool) (e : Int) : Bool := bif (e == 2) then true else L
def holdsB (L z : Bool) : Bool := bif L then true else z
/-- An answer that may be taken. -/
def Tkn (r : GS S_Span) (e : Int) : Prop := (e = 2 ∧ r = GS.nil) ∨ (e = 0 ∧ Ok r.l)
theorem tk_e {r : GS S_Span} {e : Int} (h : Tkn r e) (h2 : (e == 2) = false) : (e != 0) = false := by
  rcases h with ⟨rfl, _⟩ | ⟨rfl, _⟩
  · cases h2
  · rfl
theorem tk_r {r : GS S_Span} {e : Int} (h : Tkn r e) (h2 : (e == 2) = false) : ((r_Check r) != 0) = false := by
  rcases h with ⟨rfl, _⟩ | ⟨rfl, h⟩
  · cases h2
  · rw [← same_check, check_iff.2 h]; rfl
theorem tkn_len {r : GS S_Span} {e : Int} (h : Tkn r e) : r.l.length ≤ 9223372036854775807 := by
  rcases h with ⟨_, rfl⟩ | ⟨_, h⟩
  · simp [GS.nil]
  · exact Nat.le_trans h.2.2 (by decide)
theorem ok64 {r : GS S_Span} (h : Ok r.l) : r.l.length ≤ 64 := h.2.2
theorem ok_nil : Ok (GS.nil : GS S_Span).l := ⟨trivial, (fun s hs => by cases hs), by simp [GS.nil]⟩
theorem ok_take {r : GS S_Span} {e : Int} (h : Tkn r e) : Ok (zh r e).l := by
  unfold zh
  rcases h with ⟨rfl, _⟩ | ⟨rfl, h⟩
  · exact ok_nil
  · exact h
theorem tk_res {S : Int → Prop} {res : GS S_Span × Int} (h : Res S res) : Tkn res.1 res.2 := by
  rcases h with ⟨h1, h2, _⟩ | h
  · exact .inr ⟨h1, h2⟩
  · rw [h]; exact .inl ⟨rfl, rfl⟩
theorem tk_Sum {a b : GS S_Span} (ha : Ok a.l) (hb : Ok b.l) : Tkn (ze a b).1 (ze a b).2 := tk_res (sum_res ha hb)
theorem tk_Difference {a b : GS S_Span} (ha : Ok a.l) (hb : Ok b.l) : Tkn (z6 a b).1 (z6 a b).2 := tk_res (diff_res ha hb)
theorem tk_Common {a b : GS S_Span} (ha : Ok a.l) (hb : Ok b.l) : Tkn (zb a b).1 (zb a b).2 := tk_res (common_res ha hb)
/-- Whether a value taken stands for a set, or nothing fits any more. -/
def Tk (L : Bool) (S : Int → Prop) (r : GS S_Span) : Prop := L = true ∨ (Ok r.l ∧ Rg S r.l)
theorem Tk.take {L : Bool} {S : Int → Prop} {res : GS S_Span × Int} (h : Res S res) : Tk (zi L res.2) S (zh res.1 res.2) := by
  unfold zi zh
  rcases h with ⟨h1, h2, h3⟩ | h
  · right; rw [h1]; exact ⟨h2, h3⟩
  · left; rw [h]; rfl
end Go.VS

namespace Go.VS
open Go Go.Proofs
set_option maxHeartbeats 0
set_option linter.unusedSimpArgs false
set_option linter.unusedVariables false
def l_RangesAdjoint (a : GS S_Span) (b : GS S_Span) (c : GS S_Span) : Bool :=
  bif (r_Valid a) then
    bif (r_Valid b) then
      bif (r_Valid c) then
        bif decide ((((zh ((zb (zh ((ze a b).1) ((ze a b).2)) c).1) ((zb (zh ((ze a b).1) ((ze a b).2)) c).2)).l.length : Nat) : Int) > 0) then
          bif decide ((((zh ((zb (zh ((z6 c b).1) ((z6 c b).2)) a).1) ((zb (zh ((z6 c b).1) ((z6 c b).2)) a).2)).l.length : Nat) : Int) > 0) then
            bif decide ((((zh ((zb (zh ((z6 c a).1) ((z6 c a).2)) b).1) ((zb (zh ((z6 c a).1) ((z6 c a).2)) b).2)).l.length : Nat) : Int) > 0) then
              bif (holdsB (zi (zi (zi (zi (zi (zi false ((ze a b).2)) ((zb (zh ((ze a b).1) ((ze a b).2)) c).2)) ((z6 c b).2)) ((zb (zh ((z6 c b).1) ((z6 c b).2)) a).2)) ((z6 c a).2)) ((zb (zh ((z6 c a).1) ((z6 c a).2)) b).2)) true) then
                true
              else
                false
            else
              bif (holdsB (zi (zi (zi (zi (zi (zi false ((ze a b).2)) ((zb (zh ((ze a b).1) ((ze a b).2)) c).2)) ((z6 c b).2)) ((zb (zh ((z6 c b).1) ((z6 c b).2)) a).2)) ((z6 c a).2)) ((zb (zh ((z6 c a).1) ((z6 c a).2)) b).2)) false) then
                true
              else
                false
          else
            bif (holdsB (zi (zi (zi (zi (zi (zi false ((ze a b).2)) ((zb (zh ((ze a b).1) ((ze a b).2)) c).2)) ((z6 c b).2)) ((zb (zh ((z6 c b).1) ((z6 c b).2)) a).2)) ((z6 c a).2)) ((zb (zh ((z6 c a).1) ((z6 c a).2)) b).2)) false) then
              true
            else
              false
        else
          bif decide ((((zh ((zb (zh ((z6 c b).1) ((z6 c b).2)) a).1) ((zb (zh ((z6 c b).1) ((z6 c b).2)) a).2)).l.length : Nat) : Int) > 0) then
            bif (holdsB (zi (zi (zi (zi (zi (zi false ((ze a b).2)) ((zb (zh ((ze a b).1) ((ze a b).2)) c).2)) ((z6 c b).2)) ((zb (zh ((z6 c b).1) ((z6 c b).2)) a).2)) ((z6 c a).2)) ((zb (zh ((z6 c a).1) ((z6 c a).2)) b).2)) false) then
              true
            else
              false
          else
            bif decide ((((zh ((zb (zh ((z6 c a).1) ((z6 c a).2)) b).1) ((zb (zh ((z6 c a).1) ((z6 c a).2)) b).2)).l.length : Nat) : Int) > 0) then
              bif (holdsB (zi (zi (zi (zi (zi (zi false ((ze a b).2)) ((zb (zh ((ze a b).1) ((ze a b).2)) c).2)) ((z6 c b).2)) ((zb (zh ((z6 c b).1) ((z6 c b).2)) a).2)) ((z6 c a).2)) ((zb (zh ((z6 c a).1) ((z6 c a).2)) b).2)) false) then
                true
              else
                false
            else
              bif (holdsB (zi (zi (zi (zi (zi (zi false ((ze a b).2)) ((zb (zh ((ze a b).1) ((ze a b).2)) c).2)) ((z6 c b).2)) ((zb (zh ((z6 c b).1) ((z6 c b).2)) a).2)) ((z6 c a).2)) ((zb (zh ((z6 c a).1) ((z6 c a).2)) b).2)) true) then
                true
              else
                false
      else
        true
    else
      true
  else
    true

def zW (a : GS S_Span) (b : GS S_Span) (c : GS S_Span) : List Ora := [.pure (B true), .dec true, .pure (B (r_Valid a)), .dec true, .pure (B (r_Valid b)), .dec true, .pure (B (r_Valid c)), .dec true, .pure (.tup [.sl (((ze a b).1).nl) ((((ze a b).1).l).map S_Span.D) (zsl (((ze a b).1).nl) 2) none, I ((ze a b).2)]), .inl (.sl ((zh ((ze a b).1) ((ze a b).2)).nl) (((zh ((ze a b).1) ((ze a b).2)).l).map S_Span.D) (zsl ((zh ((ze a b).1) ((ze a b).2)).nl) 2) none) [(0, ⟨[.agg [B (zi false ((ze a b).2)), B false]], 2, false⟩)] 1, .pure (.tup [.sl (((zb (zh ((ze a b).1) ((ze a b).2)) c).1).nl) ((((zb (zh ((ze a b).1) ((ze a b).2)) c).1).l).map S_Span.D) (zsl (((zb (zh ((ze a b).1) ((ze a b).2)) c).1).nl) 2) none, I ((zb (zh ((ze a b).1) ((ze a b).2)) c).2)]), .inl (.sl ((zh ((zb (zh ((ze a b).1) ((ze a b).2)) c).1) ((zb (zh ((ze a b).1) ((ze a b).2)) c).2)).nl) (((zh ((zb (zh ((ze a b).1) ((ze a b).2)) c).1) ((zb (zh ((ze a b).1) ((ze a b).2)) c).2)).l).map S_Span.D) (zsl ((zh ((zb (zh ((ze a b).1) ((ze a b).2)) c).1) ((zb (zh ((ze a b).1) ((ze a b).2)) c).2)).nl) 2) none) [(0, ⟨[.agg [B (zi (zi false ((ze a b).2)) ((zb (zh ((ze a b).1) ((ze a b).2)) c).2)), B false]], 2, false⟩)] 1, .pure (.tup [.sl (((z6 c b).1).nl) ((((z6 c b).1).l).map S_Span.D) (zsl (((z6 c b).1).nl) 2) none, I ((z6 c b).2)]), .inl (.sl ((zh ((z6 c b).1) ((z6 c b).2)).nl) (((zh ((z6 c b).1) ((z6 c b).2)).l).map S_Span.D) (zsl ((zh ((z6 c b).1) ((z6 c b).2)).nl) 2) none) [(0, ⟨[.agg [B (zi (zi (zi false ((ze a b).2)) ((zb (zh ((ze a b).1) ((ze a b).2)) c).2)) ((z6 c b).2)), B false]], 2, false⟩)] 1, .pure (.tup [.sl (((zb (zh ((z6 c b).1) ((z6 c b).2)) a).1).nl) ((((zb (zh ((z6 c b).1) ((z6 c b).2)) a).1).l).map S_Span.D) (zsl (((zb (zh ((z6 c b).1) ((z6 c b).2)) a).1).nl) 2) none, I ((zb (zh ((z6 c b).1) ((z6 c b).2)) a).2)]), .inl (.sl ((zh ((zb (zh ((z6 c b).1) ((z6 c b).2)) a).1) ((zb (zh ((z6 c b).1) ((z6 c b).2)) a).2)).nl) (((zh ((zb (zh ((z6 c b).1) ((z6 c b).2)) a).1) ((zb (zh ((z6 c b).1) ((z6 c b).2)) a).2)).l).map S_Span.D) (zsl ((zh ((zb (zh ((z6 c b).1) ((z6 c b).2)) a).1) ((zb (zh ((z6 c b).1) ((z6 c b).2)) a).2)).nl) 2) none) [(0, ⟨[.agg [B (zi (zi (zi (zi false ((ze a b).2)) ((zb (zh ((ze a b).1) ((ze a b).2)) c).2)) ((z6 c b).2)) ((zb (zh ((z6 c b).1) ((z6 c b).2)) a).2)), B false]], 2, false⟩)] 1, .pure (.tup [.sl (((z6 c a).1).nl) ((((z6 c a).1).l).map S_Span.D) (zsl (((z6 c a).1).nl) 2) none, I ((z6 c a).2)]), .inl (.sl ((zh ((z6 c a).1) ((z6 c a).2)).nl) (((zh ((z6 c a).1) ((z6 c a).2)).l).map S_Span.D) (zsl ((zh ((z6 c a).1) ((z6 c a).2)).nl) 2) none) [(0, ⟨[.agg [B (zi (zi (zi (zi (zi false ((ze a b).2)) ((zb (zh ((ze a b).1) ((ze a b).2)) c).2)) ((z6 c b).2)) ((zb (zh ((z6 c b).1) ((z6 c b).2)) a).2)) ((z6 c a).2)), B false]], 2, false⟩)] 1, .pure (.tup [.sl (((zb (zh ((z6 c a).1) ((z6 c a).2)) b).1).nl) ((((zb (zh ((z6 c a).1) ((z6 c a).2)) b).1).l).map S_Span.D) (zsl (((zb (zh ((z6 c a).1) ((z6 c a).2)) b).1).nl) 2) none, I ((zb (zh ((z6 c a).1) ((z6 c a).2)) b).2)]), .inl (.sl ((zh ((zb (zh ((z6 c a).1) ((z6 c a).2)) b).1) ((zb (zh ((z6 c a).1) ((z6 c a).2)) b).2)).nl) (((zh ((zb (zh ((z6 c a).1) ((z6 c a).2)) b).1) ((zb (zh ((z6 c a).1) ((z6 c a).2)) b).2)).l).map S_Span.D) (zsl ((zh ((zb (zh ((z6 c a).1) ((z6 c a).2)) b).1) ((zb (zh ((z6 c a).1) ((z6 c a).2)) b).2)).nl) 2) none) [(0, ⟨[.agg [B (zi (zi (zi (zi (zi (zi false ((ze a b).2)) ((zb (zh ((ze a b).1) ((ze a b).2)) c).2)) ((z6 c b).2)) ((zb (zh ((z6 c b).1) ((z6 c b).2)) a).2)) ((z6 c a).2)) ((zb (zh ((z6 c a).1) ((z6 c a).2)) b).2)), B false]], 2, false⟩)] 1, .rw 69 (I (((zh ((zb (zh ((ze a b).1) ((ze a b).2)) c).1) ((zb (zh ((ze a b).1) ((ze a b).2)) c).2)).l.length : Nat) : Int))]

def l_RangesAdjoint_o2 (a : GS S_Span) (b : GS S_Span) (c : GS S_Span) : List Ora := [.dec true, .rw 72 (I (((zh ((zb (zh ((z6 c b).1) ((z6 c b).2)) a).1) ((zb (zh ((z6 c b).1) ((z6 c b).2)) a).2)).l.length : Nat) : Int))]

def l_RangesAdjoint_o3 (a : GS S_Span) (b : GS S_Span) (c : GS S_Span) : List Ora := [.dec true, .dec true, .rw 77 (I (((zh ((zb (zh ((ze a b).1) ((ze a b).2)) c).1) ((zb (zh ((ze a b).1) ((ze a b).2)) c).2)).l.length : Nat) : Int)), .dec true, .rw 80 (I (((zh ((zb (zh ((z6 c a).1) ((z6 c a).2)) b).1) ((zb (zh ((z6 c a).1) ((z6 c a).2)) b).2)).l.length : Nat) : Int))]

def l_RangesAdjoint_o4 (a : GS S_Span) (b : GS S_Span) (c : GS S_Span) : List Ora := [.dec true, .dec true, .inl (B (holdsB (zi (zi (zi (zi (zi (zi false ((ze a b).2)) ((zb (zh ((ze a b).1) ((ze a b).2)) c).2)) ((z6 c b).2)) ((zb (zh ((z6 c b).1) ((z6 c b).2)) a).2)) ((z6 c a).2)) ((zb (zh ((z6 c a).1) ((z6 c a).2)) b).2)) true)) [(0, ⟨[.agg [B (zi (zi (zi (zi (zi (zi false ((ze a b).2)) ((zb (zh ((ze a b).1) ((ze a b).2)) c).2)) ((z6 c b).2)) ((zb (zh ((z6 c b).1) ((z6 c b).2)) a).2)) ((z6 c a).2)) ((zb (zh ((z6 c a).1) ((z6 c a).2)) b).2)), B false]], 2, false⟩)] 1]

def l_RangesAdjoint_o5 (a : GS S_Span) (b : GS S_Span) (c : GS S_Span) : List Ora := [.dec false, .dec false, .inl (B (holdsB (zi (zi (zi (zi (zi (zi false ((ze a b).2)) ((zb (zh ((ze a b).1) ((ze a b).2)) c).2)) ((z6 c b).2)) ((zb (zh ((z6 c b).1) ((z6 c b).2)) a).2)) ((z6 c a).2)) ((zb (zh ((z6 c a).1) ((z6 c a).2)) b).2)) false)) [(0, ⟨[.agg [B (zi (zi (zi (zi (zi (zi false ((ze a b).2)) ((zb (zh ((ze a b).1) ((ze a b).2)) c).2)) ((z6 c b).2)) ((zb (zh ((z6 c b).1) ((z6 c b).2)) a).2)) ((z6 c a).2)) ((zb (zh ((z6 c a).1) ((z6 c a).2)) b).2)), B false]], 2, false⟩)] 1]

def l_RangesAdjoint_o6 (a : GS S_Span) (b : GS S_Span) (c : GS S_Span) : List Ora := [.dec false, .dec false, .inl (B (holdsB (zi (zi (zi (zi (zi (zi false ((ze a b).2)) ((zb (zh ((ze a b).1) ((ze a b).2)) c).2)) ((z6 c b).2)) ((zb (zh ((z6 c b).1) ((z6 c b).2)) a).2)) ((z6 c a).2)) ((zb (zh ((z6 c a).1) ((z6 c a).2)) b).2)) false)) [(0, ⟨[.agg [B (zi (zi (zi (zi (zi (zi false ((ze a b).2)) ((zb (zh ((ze a b).1) ((ze a b).2)) c).2)) ((z6 c b).2)) ((zb (zh ((z6 c b).1) ((z6 c b).2)) a).2)) ((z6 c a).2)) ((zb (zh ((z6 c a).1) ((z6 c a).2)) b).2)), B false]], 2, false⟩)] 1]

def l_RangesAdjoint_o7 (a : GS S_Span) (b : GS S_Span) (c : GS S_Span) : List Ora := [.dec false, .rw 72 (I (((zh ((zb (zh ((z6 c b).1) ((z6 c b).2)) a).1) ((zb (zh ((z6 c b).1) ((z6 c b).2)) a).2)).l.length : Nat) : Int))]

def l_RangesAdjoint_o8 (a : GS S_Span) (b : GS S_Span) (c : GS S_Span) : List Ora := [.dec true, .dec false, .inl (B (holdsB (zi (zi (zi (zi (zi (zi false ((ze a b).2)) ((zb (zh ((ze a b).1) ((ze a b).2)) c).2)) ((z6 c b).2)) ((zb (zh ((z6 c b).1) ((z6 c b).2)) a).2)) ((z6 c a).2)) ((zb (zh ((z6 c a).1) ((z6 c a).2)) b).2)) false)) [(0, ⟨[.agg [B (zi (zi (zi (zi (zi (zi false ((ze a b).2)) ((zb (zh ((ze a b).1) ((ze a b).2)) c).2)) ((z6 c b).2)) ((zb (zh ((z6 c b).1) ((z6 c b).2)) a).2)) ((z6 c a).2)) ((zb (zh ((z6 c a).1) ((z6 c a).2)) b).2)), B false]], 2, false⟩)] 1]

def l_RangesAdjoint_o9 (a : GS S_Span) (b : GS S_Span) (c : GS S_Span) : List Ora := [.dec false, .dec true, .rw 77 (I (((zh ((zb (zh ((ze a b).1) ((ze a b).2)) c).1) ((zb (zh ((ze a b).1) ((ze a b).2)) c).2)).l.length : Nat) : Int)), .dec false, .rw 80 (I (((zh ((zb (zh ((z6 c a).1) ((z6 c a).2)) b).1) ((zb (zh ((z6 c a).1) ((z6 c a).2)) b).2)).l.length : Nat) : Int))]

def l_RangesAdjoint_o10 (a : GS S_Span) (b : GS S_Span) (c : GS S_Span) : List Ora := [.dec true, .dec false, .inl (B (holdsB (zi (zi (zi (zi (zi (zi false ((ze a b).2)) ((zb (zh ((ze a b).1) ((ze a b).2)) c).2)) ((z6 c b).2)) ((zb (zh ((z6 c b).1) ((z6 c b).2)) a).2)) ((z6 c a).2)) ((zb (zh ((z6 c a).1) ((z6 c a).2)) b).2)) false)) [(0, ⟨[.agg [B (zi (zi (zi (zi (zi (zi false ((ze a b).2)) ((zb (zh ((ze a b).1) ((ze a b).2)) c).2)) ((z6 c b).2)) ((zb (zh ((z6 c b).1) ((z6 c b).2)) a).2)) ((z6 c a).2)) ((zb (zh ((z6 c a).1) ((z6 c a).2)) b).2)), B false]], 2, false⟩)] 1]

def l_RangesAdjoint_o11 (a : GS S_Span) (b : GS S_Span) (c : GS S_Span) : List Ora := [.dec false, .dec true, .inl (B (holdsB (zi (zi (zi (zi (zi (zi false ((ze a b).2)) ((zb (zh ((ze a b).1) ((ze a b).2)) c).2)) ((z6 c b).2)) ((zb (zh ((z6 c b).1) ((z6 c b).2)) a).2)) ((z6 c a).2)) ((zb (zh ((z6 c a).1) ((z6 c a).2)) b).2)) true)) [(0, ⟨[.agg [B (zi (zi (zi (zi (zi (zi false ((ze a b).2)) ((zb (zh ((ze a b).1) ((ze a b).2)) c).2)) ((z6 c b).2)) ((zb (zh ((z6 c b).1) ((z6 c b).2)) a).2)) ((z6 c a).2)) ((zb (zh ((z6 c a).1) ((z6 c a).2)) b).2)), B false]], 2, false⟩)] 1]

theorem take_0_1 (L : Bool) (r : GS S_Span) (e : Int) (hL : r.l.length ≤ 9223372036854775807) (ht : Tkn r e) : (lim cfg).inl 36 [.lref 0 0 2 0, .sl r.nl (r.l.map S_Span.D) (zsl r.nl 2) none, I e] [(0, ⟨[.agg [B L, B false]], 2, false⟩)] 1 = some (.sl ((zh r e).nl) (((zh r e).l).map S_Span.D) (zsl ((zh r e).nl) 2) none, [(0, ⟨[.agg [B (zi L e), B false]], 2, false⟩)], 1) := by
  unfold zh zi
  cases h1 : (e == 2) with
  | true =>
    have g1 := eq_of_beq h1
    exact po_inl [.dec true] (And.intro h1 trivial) (by kernel_rfl)
  | false =>
    have g1 := ne_of_beq_false h1
    exact po_inl [.dec false, .dec false, .pure (I (r_Check r)), .dec false] (And.intro (show ((r_Check r) != 0) = false from (tk_r ht h1)) (And.intro (T_r_Check r (by omega)) (And.intro (show (e != 0) = false from (tk_e ht h1)) (And.intro h1 trivial)))) (by kernel_rfl)

theorem holds_0_1 (L : Bool) (z : Bool) : (lim cfg).inl 38 [.lref 0 0 2 0, B z] [(0, ⟨[.agg [B L, B false]], 2, false⟩)] 1 = some (B (holdsB L z), [(0, ⟨[.agg [B L, B false]], 2, false⟩)], 1) := by
  unfold holdsB
  rcases Bool.eq_false_or_eq_true L with h1 | h1
  · rw [cond_t h1]
    exact po_inl [.dec false, .dec true] (And.intro h1 (And.intro (Eq.refl false) trivial)) (by kernel_rfl)
  · rw [cond_f h1]
    exact po_inl [.dec false, .dec false] (And.intro h1 (And.intro (Eq.refl false) trivial)) (by kernel_rfl)

theorem T_l_RangesAdjoint (a : GS S_Span) (b : GS S_Span) (c : GS S_Span) (hLa : a.l.length ≤ 9223372036854775807) (hLb : b.l.length ≤ 9223372036854775807) (hLc : c.l.length ≤ 9223372036854775807) : (lim cfg).pure 7 [GS.D S_Span.D 2 a, GS.D S_Span.D 2 b, GS.D S_Span.D 2 c] = some (B (l_RangesAdjoint a b c)) := by
  unfold l_RangesAdjoint
  cases h1 : (r_Valid a) with
  | true =>
    cases h2 : (r_Valid b) with
    | true =>
      cases h3 : (r_Valid c) with
      | true =>
        have p1 := (T_ranges_Sum a b (by omega) (by omega))
        have p2 := (take_0_1 false ((ze a b).1) ((ze a b).2) (tkn_len (tk_Sum (zA.1 (by assumption)) (zA.1 (by assumption)))) (tk_Sum (zA.1 (by assumption)) (zA.1 (by assumption))))
        have p3 := (T_ranges_Common (zh ((ze a b).1) ((ze a b).2)) c (Nat.le_trans (ok64 (ok_take (tk_Sum (zA.1 (by assumption)) (zA.1 (by assumption))))) (by decide)) (by omega))
        have p4 := (take_0_1 (zi false ((ze a b).2)) ((zb (zh ((ze a b).1) ((ze a b).2)) c).1) ((zb (zh ((ze a b).1) ((ze a b).2)) c).2) (tkn_len (tk_Common (ok_take (tk_Sum (zA.1 (by assumption)) (zA.1 (by assumption)))) (zA.1 (by assumption)))) (tk_Common (ok_take (tk_Sum (zA.1 (by assumption)) (zA.1 (by assumption)))) (zA.1 (by assumption))))
        have p5 := (T_ranges_Difference c b (by omega) (by omega))
        have p6 := (take_0_1 (zi (zi false ((ze a b).2)) ((zb (zh ((ze a b).1) ((ze a b).2)) c).2)) ((z6 c b).1) ((z6 c b).2) (tkn_len (tk_Difference (zA.1 (by assumption)) (zA.1 (by assumption)))) (tk_Difference (zA.1 (by assumption)) (zA.1 (by assumption))))
        have p7 := (T_ranges_Common (zh ((z6 c b).1) ((z6 c b).2)) a (Nat.le_trans (ok64 (ok_take (tk_Difference (zA.1 (by assumption)) (zA.1 (by assumption))))) (by decide)) (by omega))
        have p8 := (take_0_1 (zi (zi (zi false ((ze a b).2)) ((zb (zh ((ze a b).1) ((ze a b).2)) c).2)) ((z6 c b).2)) ((zb (zh ((z6 c b).1) ((z6 c b).2)) a).1) ((zb (zh ((z6 c b).1) ((z6 c b).2)) a).2) (tkn_len (tk_Common (ok_take (tk_Difference (zA.1 (by assumption)) (zA.1 (by assumption)))) (zA.1 (by assumption)))) (tk_Common (ok_take (tk_Difference (zA.1 (by assumption)) (zA.1 (by assumption)))) (zA.1 (by assumption))))
        have p9 := (T_ranges_Difference c a (by omega) (by omega))
        have p10 := (take_0_1 (zi (zi (zi (zi false ((ze a b).2)) ((zb (zh ((ze a b).1) ((ze a b).2)) c).2)) ((z6 c b).2)) ((zb (zh ((z6 c b).1) ((z6 c b).2)) a).2)) ((z6 c a).1) ((z6 c a).2) (tkn_len (tk_Difference (zA.1 (by assumption)) (zA.1 (by assumption)))) (tk_Difference (zA.1 (by assumption)) (zA.1 (by assumption))))
        have p11 := (T_ranges_Common (zh ((z6 c a).1) ((z6 c a).2)) b (Nat.le_trans (ok64 (ok_take (tk_Difference (zA.1 (by assumption)) (zA.1 (by assumption))))) (by decide)) (by omega))
        have p12 := (take_0_1 (zi (zi (zi (zi (zi false ((ze a b).2)) ((zb (zh ((ze a b).1) ((ze a b).2)) c).2)) ((z6 c b).2)) ((zb (zh ((z6 c b).1) ((z6 c b).2)) a).2)) ((z6 c a).2)) ((zb (zh ((z6 c a).1) ((z6 c a).2)) b).1) ((zb (zh ((z6 c a).1) ((z6 c a).2)) b).2) (tkn_len (tk_Common (ok_take (tk_Difference (zA.1 (by assumption)) (zA.1 (by assumption)))) (zA.1 (by assumption)))) (tk_Common (ok_take (tk_Difference (zA.1 (by assumption)) (zA.1 (by assumption)))) (zA.1 (by assumption))))
        have p13 := (len_rw S_Span.D (zh ((zb (zh ((ze a b).1) ((ze a b).2)) c).1) ((zb (zh ((ze a b).1) ((ze a b).2)) c).2)))
        cases h4 : decide ((((zh ((zb (zh ((ze a b).1) ((ze a b).2)) c).1) ((zb (zh ((ze a b).1) ((ze a b).2)) c).2)).l.length : Nat) : Int) > 0) with
        | true =>
          have g4 := of_decide_eq_true h4
          have p14 := (len_rw S_Span.D (zh ((zb (zh ((z6 c b).1) ((z6 c b).2)) a).1) ((zb (zh ((z6 c b).1) ((z6 c b).2)) a).2)))
          cases h5 : decide ((((zh ((zb (zh ((z6 c b).1) ((z6 c b).2)) a).1) ((zb (zh ((z6 c b).1) ((z6 c b).2)) a).2)).l.length : Nat) : Int) > 0) with
          | true =>
            have g5 := of_decide_eq_true h5
            have p15 := (len_rw S_Span.D (zh ((zb (zh ((ze a b).1) ((ze a b).2)) c).1) ((zb (zh ((ze a b).1) ((ze a b).2)) c).2)))
            have p16 := (len_rw S_Span.D (zh ((zb (zh ((z6 c a).1) ((z6 c a).2)) b).1) ((zb (zh ((z6 c a).1) ((z6 c a).2)) b).2)))
            cases h6 : decide ((((zh ((zb (zh ((z6 c a).1) ((z6 c a).2)) b).1) ((zb (zh ((z6 c a).1) ((z6 c a).2)) b).2)).l.length : Nat) : Int) > 0) with
            | true =>
              have g6 := of_decide_eq_true h6
              have p17 := (holds_0_1 (zi (zi (zi (zi (zi (zi false ((ze a b).2)) ((zb (zh ((ze a b).1) ((ze a b).2)) c).2)) ((z6 c b).2)) ((zb (zh ((z6 c b).1) ((z6 c b).2)) a).2)) ((z6 c a).2)) ((zb (zh ((z6 c a).1) ((z6 c a).2)) b).2)) true)
              cases h7 : (holdsB (zi (zi (zi (zi (zi (zi false ((ze a b).2)) ((zb (zh ((ze a b).1) ((ze a b).2)) c).2)) ((z6 c b).2)) ((zb (zh ((z6 c b).1) ((z6 c b).2)) a).2)) ((z6 c a).2)) ((zb (zh ((z6 c a).1) ((z6 c a).2)) b).2)) true) with
              | true =>
                exact zt ((zW a b c) ++ ((l_RangesAdjoint_o2 a b c) ++ ((l_RangesAdjoint_o3 a b c) ++ ((l_RangesAdjoint_o4 a b c) ++ [.dec true])))) (And.intro h7 (And.intro p17 (And.intro (Eq.refl true) (And.intro h6 (And.intro p16 (And.intro h4 (And.intro p15 (And.intro (Eq.refl true) (And.intro h5 (And.intro p14 (And.intro h4 (And.intro p13 (And.intro p12 (And.intro p11 (And.intro p10 (And.intro p9 (And.intro p8 (And.intro p7 (And.intro p6 (And.intro p5 (And.intro p4 (And.intro p3 (And.intro p2 (And.intro p1 (And.intro h3 (And.intro (zz c (by omega)) (And.intro h2 (And.intro (zz b (by omega)) (And.intro h1 (And.intro (zz a (by omega)) (And.intro (Eq.refl true) (And.intro sane_ok trivial)))))))))))))))))))))))))))))))) (by kernel_rfl)
              | false =>
                exact zt ((zW a b c) ++ ((l_RangesAdjoint_o2 a b c) ++ ((l_RangesAdjoint_o3 a b c) ++ ((l_RangesAdjoint_o4 a b c) ++ [.dec false])))) (And.intro h7 (And.intro p17 (And.intro (Eq.refl true) (And.intro h6 (And.intro p16 (And.intro h4 (And.intro p15 (And.intro (Eq.refl true) (And.intro h5 (And.intro p14 (And.intro h4 (And.intro p13 (And.intro p12 (And.intro p11 (And.intro p10 (And.intro p9 (And.intro p8 (And.intro p7 (And.intro p6 (And.intro p5 (And.intro p4 (And.intro p3 (And.intro p2 (And.intro p1 (And.intro h3 (And.intro (zz c (by omega)) (And.intro h2 (And.intro (zz b (by omega)) (And.intro h1 (And.intro (zz a (by omega)) (And.intro (Eq.refl true) (And.intro sane_ok trivial)))))))))))))))))))))))))))))))) (by kernel_rfl)
            | false =>
              have g6 := of_decide_eq_false h6
              have p18 := (holds_0_1 (zi (zi (zi (zi (zi (zi false ((ze a b).2)) ((zb (zh ((ze a b).1) ((ze a b).2)) c).2)) ((z6 c b).2)) ((zb (zh ((z6 c b).1) ((z6 c b).2)) a).2)) ((z6 c a).2)) ((zb (zh ((z6 c a).1) ((z6 c a).2)) b).2)) false)
              cases h8 : (holdsB (zi (zi (zi (zi (zi (zi false ((ze a b).2)) ((zb (zh ((ze a b).1) ((ze a b).2)) c).2)) ((z6 c b).2)) ((zb (zh ((z6 c b).1) ((z6 c b).2)) a).2)) ((z6 c a).2)) ((zb (zh ((z6 c a).1) ((z6 c a).2)) b).2)) false) with
              | true =>
                exact zt ((zW a b c) ++ ((l_RangesAdjoint_o2 a b c) ++ ((l_RangesAdjoint_o3 a b c) ++ ((l_RangesAdjoint_o5 a b c) ++ [.dec true])))) (And.intro h8 (And.intro p18 (And.intro (Eq.refl false) (And.intro h6 (And.intro p16 (And.intro h4 (And.intro p15 (And.intro (Eq.refl true) (And.intro h5 (And.intro p14 (And.intro h4 (And.intro p13 (And.intro p12 (And.intro p11 (And.intro p10 (And.intro p9 (And.intro p8 (And.intro p7 (And.intro p6 (And.intro p5 (And.intro p4 (And.intro p3 (And.intro p2 (And.intro p1 (And.intro h3 (And.intro (zz c (by omega)) (And.intro h2 (And.intro (zz b (by omega)) (And.intro h1 (And.intro (zz a (by omega)) (And.intro (Eq.refl true) (And.intro sane_ok trivial)))))))))))))))))))))))))))))))) (by kernel_rfl)
              | false =>
                exact zt ((zW a b c) ++ ((l_RangesAdjoint_o2 a b c) ++ ((l_RangesAdjoint_o3 a b c) ++ ((l_RangesAdjoint_o5 a b c) ++ [.dec false])))) (And.intro h8 (And.intro p18 (And.intro (Eq.refl false) (And.intro h6 (And.intro p16 (And.intro h4 (And.intro p15 (And.intro (Eq.refl true) (And.intro h5 (And.intro p14 (And.intro h4 (And.intro p13 (And.intro p12 (And.intro p11 (And.intro p10 (And.intro p9 (And.intro p8 (And.intro p7 (And.intro p6 (And.intro p5 (And.intro p4 (And.intro p3 (And.intro p2 (And.intro p1 (And.intro h3 (And.intro (zz c (by omega)) (And.intro h2 (And.intro (zz b (by omega)) (And.intro h1 (And.intro (zz a (by omega)) (And.intro (Eq.refl true) (And.intro sane_ok trivial)))))))))))))))))))))))))))))))) (by kernel_rfl)
          | false =>
            have g5 := of_decide_eq_false h5
            have p19 := (holds_0_1 (zi (zi (zi (zi (zi (zi false ((ze a b).2)) ((zb (zh ((ze a b).1) ((ze a b).2)) c).2)) ((z6 c b).2)) ((zb (zh ((z6 c b).1) ((z6 c b).2)) a).2)) ((z6 c a).2)) ((zb (zh ((z6 c a).1) ((z6 c a).2)) b).2)) false)
            cases h9 : (holdsB (zi (zi (zi (zi (zi (zi false ((ze a b).2)) ((zb (zh ((ze a b).1) ((ze a b).2)) c).2)) ((z6 c b).2)) ((zb (zh ((z6 c b).1) ((z6 c b).2)) a).2)) ((z6 c a).2)) ((zb (zh ((z6 c a).1) ((z6 c a).2)) b).2)) false) with
            | true =>
              exact zt ((zW a b c) ++ ((l_RangesAdjoint_o2 a b c) ++ ((l_RangesAdjoint_o6 a b c) ++ [.dec true]))) (And.intro h9 (And.intro p19 (And.intro (Eq.refl false) (And.intro h5 (And.intro p14 (And.intro h4 (And.intro p13 (And.intro p12 (And.intro p11 (And.intro p10 (And.intro p9 (And.intro p8 (And.intro p7 (And.intro p6 (And.intro p5 (And.intro p4 (And.intro p3 (And.intro p2 (And.intro p1 (And.intro h3 (And.intro (zz c (by omega)) (And.intro h2 (And.intro (zz b (by omega)) (And.intro h1 (And.intro (zz a (by omega)) (And.intro (Eq.refl true) (And.intro sane_ok trivial))))))))))))))))))))))))))) (by kernel_rfl)
            | false =>
              exact zt ((zW a b c) ++ ((l_RangesAdjoint_o2 a b c) ++ ((l_RangesAdjoint_o6 a b c) ++ [.dec false]))) (And.intro h9 (And.intro p19 (And.intro (Eq.refl false) (And.intro h5 (And.intro p14 (And.intro h4 (And.intro p13 (And.intro p12 (And.intro p11 (And.intro p10 (And.intro p9 (And.intro p8 (And.intro p7 (And.intro p6 (And.intro p5 (And.intro p4 (And.intro p3 (And.intro p2 (And.intro p1 (And.intro h3 (And.intro (zz c (by omega)) (And.intro h2 (And.intro (zz b (by omega)) (And.intro h1 (And.intro (zz a (by omega)) (And.intro (Eq.refl true) (And.intro sane_ok trivial))))))))))))))))))))))))))) (by kernel_rfl)
        | false =>
          have g4 := of_decide_eq_false h4
          have p20 := (len_rw S_Span.D (zh ((zb (zh ((z6 c b).1) ((z6 c b).2)) a).1) ((zb (zh ((z6 c b).1) ((z6 c b).2)) a).2)))
          cases h10 : decide ((((zh ((zb (zh ((z6 c b).1) ((z6 c b).2)) a).1) ((zb (zh ((z6 c b).1) ((z6 c b).2)) a).2)).l.length : Nat) : Int) > 0) with
          | true =>
            have g10 := of_decide_eq_true h10
            have p21 := (holds_0_1 (zi (zi (zi (zi (zi (zi false ((ze a b).2)) ((zb (zh ((ze a b).1) ((ze a b).2)) c).2)) ((z6 c b).2)) ((zb (zh ((z6 c b).1) ((z6 c b).2)) a).2)) ((z6 c a).2)) ((zb (zh ((z6 c a).1) ((z6 c a).2)) b).2)) false)
            cases h11 : (holdsB (zi (zi (zi (zi (zi (zi false ((ze a b).2)) ((zb (zh ((ze a b).1) ((ze a b).2)) c).2)) ((z6 c b).2)) ((zb (zh ((z6 c b).1) ((z6 c b).2)) a).2)) ((z6 c a).2)) ((zb (zh ((z6 c a).1) ((z6 c a).2)) b).2)) false) with
            | true =>
              exact zt ((zW a b c) ++ ((l_RangesAdjoint_o7 a b c) ++ ((l_RangesAdjoint_o8 a b c) ++ [.dec true]))) (And.intro h11 (And.intro p21 (And.intro (Eq.refl false) (And.intro h10 (And.intro p20 (And.intro h4 (And.intro p13 (And.intro p12 (And.intro p11 (And.intro p10 (And.intro p9 (And.intro p8 (And.intro p7 (And.intro p6 (And.intro p5 (And.intro p4 (And.intro p3 (And.intro p2 (And.intro p1 (And.intro h3 (And.intro (zz c (by omega)) (And.intro h2 (And.intro (zz b (by omega)) (And.intro h1 (And.intro (zz a (by omega)) (And.intro (Eq.refl true) (And.intro sane_ok trivial))))))))))))))))))))))))))) (by kernel_rfl)
            | false =>
              exact zt ((zW a b c) ++ ((l_RangesAdjoint_o7 a b c) ++ ((l_RangesAdjoint_o8 a b c) ++ [.dec false]))) (And.intro h11 (And.intro p21 (And.intro (Eq.refl false) (And.intro h10 (And.intro p20 (And.intro h4 (And.intro p13 (And.intro p12 (And.intro p11 (And.intro p10 (And.intro p9 (And.intro p8 (And.intro p7 (And.intro p6 (And.intro p5 (And.intro p4 (And.intro p3 (And.intro p2 (And.intro p1 (And.intro h3 (And.intro (zz c (by omega)) (And.intro h2 (And.intro (zz b (by omega)) (And.intro h1 (And.intro (zz a (by omega)) (And.intro (Eq.refl true) (And.intro sane_ok trivial))))))))))))))))))))))))))) (by kernel_rfl)
          | false =>
            have g10 := of_decide_eq_false h10
            have p22 := (len_rw S_Span.D (zh ((zb (zh ((ze a b).1) ((ze a b).2)) c).1) ((zb (zh ((ze a b).1) ((ze a b).2)) c).2)))
            have p23 := (len_rw S_Span.D (zh ((zb (zh ((z6 c a).1) ((z6 c a).2)) b).1) ((zb (zh ((z6 c a).1) ((z6 c a).2)) b).2)))
            cases h12 : decide ((((zh ((zb (zh ((z6 c a).1) ((z6 c a).2)) b).1) ((zb (zh ((z6 c a).1) ((z6 c a).2)) b).2)).l.length : Nat) : Int) > 0) with
            | true =>
              have g12 := of_decide_eq_true h12
              have p24 := (holds_0_1 (zi (zi (zi (zi (zi (zi false ((ze a b).2)) ((zb (zh ((ze a b).1) ((ze a b).2)) c).2)) ((z6 c b).2)) ((zb (zh ((z6 c b).1) ((z6 c b).2)) a).2)) ((z6 c a).2)) ((zb (zh ((z6 c a).1) ((z6 c a).2)) b).2)) false)
              cases h13 : (holdsB (zi (zi (zi (zi (zi (zi false ((ze a b).2)) ((zb (zh ((ze a b).1) ((ze a b).2)) c).2)) ((z6 c b).2)) ((zb (zh ((z6 c b).1) ((z6 c b).2)) a).2)) ((z6 c a).2)) ((zb (zh ((z6 c a).1) ((z6 c a).2)) b).2)) false) with
              | true =>
                exact zt ((zW a b c) ++ ((l_RangesAdjoint_o7 a b c) ++ ((l_RangesAdjoint_o9 a b c) ++ ((l_RangesAdjoint_o10 a b c) ++ [.dec true])))) (And.intro h13 (And.intro p24 (And.intro (Eq.refl false) (And.intro h12 (And.intro p23 (And.intro h4 (And.intro p22 (And.intro (Eq.refl true) (And.intro h10 (And.intro p20 (And.intro h4 (And.intro p13 (And.intro p12 (And.intro p11 (And.intro p10 (And.intro p9 (And.intro p8 (And.intro p7 (And.intro p6 (And.intro p5 (And.intro p4 (And.intro p3 (And.intro p2 (And.intro p1 (And.intro h3 (And.intro (zz c (by omega)) (And.intro h2 (And.intro (zz b (by omega)) (And.intro h1 (And.intro (zz a (by omega)) (And.intro (Eq.refl true) (And.intro sane_ok trivial)))))))))))))))))))))))))))))))) (by kernel_rfl)
              | false =>
                exact zt ((zW a b c) ++ ((l_RangesAdjoint_o7 a b c) ++ ((l_RangesAdjoint_o9 a b c) ++ ((l_RangesAdjoint_o10 a b c) ++ [.dec false])))) (And.intro h13 (And.intro p24 (And.intro (Eq.refl false) (And.intro h12 (And.intro p23 (And.intro h4 (And.intro p22 (And.intro (Eq.refl true) (And.intro h10 (And.intro p20 (And.intro h4 (And.intro p13 (And.intro p12 (And.intro p11 (And.intro p10 (And.intro p9 (And.intro p8 (And.intro p7 (And.intro p6 (And.intro p5 (And.intro p4 (And.intro p3 (And.intro p2 (And.intro p1 (And.intro h3 (And.intro (zz c (by omega)) (And.intro h2 (And.intro (zz b (by omega)) (And.intro h1 (And.intro (zz a (by omega)) (And.intro (Eq.refl true) (And.intro sane_ok trivial)))))))))))))))))))))))))))))))) (by kernel_rfl)
            | false =>
              have g12 := of_decide_eq_false h12
              have p25 := (holds_0_1 (zi (zi (zi (zi (zi (zi false ((ze a b).2)) ((zb (zh ((ze a b).1) ((ze a b).2)) c).2)) ((z6 c b).2)) ((zb (zh ((z6 c b).1) ((z6 c b).2)) a).2)) ((z6 c a).2)) ((zb (zh ((z6 c a).1) ((z6 c a).2)) b).2)) true)
              cases h14 : (holdsB (zi (zi (zi (zi (zi (zi false ((ze a b).2)) ((zb (zh ((ze a b).1) ((ze a b).2)) c).2)) ((z6 c b).2)) ((zb (zh ((z6 c b).1) ((z6 c b).2)) a).2)) ((z6 c a).2)) ((zb (zh ((z6 c a).1) ((z6 c a).2)) b).2)) true) with
              | true =>
                exact zt ((zW a b c) ++ ((l_RangesAdjoint_o7 a b c) ++ ((l_RangesAdjoint_o9 a b c) ++ ((l_RangesAdjoint_o11 a b c) ++ [.dec true])))) (And.intro h14 (And.intro p25 (And.intro (Eq.refl true) (And.intro h12 (And.intro p23 (And.intro h4 (And.intro p22 (And.intro (Eq.refl true) (And.intro h10 (And.intro p20 (And.intro h4 (And.intro p13 (And.intro p12 (And.intro p11 (And.intro p10 (And.intro p9 (And.intro p8 (And.intro p7 (And.intro p6 (And.intro p5 (And.intro p4 (And.intro p3 (And.intro p2 (And.intro p1 (And.intro h3 (And.intro (zz c (by omega)) (And.intro h2 (And.intro (zz b (by omega)) (And.intro h1 (And.intro (zz a (by omega)) (And.intro (Eq.refl true) (And.intro sane_ok trivial)))))))))))))))))))))))))))))))) (by kernel_rfl)
              | false =>
                exact zt ((zW a b c) ++ ((l_RangesAdjoint_o7 a b c) ++ ((l_RangesAdjoint_o9 a b c) ++ ((l_RangesAdjoint_o11 a b c) ++ [.dec false])))) (And.intro h14 (And.intro p25 (And.intro (Eq.refl true) (And.intro h12 (And.intro p23 (And.intro h4 (And.intro p22 (And.intro (Eq.refl true) (And.intro h10 (And.intro p20 (And.intro h4 (And.intro p13 (And.intro p12 (And.intro p11 (And.intro p10 (And.intro p9 (And.intro p8 (And.intro p7 (And.intro p6 (And.intro p5 (And.intro p4 (And.intro p3 (And.intro p2 (And.intro p1 (And.intro h3 (And.intro (zz c (by omega)) (And.intro h2 (And.intro (zz b (by omega)) (And.intro h1 (And.intro (zz a (by omega)) (And.intro (Eq.refl true) (And.intro sane_ok trivial)))))))))))))))))))))))))))))))) (by kernel_rfl)
      | false =>
        exact zt [.pure (B true), .dec true, .pure (B (r_Valid a)), .dec true, .pure (B (r_Valid b)), .dec true, .pure (B (r_Valid c)), .dec false] (And.intro h3 (And.intro (zz c (by omega)) (And.intro h2 (And.intro (zz b (by omega)) (And.intro h1 (And.intro (zz a (by omega)) (And.intro (Eq.refl true) (And.intro sane_ok trivial)))))))) (by kernel_rfl)
    | false =>
      exact zt [.pure (B true), .dec true, .pure (B (r_Valid a)), .dec true, .pure (B (r_Valid b)), .dec false] (And.intro h2 (And.intro (zz b (by omega)) (And.intro h1 (And.intro (zz a (by omega)) (And.intro (Eq.refl true) (And.intro sane_ok trivial)))))) (by kernel_rfl)
  | false =>
    exact zt [.pure (B true), .dec true, .pure (B (r_Valid a)), .dec false] (And.intro h1 (And.intro (zz a (by omega)) (And.intro (Eq.refl true) (And.intro sane_ok trivial)))) (by kernel_rfl)
end Go.VS

/-
  The seat's program: its tables are right; what its arguments stand for. (Printed by go/oq.py, a program of this claim's own; nothing of it is trusted.)
-/
namespace Go.VS
open Go Go.Proofs Go.RowKit Go.ChangeShapes Go.WideShapes
set_option maxRecDepth 100000
theorem laid_out : laidOutB Tryz.prog = true := by kernel_rfl
theorem maps_rowed : mapsRowed Tryz.prog = true := by kernel_rfl
theorem sl_full : ∀ t e, t < Tryz.prog.types.size → Tryz.prog.underlying t = some (.slice e) → 0 < Tryz.prog.cellsOf e := slices_full_of Tryz.prog (by kernel_rfl)
theorem i64_min : IntKind.i64.min = -9223372036854775808 := by rfl
theorem i64_max : IntKind.i64.max = 9223372036854775807 := by rfl
def R64 (n : Int) : Prop := -9223372036854775808 ≤ n ∧ n ≤ 9223372036854775807
section
variable {H : Type} {enc : TypeId × Value → H} {w : World} {base base' : Nat} {sp : Nat → Bool} {held : Bool} {t : TypeId} {v : Value} {d : DataW H} {p : List MemPlace} {r : Reach}
theorem arg_rep (h : DataW.Trod enc Tryz.prog w base sp held t v d p) (hv : Value.okWide Tryz.prog w r base' t v) (ht : topT cfg 8 t = true) (hr : rowedT cfg 8 t = true) :
    ∃ ds, zx (memOf w) noLoc ds v.cells.toList ∧ Sh cfg 8 t ds := by
  obtain ⟨n, hn⟩ := h
  exact trod_rep (C := cfg) (fun t ty h => tyTab_ok.find h) 8 n t _ _ hn ht hr (.inl (plain_arg hv))
theorem repL_one {M : Mem} {m : Loc} {d : D} {cs : List Value} (h : zx M m [d] cs) : ∃ v, cs = [v] ∧ Rep M m d v := by
  simp only [zx] at h
  obtain ⟨v, r, h1, h2, rfl⟩ := h
  exact ⟨v, h1, h2⟩
theorem one_cell {x u : Value} (h : x.cells.toList = [u]) (hp : ∀ cs, x ≠ .agg cs) : x = u := by
  cases x <;> simp [Value.cells] at h <;> first | exact h | exact absurd rfl (hp _)
theorem ok_notAgg (hv : Value.okWide Tryz.prog w r base' t v) (hs : ∀ fs, Tryz.prog.underlying t ≠ some (.struct fs)) (ha : ∀ n e, Tryz.prog.underlying t ≠ some (.array n e)) : ∀ cs, v ≠ .agg cs := by
  rintro cs rfl
  unfold Value.okWide at hv
  split at hv
  · rename_i h; exact hs _ h
  · rename_i h; exact ha _ _ h
  · unfold Cell.okWide at hv
    split at hv <;> try (rename_i h1 h2; cases h2; done)
    unfold Cell.ok at hv
    split at hv <;> first | (rename_i h1 h2; cases h2; done) | cases hv
end
theorem sh3 {f : Nat} {ds : List D} (h : Sh cfg (f + 1) 3 ds) : ∃ x : Int, ds = [I x] ∧ R64 x := by
  rw [Sh, cfg_ty, cty3] at h
  simp only [ty3] at h
  obtain ⟨n, h1, h2, h3⟩ := h
  rw [i64_min] at h2
  rw [i64_max] at h3
  exact ⟨n, h1, h2, h3⟩
theorem sh25 {f : Nat} {ds : List D} (h : Sh cfg (f + 2) 25 ds) : ∃ x : S_Span, ds = [I x.lo, I x.hi] ∧ True := by
  rw [Sh, cfg_ty, cty25] at h
  simp only [ty25] at h
  obtain ⟨hl, hf⟩ := h
  obtain ⟨t0, q0, z0⟩ := hf (3, 0) (by simp)
  obtain rfl : t0 = ty3 := (Option.some.inj (cty3.symm.trans q0)).symm
  obtain ⟨x0, e0, r0⟩ := sh3 (f := f + 0) z0
  obtain ⟨t1, q1, z1⟩ := hf (3, 1) (by simp)
  obtain rfl : t1 = ty3 := (Option.some.inj (cty3.symm.trans q1)).symm
  obtain ⟨x1, e1, r1⟩ := sh3 (f := f + 0) z1
  rcases ds with _ | ⟨c0, _ | ⟨c1, _ | ⟨y, r⟩⟩⟩
  all_goals simp at hl
  simp [ty3] at e0
  simp [ty3] at e1
  exact ⟨⟨x0, x1⟩, by simp [*], trivial⟩
theorem sh23 {f : Nat} {ds : List D} (h : Sh cfg (f + 3) 23 ds) : ∃ x : GS S_Span, ds = [.sl x.nl (x.l.map S_Span.D) (zsl x.nl 2) none] ∧ x.l.length ≤ 9223372036854775807 := by
  rw [Sh, cfg_ty, cty23] at h
  simp only [ty23] at h
  rcases h with h | ⟨els, te, h1, h2, h3, h4⟩
  · exact ⟨GS.nil, h, by simp [GS.nil]⟩
  · obtain rfl : te = ty25 := (Option.some.inj (cty25.symm.trans h1)).symm
    have key : ∀ els : List D, (∀ d ∈ els, Sh cfg (f + 2) 25 d.cells ∧ (ty25.isAgg = true → d = .agg d.cells) ∧ (ty25.isAgg = false → d.cells = [d])) → ∃ l : List S_Span, els = l.map S_Span.D := by
      intro els
      induction els with
      | nil => intro _; exact ⟨[], rfl⟩
      | cons d els ih =>
        intro hd
        obtain ⟨l, hl⟩ := ih fun d' h' => hd d' (List.mem_cons_of_mem _ h')
        obtain ⟨q1, q2, q3⟩ := hd d (by simp)
        obtain ⟨a, e, _⟩ := sh25 (f := f + 0) q1
        have hx : d = S_Span.D a := by rw [q2 rfl, e]; rfl
        exact ⟨a :: l, by rw [List.map_cons, ← hx, ← hl]⟩
    obtain ⟨l, rfl⟩ := key els h4
    refine ⟨GS.some l, h2, ?_⟩
    simp only [List.length_map, maxLen] at h3
    simp only [GS.some]
    omega
theorem arg23 {H : Type} {enc : TypeId × Value → H} {w : World} {base base' : Nat} {sp : Nat → Bool} {held : Bool} {v : Value} {d : DataW H} {p : List MemPlace} {r : Reach} (h : DataW.Trod enc Tryz.prog w base sp held 23 v d p) (hv : Value.okWide Tryz.prog w r base' 23 v) : ∃ x : GS S_Span, Rep (memOf w) noLoc (GS.D S_Span.D 2 x) v ∧ x.l.length ≤ 9223372036854775807 := by
  obtain ⟨ds, h1, h2⟩ := arg_rep h hv (by kernel_rfl) (by kernel_rfl)
  obtain ⟨x, rfl, hx⟩ := sh23 (f := 5) h2
  obtain ⟨u, e, hu⟩ := repL_one h1
  exact ⟨x, by rw [one_cell e (ok_notAgg hv (by rw [Tryz.underlying23]; simp) (by rw [Tryz.underlying23]; simp))]; exact hu, hx⟩
open Go.Lib in
/-- The table of powers, as the rows list it. -/
theorem tab_ok {W : World} (h : laidMetH Tryz.prog [("math/bits.deBruijn32tab", YtpkjnefhnedfdaaGreatDoor.Rows.laid_math_bits_deBruijn32tab), ("math/bits.deBruijn64tab", YtpkjnefhnedfdaaGreatDoor.Rows.laid_math_bits_deBruijn64tab), ("internal/strconv.uint64pow10", YtpkjnefhnedfdaaGreatDoor.Rows.laid_internal_strconv_uint64pow10), ("unicode/utf8.acceptRanges", YtpkjnefhnedfdaaGreatDoor.Rows.laid_unicode_utf8_acceptRanges), ("strconv.ErrRange", YtpkjnefhnedfdaaGreatDoor.Rows.laid_strconv_ErrRange), ("strconv.ErrSyntax", YtpkjnefhnedfdaaGreatDoor.Rows.laid_strconv_ErrSyntax), ("unicode/utf8.first", YtpkjnefhnedfdaaGreatDoor.Rows.laid_unicode_utf8_first)] W) : TabOK cfg W := by
  obtain ⟨ps, h, _⟩ : laidMet Tryz.prog [("math/bits.deBruijn32tab", YtpkjnefhnedfdaaGreatDoor.Rows.laid_math_bits_deBruijn32tab), ("math/bits.deBruijn64tab", YtpkjnefhnedfdaaGreatDoor.Rows.laid_math_bits_deBruijn64tab), ("internal/strconv.uint64pow10", YtpkjnefhnedfdaaGreatDoor.Rows.laid_internal_strconv_uint64pow10), ("unicode/utf8.acceptRanges", YtpkjnefhnedfdaaGreatDoor.Rows.laid_unicode_utf8_acceptRanges), ("strconv.ErrRange", YtpkjnefhnedfdaaGreatDoor.Rows.laid_strconv_ErrRange), ("strconv.ErrSyntax", YtpkjnefhnedfdaaGreatDoor.Rows.laid_strconv_ErrSyntax), ("unicode/utf8.first", YtpkjnefhnedfdaaGreatDoor.Rows.laid_unicode_utf8_first)] W := h
  obtain ⟨_, _, _, _, _, q, _, _, _, _, h, _⟩ := h
  obtain ⟨_, _, _, _, _, q, _, _, _, _, h, _⟩ := h
  obtain ⟨g', t', cs, fuel, p, q, hg', ht', hvar, hd, _⟩ := h
  intro g cs' hc
  have hg : g = F1.gPow ∧ cs' = F1.powTab := by
    have hc' : (bif eqb g F1.gPow then some F1.powTab else none) = some cs' := hc
    cases he : eqb g F1.gPow with
    | false => rw [he] at hc'; cases hc'
    | true => rw [he] at hc'; cases hc'; exact ⟨eqb_iff.1 he, rfl⟩
  obtain ⟨rfl, rfl⟩ := hg
  obtain rfl := Option.some.inj (F1.gPow_is.symm.trans hg')
  have hgt : (Tryz.prog.globals[F1.gPow]?).map (·.type) = some 166 := by kernel_rfl
  obtain rfl := Option.some.inj (hgt.symm.trans ht')
  have hz : (YtpkjnefhnedfdaaGreatDoor.Rows.laid_internal_strconv_uint64pow10 : DataW Unit) = Lib.tabData .u64 Lib.pow10Tab := by kernel_rfl
  rw [hz] at hd
  have hcs := cells_of_tab (n := 20) Tryz.underlying166 Tryz.underlying140 (by kernel_rfl) (by kernel_rfl) hd
  unfold World.var? at hvar
  rw [F1.gPow_is, Option.bind_some] at hvar
  split at hvar
  · rename_i c t fr hh
    cases hvar
    exact ⟨t, fr, by rw [hh, F1.powTab_is, ← hcs]⟩
  · cases hvar
noncomputable def laidWorld (os : Os) : World :=
  let n := (World.settled Tryz.prog os).heap.size
  { World.holding Tryz.prog os ⟨#[.cells #[.string ⟨#[118, 97, 108, 117, 101, 32, 111, 117, 116, 32, 111, 102, 32, 114, 97, 110, 103, 101]⟩] 174 (0, 0), .cells #[.string ⟨#[105, 110, 118, 97, 108, 105, 100, 32, 115, 121, 110, 116, 97, 120]⟩] 174 (0, 0)], #[], []⟩ with heap := ((((((((World.holding Tryz.prog os ⟨#[.cells #[.string ⟨#[118, 97, 108, 117, 101, 32, 111, 117, 116, 32, 111, 102, 32, 114, 97, 110, 103, 101]⟩] 174 (0, 0), .cells #[.string ⟨#[105, 110, 118, 97, 108, 105, 100, 32, 115, 121, 110, 116, 97, 120]⟩] 174 (0, 0)], #[], []⟩).heap.modify 6 fun | .cells _ t fr => .cells (#[.int .u8 0, .int .u8 1, .int .u8 28, .int .u8 2, .int .u8 29, .int .u8 14, .int .u8 24, .int .u8 3, .int .u8 30, .int .u8 22, .int .u8 20, .int .u8 15, .int .u8 25, .int .u8 17, .int .u8 4, .int .u8 8, .int .u8 31, .int .u8 27, .int .u8 13, .int .u8 23, .int .u8 21, .int .u8 19, .int .u8 16, .int .u8 7, .int .u8 26, .int .u8 12, .int .u8 18, .int .u8 6, .int .u8 11, .int .u8 5, .int .u8 10, .int .u8 9]) t fr | o => o).modify 7 fun | .cells _ t fr => .cells (#[.int .u8 0, .int .u8 1, .int .u8 56, .int .u8 2, .int .u8 57, .int .u8 49, .int .u8 28, .int .u8 3, .int .u8 61, .int .u8 58, .int .u8 42, .int .u8 50, .int .u8 38, .int .u8 29, .int .u8 17, .int .u8 4, .int .u8 62, .int .u8 47, .int .u8 59, .int .u8 36, .int .u8 45, .int .u8 43, .int .u8 51, .int .u8 22, .int .u8 53, .int .u8 39, .int .u8 33, .int .u8 30, .int .u8 24, .int .u8 18, .int .u8 12, .int .u8 5, .int .u8 63, .int .u8 55, .int .u8 48, .int .u8 27, .int .u8 60, .int .u8 41, .int .u8 37, .int .u8 16, .int .u8 46, .int .u8 35, .int .u8 44, .int .u8 21, .int .u8 52, .int .u8 32, .int .u8 23, .int .u8 11, .int .u8 54, .int .u8 26, .int .u8 40, .int .u8 15, .int .u8 34, .int .u8 20, .int .u8 31, .int .u8 10, .int .u8 25, .int .u8 14, .int .u8 19, .int .u8 9, .int .u8 13, .int .u8 8, .int .u8 7, .int .u8 6]) t fr | o => o).modify 3 fun | .cells _ t fr => .cells (#[.int .u64 1, .int .u64 10, .int .u64 100, .int .u64 1000, .int .u64 10000, .int .u64 100000, .int .u64 1000000, .int .u64 10000000, .int .u64 100000000, .int .u64 1000000000, .int .u64 10000000000, .int .u64 100000000000, .int .u64 1000000000000, .int .u64 10000000000000, .int .u64 100000000000000, .int .u64 1000000000000000, .int .u64 10000000000000000, .int .u64 100000000000000000, .int .u64 1000000000000000000, .int .u64 10000000000000000000]) t fr | o => o).modify 5 fun | .cells _ t fr => .cells (#[.int .u8 128, .int .u8 191, .int .u8 160, .int .u8 191, .int .u8 128, .int .u8 159, .int .u8 144, .int .u8 191, .int .u8 128, .int .u8 143, .int .u8 0, .int .u8 0, .int .u8 0, .int .u8 0, .int .u8 0, .int .u8 0, .int .u8 0, .int .u8 0, .int .u8 0, .int .u8 0, .int .u8 0, .int .u8 0, .int .u8 0, .int .u8 0, .int .u8 0, .int .u8 0, .int .u8 0, .int .u8 0, .int .u8 0, .int .u8 0, .int .u8 0, .int .u8 0]) t fr | o => o).modify 2 fun | .cells _ t fr => .cells (#[.iface 172 (.pointer (some ⟨n + 0, 0, none⟩))]) t fr | o => o).modify 1 fun | .cells _ t fr => .cells (#[.iface 172 (.pointer (some ⟨n + 1, 0, none⟩))]) t fr | o => o).modify 4 fun | .cells _ t fr => .cells ((Go.Pinned.utf8FirstZ.map fun z => Value.int .u8 (Int.ofNat z)).toArray) t fr | o => o) }
end Go.VS

/-
  RangesAdjoint answers true. (A text of this claim's own; nothing of it is trusted.)
-/
namespace Go.VS
open Go
set_option maxHeartbeats 0
theorem takeL_no {L : Bool} {e : Int} (h : zi L e = false) : L = false ∧ (e == 2) = false := by
  unfold zi at h
  cases he : (e == 2) <;> rw [he] at h <;> simp at h ⊢
  exact h
/-- What fits is what it stands for. -/
theorem fit {S : Int → Prop} {res : GS S_Span × Int} (h : Res S res) (he : (res.2 == 2) = false) : zh res.1 res.2 = res.1 ∧ Ok res.1.l ∧ Rg S res.1.l := by
  rcases h with ⟨h1, h2, h3⟩ | h
  · unfold zh; rw [he]; exact ⟨rfl, h2, h3⟩
  · rw [h] at he; cases he
theorem len_pos {l : List S_Span} {S : Int → Prop} (h : Rg S l) : decide (((l.length : Nat) : Int) > 0) = true ↔ ∃ x, S x := by
  rw [decide_eq_true_eq]
  have k := ne_nil_of h.1
  constructor
  · intro hp
    obtain ⟨x, hx⟩ := k.1 (fun e => by rw [e] at hp; simp at hp)
    exact ⟨x, (h.2 x).1 hx⟩
  · rintro ⟨x, hx⟩
    have := k.2 ⟨x, (h.2 x).2 hx⟩
    have := List.length_pos_iff.2 this
    omega
theorem adj_true (a b c : GS S_Span) : l_RangesAdjoint a b c = true := by
  unfold l_RangesAdjoint
  cases ha : r_Valid a with
  | false => rfl
  | true => cases hb : r_Valid b with
    | false => rfl
    | true => cases hc : r_Valid c with
      | false => rfl
      | true =>
        have ha := zA.1 ha
        have hb := zA.1 hb
        have hc := zA.1 hc
        simp only [cond_true]
        generalize hL : zi (zi (zi (zi (zi (zi false ((ze a b).2)) ((zb (zh ((ze a b).1) ((ze a b).2)) c).2)) ((z6 c b).2)) ((zb (zh ((z6 c b).1) ((z6 c b).2)) a).2)) ((z6 c a).2)) ((zb (zh ((z6 c a).1) ((z6 c a).2)) b).2) = L
        cases L with
        | true => simp only [holdsB, cond_true, Bool.cond_self]
        | false =>
          obtain ⟨hL, e6⟩ := takeL_no hL
          obtain ⟨hL, e5⟩ := takeL_no hL
          obtain ⟨hL, e4⟩ := takeL_no hL
          obtain ⟨hL, e3⟩ := takeL_no hL
          obtain ⟨hL, e2⟩ := takeL_no hL
          obtain ⟨_, e1⟩ := takeL_no hL
          obtain ⟨t1, o1, r1⟩ := fit (sum_res ha hb) e1
          rw [t1] at e2 ⊢
          obtain ⟨t2, o2, r2⟩ := fit (common_res o1 hc) e2
          obtain ⟨t3, o3, r3⟩ := fit (diff_res hc hb) e3
          rw [t3] at e4 ⊢
          obtain ⟨t4, o4, r4⟩ := fit (common_res o3 ha) e4
          obtain ⟨t5, o5, r5⟩ := fit (diff_res hc ha) e5
          rw [t5] at e6 ⊢
          obtain ⟨t6, o6, r6⟩ := fit (common_res o5 hb) e6
          rw [t2, t4, t6]
          have k2 := len_pos r2
          have k4 := len_pos r4
          have k6 := len_pos r6
          simp only [r1.2, r3.2, r5.2] at k2 k4 k6
          have p1 : (∃ x, (∃ y z, In a.l y ∧ In b.l z ∧ x = y + z) ∧ In c.l x) ↔ ∃ x, (∃ y z, In c.l y ∧ In b.l z ∧ x = y - z) ∧ In a.l x := by
            constructor
            · rintro ⟨x, ⟨y, z, h1, h2, rfl⟩, h3⟩
              exact ⟨y, ⟨y + z, z, h3, h2, by omega⟩, h1⟩
            · rintro ⟨x, ⟨y, z, h1, h2, rfl⟩, h3⟩
              exact ⟨y, ⟨y - z, z, h3, h2, by omega⟩, h1⟩
          have p2 : (∃ x, (∃ y z, In a.l y ∧ In b.l z ∧ x = y + z) ∧ In c.l x) ↔ ∃ x, (∃ y z, In c.l y ∧ In a.l z ∧ x = y - z) ∧ In b.l x := by
            constructor
            · rintro ⟨x, ⟨y, z, h1, h2, rfl⟩, h3⟩
              exact ⟨z, ⟨y + z, y, h3, h1, by omega⟩, h2⟩
            · rintro ⟨x, ⟨y, z, h1, h2, rfl⟩, h3⟩
              exact ⟨y, ⟨z, y - z, h2, h3, by omega⟩, h1⟩
          rw [p1] at k2
          rw [← p2, p1] at k6
          generalize decide ((((zb (ze a b).1 c).1.l.length : Nat) : Int) > 0) = q2 at *
          generalize decide ((((zb (z6 c b).1 a).1.l.length : Nat) : Int) > 0) = q4 at *
          generalize decide ((((zb (z6 c a).1 b).1.l.length : Nat) : Int) > 0) = q6 at *
          have i1 : q2 = true ↔ q4 = true := by rw [k2, k4]
          have i2 : q2 = true ↔ q6 = true := by rw [k2, k6]
          cases q2 <;> cases q4 <;> cases q6 <;> simp [holdsB] at i1 i2 ⊢
theorem law_adj (a b c : GS S_Span) : a.l.length ≤ 9223372036854775807 → b.l.length ≤ 9223372036854775807 → c.l.length ≤ 9223372036854775807 → (lim cfg).pure 7 [GS.D S_Span.D 2 a, GS.D S_Span.D 2 b, GS.D S_Span.D 2 c] = some (B true) := fun h1 h2 h3 => by
  rw [T_l_RangesAdjoint a b c h1 h2 h3, adj_true]
end Go.VS

