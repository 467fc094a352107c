/- Nothing of a statement is proved in this text alone: it is part 4 of the proof's own tools, an evaluator of the code over deep values, its soundness, and what it makes of this seat's functions. Conditions: none beyond the statement's own. -/
import Derived.Test.YtpkjnefhnedfdaaGreatDoorVsRCAdd3
set_option linter.unusedSimpArgs false
set_option linter.unusedVariables false
namespace Go.VS
open Go Go.Proofs
set_option maxHeartbeats 0
set_option linter.unusedSimpArgs false
set_option linter.unusedVariables false
noncomputable def lp87_6 : Code := subC [1, 0, 1, 1, 0, 1, 0, 0, 1, 1, 0, 0, 1, 1, 0, 0] (bodyC Tryz.f87)

def sd53 (a : GS S_Span) (b : GS S_Span) (i3 : Nat) (x3 : S_Span) (i6 : Nat) (x6 : S_Span) (v6_0 : List S_Span) : St := ⟨40, [(22, I ((i6 + 1 : Nat) : Int)), (37, I ((i6 + 1 : Nat) : Int)), (36, B false), (7, .lsl 1 0 v6_0.length 2 none), (35, .lsl 1 0 v6_0.length 2 none), (34, .sl (((zb x3 x6).1).nl) ((((zb x3 x6).1).l).map S_Span.D) (zsl (((zb x3 x6).1).nl) 2) none), (33, .lsl 1 0 v6_0.length 2 none), (13, B false), (12, .sl (((zb x3 x6).1).nl) ((((zb x3 x6).1).l).map S_Span.D) (zsl (((zb x3 x6).1).nl) 2) none), (32, B false), (31, .sl (((zb x3 x6).1).nl) ((((zb x3 x6).1).l).map S_Span.D) (zsl (((zb x3 x6).1).nl) 2) none), (26, .tup [.sl (((zb x3 x6).1).nl) ((((zb x3 x6).1).l).map S_Span.D) (zsl (((zb x3 x6).1).nl) 2) none, B ((zb x3 x6).2)]), (30, .tup [.sl (((zb x3 x6).1).nl) ((((zb x3 x6).1).l).map S_Span.D) (zsl (((zb x3 x6).1).nl) 2) none, B ((zb x3 x6).2)]), (29, .agg [I x6.lo, I x6.hi]), (28, .agg [I x3.lo, I x3.hi]), (27, .fn (.func 88) [] []), (11, .lref 3 0 2 0), (25, .agg [I x6.lo, I x6.hi]), (24, .ptr (.agg [I x6.lo, I x6.hi])), (23, B true), (1, .sl b.nl (b.l.map S_Span.D) (zsl b.nl 2) none), (2, .fn (.func 88) [] []), (7, .lsl 1 0 v6_0.length 2 none), (9, .lref 2 0 2 0), (14, .sl a.nl (a.l.map S_Span.D) (zsl a.nl 2) none), (15, I ((a.l.length : Nat) : Int)), (16, I ((i3 : Nat) : Int)), (20, .sl b.nl (b.l.map S_Span.D) (zsl b.nl 2) none), (21, I ((b.l.length : Nat) : Int)), (22, I ((i6 : Nat) : Int))], [(1, ⟨v6_0.map S_Span.D, 2, false⟩), (2, ⟨[.agg [I x3.lo, I x3.hi]], 2, false⟩), (3, ⟨[.agg [I x6.lo, I x6.hi]], 2, false⟩)], 4, 1⟩

def sd54 (a : GS S_Span) (b : GS S_Span) (i3 : Nat) (x3 : S_Span) (i6 : Nat) (x6 : S_Span) (v6_0 : List S_Span) : St := ⟨40, [(22, I ((i6 + 1 : Nat) : Int)), (37, I ((i6 + 1 : Nat) : Int)), (36, B false), (7, .lsl 4 0 ((v6_0 ++ (((zb x3 x6).1).l)).length) 2 none), (35, .lsl 4 0 ((v6_0 ++ (((zb x3 x6).1).l)).length) 2 none), (34, .sl (((zb x3 x6).1).nl) ((((zb x3 x6).1).l).map S_Span.D) (zsl (((zb x3 x6).1).nl) 2) none), (33, .lsl 1 0 v6_0.length 2 none), (13, B false), (12, .sl (((zb x3 x6).1).nl) ((((zb x3 x6).1).l).map S_Span.D) (zsl (((zb x3 x6).1).nl) 2) none), (32, B false), (31, .sl (((zb x3 x6).1).nl) ((((zb x3 x6).1).l).map S_Span.D) (zsl (((zb x3 x6).1).nl) 2) none), (26, .tup [.sl (((zb x3 x6).1).nl) ((((zb x3 x6).1).l).map S_Span.D) (zsl (((zb x3 x6).1).nl) 2) none, B ((zb x3 x6).2)]), (30, .tup [.sl (((zb x3 x6).1).nl) ((((zb x3 x6).1).l).map S_Span.D) (zsl (((zb x3 x6).1).nl) 2) none, B ((zb x3 x6).2)]), (29, .agg [I x6.lo, I x6.hi]), (28, .agg [I x3.lo, I x3.hi]), (27, .fn (.func 88) [] []), (11, .lref 3 0 2 0), (25, .agg [I x6.lo, I x6.hi]), (24, .ptr (.agg [I x6.lo, I x6.hi])), (23, B true), (1, .sl b.nl (b.l.map S_Span.D) (zsl b.nl 2) none), (2, .fn (.func 88) [] []), (7, .lsl 1 0 v6_0.length 2 none), (9, .lref 2 0 2 0), (14, .sl a.nl (a.l.map S_Span.D) (zsl a.nl 2) none), (15, I ((a.l.length : Nat) : Int)), (16, I ((i3 : Nat) : Int)), (20, .sl b.nl (b.l.map S_Span.D) (zsl b.nl 2) none), (21, I ((b.l.length : Nat) : Int)), (22, I ((i6 : Nat) : Int))], [(2, ⟨[.agg [I x3.lo, I x3.hi]], 2, false⟩), (3, ⟨[.agg [I x6.lo, I x6.hi]], 2, false⟩), (4, ⟨(v6_0 ++ (((zb x3 x6).1).l)).map S_Span.D, 2, false⟩)], 5, 1⟩

inductive LR_ranges_pairs_6 where
  | x0 (v6_0 : List S_Span)
instance : Inhabited LR_ranges_pairs_6 := ⟨.x0 default⟩
def ranges_pairs_6 (x3 : S_Span) : List S_Span → (List S_Span) → LR_ranges_pairs_6
  | [], v6_0 => .x0 v6_0
  | x6 :: rest6, v6_0 =>
    bif (((zb x3 x6).1).l).isEmpty then
      ranges_pairs_6 x3 rest6 v6_0
    else
      ranges_pairs_6 x3 rest6 (v6_0 ++ (((zb x3 x6).1).l))
def lr_ranges_pairs_6 (a : GS S_Span) (b : GS S_Span) (i3 : Nat) (x3 : S_Span) : LR_ranges_pairs_6 → Exit × St
  | .x0 v6_0 => ((.exit 2), ⟨40, [(23, B false), (1, .sl b.nl (b.l.map S_Span.D) (zsl b.nl 2) none), (2, .fn (.func 88) [] []), (7, .lsl 1 0 v6_0.length 2 none), (9, .lref 2 0 2 0), (14, .sl a.nl (a.l.map S_Span.D) (zsl a.nl 2) none), (15, I ((a.l.length : Nat) : Int)), (16, I ((i3 : Nat) : Int)), (20, .sl b.nl (b.l.map S_Span.D) (zsl b.nl 2) none), (21, I ((b.l.length : Nat) : Int)), (22, I ((b.l.length : Nat) : Int))], [(1, ⟨v6_0.map S_Span.D, 2, false⟩), (2, ⟨[.agg [I x3.lo, I x3.hi]], 2, false⟩)], 3, 1⟩)
def iv_ranges_pairs_6 (a : GS S_Span) (b : GS S_Span) (i3 : Nat) (x3 : S_Span) : LR_ranges_pairs_6 → Prop
  | .x0 v6_0 => (v6_0.length ≤ 65 * i3 + b.l.length)
theorem lp_ranges_pairs_6 (a : GS S_Span) (b : GS S_Span) (i3 : Nat) (x3 : S_Span) : ∀ (rest6 : List S_Span) (i6 : Nat) (v6_0 : List S_Span) (hd6 : b.l.drop i6 = rest6) (hi6 : i6 ≤ b.l.length) (hb65 : b.l.length ≤ 65) (ho64 : i3 < 64) (hg6_v6_0 : v6_0.length ≤ 65 * i3 + i6) (hL6 : b.l.length ≤ 1099511627776), (lim cfg).loop 87 lp87_6 ⟨40, [(1, .sl b.nl (b.l.map S_Span.D) (zsl b.nl 2) none), (2, .fn (.func 88) [] []), (7, .lsl 1 0 v6_0.length 2 none), (9, .lref 2 0 2 0), (14, .sl a.nl (a.l.map S_Span.D) (zsl a.nl 2) none), (15, I ((a.l.length : Nat) : Int)), (16, I ((i3 : Nat) : Int)), (20, .sl b.nl (b.l.map S_Span.D) (zsl b.nl 2) none), (21, I ((b.l.length : Nat) : Int)), (22, I ((i6 : Nat) : Int))], [(1, ⟨v6_0.map S_Span.D, 2, false⟩), (2, ⟨[.agg [I x3.lo, I x3.hi]], 2, false⟩)], 3, 1⟩ = some (lr_ranges_pairs_6 a b i3 x3 (ranges_pairs_6 x3 rest6 v6_0)) := by
  intro rest6
  induction rest6 with
  | nil =>
    intro i6 v6_0 hd6 hi6 hb65 ho64 hg6_v6_0 hL6
    unfold ranges_pairs_6
    obtain rfl : i6 = b.l.length := nil_eq hd6 hi6
    exact zS [.dec false] (And.intro (lt_no hd6) trivial) (by kernel_rfl)
  | cons x6 rest6 ih =>
    intro i6 v6_0 hd6 hi6 hb65 ho64 hg6_v6_0 hL6
    have hlt6 := zl hd6
    have hlx := sum1_len x3 x6
    unfold ranges_pairs_6
    cases h11 : (((zb x3 x6).1).l).isEmpty with
    | true =>
      exact y7 (ks := [1, 2, 7, 9, 14, 15, 16, 20, 21, 22]) (st' := (sd53 a b i3 x3 i6 x6 v6_0)) [.dec true, .el (.agg [I x6.lo, I x6.hi]), .pure (.tup [.sl (((zb x3 x6).1).nl) ((((zb x3 x6).1).l).map S_Span.D) (zsl (((zb x3 x6).1).nl) 2) none, B ((zb x3 x6).2)]), .dec false, .op (some 35) ⟨.lsl 1 0 v6_0.length 2 none, [], [], 4⟩, .rw 37 (I ((i6 + 1 : Nat) : Int))] (And.intro (inc_rw (i := i6) (by have := zl hd6; omega)) (And.intro (app_none (te := ty25) (gO := zv [(1, ⟨v6_0.map S_Span.D, 2, false⟩), (2, ⟨[.agg [I x3.lo, I x3.hi]], 2, false⟩), (3, ⟨[.agg [I x6.lo, I x6.hi]], 2, false⟩)]) (nxt := 4) (f := S_Span.D) (sz := 2) (d := .lsl 1 0 v6_0.length 2 none) ((zb x3 x6).1) h11 rfl) (And.intro (show ((zb x3 x6).2) = false from rfl) (And.intro (T_ranges_Sum_1 x3 x6) (And.intro (el_at (s := b) (f := S_Span.D) (k := 2) hd6) (And.intro (lt_at hd6) trivial)))))) (by kernel_rfl) (by (simp only [sd53, go_sem, List.length_set, Nat.reduceAdd, Nat.reduceEqDiff, Nat.reduceLT, Nat.reduceLeDiff, bI2, za.idsL, za.renL, za.snapAll, z6.idsL, z6.renL, z6.snapAll]) <;> rfl) (ih (i6 + 1) v6_0 (zn hd6) (zl hd6) (by omega) (by omega) (by omega) (by omega)) (by kernel_rfl)
    | false =>
      exact y7 (ks := [1, 2, 7, 9, 14, 15, 16, 20, 21, 22]) (st' := (sd54 a b i3 x3 i6 x6 v6_0)) [.dec true, .el (.agg [I x6.lo, I x6.hi]), .pure (.tup [.sl (((zb x3 x6).1).nl) ((((zb x3 x6).1).l).map S_Span.D) (zsl (((zb x3 x6).1).nl) 2) none, B ((zb x3 x6).2)]), .dec false, .op (some 35) ⟨.lsl 4 0 ((v6_0 ++ (((zb x3 x6).1).l)).length) 2 none, [(1, none), (4, some ⟨(v6_0 ++ (((zb x3 x6).1).l)).map S_Span.D, 2, false⟩)], [1], 5⟩, .rw 37 (I ((i6 + 1 : Nat) : Int))] (And.intro (inc_rw (i := i6) (by have := zl hd6; omega)) (And.intro (app_moreD (te := ty25) (gO := zv [(1, ⟨v6_0.map S_Span.D, 2, false⟩), (2, ⟨[.agg [I x3.lo, I x3.hi]], 2, false⟩), (3, ⟨[.agg [I x6.lo, I x6.hi]], 2, false⟩)]) (nxt := 4) (o := 1) (v := v6_0) z6 ((zb x3 x6).1) h11 (by kernel_rfl) rfl (by kernel_rfl) (by decide) ⟨by simp only [ty25, big] <;> (first | assumption | omega | (exact yi (by omega) (by omega)) | (exact zO (by omega)) | (exact zz (by omega)) | (exact zP (by omega)) | (exact zA (by omega)) | (simp only [zk] at * <;> omega) | (simp only [zr, GS.some_l, List.length_set, List.length_append, List.length_cons, List.length_nil] at * <;> first | with_reducible assumption | omega) | (simp only [zr, GS.some_l, List.length_set, List.length_append, List.length_cons, List.length_nil, zk] at * <;> first | with_reducible assumption | omega) | (simp at * <;> omega)), by simp only [big] <;> (first | assumption | omega | (exact yi (by omega) (by omega)) | (exact zO (by omega)) | (exact zz (by omega)) | (exact zP (by omega)) | (exact zA (by omega)) | (simp only [zk] at * <;> omega) | (simp only [zr, GS.some_l, List.length_set, List.length_append, List.length_cons, List.length_nil] at * <;> first | with_reducible assumption | omega) | (simp only [zr, GS.some_l, List.length_set, List.length_append, List.length_cons, List.length_nil, zk] at * <;> first | with_reducible assumption | omega) | (simp at * <;> omega))⟩) (And.intro (show ((zb x3 x6).2) = false from rfl) (And.intro (T_ranges_Sum_1 x3 x6) (And.intro (el_at (s := b) (f := S_Span.D) (k := 2) hd6) (And.intro (lt_at hd6) trivial)))))) (by kernel_rfl) (by (simp only [sd54, go_sem, List.length_set, Nat.reduceAdd, Nat.reduceEqDiff, Nat.reduceLT, Nat.reduceLeDiff, bI2, za.idsL, za.renL, za.snapAll, z6.idsL, z6.renL, z6.snapAll]) <;> rfl) (ih (i6 + 1) (v6_0 ++ (((zb x3 x6).1).l)) (zn hd6) (zl hd6) (by omega) (by omega) (by simp only [List.length_append, List.length_cons, List.length_nil] at * <;> omega) (by omega)) (by kernel_rfl)
theorem ivt_ranges_pairs_6 (a : GS S_Span) (b : GS S_Span) (i3 : Nat) (x3 : S_Span) : ∀ (rest6 : List S_Span) (i6 : Nat) (v6_0 : List S_Span) (hd6 : b.l.drop i6 = rest6) (hi6 : i6 ≤ b.l.length) (hb65 : b.l.length ≤ 65) (ho64 : i3 < 64) (hg6_v6_0 : v6_0.length ≤ 65 * i3 + i6) (hL6 : b.l.length ≤ 1099511627776), iv_ranges_pairs_6 a b i3 x3 (ranges_pairs_6 x3 rest6 v6_0) := by
  intro rest6
  induction rest6 with
  | nil =>
    intro i6 v6_0 hd6 hi6 hb65 ho64 hg6_v6_0 hL6
    unfold ranges_pairs_6
    obtain rfl : i6 = b.l.length := nil_eq hd6 hi6
    exact hg6_v6_0
  | cons x6 rest6 ih =>
    intro i6 v6_0 hd6 hi6 hb65 ho64 hg6_v6_0 hL6
    have hlt6 := zl hd6
    have hlx := sum1_len x3 x6
    unfold ranges_pairs_6
    cases h11 : (((zb x3 x6).1).l).isEmpty with
    | true =>
      exact ih (i6 + 1) v6_0 (zn hd6) (zl hd6) (by omega) (by omega) (by omega) (by omega)
    | false =>
      exact ih (i6 + 1) (v6_0 ++ (((zb x3 x6).1).l)) (zn hd6) (zl hd6) (by omega) (by omega) (by simp only [List.length_append, List.length_cons, List.length_nil] at * <;> omega) (by omega)

def sd56 (a : GS S_Span) (b : GS S_Span) (i3 : Nat) (x3 : S_Span) (i6p1 : Nat) (x6p1 : S_Span) (va6p1_0 : List S_Span) : St := ⟨40, [(22, I ((i6p1 + 1 : Nat) : Int)), (37, I ((i6p1 + 1 : Nat) : Int)), (36, B false), (7, .lsl 1 0 va6p1_0.length 2 none), (35, .lsl 1 0 va6p1_0.length 2 none), (34, .sl (((zb x3 x6p1).1).nl) ((((zb x3 x6p1).1).l).map S_Span.D) (zsl (((zb x3 x6p1).1).nl) 2) none), (33, .lsl 1 0 va6p1_0.length 2 none), (13, B false), (12, .sl (((zb x3 x6p1).1).nl) ((((zb x3 x6p1).1).l).map S_Span.D) (zsl (((zb x3 x6p1).1).nl) 2) none), (32, B false), (31, .sl (((zb x3 x6p1).1).nl) ((((zb x3 x6p1).1).l).map S_Span.D) (zsl (((zb x3 x6p1).1).nl) 2) none), (26, .tup [.sl (((zb x3 x6p1).1).nl) ((((zb x3 x6p1).1).l).map S_Span.D) (zsl (((zb x3 x6p1).1).nl) 2) none, B ((zb x3 x6p1).2)]), (30, .tup [.sl (((zb x3 x6p1).1).nl) ((((zb x3 x6p1).1).l).map S_Span.D) (zsl (((zb x3 x6p1).1).nl) 2) none, B ((zb x3 x6p1).2)]), (29, .agg [I x6p1.lo, I x6p1.hi]), (28, .agg [I x3.lo, I x3.hi]), (27, .fn (.func 88) [] []), (11, .lref 3 0 2 0), (25, .agg [I x6p1.lo, I x6p1.hi]), (24, .ptr (.agg [I x6p1.lo, I x6p1.hi])), (23, B true), (1, .sl b.nl (b.l.map S_Span.D) (zsl b.nl 2) none), (2, .fn (.func 88) [] []), (7, .lsl 1 0 va6p1_0.length 2 none), (9, .lref 2 0 2 0), (14, .sl a.nl (a.l.map S_Span.D) (zsl a.nl 2) none), (15, I ((a.l.length : Nat) : Int)), (16, I ((i3 : Nat) : Int)), (20, .sl b.nl (b.l.map S_Span.D) (zsl b.nl 2) none), (21, I ((b.l.length : Nat) : Int)), (22, I ((i6p1 : Nat) : Int))], [(1, ⟨va6p1_0.map S_Span.D, 2, false⟩), (2, ⟨[.agg [I x3.lo, I x3.hi]], 2, false⟩), (3, ⟨[.agg [I x6p1.lo, I x6p1.hi]], 2, false⟩)], 4, 1⟩

def sd57 (a : GS S_Span) (b : GS S_Span) (i3 : Nat) (x3 : S_Span) (i6p1 : Nat) (x6p1 : S_Span) (va6p1_0 : List S_Span) : St := ⟨40, [(22, I ((i6p1 + 1 : Nat) : Int)), (37, I ((i6p1 + 1 : Nat) : Int)), (36, B false), (7, .lsl 4 0 ((va6p1_0 ++ (((zb x3 x6p1).1).l)).length) 2 none), (35, .lsl 4 0 ((va6p1_0 ++ (((zb x3 x6p1).1).l)).length) 2 none), (34, .sl (((zb x3 x6p1).1).nl) ((((zb x3 x6p1).1).l).map S_Span.D) (zsl (((zb x3 x6p1).1).nl) 2) none), (33, .lsl 1 0 va6p1_0.length 2 none), (13, B false), (12, .sl (((zb x3 x6p1).1).nl) ((((zb x3 x6p1).1).l).map S_Span.D) (zsl (((zb x3 x6p1).1).nl) 2) none), (32, B false), (31, .sl (((zb x3 x6p1).1).nl) ((((zb x3 x6p1).1).l).map S_Span.D) (zsl (((zb x3 x6p1).1).nl) 2) none), (26, .tup [.sl (((zb x3 x6p1).1).nl) ((((zb x3 x6p1).1).l).map S_Span.D) (zsl (((zb x3 x6p1).1).nl) 2) none, B ((zb x3 x6p1).2)]), (30, .tup [.sl (((zb x3 x6p1).1).nl) ((((zb x3 x6p1).1).l).map S_Span.D) (zsl (((zb x3 x6p1).1).nl) 2) none, B ((zb x3 x6p1).2)]), (29, .agg [I x6p1.lo, I x6p1.hi]), (28, .agg [I x3.lo, I x3.hi]), (27, .fn (.func 88) [] []), (11, .lref 3 0 2 0), (25, .agg [I x6p1.lo, I x6p1.hi]), (24, .ptr (.agg [I x6p1.lo, I x6p1.hi])), (23, B true), (1, .sl b.nl (b.l.map S_Span.D) (zsl b.nl 2) none), (2, .fn (.func 88) [] []), (7, .lsl 1 0 va6p1_0.length 2 none), (9, .lref 2 0 2 0), (14, .sl a.nl (a.l.map S_Span.D) (zsl a.nl 2) none), (15, I ((a.l.length : Nat) : Int)), (16, I ((i3 : Nat) : Int)), (20, .sl b.nl (b.l.map S_Span.D) (zsl b.nl 2) none), (21, I ((b.l.length : Nat) : Int)), (22, I ((i6p1 : Nat) : Int))], [(2, ⟨[.agg [I x3.lo, I x3.hi]], 2, false⟩), (3, ⟨[.agg [I x6p1.lo, I x6p1.hi]], 2, false⟩), (4, ⟨(va6p1_0 ++ (((zb x3 x6p1).1).l)).map S_Span.D, 2, false⟩)], 5, 1⟩

def sd58 (a : GS S_Span) (b : GS S_Span) (i3 : Nat) (x3 : S_Span) (i6p1 : Nat) (x6p1 : S_Span) : St := ⟨40, [(22, I ((i6p1 + 1 : Nat) : Int)), (37, I ((i6p1 + 1 : Nat) : Int)), (36, B false), (7, .lsl 3 0 ((((zb x3 x6p1).1).l).length) 2 none), (35, .lsl 3 0 ((((zb x3 x6p1).1).l).length) 2 none), (34, .sl (((zb x3 x6p1).1).nl) ((((zb x3 x6p1).1).l).map S_Span.D) (zsl (((zb x3 x6p1).1).nl) 2) none), (33, .sl true [] 0 none), (13, B false), (12, .sl (((zb x3 x6p1).1).nl) ((((zb x3 x6p1).1).l).map S_Span.D) (zsl (((zb x3 x6p1).1).nl) 2) none), (32, B false), (31, .sl (((zb x3 x6p1).1).nl) ((((zb x3 x6p1).1).l).map S_Span.D) (zsl (((zb x3 x6p1).1).nl) 2) none), (26, .tup [.sl (((zb x3 x6p1).1).nl) ((((zb x3 x6p1).1).l).map S_Span.D) (zsl (((zb x3 x6p1).1).nl) 2) none, B ((zb x3 x6p1).2)]), (30, .tup [.sl (((zb x3 x6p1).1).nl) ((((zb x3 x6p1).1).l).map S_Span.D) (zsl (((zb x3 x6p1).1).nl) 2) none, B ((zb x3 x6p1).2)]), (29, .agg [I x6p1.lo, I x6p1.hi]), (28, .agg [I x3.lo, I x3.hi]), (27, .fn (.func 88) [] []), (11, .lref 2 0 2 0), (25, .agg [I x6p1.lo, I x6p1.hi]), (24, .ptr (.agg [I x6p1.lo, I x6p1.hi])), (23, B true), (1, .sl b.nl (b.l.map S_Span.D) (zsl b.nl 2) none), (2, .fn (.func 88) [] []), (7, .sl true [] 0 none), (9, .lref 1 0 2 0), (14, .sl a.nl (a.l.map S_Span.D) (zsl a.nl 2) none), (15, I ((a.l.length : Nat) : Int)), (16, I ((i3 : Nat) : Int)), (20, .sl b.nl (b.l.map S_Span.D) (zsl b.nl 2) none), (21, I ((b.l.length : Nat) : Int)), (22, I ((i6p1 : Nat) : Int))], [(1, ⟨[.agg [I x3.lo, I x3.hi]], 2, false⟩), (2, ⟨[.agg [I x6p1.lo, I x6p1.hi]], 2, false⟩), (3, ⟨(((zb x3 x6p1).1).l).map S_Span.D, 2, false⟩)], 4, 1⟩

inductive LR_ranges_pairs_6p1 where
  | x0 (va6p1_0 : List S_Span)
  | x1
instance : Inhabited LR_ranges_pairs_6p1 := ⟨.x0 default⟩
def yf (x3 : S_Span) : List S_Span → (List S_Span) → LR_ranges_pairs_6p1
  | [], va6p1_0 => .x0 va6p1_0
  | x6p1 :: rest6p1, va6p1_0 =>
    bif (((zb x3 x6p1).1).l).isEmpty then
      yf x3 rest6p1 va6p1_0
    else
      yf x3 rest6p1 (va6p1_0 ++ (((zb x3 x6p1).1).l))
def ranges_pairs_6p1 (x3 : S_Span) : List S_Span → LR_ranges_pairs_6p1
  | [] => .x1
  | x6p1 :: rest6p1 =>
    bif (((zb x3 x6p1).1).l).isEmpty then
      ranges_pairs_6p1 x3 rest6p1
    else
      yf x3 rest6p1 (((zb x3 x6p1).1).l)
def lr_ranges_pairs_6p1 (a : GS S_Span) (b : GS S_Span) (i3 : Nat) (x3 : S_Span) : LR_ranges_pairs_6p1 → Exit × St
  | .x0 va6p1_0 => ((.exit 2), ⟨40, [(23, B false), (1, .sl b.nl (b.l.map S_Span.D) (zsl b.nl 2) none), (2, .fn (.func 88) [] []), (7, .lsl 1 0 va6p1_0.length 2 none), (9, .lref 2 0 2 0), (14, .sl a.nl (a.l.map S_Span.D) (zsl a.nl 2) none), (15, I ((a.l.length : Nat) : Int)), (16, I ((i3 : Nat) : Int)), (20, .sl b.nl (b.l.map S_Span.D) (zsl b.nl 2) none), (21, I ((b.l.length : Nat) : Int)), (22, I ((b.l.length : Nat) : Int))], [(1, ⟨va6p1_0.map S_Span.D, 2, false⟩), (2, ⟨[.agg [I x3.lo, I x3.hi]], 2, false⟩)], 3, 1⟩)
  | .x1 => ((.exit 2), ⟨40, [(23, B false), (1, .sl b.nl (b.l.map S_Span.D) (zsl b.nl 2) none), (2, .fn (.func 88) [] []), (7, .sl true [] 0 none), (9, .lref 1 0 2 0), (14, .sl a.nl (a.l.map S_Span.D) (zsl a.nl 2) none), (15, I ((a.l.length : Nat) : Int)), (16, I ((i3 : Nat) : Int)), (20, .sl b.nl (b.l.map S_Span.D) (zsl b.nl 2) none), (21, I ((b.l.length : Nat) : Int)), (22, I ((b.l.length : Nat) : Int))], [(1, ⟨[.agg [I x3.lo, I x3.hi]], 2, false⟩)], 2, 1⟩)
def iv_ranges_pairs_6p1 (a : GS S_Span) (b : GS S_Span) (i3 : Nat) (x3 : S_Span) : LR_ranges_pairs_6p1 → Prop
  | .x0 va6p1_0 => (va6p1_0.length ≤ 65 * i3 + b.l.length)
  | .x1 => True
theorem lp_ranges_pairs_6p1a (a : GS S_Span) (b : GS S_Span) (i3 : Nat) (x3 : S_Span) : ∀ (rest6p1 : List S_Span) (i6p1 : Nat) (va6p1_0 : List S_Span) (hd6p1 : b.l.drop i6p1 = rest6p1) (hi6p1 : i6p1 ≤ b.l.length) (hb65 : b.l.length ≤ 65) (ho64 : i3 < 64) (hg6p1_va6p1_0 : va6p1_0.length ≤ 65 * i3 + i6p1) (hL6p1 : b.l.length ≤ 1099511627776), (lim cfg).loop 87 lp87_6 ⟨40, [(1, .sl b.nl (b.l.map S_Span.D) (zsl b.nl 2) none), (2, .fn (.func 88) [] []), (7, .lsl 1 0 va6p1_0.length 2 none), (9, .lref 2 0 2 0), (14, .sl a.nl (a.l.map S_Span.D) (zsl a.nl 2) none), (15, I ((a.l.length : Nat) : Int)), (16, I ((i3 : Nat) : Int)), (20, .sl b.nl (b.l.map S_Span.D) (zsl b.nl 2) none), (21, I ((b.l.length : Nat) : Int)), (22, I ((i6p1 : Nat) : Int))], [(1, ⟨va6p1_0.map S_Span.D, 2, false⟩), (2, ⟨[.agg [I x3.lo, I x3.hi]], 2, false⟩)], 3, 1⟩ = some (lr_ranges_pairs_6p1 a b i3 x3 (yf x3 rest6p1 va6p1_0)) := by
  intro rest6p1
  induction rest6p1 with
  | nil =>
    intro i6p1 va6p1_0 hd6p1 hi6p1 hb65 ho64 hg6p1_va6p1_0 hL6p1
    unfold yf
    obtain rfl : i6p1 = b.l.length := nil_eq hd6p1 hi6p1
    exact zS [.dec false] (And.intro (lt_no hd6p1) trivial) (by kernel_rfl)
  | cons x6p1 rest6p1 ih =>
    intro i6p1 va6p1_0 hd6p1 hi6p1 hb65 ho64 hg6p1_va6p1_0 hL6p1
    have hlt6p1 := zl hd6p1
    have hlx := sum1_len x3 x6p1
    unfold yf
    cases h15 : (((zb x3 x6p1).1).l).isEmpty with
    | true =>
      exact y7 (ks := [1, 2, 7, 9, 14, 15, 16, 20, 21, 22]) (st' := (sd56 a b i3 x3 i6p1 x6p1 va6p1_0)) [.dec true, .el (.agg [I x6p1.lo, I x6p1.hi]), .pure (.tup [.sl (((zb x3 x6p1).1).nl) ((((zb x3 x6p1).1).l).map S_Span.D) (zsl (((zb x3 x6p1).1).nl) 2) none, B ((zb x3 x6p1).2)]), .dec false, .op (some 35) ⟨.lsl 1 0 va6p1_0.length 2 none, [], [], 4⟩, .rw 37 (I ((i6p1 + 1 : Nat) : Int))] (And.intro (inc_rw (i := i6p1) (by have := zl hd6p1; omega)) (And.intro (app_none (te := ty25) (gO := zv [(1, ⟨va6p1_0.map S_Span.D, 2, false⟩), (2, ⟨[.agg [I x3.lo, I x3.hi]], 2, false⟩), (3, ⟨[.agg [I x6p1.lo, I x6p1.hi]], 2, false⟩)]) (nxt := 4) (f := S_Span.D) (sz := 2) (d := .lsl 1 0 va6p1_0.length 2 none) ((zb x3 x6p1).1) h15 rfl) (And.intro (show ((zb x3 x6p1).2) = false from rfl) (And.intro (T_ranges_Sum_1 x3 x6p1) (And.intro (el_at (s := b) (f := S_Span.D) (k := 2) hd6p1) (And.intro (lt_at hd6p1) trivial)))))) (by kernel_rfl) (by (simp only [sd56, go_sem, List.length_set, Nat.reduceAdd, Nat.reduceEqDiff, Nat.reduceLT, Nat.reduceLeDiff, bI2, za.idsL, za.renL, za.snapAll, z6.idsL, z6.renL, z6.snapAll]) <;> rfl) (ih (i6p1 + 1) va6p1_0 (zn hd6p1) (zl hd6p1) (by omega) (by omega) (by omega) (by omega)) (by kernel_rfl)
    | false =>
      exact y7 (ks := [1, 2, 7, 9, 14, 15, 16, 20, 21, 22]) (st' := (sd57 a b i3 x3 i6p1 x6p1 va6p1_0)) [.dec true, .el (.agg [I x6p1.lo, I x6p1.hi]), .pure (.tup [.sl (((zb x3 x6p1).1).nl) ((((zb x3 x6p1).1).l).map S_Span.D) (zsl (((zb x3 x6p1).1).nl) 2) none, B ((zb x3 x6p1).2)]), .dec false, .op (some 35) ⟨.lsl 4 0 ((va6p1_0 ++ (((zb x3 x6p1).1).l)).length) 2 none, [(1, none), (4, some ⟨(va6p1_0 ++ (((zb x3 x6p1).1).l)).map S_Span.D, 2, false⟩)], [1], 5⟩, .rw 37 (I ((i6p1 + 1 : Nat) : Int))] (And.intro (inc_rw (i := i6p1) (by have := zl hd6p1; omega)) (And.intro (app_moreD (te := ty25) (gO := zv [(1, ⟨va6p1_0.map S_Span.D, 2, false⟩), (2, ⟨[.agg [I x3.lo, I x3.hi]], 2, false⟩), (3, ⟨[.agg [I x6p1.lo, I x6p1.hi]], 2, false⟩)]) (nxt := 4) (o := 1) (v := va6p1_0) z6 ((zb x3 x6p1).1) h15 (by kernel_rfl) rfl (by kernel_rfl) (by decide) ⟨by simp only [ty25, big] <;> (first | assumption | omega | (exact yi (by omega) (by omega)) | (exact zO (by omega)) | (exact zz (by omega)) | (exact zP (by omega)) | (exact zA (by omega)) | (simp only [zk] at * <;> omega) | (simp only [zr, GS.some_l, List.length_set, List.length_append, List.length_cons, List.length_nil] at * <;> first | with_reducible assumption | omega) | (simp only [zr, GS.some_l, List.length_set, List.length_append, List.length_cons, List.length_nil, zk] at * <;> first | with_reducible assumption | omega) | (simp at * <;> omega)), by simp only [big] <;> (first | assumption | omega | (exact yi (by omega) (by omega)) | (exact zO (by omega)) | (exact zz (by omega)) | (exact zP (by omega)) | (exact zA (by omega)) | (simp only [zk] at * <;> omega) | (simp only [zr, GS.some_l, List.length_set, List.length_append, List.length_cons, List.length_nil] at * <;> first | with_reducible assumption | omega) | (simp only [zr, GS.some_l, List.length_set, List.length_append, List.length_cons, List.length_nil, zk] at * <;> first | with_reducible assumption | omega) | (simp at * <;> omega))⟩) (And.intro (show ((zb x3 x6p1).2) = false from rfl) (And.intro (T_ranges_Sum_1 x3 x6p1) (And.intro (el_at (s := b) (f := S_Span.D) (k := 2) hd6p1) (And.intro (lt_at hd6p1) trivial)))))) (by kernel_rfl) (by (simp only [sd57, go_sem, List.length_set, Nat.reduceAdd, Nat.reduceEqDiff, Nat.reduceLT, Nat.reduceLeDiff, bI2, za.idsL, za.renL, za.snapAll, z6.idsL, z6.renL, z6.snapAll]) <;> rfl) (ih (i6p1 + 1) (va6p1_0 ++ (((zb x3 x6p1).1).l)) (zn hd6p1) (zl hd6p1) (by omega) (by omega) (by simp only [List.length_append, List.length_cons, List.length_nil] at * <;> omega) (by omega)) (by kernel_rfl)
theorem ivt_ranges_pairs_6p1a (a : GS S_Span) (b : GS S_Span) (i3 : Nat) (x3 : S_Span) : ∀ (rest6p1 : List S_Span) (i6p1 : Nat) (va6p1_0 : List S_Span) (hd6p1 : b.l.drop i6p1 = rest6p1) (hi6p1 : i6p1 ≤ b.l.length) (hb65 : b.l.length ≤ 65) (ho64 : i3 < 64) (hg6p1_va6p1_0 : va6p1_0.length ≤ 65 * i3 + i6p1) (hL6p1 : b.l.length ≤ 1099511627776), iv_ranges_pairs_6p1 a b i3 x3 (yf x3 rest6p1 va6p1_0) := by
  intro rest6p1
  induction rest6p1 with
  | nil =>
    intro i6p1 va6p1_0 hd6p1 hi6p1 hb65 ho64 hg6p1_va6p1_0 hL6p1
    unfold yf
    obtain rfl : i6p1 = b.l.length := nil_eq hd6p1 hi6p1
    exact hg6p1_va6p1_0
  | cons x6p1 rest6p1 ih =>
    intro i6p1 va6p1_0 hd6p1 hi6p1 hb65 ho64 hg6p1_va6p1_0 hL6p1
    have hlt6p1 := zl hd6p1
    have hlx := sum1_len x3 x6p1
    unfold yf
    cases h15 : (((zb x3 x6p1).1).l).isEmpty with
    | true =>
      exact ih (i6p1 + 1) va6p1_0 (zn hd6p1) (zl hd6p1) (by omega) (by omega) (by omega) (by omega)
    | false =>
      exact ih (i6p1 + 1) (va6p1_0 ++ (((zb x3 x6p1).1).l)) (zn hd6p1) (zl hd6p1) (by omega) (by omega) (by simp only [List.length_append, List.length_cons, List.length_nil] at * <;> omega) (by omega)
theorem lp_ranges_pairs_6p1 (a : GS S_Span) (b : GS S_Span) (i3 : Nat) (x3 : S_Span) : ∀ (rest6p1 : List S_Span) (i6p1 : Nat) (hd6p1 : b.l.drop i6p1 = rest6p1) (hi6p1 : i6p1 ≤ b.l.length) (hb65 : b.l.length ≤ 65) (ho64 : i3 < 64) (hL6p1 : b.l.length ≤ 1099511627776), (lim cfg).loop 87 lp87_6 ⟨40, [(1, .sl b.nl (b.l.map S_Span.D) (zsl b.nl 2) none), (2, .fn (.func 88) [] []), (7, .sl true [] 0 none), (9, .lref 1 0 2 0), (14, .sl a.nl (a.l.map S_Span.D) (zsl a.nl 2) none), (15, I ((a.l.length : Nat) : Int)), (16, I ((i3 : Nat) : Int)), (20, .sl b.nl (b.l.map S_Span.D) (zsl b.nl 2) none), (21, I ((b.l.length : Nat) : Int)), (22, I ((i6p1 : Nat) : Int))], [(1, ⟨[.agg [I x3.lo, I x3.hi]], 2, false⟩)], 2, 1⟩ = some (lr_ranges_pairs_6p1 a b i3 x3 (ranges_pairs_6p1 x3 rest6p1)) := by
  intro rest6p1
  induction rest6p1 with
  | nil =>
    intro i6p1 hd6p1 hi6p1 hb65 ho64 hL6p1
    unfold ranges_pairs_6p1
    obtain rfl : i6p1 = b.l.length := nil_eq hd6p1 hi6p1
    exact zS [.dec false] (And.intro (lt_no hd6p1) trivial) (by kernel_rfl)
  | cons x6p1 rest6p1 ih =>
    intro i6p1 hd6p1 hi6p1 hb65 ho64 hL6p1
    have hlt6p1 := zl hd6p1
    have hlx := sum1_len x3 x6p1
    unfold ranges_pairs_6p1
    cases h16 : (((zb x3 x6p1).1).l).isEmpty with
    | true =>
      exact po_turn [.dec true, .el (.agg [I x6p1.lo, I x6p1.hi]), .pure (.tup [.sl (((zb x3 x6p1).1).nl) ((((zb x3 x6p1).1).l).map S_Span.D) (zsl (((zb x3 x6p1).1).nl) 2) none, B ((zb x3 x6p1).2)]), .dec false, .op (some 35) ⟨.sl true [] 0 none, [], [], 3⟩, .rw 37 (I ((i6p1 + 1 : Nat) : Int))] (And.intro (inc_rw (i := i6p1) (by have := zl hd6p1; omega)) (And.intro (app_none (te := ty25) (gO := zv [(1, ⟨[.agg [I x3.lo, I x3.hi]], 2, false⟩), (2, ⟨[.agg [I x6p1.lo, I x6p1.hi]], 2, false⟩)]) (nxt := 3) (f := S_Span.D) (sz := 2) (d := .sl true [] 0 none) ((zb x3 x6p1).1) h16 rfl) (And.intro (show ((zb x3 x6p1).2) = false from rfl) (And.intro (T_ranges_Sum_1 x3 x6p1) (And.intro (el_at (s := b) (f := S_Span.D) (k := 2) hd6p1) (And.intro (lt_at hd6p1) trivial)))))) (ih (i6p1 + 1) (zn hd6p1) (zl hd6p1) (by omega) (by omega) (by omega)) (by kernel_rfl)
    | false =>
      exact y7 (ks := [1, 2, 7, 9, 14, 15, 16, 20, 21, 22]) (st' := (sd58 a b i3 x3 i6p1 x6p1)) [.dec true, .el (.agg [I x6p1.lo, I x6p1.hi]), .pure (.tup [.sl (((zb x3 x6p1).1).nl) ((((zb x3 x6p1).1).l).map S_Span.D) (zsl (((zb x3 x6p1).1).nl) 2) none, B ((zb x3 x6p1).2)]), .dec false, .op (some 35) ⟨.lsl 3 0 ((((zb x3 x6p1).1).l).length) 2 none, [(3, some ⟨(((zb x3 x6p1).1).l).map S_Span.D, 2, false⟩)], [], 4⟩, .rw 37 (I ((i6p1 + 1 : Nat) : Int))] (And.intro (inc_rw (i := i6p1) (by have := zl hd6p1; omega)) (And.intro (app_newD (te := ty25) (gO := zv [(1, ⟨[.agg [I x3.lo, I x3.hi]], 2, false⟩), (2, ⟨[.agg [I x6p1.lo, I x6p1.hi]], 2, false⟩)]) (nxt := 3) (els0 := []) (sz0 := 0) (cap0 := none) z6 ((zb x3 x6p1).1) h16 rfl (by kernel_rfl) (by decide) ⟨by simp only [ty25, big] <;> (first | assumption | omega | (exact yi (by omega) (by omega)) | (exact zO (by omega)) | (exact zz (by omega)) | (exact zP (by omega)) | (exact zA (by omega)) | (simp only [zk] at * <;> omega) | (simp only [zr, GS.some_l, List.length_set, List.length_append, List.length_cons, List.length_nil] at * <;> first | with_reducible assumption | omega) | (simp only [zr, GS.some_l, List.length_set, List.length_append, List.length_cons, List.length_nil, zk] at * <;> first | with_reducible assumption | omega) | (simp at * <;> omega)), by simp only [big] <;> (first | assumption | omega | (exact yi (by omega) (by omega)) | (exact zO (by omega)) | (exact zz (by omega)) | (exact zP (by omega)) | (exact zA (by omega)) | (simp only [zk] at * <;> omega) | (simp only [zr, GS.some_l, List.length_set, List.length_append, List.length_cons, List.length_nil] at * <;> first | with_reducible assumption | omega) | (simp only [zr, GS.some_l, List.length_set, List.length_append, List.length_cons, List.length_nil, zk] at * <;> first | with_reducible assumption | omega) | (simp at * <;> omega))⟩) (And.intro (show ((zb x3 x6p1).2) = false from rfl) (And.intro (T_ranges_Sum_1 x3 x6p1) (And.intro (el_at (s := b) (f := S_Span.D) (k := 2) hd6p1) (And.intro (lt_at hd6p1) trivial)))))) (by kernel_rfl) (by (simp only [sd58, go_sem, List.length_set, Nat.reduceAdd, Nat.reduceEqDiff, Nat.reduceLT, Nat.reduceLeDiff, bI2, za.idsL, za.renL, za.snapAll, z6.idsL, z6.renL, z6.snapAll]) <;> rfl) (lp_ranges_pairs_6p1a a b i3 x3 _ (i6p1 + 1) (((zb x3 x6p1).1).l) (zn hd6p1) (zl hd6p1) (by omega) (by omega) (by omega) (by omega)) (by kernel_rfl)
theorem ivt_ranges_pairs_6p1 (a : GS S_Span) (b : GS S_Span) (i3 : Nat) (x3 : S_Span) : ∀ (rest6p1 : List S_Span) (i6p1 : Nat) (hd6p1 : b.l.drop i6p1 = rest6p1) (hi6p1 : i6p1 ≤ b.l.length) (hb65 : b.l.length ≤ 65) (ho64 : i3 < 64) (hL6p1 : b.l.length ≤ 1099511627776), iv_ranges_pairs_6p1 a b i3 x3 (ranges_pairs_6p1 x3 rest6p1) := by
  intro rest6p1
  induction rest6p1 with
  | nil =>
    intro i6p1 hd6p1 hi6p1 hb65 ho64 hL6p1
    unfold ranges_pairs_6p1
    obtain rfl : i6p1 = b.l.length := nil_eq hd6p1 hi6p1
    exact trivial
  | cons x6p1 rest6p1 ih =>
    intro i6p1 hd6p1 hi6p1 hb65 ho64 hL6p1
    have hlt6p1 := zl hd6p1
    have hlx := sum1_len x3 x6p1
    unfold ranges_pairs_6p1
    cases h16 : (((zb x3 x6p1).1).l).isEmpty with
    | true =>
      exact ih (i6p1 + 1) (zn hd6p1) (zl hd6p1) (by omega) (by omega) (by omega)
    | false =>
      exact ivt_ranges_pairs_6p1a a b i3 x3 _ (i6p1 + 1) (((zb x3 x6p1).1).l) (zn hd6p1) (zl hd6p1) (by omega) (by omega) (by omega) (by omega)

noncomputable def lp87_3 : Code := subC [1, 0, 1, 1, 0, 1, 0, 0] (bodyC Tryz.f87)

def sd60 (a : GS S_Span) (b : GS S_Span) (i3 : Nat) (x3 : S_Span) (v6_0 : List S_Span) : St := ⟨40, [(16, I ((i3 + 1 : Nat) : Int)), (38, I ((i3 + 1 : Nat) : Int)), (23, B false), (1, .sl b.nl (b.l.map S_Span.D) (zsl b.nl 2) none), (2, .fn (.func 88) [] []), (7, .lsl 1 0 v6_0.length 2 none), (9, .lref 2 0 2 0), (14, .sl a.nl (a.l.map S_Span.D) (zsl a.nl 2) none), (15, I ((a.l.length : Nat) : Int)), (16, I ((i3 : Nat) : Int)), (20, .sl b.nl (b.l.map S_Span.D) (zsl b.nl 2) none), (21, I ((b.l.length : Nat) : Int)), (22, I ((b.l.length : Nat) : Int))], [(1, ⟨v6_0.map S_Span.D, 2, false⟩), (2, ⟨[.agg [I x3.lo, I x3.hi]], 2, false⟩)], 3, 1⟩

def sd51 (a : GS S_Span) (b : GS S_Span) (i3 : Nat) (x3 : S_Span) (va3_0 : List S_Span) : St := ⟨40, [(1, .sl b.nl (b.l.map S_Span.D) (zsl b.nl 2) none), (2, .fn (.func 88) [] []), (7, .lsl 1 0 va3_0.length 2 none), (9, .lref 2 0 2 0), (14, .sl a.nl (a.l.map S_Span.D) (zsl a.nl 2) none), (15, I ((a.l.length : Nat) : Int)), (16, I ((i3 : Nat) : Int)), (20, .sl b.nl (b.l.map S_Span.D) (zsl b.nl 2) none), (21, I ((b.l.length : Nat) : Int)), (22, I 0)], [(1, ⟨va3_0.map S_Span.D, 2, false⟩), (2, ⟨[.agg [I x3.lo, I x3.hi]], 2, false⟩)], 3, 1⟩

def sd55 (a : GS S_Span) (b : GS S_Span) (i3 : Nat) (x3 : S_Span) (v6_0 : List S_Span) : St := ⟨40, [(23, B false), (1, .sl b.nl (b.l.map S_Span.D) (zsl b.nl 2) none), (2, .fn (.func 88) [] []), (7, .lsl 1 0 v6_0.length 2 none), (9, .lref 2 0 2 0), (14, .sl a.nl (a.l.map S_Span.D) (zsl a.nl 2) none), (15, I ((a.l.length : Nat) : Int)), (16, I ((i3 : Nat) : Int)), (20, .sl b.nl (b.l.map S_Span.D) (zsl b.nl 2) none), (21, I ((b.l.length : Nat) : Int)), (22, I ((b.l.length : Nat) : Int))], [(1, ⟨v6_0.map S_Span.D, 2, false⟩), (2, ⟨[.agg [I x3.lo, I x3.hi]], 2, false⟩)], 3, 1⟩

def sd50 (a : GS S_Span) (b : GS S_Span) (i3 : Nat) (x3 : S_Span) (va3_0 : List S_Span) : St := ⟨40, [(22, I 0), (21, I ((b.l.length : Nat) : Int)), (20, .sl b.nl (b.l.map S_Span.D) (zsl b.nl 2) none), (9, .lref 2 0 2 0), (19, .agg [I x3.lo, I x3.hi]), (18, .ptr (.agg [I x3.lo, I x3.hi])), (17, B true), (1, .sl b.nl (b.l.map S_Span.D) (zsl b.nl 2) none), (2, .fn (.func 88) [] []), (7, .lsl 1 0 va3_0.length 2 none), (14, .sl a.nl (a.l.map S_Span.D) (zsl a.nl 2) none), (15, I ((a.l.length : Nat) : Int)), (16, I ((i3 : Nat) : Int))], [(1, ⟨va3_0.map S_Span.D, 2, false⟩), (2, ⟨[.agg [I x3.lo, I x3.hi]], 2, false⟩)], 3, 1⟩

def sd61 (a : GS S_Span) (b : GS S_Span) (i3 : Nat) (x3 : S_Span) (va6p1_0 : List S_Span) : St := ⟨40, [(16, I ((i3 + 1 : Nat) : Int)), (38, I ((i3 + 1 : Nat) : Int)), (23, B false), (1, .sl b.nl (b.l.map S_Span.D) (zsl b.nl 2) none), (2, .fn (.func 88) [] []), (7, .lsl 1 0 va6p1_0.length 2 none), (9, .lref 2 0 2 0), (14, .sl a.nl (a.l.map S_Span.D) (zsl a.nl 2) none), (15, I ((a.l.length : Nat) : Int)), (16, I ((i3 : Nat) : Int)), (20, .sl b.nl (b.l.map S_Span.D) (zsl b.nl 2) none), (21, I ((b.l.length : Nat) : Int)), (22, I ((b.l.length : Nat) : Int))], [(1, ⟨va6p1_0.map S_Span.D, 2, false⟩), (2, ⟨[.agg [I x3.lo, I x3.hi]], 2, false⟩)], 3, 1⟩

def sd59 (a : GS S_Span) (b : GS S_Span) (i3 : Nat) (x3 : S_Span) (va6p1_0 : List S_Span) : St := ⟨40, [(23, B false), (1, .sl b.nl (b.l.map S_Span.D) (zsl b.nl 2) none), (2, .fn (.func 88) [] []), (7, .lsl 1 0 va6p1_0.length 2 none), (9, .lref 2 0 2 0), (14, .sl a.nl (a.l.map S_Span.D) (zsl a.nl 2) none), (15, I ((a.l.length : Nat) : Int)), (16, I ((i3 : Nat) : Int)), (20, .sl b.nl (b.l.map S_Span.D) (zsl b.nl 2) none), (21, I ((b.l.length : Nat) : Int)), (22, I ((b.l.length : Nat) : Int))], [(1, ⟨va6p1_0.map S_Span.D, 2, false⟩), (2, ⟨[.agg [I x3.lo, I x3.hi]], 2, false⟩)], 3, 1⟩

def sd47 (a : GS S_Span) (b : GS S_Span) (i3 : Nat) (x3 : S_Span) : St := ⟨40, [(23, B false), (1, .sl b.nl (b.l.map S_Span.D) (zsl b.nl 2) none), (2, .fn (.func 88) [] []), (7, .sl true [] 0 none), (9, .lref 1 0 2 0), (14, .sl a.nl (a.l.map S_Span.D) (zsl a.nl 2) none), (15, I ((a.l.length : Nat) : Int)), (16, I ((i3 : Nat) : Int)), (20, .sl b.nl (b.l.map S_Span.D) (zsl b.nl 2) none), (21, I ((b.l.length : Nat) : Int)), (22, I ((b.l.length : Nat) : Int))], [(1, ⟨[.agg [I x3.lo, I x3.hi]], 2, false⟩)], 2, 1⟩

inductive LR_ranges_pairs_3 where
  | x0 (va3_0 : List S_Span)
  | x1
instance : Inhabited LR_ranges_pairs_3 := ⟨.x0 default⟩
def ranges_pairs_3a (b : GS S_Span) : List S_Span → (List S_Span) → LR_ranges_pairs_3
  | [], va3_0 => .x0 va3_0
  | x3 :: rest3, va3_0 =>
    match ranges_pairs_6 x3 b.l va3_0 with
    | .x0 v6_0 =>
      ranges_pairs_3a b rest3 v6_0
def ranges_pairs_3 (b : GS S_Span) : List S_Span → LR_ranges_pairs_3
  | [] => .x1
  | x3 :: rest3 =>
    match ranges_pairs_6p1 x3 b.l with
    | .x0 va6p1_0 =>
      ranges_pairs_3a b rest3 va6p1_0
    | .x1 =>
      ranges_pairs_3 b rest3
def lr_ranges_pairs_3 (a : GS S_Span) (b : GS S_Span) : LR_ranges_pairs_3 → Exit × St
  | .x0 va3_0 => ((.exit 0), ⟨40, [(17, B false), (1, .sl b.nl (b.l.map S_Span.D) (zsl b.nl 2) none), (2, .fn (.func 88) [] []), (7, .lsl 1 0 va3_0.length 2 none), (14, .sl a.nl (a.l.map S_Span.D) (zsl a.nl 2) none), (15, I ((a.l.length : Nat) : Int)), (16, I ((a.l.length : Nat) : Int))], [(1, ⟨va3_0.map S_Span.D, 2, false⟩)], 2, 1⟩)
  | .x1 => ((.exit 0), ⟨40, [(17, B false), (1, .sl b.nl (b.l.map S_Span.D) (zsl b.nl 2) none), (2, .fn (.func 88) [] []), (7, .sl true [] 0 none), (14, .sl a.nl (a.l.map S_Span.D) (zsl a.nl 2) none), (15, I ((a.l.length : Nat) : Int)), (16, I ((a.l.length : Nat) : Int))], [], 1, 1⟩)
def iv_ranges_pairs_3 (a : GS S_Span) (b : GS S_Span) : LR_ranges_pairs_3 → Prop
  | .x0 va3_0 => (va3_0.length ≤ 65 * a.l.length)
  | .x1 => True
theorem lp_ranges_pairs_3a (a : GS S_Span) (b : GS S_Span) : ∀ (rest3 : List S_Span) (i3 : Nat) (va3_0 : List S_Span) (hd3 : a.l.drop i3 = rest3) (hi3 : i3 ≤ a.l.length) (ha64 : a.l.length ≤ 64) (hb65 : b.l.length ≤ 65) (hg3_va3_0 : va3_0.length ≤ 65 * i3) (hL3 : a.l.length ≤ 1099511627776), (lim cfg).loop 87 lp87_3 ⟨40, [(1, .sl b.nl (b.l.map S_Span.D) (zsl b.nl 2) none), (2, .fn (.func 88) [] []), (7, .lsl 1 0 va3_0.length 2 none), (14, .sl a.nl (a.l.map S_Span.D) (zsl a.nl 2) none), (15, I ((a.l.length : Nat) : Int)), (16, I ((i3 : Nat) : Int))], [(1, ⟨va3_0.map S_Span.D, 2, false⟩)], 2, 1⟩ = some (lr_ranges_pairs_3 a b (ranges_pairs_3a b rest3 va3_0)) := by
  intro rest3
  induction rest3 with
  | nil =>
    intro i3 va3_0 hd3 hi3 ha64 hb65 hg3_va3_0 hL3
    unfold ranges_pairs_3a
    obtain rfl : i3 = a.l.length := nil_eq hd3 hi3
    exact zS [.dec false] (And.intro (lt_no hd3) trivial) (by kernel_rfl)
  | cons x3 rest3 ih =>
    intro i3 va3_0 hd3 hi3 ha64 hb65 hg3_va3_0 hL3
    have hlt3 := zl hd3
    unfold ranges_pairs_3a
    cases h12 : ranges_pairs_6 x3 b.l va3_0 with
    | x0 v6_0 =>
      try dsimp only
      have hv_h12 := ivt_ranges_pairs_6 a b i3 x3 b.l 0 va3_0 (List.drop_zero) (Nat.zero_le _) (by omega) (by omega) (by omega) (by omega)
      rw [h12] at hv_h12
      have hv_h12_0 := hv_h12
      try dsimp only [iv_ranges_pairs_6] at hv_h12_0
      exact y7 (ks := [1, 2, 7, 14, 15, 16]) (st' := (sd60 a b i3 x3 v6_0)) [.dec true, .el (.agg [I x3.lo, I x3.hi]), .rw 21 (I ((b.l.length : Nat) : Int)), .gloop (sd51 a b i3 x3 va3_0) (.exit 2) (sd55 a b i3 x3 v6_0), .rw 38 (I ((i3 + 1 : Nat) : Int))] (And.intro (inc_rw (i := i3) (by have := zl hd3; omega)) (And.intro (zX (q := lr_ranges_pairs_6 a b i3 x3) (lp_ranges_pairs_6 a b i3 x3 b.l 0 va3_0 (List.drop_zero) (Nat.zero_le _) (by omega) (by omega) (by omega) (by omega)) h12) (And.intro (gc_of (C := cfg) (f := 87) (a := lp87_6) (ks := [1, 2, 7, 9, 14, 15, 16, 20, 21, 22]) (st := (sd50 a b i3 x3 va3_0)) (st1 := (sd51 a b i3 x3 va3_0)) (by kernel_rfl) (by (simp only [sd50, sd51, go_sem, List.length_set, Nat.reduceAdd, Nat.reduceEqDiff, Nat.reduceLT, Nat.reduceLeDiff, bI2, za.idsL, za.renL, za.snapAll, z6.idsL, z6.renL, z6.snapAll]) <;> rfl)) (And.intro (zG S_Span.D b) (And.intro (el_at (s := a) (f := S_Span.D) (k := 2) hd3) (And.intro (lt_at hd3) trivial)))))) (by kernel_rfl) (by (simp only [sd60, go_sem, List.length_set, Nat.reduceAdd, Nat.reduceEqDiff, Nat.reduceLT, Nat.reduceLeDiff, bI2, za.idsL, za.renL, za.snapAll, z6.idsL, z6.renL, z6.snapAll]) <;> rfl) (ih (i3 + 1) v6_0 (zn hd3) (zl hd3) (by omega) (by omega) (by omega) (by omega)) (by kernel_rfl)
theorem ivt_ranges_pairs_3a (a : GS S_Span) (b : GS S_Span) : ∀ (rest3 : List S_Span) (i3 : Nat) (va3_0 : List S_Span) (hd3 : a.l.drop i3 = rest3) (hi3 : i3 ≤ a.l.length) (ha64 : a.l.length ≤ 64) (hb65 : b.l.length ≤ 65) (hg3_va3_0 : va3_0.length ≤ 65 * i3) (hL3 : a.l.length ≤ 1099511627776), iv_ranges_pairs_3 a b (ranges_pairs_3a b rest3 va3_0) := by
  intro rest3
  induction rest3 with
  | nil =>
    intro i3 va3_0 hd3 hi3 ha64 hb65 hg3_va3_0 hL3
    unfold ranges_pairs_3a
    obtain rfl : i3 = a.l.length := nil_eq hd3 hi3
    exact hg3_va3_0
  | cons x3 rest3 ih =>
    intro i3 va3_0 hd3 hi3 ha64 hb65 hg3_va3_0 hL3
    have hlt3 := zl hd3
    unfold ranges_pairs_3a
    cases h12 : ranges_pairs_6 x3 b.l va3_0 with
    | x0 v6_0 =>
      try dsimp only
      have hv_h12 := ivt_ranges_pairs_6 a b i3 x3 b.l 0 va3_0 (List.drop_zero) (Nat.zero_le _) (by omega) (by omega) (by omega) (by omega)
      rw [h12] at hv_h12
      have hv_h12_0 := hv_h12
      try dsimp only [iv_ranges_pairs_6] at hv_h12_0
      exact ih (i3 + 1) v6_0 (zn hd3) (zl hd3) (by omega) (by omega) (by omega) (by omega)
theorem lp_ranges_pairs_3 (a : GS S_Span) (b : GS S_Span) : ∀ (rest3 : List S_Span) (i3 : Nat) (hd3 : a.l.drop i3 = rest3) (hi3 : i3 ≤ a.l.length) (ha64 : a.l.length ≤ 64) (hb65 : b.l.length ≤ 65) (hL3 : a.l.length ≤ 1099511627776), (lim cfg).loop 87 lp87_3 ⟨40, [(1, .sl b.nl (b.l.map S_Span.D) (zsl b.nl 2) none), (2, .fn (.func 88) [] []), (7, .sl true [] 0 none), (14, .sl a.nl (a.l.map S_Span.D) (zsl a.nl 2) none), (15, I ((a.l.length : Nat) : Int)), (16, I ((i3 : Nat) : Int))], [], 1, 1⟩ = some (lr_ranges_pairs_3 a b (ranges_pairs_3 b rest3)) := by
  intro rest3
  induction rest3 with
  | nil =>
    intro i3 hd3 hi3 ha64 hb65 hL3
    unfold ranges_pairs_3
    obtain rfl : i3 = a.l.length := nil_eq hd3 hi3
    exact zS [.dec false] (And.intro (lt_no hd3) trivial) (by kernel_rfl)
  | cons x3 rest3 ih =>
    intro i3 hd3 hi3 ha64 hb65 hL3
    have hlt3 := zl hd3
    unfold ranges_pairs_3
    cases h17 : ranges_pairs_6p1 x3 b.l with
    | x0 va6p1_0 =>
      try dsimp only
      have hv_h17 := ivt_ranges_pairs_6p1 a b i3 x3 b.l 0 (List.drop_zero) (Nat.zero_le _) (by omega) (by omega) (by omega)
      rw [h17] at hv_h17
      have hv_h17_0 := hv_h17
      try dsimp only [iv_ranges_pairs_6p1] at hv_h17_0
      exact y7 (ks := [1, 2, 7, 14, 15, 16]) (st' := (sd61 a b i3 x3 va6p1_0)) [.dec true, .el (.agg [I x3.lo, I x3.hi]), .rw 21 (I ((b.l.length : Nat) : Int)), .loop (.exit 2) (sd59 a b i3 x3 va6p1_0), .rw 38 (I ((i3 + 1 : Nat) : Int))] (And.intro (inc_rw (i := i3) (by have := zl hd3; omega)) (And.intro (zX (q := lr_ranges_pairs_6p1 a b i3 x3) (lp_ranges_pairs_6p1 a b i3 x3 b.l 0 (List.drop_zero) (Nat.zero_le _) (by omega) (by omega) (by omega)) h17) (And.intro (zG S_Span.D b) (And.intro (el_at (s := a) (f := S_Span.D) (k := 2) hd3) (And.intro (lt_at hd3) trivial))))) (by kernel_rfl) (by (simp only [sd61, go_sem, List.length_set, Nat.reduceAdd, Nat.reduceEqDiff, Nat.reduceLT, Nat.reduceLeDiff, bI2, za.idsL, za.renL, za.snapAll, z6.idsL, z6.renL, z6.snapAll]) <;> rfl) (lp_ranges_pairs_3a a b _ (i3 + 1) va6p1_0 (zn hd3) (zl hd3) (by omega) (by omega) (by omega) (by omega)) (by kernel_rfl)
    | x1 =>
      try dsimp only
      exact po_turn [.dec true, .el (.agg [I x3.lo, I x3.hi]), .rw 21 (I ((b.l.length : Nat) : Int)), .loop (.exit 2) (sd47 a b i3 x3), .rw 38 (I ((i3 + 1 : Nat) : Int))] (And.intro (inc_rw (i := i3) (by have := zl hd3; omega)) (And.intro (zX (q := lr_ranges_pairs_6p1 a b i3 x3) (lp_ranges_pairs_6p1 a b i3 x3 b.l 0 (List.drop_zero) (Nat.zero_le _) (by omega) (by omega) (by omega)) h17) (And.intro (zG S_Span.D b) (And.intro (el_at (s := a) (f := S_Span.D) (k := 2) hd3) (And.intro (lt_at hd3) trivial))))) (ih (i3 + 1) (zn hd3) (zl hd3) (by omega) (by omega) (by omega)) (by kernel_rfl)
theorem ivt_ranges_pairs_3 (a : GS S_Span) (b : GS S_Span) : ∀ (rest3 : List S_Span) (i3 : Nat) (hd3 : a.l.drop i3 = rest3) (hi3 : i3 ≤ a.l.length) (ha64 : a.l.length ≤ 64) (hb65 : b.l.length ≤ 65) (hL3 : a.l.length ≤ 1099511627776), iv_ranges_pairs_3 a b (ranges_pairs_3 b rest3) := by
  intro rest3
  induction rest3 with
  | nil =>
    intro i3 hd3 hi3 ha64 hb65 hL3
    unfold ranges_pairs_3
    obtain rfl : i3 = a.l.length := nil_eq hd3 hi3
    exact trivial
  | cons x3 rest3 ih =>
    intro i3 hd3 hi3 ha64 hb65 hL3
    have hlt3 := zl hd3
    unfold ranges_pairs_3
    cases h17 : ranges_pairs_6p1 x3 b.l with
    | x0 va6p1_0 =>
      try dsimp only
      have hv_h17 := ivt_ranges_pairs_6p1 a b i3 x3 b.l 0 (List.drop_zero) (Nat.zero_le _) (by omega) (by omega) (by omega)
      rw [h17] at hv_h17
      have hv_h17_0 := hv_h17
      try dsimp only [iv_ranges_pairs_6p1] at hv_h17_0
      exact ivt_ranges_pairs_3a a b _ (i3 + 1) va6p1_0 (zn hd3) (zl hd3) (by omega) (by omega) (by omega) (by omega)
    | x1 =>
      try dsimp only
      exact ih (i3 + 1) (zn hd3) (zl hd3) (by omega) (by omega) (by omega)

def sd63 (va3_0 : List S_Span) (i4p1 : Nat) (q4p1_0 : List S_Span) (x4p1 : S_Span) (va4p1_0 : List S_Span) : St := ⟨65, [(12, I ((i4p1 + 1 : Nat) : Int)), (60, I ((i4p1 + 1 : Nat) : Int)), (55, .lref 2 ((w64 (((va4p1_0.length : Nat) : Int) - 1)).toNat) 2 1), (54, .lref 2 ((w64 (((va4p1_0.length : Nat) : Int) - 1)).toNat) 2 0), (53, I (imax ((va4p1_0.getD ((w64 (((va4p1_0.length : Nat) : Int) - 1)).toNat) default).hi) x4p1.hi)), (52, I x4p1.hi), (51, .lref 3 0 2 1), (50, I ((va4p1_0.getD ((w64 (((va4p1_0.length : Nat) : Int) - 1)).toNat) default).hi)), (49, .lref 2 ((w64 (((va4p1_0.length : Nat) : Int) - 1)).toNat) 2 1), (48, .lref 2 ((w64 (((va4p1_0.length : Nat) : Int) - 1)).toNat) 2 0), (47, I (w64 (((va4p1_0.length : Nat) : Int) - 1))), (46, I ((va4p1_0.length : Nat) : Int)), (45, .lsl 2 0 va4p1_0.length 2 none), (44, I (w64 (((va4p1_0.length : Nat) : Int) - 1))), (43, I ((va4p1_0.length : Nat) : Int)), (42, .lsl 2 0 va4p1_0.length 2 none), (41, B true), (40, B true), (39, I (w64 (((va4p1_0.getD ((w64 (((va4p1_0.length : Nat) : Int) - 1)).toNat) default).hi) + 1))), (38, I ((va4p1_0.getD ((w64 (((va4p1_0.length : Nat) : Int) - 1)).toNat) default).hi)), (37, .lref 2 ((w64 (((va4p1_0.length : Nat) : Int) - 1)).toNat) 2 1), (36, .lref 2 ((w64 (((va4p1_0.length : Nat) : Int) - 1)).toNat) 2 0), (35, I (w64 (((va4p1_0.length : Nat) : Int) - 1))), (34, I ((va4p1_0.length : Nat) : Int)), (33, .lsl 2 0 va4p1_0.length 2 none), (32, I x4p1.lo), (31, .lref 3 0 2 0), (30, B true), (29, B true), (28, I ((va4p1_0.length : Nat) : Int)), (7, I ((va4p1_0.length : Nat) : Int)), (27, I ((va4p1_0.length : Nat) : Int)), (26, .lsl 2 0 va4p1_0.length 2 none), (25, B false), (24, B false), (23, B true), (22, I x4p1.hi), (21, .lref 3 0 2 1), (20, B false), (19, B false), (18, B true), (17, I x4p1.lo), (16, .lref 3 0 2 0), (6, .lref 3 0 2 0), (15, .agg [I x4p1.lo, I x4p1.hi]), (14, .lref 1 i4p1 2 0), (13, B true), (4, .lsl 2 0 va4p1_0.length 2 none), (10, .lsl 1 0 va3_0.length 2 none), (11, I ((va3_0.length : Nat) : Int)), (12, I ((i4p1 : Nat) : Int))], [(1, ⟨q4p1_0.map S_Span.D, 2, false⟩), (2, ⟨(va4p1_0.set ((w64 (((va4p1_0.length : Nat) : Int) - 1)).toNat) (⟨(va4p1_0.getD ((w64 (((va4p1_0.length : Nat) : Int) - 1)).toNat) default).lo, imax ((va4p1_0.getD ((w64 (((va4p1_0.length : Nat) : Int) - 1)).toNat) default).hi) x4p1.hi⟩ : S_Span)).map S_Span.D, 2, false⟩), (3, ⟨[.agg [I x4p1.lo, I x4p1.hi]], 2, false⟩)], 4, 2⟩

def sd64 (va3_0 : List S_Span) (i4p1 : Nat) (q4p1_0 : List S_Span) (x4p1 : S_Span) (va4p1_0 : List S_Span) : St := ⟨65, [(12, I ((i4p1 + 1 : Nat) : Int)), (60, I ((i4p1 + 1 : Nat) : Int)), (4, .lsl 5 0 ((va4p1_0 ++ [x4p1]).length) 2 none), (59, .lsl 5 0 ((va4p1_0 ++ [x4p1]).length) 2 none), (58, .lsl 4 0 1 2 (some 1)), (57, .agg [I x4p1.lo, I x4p1.hi]), (56, .lsl 2 0 va4p1_0.length 2 none), (41, B false), (40, B false), (39, I (w64 (((va4p1_0.getD ((w64 (((va4p1_0.length : Nat) : Int) - 1)).toNat) default).hi) + 1))), (38, I ((va4p1_0.getD ((w64 (((va4p1_0.length : Nat) : Int) - 1)).toNat) default).hi)), (37, .lref 2 ((w64 (((va4p1_0.length : Nat) : Int) - 1)).toNat) 2 1), (36, .lref 2 ((w64 (((va4p1_0.length : Nat) : Int) - 1)).toNat) 2 0), (35, I (w64 (((va4p1_0.length : Nat) : Int) - 1))), (34, I ((va4p1_0.length : Nat) : Int)), (33, .lsl 2 0 va4p1_0.length 2 none), (32, I x4p1.lo), (31, .lref 3 0 2 0), (30, B true), (29, B true), (28, I ((va4p1_0.length : Nat) : Int)), (7, I ((va4p1_0.length : Nat) : Int)), (27, I ((va4p1_0.length : Nat) : Int)), (26, .lsl 2 0 va4p1_0.length 2 none), (25, B false), (24, B false), (23, B true), (22, I x4p1.hi), (21, .lref 3 0 2 1), (20, B false), (19, B false), (18, B true), (17, I x4p1.lo), (16, .lref 3 0 2 0), (6, .lref 3 0 2 0), (15, .agg [I x4p1.lo, I x4p1.hi]), (14, .lref 1 i4p1 2 0), (13, B true), (4, .lsl 2 0 va4p1_0.length 2 none), (10, .lsl 1 0 va3_0.length 2 none), (11, I ((va3_0.length : Nat) : Int)), (12, I ((i4p1 : Nat) : Int))], [(1, ⟨q4p1_0.map S_Span.D, 2, false⟩), (3, ⟨[.agg [I x4p1.lo, I x4p1.hi]], 2, false⟩), (4, ⟨[.agg [I x4p1.lo, I x4p1.hi]], 2, false⟩), (5, ⟨(va4p1_0 ++ [x4p1]).map S_Span.D, 2, false⟩)], 6, 2⟩

def sd65 (va3_0 : List S_Span) (i4p1 : Nat) (q4p1_0 : List S_Span) (x4p1 : S_Span) (va4p1_0 : List S_Span) : St := ⟨65, [(12, I ((i4p1 + 1 : Nat) : Int)), (60, I ((i4p1 + 1 : Nat) : Int)), (4, .lsl 5 0 ((va4p1_0 ++ [x4p1]).length) 2 none), (59, .lsl 5 0 ((va4p1_0 ++ [x4p1]).length) 2 none), (58, .lsl 4 0 1 2 (some 1)), (57, .agg [I x4p1.lo, I x4p1.hi]), (56, .lsl 2 0 va4p1_0.length 2 none), (41, B false), (40, .tup []), (39, .tup []), (38, .tup []), (37, .tup []), (36, .tup []), (35, .tup []), (34, .tup []), (33, .tup []), (32, .tup []), (31, .tup []), (30, B false), (29, B false), (28, I ((va4p1_0.length : Nat) : Int)), (7, I ((va4p1_0.length : Nat) : Int)), (27, I ((va4p1_0.length : Nat) : Int)), (26, .lsl 2 0 va4p1_0.length 2 none), (25, B false), (24, B false), (23, B true), (22, I x4p1.hi), (21, .lref 3 0 2 1), (20, B false), (19, B false), (18, B true), (17, I x4p1.lo), (16, .lref 3 0 2 0), (6, .lref 3 0 2 0), (15, .agg [I x4p1.lo, I x4p1.hi]), (14, .lref 1 i4p1 2 0), (13, B true), (4, .lsl 2 0 va4p1_0.length 2 none), (10, .lsl 1 0 va3_0.length 2 none), (11, I ((va3_0.length : Nat) : Int)), (12, I ((i4p1 : Nat) : Int))], [(1, ⟨q4p1_0.map S_Span.D, 2, false⟩), (3, ⟨[.agg [I x4p1.lo, I x4p1.hi]], 2, false⟩), (4, ⟨[.agg [I x4p1.lo, I x4p1.hi]], 2, false⟩), (5, ⟨(va4p1_0 ++ [x4p1]).map S_Span.D, 2, false⟩)], 6, 2⟩

def sd66 (va3_0 : List S_Span) (i4p1 : Nat) (q4p1_0 : List S_Span) (x4p1 : S_Span) : St := ⟨65, [(12, I ((i4p1 + 1 : Nat) : Int)), (60, I ((i4p1 + 1 : Nat) : Int)), (4, .lsl 4 0 1 2 none), (59, .lsl 4 0 1 2 none), (58, .lsl 3 0 1 2 (some 1)), (57, .agg [I x4p1.lo, I x4p1.hi]), (56, .sl true [] 0 none), (41, B false), (40, .tup []), (39, .tup []), (38, .tup []), (37, .tup []), (36, .tup []), (35, .tup []), (34, .tup []), (33, .tup []), (32, .tup []), (31, .tup []), (30, B false), (29, B false), (28, I 0), (7, I 0), (27, I 0), (26, .sl true [] 0 none), (25, B false), (24, B false), (23, B true), (22, I x4p1.hi), (21, .lref 2 0 2 1), (20, B false), (19, B false), (18, B true), (17, I x4p1.lo), (16, .lref 2 0 2 0), (6, .lref 2 0 2 0), (15, .agg [I x4p1.lo, I x4p1.hi]), (14, .lref 1 i4p1 2 0), (13, B true), (4, .sl true [] 0 none), (10, .lsl 1 0 va3_0.length 2 none), (11, I ((va3_0.length : Nat) : Int)), (12, I ((i4p1 : Nat) : Int))], [(1, ⟨q4p1_0.map S_Span.D, 2, false⟩), (2, ⟨[.agg [I x4p1.lo, I x4p1.hi]], 2, false⟩), (3, ⟨[.agg [I x4p1.lo, I x4p1.hi]], 2, false⟩), (4, ⟨[.agg [I x4p1.lo, I x4p1.hi]], 2, false⟩)], 5, 2⟩

inductive LR_ranges_gathered_4p1 where
  | x0 (va4p1_0 : List S_Span)
  | x1 (i4p1 : Nat) (x4p1 : S_Span) (va4p1_0 : List S_Span)
  | x2 (i4p1 : Nat) (x4p1 : S_Span) (va4p1_0 : List S_Span)
  | x3
  | x4 (i4p1 : Nat) (x4p1 : S_Span)
  | x5 (i4p1 : Nat) (x4p1 : S_Span)
instance : Inhabited LR_ranges_gathered_4p1 := ⟨.x0 default⟩
def zU : List S_Span → Nat → (List S_Span) → LR_ranges_gathered_4p1
  | [], i4p1, va4p1_0 => .x0 va4p1_0
  | x4p1 :: rest4p1, i4p1, va4p1_0 =>
    bif (zh x4p1.lo) then
      bif (zh x4p1.hi) then
        bif decide (((va4p1_0.length : Nat) : Int) > 0) then
          bif decide (x4p1.lo ≤ (w64 (((va4p1_0.getD ((w64 (((va4p1_0.length : Nat) : Int) - 1)).toNat) default).hi) + 1))) then
            zU rest4p1 (i4p1 + 1) (va4p1_0.set ((w64 (((va4p1_0.length : Nat) : Int) - 1)).toNat) (⟨(va4p1_0.getD ((w64 (((va4p1_0.length : Nat) : Int) - 1)).toNat) default).lo, imax ((va4p1_0.getD ((w64 (((va4p1_0.length : Nat) : Int) - 1)).toNat) default).hi) x4p1.hi⟩ : S_Span))
          else
            zU rest4p1 (i4p1 + 1) (va4p1_0 ++ [x4p1])
        else
          zU rest4p1 (i4p1 + 1) (va4p1_0 ++ [x4p1])
      else
        .x1 i4p1 x4p1 va4p1_0
    else
      .x2 i4p1 x4p1 va4p1_0
def zx : List S_Span → Nat → LR_ranges_gathered_4p1
  | [], i4p1 => .x3
  | x4p1 :: rest4p1, i4p1 =>
    bif (zh x4p1.lo) then
      bif (zh x4p1.hi) then
        zU rest4p1 (i4p1 + 1) [x4p1]
      else
        .x4 i4p1 x4p1
    else
      .x5 i4p1 x4p1
def zg (va3_0 : List S_Span) (q4p1_0 : List S_Span) : LR_ranges_gathered_4p1 → Exit × St
  | .x0 va4p1_0 => ((.exit 0), ⟨65, [(13, B false), (4, .lsl 2 0 va4p1_0.length 2 none), (10, .lsl 1 0 va3_0.length 2 none), (11, I ((va3_0.length : Nat) : Int)), (12, I ((q4p1_0.length : Nat) : Int))], [(1, ⟨q4p1_0.map S_Span.D, 2, false⟩), (2, ⟨va4p1_0.map S_Span.D, 2, false⟩)], 3, 2⟩)
  | .x1 i4p1 x4p1 va4p1_0 => (.ret, ⟨65, [(3, I 2), (2, .sl true [] 0 none), (25, B true), (24, B true), (23, B false), (22, I x4p1.hi), (21, .lref 3 0 2 1), (20, B false), (19, B false), (18, B true), (17, I x4p1.lo), (16, .lref 3 0 2 0), (6, .lref 3 0 2 0), (15, .agg [I x4p1.lo, I x4p1.hi]), (14, .lref 1 i4p1 2 0), (13, B true), (4, .lsl 2 0 va4p1_0.length 2 none), (10, .lsl 1 0 va3_0.length 2 none), (11, I ((va3_0.length : Nat) : Int)), (12, I ((i4p1 : Nat) : Int))], [(1, ⟨q4p1_0.map S_Span.D, 2, false⟩), (2, ⟨va4p1_0.map S_Span.D, 2, false⟩), (3, ⟨[.agg [I x4p1.lo, I x4p1.hi]], 2, false⟩)], 4, 2⟩)
  | .x2 i4p1 x4p1 va4p1_0 => (.ret, ⟨65, [(3, I 2), (2, .sl true [] 0 none), (25, B true), (24, .tup []), (23, .tup []), (22, .tup []), (21, .tup []), (20, B true), (19, B true), (18, B false), (17, I x4p1.lo), (16, .lref 3 0 2 0), (6, .lref 3 0 2 0), (15, .agg [I x4p1.lo, I x4p1.hi]), (14, .lref 1 i4p1 2 0), (13, B true), (4, .lsl 2 0 va4p1_0.length 2 none), (10, .lsl 1 0 va3_0.length 2 none), (11, I ((va3_0.length : Nat) : Int)), (12, I ((i4p1 : Nat) : Int))], [(1, ⟨q4p1_0.map S_Span.D, 2, false⟩), (2, ⟨va4p1_0.map S_Span.D, 2, false⟩), (3, ⟨[.agg [I x4p1.lo, I x4p1.hi]], 2, false⟩)], 4, 2⟩)
  | .x3 => ((.exit 0), ⟨65, [(13, B false), (4, .sl true [] 0 none), (10, .lsl 1 0 va3_0.length 2 none), (11, I ((va3_0.length : Nat) : Int)), (12, I ((q4p1_0.length : Nat) : Int))], [(1, ⟨q4p1_0.map S_Span.D, 2, false⟩)], 2, 2⟩)
  | .x4 i4p1 x4p1 => (.ret, ⟨65, [(3, I 2), (2, .sl true [] 0 none), (25, B true), (24, B true), (23, B false), (22, I x4p1.hi), (21, .lref 2 0 2 1), (20, B false), (19, B false), (18, B true), (17, I x4p1.lo), (16, .lref 2 0 2 0), (6, .lref 2 0 2 0), (15, .agg [I x4p1.lo, I x4p1.hi]), (14, .lref 1 i4p1 2 0), (13, B true), (4, .sl true [] 0 none), (10, .lsl 1 0 va3_0.length 2 none), (11, I ((va3_0.length : Nat) : Int)), (12, I ((i4p1 : Nat) : Int))], [(1, ⟨q4p1_0.map S_Span.D, 2, false⟩), (2, ⟨[.agg [I x4p1.lo, I x4p1.hi]], 2, false⟩)], 3, 2⟩)
  | .x5 i4p1 x4p1 => (.ret, ⟨65, [(3, I 2), (2, .sl true [] 0 none), (25, B true), (24, .tup []), (23, .tup []), (22, .tup []), (21, .tup []), (20, B true), (19, B true), (18, B false), (17, I x4p1.lo), (16, .lref 2 0 2 0), (6, .lref 2 0 2 0), (15, .agg [I x4p1.lo, I x4p1.hi]), (14, .lref 1 i4p1 2 0), (13, B true), (4, .sl true [] 0 none), (10, .lsl 1 0 va3_0.length 2 none), (11, I ((va3_0.length : Nat) : Int)), (12, I ((i4p1 : Nat) : Int))], [(1, ⟨q4p1_0.map S_Span.D, 2, false⟩), (2, ⟨[.agg [I x4p1.lo, I x4p1.hi]], 2, false⟩)], 3, 2⟩)
def zj (va3_0 : List S_Span) (q4p1_0 : List S_Span) : LR_ranges_gathered_4p1 → Prop
  | .x0 va4p1_0 => (1 ≤ va4p1_0.length) ∧ (va4p1_0.length ≤ q4p1_0.length)
  | .x1 i4p1 x4p1 va4p1_0 => (1 ≤ va4p1_0.length) ∧ (va4p1_0.length ≤ i4p1)
  | .x2 i4p1 x4p1 va4p1_0 => (1 ≤ va4p1_0.length) ∧ (va4p1_0.length ≤ i4p1)
  | .x3 => True
  | .x4 i4p1 x4p1 => True
  | .x5 i4p1 x4p1 => True
def ranges_gathered_4p1a_l_o1 (i4p1 : Nat) (x4p1 : S_Span) : List Ora := [.dec true, .op (some 14) ⟨.lref 1 i4p1 2 0, [], [], 3⟩, .op (some 15) ⟨.agg [I x4p1.lo, I x4p1.hi], [], [1], 3⟩, .pure (B (zh x4p1.lo))]
def ranges_gathered_4p1a_l_o2 (x4p1 : S_Span) (va4p1_0 : List S_Span) : List Ora := [.dec true, .pure (B (zh x4p1.hi)), .dec true, .dec true, .op (some 36) ⟨.lref 2 ((w64 (((va4p1_0.length : Nat) : Int) - 1)).toNat) 2 0, [], [], 4⟩, .op (some 38) ⟨I ((va4p1_0.getD ((w64 (((va4p1_0.length : Nat) : Int) - 1)).toNat) default).hi), [], [2], 4⟩]
theorem lp_ranges_gathered_4p1a (va3_0 : List S_Span) (q4p1_0 : List S_Span) : ∀ (rest4p1 : List S_Span) (i4p1 : Nat) (va4p1_0 : List S_Span) (hd4p1 : q4p1_0.drop i4p1 = rest4p1) (hi4p1 : i4p1 ≤ q4p1_0.length) (hz4p1_va4p1_0 : 1 ≤ va4p1_0.length) (hq4p1 : q4p1_0.length = va3_0.length) (hg4p1_va4p1_0 : va4p1_0.length ≤ i4p1) (hL4p1 : q4p1_0.length ≤ 1099511627776), (lim cfg).loop 69 lp69_4 ⟨65, [(4, .lsl 2 0 va4p1_0.length 2 none), (10, .lsl 1 0 va3_0.length 2 none), (11, I ((va3_0.length : Nat) : Int)), (12, I ((i4p1 : Nat) : Int))], [(1, ⟨q4p1_0.map S_Span.D, 2, false⟩), (2, ⟨va4p1_0.map S_Span.D, 2, false⟩)], 3, 2⟩ = some (zg va3_0 q4p1_0 (zU rest4p1 i4p1 va4p1_0)) := by
  intro rest4p1
  induction rest4p1 with
  | nil =>
    intro i4p1 va4p1_0 hd4p1 hi4p1 hz4p1_va4p1_0 hq4p1 hg4p1_va4p1_0 hL4p1
    unfold zU
    obtain rfl : i4p1 = q4p1_0.length := nil_eq hd4p1 hi4p1
    exact zS [.dec false] (And.intro (lt_no' hd4p1 hq4p1) trivial) (by kernel_rfl)
  | cons x4p1 rest4p1 ih =>
    intro i4p1 va4p1_0 hd4p1 hi4p1 hz4p1_va4p1_0 hq4p1 hg4p1_va4p1_0 hL4p1
    have hlt4p1 := zl hd4p1
    unfold zU
    have p1 := (idx_row (C := cfg) (nxt := 3) (t := 22) (ty := ty22) (te := ty25) (e := 25) (o := 1) (len := va3_0.length) (sz := 2) (cap := none) (i := ((i4p1 : Nat) : Int)) (by kernel_rfl) rfl (by kernel_rfl) rfl (by omega) (by omega))
    have p2 := (load_row (C := cfg) (objs := [(1, ⟨q4p1_0.map S_Span.D, 2, false⟩), (2, ⟨va4p1_0.map S_Span.D, 2, false⟩)]) (nxt := 3) (t := 25) (ty := ty25) (o := 1) (n := i4p1) (sz := 2) (sub := 0) (ob := ⟨q4p1_0.map S_Span.D, 2, false⟩) (e := S_Span.D x4p1) (d := .agg [I x4p1.lo, I x4p1.hi]) (by kernel_rfl) (by kernel_rfl) rfl (row_at (f := S_Span.D) hd4p1) (by kernel_rfl))
    cases h25 : (zh x4p1.lo) with
    | true =>
      cases h26 : (zh x4p1.hi) with
      | true =>
        cases h27 : decide (((va4p1_0.length : Nat) : Int) > 0) with
        | true =>
          have g27 := of_decide_eq_true h27
          have p3 := (idx_row (C := cfg) (nxt := 4) (t := 23) (ty := ty23) (te := ty25) (e := 25) (o := 2) (len := va4p1_0.length) (sz := 2) (cap := none) (i := w64 (((va4p1_0.length : Nat) : Int) - 1)) (by kernel_rfl) rfl (by kernel_rfl) rfl (by simp only [List.length_append, List.length_cons, List.length_nil, zk] at * <;> omega) (by simp only [List.length_append, List.length_cons, List.length_nil, zk] at * <;> omega))
          have p4 := (load_row (C := cfg) (objs := [(1, ⟨q4p1_0.map S_Span.D, 2, false⟩), (2, ⟨va4p1_0.map S_Span.D, 2, false⟩), (3, ⟨[.agg [I x4p1.lo, I x4p1.hi]], 2, false⟩)]) (nxt := 4) (t := 3) (ty := ty3) (o := 2) (n := (w64 (((va4p1_0.length : Nat) : Int) - 1)).toNat) (sz := 2) (sub := 1) (ob := ⟨va4p1_0.map S_Span.D, 2, false⟩) (e := S_Span.D (va4p1_0.getD ((w64 (((va4p1_0.length : Nat) : Int) - 1)).toNat) default)) (d := I ((va4p1_0.getD ((w64 (((va4p1_0.length : Nat) : Int) - 1)).toNat) default).hi)) (by kernel_rfl) (by kernel_rfl) rfl (row_get (f := S_Span.D) (by simp only [List.length_append, List.length_cons, List.length_nil, zk] at * <;> omega)) (by kernel_rfl))
          cases h28 : decide (x4p1.lo ≤ (w64 (((va4p1_0.getD ((w64 (((va4p1_0.length : Nat) : Int) - 1)).toNat) default).hi) + 1))) with
          | true =>
            have g28 := of_decide_eq_true h28
            exact y7 (ks := [4, 10, 11, 12]) (st' := (sd63 va3_0 i4p1 q4p1_0 x4p1 va4p1_0)) ((ranges_gathered_4p1a_l_o1 i4p1 x4p1) ++ ((ranges_gathered_4p1a_l_o2 x4p1 va4p1_0) ++ [.dec true, .op (some 48) ⟨.lref 2 ((w64 (((va4p1_0.length : Nat) : Int) - 1)).toNat) 2 0, [], [], 4⟩, .op (some 50) ⟨I ((va4p1_0.getD ((w64 (((va4p1_0.length : Nat) : Int) - 1)).toNat) default).hi), [], [2], 4⟩, .op (some 54) ⟨.lref 2 ((w64 (((va4p1_0.length : Nat) : Int) - 1)).toNat) 2 0, [], [], 4⟩, .stS 2 ⟨.tup [], [(2, some ⟨(va4p1_0.set ((w64 (((va4p1_0.length : Nat) : Int) - 1)).toNat) (⟨(va4p1_0.getD ((w64 (((va4p1_0.length : Nat) : Int) - 1)).toNat) default).lo, imax ((va4p1_0.getD ((w64 (((va4p1_0.length : Nat) : Int) - 1)).toNat) default).hi) x4p1.hi⟩ : S_Span)).map S_Span.D, 2, false⟩)], [2], 4⟩, .rw 60 (I ((i4p1 + 1 : Nat) : Int))])) (And.intro (inc_rw (i := i4p1) (by have := zl hd4p1; omega)) (And.intro (store_row (C := cfg) (objs := [(1, ⟨q4p1_0.map S_Span.D, 2, false⟩), (2, ⟨va4p1_0.map S_Span.D, 2, false⟩), (3, ⟨[.agg [I x4p1.lo, I x4p1.hi]], 2, false⟩)]) (nxt := 4) (t := 3) (ty := ty3) (o := 2) (n := (w64 (((va4p1_0.length : Nat) : Int) - 1)).toNat) (sz := 2) (sub := 1) (els := va4p1_0.map S_Span.D) (els' := (va4p1_0.set ((w64 (((va4p1_0.length : Nat) : Int) - 1)).toNat) (⟨(va4p1_0.getD ((w64 (((va4p1_0.length : Nat) : Int) - 1)).toNat) default).lo, imax ((va4p1_0.getD ((w64 (((va4p1_0.length : Nat) : Int) - 1)).toNat) default).hi) x4p1.hi⟩ : S_Span)).map S_Span.D) (e := S_Span.D (va4p1_0.getD ((w64 (((va4p1_0.length : Nat) : Int) - 1)).toNat) default)) (e' := S_Span.D (⟨(va4p1_0.getD ((w64 (((va4p1_0.length : Nat) : Int) - 1)).toNat) default).lo, imax ((va4p1_0.getD ((w64 (((va4p1_0.length : Nat) : Int) - 1)).toNat) default).hi) x4p1.hi⟩ : S_Span)) (v := I (imax ((va4p1_0.getD ((w64 (((va4p1_0.length : Nat) : Int) - 1)).toNat) default).hi) x4p1.hi)) (by kernel_rfl) (by kernel_rfl) (row_get (f := S_Span.D) (by simp only [List.length_append, List.length_cons, List.length_nil, zk] at * <;> omega)) rfl (by kernel_rfl) rfl (by kernel_rfl) (row_set (f := S_Span.D))) (And.intro (idx_row (C := cfg) (nxt := 4) (t := 23) (ty := ty23) (te := ty25) (e := 25) (o := 2) (len := va4p1_0.length) (sz := 2) (cap := none) (i := w64 (((va4p1_0.length : Nat) : Int) - 1)) (by kernel_rfl) rfl (by kernel_rfl) rfl (by simp only [List.length_append, List.length_cons, List.length_nil, zk] at * <;> omega) (by simp only [List.length_append, List.length_cons, List.length_nil, zk] at * <;> omega)) (And.intro (load_row (C := cfg) (objs := [(1, ⟨q4p1_0.map S_Span.D, 2, false⟩), (2, ⟨va4p1_0.map S_Span.D, 2, false⟩), (3, ⟨[.agg [I x4p1.lo, I x4p1.hi]], 2, false⟩)]) (nxt := 4) (t := 3) (ty := ty3) (o := 2) (n := (w64 (((va4p1_0.length : Nat) : Int) - 1)).toNat) (sz := 2) (sub := 1) (ob := ⟨va4p1_0.map S_Span.D, 2, false⟩) (e := S_Span.D (va4p1_0.getD ((w64 (((va4p1_0.length : Nat) : Int) - 1)).toNat) default)) (d := I ((va4p1_0.getD ((w64 (((va4p1_0.length : Nat) : Int) - 1)).toNat) default).hi)) (by kernel_rfl) (by kernel_rfl) rfl (row_get (f := S_Span.D) (by simp only [List.length_append, List.length_cons, List.length_nil, zk] at * <;> omega)) (by kernel_rfl)) (And.intro (idx_row (C := cfg) (nxt := 4) (t := 23) (ty := ty23) (te := ty25) (e := 25) (o := 2) (len := va4p1_0.length) (sz := 2) (cap := none) (i := w64 (((va4p1_0.length : Nat) : Int) - 1)) (by kernel_rfl) rfl (by kernel_rfl) rfl (by simp only [List.length_append, List.length_cons, List.length_nil, zk] at * <;> omega) (by simp only [List.length_append, List.length_cons, List.length_nil, zk] at * <;> omega)) (And.intro h28 (And.intro p4 (And.intro p3 (And.intro h27 (And.intro h26 (And.intro (zo x4p1.hi) (And.intro h25 (And.intro (zo x4p1.lo) (And.intro p2 (And.intro p1 (And.intro (lt_at' hd4p1 hq4p1) trivial)))))))))))))))) (by kernel_rfl) (by (simp only [sd63, go_sem, List.length_set, Nat.reduceAdd, Nat.reduceEqDiff, Nat.reduceLT, Nat.reduceLeDiff, bI2, za.idsL, za.renL, za.snapAll, z6.idsL, z6.renL, z6.snapAll]) <;> rfl) (ih (i4p1 + 1) (va4p1_0.set ((w64 (((va4p1_0.length : Nat) : Int) - 1)).toNat) (⟨(va4p1_0.getD ((w64 (((va4p1_0.length : Nat) : Int) - 1)).toNat) default).lo, imax ((va4p1_0.getD ((w64 (((va4p1_0.length : Nat) : Int) - 1)).toNat) default).hi) x4p1.hi⟩ : S_Span)) (zn hd4p1) (zl hd4p1) (by simp only [List.length_set] at * <;> omega) (by omega) (by simp only [List.length_set] at * <;> omega) (by omega)) (by kernel_rfl)
          | false =>
            have g28 := of_decide_eq_false h28
            exact y7 (ks := [4, 10, 11, 12]) (st' := (sd64 va3_0 i4p1 q4p1_0 x4p1 va4p1_0)) ((ranges_gathered_4p1a_l_o1 i4p1 x4p1) ++ ((ranges_gathered_4p1a_l_o2 x4p1 va4p1_0) ++ [.dec false, .op (some 59) ⟨.lsl 5 0 ((va4p1_0 ++ [x4p1]).length) 2 none, [(2, none), (5, some ⟨(va4p1_0 ++ [x4p1]).map S_Span.D, 2, false⟩)], [2, 4], 6⟩, .rw 60 (I ((i4p1 + 1 : Nat) : Int))])) (And.intro (inc_rw (i := i4p1) (by have := zl hd4p1; omega)) (And.intro (app_row (f := S_Span.D) (te := ty25) (gO := zv [(1, ⟨q4p1_0.map S_Span.D, 2, false⟩), (2, ⟨va4p1_0.map S_Span.D, 2, false⟩), (3, ⟨[.agg [I x4p1.lo, I x4p1.hi]], 2, false⟩), (4, ⟨[.agg [I x4p1.lo, I x4p1.hi]], 2, false⟩)]) (nxt := 5) (o := 2) (o2 := 4) (fz := false) z6 va4p1_0 x4p1 (by kernel_rfl) (by kernel_rfl) rfl (by kernel_rfl) (by decide) ⟨by simp only [ty25, big] <;> (first | assumption | omega | (exact yi (by omega) (by omega)) | (exact zO (by omega)) | (exact zz (by omega)) | (exact zP (by omega)) | (exact zA (by omega)) | (simp only [zk] at * <;> omega) | (simp only [zr, GS.some_l, List.length_set, List.length_append, List.length_cons, List.length_nil] at * <;> first | with_reducible assumption | omega) | (simp only [zr, GS.some_l, List.length_set, List.length_append, List.length_cons, List.length_nil, zk] at * <;> first | with_reducible assumption | omega) | (simp at * <;> omega)), by simp only [big] <;> (first | assumption | omega | (exact yi (by omega) (by omega)) | (exact zO (by omega)) | (exact zz (by omega)) | (exact zP (by omega)) | (exact zA (by omega)) | (simp only [zk] at * <;> omega) | (simp only [zr, GS.some_l, List.length_set, List.length_append, List.length_cons, List.length_nil] at * <;> first | with_reducible assumption | omega) | (simp only [zr, GS.some_l, List.length_set, List.length_append, List.length_cons, List.length_nil, zk] at * <;> first | with_reducible assumption | omega) | (simp at * <;> omega))⟩) (And.intro h28 (And.intro p4 (And.intro p3 (And.intro h27 (And.intro h26 (And.intro (zo x4p1.hi) (And.intro h25 (And.intro (zo x4p1.lo) (And.intro p2 (And.intro p1 (And.intro (lt_at' hd4p1 hq4p1) trivial))))))))))))) (by kernel_rfl) (by (simp only [sd64, go_sem, List.length_set, Nat.reduceAdd, Nat.reduceEqDiff, Nat.reduceLT, Nat.reduceLeDiff, bI2, za.idsL, za.renL, za.snapAll, z6.idsL, z6.renL, z6.snapAll]) <;> rfl) (ih (i4p1 + 1) (va4p1_0 ++ [x4p1]) (zn hd4p1) (zl hd4p1) (by simp only [List.length_append, List.length_cons, List.length_nil] at * <;> omega) (by omega) (by simp only [List.length_append, List.length_cons, List.length_nil] at * <;> omega) (by omega)) (by kernel_rfl)
        | false =>
          have g27 := of_decide_eq_false h27
          exact y7 (ks := [4, 10, 11, 12]) (st' := (sd65 va3_0 i4p1 q4p1_0 x4p1 va4p1_0)) ((ranges_gathered_4p1a_l_o1 i4p1 x4p1) ++ [.dec true, .pure (B (zh x4p1.hi)), .dec true, .dec false, .op (some 59) ⟨.lsl 5 0 ((va4p1_0 ++ [x4p1]).length) 2 none, [(2, none), (5, some ⟨(va4p1_0 ++ [x4p1]).map S_Span.D, 2, false⟩)], [2, 4], 6⟩, .rw 60 (I ((i4p1 + 1 : Nat) : Int))]) (And.intro (inc_rw (i := i4p1) (by have := zl hd4p1; omega)) (And.intro (app_row (f := S_Span.D) (te := ty25) (gO := zv [(1, ⟨q4p1_0.map S_Span.D, 2, false⟩), (2, ⟨va4p1_0.map S_Span.D, 2, false⟩), (3, ⟨[.agg [I x4p1.lo, I x4p1.hi]], 2, false⟩), (4, ⟨[.agg [I x4p1.lo, I x4p1.hi]], 2, false⟩)]) (nxt := 5) (o := 2) (o2 := 4) (fz := false) z6 va4p1_0 x4p1 (by kernel_rfl) (by kernel_rfl) rfl (by kernel_rfl) (by decide) ⟨by simp only [ty25, big] <;> (first | assumption | omega | (exact yi (by omega) (by omega)) | (exact zO (by omega)) | (exact zz (by omega)) | (exact zP (by omega)) | (exact zA (by omega)) | (simp only [zk] at * <;> omega) | (simp only [zr, GS.some_l, List.length_set, List.length_append, List.length_cons, List.length_nil] at * <;> first | with_reducible assumption | omega) | (simp only [zr, GS.some_l, List.length_set, List.length_append, List.length_cons, List.length_nil, zk] at * <;> first | with_reducible assumption | omega) | (simp at * <;> omega)), by simp only [big] <;> (first | assumption | omega | (exact yi (by omega) (by omega)) | (exact zO (by omega)) | (exact zz (by omega)) | (exact zP (by omega)) | (exact zA (by omega)) | (simp only [zk] at * <;> omega) | (simp only [zr, GS.some_l, List.length_set, List.length_append, List.length_cons, List.length_nil] at * <;> first | with_reducible assumption | omega) | (simp only [zr, GS.some_l, List.length_set, List.length_append, List.length_cons, List.length_nil, zk] at * <;> first | with_reducible assumption | omega) | (simp at * <;> omega))⟩) (And.intro h27 (And.intro h26 (And.intro (zo x4p1.hi) (And.intro h25 (And.intro (zo x4p1.lo) (And.intro p2 (And.intro p1 (And.intro (lt_at' hd4p1 hq4p1) trivial)))))))))) (by kernel_rfl) (by (simp only [sd65, go_sem, List.length_set, Nat.reduceAdd, Nat.reduceEqDiff, Nat.reduceLT, Nat.reduceLeDiff, bI2, za.idsL, za.renL, za.snapAll, z6.idsL, z6.renL, z6.snapAll]) <;> rfl) (ih (i4p1 + 1) (va4p1_0 ++ [x4p1]) (zn hd4p1) (zl hd4p1) (by omega) (by omega) (by omega) (by omega)) (by kernel_rfl)
      | false =>
        exact zS ((ranges_gathered_4p1a_l_o1 i4p1 x4p1) ++ [.dec true, .pure (B (zh x4p1.hi)), .dec false]) (And.intro h26 (And.intro (zo x4p1.hi) (And.intro h25 (And.intro (zo x4p1.lo) (And.intro p2 (And.intro p1 (And.intro (lt_at' hd4p1 hq4p1) trivial))))))) (by kernel_rfl)
    | false =>
      exact zS ((ranges_gathered_4p1a_l_o1 i4p1 x4p1) ++ [.dec false]) (And.intro h25 (And.intro (zo x4p1.lo) (And.intro p2 (And.intro p1 (And.intro (lt_at' hd4p1 hq4p1) trivial))))) (by kernel_rfl)
theorem ivt_ranges_gathered_4p1a (va3_0 : List S_Span) (q4p1_0 : List S_Span) : ∀ (rest4p1 : List S_Span) (i4p1 : Nat) (va4p1_0 : List S_Span) (hd4p1 : q4p1_0.drop i4p1 = rest4p1) (hi4p1 : i4p1 ≤ q4p1_0.length) (hz4p1_va4p1_0 : 1 ≤ va4p1_0.length) (hq4p1 : q4p1_0.length = va3_0.length) (hg4p1_va4p1_0 : va4p1_0.length ≤ i4p1) (hL4p1 : q4p1_0.length ≤ 1099511627776), zj va3_0 q4p1_0 (zU rest4p1 i4p1 va4p1_0) := by
  intro rest4p1
  induction rest4p1 with
  | nil =>
    intro i4p1 va4p1_0 hd4p1 hi4p1 hz4p1_va4p1_0 hq4p1 hg4p1_va4p1_0 hL4p1
    unfold zU
    obtain rfl : i4p1 = q4p1_0.length := nil_eq hd4p1 hi4p1
    exact ⟨hz4p1_va4p1_0, hg4p1_va4p1_0⟩
  | cons x4p1 rest4p1 ih =>
    intro i4p1 va4p1_0 hd4p1 hi4p1 hz4p1_va4p1_0 hq4p1 hg4p1_va4p1_0 hL4p1
    have hlt4p1 := zl hd4p1
    unfold zU
    cases h25 : (zh x4p1.lo) with
    | true =>
      cases h26 : (zh x4p1.hi) with
      | true =>
        cases h27 : decide (((va4p1_0.length : Nat) : Int) > 0) with
        | true =>
          have g27 := of_decide_eq_true h27
          cases h28 : decide (x4p1.lo ≤ (w64 (((va4p1_0.getD ((w64 (((va4p1_0.length : Nat) : Int) - 1)).toNat) default).hi) + 1))) with
          | true =>
            have g28 := of_decide_eq_true h28
            exact ih (i4p1 + 1) (va4p1_0.set ((w64 (((va4p1_0.length : Nat) : Int) - 1)).toNat) (⟨(va4p1_0.getD ((w64 (((va4p1_0.length : Nat) : Int) - 1)).toNat) default).lo, imax ((va4p1_0.getD ((w64 (((va4p1_0.length : Nat) : Int) - 1)).toNat) default).hi) x4p1.hi⟩ : S_Span)) (zn hd4p1) (zl hd4p1) (by simp only [List.length_set] at * <;> omega) (by omega) (by simp only [List.length_set] at * <;> omega) (by omega)
          | false =>
            have g28 := of_decide_eq_false h28
            exact ih (i4p1 + 1) (va4p1_0 ++ [x4p1]) (zn hd4p1) (zl hd4p1) (by simp only [List.length_append, List.length_cons, List.length_nil] at * <;> omega) (by omega) (by simp only [List.length_append, List.length_cons, List.length_nil] at * <;> omega) (by omega)
        | false =>
          have g27 := of_decide_eq_false h27
          exact ih (i4p1 + 1) (va4p1_0 ++ [x4p1]) (zn hd4p1) (zl hd4p1) (by omega) (by omega) (by omega) (by omega)
      | false =>
        exact ⟨hz4p1_va4p1_0, hg4p1_va4p1_0⟩
    | false =>
      exact ⟨hz4p1_va4p1_0, hg4p1_va4p1_0⟩
def ranges_gathered_4p1_l_o1 (i4p1 : Nat) (x4p1 : S_Span) : List Ora := [.dec true, .op (some 14) ⟨.lref 1 i4p1 2 0, [], [], 2⟩, .op (some 15) ⟨.agg [I x4p1.lo, I x4p1.hi], [], [1], 2⟩, .pure (B (zh x4p1.lo))]
theorem lp_ranges_gathered_4p1 (va3_0 : List S_Span) (q4p1_0 : List S_Span) : ∀ (rest4p1 : List S_Span) (i4p1 : Nat) (hd4p1 : q4p1_0.drop i4p1 = rest4p1) (hi4p1 : i4p1 ≤ q4p1_0.length) (hq4p1 : q4p1_0.length = va3_0.length) (hL4p1 : q4p1_0.length ≤ 1099511627776), (lim cfg).loop 69 lp69_4 ⟨65, [(4, .sl true [] 0 none), (10, .lsl 1 0 va3_0.length 2 none), (11, I ((va3_0.length : Nat) : Int)), (12, I ((i4p1 : Nat) : Int))], [(1, ⟨q4p1_0.map S_Span.D, 2, false⟩)], 2, 2⟩ = some (zg va3_0 q4p1_0 (zx rest4p1 i4p1)) := by
  intro rest4p1
  induction rest4p1 with
  | nil =>
    intro i4p1 hd4p1 hi4p1 hq4p1 hL4p1
    unfold zx
    obtain rfl : i4p1 = q4p1_0.length := nil_eq hd4p1 hi4p1
    exact zS [.dec false] (And.intro (lt_no' hd4p1 hq4p1) trivial) (by kernel_rfl)
  | cons x4p1 rest4p1 ih =>
    intro i4p1 hd4p1 hi4p1 hq4p1 hL4p1
    have hlt4p1 := zl hd4p1
    unfold zx
    dsimp only
    have p1 := (idx_row (C := cfg) (nxt := 2) (t := 22) (ty := ty22) (te := ty25) (e := 25) (o := 1) (len := va3_0.length) (sz := 2) (cap := none) (i := ((i4p1 : Nat) : Int)) (by kernel_rfl) rfl (by kernel_rfl) rfl (by omega) (by omega))
    have p2 := (load_row (C := cfg) (objs := [(1, ⟨q4p1_0.map S_Span.D, 2, false⟩)]) (nxt := 2) (t := 25) (ty := ty25) (o := 1) (n := i4p1) (sz := 2) (sub := 0) (ob := ⟨q4p1_0.map S_Span.D, 2, false⟩) (e := S_Span.D x4p1) (d := .agg [I x4p1.lo, I x4p1.hi]) (by kernel_rfl) (by kernel_rfl) rfl (row_at (f := S_Span.D) hd4p1) (by kernel_rfl))
    cases h29 : (zh x4p1.lo) with
    | true =>
      cases h30 : (zh x4p1.hi) with
      | true =>
        exact y7 (ks := [4, 10, 11, 12]) (st' := (sd66 va3_0 i4p1 q4p1_0 x4p1)) ((ranges_gathered_4p1_l_o1 i4p1 x4p1) ++ [.dec true, .pure (B (zh x4p1.hi)), .dec true, .dec false, .rw 60 (I ((i4p1 + 1 : Nat) : Int))]) (And.intro (inc_rw (i := i4p1) (by have := zl hd4p1; omega)) (And.intro (Eq.refl false) (And.intro h30 (And.intro (zo x4p1.hi) (And.intro h29 (And.intro (zo x4p1.lo) (And.intro p2 (And.intro p1 (And.intro (lt_at' hd4p1 hq4p1) trivial))))))))) (by kernel_rfl) (by (simp only [sd66, go_sem, List.length_set, Nat.reduceAdd, Nat.reduceEqDiff, Nat.reduceLT, Nat.reduceLeDiff, bI2, za.idsL, za.renL, za.snapAll, z6.idsL, z6.renL, z6.snapAll]) <;> rfl) (lp_ranges_gathered_4p1a va3_0 q4p1_0 _ (i4p1 + 1) [x4p1] (zn hd4p1) (zl hd4p1) (by simp only [List.length_append, List.length_cons, List.length_nil] at * <;> omega) (by omega) (by simp only [List.length_append, List.length_cons, List.length_nil] at * <;> omega) (by omega)) (by kernel_rfl)
      | false =>
        exact zS ((ranges_gathered_4p1_l_o1 i4p1 x4p1) ++ [.dec true, .pure (B (zh x4p1.hi)), .dec false]) (And.intro h30 (And.intro (zo x4p1.hi) (And.intro h29 (And.intro (zo x4p1.lo) (And.intro p2 (And.intro p1 (And.intro (lt_at' hd4p1 hq4p1) trivial))))))) (by kernel_rfl)
    | false =>
      exact zS ((ranges_gathered_4p1_l_o1 i4p1 x4p1) ++ [.dec false]) (And.intro h29 (And.intro (zo x4p1.lo) (And.intro p2 (And.intro p1 (And.intro (lt_at' hd4p1 hq4p1) trivial))))) (by kernel_rfl)
theorem zH (va3_0 : List S_Span) (q4p1_0 : List S_Span) : ∀ (rest4p1 : List S_Span) (i4p1 : Nat) (hd4p1 : q4p1_0.drop i4p1 = rest4p1) (hi4p1 : i4p1 ≤ q4p1_0.length) (hq4p1 : q4p1_0.length = va3_0.length) (hL4p1 : q4p1_0.length ≤ 1099511627776), zj va3_0 q4p1_0 (zx rest4p1 i4p1) := by
  intro rest4p1
  induction rest4p1 with
  | nil =>
    intro i4p1 hd4p1 hi4p1 hq4p1 hL4p1
    unfold zx
    obtain rfl : i4p1 = q4p1_0.length := nil_eq hd4p1 hi4p1
    exact trivial
  | cons x4p1 rest4p1 ih =>
    intro i4p1 hd4p1 hi4p1 hq4p1 hL4p1
    have hlt4p1 := zl hd4p1
    unfold zx
    dsimp only
    cases h29 : (zh x4p1.lo) with
    | true =>
      cases h30 : (zh x4p1.hi) with
      | true =>
        exact ivt_ranges_gathered_4p1a va3_0 q4p1_0 _ (i4p1 + 1) [x4p1] (zn hd4p1) (zl hd4p1) (by simp only [List.length_append, List.length_cons, List.length_nil] at * <;> omega) (by omega) (by simp only [List.length_append, List.length_cons, List.length_nil] at * <;> omega) (by omega)
      | false =>
        exact trivial
    | false =>
      exact trivial

def zi (a : GS S_Span) (b : GS S_Span) : (GS S_Span) × Int :=
  bif ((y6 (GS.some [a, b])) != 0) then
    (GS.nil, (y6 (GS.some [a, b])))
  else
    match ranges_pairs_3 b a.l with
    | .x0 va3_0 =>
      match zx (zf ze va3_0) 0 with
      | .x0 va4p1_0 =>
        bif decide (((va4p1_0.length : Nat) : Int) > 64) then
          (GS.nil, 2)
        else
          (GS.some va4p1_0, 0)
      | .x1 i4p1 x4p1 va4p1_0 =>
        (GS.nil, 2)
      | .x2 i4p1 x4p1 va4p1_0 =>
        (GS.nil, 2)
      | .x3 =>
        (GS.nil, 0)
      | .x4 i4p1 x4p1 =>
        (GS.nil, 2)
      | .x5 i4p1 x4p1 =>
        (GS.nil, 2)
    | .x1 =>
      (GS.nil, 0)

def ranges_Sum_o1 (a : GS S_Span) (b : GS S_Span) (va3_0 : List S_Span) : List Ora := [.pure (I (y6 (GS.some [a, b]))), .dec false, .inl (.lsl 1 0 va3_0.length 2 none) [(1, ⟨va3_0.map S_Span.D, 2, false⟩)] 2]

def sd62 (a : GS S_Span) (b : GS S_Span) (va3_0 : List S_Span) : St := ⟨40, [(17, B false), (1, .sl b.nl (b.l.map S_Span.D) (zsl b.nl 2) none), (2, .fn (.func 88) [] []), (7, .lsl 1 0 va3_0.length 2 none), (14, .sl a.nl (a.l.map S_Span.D) (zsl a.nl 2) none), (15, I ((a.l.length : Nat) : Int)), (16, I ((a.l.length : Nat) : Int))], [(1, ⟨va3_0.map S_Span.D, 2, false⟩)], 2, 1⟩

def sd68 (va3_0 : List S_Span) : St := ⟨65, [(4, .sl true [] 0 none), (10, .lsl 1 0 va3_0.length 2 none), (11, I ((va3_0.length : Nat) : Int)), (12, I 0)], [(1, ⟨(zf ze va3_0).map S_Span.D, 2, false⟩)], 2, 2⟩

def sd69 (va3_0 : List S_Span) (va4p1_0 : List S_Span) : St := ⟨65, [(13, B false), (4, .lsl 2 0 va4p1_0.length 2 none), (10, .lsl 1 0 va3_0.length 2 none), (11, I ((va3_0.length : Nat) : Int)), (12, I (((zf ze va3_0).length : Nat) : Int))], [(1, ⟨(zf ze va3_0).map S_Span.D, 2, false⟩), (2, ⟨va4p1_0.map S_Span.D, 2, false⟩)], 3, 2⟩

def sd67 (va3_0 : List S_Span) : St := ⟨65, [(12, I 0), (11, I ((va3_0.length : Nat) : Int)), (10, .lsl 1 0 va3_0.length 2 none), (4, .sl true [] 0 none), (9, .tup []), (8, .lsl 1 0 va3_0.length 2 none), (3, I 0), (2, .sl true [] 0 none), (0, .lsl 1 0 va3_0.length 2 none)], [(1, ⟨(zf ze va3_0).map S_Span.D, 2, false⟩)], 2, 2⟩

def sd70 (va3_0 : List S_Span) (i4p1 : Nat) (x4p1 : S_Span) (va4p1_0 : List S_Span) : St := ⟨65, [(3, I 2), (2, .sl true [] 0 none), (25, B true), (24, B true), (23, B false), (22, I x4p1.hi), (21, .lref 3 0 2 1), (20, B false), (19, B false), (18, B true), (17, I x4p1.lo), (16, .lref 3 0 2 0), (6, .lref 3 0 2 0), (15, .agg [I x4p1.lo, I x4p1.hi]), (14, .lref 1 i4p1 2 0), (13, B true), (4, .lsl 2 0 va4p1_0.length 2 none), (10, .lsl 1 0 va3_0.length 2 none), (11, I ((va3_0.length : Nat) : Int)), (12, I ((i4p1 : Nat) : Int))], [(1, ⟨(zf ze va3_0).map S_Span.D, 2, false⟩), (2, ⟨va4p1_0.map S_Span.D, 2, false⟩), (3, ⟨[.agg [I x4p1.lo, I x4p1.hi]], 2, false⟩)], 4, 2⟩

def sd71 (va3_0 : List S_Span) (i4p1 : Nat) (x4p1 : S_Span) (va4p1_0 : List S_Span) : St := ⟨65, [(3, I 2), (2, .sl true [] 0 none), (25, B true), (24, .tup []), (23, .tup []), (22, .tup []), (21, .tup []), (20, B true), (19, B true), (18, B false), (17, I x4p1.lo), (16, .lref 3 0 2 0), (6, .lref 3 0 2 0), (15, .agg [I x4p1.lo, I x4p1.hi]), (14, .lref 1 i4p1 2 0), (13, B true), (4, .lsl 2 0 va4p1_0.length 2 none), (10, .lsl 1 0 va3_0.length 2 none), (11, I ((va3_0.length : Nat) : Int)), (12, I ((i4p1 : Nat) : Int))], [(1, ⟨(zf ze va3_0).map S_Span.D, 2, false⟩), (2, ⟨va4p1_0.map S_Span.D, 2, false⟩), (3, ⟨[.agg [I x4p1.lo, I x4p1.hi]], 2, false⟩)], 4, 2⟩

def sd72 (va3_0 : List S_Span) : St := ⟨65, [(13, B false), (4, .sl true [] 0 none), (10, .lsl 1 0 va3_0.length 2 none), (11, I ((va3_0.length : Nat) : Int)), (12, I (((zf ze va3_0).length : Nat) : Int))], [(1, ⟨(zf ze va3_0).map S_Span.D, 2, false⟩)], 2, 2⟩

def sd73 (va3_0 : List S_Span) (i4p1 : Nat) (x4p1 : S_Span) : St := ⟨65, [(3, I 2), (2, .sl true [] 0 none), (25, B true), (24, B true), (23, B false), (22, I x4p1.hi), (21, .lref 2 0 2 1), (20, B false), (19, B false), (18, B true), (17, I x4p1.lo), (16, .lref 2 0 2 0), (6, .lref 2 0 2 0), (15, .agg [I x4p1.lo, I x4p1.hi]), (14, .lref 1 i4p1 2 0), (13, B true), (4, .sl true [] 0 none), (10, .lsl 1 0 va3_0.length 2 none), (11, I ((va3_0.length : Nat) : Int)), (12, I ((i4p1 : Nat) : Int))], [(1, ⟨(zf ze va3_0).map S_Span.D, 2, false⟩), (2, ⟨[.agg [I x4p1.lo, I x4p1.hi]], 2, false⟩)], 3, 2⟩

def sd74 (va3_0 : List S_Span) (i4p1 : Nat) (x4p1 : S_Span) : St := ⟨65, [(3, I 2), (2, .sl true [] 0 none), (25, B true), (24, .tup []), (23, .tup []), (22, .tup []), (21, .tup []), (20, B true), (19, B true), (18, B false), (17, I x4p1.lo), (16, .lref 2 0 2 0), (6, .lref 2 0 2 0), (15, .agg [I x4p1.lo, I x4p1.hi]), (14, .lref 1 i4p1 2 0), (13, B true), (4, .sl true [] 0 none), (10, .lsl 1 0 va3_0.length 2 none), (11, I ((va3_0.length : Nat) : Int)), (12, I ((i4p1 : Nat) : Int))], [(1, ⟨(zf ze va3_0).map S_Span.D, 2, false⟩), (2, ⟨[.agg [I x4p1.lo, I x4p1.hi]], 2, false⟩)], 3, 2⟩

def sd75 (a : GS S_Span) (b : GS S_Span) : St := ⟨40, [(17, B false), (1, .sl b.nl (b.l.map S_Span.D) (zsl b.nl 2) none), (2, .fn (.func 88) [] []), (7, .sl true [] 0 none), (14, .sl a.nl (a.l.map S_Span.D) (zsl a.nl 2) none), (15, I ((a.l.length : Nat) : Int)), (16, I ((a.l.length : Nat) : Int))], [], 1, 1⟩

theorem T_ranges_Sum (a : GS S_Span) (b : GS S_Span) (hLa : a.l.length ≤ 9223372036854775807) (hLb : b.l.length ≤ 9223372036854775807) : (lim cfg).pure 28 [GS.D S_Span.D 2 a, GS.D S_Span.D 2 b] = some (.tup [GS.D S_Span.D 2 ((zi a b).1), I ((zi a b).2)]) := by
  unfold zi
  have p1 := (T_ranges_check (GS.some [a, b]) (by exact yi (by omega) (by omega)) (by simp only [zr, GS.some_l, List.length_set, List.length_append, List.length_cons, List.length_nil] at * <;> first | with_reducible assumption | omega))
  cases h1 : ((y6 (GS.some [a, b])) != 0) with
  | true =>
    have g1 := bne_true h1
    exact zq [.pure (I (y6 (GS.some [a, b]))), .dec true] (And.intro h1 (And.intro p1 trivial)) (by kernel_rfl)
  | false =>
    have g1 := check2_len (bne_false h1)
    cases h18 : ranges_pairs_3 b a.l with
    | x0 va3_0 =>
      try dsimp only
      have hv_h18 := ivt_ranges_pairs_3 a b a.l 0 (List.drop_zero) (Nat.zero_le _) (by omega) (by omega) (by omega)
      rw [h18] at hv_h18
      have hv_h18_0 := hv_h18
      try dsimp only [iv_ranges_pairs_3] at hv_h18_0
      have p2 := (show (lim cfg).inl 87 [.sl a.nl (a.l.map S_Span.D) (zsl a.nl 2) none, .sl b.nl (b.l.map S_Span.D) (zsl b.nl 2) none, .fn (.func 88) [] []] [] 1 = some (.lsl 1 0 va3_0.length 2 none, [(1, ⟨va3_0.map S_Span.D, 2, false⟩)], 2) from zw [.rw 15 (I ((a.l.length : Nat) : Int)), .loop (.exit 0) (sd62 a b va3_0)] (And.intro (zX (q := lr_ranges_pairs_3 a b) (lp_ranges_pairs_3 a b a.l 0 (List.drop_zero) (Nat.zero_le _) (by omega) (by omega) (by omega)) h18) (And.intro (zG S_Span.D a) trivial)) (by kernel_rfl))
      cases h31 : zx (zf ze va3_0) 0 with
      | x0 va4p1_0 =>
        try dsimp only
        have hv_h31 := zH va3_0 (zf ze va3_0) (zf ze va3_0) 0 (List.drop_zero) (Nat.zero_le _) (by simp only [zr, GS.some_l, List.length_set, List.length_append, List.length_cons, List.length_nil] at * <;> first | with_reducible assumption | omega) (by simp only [zr, GS.some_l, List.length_set, List.length_append, List.length_cons, List.length_nil] at * <;> first | with_reducible assumption | omega)
        rw [h31] at hv_h31
        obtain ⟨hv_h31_0, hv_h31_1⟩ := hv_h31
        try dsimp only [zj] at hv_h31_0
        try dsimp only [zj] at hv_h31_1
        cases h32 : decide (((va4p1_0.length : Nat) : Int) > 64) with
        | true =>
          have g32 := of_decide_eq_true h32
          exact zq ((ranges_Sum_o1 a b va3_0) ++ [.inlS [1] (.tup [.sl true [] 0 none, I 2]) [(1, ⟨(zf ze va3_0).map S_Span.D, 2, false⟩), (2, ⟨va4p1_0.map S_Span.D, 2, false⟩)] 3]) (And.intro (And.intro (show zc [(0, ⟨[.sl a.nl (a.l.map S_Span.D) (zsl a.nl 2) none, .sl b.nl (b.l.map S_Span.D) (zsl b.nl 2) none], 1, false⟩), (1, ⟨va3_0.map S_Span.D, 2, false⟩)] 256 [1] [] = some [1] from (by (simp only [zc, go_sem, List.length_set, Nat.reduceAdd, Nat.reduceEqDiff, Nat.reduceLT, Nat.reduceLeDiff, bI2, za.idsL, za.renL, za.snapAll, z6.idsL, z6.renL, z6.snapAll]) <;> rfl)) (show (lim cfg).inl 69 [.lsl 1 0 va3_0.length 2 none] [(1, ⟨va3_0.map S_Span.D, 2, false⟩)] 2 = some (.tup [.sl true [] 0 none, I 2], [(1, ⟨(zf ze va3_0).map S_Span.D, 2, false⟩), (2, ⟨va4p1_0.map S_Span.D, 2, false⟩)], 3) from zw [.inlS [1] (.tup []) [(1, ⟨(zf ze va3_0).map S_Span.D, 2, false⟩)] 2, .gloop (sd68 va3_0) (.exit 0) (sd69 va3_0 va4p1_0), .dec true] (And.intro h32 (And.intro (zX (q := zg va3_0 (zf ze va3_0)) (lp_ranges_gathered_4p1 va3_0 (zf ze va3_0) (zf ze va3_0) 0 (List.drop_zero) (Nat.zero_le _) (by simp only [zr, GS.some_l, List.length_set, List.length_append, List.length_cons, List.length_nil] at * <;> first | with_reducible assumption | omega) (by simp only [zr, GS.some_l, List.length_set, List.length_append, List.length_cons, List.length_nil] at * <;> first | with_reducible assumption | omega)) h31) (And.intro (gc_of (C := cfg) (f := 69) (a := lp69_4) (ks := [4, 10, 11, 12]) (st := (sd67 va3_0)) (st1 := (sd68 va3_0)) (by kernel_rfl) (by (simp only [sd67, sd68, go_sem, List.length_set, Nat.reduceAdd, Nat.reduceEqDiff, Nat.reduceLT, Nat.reduceLeDiff, bI2, za.idsL, za.renL, za.snapAll, z6.idsL, z6.renL, z6.snapAll]) <;> rfl)) (And.intro (And.intro (show zc [(1, ⟨va3_0.map S_Span.D, 2, false⟩)] 256 [1] [] = some [1] from (by (simp only [zc, go_sem, List.length_set, Nat.reduceAdd, Nat.reduceEqDiff, Nat.reduceLT, Nat.reduceLeDiff, bI2, za.idsL, za.renL, za.snapAll, z6.idsL, z6.renL, z6.snapAll]) <;> rfl)) (y8 1 2 none va3_0 (by omega))) trivial)))) (by kernel_rfl))) (And.intro p2 (And.intro h1 (And.intro p1 trivial)))) (by kernel_rfl)
        | false =>
          have g32 := of_decide_eq_false h32
          exact po_pureS ((ranges_Sum_o1 a b va3_0) ++ [.inlS [1] (.tup [.lsl 2 0 va4p1_0.length 2 none, I 0]) [(1, ⟨(zf ze va3_0).map S_Span.D, 2, false⟩), (2, ⟨va4p1_0.map S_Span.D, 2, false⟩)] 3]) [(2, .sl false (va4p1_0.map S_Span.D) 2 none, [2])] (And.intro (snap_row (gO := zv [(0, ⟨[.sl a.nl (a.l.map S_Span.D) (zsl a.nl 2) none, .sl b.nl (b.l.map S_Span.D) (zsl b.nl 2) none], 1, false⟩), (1, ⟨(zf ze va3_0).map S_Span.D, 2, false⟩), (2, ⟨va4p1_0.map S_Span.D, 2, false⟩)]) (o := 2) (len := va4p1_0.length) (cap := none) (fz := false) z6 va4p1_0 (by kernel_rfl) (by omega)) (And.intro (And.intro (show zc [(0, ⟨[.sl a.nl (a.l.map S_Span.D) (zsl a.nl 2) none, .sl b.nl (b.l.map S_Span.D) (zsl b.nl 2) none], 1, false⟩), (1, ⟨va3_0.map S_Span.D, 2, false⟩)] 256 [1] [] = some [1] from (by (simp only [zc, go_sem, List.length_set, Nat.reduceAdd, Nat.reduceEqDiff, Nat.reduceLT, Nat.reduceLeDiff, bI2, za.idsL, za.renL, za.snapAll, z6.idsL, z6.renL, z6.snapAll]) <;> rfl)) (show (lim cfg).inl 69 [.lsl 1 0 va3_0.length 2 none] [(1, ⟨va3_0.map S_Span.D, 2, false⟩)] 2 = some (.tup [.lsl 2 0 va4p1_0.length 2 none, I 0], [(1, ⟨(zf ze va3_0).map S_Span.D, 2, false⟩), (2, ⟨va4p1_0.map S_Span.D, 2, false⟩)], 3) from zw [.inlS [1] (.tup []) [(1, ⟨(zf ze va3_0).map S_Span.D, 2, false⟩)] 2, .gloop (sd68 va3_0) (.exit 0) (sd69 va3_0 va4p1_0), .dec false] (And.intro h32 (And.intro (zX (q := zg va3_0 (zf ze va3_0)) (lp_ranges_gathered_4p1 va3_0 (zf ze va3_0) (zf ze va3_0) 0 (List.drop_zero) (Nat.zero_le _) (by simp only [zr, GS.some_l, List.length_set, List.length_append, List.length_cons, List.length_nil] at * <;> first | with_reducible assumption | omega) (by simp only [zr, GS.some_l, List.length_set, List.length_append, List.length_cons, List.length_nil] at * <;> first | with_reducible assumption | omega)) h31) (And.intro (gc_of (C := cfg) (f := 69) (a := lp69_4) (ks := [4, 10, 11, 12]) (st := (sd67 va3_0)) (st1 := (sd68 va3_0)) (by kernel_rfl) (by (simp only [sd67, sd68, go_sem, List.length_set, Nat.reduceAdd, Nat.reduceEqDiff, Nat.reduceLT, Nat.reduceLeDiff, bI2, za.idsL, za.renL, za.snapAll, z6.idsL, z6.renL, z6.snapAll]) <;> rfl)) (And.intro (And.intro (show zc [(1, ⟨va3_0.map S_Span.D, 2, false⟩)] 256 [1] [] = some [1] from (by (simp only [zc, go_sem, List.length_set, Nat.reduceAdd, Nat.reduceEqDiff, Nat.reduceLT, Nat.reduceLeDiff, bI2, za.idsL, za.renL, za.snapAll, z6.idsL, z6.renL, z6.snapAll]) <;> rfl)) (y8 1 2 none va3_0 (by omega))) trivial)))) (by kernel_rfl))) (And.intro p2 (And.intro h1 (And.intro p1 trivial))))) (by kernel_rfl)
      | x1 i4p1 x4p1 va4p1_0 =>
        try dsimp only
        have hv_h31 := zH va3_0 (zf ze va3_0) (zf ze va3_0) 0 (List.drop_zero) (Nat.zero_le _) (by simp only [zr, GS.some_l, List.length_set, List.length_append, List.length_cons, List.length_nil] at * <;> first | with_reducible assumption | omega) (by simp only [zr, GS.some_l, List.length_set, List.length_append, List.length_cons, List.length_nil] at * <;> first | with_reducible assumption | omega)
        rw [h31] at hv_h31
        obtain ⟨hv_h31_0, hv_h31_1⟩ := hv_h31
        try dsimp only [zj] at hv_h31_0
        try dsimp only [zj] at hv_h31_1
        exact zq ((ranges_Sum_o1 a b va3_0) ++ [.inlS [1] (.tup [.sl true [] 0 none, I 2]) [(1, ⟨(zf ze va3_0).map S_Span.D, 2, false⟩), (2, ⟨va4p1_0.map S_Span.D, 2, false⟩), (3, ⟨[.agg [I x4p1.lo, I x4p1.hi]], 2, false⟩)] 4]) (And.intro (And.intro (show zc [(0, ⟨[.sl a.nl (a.l.map S_Span.D) (zsl a.nl 2) none, .sl b.nl (b.l.map S_Span.D) (zsl b.nl 2) none], 1, false⟩), (1, ⟨va3_0.map S_Span.D, 2, false⟩)] 256 [1] [] = some [1] from (by (simp only [zc, go_sem, List.length_set, Nat.reduceAdd, Nat.reduceEqDiff, Nat.reduceLT, Nat.reduceLeDiff, bI2, za.idsL, za.renL, za.snapAll, z6.idsL, z6.renL, z6.snapAll]) <;> rfl)) (show (lim cfg).inl 69 [.lsl 1 0 va3_0.length 2 none] [(1, ⟨va3_0.map S_Span.D, 2, false⟩)] 2 = some (.tup [.sl true [] 0 none, I 2], [(1, ⟨(zf ze va3_0).map S_Span.D, 2, false⟩), (2, ⟨va4p1_0.map S_Span.D, 2, false⟩), (3, ⟨[.agg [I x4p1.lo, I x4p1.hi]], 2, false⟩)], 4) from zw [.inlS [1] (.tup []) [(1, ⟨(zf ze va3_0).map S_Span.D, 2, false⟩)] 2, .gloop (sd68 va3_0) .ret (sd70 va3_0 i4p1 x4p1 va4p1_0)] (And.intro (zX (q := zg va3_0 (zf ze va3_0)) (lp_ranges_gathered_4p1 va3_0 (zf ze va3_0) (zf ze va3_0) 0 (List.drop_zero) (Nat.zero_le _) (by simp only [zr, GS.some_l, List.length_set, List.length_append, List.length_cons, List.length_nil] at * <;> first | with_reducible assumption | omega) (by simp only [zr, GS.some_l, List.length_set, List.length_append, List.length_cons, List.length_nil] at * <;> first | with_reducible assumption | omega)) h31) (And.intro (gc_of (C := cfg) (f := 69) (a := lp69_4) (ks := [4, 10, 11, 12]) (st := (sd67 va3_0)) (st1 := (sd68 va3_0)) (by kernel_rfl) (by (simp only [sd67, sd68, go_sem, List.length_set, Nat.reduceAdd, Nat.reduceEqDiff, Nat.reduceLT, Nat.reduceLeDiff, bI2, za.idsL, za.renL, za.snapAll, z6.idsL, z6.renL, z6.snapAll]) <;> rfl)) (And.intro (And.intro (show zc [(1, ⟨va3_0.map S_Span.D, 2, false⟩)] 256 [1] [] = some [1] from (by (simp only [zc, go_sem, List.length_set, Nat.reduceAdd, Nat.reduceEqDiff, Nat.reduceLT, Nat.reduceLeDiff, bI2, za.idsL, za.renL, za.snapAll, z6.idsL, z6.renL, z6.snapAll]) <;> rfl)) (y8 1 2 none va3_0 (by omega))) trivial))) (by kernel_rfl))) (And.intro p2 (And.intro h1 (And.intro p1 trivial)))) (by kernel_rfl)
      | x2 i4p1 x4p1 va4p1_0 =>
        try dsimp only
        have hv_h31 := zH va3_0 (zf ze va3_0) (zf ze va3_0) 0 (List.drop_zero) (Nat.zero_le _) (by simp only [zr, GS.some_l, List.length_set, List.length_append, List.length_cons, List.length_nil] at * <;> first | with_reducible assumption | omega) (by simp only [zr, GS.some_l, List.length_set, List.length_append, List.length_cons, List.length_nil] at * <;> first | with_reducible assumption | omega)
        rw [h31] at hv_h31
        obtain ⟨hv_h31_0, hv_h31_1⟩ := hv_h31
        try dsimp only [zj] at hv_h31_0
        try dsimp only [zj] at hv_h31_1
        exact zq ((ranges_Sum_o1 a b va3_0) ++ [.inlS [1] (.tup [.sl true [] 0 none, I 2]) [(1, ⟨(zf ze va3_0).map S_Span.D, 2, false⟩), (2, ⟨va4p1_0.map S_Span.D, 2, false⟩), (3, ⟨[.agg [I x4p1.lo, I x4p1.hi]], 2, false⟩)] 4]) (And.intro (And.intro (show zc [(0, ⟨[.sl a.nl (a.l.map S_Span.D) (zsl a.nl 2) none, .sl b.nl (b.l.map S_Span.D) (zsl b.nl 2) none], 1, false⟩), (1, ⟨va3_0.map S_Span.D, 2, false⟩)] 256 [1] [] = some [1] from (by (simp only [zc, go_sem, List.length_set, Nat.reduceAdd, Nat.reduceEqDiff, Nat.reduceLT, Nat.reduceLeDiff, bI2, za.idsL, za.renL, za.snapAll, z6.idsL, z6.renL, z6.snapAll]) <;> rfl)) (show (lim cfg).inl 69 [.lsl 1 0 va3_0.length 2 none] [(1, ⟨va3_0.map S_Span.D, 2, false⟩)] 2 = some (.tup [.sl true [] 0 none, I 2], [(1, ⟨(zf ze va3_0).map S_Span.D, 2, false⟩), (2, ⟨va4p1_0.map S_Span.D, 2, false⟩), (3, ⟨[.agg [I x4p1.lo, I x4p1.hi]], 2, false⟩)], 4) from zw [.inlS [1] (.tup []) [(1, ⟨(zf ze va3_0).map S_Span.D, 2, false⟩)] 2, .gloop (sd68 va3_0) .ret (sd71 va3_0 i4p1 x4p1 va4p1_0)] (And.intro (zX (q := zg va3_0 (zf ze va3_0)) (lp_ranges_gathered_4p1 va3_0 (zf ze va3_0) (zf ze va3_0) 0 (List.drop_zero) (Nat.zero_le _) (by simp only [zr, GS.some_l, List.length_set, List.length_append, List.length_cons, List.length_nil] at * <;> first | with_reducible assumption | omega) (by simp only [zr, GS.some_l, List.length_set, List.length_append, List.length_cons, List.length_nil] at * <;> first | with_reducible assumption | omega)) h31) (And.intro (gc_of (C := cfg) (f := 69) (a := lp69_4) (ks := [4, 10, 11, 12]) (st := (sd67 va3_0)) (st1 := (sd68 va3_0)) (by kernel_rfl) (by (simp only [sd67, sd68, go_sem, List.length_set, Nat.reduceAdd, Nat.reduceEqDiff, Nat.reduceLT, Nat.reduceLeDiff, bI2, za.idsL, za.renL, za.snapAll, z6.idsL, z6.renL, z6.snapAll]) <;> rfl)) (And.intro (And.intro (show zc [(1, ⟨va3_0.map S_Span.D, 2, false⟩)] 256 [1] [] = some [1] from (by (simp only [zc, go_sem, List.length_set, Nat.reduceAdd, Nat.reduceEqDiff, Nat.reduceLT, Nat.reduceLeDiff, bI2, za.idsL, za.renL, za.snapAll, z6.idsL, z6.renL, z6.snapAll]) <;> rfl)) (y8 1 2 none va3_0 (by omega))) trivial))) (by kernel_rfl))) (And.intro p2 (And.intro h1 (And.intro p1 trivial)))) (by kernel_rfl)
      | x3 =>
        try dsimp only
        exact zq ((ranges_Sum_o1 a b va3_0) ++ [.inlS [1] (.tup [.sl true [] 0 none, I 0]) [(1, ⟨(zf ze va3_0).map S_Span.D, 2, false⟩)] 2]) (And.intro (And.intro (show zc [(0, ⟨[.sl a.nl (a.l.map S_Span.D) (zsl a.nl 2) none, .sl b.nl (b.l.map S_Span.D) (zsl b.nl 2) none], 1, false⟩), (1, ⟨va3_0.map S_Span.D, 2, false⟩)] 256 [1] [] = some [1] from (by (simp only [zc, go_sem, List.length_set, Nat.reduceAdd, Nat.reduceEqDiff, Nat.reduceLT, Nat.reduceLeDiff, bI2, za.idsL, za.renL, za.snapAll, z6.idsL, z6.renL, z6.snapAll]) <;> rfl)) (show (lim cfg).inl 69 [.lsl 1 0 va3_0.length 2 none] [(1, ⟨va3_0.map S_Span.D, 2, false⟩)] 2 = some (.tup [.sl true [] 0 none, I 0], [(1, ⟨(zf ze va3_0).map S_Span.D, 2, false⟩)], 2) from zw [.inlS [1] (.tup []) [(1, ⟨(zf ze va3_0).map S_Span.D, 2, false⟩)] 2, .gloop (sd68 va3_0) (.exit 0) (sd72 va3_0), .dec false] (And.intro (Eq.refl false) (And.intro (zX (q := zg va3_0 (zf ze va3_0)) (lp_ranges_gathered_4p1 va3_0 (zf ze va3_0) (zf ze va3_0) 0 (List.drop_zero) (Nat.zero_le _) (by simp only [zr, GS.some_l, List.length_set, List.length_append, List.length_cons, List.length_nil] at * <;> first | with_reducible assumption | omega) (by simp only [zr, GS.some_l, List.length_set, List.length_append, List.length_cons, List.length_nil] at * <;> first | with_reducible assumption | omega)) h31) (And.intro (gc_of (C := cfg) (f := 69) (a := lp69_4) (ks := [4, 10, 11, 12]) (st := (sd67 va3_0)) (st1 := (sd68 va3_0)) (by kernel_rfl) (by (simp only [sd67, sd68, go_sem, List.length_set, Nat.reduceAdd, Nat.reduceEqDiff, Nat.reduceLT, Nat.reduceLeDiff, bI2, za.idsL, za.renL, za.snapAll, z6.idsL, z6.renL, z6.snapAll]) <;> rfl)) (And.intro (And.intro (show zc [(1, ⟨va3_0.map S_Span.D, 2, false⟩)] 256 [1] [] = some [1] from (by (simp only [zc, go_sem, List.length_set, Nat.reduceAdd, Nat.reduceEqDiff, Nat.reduceLT, Nat.reduceLeDiff, bI2, za.idsL, za.renL, za.snapAll, z6.idsL, z6.renL, z6.snapAll]) <;> rfl)) (y8 1 2 none va3_0 (by omega))) trivial)))) (by kernel_rfl))) (And.intro p2 (And.intro h1 (And.intro p1 trivial)))) (by kernel_rfl)
      | x4 i4p1 x4p1 =>
        try dsimp only
        exact zq ((ranges_Sum_o1 a b va3_0) ++ [.inlS [1] (.tup [.sl true [] 0 none, I 2]) [(1, ⟨(zf ze va3_0).map S_Span.D, 2, false⟩), (2, ⟨[.agg [I x4p1.lo, I x4p1.hi]], 2, false⟩)] 3]) (And.intro (And.intro (show zc [(0, ⟨[.sl a.nl (a.l.map S_Span.D) (zsl a.nl 2) none, .sl b.nl (b.l.map S_Span.D) (zsl b.nl 2) none], 1, false⟩), (1, ⟨va3_0.map S_Span.D, 2, false⟩)] 256 [1] [] = some [1] from (by (simp only [zc, go_sem, List.length_set, Nat.reduceAdd, Nat.reduceEqDiff, Nat.reduceLT, Nat.reduceLeDiff, bI2, za.idsL, za.renL, za.snapAll, z6.idsL, z6.renL, z6.snapAll]) <;> rfl)) (show (lim cfg).inl 69 [.lsl 1 0 va3_0.length 2 none] [(1, ⟨va3_0.map S_Span.D, 2, false⟩)] 2 = some (.tup [.sl true [] 0 none, I 2], [(1, ⟨(zf ze va3_0).map S_Span.D, 2, false⟩), (2, ⟨[.agg [I x4p1.lo, I x4p1.hi]], 2, false⟩)], 3) from zw [.inlS [1] (.tup []) [(1, ⟨(zf ze va3_0).map S_Span.D, 2, false⟩)] 2, .gloop (sd68 va3_0) .ret (sd73 va3_0 i4p1 x4p1)] (And.intro (zX (q := zg va3_0 (zf ze va3_0)) (lp_ranges_gathered_4p1 va3_0 (zf ze va3_0) (zf ze va3_0) 0 (List.drop_zero) (Nat.zero_le _) (by simp only [zr, GS.some_l, List.length_set, List.length_append, List.length_cons, List.length_nil] at * <;> first | with_reducible assumption | omega) (by simp only [zr, GS.some_l, List.length_set, List.length_append, List.length_cons, List.length_nil] at * <;> first | with_reducible assumption | omega)) h31) (And.intro (gc_of (C := cfg) (f := 69) (a := lp69_4) (ks := [4, 10, 11, 12]) (st := (sd67 va3_0)) (st1 := (sd68 va3_0)) (by kernel_rfl) (by (simp only [sd67, sd68, go_sem, List.length_set, Nat.reduceAdd, Nat.reduceEqDiff, Nat.reduceLT, Nat.reduceLeDiff, bI2, za.idsL, za.renL, za.snapAll, z6.idsL, z6.renL, z6.snapAll]) <;> rfl)) (And.intro (And.intro (show zc [(1, ⟨va3_0.map S_Span.D, 2, false⟩)] 256 [1] [] = some [1] from (by (simp only [zc, go_sem, List.length_set, Nat.reduceAdd, Nat.reduceEqDiff, Nat.reduceLT, Nat.reduceLeDiff, bI2, za.idsL, za.renL, za.snapAll, z6.idsL, z6.renL, z6.snapAll]) <;> rfl)) (y8 1 2 none va3_0 (by omega))) trivial))) (by kernel_rfl))) (And.intro p2 (And.intro h1 (And.intro p1 trivial)))) (by kernel_rfl)
      | x5 i4p1 x4p1 =>
        try dsimp only
        exact zq ((ranges_Sum_o1 a b va3_0) ++ [.inlS [1] (.tup [.sl true [] 0 none, I 2]) [(1, ⟨(zf ze va3_0).map S_Span.D, 2, false⟩), (2, ⟨[.agg [I x4p1.lo, I x4p1.hi]], 2, false⟩)] 3]) (And.intro (And.intro (show zc [(0, ⟨[.sl a.nl (a.l.map S_Span.D) (zsl a.nl 2) none, .sl b.nl (b.l.map S_Span.D) (zsl b.nl 2) none], 1, false⟩), (1, ⟨va3_0.map S_Span.D, 2, false⟩)] 256 [1] [] = some [1] from (by (simp only [zc, go_sem, List.length_set, Nat.reduceAdd, Nat.reduceEqDiff, Nat.reduceLT, Nat.reduceLeDiff, bI2, za.idsL, za.renL, za.snapAll, z6.idsL, z6.renL, z6.snapAll]) <;> rfl)) (show (lim cfg).inl 69 [.lsl 1 0 va3_0.length 2 none] [(1, ⟨va3_0.map S_Span.D, 2, false⟩)] 2 = some (.tup [.sl true [] 0 none, I 2], [(1, ⟨(zf ze va3_0).map S_Span.D, 2, false⟩), (2, ⟨[.agg [I x4p1.lo, I x4p1.hi]], 2, false⟩)], 3) from zw [.inlS [1] (.tup []) [(1, ⟨(zf ze va3_0).map S_Span.D, 2, false⟩)] 2, .gloop (sd68 va3_0) .ret (sd74 va3_0 i4p1 x4p1)] (And.intro (zX (q := zg va3_0 (zf ze va3_0)) (lp_ranges_gathered_4p1 va3_0 (zf ze va3_0) (zf ze va3_0) 0 (List.drop_zero) (Nat.zero_le _) (by simp only [zr, GS.some_l, List.length_set, List.length_append, List.length_cons, List.length_nil] at * <;> first | with_reducible assumption | omega) (by simp only [zr, GS.some_l, List.length_set, List.length_append, List.length_cons, List.length_nil] at * <;> first | with_reducible assumption | omega)) h31) (And.intro (gc_of (C := cfg) (f := 69) (a := lp69_4) (ks := [4, 10, 11, 12]) (st := (sd67 va3_0)) (st1 := (sd68 va3_0)) (by kernel_rfl) (by (simp only [sd67, sd68, go_sem, List.length_set, Nat.reduceAdd, Nat.reduceEqDiff, Nat.reduceLT, Nat.reduceLeDiff, bI2, za.idsL, za.renL, za.snapAll, z6.idsL, z6.renL, z6.snapAll]) <;> rfl)) (And.intro (And.intro (show zc [(1, ⟨va3_0.map S_Span.D, 2, false⟩)] 256 [1] [] = some [1] from (by (simp only [zc, go_sem, List.length_set, Nat.reduceAdd, Nat.reduceEqDiff, Nat.reduceLT, Nat.reduceLeDiff, bI2, za.idsL, za.renL, za.snapAll, z6.idsL, z6.renL, z6.snapAll]) <;> rfl)) (y8 1 2 none va3_0 (by omega))) trivial))) (by kernel_rfl))) (And.intro p2 (And.intro h1 (And.intro p1 trivial)))) (by kernel_rfl)
    | x1 =>
      try dsimp only
      exact zq [.pure (I (y6 (GS.some [a, b]))), .dec false, .inl (.sl true [] 0 none) [] 1, .inl (.tup [.sl true [] 0 none, I 0]) [] 1] (And.intro (show (lim cfg).inl 69 [.sl true [] 0 none] [] 1 = some (.tup [.sl true [] 0 none, I 0], [], 1) from zw [.inl (.tup []) [] 1, .loop (.exit 0) ⟨65, [(13, B false), (4, .sl true [] 0 none), (10, .sl true [] 0 none), (11, I 0), (12, I 0)], [], 1, 1⟩, .dec false] (And.intro (Eq.refl false) (And.intro (show (lim cfg).loop 69 lp69_4 ⟨65, [(4, .sl true [] 0 none), (10, .sl true [] 0 none), (11, I 0), (12, I 0)], [], 1, 1⟩ = some ((.exit 0), ⟨65, [(13, B false), (4, .sl true [] 0 none), (10, .sl true [] 0 none), (11, I 0), (12, I 0)], [], 1, 1⟩) from (zS [.dec false] (And.intro (Eq.refl false) trivial) (by kernel_rfl))) (And.intro (T_sort_nil 1) trivial))) (by kernel_rfl)) (And.intro (show (lim cfg).inl 87 [.sl a.nl (a.l.map S_Span.D) (zsl a.nl 2) none, .sl b.nl (b.l.map S_Span.D) (zsl b.nl 2) none, .fn (.func 88) [] []] [] 1 = some (.sl true [] 0 none, [], 1) from zw [.rw 15 (I ((a.l.length : Nat) : Int)), .loop (.exit 0) (sd75 a b)] (And.intro (zX (q := lr_ranges_pairs_3 a b) (lp_ranges_pairs_3 a b a.l 0 (List.drop_zero) (Nat.zero_le _) (by omega) (by omega) (by omega)) h18) (And.intro (zG S_Span.D a) trivial)) (by kernel_rfl)) (And.intro h1 (And.intro p1 trivial)))) (by kernel_rfl)
end Go.VS

namespace Go.VS
open Go Go.Proofs
set_option maxHeartbeats 0
set_option linter.unusedSimpArgs false
set_option linter.unusedVariables false
def sd97 (va3p1_0 : List S_Span) : St := ⟨65, [(4, .sl true [] 0 none), (10, .lsl 1 0 va3p1_0.length 2 none), (11, I ((va3p1_0.length : Nat) : Int)), (12, I 0)], [(1, ⟨(zf ze va3p1_0).map S_Span.D, 2, false⟩)], 2, 2⟩

def sd98 (va3p1_0 : List S_Span) (va4p1_0 : List S_Span) : St := ⟨65, [(13, B false), (4, .lsl 2 0 va4p1_0.length 2 none), (10, .lsl 1 0 va3p1_0.length 2 none), (11, I ((va3p1_0.length : Nat) : Int)), (12, I (((zf ze va3p1_0).length : Nat) : Int))], [(1, ⟨(zf ze va3p1_0).map S_Span.D, 2, false⟩), (2, ⟨va4p1_0.map S_Span.D, 2, false⟩)], 3, 2⟩

def sd96 (va3p1_0 : List S_Span) : St := ⟨65, [(12, I 0), (11, I ((va3p1_0.length : Nat) : Int)), (10, .lsl 1 0 va3p1_0.length 2 none), (4, .sl true [] 0 none), (9, .tup []), (8, .lsl 1 0 va3p1_0.length 2 none), (3, I 0), (2, .sl true [] 0 none), (0, .lsl 1 0 va3p1_0.length 2 none)], [(1, ⟨(zf ze va3p1_0).map S_Span.D, 2, false⟩)], 2, 2⟩

def sd99 (va3p1_0 : List S_Span) (va4p1_0 : List S_Span) (i4p1 : Nat) (x4p1 : S_Span) : St := ⟨65, [(3, I 2), (2, .sl true [] 0 none), (25, B true), (24, B true), (23, B false), (22, I x4p1.hi), (21, .lref 3 0 2 1), (20, B false), (19, B false), (18, B true), (17, I x4p1.lo), (16, .lref 3 0 2 0), (6, .lref 3 0 2 0), (15, .agg [I x4p1.lo, I x4p1.hi]), (14, .lref 1 i4p1 2 0), (13, B true), (4, .lsl 2 0 va4p1_0.length 2 none), (10, .lsl 1 0 va3p1_0.length 2 none), (11, I ((va3p1_0.length : Nat) : Int)), (12, I ((i4p1 : Nat) : Int))], [(1, ⟨(zf ze va3p1_0).map S_Span.D, 2, false⟩), (2, ⟨va4p1_0.map S_Span.D, 2, false⟩), (3, ⟨[.agg [I x4p1.lo, I x4p1.hi]], 2, false⟩)], 4, 2⟩

def sd100 (va3p1_0 : List S_Span) (va4p1_0 : List S_Span) (i4p1 : Nat) (x4p1 : S_Span) : St := ⟨65, [(3, I 2), (2, .sl true [] 0 none), (25, B true), (24, .tup []), (23, .tup []), (22, .tup []), (21, .tup []), (20, B true), (19, B true), (18, B false), (17, I x4p1.lo), (16, .lref 3 0 2 0), (6, .lref 3 0 2 0), (15, .agg [I x4p1.lo, I x4p1.hi]), (14, .lref 1 i4p1 2 0), (13, B true), (4, .lsl 2 0 va4p1_0.length 2 none), (10, .lsl 1 0 va3p1_0.length 2 none), (11, I ((va3p1_0.length : Nat) : Int)), (12, I ((i4p1 : Nat) : Int))], [(1, ⟨(zf ze va3p1_0).map S_Span.D, 2, false⟩), (2, ⟨va4p1_0.map S_Span.D, 2, false⟩), (3, ⟨[.agg [I x4p1.lo, I x4p1.hi]], 2, false⟩)], 4, 2⟩

def sd101 (va3p1_0 : List S_Span) : St := ⟨65, [(13, B false), (4, .sl true [] 0 none), (10, .lsl 1 0 va3p1_0.length 2 none), (11, I ((va3p1_0.length : Nat) : Int)), (12, I (((zf ze va3p1_0).length : Nat) : Int))], [(1, ⟨(zf ze va3p1_0).map S_Span.D, 2, false⟩)], 2, 2⟩

def sd102 (va3p1_0 : List S_Span) (i4p1 : Nat) (x4p1 : S_Span) : St := ⟨65, [(3, I 2), (2, .sl true [] 0 none), (25, B true), (24, B true), (23, B false), (22, I x4p1.hi), (21, .lref 2 0 2 1), (20, B false), (19, B false), (18, B true), (17, I x4p1.lo), (16, .lref 2 0 2 0), (6, .lref 2 0 2 0), (15, .agg [I x4p1.lo, I x4p1.hi]), (14, .lref 1 i4p1 2 0), (13, B true), (4, .sl true [] 0 none), (10, .lsl 1 0 va3p1_0.length 2 none), (11, I ((va3p1_0.length : Nat) : Int)), (12, I ((i4p1 : Nat) : Int))], [(1, ⟨(zf ze va3p1_0).map S_Span.D, 2, false⟩), (2, ⟨[.agg [I x4p1.lo, I x4p1.hi]], 2, false⟩)], 3, 2⟩

def sd103 (va3p1_0 : List S_Span) (i4p1 : Nat) (x4p1 : S_Span) : St := ⟨65, [(3, I 2), (2, .sl true [] 0 none), (25, B true), (24, .tup []), (23, .tup []), (22, .tup []), (21, .tup []), (20, B true), (19, B true), (18, B false), (17, I x4p1.lo), (16, .lref 2 0 2 0), (6, .lref 2 0 2 0), (15, .agg [I x4p1.lo, I x4p1.hi]), (14, .lref 1 i4p1 2 0), (13, B true), (4, .sl true [] 0 none), (10, .lsl 1 0 va3p1_0.length 2 none), (11, I ((va3p1_0.length : Nat) : Int)), (12, I ((i4p1 : Nat) : Int))], [(1, ⟨(zf ze va3p1_0).map S_Span.D, 2, false⟩), (2, ⟨[.agg [I x4p1.lo, I x4p1.hi]], 2, false⟩)], 3, 2⟩

end Go.VS

/-
  Ranges: what lies outside. (A text of this claim's own; nothing of it is trusted.)
-/
namespace Go.VS
open Go
set_option maxHeartbeats 0
theorem some_l (lo hi : Int) : (zJ lo hi).l = someS lo hi := by
  unfold zJ someS
  by_cases h : lo > hi
  · rw [decide_eq_true h, if_pos h]; rfl
  · rw [decide_eq_false h, if_neg h]; rfl
theorem emp_app {α : Type} {v l : List α} {β : Type} (f : List α → β) : (bif l.isEmpty then f v else f (v ++ l)) = f (v ++ l) := by
  cases l <;> simp
theorem out4a_len : ∀ (l v : List S_Span) (f : Int), ∃ v' f', ranges_outside_4a l v f = .x0 v' f' ∧ v'.length ≤ v.length + l.length
  | [], v, f => ⟨v, f, rfl, Nat.le_refl _⟩
  | x :: l, v, f => by
    unfold ranges_outside_4a
    rw [emp_app (fun z => ranges_outside_4a l z (w64 (x.hi + 1)))]
    obtain ⟨v', f', e, h⟩ := out4a_len l (v ++ (zJ f (w64 (x.lo - 1))).l) (w64 (x.hi + 1))
    refine ⟨v', f', e, ?_⟩
    have := some1 f (w64 (x.lo - 1))
    simp only [List.length_append, List.length_cons] at h ⊢
    omega
theorem out4_len : ∀ (l : List S_Span) (f : Int), (∃ v' f', ranges_outside_4 l f = .x0 v' f' ∧ v'.length ≤ l.length) ∨ ∃ f', ranges_outside_4 l f = .x1 f'
  | [], f => .inr ⟨f, rfl⟩
  | x :: l, f => by
    unfold ranges_outside_4
    cases he : ((zJ f (w64 (x.lo - 1))).l).isEmpty with
    | true =>
      rcases out4_len l (w64 (x.hi + 1)) with ⟨v', f', e, h⟩ | ⟨f', e⟩
      · exact .inl ⟨v', f', e, by simp only [List.length_cons]; omega⟩
      · exact .inr ⟨f', e⟩
    | false =>
      obtain ⟨v', f', e, h⟩ := out4a_len l ((zJ f (w64 (x.lo - 1))).l) (w64 (x.hi + 1))
      have := some1 f (w64 (x.lo - 1))
      exact .inl ⟨v', f', e, by simp only [List.length_cons]; omega⟩
theorem outsideLen (r : GS S_Span) (h : r.l.length ≤ 64) : (ranges_outside r).l.length ≤ 65 := by
  unfold ranges_outside
  rcases out4_len r.l (-1099511627776) with ⟨v', f', e, h'⟩ | ⟨f', e⟩ <;> rw [e] <;> dsimp only
  · have := some1 f' 1099511627776
    cases ((zJ f' 1099511627776).l).isEmpty <;> simp [GS.some] <;> omega
  · have := some1 f' 1099511627776
    cases ((zJ f' 1099511627776).l).isEmpty <;> simp [GS.some, GS.nil] <;> omega
theorem out4a_eq : ∀ (l v : List S_Span) (f : Int), bd l → ∃ v' f', ranges_outside_4a l v f = .x0 v' f' ∧ v' ++ someS f' 1099511627776 = v ++ outS f l
  | [], v, f, _ => ⟨v, f, rfl, rfl⟩
  | x :: l, v, f, h => by
    have hx := h x List.mem_cons_self
    unfold ranges_outside_4a
    rw [emp_app (fun z => ranges_outside_4a l z (w64 (x.hi + 1))), w64_eq (by omega) (by omega), w64_eq (by omega) (by omega), some_l]
    obtain ⟨v', f', e, k⟩ := out4a_eq l (v ++ someS f (x.lo - 1)) (x.hi + 1) (fun t ht => h t (List.mem_cons_of_mem _ ht))
    exact ⟨v', f', e, by rw [k, List.append_assoc]; rfl⟩
theorem out4_eq : ∀ (l : List S_Span) (f : Int), bd l → (∃ v' f', ranges_outside_4 l f = .x0 v' f' ∧ v' ++ someS f' 1099511627776 = outS f l) ∨ ∃ f', ranges_outside_4 l f = .x1 f' ∧ someS f' 1099511627776 = outS f l
  | [], f, _ => .inr ⟨f, rfl, rfl⟩
  | x :: l, f, h => by
    have hx := h x List.mem_cons_self
    have h' := fun t ht => h t (List.mem_cons_of_mem _ ht)
    unfold ranges_outside_4
    rw [w64_eq (by omega) (by omega), w64_eq (by omega) (by omega), some_l]
    cases he : (someS f (x.lo - 1)).isEmpty with
    | true =>
      have e0 : someS f (x.lo - 1) = [] := by simpa using he
      have e1 : outS f (x :: l) = outS (x.hi + 1) l := by
        show someS f (x.lo - 1) ++ outS (x.hi + 1) l = _
        rw [e0]; rfl
      rw [e1]
      exact out4_eq l (x.hi + 1) h'
    | false =>
      obtain ⟨v', f', e, k⟩ := out4a_eq l (someS f (x.lo - 1)) (x.hi + 1) h'
      exact .inl ⟨v', f', e, k⟩
theorem outside_eq {r : GS S_Span} (h : bd r.l) : (ranges_outside r).l = outS (-1099511627776) r.l := by
  unfold ranges_outside
  rcases out4_eq r.l (-1099511627776) h with ⟨v', f', e, k⟩ | ⟨f', e, k⟩ <;> rw [e] <;> dsimp only <;> rw [some_l, ← k]
  · cases he : (someS f' 1099511627776).isEmpty with
    | true => have e0 : someS f' 1099511627776 = [] := by simpa using he
              rw [e0]; simp [GS.some]
    | false => rfl
  · cases he : (someS f' 1099511627776).isEmpty with
    | true => have e0 : someS f' 1099511627776 = [] := by simpa using he
              rw [e0]; rfl
    | false => rfl
end Go.VS

namespace Go.VS
open Go Go.Proofs
set_option maxHeartbeats 0
set_option linter.unusedSimpArgs false
set_option linter.unusedVariables false
theorem zy (r : GS S_Span) (h : r.l.length ≤ 64) : (ranges_outside r).l.length ≤ 65 := outsideLen r h

end Go.VS

