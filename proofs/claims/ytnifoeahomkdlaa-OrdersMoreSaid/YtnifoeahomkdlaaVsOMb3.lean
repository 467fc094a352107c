/- Nothing of a statement is proved in this text alone: it is part 3 of the proof's own tools, an evaluator of the code over deep values, its soundness, and what it makes of this seat's functions. Conditions: none beyond the statement's own. -/
import Derived.Test.YtnifoeahomkdlaaVsOMb2
set_option linter.unusedSimpArgs false
set_option linter.unusedVariables false
namespace Go.VS
open Go Go.Proofs
set_option maxHeartbeats 0
set_option linter.unusedSimpArgs false
set_option linter.unusedVariables false
def cmp_isNaN (a0 : Int) : Bool :=
  bif (a0 != a0) then
    true
  else
    false

theorem T_cmp_isNaN (a0 : Int) : (lim cfg).pure 111 [I a0] = some (B (cmp_isNaN a0)) := by
  unfold cmp_isNaN
  cases h1 : (a0 != a0) with
  | true =>
    have g1 := bne_true h1
    exact zy [.dec true] (And.intro h1 trivial) (by kernel_rfl)
  | false =>
    have g1 := bne_false h1
    exact zy [.dec false] (And.intro h1 trivial) (by kernel_rfl)

def cmp_Less (a0 : Int) (a1 : Int) : Bool :=
  bif (cmp_isNaN a0) then
    bif (cmp_isNaN a1) then
      bif decide (a0 < a1) then
        true
      else
        false
    else
      true
  else
    bif decide (a0 < a1) then
      true
    else
      false

theorem T_cmp_Less (a0 : Int) (a1 : Int) : (lim cfg).pure 106 [I a0, I a1] = some (B (cmp_Less a0 a1)) := by
  unfold cmp_Less
  cases h1 : (cmp_isNaN a0) with
  | true =>
    cases h2 : (cmp_isNaN a1) with
    | true =>
      cases h3 : decide (a0 < a1) with
      | true =>
        have g3 := of_decide_eq_true h3
        exact zy [.pure (B (cmp_isNaN a0)), .dec true, .pure (B (cmp_isNaN a1)), .dec true, .dec true] (And.intro h3 (And.intro h2 (And.intro (T_cmp_isNaN a1) (And.intro h1 (And.intro (T_cmp_isNaN a0) trivial))))) (by kernel_rfl)
      | false =>
        have g3 := of_decide_eq_false h3
        exact zy [.pure (B (cmp_isNaN a0)), .dec true, .pure (B (cmp_isNaN a1)), .dec true, .dec false] (And.intro h3 (And.intro h2 (And.intro (T_cmp_isNaN a1) (And.intro h1 (And.intro (T_cmp_isNaN a0) trivial))))) (by kernel_rfl)
    | false =>
      exact zy [.pure (B (cmp_isNaN a0)), .dec true, .pure (B (cmp_isNaN a1)), .dec false] (And.intro h2 (And.intro (T_cmp_isNaN a1) (And.intro h1 (And.intro (T_cmp_isNaN a0) trivial)))) (by kernel_rfl)
  | false =>
    cases h4 : decide (a0 < a1) with
    | true =>
      have g4 := of_decide_eq_true h4
      exact zy [.pure (B (cmp_isNaN a0)), .dec false, .dec true] (And.intro h4 (And.intro h1 (And.intro (T_cmp_isNaN a0) trivial))) (by kernel_rfl)
    | false =>
      have g4 := of_decide_eq_false h4
      exact zy [.pure (B (cmp_isNaN a0)), .dec false, .dec false] (And.intro h4 (And.intro h1 (And.intro (T_cmp_isNaN a0) trivial))) (by kernel_rfl)

def bl12 (n : Int) : Int := [0,1,2,2,3,3,3,3,4,4,4,4,4].getD n.toNat 0
theorem T_bl {n : Int} (h0 : 0 ≤ n) (h1 : n ≤ 12) : (lim cfg).pure 81 [.val (.int .u64 (IntKind.u64.wrap n))] = some (I (bl12 n)) := by
  have : n = 0 ∨ n = 1 ∨ n = 2 ∨ n = 3 ∨ n = 4 ∨ n = 5 ∨ n = 6 ∨ n = 7 ∨ n = 8 ∨ n = 9 ∨ n = 10 ∨ n = 11 ∨ n = 12 := by omega
  rcases this with rfl | rfl | rfl | rfl | rfl | rfl | rfl | rfl | rfl | rfl | rfl | rfl | rfl <;> exact lim_pure.2 ⟨10, by kernel_rfl⟩

noncomputable def lp100_4 : Code := subC [1, 0, 0, 1, 0, 0, 1, 0, 0] (bodyC Try.f100)

def sd58 (l : List Int) (q4_0 : Int) (v4_0 : Int) (v4_1 : List Int) : St := ⟨49, [(7, I (w64 (v4_0 - 1))), (32, I (w64 (v4_0 - 1))), (31, I v4_0), (48, .lref 1 ((w64 (v4_0 - 1)).toNat) 1 0), (47, .lref 1 ((v4_0).toNat) 1 0), (46, I (v4_1.getD ((v4_0).toNat) default)), (45, .lref 1 ((v4_0).toNat) 1 0), (44, I v4_0), (43, .lsl 1 0 l.length 1 (some 4)), (42, I (v4_1.getD ((w64 (v4_0 - 1)).toNat) default)), (41, .lref 1 ((w64 (v4_0 - 1)).toNat) 1 0), (40, I (w64 (v4_0 - 1))), (39, I v4_0), (38, .lsl 1 0 l.length 1 (some 4)), (37, I (w64 (v4_0 - 1))), (36, I v4_0), (35, .lsl 1 0 l.length 1 (some 4)), (34, I v4_0), (33, .lsl 1 0 l.length 1 (some 4)), (30, B true), (29, B true), (28, I (v4_1.getD ((w64 (v4_0 - 1)).toNat) default)), (27, .lref 1 ((w64 (v4_0 - 1)).toNat) 1 0), (26, I (w64 (v4_0 - 1))), (25, I v4_0), (24, .lsl 1 0 l.length 1 (some 4)), (23, I (v4_1.getD ((v4_0).toNat) default)), (22, .lref 1 ((v4_0).toNat) 1 0), (21, I v4_0), (20, .lsl 1 0 l.length 1 (some 4)), (19, B true), (18, B true), (17, I 0), (16, I v4_0), (0, .lsl 1 0 l.length 1 (some 4)), (1, I 0), (2, I ((l.length : Nat) : Int)), (6, I q4_0), (7, I v4_0)], [(1, ⟨((v4_1.set ((v4_0).toNat) (v4_1.getD ((w64 (v4_0 - 1)).toNat) default)).set ((w64 (v4_0 - 1)).toNat) (v4_1.getD ((v4_0).toNat) default)).map I, 1, false⟩)], 2, 2⟩

inductive LR_isort4_4 where
  | x0 (v4_0 : Int) (v4_1 : List Int)
  | x1 (v4_0 : Int) (v4_1 : List Int)
  | out
instance : Inhabited LR_isort4_4 := ⟨.out⟩
def isort4_4 : Nat → Int → (List Int) → LR_isort4_4
  | 0, _, _ => .out
  | rest4 + 1, v4_0, v4_1 =>
    bif decide (v4_0 > 0) then
      bif (cmp_Less (v4_1.getD ((v4_0).toNat) default) (v4_1.getD ((w64 (v4_0 - 1)).toNat) default)) then
        isort4_4 rest4 (w64 (v4_0 - 1)) ((v4_1.set ((v4_0).toNat) (v4_1.getD ((w64 (v4_0 - 1)).toNat) default)).set ((w64 (v4_0 - 1)).toNat) (v4_1.getD ((v4_0).toNat) default))
      else
        .x0 v4_0 v4_1
    else
      .x1 v4_0 v4_1
def lr_isort4_4 (l : List Int) (q4_0 : Int) : LR_isort4_4 → Exit × St
  | .x0 v4_0 v4_1 => ((.exit 2), ⟨49, [(30, B false), (29, B false), (28, I (v4_1.getD ((w64 (v4_0 - 1)).toNat) default)), (27, .lref 1 ((w64 (v4_0 - 1)).toNat) 1 0), (26, I (w64 (v4_0 - 1))), (25, I v4_0), (24, .lsl 1 0 l.length 1 (some 4)), (23, I (v4_1.getD ((v4_0).toNat) default)), (22, .lref 1 ((v4_0).toNat) 1 0), (21, I v4_0), (20, .lsl 1 0 l.length 1 (some 4)), (19, B true), (18, B true), (17, I 0), (16, I v4_0), (0, .lsl 1 0 l.length 1 (some 4)), (1, I 0), (2, I ((l.length : Nat) : Int)), (6, I q4_0), (7, I v4_0)], [(1, ⟨v4_1.map I, 1, false⟩)], 2, 2⟩)
  | .x1 v4_0 v4_1 => ((.exit 2), ⟨49, [(30, B false), (29, .tup []), (28, .tup []), (27, .tup []), (26, .tup []), (25, .tup []), (24, .tup []), (23, .tup []), (22, .tup []), (21, .tup []), (20, .tup []), (19, B false), (18, B false), (17, I 0), (16, I v4_0), (0, .lsl 1 0 l.length 1 (some 4)), (1, I 0), (2, I ((l.length : Nat) : Int)), (6, I q4_0), (7, I v4_0)], [(1, ⟨v4_1.map I, 1, false⟩)], 2, 2⟩)
  | .out => (.normal, ⟨0, [], [], 0, 0⟩)
def iv_isort4_4 (l : List Int) (q4_0 : Int) : LR_isort4_4 → Prop
  | .x0 v4_0 v4_1 => (0 ≤ v4_0 ∧ v4_0 < ((l.length : Nat) : Int) ∧ l.length ≤ 12) ∧ (v4_1.length = l.length)
  | .x1 v4_0 v4_1 => (0 ≤ v4_0 ∧ v4_0 < ((l.length : Nat) : Int) ∧ l.length ≤ 12) ∧ (v4_1.length = l.length)
  | .out => True
def isort4_4_f_o1 (v4_0 : Int) (v4_1 : List Int) : List Ora := [.dec true, .op (some 22) ⟨.lref 1 ((v4_0).toNat) 1 0, [], [], 2⟩, .op (some 23) ⟨I (v4_1.getD ((v4_0).toNat) default), [], [1], 2⟩, .op (some 27) ⟨.lref 1 ((w64 (v4_0 - 1)).toNat) 1 0, [], [], 2⟩, .op (some 28) ⟨I (v4_1.getD ((w64 (v4_0 - 1)).toNat) default), [], [1], 2⟩, .pure (B (cmp_Less (v4_1.getD ((v4_0).toNat) default) (v4_1.getD ((w64 (v4_0 - 1)).toNat) default)))]
theorem lp_isort4_4 (l : List Int) (q4_0 : Int) : ∀ (rest4 : Nat) (v4_0 : Int) (v4_1 : List Int) (hf4 : isort4_4 rest4 v4_0 v4_1 ≠ .out) (hj : 0 ≤ v4_0 ∧ v4_0 < ((l.length : Nat) : Int) ∧ l.length ≤ 12) (hl4_v4_1 : v4_1.length = l.length), (lim cfg).loop 100 lp100_4 ⟨49, [(0, .lsl 1 0 l.length 1 (some 4)), (1, I 0), (2, I ((l.length : Nat) : Int)), (6, I q4_0), (7, I v4_0)], [(1, ⟨v4_1.map I, 1, false⟩)], 2, 2⟩ = some (lr_isort4_4 l q4_0 (isort4_4 rest4 v4_0 v4_1)) := by
  intro rest4
  induction rest4 with
  | zero =>
    intro v4_0 v4_1 hf4 hj hl4_v4_1
    exact absurd rfl hf4
  | succ rest4 ih =>
    intro v4_0 v4_1 hf4 hj hl4_v4_1
    unfold isort4_4 at hf4 ⊢
    revert hf4
    cases h8 : decide (v4_0 > 0) with
    | true =>
      have g8 := of_decide_eq_true h8
      have p1 := (idx_row (C := cfg) (nxt := 2) (t := 37) (ty := ty37) (te := ty3) (e := 3) (o := 1) (len := l.length) (sz := 1) (cap := (some 4)) (i := v4_0) (by kernel_rfl) rfl (by kernel_rfl) rfl (by first | assumption | omega) (by first | assumption | omega))
      have p2 := (load_row (C := cfg) (objs := [(1, ⟨v4_1.map I, 1, false⟩)]) (nxt := 2) (t := 3) (ty := ty3) (o := 1) (n := (v4_0).toNat) (sz := 1) (sub := 0) (ob := ⟨v4_1.map I, 1, false⟩) (e := I (v4_1.getD ((v4_0).toNat) default)) (d := I (v4_1.getD ((v4_0).toNat) default)) (by kernel_rfl) (by kernel_rfl) rfl (row_get (f := I) (by first | assumption | omega)) (by kernel_rfl))
      have p3 := (idx_row (C := cfg) (nxt := 2) (t := 37) (ty := ty37) (te := ty3) (e := 3) (o := 1) (len := l.length) (sz := 1) (cap := (some 4)) (i := w64 (v4_0 - 1)) (by kernel_rfl) rfl (by kernel_rfl) rfl (by first | assumption | omega | (simp only [zc] at * <;> omega)) (by first | assumption | omega | (simp only [zc] at * <;> omega)))
      have p4 := (load_row (C := cfg) (objs := [(1, ⟨v4_1.map I, 1, false⟩)]) (nxt := 2) (t := 3) (ty := ty3) (o := 1) (n := (w64 (v4_0 - 1)).toNat) (sz := 1) (sub := 0) (ob := ⟨v4_1.map I, 1, false⟩) (e := I (v4_1.getD ((w64 (v4_0 - 1)).toNat) default)) (d := I (v4_1.getD ((w64 (v4_0 - 1)).toNat) default)) (by kernel_rfl) (by kernel_rfl) rfl (row_get (f := I) (by first | assumption | omega | (simp only [zc] at * <;> omega))) (by kernel_rfl))
      have p5 := (T_cmp_Less (v4_1.getD ((v4_0).toNat) default) (v4_1.getD ((w64 (v4_0 - 1)).toNat) default))
      cases h9 : (cmp_Less (v4_1.getD ((v4_0).toNat) default) (v4_1.getD ((w64 (v4_0 - 1)).toNat) default)) with
      | true =>
        intro hf4
        exact po_turn' (ks := [0, 1, 2, 6, 7]) (st' := (sd58 l q4_0 v4_0 v4_1)) ((isort4_4_f_o1 v4_0 v4_1) ++ [.dec true, .op (some 41) ⟨.lref 1 ((w64 (v4_0 - 1)).toNat) 1 0, [], [], 2⟩, .op (some 42) ⟨I (v4_1.getD ((w64 (v4_0 - 1)).toNat) default), [], [1], 2⟩, .op (some 45) ⟨.lref 1 ((v4_0).toNat) 1 0, [], [], 2⟩, .op (some 46) ⟨I (v4_1.getD ((v4_0).toNat) default), [], [1], 2⟩, .op (some 47) ⟨.lref 1 ((v4_0).toNat) 1 0, [], [], 2⟩, .stS 1 ⟨.tup [], [(1, some ⟨(v4_1.set ((v4_0).toNat) (v4_1.getD ((w64 (v4_0 - 1)).toNat) default)).map I, 1, false⟩)], [1], 2⟩, .op (some 48) ⟨.lref 1 ((w64 (v4_0 - 1)).toNat) 1 0, [], [], 2⟩, .stS 1 ⟨.tup [], [(1, some ⟨((v4_1.set ((v4_0).toNat) (v4_1.getD ((w64 (v4_0 - 1)).toNat) default)).set ((w64 (v4_0 - 1)).toNat) (v4_1.getD ((v4_0).toNat) default)).map I, 1, false⟩)], [1], 2⟩]) (And.intro (store_row (C := cfg) (objs := [(1, ⟨(v4_1.set ((v4_0).toNat) (v4_1.getD ((w64 (v4_0 - 1)).toNat) default)).map I, 1, false⟩)]) (nxt := 2) (t := 3) (ty := ty3) (o := 1) (n := (w64 (v4_0 - 1)).toNat) (sz := 1) (sub := 0) (els := (v4_1.set ((v4_0).toNat) (v4_1.getD ((w64 (v4_0 - 1)).toNat) default)).map I) (els' := ((v4_1.set ((v4_0).toNat) (v4_1.getD ((w64 (v4_0 - 1)).toNat) default)).set ((w64 (v4_0 - 1)).toNat) (v4_1.getD ((v4_0).toNat) default)).map I) (e := I ((v4_1.set ((v4_0).toNat) (v4_1.getD ((w64 (v4_0 - 1)).toNat) default)).getD ((w64 (v4_0 - 1)).toNat) default)) (e' := I (v4_1.getD ((v4_0).toNat) default)) (v := I (v4_1.getD ((v4_0).toNat) default)) (by kernel_rfl) (by kernel_rfl) (row_get (f := I) (by first | assumption | omega | (simp only [zc] at * <;> omega) | (simp only [zd, GS.some_l, List.length_set, List.length_append, List.length_cons, List.length_nil] at * <;> first | with_reducible assumption | omega) | (simp only [zd, GS.some_l, List.length_set, List.length_append, List.length_cons, List.length_nil, zc] at * <;> first | with_reducible assumption | omega) | (simp at * <;> omega))) rfl (by kernel_rfl) rfl (by kernel_rfl) (row_set (f := I))) (And.intro (idx_row (C := cfg) (nxt := 2) (t := 37) (ty := ty37) (te := ty3) (e := 3) (o := 1) (len := l.length) (sz := 1) (cap := (some 4)) (i := w64 (v4_0 - 1)) (by kernel_rfl) rfl (by kernel_rfl) rfl (by first | assumption | omega | (simp only [zc] at * <;> omega)) (by first | assumption | omega | (simp only [zc] at * <;> omega))) (And.intro (store_row (C := cfg) (objs := [(1, ⟨v4_1.map I, 1, false⟩)]) (nxt := 2) (t := 3) (ty := ty3) (o := 1) (n := (v4_0).toNat) (sz := 1) (sub := 0) (els := v4_1.map I) (els' := (v4_1.set ((v4_0).toNat) (v4_1.getD ((w64 (v4_0 - 1)).toNat) default)).map I) (e := I (v4_1.getD ((v4_0).toNat) default)) (e' := I (v4_1.getD ((w64 (v4_0 - 1)).toNat) default)) (v := I (v4_1.getD ((w64 (v4_0 - 1)).toNat) default)) (by kernel_rfl) (by kernel_rfl) (row_get (f := I) (by first | assumption | omega)) rfl (by kernel_rfl) rfl (by kernel_rfl) (row_set (f := I))) (And.intro (idx_row (C := cfg) (nxt := 2) (t := 37) (ty := ty37) (te := ty3) (e := 3) (o := 1) (len := l.length) (sz := 1) (cap := (some 4)) (i := v4_0) (by kernel_rfl) rfl (by kernel_rfl) rfl (by first | assumption | omega) (by first | assumption | omega)) (And.intro (load_row (C := cfg) (objs := [(1, ⟨v4_1.map I, 1, false⟩)]) (nxt := 2) (t := 3) (ty := ty3) (o := 1) (n := (v4_0).toNat) (sz := 1) (sub := 0) (ob := ⟨v4_1.map I, 1, false⟩) (e := I (v4_1.getD ((v4_0).toNat) default)) (d := I (v4_1.getD ((v4_0).toNat) default)) (by kernel_rfl) (by kernel_rfl) rfl (row_get (f := I) (by first | assumption | omega)) (by kernel_rfl)) (And.intro (idx_row (C := cfg) (nxt := 2) (t := 37) (ty := ty37) (te := ty3) (e := 3) (o := 1) (len := l.length) (sz := 1) (cap := (some 4)) (i := v4_0) (by kernel_rfl) rfl (by kernel_rfl) rfl (by first | assumption | omega) (by first | assumption | omega)) (And.intro (load_row (C := cfg) (objs := [(1, ⟨v4_1.map I, 1, false⟩)]) (nxt := 2) (t := 3) (ty := ty3) (o := 1) (n := (w64 (v4_0 - 1)).toNat) (sz := 1) (sub := 0) (ob := ⟨v4_1.map I, 1, false⟩) (e := I (v4_1.getD ((w64 (v4_0 - 1)).toNat) default)) (d := I (v4_1.getD ((w64 (v4_0 - 1)).toNat) default)) (by kernel_rfl) (by kernel_rfl) rfl (row_get (f := I) (by first | assumption | omega | (simp only [zc] at * <;> omega))) (by kernel_rfl)) (And.intro (idx_row (C := cfg) (nxt := 2) (t := 37) (ty := ty37) (te := ty3) (e := 3) (o := 1) (len := l.length) (sz := 1) (cap := (some 4)) (i := w64 (v4_0 - 1)) (by kernel_rfl) rfl (by kernel_rfl) rfl (by first | assumption | omega | (simp only [zc] at * <;> omega)) (by first | assumption | omega | (simp only [zc] at * <;> omega))) (And.intro h9 (And.intro p5 (And.intro p4 (And.intro p3 (And.intro p2 (And.intro p1 (And.intro h8 trivial))))))))))))))) (by kernel_rfl) (by (simp only [sd58, go_sem, Nat.reduceAdd, Nat.reduceEqDiff, Nat.reduceLT, Nat.reduceLeDiff, bI2, zx.idsL, zx.renL, zx.snapAll, z7.idsL, z7.renL, z7.snapAll]) <;> rfl) (ih (w64 (v4_0 - 1)) ((v4_1.set ((v4_0).toNat) (v4_1.getD ((w64 (v4_0 - 1)).toNat) default)).set ((w64 (v4_0 - 1)).toNat) (v4_1.getD ((v4_0).toNat) default)) hf4 (by first | assumption | omega | (simp only [zc] at * <;> omega)) (by first | assumption | omega | (simp only [zc] at * <;> omega) | (simp only [zd, GS.some_l, List.length_set, List.length_append, List.length_cons, List.length_nil] at * <;> first | with_reducible assumption | omega) | (simp only [zd, GS.some_l, List.length_set, List.length_append, List.length_cons, List.length_nil, zc] at * <;> first | with_reducible assumption | omega) | (simp at * <;> omega))) (by kernel_rfl)
      | false =>
        intro hf4
        exact zQ ((isort4_4_f_o1 v4_0 v4_1) ++ [.dec false]) (And.intro h9 (And.intro p5 (And.intro p4 (And.intro p3 (And.intro p2 (And.intro p1 (And.intro h8 trivial))))))) (by kernel_rfl)
    | false =>
      have g8 := of_decide_eq_false h8
      intro hf4
      exact zQ [.dec false] (And.intro h8 trivial) (by kernel_rfl)
theorem ivt_isort4_4 (l : List Int) (q4_0 : Int) : ∀ (rest4 : Nat) (v4_0 : Int) (v4_1 : List Int) (hf4 : isort4_4 rest4 v4_0 v4_1 ≠ .out) (hj : 0 ≤ v4_0 ∧ v4_0 < ((l.length : Nat) : Int) ∧ l.length ≤ 12) (hl4_v4_1 : v4_1.length = l.length), iv_isort4_4 l q4_0 (isort4_4 rest4 v4_0 v4_1) := by
  intro rest4
  induction rest4 with
  | zero =>
    intro v4_0 v4_1 hf4 hj hl4_v4_1
    exact absurd rfl hf4
  | succ rest4 ih =>
    intro v4_0 v4_1 hf4 hj hl4_v4_1
    unfold isort4_4 at hf4 ⊢
    revert hf4
    cases h8 : decide (v4_0 > 0) with
    | true =>
      have g8 := of_decide_eq_true h8
      cases h9 : (cmp_Less (v4_1.getD ((v4_0).toNat) default) (v4_1.getD ((w64 (v4_0 - 1)).toNat) default)) with
      | true =>
        intro hf4
        exact ih (w64 (v4_0 - 1)) ((v4_1.set ((v4_0).toNat) (v4_1.getD ((w64 (v4_0 - 1)).toNat) default)).set ((w64 (v4_0 - 1)).toNat) (v4_1.getD ((v4_0).toNat) default)) hf4 (by first | assumption | omega | (simp only [zc] at * <;> omega)) (by first | assumption | omega | (simp only [zc] at * <;> omega) | (simp only [zd, GS.some_l, List.length_set, List.length_append, List.length_cons, List.length_nil] at * <;> first | with_reducible assumption | omega) | (simp only [zd, GS.some_l, List.length_set, List.length_append, List.length_cons, List.length_nil, zc] at * <;> first | with_reducible assumption | omega) | (simp at * <;> omega))
      | false =>
        intro hf4
        exact ⟨hj, hl4_v4_1⟩
    | false =>
      have g8 := of_decide_eq_false h8
      intro hf4
      exact ⟨hj, hl4_v4_1⟩

theorem isort4_ne : ∀ (n : Nat) (j : Int) (v : List Int), 0 ≤ j → j < n → j ≤ 12 → isort4_4 n j v ≠ .out
  | 0, j, v, h0, h1, _ => by omega
  | n + 1, j, v, h0, h1, h5 => by
    unfold isort4_4
    cases h2 : decide (j > 0) with
    | false => simp
    | true =>
      have := of_decide_eq_true h2
      cases h3 : cmp_Less (v.getD j.toNat default) (v.getD (w64 (j - 1)).toNat default) with
      | false => simp
      | true =>
        simp only [cond_true]
        exact isort4_ne n _ _ (by rw [w64_eq (by omega) (by omega)]; omega) (by rw [w64_eq (by omega) (by omega)]; omega) (by rw [w64_eq (by omega) (by omega)]; omega)

noncomputable def lp100_1 : Code := subC [1, 0, 0] (bodyC Try.f100)

def sd65 (l : List Int) (i1 : Nat) (v4_0 : Int) (v4_1 : List Int) : St := ⟨49, [(6, I ((i1 + 1 : Nat) : Int)), (14, I ((i1 + 1 : Nat) : Int)), (13, I ((i1 : Nat) : Int)), (30, B false), (29, B false), (28, I (v4_1.getD ((w64 (v4_0 - 1)).toNat) default)), (27, .lref 1 ((w64 (v4_0 - 1)).toNat) 1 0), (26, I (w64 (v4_0 - 1))), (25, I v4_0), (24, .lsl 1 0 l.length 1 (some 4)), (23, I (v4_1.getD ((v4_0).toNat) default)), (22, .lref 1 ((v4_0).toNat) 1 0), (21, I v4_0), (20, .lsl 1 0 l.length 1 (some 4)), (19, B true), (18, B true), (17, I 0), (16, I v4_0), (0, .lsl 1 0 l.length 1 (some 4)), (1, I 0), (2, I ((l.length : Nat) : Int)), (6, I ((i1 : Nat) : Int)), (7, I v4_0)], [(1, ⟨v4_1.map I, 1, false⟩)], 2, 2⟩

def sd64 (l : List Int) (i1 : Nat) (v1_0 : List Int) : St := ⟨49, [(0, .lsl 1 0 l.length 1 (some 4)), (1, I 0), (2, I ((l.length : Nat) : Int)), (6, I ((i1 : Nat) : Int)), (7, I ((i1 : Nat) : Int))], [(1, ⟨v1_0.map I, 1, false⟩)], 2, 2⟩

def sd61 (l : List Int) (i1 : Nat) (v4_0 : Int) (v4_1 : List Int) : St := ⟨49, [(30, B false), (29, B false), (28, I (v4_1.getD ((w64 (v4_0 - 1)).toNat) default)), (27, .lref 1 ((w64 (v4_0 - 1)).toNat) 1 0), (26, I (w64 (v4_0 - 1))), (25, I v4_0), (24, .lsl 1 0 l.length 1 (some 4)), (23, I (v4_1.getD ((v4_0).toNat) default)), (22, .lref 1 ((v4_0).toNat) 1 0), (21, I v4_0), (20, .lsl 1 0 l.length 1 (some 4)), (19, B true), (18, B true), (17, I 0), (16, I v4_0), (0, .lsl 1 0 l.length 1 (some 4)), (1, I 0), (2, I ((l.length : Nat) : Int)), (6, I ((i1 : Nat) : Int)), (7, I v4_0)], [(1, ⟨v4_1.map I, 1, false⟩)], 2, 2⟩

def sd63 (l : List Int) (i1 : Nat) (v1_0 : List Int) : St := ⟨49, [(7, I ((i1 : Nat) : Int)), (15, I ((i1 : Nat) : Int)), (12, B true), (11, I ((l.length : Nat) : Int)), (10, I ((i1 : Nat) : Int)), (0, .lsl 1 0 l.length 1 (some 4)), (1, I 0), (2, I ((l.length : Nat) : Int)), (6, I ((i1 : Nat) : Int))], [(1, ⟨v1_0.map I, 1, false⟩)], 2, 2⟩

def sd66 (l : List Int) (i1 : Nat) (v4_0 : Int) (v4_1 : List Int) : St := ⟨49, [(6, I ((i1 + 1 : Nat) : Int)), (14, I ((i1 + 1 : Nat) : Int)), (13, I ((i1 : Nat) : Int)), (30, B false), (29, .tup []), (28, .tup []), (27, .tup []), (26, .tup []), (25, .tup []), (24, .tup []), (23, .tup []), (22, .tup []), (21, .tup []), (20, .tup []), (19, B false), (18, B false), (17, I 0), (16, I v4_0), (0, .lsl 1 0 l.length 1 (some 4)), (1, I 0), (2, I ((l.length : Nat) : Int)), (6, I ((i1 : Nat) : Int)), (7, I v4_0)], [(1, ⟨v4_1.map I, 1, false⟩)], 2, 2⟩

def sd62 (l : List Int) (i1 : Nat) (v4_0 : Int) (v4_1 : List Int) : St := ⟨49, [(30, B false), (29, .tup []), (28, .tup []), (27, .tup []), (26, .tup []), (25, .tup []), (24, .tup []), (23, .tup []), (22, .tup []), (21, .tup []), (20, .tup []), (19, B false), (18, B false), (17, I 0), (16, I v4_0), (0, .lsl 1 0 l.length 1 (some 4)), (1, I 0), (2, I ((l.length : Nat) : Int)), (6, I ((i1 : Nat) : Int)), (7, I v4_0)], [(1, ⟨v4_1.map I, 1, false⟩)], 2, 2⟩

inductive LR_isort4_1 where
  | x0 (i1 : Nat) (v1_0 : List Int)
instance : Inhabited LR_isort4_1 := ⟨.x0 default default⟩
def isort4_1 : Nat → Nat → (List Int) → LR_isort4_1
  | 0, i1, v1_0 => .x0 i1 v1_0
  | rest1 + 1, i1, v1_0 =>
    match isort4_4 (i1 + 1) ((i1 : Nat) : Int) v1_0 with
    | .x0 v4_0 v4_1 =>
      isort4_1 rest1 (i1 + 1) v4_1
    | .x1 v4_0 v4_1 =>
      isort4_1 rest1 (i1 + 1) v4_1
    | .out =>
      default
def lr_isort4_1 (l : List Int) : LR_isort4_1 → Exit × St
  | .x0 i1 v1_0 => ((.exit 0), ⟨49, [(12, B false), (11, I ((l.length : Nat) : Int)), (10, I ((i1 : Nat) : Int)), (0, .lsl 1 0 l.length 1 (some 4)), (1, I 0), (2, I ((l.length : Nat) : Int)), (6, I ((i1 : Nat) : Int))], [(1, ⟨v1_0.map I, 1, false⟩)], 2, 2⟩)
def iv_isort4_1 (l : List Int) : LR_isort4_1 → Prop
  | .x0 i1 v1_0 => (v1_0.length = l.length)
theorem lp_isort4_1 (l : List Int) : ∀ (rest1 : Nat) (i1 : Nat) (v1_0 : List Int) (hk1 : (((l.length : Nat) : Int) - ((i1 : Nat) : Int)).toNat = rest1) (hN1 : ((l.length : Nat) : Int) ≤ 9223372036854775807) (hn : l.length ≤ 12) (hl1_v1_0 : v1_0.length = l.length), (lim cfg).loop 100 lp100_1 ⟨49, [(0, .lsl 1 0 l.length 1 (some 4)), (1, I 0), (2, I ((l.length : Nat) : Int)), (6, I ((i1 : Nat) : Int))], [(1, ⟨v1_0.map I, 1, false⟩)], 2, 2⟩ = some (lr_isort4_1 l (isort4_1 rest1 i1 v1_0)) := by
  intro rest1
  induction rest1 with
  | zero =>
    intro i1 v1_0 hk1 hN1 hn hl1_v1_0
    unfold isort4_1
    exact zQ [.dec false] (And.intro (ct_no hk1) trivial) (by kernel_rfl)
  | succ rest1 ih =>
    intro i1 v1_0 hk1 hN1 hn hl1_v1_0
    have hlt1 := of_decide_eq_true (ct_at hk1)
    unfold isort4_1
    cases h10 : isort4_4 (i1 + 1) ((i1 : Nat) : Int) v1_0 with
    | x0 v4_0 v4_1 =>
      try dsimp only
      have hv_h10 := ivt_isort4_4 l ((i1 : Nat) : Int) (i1 + 1) ((i1 : Nat) : Int) v1_0 (isort4_ne (i1 + 1) _ _ (by omega) (by omega) (by omega)) (by first | assumption | omega) (by first | assumption | omega)
      rw [h10] at hv_h10
      obtain ⟨hv_h10_0, hv_h10_1⟩ := hv_h10
      try dsimp only [iv_isort4_4] at hv_h10_0
      try dsimp only [iv_isort4_4] at hv_h10_1
      exact po_turn' (ks := [0, 1, 2, 6]) (st' := (sd65 l i1 v4_0 v4_1)) [.dec true, .gloop (sd64 l i1 v1_0) (.exit 2) (sd61 l i1 v4_0 v4_1), .rw 14 (I ((i1 + 1 : Nat) : Int))] (And.intro (inc_rw (i := i1) (by first | assumption | omega)) (And.intro (po_lr (q := lr_isort4_4 l ((i1 : Nat) : Int)) (lp_isort4_4 l ((i1 : Nat) : Int) (i1 + 1) ((i1 : Nat) : Int) v1_0 (isort4_ne (i1 + 1) _ _ (by omega) (by omega) (by omega)) (by first | assumption | omega) (by first | assumption | omega)) h10) (And.intro (gc_of (C := cfg) (f := 100) (a := lp100_4) (ks := [0, 1, 2, 6, 7]) (st := (sd63 l i1 v1_0)) (st1 := (sd64 l i1 v1_0)) (by kernel_rfl) (by (simp only [sd63, sd64, go_sem, Nat.reduceAdd, Nat.reduceEqDiff, Nat.reduceLT, Nat.reduceLeDiff, bI2, zx.idsL, zx.renL, zx.snapAll, z7.idsL, z7.renL, z7.snapAll]) <;> rfl)) (And.intro (ct_at hk1) trivial)))) (by kernel_rfl) (by (simp only [sd65, go_sem, Nat.reduceAdd, Nat.reduceEqDiff, Nat.reduceLT, Nat.reduceLeDiff, bI2, zx.idsL, zx.renL, zx.snapAll, z7.idsL, z7.renL, z7.snapAll]) <;> rfl) (ih (i1 + 1) v4_1 (by omega) hN1 (by first | assumption | omega) (by first | assumption | omega)) (by kernel_rfl)
    | x1 v4_0 v4_1 =>
      try dsimp only
      have hv_h10 := ivt_isort4_4 l ((i1 : Nat) : Int) (i1 + 1) ((i1 : Nat) : Int) v1_0 (isort4_ne (i1 + 1) _ _ (by omega) (by omega) (by omega)) (by first | assumption | omega) (by first | assumption | omega)
      rw [h10] at hv_h10
      obtain ⟨hv_h10_0, hv_h10_1⟩ := hv_h10
      try dsimp only [iv_isort4_4] at hv_h10_0
      try dsimp only [iv_isort4_4] at hv_h10_1
      exact po_turn' (ks := [0, 1, 2, 6]) (st' := (sd66 l i1 v4_0 v4_1)) [.dec true, .gloop (sd64 l i1 v1_0) (.exit 2) (sd62 l i1 v4_0 v4_1), .rw 14 (I ((i1 + 1 : Nat) : Int))] (And.intro (inc_rw (i := i1) (by first | assumption | omega)) (And.intro (po_lr (q := lr_isort4_4 l ((i1 : Nat) : Int)) (lp_isort4_4 l ((i1 : Nat) : Int) (i1 + 1) ((i1 : Nat) : Int) v1_0 (isort4_ne (i1 + 1) _ _ (by omega) (by omega) (by omega)) (by first | assumption | omega) (by first | assumption | omega)) h10) (And.intro (gc_of (C := cfg) (f := 100) (a := lp100_4) (ks := [0, 1, 2, 6, 7]) (st := (sd63 l i1 v1_0)) (st1 := (sd64 l i1 v1_0)) (by kernel_rfl) (by (simp only [sd63, sd64, go_sem, Nat.reduceAdd, Nat.reduceEqDiff, Nat.reduceLT, Nat.reduceLeDiff, bI2, zx.idsL, zx.renL, zx.snapAll, z7.idsL, z7.renL, z7.snapAll]) <;> rfl)) (And.intro (ct_at hk1) trivial)))) (by kernel_rfl) (by (simp only [sd66, go_sem, Nat.reduceAdd, Nat.reduceEqDiff, Nat.reduceLT, Nat.reduceLeDiff, bI2, zx.idsL, zx.renL, zx.snapAll, z7.idsL, z7.renL, z7.snapAll]) <;> rfl) (ih (i1 + 1) v4_1 (by omega) hN1 (by first | assumption | omega) (by first | assumption | omega)) (by kernel_rfl)
    | out =>
      exact absurd h10 (isort4_ne (i1 + 1) _ _ (by omega) (by omega) (by omega))
theorem ivt_isort4_1 (l : List Int) : ∀ (rest1 : Nat) (i1 : Nat) (v1_0 : List Int) (hk1 : (((l.length : Nat) : Int) - ((i1 : Nat) : Int)).toNat = rest1) (hN1 : ((l.length : Nat) : Int) ≤ 9223372036854775807) (hn : l.length ≤ 12) (hl1_v1_0 : v1_0.length = l.length), iv_isort4_1 l (isort4_1 rest1 i1 v1_0) := by
  intro rest1
  induction rest1 with
  | zero =>
    intro i1 v1_0 hk1 hN1 hn hl1_v1_0
    unfold isort4_1
    exact hl1_v1_0
  | succ rest1 ih =>
    intro i1 v1_0 hk1 hN1 hn hl1_v1_0
    have hlt1 := of_decide_eq_true (ct_at hk1)
    unfold isort4_1
    cases h10 : isort4_4 (i1 + 1) ((i1 : Nat) : Int) v1_0 with
    | x0 v4_0 v4_1 =>
      try dsimp only
      have hv_h10 := ivt_isort4_4 l ((i1 : Nat) : Int) (i1 + 1) ((i1 : Nat) : Int) v1_0 (isort4_ne (i1 + 1) _ _ (by omega) (by omega) (by omega)) (by first | assumption | omega) (by first | assumption | omega)
      rw [h10] at hv_h10
      obtain ⟨hv_h10_0, hv_h10_1⟩ := hv_h10
      try dsimp only [iv_isort4_4] at hv_h10_0
      try dsimp only [iv_isort4_4] at hv_h10_1
      exact ih (i1 + 1) v4_1 (by omega) hN1 (by first | assumption | omega) (by first | assumption | omega)
    | x1 v4_0 v4_1 =>
      try dsimp only
      have hv_h10 := ivt_isort4_4 l ((i1 : Nat) : Int) (i1 + 1) ((i1 : Nat) : Int) v1_0 (isort4_ne (i1 + 1) _ _ (by omega) (by omega) (by omega)) (by first | assumption | omega) (by first | assumption | omega)
      rw [h10] at hv_h10
      obtain ⟨hv_h10_0, hv_h10_1⟩ := hv_h10
      try dsimp only [iv_isort4_4] at hv_h10_0
      try dsimp only [iv_isort4_4] at hv_h10_1
      exact ih (i1 + 1) v4_1 (by omega) hN1 (by first | assumption | omega) (by first | assumption | omega)
    | out =>
      exact absurd h10 (isort4_ne (i1 + 1) _ _ (by omega) (by omega) (by omega))

def isort4 (l : List Int) : List Int :=
  match isort4_1 (((l.length : Nat) : Int) - 1).toNat 1 l with
  | .x0 i1 v1_0 =>
    v1_0

def sd67 (l : List Int) (i1 : Nat) (v1_0 : List Int) : St := ⟨49, [(12, B false), (11, I ((l.length : Nat) : Int)), (10, I ((i1 : Nat) : Int)), (0, .lsl 1 0 l.length 1 (some 4)), (1, I 0), (2, I ((l.length : Nat) : Int)), (6, I ((i1 : Nat) : Int))], [(1, ⟨v1_0.map I, 1, false⟩)], 2, 2⟩

theorem I_isort4 (l : List Int) (hl : l.length ≤ 12) : (lim cfg).inl 100 [.lsl 1 0 l.length 1 (some 4), I 0, I ((l.length : Nat) : Int)] [(1, ⟨l.map I, 1, false⟩)] 2 = some (.tup [], [(1, ⟨(isort4 l).map I, 1, false⟩)], 2) := by
  unfold isort4
  cases h11 : isort4_1 (((l.length : Nat) : Int) - 1).toNat 1 l with
  | x0 i1 v1_0 =>
    try dsimp only
    have hv_h11 := ivt_isort4_1 l (((l.length : Nat) : Int) - 1).toNat 1 l (by omega) (by first | assumption | omega) (by first | assumption | omega) (by first | assumption | omega)
    rw [h11] at hv_h11
    have hv_h11_0 := hv_h11
    try dsimp only [iv_isort4_1] at hv_h11_0
    exact po_inl [.gloop ⟨49, [(0, .lsl 1 0 l.length 1 (some 4)), (1, I 0), (2, I ((l.length : Nat) : Int)), (6, I 1)], [(1, ⟨l.map I, 1, false⟩)], 2, 2⟩ (.exit 0) (sd67 l i1 v1_0)] (And.intro (po_lr (q := lr_isort4_1 l) (lp_isort4_1 l (((l.length : Nat) : Int) - 1).toNat 1 l (by omega) (by first | assumption | omega) (by first | assumption | omega) (by first | assumption | omega)) h11) (And.intro (gc_of (C := cfg) (f := 100) (a := lp100_1) (ks := [0, 1, 2, 6]) (st := ⟨49, [(6, I 1), (9, I 1), (8, I 0), (0, .lsl 1 0 l.length 1 (some 4)), (1, I 0), (2, I ((l.length : Nat) : Int))], [(1, ⟨l.map I, 1, false⟩)], 2, 2⟩) (st1 := ⟨49, [(0, .lsl 1 0 l.length 1 (some 4)), (1, I 0), (2, I ((l.length : Nat) : Int)), (6, I 1)], [(1, ⟨l.map I, 1, false⟩)], 2, 2⟩) (by kernel_rfl) (by (simp only [go_sem, Nat.reduceAdd, Nat.reduceEqDiff, Nat.reduceLT, Nat.reduceLeDiff, bI2, zx.idsL, zx.renL, zx.snapAll, z7.idsL, z7.renL, z7.snapAll]) <;> rfl)) trivial)) (by kernel_rfl)

def pdq4 (l : List Int) (q : Int) : List Int :=
  (isort4 l)

def sd68 (l : List Int) (q : Int) : St := ⟨134, [(27, .tup []), (26, I ((l.length : Nat) : Int)), (25, I 0), (24, .lsl 1 0 l.length 1 (some 4)), (23, B true), (22, I (w64 (((l.length : Nat) : Int) - 0))), (10, I (w64 (((l.length : Nat) : Int) - 0))), (21, I (w64 (((l.length : Nat) : Int) - 0))), (20, I 0), (19, I ((l.length : Nat) : Int)), (0, .lsl 1 0 l.length 1 (some 4)), (1, I 0), (2, I ((l.length : Nat) : Int)), (3, I q), (8, B true), (9, B true)], [(1, ⟨(isort4 l).map I, 1, false⟩)], 2, 2⟩

noncomputable def lp80_2 : Code := subC [1, 1, 0, 0] (bodyC Try.f80)

theorem I_pdq4 (l : List Int) (q : Int) (hl : l.length ≤ 12) : (lim cfg).inl 80 [.lsl 1 0 l.length 1 (some 4), I 0, I ((l.length : Nat) : Int), I q] [(1, ⟨l.map I, 1, false⟩)] 2 = some (.tup [], [(1, ⟨(pdq4 l q).map I, 1, false⟩)], 2) := by
  unfold pdq4
  have l1 := (show decide ((w64 (((l.length : Nat) : Int) - 0)) ≤ 12) = true from (decide_eq_true (by first | assumption | omega | (simp only [zc] at * <;> omega))))
  have l2 := (And.intro (show zV [(1, ⟨l.map I, 1, false⟩)] 256 [1] [] = some [1] from (by (simp only [zV, go_sem, Nat.reduceAdd, Nat.reduceEqDiff, Nat.reduceLT, Nat.reduceLeDiff, bI2, zx.idsL, zx.renL, zx.snapAll, z7.idsL, z7.renL, z7.snapAll]) <;> rfl)) (I_isort4 l (by first | assumption | omega)))
  exact po_inl [.gloop ⟨134, [(0, .lsl 1 0 l.length 1 (some 4)), (1, I 0), (2, I ((l.length : Nat) : Int)), (3, I q), (8, B true), (9, B true)], [(1, ⟨l.map I, 1, false⟩)], 2, 2⟩ .ret (sd68 l q)] (And.intro (show (lim cfg).loop 80 lp80_2 ⟨134, [(0, .lsl 1 0 l.length 1 (some 4)), (1, I 0), (2, I ((l.length : Nat) : Int)), (3, I q), (8, B true), (9, B true)], [(1, ⟨l.map I, 1, false⟩)], 2, 2⟩ = some (.ret, (sd68 l q)) from (zQ [.dec true, .inlS [1] (.tup []) [(1, ⟨(isort4 l).map I, 1, false⟩)] 2] (And.intro (l2) (And.intro (l1) trivial)) (by kernel_rfl))) (And.intro (gc_of (C := cfg) (f := 80) (a := lp80_2) (ks := [0, 1, 2, 3, 8, 9]) (st := ⟨134, [(9, B true), (8, B true), (0, .lsl 1 0 l.length 1 (some 4)), (1, I 0), (2, I ((l.length : Nat) : Int)), (3, I q)], [(1, ⟨l.map I, 1, false⟩)], 2, 2⟩) (st1 := ⟨134, [(0, .lsl 1 0 l.length 1 (some 4)), (1, I 0), (2, I ((l.length : Nat) : Int)), (3, I q), (8, B true), (9, B true)], [(1, ⟨l.map I, 1, false⟩)], 2, 2⟩) (by kernel_rfl) (by (simp only [go_sem, Nat.reduceAdd, Nat.reduceEqDiff, Nat.reduceLT, Nat.reduceLeDiff, bI2, zx.idsL, zx.renL, zx.snapAll, z7.idsL, z7.renL, z7.snapAll]) <;> rfl)) trivial)) (by kernel_rfl)

def sort4 (l : List Int) : List Int :=
  (pdq4 l (bl12 ((l.length : Nat) : Int)))

theorem I_sort4 (l : List Int) (hl : l.length ≤ 12) : (lim cfg).inl 38 [.lsl 1 0 l.length 1 (some 4)] [(1, ⟨l.map I, 1, false⟩)] 2 = some (.tup [], [(1, ⟨(sort4 l).map I, 1, false⟩)], 2) := by
  unfold sort4
  exact po_inl [.pure (I (bl12 ((l.length : Nat) : Int))), .inlS [1] (.tup []) [(1, ⟨(pdq4 l (bl12 ((l.length : Nat) : Int))).map I, 1, false⟩)] 2] (And.intro (And.intro (show zV [(1, ⟨l.map I, 1, false⟩)] 256 [1] [] = some [1] from (by (simp only [zV, go_sem, Nat.reduceAdd, Nat.reduceEqDiff, Nat.reduceLT, Nat.reduceLeDiff, bI2, zx.idsL, zx.renL, zx.snapAll, z7.idsL, z7.renL, z7.snapAll]) <;> rfl)) (I_pdq4 l (bl12 ((l.length : Nat) : Int)) (by first | assumption | omega))) (And.intro (T_bl (n := ((l.length : Nat) : Int)) (by first | assumption | omega) (by first | assumption | omega)) trivial)) (by kernel_rfl)
end Go.VS

namespace Go.VS
open Go Go.Proofs
set_option maxHeartbeats 0
set_option linter.unusedSimpArgs false
set_option linter.unusedVariables false
structure S_window where
  at_ : S_Span
  room_ : Int
  whole_ : S_Span
instance : Inhabited S_window := ⟨⟨default, 0, default⟩⟩
def S_window.D (x : S_window) : VS.D := .agg [I x.at_.lo, I x.at_.hi, I x.room_, I x.whole_.lo, I x.whole_.hi]
noncomputable def lp65_3 : Code := subC [1, 1, 0, 1, 0, 0] (bodyC Try.f65)

inductive LR_orders_total_3 where
  | x0 (v3_0 : Int)
instance : Inhabited LR_orders_total_3 := ⟨.x0 default⟩
def orders_total_3 : List Int → Int → LR_orders_total_3
  | [], v3_0 => .x0 v3_0
  | x3 :: rest3, v3_0 =>
    orders_total_3 rest3 (w64 (v3_0 + x3))
def lr_orders_total_3 (l : GS Int) : LR_orders_total_3 → Exit × St
  | .x0 v3_0 => ((.exit 0), ⟨17, [(9, B false), (3, I v3_0), (6, .sl l.nl (l.l.map I) (zsl l.nl 1) none), (7, I ((l.l.length : Nat) : Int)), (8, I ((l.l.length : Nat) : Int))], [], 0, 0⟩)
theorem lp_orders_total_3 (l : GS Int) : ∀ (rest3 : List Int) (i3 : Nat) (v3_0 : Int) (hd3 : l.l.drop i3 = rest3) (hi3 : i3 ≤ l.l.length) (hL3 : l.l.length ≤ 9223372036854775807), (lim cfg).loop 65 lp65_3 ⟨17, [(3, I v3_0), (6, .sl l.nl (l.l.map I) (zsl l.nl 1) none), (7, I ((l.l.length : Nat) : Int)), (8, I ((i3 : Nat) : Int))], [], 0, 0⟩ = some (lr_orders_total_3 l (orders_total_3 rest3 v3_0)) := by
  intro rest3
  induction rest3 with
  | nil =>
    intro i3 v3_0 hd3 hi3 hL3
    unfold orders_total_3
    obtain rfl : i3 = l.l.length := nil_eq hd3 hi3
    exact zQ [.dec false] (And.intro (lt_no hd3) trivial) (by kernel_rfl)
  | cons x3 rest3 ih =>
    intro i3 v3_0 hd3 hi3 hL3
    have hlt3 := zT hd3
    unfold orders_total_3
    exact po_turn [.dec true, .el (I x3), .rw 15 (I ((i3 + 1 : Nat) : Int))] (And.intro (inc_rw (i := i3) (by have := zT hd3; omega)) (And.intro (el_at (s := l) (f := I) (k := 1) hd3) (And.intro (lt_at hd3) trivial))) (ih (i3 + 1) (w64 (v3_0 + x3)) (drop_next hd3) (zT hd3) (by first | assumption | omega)) (by kernel_rfl)

def zp (l : GS Int) : Int :=
  match orders_total_3 l.l 0 with
  | .x0 v3_0 =>
    v3_0

theorem T_orders_total (l : GS Int) (hL_l : l.l.length ≤ 9223372036854775807) : (lim cfg).pure 65 [GS.D I 1 l] = some (I (zp l)) := by
  unfold zp
  cases h1 : orders_total_3 l.l 0 with
  | x0 v3_0 =>
    try dsimp only
    exact zy [.rw 7 (I ((l.l.length : Nat) : Int)), .loop (.exit 0) ⟨17, [(9, B false), (3, I v3_0), (6, .sl l.nl (l.l.map I) (zsl l.nl 1) none), (7, I ((l.l.length : Nat) : Int)), (8, I ((l.l.length : Nat) : Int))], [], 0, 0⟩] (And.intro (po_lr (q := lr_orders_total_3 l) (lp_orders_total_3 l l.l 0 0 (List.drop_zero) (Nat.zero_le _) (by first | assumption | omega)) h1) (And.intro (zz I l) trivial)) (by kernel_rfl)

def zi (e : S_Estate) (g : Int) : S_window :=
  (⟨(⟨(orders_all e).lo, w64 (((orders_all e).hi) - g)⟩ : S_Span), g, e.whole⟩ : S_window)

theorem T_orders_windowOf (e : S_Estate) (g : Int) (hL_e_items : e.items.l.length ≤ 9223372036854775807) : (lim cfg).pure 63 [S_Estate.D e, I g] = some (S_window.D (zi e g)) := by
  unfold zi
  exact zy [.pure (.agg [I ((orders_all e).lo), I ((orders_all e).hi)])] (And.intro (T_orders_all e (by first | assumption | omega)) trivial) (by kernel_rfl)

def z8 (w : S_window) : Int × Int :=
  (zf 0 (w64 (w.whole_.lo - w.at_.hi)), ze w.room_ (w64 (w.whole_.hi - w.at_.lo)))

theorem T_orders_window_ends (w : S_window) : (lim cfg).pure 94 [S_window.D w] = some (.tup [I ((z8 w).1), I ((z8 w).2)]) := by
  unfold z8
  exact zy [] (trivial) (by kernel_rfl)

def zh (w : S_window) (s : Int) : S_Span :=
  bif ((zP (⟨w64 (w.at_.lo + s), w64 (w.at_.hi + s)⟩ : S_Span) w.whole_).2) then
    ((zP (⟨w64 (w.at_.lo + s), w64 (w.at_.hi + s)⟩ : S_Span) w.whole_).1)
  else
    ((zP (⟨w64 (w.at_.lo + s), w64 (w.at_.hi + s)⟩ : S_Span) w.whole_).1)

theorem T_orders_window_seen (w : S_window) (s : Int) : (lim cfg).pure 95 [S_window.D w, I s] = some (S_Span.D (zh w s)) := by
  unfold zh
  cases h1 : ((zP (⟨w64 (w.at_.lo + s), w64 (w.at_.hi + s)⟩ : S_Span) w.whole_).2) with
  | true =>
    exact zy [.pure (.tup [.agg [I (((zP (⟨w64 (w.at_.lo + s), w64 (w.at_.hi + s)⟩ : S_Span) w.whole_).1).lo), I (((zP (⟨w64 (w.at_.lo + s), w64 (w.at_.hi + s)⟩ : S_Span) w.whole_).1).hi)], B ((zP (⟨w64 (w.at_.lo + s), w64 (w.at_.hi + s)⟩ : S_Span) w.whole_).2)]), .dec true] (And.intro h1 (And.intro (T_orders_common (⟨w64 (w.at_.lo + s), w64 (w.at_.hi + s)⟩ : S_Span) w.whole_) trivial)) (by kernel_rfl)
  | false =>
    exact zy [.pure (.tup [.agg [I (((zP (⟨w64 (w.at_.lo + s), w64 (w.at_.hi + s)⟩ : S_Span) w.whole_).1).lo), I (((zP (⟨w64 (w.at_.lo + s), w64 (w.at_.hi + s)⟩ : S_Span) w.whole_).1).hi)], B ((zP (⟨w64 (w.at_.lo + s), w64 (w.at_.hi + s)⟩ : S_Span) w.whole_).2)]), .dec false] (And.intro h1 (And.intro (T_orders_common (⟨w64 (w.at_.lo + s), w64 (w.at_.hi + s)⟩ : S_Span) w.whole_) trivial)) (by kernel_rfl)

theorem isort4_len (l : List Int) (h : l.length ≤ 12) : (isort4 l).length = l.length := by
  unfold isort4
  cases h2 : isort4_1 (((l.length : Nat) : Int) - 1).toNat 1 l with
  | x0 i v =>
    by_cases h1 : 1 ≤ l.length
    · have := ivt_isort4_1 l (((l.length : Nat) : Int) - 1).toNat 1 l (by omega) (by omega) h rfl
      rw [h2] at this
      exact this
    · have : l = [] := List.eq_nil_of_length_eq_zero (by omega)
      subst this
      simp [isort4_1] at h2
      rw [← h2.2]
theorem za (a b c d : Int) : (sort4 [a, b, c, d]).length = 4 := isort4_len [a, b, c, d] (by simp)

noncomputable def lp64_6 : Code := subC [1, 1, 1, 1, 1, 0, 1, 0, 0] (bodyC Try.f64)

def sd69 (w : S_window) (i6 : Nat) (q6_0 : List Int) (x6 : Int) (v6_0 : Int) (v6_1 : Int) : St := ⟨69, [(46, I ((i6 + 1 : Nat) : Int)), (66, I ((i6 + 1 : Nat) : Int)), (7, I x6), (6, I (w64 (((zh w x6).hi) - ((zh w x6).lo)))), (65, I x6), (64, I (w64 (((zh w x6).hi) - ((zh w x6).lo)))), (63, I ((zh w x6).lo)), (62, .lref 2 0 2 0), (61, I ((zh w x6).hi)), (60, .lref 2 0 2 1), (59, B true), (58, I v6_0), (57, I (w64 (((zh w x6).hi) - ((zh w x6).lo)))), (56, I ((zh w x6).lo)), (55, .lref 2 0 2 0), (54, I ((zh w x6).hi)), (53, .lref 2 0 2 1), (11, .lref 2 0 2 0), (52, .agg [I ((zh w x6).lo), I ((zh w x6).hi)]), (51, I x6), (50, .agg [I w.at_.lo, I w.at_.hi, I w.room_, I w.whole_.lo, I w.whole_.hi]), (10, I x6), (49, I x6), (48, .lref 1 i6 1 0), (47, B true), (1, .lref 0 0 5 0), (6, I v6_0), (7, I v6_1), (44, .lsl 1 0 4 1 (some 4)), (45, I 4), (46, I ((i6 : Nat) : Int))], [(0, ⟨[.agg [I w.at_.lo, I w.at_.hi, I w.room_, I w.whole_.lo, I w.whole_.hi]], 5, false⟩), (1, ⟨q6_0.map I, 1, false⟩), (2, ⟨[.agg [I ((zh w x6).lo), I ((zh w x6).hi)]], 2, false⟩)], 3, 0⟩

def sd70 (w : S_window) (i6 : Nat) (q6_0 : List Int) (x6 : Int) (v6_0 : Int) (v6_1 : Int) : St := ⟨69, [(46, I ((i6 + 1 : Nat) : Int)), (66, I ((i6 + 1 : Nat) : Int)), (59, B false), (58, I v6_0), (57, I (w64 (((zh w x6).hi) - ((zh w x6).lo)))), (56, I ((zh w x6).lo)), (55, .lref 2 0 2 0), (54, I ((zh w x6).hi)), (53, .lref 2 0 2 1), (11, .lref 2 0 2 0), (52, .agg [I ((zh w x6).lo), I ((zh w x6).hi)]), (51, I x6), (50, .agg [I w.at_.lo, I w.at_.hi, I w.room_, I w.whole_.lo, I w.whole_.hi]), (10, I x6), (49, I x6), (48, .lref 1 i6 1 0), (47, B true), (1, .lref 0 0 5 0), (6, I v6_0), (7, I v6_1), (44, .lsl 1 0 4 1 (some 4)), (45, I 4), (46, I ((i6 : Nat) : Int))], [(0, ⟨[.agg [I w.at_.lo, I w.at_.hi, I w.room_, I w.whole_.lo, I w.whole_.hi]], 5, false⟩), (1, ⟨q6_0.map I, 1, false⟩), (2, ⟨[.agg [I ((zh w x6).lo), I ((zh w x6).hi)]], 2, false⟩)], 3, 0⟩

inductive LR_orders_window_widest_6 where
  | x0 (v6_0 : Int) (v6_1 : Int)
instance : Inhabited LR_orders_window_widest_6 := ⟨.x0 default default⟩
def zO (w : S_window) : List Int → Int → Int → LR_orders_window_widest_6
  | [], v6_0, v6_1 => .x0 v6_0 v6_1
  | x6 :: rest6, v6_0, v6_1 =>
    bif decide ((w64 (((zh w x6).hi) - ((zh w x6).lo))) > v6_0) then
      zO w rest6 (w64 (((zh w x6).hi) - ((zh w x6).lo))) x6
    else
      zO w rest6 v6_0 v6_1
def lr_orders_window_widest_6 (w : S_window) (q6_0 : List Int) : LR_orders_window_widest_6 → Exit × St
  | .x0 v6_0 v6_1 => ((.exit 0), ⟨69, [(47, B false), (1, .lref 0 0 5 0), (6, I v6_0), (7, I v6_1), (44, .lsl 1 0 4 1 (some 4)), (45, I 4), (46, I ((q6_0.length : Nat) : Int))], [(0, ⟨[.agg [I w.at_.lo, I w.at_.hi, I w.room_, I w.whole_.lo, I w.whole_.hi]], 5, false⟩), (1, ⟨q6_0.map I, 1, false⟩)], 2, 0⟩)
theorem lp_orders_window_widest_6 (w : S_window) (q6_0 : List Int) : ∀ (rest6 : List Int) (i6 : Nat) (v6_0 : Int) (v6_1 : Int) (hd6 : q6_0.drop i6 = rest6) (hi6 : i6 ≤ q6_0.length) (hq6 : q6_0.length = 4) (hL6 : q6_0.length ≤ 9223372036854775807), (lim cfg).loop 64 lp64_6 ⟨69, [(1, .lref 0 0 5 0), (6, I v6_0), (7, I v6_1), (44, .lsl 1 0 4 1 (some 4)), (45, I 4), (46, I ((i6 : Nat) : Int))], [(0, ⟨[.agg [I w.at_.lo, I w.at_.hi, I w.room_, I w.whole_.lo, I w.whole_.hi]], 5, false⟩), (1, ⟨q6_0.map I, 1, false⟩)], 2, 0⟩ = some (lr_orders_window_widest_6 w q6_0 (zO w rest6 v6_0 v6_1)) := by
  intro rest6
  induction rest6 with
  | nil =>
    intro i6 v6_0 v6_1 hd6 hi6 hq6 hL6
    unfold zO
    obtain rfl : i6 = q6_0.length := nil_eq hd6 hi6
    exact zQ [.dec false] (And.intro (lt_no' hd6 hq6) trivial) (by kernel_rfl)
  | cons x6 rest6 ih =>
    intro i6 v6_0 v6_1 hd6 hi6 hq6 hL6
    have hlt6 := zT hd6
    unfold zO
    cases h2 : decide ((w64 (((zh w x6).hi) - ((zh w x6).lo))) > v6_0) with
    | true =>
      have g2 := of_decide_eq_true h2
      exact po_turn' (ks := [1, 6, 7, 44, 45, 46]) (st' := (sd69 w i6 q6_0 x6 v6_0 v6_1)) [.dec true, .op (some 48) ⟨.lref 1 i6 1 0, [], [], 2⟩, .op (some 49) ⟨I x6, [], [1], 2⟩, .pure (.agg [I ((zh w x6).lo), I ((zh w x6).hi)]), .dec true, .rw 66 (I ((i6 + 1 : Nat) : Int))] (And.intro (inc_rw (i := i6) (by have := zT hd6; omega)) (And.intro h2 (And.intro (T_orders_window_seen w x6) (And.intro (load_row (C := cfg) (objs := [(0, ⟨[.agg [I w.at_.lo, I w.at_.hi, I w.room_, I w.whole_.lo, I w.whole_.hi]], 5, false⟩), (1, ⟨q6_0.map I, 1, false⟩)]) (nxt := 2) (t := 3) (ty := ty3) (o := 1) (n := i6) (sz := 1) (sub := 0) (ob := ⟨q6_0.map I, 1, false⟩) (e := I x6) (d := I x6) (by kernel_rfl) (by kernel_rfl) rfl (row_at (f := I) hd6) (by kernel_rfl)) (And.intro (idx_row (C := cfg) (nxt := 2) (t := 37) (ty := ty37) (te := ty3) (e := 3) (o := 1) (len := 4) (sz := 1) (cap := (some 4)) (i := ((i6 : Nat) : Int)) (by kernel_rfl) rfl (by kernel_rfl) rfl (by first | assumption | omega) (by first | assumption | omega)) (And.intro (lt_at' hd6 hq6) trivial)))))) (by kernel_rfl) (by (simp only [sd69, go_sem, Nat.reduceAdd, Nat.reduceEqDiff, Nat.reduceLT, Nat.reduceLeDiff, bI2, zx.idsL, zx.renL, zx.snapAll, z7.idsL, z7.renL, z7.snapAll]) <;> rfl) (ih (i6 + 1) (w64 (((zh w x6).hi) - ((zh w x6).lo))) x6 (drop_next hd6) (zT hd6) (by first | assumption | omega) (by first | assumption | omega)) (by kernel_rfl)
    | false =>
      have g2 := of_decide_eq_false h2
      exact po_turn' (ks := [1, 6, 7, 44, 45, 46]) (st' := (sd70 w i6 q6_0 x6 v6_0 v6_1)) [.dec true, .op (some 48) ⟨.lref 1 i6 1 0, [], [], 2⟩, .op (some 49) ⟨I x6, [], [1], 2⟩, .pure (.agg [I ((zh w x6).lo), I ((zh w x6).hi)]), .dec false, .rw 66 (I ((i6 + 1 : Nat) : Int))] (And.intro (inc_rw (i := i6) (by have := zT hd6; omega)) (And.intro h2 (And.intro (T_orders_window_seen w x6) (And.intro (load_row (C := cfg) (objs := [(0, ⟨[.agg [I w.at_.lo, I w.at_.hi, I w.room_, I w.whole_.lo, I w.whole_.hi]], 5, false⟩), (1, ⟨q6_0.map I, 1, false⟩)]) (nxt := 2) (t := 3) (ty := ty3) (o := 1) (n := i6) (sz := 1) (sub := 0) (ob := ⟨q6_0.map I, 1, false⟩) (e := I x6) (d := I x6) (by kernel_rfl) (by kernel_rfl) rfl (row_at (f := I) hd6) (by kernel_rfl)) (And.intro (idx_row (C := cfg) (nxt := 2) (t := 37) (ty := ty37) (te := ty3) (e := 3) (o := 1) (len := 4) (sz := 1) (cap := (some 4)) (i := ((i6 : Nat) : Int)) (by kernel_rfl) rfl (by kernel_rfl) rfl (by first | assumption | omega) (by first | assumption | omega)) (And.intro (lt_at' hd6 hq6) trivial)))))) (by kernel_rfl) (by (simp only [sd70, go_sem, Nat.reduceAdd, Nat.reduceEqDiff, Nat.reduceLT, Nat.reduceLeDiff, bI2, zx.idsL, zx.renL, zx.snapAll, z7.idsL, z7.renL, z7.snapAll]) <;> rfl) (ih (i6 + 1) v6_0 v6_1 (drop_next hd6) (zT hd6) (by first | assumption | omega) (by first | assumption | omega)) (by kernel_rfl)

def orders_window_widest (w : S_window) : Int × Int :=
  match zO w (sort4 [((z8 w).1), ((z8 w).2), ze (zf (w64 (w.whole_.lo - w.at_.lo)) ((z8 w).1)) ((z8 w).2), ze (zf (w64 (w.whole_.hi - w.at_.hi)) ((z8 w).1)) ((z8 w).2)]) (-1) 0 with
  | .x0 v6_0 v6_1 =>
    (v6_0, v6_1)

def sd72 (w : S_window) : St := ⟨69, [(1, .lref 0 0 5 0), (6, I (-1)), (7, I 0), (44, .lsl 1 0 4 1 (some 4)), (45, I 4), (46, I 0)], [(0, ⟨[.agg [I w.at_.lo, I w.at_.hi, I w.room_, I w.whole_.lo, I w.whole_.hi]], 5, false⟩), (1, ⟨(sort4 [((z8 w).1), ((z8 w).2), ze (zf (w64 (w.whole_.lo - w.at_.lo)) ((z8 w).1)) ((z8 w).2), ze (zf (w64 (w.whole_.hi - w.at_.hi)) ((z8 w).1)) ((z8 w).2)]).map I, 1, false⟩)], 2, 0⟩

def sd73 (w : S_window) (v6_0 : Int) (v6_1 : Int) : St := ⟨69, [(47, B false), (1, .lref 0 0 5 0), (6, I v6_0), (7, I v6_1), (44, .lsl 1 0 4 1 (some 4)), (45, I 4), (46, I (((sort4 [((z8 w).1), ((z8 w).2), ze (zf (w64 (w.whole_.lo - w.at_.lo)) ((z8 w).1)) ((z8 w).2), ze (zf (w64 (w.whole_.hi - w.at_.hi)) ((z8 w).1)) ((z8 w).2)]).length : Nat) : Int))], [(0, ⟨[.agg [I w.at_.lo, I w.at_.hi, I w.room_, I w.whole_.lo, I w.whole_.hi]], 5, false⟩), (1, ⟨(sort4 [((z8 w).1), ((z8 w).2), ze (zf (w64 (w.whole_.lo - w.at_.lo)) ((z8 w).1)) ((z8 w).2), ze (zf (w64 (w.whole_.hi - w.at_.hi)) ((z8 w).1)) ((z8 w).2)]).map I, 1, false⟩)], 2, 0⟩

def sd71 (w : S_window) : St := ⟨69, [(46, I 0), (45, I 4), (44, .lsl 1 0 4 1 (some 4)), (43, .tup []), (42, .lsl 1 0 4 1 (some 4)), (8, .lsl 1 0 4 1 (some 4)), (41, .lsl 1 0 4 1 (some 4)), (40, I (ze (zf (w64 (w.whole_.hi - w.at_.hi)) ((z8 w).1)) ((z8 w).2))), (39, I ((z8 w).2)), (38, I (zf (w64 (w.whole_.hi - w.at_.hi)) ((z8 w).1))), (37, I ((z8 w).1)), (36, I (w64 (w.whole_.hi - w.at_.hi))), (35, I w.at_.hi), (34, .lref 0 0 5 1), (33, .lref 0 0 5 0), (32, I w.whole_.hi), (31, .lref 0 0 5 4), (30, .lref 0 0 5 3), (29, I (ze (zf (w64 (w.whole_.lo - w.at_.lo)) ((z8 w).1)) ((z8 w).2))), (28, I ((z8 w).2)), (27, I (zf (w64 (w.whole_.lo - w.at_.lo)) ((z8 w).1))), (26, I ((z8 w).1)), (25, I (w64 (w.whole_.lo - w.at_.lo))), (24, I w.at_.lo), (23, .lref 0 0 5 0), (22, .lref 0 0 5 0), (21, I w.whole_.lo), (20, .lref 0 0 5 3), (19, .lref 0 0 5 3), (18, I ((z8 w).2)), (17, I ((z8 w).1)), (7, I 0), (6, I (-1)), (5, I ((z8 w).2)), (4, I ((z8 w).1)), (16, I ((z8 w).2)), (15, I ((z8 w).1)), (12, .tup [I ((z8 w).1), I ((z8 w).2)]), (14, .tup [I ((z8 w).1), I ((z8 w).2)]), (13, .agg [I w.at_.lo, I w.at_.hi, I w.room_, I w.whole_.lo, I w.whole_.hi]), (3, I 0), (2, I 0), (1, .lref 0 0 5 0), (0, .agg [I w.at_.lo, I w.at_.hi, I w.room_, I w.whole_.lo, I w.whole_.hi])], [(0, ⟨[.agg [I w.at_.lo, I w.at_.hi, I w.room_, I w.whole_.lo, I w.whole_.hi]], 5, false⟩), (1, ⟨(sort4 [((z8 w).1), ((z8 w).2), ze (zf (w64 (w.whole_.lo - w.at_.lo)) ((z8 w).1)) ((z8 w).2), ze (zf (w64 (w.whole_.hi - w.at_.hi)) ((z8 w).1)) ((z8 w).2)]).map I, 1, false⟩)], 2, 0⟩

theorem T_orders_window_widest (w : S_window) : (lim cfg).pure 64 [S_window.D w] = some (.tup [I ((orders_window_widest w).1), I ((orders_window_widest w).2)]) := by
  unfold orders_window_widest
  cases h3 : zO w (sort4 [((z8 w).1), ((z8 w).2), ze (zf (w64 (w.whole_.lo - w.at_.lo)) ((z8 w).1)) ((z8 w).2), ze (zf (w64 (w.whole_.hi - w.at_.hi)) ((z8 w).1)) ((z8 w).2)]) (-1) 0 with
  | x0 v6_0 v6_1 =>
    try dsimp only
    exact zy [.pure (.tup [I ((z8 w).1), I ((z8 w).2)]), .inl (.tup []) [(1, ⟨(sort4 [((z8 w).1), ((z8 w).2), ze (zf (w64 (w.whole_.lo - w.at_.lo)) ((z8 w).1)) ((z8 w).2), ze (zf (w64 (w.whole_.hi - w.at_.hi)) ((z8 w).1)) ((z8 w).2)]).map I, 1, false⟩)] 2, .gloop (sd72 w) (.exit 0) (sd73 w v6_0 v6_1)] (And.intro (po_lr (q := lr_orders_window_widest_6 w (sort4 [((z8 w).1), ((z8 w).2), ze (zf (w64 (w.whole_.lo - w.at_.lo)) ((z8 w).1)) ((z8 w).2), ze (zf (w64 (w.whole_.hi - w.at_.hi)) ((z8 w).1)) ((z8 w).2)])) (lp_orders_window_widest_6 w (sort4 [((z8 w).1), ((z8 w).2), ze (zf (w64 (w.whole_.lo - w.at_.lo)) ((z8 w).1)) ((z8 w).2), ze (zf (w64 (w.whole_.hi - w.at_.hi)) ((z8 w).1)) ((z8 w).2)]) (sort4 [((z8 w).1), ((z8 w).2), ze (zf (w64 (w.whole_.lo - w.at_.lo)) ((z8 w).1)) ((z8 w).2), ze (zf (w64 (w.whole_.hi - w.at_.hi)) ((z8 w).1)) ((z8 w).2)]) 0 (-1) 0 (List.drop_zero) (Nat.zero_le _) (by first | assumption | omega | (simp only [zc] at * <;> omega) | (simp only [zd, za, GS.some_l, List.length_set, List.length_append, List.length_cons, List.length_nil] at * <;> first | with_reducible assumption | omega) | (simp only [zd, za, GS.some_l, List.length_set, List.length_append, List.length_cons, List.length_nil, zc] at * <;> first | with_reducible assumption | omega) | (simp at * <;> omega)) (by first | assumption | omega | (simp only [zc] at * <;> omega) | (simp only [zd, za, GS.some_l, List.length_set, List.length_append, List.length_cons, List.length_nil] at * <;> first | with_reducible assumption | omega) | (simp only [zd, za, GS.some_l, List.length_set, List.length_append, List.length_cons, List.length_nil, zc] at * <;> first | with_reducible assumption | omega) | (simp at * <;> omega))) h3) (And.intro (gc_of (C := cfg) (f := 64) (a := lp64_6) (ks := [1, 6, 7, 44, 45, 46]) (st := (sd71 w)) (st1 := (sd72 w)) (by kernel_rfl) (by (simp only [sd71, sd72, go_sem, Nat.reduceAdd, Nat.reduceEqDiff, Nat.reduceLT, Nat.reduceLeDiff, bI2, zx.idsL, zx.renL, zx.snapAll, z7.idsL, z7.renL, z7.snapAll]) <;> rfl)) (And.intro (I_sort4 [((z8 w).1), ((z8 w).2), ze (zf (w64 (w.whole_.lo - w.at_.lo)) ((z8 w).1)) ((z8 w).2), ze (zf (w64 (w.whole_.hi - w.at_.hi)) ((z8 w).1)) ((z8 w).2)] (by first | assumption | omega | (simp only [zc] at * <;> omega) | (simp only [zd, za, GS.some_l, List.length_set, List.length_append, List.length_cons, List.length_nil] at * <;> first | with_reducible assumption | omega) | (simp only [zd, za, GS.some_l, List.length_set, List.length_append, List.length_cons, List.length_nil, zc] at * <;> first | with_reducible assumption | omega) | (simp at * <;> omega))) (And.intro (T_orders_window_ends w) trivial)))) (by kernel_rfl)

noncomputable def lp71_5 : Code := subC [1, 1, 0, 1, 0, 0] (bodyC Try.f71)

inductive LR_orders_right_5 where
  | x0
  | x1 (i5 : Nat) (x5 : Int)
  | x2 (i5 : Nat) (x5 : Int)
instance : Inhabited LR_orders_right_5 := ⟨.x0⟩
def orders_right_5 (e : S_Estate) (items : GS Int) : List Int → Nat → LR_orders_right_5
  | [], i5 => .x0
  | x5 :: rest5, i5 =>
    bif (zH x5 0 (w64 (((e.items.l.length : Nat) : Int) - 1))) then
      bif decide (((i5 : Nat) : Int) > 0) then
        bif decide ((GS.at items (w64 (((i5 : Nat) : Int) - 1))) ≥ x5) then
          .x1 i5 x5
        else
          orders_right_5 e items rest5 (i5 + 1)
      else
        orders_right_5 e items rest5 (i5 + 1)
    else
      .x2 i5 x5
def lr_orders_right_5 (e : S_Estate) (items : GS Int) : LR_orders_right_5 → Exit × St
  | .x0 => ((.exit 0), ⟨41, [(16, B false), (1, .sl items.nl (items.l.map I) (zsl items.nl 1) none), (2, .lref 0 0 3 0), (13, .sl items.nl (items.l.map I) (zsl items.nl 1) none), (14, I ((items.l.length : Nat) : Int)), (15, I ((items.l.length : Nat) : Int))], [(0, ⟨[.agg [.sl e.items.nl (e.items.l.map S_Item.D) (zsl e.items.nl 4) none, I e.whole.lo, I e.whole.hi]], 3, false⟩)], 1, 0⟩)
  | .x1 i5 x5 => (.ret, ⟨41, [(4, I 1), (39, B true), (38, B true), (37, B true), (36, I x5), (35, I (GS.at items (w64 (((i5 : Nat) : Int) - 1)))), (34, .ptr (I (GS.at items (w64 (((i5 : Nat) : Int) - 1))))), (33, I (w64 (((i5 : Nat) : Int) - 1))), (32, I ((i5 : Nat) : Int)), (31, .sl items.nl (items.l.map I) (zsl items.nl 1) none), (30, B true), (29, B true), (28, I ((i5 : Nat) : Int)), (27, B false), (26, B false), (25, B true), (24, I (w64 (((e.items.l.length : Nat) : Int) - 1))), (23, I ((e.items.l.length : Nat) : Int)), (22, .sl e.items.nl (e.items.l.map S_Item.D) (zsl e.items.nl 4) none), (21, .lref 0 0 3 0), (20, I x5), (7, I x5), (6, I ((i5 : Nat) : Int)), (19, I x5), (18, .ptr (I x5)), (17, I ((i5 : Nat) : Int)), (16, B true), (1, .sl items.nl (items.l.map I) (zsl items.nl 1) none), (2, .lref 0 0 3 0), (13, .sl items.nl (items.l.map I) (zsl items.nl 1) none), (14, I ((items.l.length : Nat) : Int)), (15, I ((i5 : Nat) : Int))], [(0, ⟨[.agg [.sl e.items.nl (e.items.l.map S_Item.D) (zsl e.items.nl 4) none, I e.whole.lo, I e.whole.hi]], 3, false⟩)], 1, 0⟩)
  | .x2 i5 x5 => (.ret, ⟨41, [(4, I 1), (39, B true), (38, .tup []), (37, .tup []), (36, .tup []), (35, .tup []), (34, .tup []), (33, .tup []), (32, .tup []), (31, .tup []), (30, .tup []), (29, .tup []), (28, .tup []), (27, B true), (26, B true), (25, B false), (24, I (w64 (((e.items.l.length : Nat) : Int) - 1))), (23, I ((e.items.l.length : Nat) : Int)), (22, .sl e.items.nl (e.items.l.map S_Item.D) (zsl e.items.nl 4) none), (21, .lref 0 0 3 0), (20, I x5), (7, I x5), (6, I ((i5 : Nat) : Int)), (19, I x5), (18, .ptr (I x5)), (17, I ((i5 : Nat) : Int)), (16, B true), (1, .sl items.nl (items.l.map I) (zsl items.nl 1) none), (2, .lref 0 0 3 0), (13, .sl items.nl (items.l.map I) (zsl items.nl 1) none), (14, I ((items.l.length : Nat) : Int)), (15, I ((i5 : Nat) : Int))], [(0, ⟨[.agg [.sl e.items.nl (e.items.l.map S_Item.D) (zsl e.items.nl 4) none, I e.whole.lo, I e.whole.hi]], 3, false⟩)], 1, 0⟩)
def orders_right_5_l_o1 (e : S_Estate) (x5 : Int) : List Ora := [.dec true, .el (I x5), .rw 23 (I ((e.items.l.length : Nat) : Int)), .pure (B (zH x5 0 (w64 (((e.items.l.length : Nat) : Int) - 1))))]
theorem lp_orders_right_5 (e : S_Estate) (items : GS Int) : ∀ (rest5 : List Int) (i5 : Nat) (hd5 : items.l.drop i5 = rest5) (hi5 : i5 ≤ items.l.length) (hL5 : items.l.length ≤ 9223372036854775807), (lim cfg).loop 71 lp71_5 ⟨41, [(1, .sl items.nl (items.l.map I) (zsl items.nl 1) none), (2, .lref 0 0 3 0), (13, .sl items.nl (items.l.map I) (zsl items.nl 1) none), (14, I ((items.l.length : Nat) : Int)), (15, I ((i5 : Nat) : Int))], [(0, ⟨[.agg [.sl e.items.nl (e.items.l.map S_Item.D) (zsl e.items.nl 4) none, I e.whole.lo, I e.whole.hi]], 3, false⟩)], 1, 0⟩ = some (lr_orders_right_5 e items (orders_right_5 e items rest5 i5)) := by
  intro rest5
  induction rest5 with
  | nil =>
    intro i5 hd5 hi5 hL5
    unfold orders_right_5
    obtain rfl : i5 = items.l.length := nil_eq hd5 hi5
    exact zQ [.dec false] (And.intro (lt_no hd5) trivial) (by kernel_rfl)
  | cons x5 rest5 ih =>
    intro i5 hd5 hi5 hL5
    have hlt5 := zT hd5
    unfold orders_right_5
    have p1 := (el_at (s := items) (f := I) (k := 1) hd5)
    have p2 := (T_orders_within x5 0 (w64 (((e.items.l.length : Nat) : Int) - 1)))
    cases h5 : (zH x5 0 (w64 (((e.items.l.length : Nat) : Int) - 1))) with
    | true =>
      have g5 := within_t h5
      cases h6 : decide (((i5 : Nat) : Int) > 0) with
      | true =>
        have g6 := of_decide_eq_true h6
        have p3 := (el_in (s := items) (f := I) (k := 1) (i := w64 (((i5 : Nat) : Int) - 1)) (by first | assumption | omega | (simp only [zc] at * <;> omega)) (by first | assumption | omega | (simp only [zc] at * <;> omega)))
        cases h7 : decide ((GS.at items (w64 (((i5 : Nat) : Int) - 1))) ≥ x5) with
        | true =>
          have g7 := of_decide_eq_true h7
          exact zQ ((orders_right_5_l_o1 e x5) ++ [.dec true, .dec true, .el (I (GS.at items (w64 (((i5 : Nat) : Int) - 1)))), .dec true]) (And.intro h7 (And.intro p3 (And.intro h6 (And.intro h5 (And.intro p2 (And.intro (zz S_Item.D e.items) (And.intro p1 (And.intro (lt_at hd5) trivial)))))))) (by kernel_rfl)
        | false =>
          have g7 := of_decide_eq_false h7
          exact po_turn ((orders_right_5_l_o1 e x5) ++ [.dec true, .dec true, .el (I (GS.at items (w64 (((i5 : Nat) : Int) - 1)))), .dec false, .rw 40 (I ((i5 + 1 : Nat) : Int))]) (And.intro (inc_rw (i := i5) (by have := zT hd5; omega)) (And.intro h7 (And.intro p3 (And.intro h6 (And.intro h5 (And.intro p2 (And.intro (zz S_Item.D e.items) (And.intro p1 (And.intro (lt_at hd5) trivial))))))))) (ih (i5 + 1) (drop_next hd5) (zT hd5) (by first | assumption | omega)) (by kernel_rfl)
      | false =>
        have g6 := of_decide_eq_false h6
        exact po_turn ((orders_right_5_l_o1 e x5) ++ [.dec true, .dec false, .rw 40 (I ((i5 + 1 : Nat) : Int))]) (And.intro (inc_rw (i := i5) (by have := zT hd5; omega)) (And.intro h6 (And.intro h5 (And.intro p2 (And.intro (zz S_Item.D e.items) (And.intro p1 (And.intro (lt_at hd5) trivial))))))) (ih (i5 + 1) (drop_next hd5) (zT hd5) (by first | assumption | omega)) (by kernel_rfl)
    | false =>
      have g5 := within_f h5
      exact zQ ((orders_right_5_l_o1 e x5) ++ [.dec false]) (And.intro h5 (And.intro p2 (And.intro (zz S_Item.D e.items) (And.intro p1 (And.intro (lt_at hd5) trivial))))) (by kernel_rfl)

def zR (e : S_Estate) (items : GS Int) : Int :=
  bif ((orders_Check e) != 0) then
    (orders_Check e)
  else
    match orders_right_5 e items items.l 0 with
    | .x0 =>
      0
    | .x1 i5 x5 =>
      1
    | .x2 i5 x5 =>
      1

def sd74 (e : S_Estate) (items : GS Int) : St := ⟨41, [(16, B false), (1, .sl items.nl (items.l.map I) (zsl items.nl 1) none), (2, .lref 0 0 3 0), (13, .sl items.nl (items.l.map I) (zsl items.nl 1) none), (14, I ((items.l.length : Nat) : Int)), (15, I ((items.l.length : Nat) : Int))], [(0, ⟨[.agg [.sl e.items.nl (e.items.l.map S_Item.D) (zsl e.items.nl 4) none, I e.whole.lo, I e.whole.hi]], 3, false⟩)], 1, 0⟩

def sd75 (e : S_Estate) (items : GS Int) (i5 : Nat) (x5 : Int) : St := ⟨41, [(4, I 1), (39, B true), (38, B true), (37, B true), (36, I x5), (35, I (GS.at items (w64 (((i5 : Nat) : Int) - 1)))), (34, .ptr (I (GS.at items (w64 (((i5 : Nat) : Int) - 1))))), (33, I (w64 (((i5 : Nat) : Int) - 1))), (32, I ((i5 : Nat) : Int)), (31, .sl items.nl (items.l.map I) (zsl items.nl 1) none), (30, B true), (29, B true), (28, I ((i5 : Nat) : Int)), (27, B false), (26, B false), (25, B true), (24, I (w64 (((e.items.l.length : Nat) : Int) - 1))), (23, I ((e.items.l.length : Nat) : Int)), (22, .sl e.items.nl (e.items.l.map S_Item.D) (zsl e.items.nl 4) none), (21, .lref 0 0 3 0), (20, I x5), (7, I x5), (6, I ((i5 : Nat) : Int)), (19, I x5), (18, .ptr (I x5)), (17, I ((i5 : Nat) : Int)), (16, B true), (1, .sl items.nl (items.l.map I) (zsl items.nl 1) none), (2, .lref 0 0 3 0), (13, .sl items.nl (items.l.map I) (zsl items.nl 1) none), (14, I ((items.l.length : Nat) : Int)), (15, I ((i5 : Nat) : Int))], [(0, ⟨[.agg [.sl e.items.nl (e.items.l.map S_Item.D) (zsl e.items.nl 4) none, I e.whole.lo, I e.whole.hi]], 3, false⟩)], 1, 0⟩

def sd76 (e : S_Estate) (items : GS Int) (i5 : Nat) (x5 : Int) : St := ⟨41, [(4, I 1), (39, B true), (38, .tup []), (37, .tup []), (36, .tup []), (35, .tup []), (34, .tup []), (33, .tup []), (32, .tup []), (31, .tup []), (30, .tup []), (29, .tup []), (28, .tup []), (27, B true), (26, B true), (25, B false), (24, I (w64 (((e.items.l.length : Nat) : Int) - 1))), (23, I ((e.items.l.length : Nat) : Int)), (22, .sl e.items.nl (e.items.l.map S_Item.D) (zsl e.items.nl 4) none), (21, .lref 0 0 3 0), (20, I x5), (7, I x5), (6, I ((i5 : Nat) : Int)), (19, I x5), (18, .ptr (I x5)), (17, I ((i5 : Nat) : Int)), (16, B true), (1, .sl items.nl (items.l.map I) (zsl items.nl 1) none), (2, .lref 0 0 3 0), (13, .sl items.nl (items.l.map I) (zsl items.nl 1) none), (14, I ((items.l.length : Nat) : Int)), (15, I ((i5 : Nat) : Int))], [(0, ⟨[.agg [.sl e.items.nl (e.items.l.map S_Item.D) (zsl e.items.nl 4) none, I e.whole.lo, I e.whole.hi]], 3, false⟩)], 1, 0⟩

theorem T_orders_right (e : S_Estate) (items : GS Int) (hL_items : items.l.length ≤ 9223372036854775807) : (lim cfg).pure 71 [S_Estate.D e, GS.D I 1 items] = some (I (zR e items)) := by
  unfold zR
  cases h1 : ((orders_Check e) != 0) with
  | true =>
    have g1 := bne_true h1
    exact zy [.pure (I (orders_Check e)), .dec true] (And.intro h1 (And.intro (T_orders_Check e) trivial)) (by kernel_rfl)
  | false =>
    have g1 := check_len (bne_false h1)
    cases h8 : orders_right_5 e items items.l 0 with
    | x0 =>
      try dsimp only
      exact zy [.pure (I (orders_Check e)), .dec false, .rw 14 (I ((items.l.length : Nat) : Int)), .loop (.exit 0) (sd74 e items)] (And.intro (po_lr (q := lr_orders_right_5 e items) (lp_orders_right_5 e items items.l 0 (List.drop_zero) (Nat.zero_le _) (by first | assumption | omega)) h8) (And.intro (zz I items) (And.intro h1 (And.intro (T_orders_Check e) trivial)))) (by kernel_rfl)
    | x1 i5 x5 =>
      try dsimp only
      exact zy [.pure (I (orders_Check e)), .dec false, .rw 14 (I ((items.l.length : Nat) : Int)), .loop .ret (sd75 e items i5 x5)] (And.intro (po_lr (q := lr_orders_right_5 e items) (lp_orders_right_5 e items items.l 0 (List.drop_zero) (Nat.zero_le _) (by first | assumption | omega)) h8) (And.intro (zz I items) (And.intro h1 (And.intro (T_orders_Check e) trivial)))) (by kernel_rfl)
    | x2 i5 x5 =>
      try dsimp only
      exact zy [.pure (I (orders_Check e)), .dec false, .rw 14 (I ((items.l.length : Nat) : Int)), .loop .ret (sd76 e items i5 x5)] (And.intro (po_lr (q := lr_orders_right_5 e items) (lp_orders_right_5 e items items.l 0 (List.drop_zero) (Nat.zero_le _) (by first | assumption | omega)) h8) (And.intro (zz I items) (And.intro h1 (And.intro (T_orders_Check e) trivial)))) (by kernel_rfl)

/-- Numbers that increase, above p and below n. -/
def inc (p n : Int) : List Int → Prop
  | [] => True
  | x :: l => p < x ∧ 0 ≤ x ∧ x < n ∧ inc x n l
theorem inc_mem : ∀ {p n : Int} {l : List Int}, inc p n l → ∀ x ∈ l, 0 ≤ x ∧ x < n
  | _, _, [], _, x, hx => by cases hx
  | p, n, y :: l, h, x, hx => by
    rcases List.mem_cons.1 hx with rfl | hx
    · exact ⟨h.2.1, h.2.2.1⟩
    · exact inc_mem h.2.2.2 x hx
theorem inc_len : ∀ {p n : Int} {l : List Int}, inc p n l → -1 ≤ p → l ≠ [] → (l.length : Int) ≤ n - p - 1
  | _, _, [], _, _, h => absurd rfl h
  | p, n, [y], h, _, _ => by have := h.1; have := h.2.2.1; simp; omega
  | p, n, y :: z :: l, h, hp, _ => by
    have := inc_len (l := z :: l) h.2.2.2 (by have := h.2.1; omega) (by simp)
    have := h.1
    simp only [List.length_cons] at *
    omega
theorem right5 {e : S_Estate} {items : GS Int} (hn : e.items.l.length ≤ 12) (hL : items.l.length ≤ 9223372036854775807) : ∀ (l : List Int) (i : Nat), items.l.drop i = l → (orders_right_5 e items l i = .x0 ↔ inc (if i = 0 then -1 else items.at ((i : Int) - 1)) (e.items.l.length : Int) l)
  | [], i, _ => by simp [orders_right_5, inc]
  | x :: l, i, hd => by
    have hlt := zT hd
    have hx : items.at (i : Int) = x := at_of hd
    unfold orders_right_5
    simp only [inc]
    cases h1 : zH x 0 (w64 (((e.items.l.length : Nat) : Int) - 1)) with
    | false =>
      simp only [cond_false]
      constructor
      · intro h; cases h
      · intro h
        exfalso
        have : zH x 0 (w64 (((e.items.l.length : Nat) : Int) - 1)) = true := by rw [within_eq, w64_eq (by omega) (by omega)]; simp; omega
        rw [this] at h1; cases h1
    | true =>
      have h1' := within_t h1
      rw [w64_eq (by omega) (by omega)] at h1'
      have ih := right5 (items := items) hn hL l (i + 1) (drop_next hd)
      rw [if_neg (by omega), show ((i + 1 : Nat) : Int) - 1 = (i : Int) by omega, hx] at ih
      simp only [cond_true]
      by_cases h0 : i = 0
      · subst h0
        have e0 : decide (((0 : Nat) : Int) > 0) = false := rfl
        rw [e0, if_pos rfl]
        simp only [cond_false, ih]
        constructor
        · intro h; exact ⟨by omega, by omega, by omega, h⟩
        · intro h; exact h.2.2.2
      · rw [if_neg h0, decide_eq_true (by omega : ((i : Nat) : Int) > 0)]
        simp only [cond_true]
        rw [w64_eq (by omega) (by omega)]
        cases h2 : decide (items.at (((i : Nat) : Int) - 1) ≥ x) with
        | true =>
          have := of_decide_eq_true h2
          simp only [cond_true]
          constructor
          · intro h; cases h
          · intro h; omega
        | false =>
          have := of_decide_eq_false h2
          simp only [cond_false, ih]
          constructor
          · intro h; exact ⟨by omega, by omega, by omega, h⟩
          · intro h; exact h.2.2.2
theorem right_iff {e : S_Estate} {items : GS Int} (hL : items.l.length ≤ 9223372036854775807) : zR e items = 0 ↔ orders_Check e = 0 ∧ inc (-1) (e.items.l.length : Int) items.l := by
  unfold zR
  cases h : (orders_Check e != 0) with
  | true =>
    have := bne_true h
    simp only [cond_true]
    exact ⟨fun h => absurd h this, fun h => h.1⟩
  | false =>
    have h' := bne_false h
    have hl := check_len h'
    have k := right5 hl.2 hL items.l 0 List.drop_zero
    rw [if_pos rfl] at k
    simp only [cond_false]
    constructor
    · intro h1
      refine ⟨h', k.1 ?_⟩
      revert h1
      cases orders_right_5 e items items.l 0 <;> simp
    · intro h1
      rw [k.2 h1.2]
theorem right_ok {e : S_Estate} {items : GS Int} (hL : items.l.length ≤ 9223372036854775807) (h : zR e items = 0) : 1 ≤ e.items.l.length ∧ e.items.l.length ≤ 12 ∧ items.l.length ≤ 12 := by
  have h' := (right_iff hL).1 h
  have hl := check_len h'.1
  refine ⟨hl.1, hl.2, ?_⟩
  by_cases hn : items.l = []
  · rw [hn]; simp
  · have := inc_len h'.2 (by omega) hn
    omega
theorem right_all {e : S_Estate} {items : GS Int} (hL : items.l.length ≤ 9223372036854775807) (h : zR e items = 0) : ∀ i ∈ items.l, 0 ≤ i ∧ i < ((e.items.l.length : Nat) : Int) := inc_mem ((right_iff hL).1 h).2
end Go.VS

namespace Go.VS
open Go Go.Proofs
set_option maxHeartbeats 0
set_option linter.unusedSimpArgs false
set_option linter.unusedVariables false
noncomputable def lp66_3 : Code := subC [1, 1, 0, 1, 0, 0] (bodyC Try.f66)

def sd77 (e : S_Estate) (items : GS Int) (i3 : Nat) (x3 : Int) (va3_0 : List Int) : St := ⟨25, [(10, I ((i3 + 1 : Nat) : Int)), (23, I ((i3 + 1 : Nat) : Int)), (5, .lsl 3 0 ((va3_0 ++ [(zt (GS.at e.items x3))]).length) 1 none), (22, .lsl 3 0 ((va3_0 ++ [(zt (GS.at e.items x3))]).length) 1 none), (21, .lsl 2 0 1 1 (some 1)), (20, I (zt (GS.at e.items x3))), (19, .agg [I ((GS.at e.items x3).now.lo), I ((GS.at e.items x3).now.hi), I ((GS.at e.items x3).cost), I ((GS.at e.items x3).error)]), (18, .ptr (.agg [I ((GS.at e.items x3).now.lo), I ((GS.at e.items x3).now.hi), I ((GS.at e.items x3).cost), I ((GS.at e.items x3).error)])), (17, I x3), (16, .sl e.items.nl (e.items.l.map S_Item.D) (zsl e.items.nl 4) none), (15, .lref 0 0 3 0), (14, .lsl 1 0 va3_0.length 1 none), (7, I x3), (13, I x3), (12, .ptr (I x3)), (11, B true), (2, .lref 0 0 3 0), (5, .lsl 1 0 va3_0.length 1 none), (8, .sl items.nl (items.l.map I) (zsl items.nl 1) none), (9, I ((items.l.length : Nat) : Int)), (10, I ((i3 : Nat) : Int))], [(0, ⟨[.agg [.sl e.items.nl (e.items.l.map S_Item.D) (zsl e.items.nl 4) none, I e.whole.lo, I e.whole.hi]], 3, false⟩), (2, ⟨[I (zt (GS.at e.items x3))], 1, false⟩), (3, ⟨(va3_0 ++ [(zt (GS.at e.items x3))]).map I, 1, false⟩)], 4, 0⟩

inductive LR_orders_gains_3 where
  | x0 (va3_0 : List Int)
  | x1
instance : Inhabited LR_orders_gains_3 := ⟨.x0 default⟩
def orders_gains_3a (e : S_Estate) : List Int → (List Int) → LR_orders_gains_3
  | [], va3_0 => .x0 va3_0
  | x3 :: rest3, va3_0 =>
    orders_gains_3a e rest3 (va3_0 ++ [(zt (GS.at e.items x3))])
def orders_gains_3 (e : S_Estate) : List Int → LR_orders_gains_3
  | [] => .x1
  | x3 :: rest3 =>
    orders_gains_3a e rest3 [(zt (GS.at e.items x3))]
def lr_orders_gains_3 (e : S_Estate) (items : GS Int) : LR_orders_gains_3 → Exit × St
  | .x0 va3_0 => ((.exit 0), ⟨25, [(11, B false), (2, .lref 0 0 3 0), (5, .lsl 1 0 va3_0.length 1 none), (8, .sl items.nl (items.l.map I) (zsl items.nl 1) none), (9, I ((items.l.length : Nat) : Int)), (10, I ((items.l.length : Nat) : Int))], [(0, ⟨[.agg [.sl e.items.nl (e.items.l.map S_Item.D) (zsl e.items.nl 4) none, I e.whole.lo, I e.whole.hi]], 3, false⟩), (1, ⟨va3_0.map I, 1, false⟩)], 2, 0⟩)
  | .x1 => ((.exit 0), ⟨25, [(11, B false), (2, .lref 0 0 3 0), (5, .sl true [] 0 none), (8, .sl items.nl (items.l.map I) (zsl items.nl 1) none), (9, I ((items.l.length : Nat) : Int)), (10, I ((items.l.length : Nat) : Int))], [(0, ⟨[.agg [.sl e.items.nl (e.items.l.map S_Item.D) (zsl e.items.nl 4) none, I e.whole.lo, I e.whole.hi]], 3, false⟩)], 1, 0⟩)
def iv_orders_gains_3 (e : S_Estate) (items : GS Int) : LR_orders_gains_3 → Prop
  | .x0 va3_0 => (va3_0.length ≤ items.l.length)
  | .x1 => True
theorem lp_orders_gains_3a (e : S_Estate) (items : GS Int) : ∀ (rest3 : List Int) (i3 : Nat) (va3_0 : List Int) (hd3 : items.l.drop i3 = rest3) (hi3 : i3 ≤ items.l.length) (hall : ∀ i ∈ items.l, 0 ≤ i ∧ i < ((e.items.l.length : Nat) : Int)) (hg3_va3_0 : va3_0.length ≤ i3) (hL3 : items.l.length ≤ 1099511627776), (lim cfg).loop 66 lp66_3 ⟨25, [(2, .lref 0 0 3 0), (5, .lsl 1 0 va3_0.length 1 none), (8, .sl items.nl (items.l.map I) (zsl items.nl 1) none), (9, I ((items.l.length : Nat) : Int)), (10, I ((i3 : Nat) : Int))], [(0, ⟨[.agg [.sl e.items.nl (e.items.l.map S_Item.D) (zsl e.items.nl 4) none, I e.whole.lo, I e.whole.hi]], 3, false⟩), (1, ⟨va3_0.map I, 1, false⟩)], 2, 0⟩ = some (lr_orders_gains_3 e items (orders_gains_3a e rest3 va3_0)) := by
  intro rest3
  induction rest3 with
  | nil =>
    intro i3 va3_0 hd3 hi3 hall hg3_va3_0 hL3
    unfold orders_gains_3a
    obtain rfl : i3 = items.l.length := nil_eq hd3 hi3
    exact zQ [.dec false] (And.intro (lt_no hd3) trivial) (by kernel_rfl)
  | cons x3 rest3 ih =>
    intro i3 va3_0 hd3 hi3 hall hg3_va3_0 hL3
    have hlt3 := zT hd3
    have hbx := hall x3 (mem_drop hd3)
    unfold orders_gains_3a
    exact po_turn' (ks := [2, 5, 8, 9, 10]) (st' := (sd77 e items i3 x3 va3_0)) [.dec true, .el (I x3), .el (.agg [I ((GS.at e.items x3).now.lo), I ((GS.at e.items x3).now.hi), I ((GS.at e.items x3).cost), I ((GS.at e.items x3).error)]), .pure (I (zt (GS.at e.items x3))), .op (some 22) ⟨.lsl 3 0 ((va3_0 ++ [(zt (GS.at e.items x3))]).length) 1 none, [(1, none), (3, some ⟨(va3_0 ++ [(zt (GS.at e.items x3))]).map I, 1, false⟩)], [1, 2], 4⟩, .rw 23 (I ((i3 + 1 : Nat) : Int))] (And.intro (inc_rw (i := i3) (by have := zT hd3; omega)) (And.intro (app_row (f := I) (te := ty3) (gO := zv [(0, ⟨[.agg [.sl e.items.nl (e.items.l.map S_Item.D) (zsl e.items.nl 4) none, I e.whole.lo, I e.whole.hi]], 3, false⟩), (1, ⟨va3_0.map I, 1, false⟩), (2, ⟨[I (zt (GS.at e.items x3))], 1, false⟩)]) (nxt := 3) (o := 1) (o2 := 2) (fz := false) zx va3_0 (zt (GS.at e.items x3)) (by kernel_rfl) (by kernel_rfl) rfl (by kernel_rfl) (by decide) ⟨by simp only [ty3, big] <;> (first | assumption | omega | (simp only [zc] at * <;> omega) | (simp only [zd, za, zb, GS.some_l, List.length_set, List.length_append, List.length_cons, List.length_nil] at * <;> first | with_reducible assumption | omega) | (simp only [zd, za, zb, GS.some_l, List.length_set, List.length_append, List.length_cons, List.length_nil, zc] at * <;> first | with_reducible assumption | omega) | (simp at * <;> omega)), by simp only [big] <;> (first | assumption | omega | (simp only [zc] at * <;> omega) | (simp only [zd, za, zb, GS.some_l, List.length_set, List.length_append, List.length_cons, List.length_nil] at * <;> first | with_reducible assumption | omega) | (simp only [zd, za, zb, GS.some_l, List.length_set, List.length_append, List.length_cons, List.length_nil, zc] at * <;> first | with_reducible assumption | omega) | (simp at * <;> omega))⟩) (And.intro (T_orders_gain (GS.at e.items x3)) (And.intro (el_in (s := e.items) (f := S_Item.D) (k := 4) (i := x3) (by first | assumption | omega) (by first | assumption | omega)) (And.intro (el_at (s := items) (f := I) (k := 1) hd3) (And.intro (lt_at hd3) trivial)))))) (by kernel_rfl) (by (simp only [sd77, go_sem, Nat.reduceAdd, Nat.reduceEqDiff, Nat.reduceLT, Nat.reduceLeDiff, bI2, zx.idsL, zx.renL, zx.snapAll, z7.idsL, z7.renL, z7.snapAll]) <;> rfl) (ih (i3 + 1) (va3_0 ++ [(zt (GS.at e.items x3))]) (drop_next hd3) (zT hd3) (by first | assumption | omega) (by first | assumption | omega | (simp only [zc] at * <;> omega) | (simp only [zd, za, zb, GS.some_l, List.length_set, List.length_append, List.length_cons, List.length_nil] at * <;> first | with_reducible assumption | omega) | (simp only [zd, za, zb, GS.some_l, List.length_set, List.length_append, List.length_cons, List.length_nil, zc] at * <;> first | with_reducible assumption | omega) | (simp at * <;> omega)) (by first | assumption | omega)) (by kernel_rfl)
theorem ivt_orders_gains_3a (e : S_Estate) (items : GS Int) : ∀ (rest3 : List Int) (i3 : Nat) (va3_0 : List Int) (hd3 : items.l.drop i3 = rest3) (hi3 : i3 ≤ items.l.length) (hall : ∀ i ∈ items.l, 0 ≤ i ∧ i < ((e.items.l.length : Nat) : Int)) (hg3_va3_0 : va3_0.length ≤ i3) (hL3 : items.l.length ≤ 1099511627776), iv_orders_gains_3 e items (orders_gains_3a e rest3 va3_0) := by
  intro rest3
  induction rest3 with
  | nil =>
    intro i3 va3_0 hd3 hi3 hall hg3_va3_0 hL3
    unfold orders_gains_3a
    obtain rfl : i3 = items.l.length := nil_eq hd3 hi3
    exact hg3_va3_0
  | cons x3 rest3 ih =>
    intro i3 va3_0 hd3 hi3 hall hg3_va3_0 hL3
    have hlt3 := zT hd3
    have hbx := hall x3 (mem_drop hd3)
    unfold orders_gains_3a
    exact ih (i3 + 1) (va3_0 ++ [(zt (GS.at e.items x3))]) (drop_next hd3) (zT hd3) (by first | assumption | omega) (by first | assumption | omega | (simp only [zc] at * <;> omega) | (simp only [zd, za, zb, GS.some_l, List.length_set, List.length_append, List.length_cons, List.length_nil] at * <;> first | with_reducible assumption | omega) | (simp only [zd, za, zb, GS.some_l, List.length_set, List.length_append, List.length_cons, List.length_nil, zc] at * <;> first | with_reducible assumption | omega) | (simp at * <;> omega)) (by first | assumption | omega)
theorem lp_orders_gains_3 (e : S_Estate) (items : GS Int) : ∀ (rest3 : List Int) (i3 : Nat) (hd3 : items.l.drop i3 = rest3) (hi3 : i3 ≤ items.l.length) (hall : ∀ i ∈ items.l, 0 ≤ i ∧ i < ((e.items.l.length : Nat) : Int)) (hL3 : items.l.length ≤ 1099511627776), (lim cfg).loop 66 lp66_3 ⟨25, [(2, .lref 0 0 3 0), (5, .sl true [] 0 none), (8, .sl items.nl (items.l.map I) (zsl items.nl 1) none), (9, I ((items.l.length : Nat) : Int)), (10, I ((i3 : Nat) : Int))], [(0, ⟨[.agg [.sl e.items.nl (e.items.l.map S_Item.D) (zsl e.items.nl 4) none, I e.whole.lo, I e.whole.hi]], 3, false⟩)], 1, 0⟩ = some (lr_orders_gains_3 e items (orders_gains_3 e rest3)) := by
  intro rest3
  induction rest3 with
  | nil =>
    intro i3 hd3 hi3 hall hL3
    unfold orders_gains_3
    obtain rfl : i3 = items.l.length := nil_eq hd3 hi3
    exact zQ [.dec false] (And.intro (lt_no hd3) trivial) (by kernel_rfl)
  | cons x3 rest3 ih =>
    intro i3 hd3 hi3 hall hL3
    have hlt3 := zT hd3
    have hbx := hall x3 (mem_drop hd3)
    unfold orders_gains_3
    dsimp only
    exact po_turn [.dec true, .el (I x3), .el (.agg [I ((GS.at e.items x3).now.lo), I ((GS.at e.items x3).now.hi), I ((GS.at e.items x3).cost), I ((GS.at e.items x3).error)]), .pure (I (zt (GS.at e.items x3))), .rw 23 (I ((i3 + 1 : Nat) : Int))] (And.intro (inc_rw (i := i3) (by have := zT hd3; omega)) (And.intro (T_orders_gain (GS.at e.items x3)) (And.intro (el_in (s := e.items) (f := S_Item.D) (k := 4) (i := x3) (by first | assumption | omega) (by first | assumption | omega)) (And.intro (el_at (s := items) (f := I) (k := 1) hd3) (And.intro (lt_at hd3) trivial))))) (lp_orders_gains_3a e items _ (i3 + 1) [(zt (GS.at e.items x3))] (drop_next hd3) (zT hd3) (by first | assumption | omega) (by first | assumption | omega | (simp only [zc] at * <;> omega) | (simp only [zd, za, zb, GS.some_l, List.length_set, List.length_append, List.length_cons, List.length_nil] at * <;> first | with_reducible assumption | omega) | (simp only [zd, za, zb, GS.some_l, List.length_set, List.length_append, List.length_cons, List.length_nil, zc] at * <;> first | with_reducible assumption | omega) | (simp at * <;> omega)) (by first | assumption | omega)) (by kernel_rfl)
theorem ivt_orders_gains_3 (e : S_Estate) (items : GS Int) : ∀ (rest3 : List Int) (i3 : Nat) (hd3 : items.l.drop i3 = rest3) (hi3 : i3 ≤ items.l.length) (hall : ∀ i ∈ items.l, 0 ≤ i ∧ i < ((e.items.l.length : Nat) : Int)) (hL3 : items.l.length ≤ 1099511627776), iv_orders_gains_3 e items (orders_gains_3 e rest3) := by
  intro rest3
  induction rest3 with
  | nil =>
    intro i3 hd3 hi3 hall hL3
    unfold orders_gains_3
    obtain rfl : i3 = items.l.length := nil_eq hd3 hi3
    exact trivial
  | cons x3 rest3 ih =>
    intro i3 hd3 hi3 hall hL3
    have hlt3 := zT hd3
    have hbx := hall x3 (mem_drop hd3)
    unfold orders_gains_3
    dsimp only
    exact ivt_orders_gains_3a e items _ (i3 + 1) [(zt (GS.at e.items x3))] (drop_next hd3) (zT hd3) (by first | assumption | omega) (by first | assumption | omega | (simp only [zc] at * <;> omega) | (simp only [zd, za, zb, GS.some_l, List.length_set, List.length_append, List.length_cons, List.length_nil] at * <;> first | with_reducible assumption | omega) | (simp only [zd, za, zb, GS.some_l, List.length_set, List.length_append, List.length_cons, List.length_nil, zc] at * <;> first | with_reducible assumption | omega) | (simp at * <;> omega)) (by first | assumption | omega)

def zj (e : S_Estate) (items : GS Int) : (GS Int) :=
  match orders_gains_3 e items.l with
  | .x0 va3_0 =>
    GS.some va3_0
  | .x1 =>
    GS.nil

def sd78 (e : S_Estate) (items : GS Int) (va3_0 : List Int) : St := ⟨25, [(11, B false), (2, .lref 0 0 3 0), (5, .lsl 1 0 va3_0.length 1 none), (8, .sl items.nl (items.l.map I) (zsl items.nl 1) none), (9, I ((items.l.length : Nat) : Int)), (10, I ((items.l.length : Nat) : Int))], [(0, ⟨[.agg [.sl e.items.nl (e.items.l.map S_Item.D) (zsl e.items.nl 4) none, I e.whole.lo, I e.whole.hi]], 3, false⟩), (1, ⟨va3_0.map I, 1, false⟩)], 2, 0⟩

def sd79 (e : S_Estate) (items : GS Int) : St := ⟨25, [(11, B false), (2, .lref 0 0 3 0), (5, .sl true [] 0 none), (8, .sl items.nl (items.l.map I) (zsl items.nl 1) none), (9, I ((items.l.length : Nat) : Int)), (10, I ((items.l.length : Nat) : Int))], [(0, ⟨[.agg [.sl e.items.nl (e.items.l.map S_Item.D) (zsl e.items.nl 4) none, I e.whole.lo, I e.whole.hi]], 3, false⟩)], 1, 0⟩

theorem T_orders_gains (e : S_Estate) (items : GS Int) (hall : ∀ i ∈ items.l, 0 ≤ i ∧ i < ((e.items.l.length : Nat) : Int)) (hL_items : items.l.length ≤ 1099511627776) : (lim cfg).pure 66 [S_Estate.D e, GS.D I 1 items] = some (GS.D I 1 (zj e items)) := by
  unfold zj
  cases h1 : orders_gains_3 e items.l with
  | x0 va3_0 =>
    try dsimp only
    have hv_h1 := ivt_orders_gains_3 e items items.l 0 (List.drop_zero) (Nat.zero_le _) (by first | assumption | omega) (by first | assumption | omega)
    rw [h1] at hv_h1
    have hv_h1_0 := hv_h1
    try dsimp only [iv_orders_gains_3] at hv_h1_0
    exact po_pureS [.rw 9 (I ((items.l.length : Nat) : Int)), .loop (.exit 0) (sd78 e items va3_0)] [(1, .sl false (va3_0.map I) 1 none, [1])] (And.intro (zw (gO := zv [(0, ⟨[.agg [.sl e.items.nl (e.items.l.map S_Item.D) (zsl e.items.nl 4) none, I e.whole.lo, I e.whole.hi]], 3, false⟩), (1, ⟨va3_0.map I, 1, false⟩)]) (o := 1) (len := va3_0.length) (cap := none) (fz := false) zx va3_0 (by kernel_rfl) (by first | assumption | omega)) (And.intro (po_lr (q := lr_orders_gains_3 e items) (lp_orders_gains_3 e items items.l 0 (List.drop_zero) (Nat.zero_le _) (by first | assumption | omega) (by first | assumption | omega)) h1) (And.intro (zz I items) trivial))) (by kernel_rfl)
  | x1 =>
    try dsimp only
    exact zy [.rw 9 (I ((items.l.length : Nat) : Int)), .loop (.exit 0) (sd79 e items)] (And.intro (po_lr (q := lr_orders_gains_3 e items) (lp_orders_gains_3 e items items.l 0 (List.drop_zero) (Nat.zero_le _) (by first | assumption | omega) (by first | assumption | omega)) h1) (And.intro (zz I items) trivial)) (by kernel_rfl)

theorem gains_l (e : S_Estate) (items : GS Int) : (zj e items).l = items.l.map (fun i => zt (e.items.at i)) ∧ (zj e items).nl = items.l.isEmpty := by
  have key : ∀ (l v : List Int), orders_gains_3a e l v = .x0 (v ++ l.map (fun i => zt (e.items.at i))) := by
    intro l
    induction l with
    | nil => intro v; simp [orders_gains_3a]
    | cons x l ih => intro v; rw [orders_gains_3a, ih]; simp
  unfold zj
  cases items.l with
  | nil => exact ⟨rfl, rfl⟩
  | cons x l => rw [orders_gains_3, key]; exact ⟨rfl, rfl⟩
theorem zb (e : S_Estate) (items : GS Int) : (zj e items).l.length = items.l.length := by rw [(gains_l e items).1, List.length_map]


def orders_worst (e : S_Estate) (items : GS Int) : Int :=
  ((orders_window_widest (zi e (zp (zj e items)))).1)

theorem T_orders_worst (e : S_Estate) (items : GS Int) (hall : ∀ i ∈ items.l, 0 ≤ i ∧ i < ((e.items.l.length : Nat) : Int)) (hL_items : items.l.length ≤ 1099511627776) (hL_e_items : e.items.l.length ≤ 9223372036854775807) : (lim cfg).pure 61 [S_Estate.D e, GS.D I 1 items] = some (I (orders_worst e items)) := by
  unfold orders_worst
  exact zy [.pure (.sl ((zj e items).nl) (((zj e items).l).map I) (zsl ((zj e items).nl) 1) none), .pure (I (zp (zj e items))), .pure (.agg [I ((zi e (zp (zj e items))).at_.lo), I ((zi e (zp (zj e items))).at_.hi), I ((zi e (zp (zj e items))).room_), I ((zi e (zp (zj e items))).whole_.lo), I ((zi e (zp (zj e items))).whole_.hi)]), .pure (.tup [I ((orders_window_widest (zi e (zp (zj e items)))).1), I ((orders_window_widest (zi e (zp (zj e items)))).2)])] (And.intro (T_orders_window_widest (zi e (zp (zj e items)))) (And.intro (T_orders_windowOf e (zp (zj e items)) (by first | assumption | omega)) (And.intro (T_orders_total (zj e items) (by first | assumption | omega | (simp only [zc] at * <;> omega) | (simp only [zd, za, zb, GS.some_l, List.length_set, List.length_append, List.length_cons, List.length_nil] at * <;> first | with_reducible assumption | omega) | (simp only [zd, za, zb, GS.some_l, List.length_set, List.length_append, List.length_cons, List.length_nil, zc] at * <;> first | with_reducible assumption | omega) | (simp at * <;> omega))) (And.intro (T_orders_gains e items (by first | assumption | omega) (by first | assumption | omega)) trivial)))) (by kernel_rfl)

def z5 (e : S_Estate) (items : GS Int) : Int × Int :=
  bif ((zR e items) != 0) then
    (0, (zR e items))
  else
    ((orders_worst e items), 0)

theorem zq (e : S_Estate) (items : GS Int) (hL : items.l.length ≤ 9223372036854775807) : (lim cfg).pure 26 [S_Estate.D e, GS.D I 1 items] = some (.tup [I ((z5 e items).1), I ((z5 e items).2)]) := by
  unfold z5
  cases h1 : ((zR e items) != 0) with
  | true =>
    have g1 := bne_true h1
    exact zy [.pure (I (zR e items)), .dec true] (And.intro h1 (And.intro (T_orders_right e items (by first | assumption | omega)) trivial)) (by kernel_rfl)
  | false =>
    obtain ⟨g1, gb1⟩ := And.intro (right_ok (by assumption) (bne_false h1)) (right_all (by assumption) (bne_false h1))
    exact zy [.pure (I (zR e items)), .dec false, .pure (I (orders_worst e items))] (And.intro (T_orders_worst e items (by first | assumption | omega) (by first | assumption | omega) (by first | assumption | omega)) (And.intro h1 (And.intro (T_orders_right e items (by first | assumption | omega)) trivial))) (by kernel_rfl)

noncomputable def lp72_3 : Code := subC [1, 1, 0, 1, 0, 0] (bodyC Try.f72)

def sd81 (e : S_Estate) (items : GS Int) (i3 : Nat) (x3 : Int) (va3_0 : Int) (va3_1 : List Int) : St := ⟨43, [(14, I ((i3 + 1 : Nat) : Int)), (41, I ((i3 + 1 : Nat) : Int)), (7, .lsl 4 0 ((va3_1 ++ [w64 ((w64 (((GS.at e.items x3).now.lo) + ((GS.at e.items x3).error))) + (ze va3_0 (zt (GS.at e.items x3))))]).length) 1 none), (40, .lsl 4 0 ((va3_1 ++ [w64 ((w64 (((GS.at e.items x3).now.lo) + ((GS.at e.items x3).error))) + (ze va3_0 (zt (GS.at e.items x3))))]).length) 1 none), (39, .lsl 3 0 1 1 (some 1)), (38, I (w64 ((w64 (((GS.at e.items x3).now.lo) + ((GS.at e.items x3).error))) + (ze va3_0 (zt (GS.at e.items x3)))))), (37, I (ze va3_0 (zt (GS.at e.items x3)))), (36, I (w64 (((GS.at e.items x3).now.lo) + ((GS.at e.items x3).error)))), (35, I ((GS.at e.items x3).error)), (34, .lref 2 0 4 3), (33, I ((GS.at e.items x3).now.lo)), (32, .lref 2 0 4 0), (31, .lref 2 0 4 0), (30, .lsl 1 0 va3_1.length 1 none), (2, I (w64 (va3_0 - (ze va3_0 (zt (GS.at e.items x3)))))), (29, I (w64 (va3_0 - (ze va3_0 (zt (GS.at e.items x3)))))), (28, I (ze va3_0 (zt (GS.at e.items x3)))), (27, I va3_0), (11, I (ze va3_0 (zt (GS.at e.items x3)))), (26, I (ze va3_0 (zt (GS.at e.items x3)))), (25, I (zt (GS.at e.items x3))), (24, .agg [I ((GS.at e.items x3).now.lo), I ((GS.at e.items x3).now.hi), I ((GS.at e.items x3).cost), I ((GS.at e.items x3).error)]), (23, I va3_0), (10, .lref 2 0 4 0), (22, .agg [I ((GS.at e.items x3).now.lo), I ((GS.at e.items x3).now.hi), I ((GS.at e.items x3).cost), I ((GS.at e.items x3).error)]), (21, .ptr (.agg [I ((GS.at e.items x3).now.lo), I ((GS.at e.items x3).now.hi), I ((GS.at e.items x3).cost), I ((GS.at e.items x3).error)])), (20, I x3), (19, .sl e.items.nl (e.items.l.map S_Item.D) (zsl e.items.nl 4) none), (18, .lref 0 0 3 0), (9, I x3), (17, I x3), (16, .ptr (I x3)), (15, B true), (2, I va3_0), (3, .lref 0 0 3 0), (7, .lsl 1 0 va3_1.length 1 none), (12, .sl items.nl (items.l.map I) (zsl items.nl 1) none), (13, I ((items.l.length : Nat) : Int)), (14, I ((i3 : Nat) : Int))], [(0, ⟨[.agg [.sl e.items.nl (e.items.l.map S_Item.D) (zsl e.items.nl 4) none, I e.whole.lo, I e.whole.hi]], 3, false⟩), (2, ⟨[.agg [I ((GS.at e.items x3).now.lo), I ((GS.at e.items x3).now.hi), I ((GS.at e.items x3).cost), I ((GS.at e.items x3).error)]], 4, false⟩), (3, ⟨[I (w64 ((w64 (((GS.at e.items x3).now.lo) + ((GS.at e.items x3).error))) + (ze va3_0 (zt (GS.at e.items x3)))))], 1, false⟩), (4, ⟨(va3_1 ++ [w64 ((w64 (((GS.at e.items x3).now.lo) + ((GS.at e.items x3).error))) + (ze va3_0 (zt (GS.at e.items x3))))]).map I, 1, false⟩)], 5, 0⟩

inductive LR_orders_shown_3 where
  | x0 (va3_0 : Int) (va3_1 : List Int)
  | x1
instance : Inhabited LR_orders_shown_3 := ⟨.x0 default default⟩
def orders_shown_3a (e : S_Estate) (s : Int) : List Int → Int → (List Int) → LR_orders_shown_3
  | [], va3_0, va3_1 => .x0 va3_0 va3_1
  | x3 :: rest3, va3_0, va3_1 =>
    orders_shown_3a e s rest3 (w64 (va3_0 - (ze va3_0 (zt (GS.at e.items x3))))) (va3_1 ++ [w64 ((w64 (((GS.at e.items x3).now.lo) + ((GS.at e.items x3).error))) + (ze va3_0 (zt (GS.at e.items x3))))])
def orders_shown_3 (e : S_Estate) (s : Int) : List Int → LR_orders_shown_3
  | [] => .x1
  | x3 :: rest3 =>
    orders_shown_3a e s rest3 (w64 (s - (ze s (zt (GS.at e.items x3))))) [w64 ((w64 (((GS.at e.items x3).now.lo) + ((GS.at e.items x3).error))) + (ze s (zt (GS.at e.items x3))))]
def lr_orders_shown_3 (e : S_Estate) (items : GS Int) (s : Int) : LR_orders_shown_3 → Exit × St
  | .x0 va3_0 va3_1 => ((.exit 0), ⟨43, [(15, B false), (2, I va3_0), (3, .lref 0 0 3 0), (7, .lsl 1 0 va3_1.length 1 none), (12, .sl items.nl (items.l.map I) (zsl items.nl 1) none), (13, I ((items.l.length : Nat) : Int)), (14, I ((items.l.length : Nat) : Int))], [(0, ⟨[.agg [.sl e.items.nl (e.items.l.map S_Item.D) (zsl e.items.nl 4) none, I e.whole.lo, I e.whole.hi]], 3, false⟩), (1, ⟨va3_1.map I, 1, false⟩)], 2, 0⟩)
  | .x1 => ((.exit 0), ⟨43, [(15, B false), (2, I s), (3, .lref 0 0 3 0), (7, .sl true [] 0 none), (12, .sl items.nl (items.l.map I) (zsl items.nl 1) none), (13, I ((items.l.length : Nat) : Int)), (14, I ((items.l.length : Nat) : Int))], [(0, ⟨[.agg [.sl e.items.nl (e.items.l.map S_Item.D) (zsl e.items.nl 4) none, I e.whole.lo, I e.whole.hi]], 3, false⟩)], 1, 0⟩)
def iv_orders_shown_3 (e : S_Estate) (items : GS Int) (s : Int) : LR_orders_shown_3 → Prop
  | .x0 va3_0 va3_1 => (va3_1.length ≤ items.l.length)
  | .x1 => True
theorem lp_orders_shown_3a (e : S_Estate) (items : GS Int) (s : Int) : ∀ (rest3 : List Int) (i3 : Nat) (va3_0 : Int) (va3_1 : List Int) (hd3 : items.l.drop i3 = rest3) (hi3 : i3 ≤ items.l.length) (hall : ∀ i ∈ items.l, 0 ≤ i ∧ i < ((e.items.l.length : Nat) : Int)) (hg3_va3_1 : va3_1.length ≤ i3) (hL3 : items.l.length ≤ 1099511627776), (lim cfg).loop 72 lp72_3 ⟨43, [(2, I va3_0), (3, .lref 0 0 3 0), (7, .lsl 1 0 va3_1.length 1 none), (12, .sl items.nl (items.l.map I) (zsl items.nl 1) none), (13, I ((items.l.length : Nat) : Int)), (14, I ((i3 : Nat) : Int))], [(0, ⟨[.agg [.sl e.items.nl (e.items.l.map S_Item.D) (zsl e.items.nl 4) none, I e.whole.lo, I e.whole.hi]], 3, false⟩), (1, ⟨va3_1.map I, 1, false⟩)], 2, 0⟩ = some (lr_orders_shown_3 e items s (orders_shown_3a e s rest3 va3_0 va3_1)) := by
  intro rest3
  induction rest3 with
  | nil =>
    intro i3 va3_0 va3_1 hd3 hi3 hall hg3_va3_1 hL3
    unfold orders_shown_3a
    obtain rfl : i3 = items.l.length := nil_eq hd3 hi3
    exact zQ [.dec false] (And.intro (lt_no hd3) trivial) (by kernel_rfl)
  | cons x3 rest3 ih =>
    intro i3 va3_0 va3_1 hd3 hi3 hall hg3_va3_1 hL3
    have hlt3 := zT hd3
    have hbx := hall x3 (mem_drop hd3)
    unfold orders_shown_3a
    exact po_turn' (ks := [2, 3, 7, 12, 13, 14]) (st' := (sd81 e items i3 x3 va3_0 va3_1)) [.dec true, .el (I x3), .el (.agg [I ((GS.at e.items x3).now.lo), I ((GS.at e.items x3).now.hi), I ((GS.at e.items x3).cost), I ((GS.at e.items x3).error)]), .pure (I (zt (GS.at e.items x3))), .op (some 40) ⟨.lsl 4 0 ((va3_1 ++ [w64 ((w64 (((GS.at e.items x3).now.lo) + ((GS.at e.items x3).error))) + (ze va3_0 (zt (GS.at e.items x3))))]).length) 1 none, [(1, none), (4, some ⟨(va3_1 ++ [w64 ((w64 (((GS.at e.items x3).now.lo) + ((GS.at e.items x3).error))) + (ze va3_0 (zt (GS.at e.items x3))))]).map I, 1, false⟩)], [1, 3], 5⟩, .rw 41 (I ((i3 + 1 : Nat) : Int))] (And.intro (inc_rw (i := i3) (by have := zT hd3; omega)) (And.intro (app_row (f := I) (te := ty3) (gO := zv [(0, ⟨[.agg [.sl e.items.nl (e.items.l.map S_Item.D) (zsl e.items.nl 4) none, I e.whole.lo, I e.whole.hi]], 3, false⟩), (1, ⟨va3_1.map I, 1, false⟩), (2, ⟨[.agg [I ((GS.at e.items x3).now.lo), I ((GS.at e.items x3).now.hi), I ((GS.at e.items x3).cost), I ((GS.at e.items x3).error)]], 4, false⟩), (3, ⟨[I (w64 ((w64 (((GS.at e.items x3).now.lo) + ((GS.at e.items x3).error))) + (ze va3_0 (zt (GS.at e.items x3)))))], 1, false⟩)]) (nxt := 4) (o := 1) (o2 := 3) (fz := false) zx va3_1 (w64 ((w64 (((GS.at e.items x3).now.lo) + ((GS.at e.items x3).error))) + (ze va3_0 (zt (GS.at e.items x3))))) (by kernel_rfl) (by kernel_rfl) rfl (by kernel_rfl) (by decide) ⟨by simp only [ty3, big] <;> (first | assumption | omega | (simp only [zc] at * <;> omega) | (simp only [zd, za, zb, GS.some_l, List.length_set, List.length_append, List.length_cons, List.length_nil] at * <;> first | with_reducible assumption | omega) | (simp only [zd, za, zb, GS.some_l, List.length_set, List.length_append, List.length_cons, List.length_nil, zc] at * <;> first | with_reducible assumption | omega) | (simp at * <;> omega)), by simp only [big] <;> (first | assumption | omega | (simp only [zc] at * <;> omega) | (simp only [zd, za, zb, GS.some_l, List.length_set, List.length_append, List.length_cons, List.length_nil] at * <;> first | with_reducible assumption | omega) | (simp only [zd, za, zb, GS.some_l, List.length_set, List.length_append, List.length_cons, List.length_nil, zc] at * <;> first | with_reducible assumption | omega) | (simp at * <;> omega))⟩) (And.intro (T_orders_gain (GS.at e.items x3)) (And.intro (el_in (s := e.items) (f := S_Item.D) (k := 4) (i := x3) (by first | assumption | omega) (by first | assumption | omega)) (And.intro (el_at (s := items) (f := I) (k := 1) hd3) (And.intro (lt_at hd3) trivial)))))) (by kernel_rfl) (by (simp only [sd81, go_sem, Nat.reduceAdd, Nat.reduceEqDiff, Nat.reduceLT, Nat.reduceLeDiff, bI2, zx.idsL, zx.renL, zx.snapAll, z7.idsL, z7.renL, z7.snapAll]) <;> rfl) (ih (i3 + 1) (w64 (va3_0 - (ze va3_0 (zt (GS.at e.items x3))))) (va3_1 ++ [w64 ((w64 (((GS.at e.items x3).now.lo) + ((GS.at e.items x3).error))) + (ze va3_0 (zt (GS.at e.items x3))))]) (drop_next hd3) (zT hd3) (by first | assumption | omega) (by first | assumption | omega | (simp only [zc] at * <;> omega) | (simp only [zd, za, zb, GS.some_l, List.length_set, List.length_append, List.length_cons, List.length_nil] at * <;> first | with_reducible assumption | omega) | (simp only [zd, za, zb, GS.some_l, List.length_set, List.length_append, List.length_cons, List.length_nil, zc] at * <;> first | with_reducible assumption | omega) | (simp at * <;> omega)) (by first | assumption | omega)) (by kernel_rfl)
theorem ivt_orders_shown_3a (e : S_Estate) (items : GS Int) (s : Int) : ∀ (rest3 : List Int) (i3 : Nat) (va3_0 : Int) (va3_1 : List Int) (hd3 : items.l.drop i3 = rest3) (hi3 : i3 ≤ items.l.length) (hall : ∀ i ∈ items.l, 0 ≤ i ∧ i < ((e.items.l.length : Nat) : Int)) (hg3_va3_1 : va3_1.length ≤ i3) (hL3 : items.l.length ≤ 1099511627776), iv_orders_shown_3 e items s (orders_shown_3a e s rest3 va3_0 va3_1) := by
  intro rest3
  induction rest3 with
  | nil =>
    intro i3 va3_0 va3_1 hd3 hi3 hall hg3_va3_1 hL3
    unfold orders_shown_3a
    obtain rfl : i3 = items.l.length := nil_eq hd3 hi3
    exact hg3_va3_1
  | cons x3 rest3 ih =>
    intro i3 va3_0 va3_1 hd3 hi3 hall hg3_va3_1 hL3
    have hlt3 := zT hd3
    have hbx := hall x3 (mem_drop hd3)
    unfold orders_shown_3a
    exact ih (i3 + 1) (w64 (va3_0 - (ze va3_0 (zt (GS.at e.items x3))))) (va3_1 ++ [w64 ((w64 (((GS.at e.items x3).now.lo) + ((GS.at e.items x3).error))) + (ze va3_0 (zt (GS.at e.items x3))))]) (drop_next hd3) (zT hd3) (by first | assumption | omega) (by first | assumption | omega | (simp only [zc] at * <;> omega) | (simp only [zd, za, zb, GS.some_l, List.length_set, List.length_append, List.length_cons, List.length_nil] at * <;> first | with_reducible assumption | omega) | (simp only [zd, za, zb, GS.some_l, List.length_set, List.length_append, List.length_cons, List.length_nil, zc] at * <;> first | with_reducible assumption | omega) | (simp at * <;> omega)) (by first | assumption | omega)
theorem lp_orders_shown_3 (e : S_Estate) (items : GS Int) (s : Int) : ∀ (rest3 : List Int) (i3 : Nat) (hd3 : items.l.drop i3 = rest3) (hi3 : i3 ≤ items.l.length) (hall : ∀ i ∈ items.l, 0 ≤ i ∧ i < ((e.items.l.length : Nat) : Int)) (hL3 : items.l.length ≤ 1099511627776), (lim cfg).loop 72 lp72_3 ⟨43, [(2, I s), (3, .lref 0 0 3 0), (7, .sl true [] 0 none), (12, .sl items.nl (items.l.map I) (zsl items.nl 1) none), (13, I ((items.l.length : Nat) : Int)), (14, I ((i3 : Nat) : Int))], [(0, ⟨[.agg [.sl e.items.nl (e.items.l.map S_Item.D) (zsl e.items.nl 4) none, I e.whole.lo, I e.whole.hi]], 3, false⟩)], 1, 0⟩ = some (lr_orders_shown_3 e items s (orders_shown_3 e s rest3)) := by
  intro rest3
  induction rest3 with
  | nil =>
    intro i3 hd3 hi3 hall hL3
    unfold orders_shown_3
    obtain rfl : i3 = items.l.length := nil_eq hd3 hi3
    exact zQ [.dec false] (And.intro (lt_no hd3) trivial) (by kernel_rfl)
  | cons x3 rest3 ih =>
    intro i3 hd3 hi3 hall hL3
    have hlt3 := zT hd3
    have hbx := hall x3 (mem_drop hd3)
    unfold orders_shown_3
    dsimp only
    exact po_turn [.dec true, .el (I x3), .el (.agg [I ((GS.at e.items x3).now.lo), I ((GS.at e.items x3).now.hi), I ((GS.at e.items x3).cost), I ((GS.at e.items x3).error)]), .pure (I (zt (GS.at e.items x3))), .rw 41 (I ((i3 + 1 : Nat) : Int))] (And.intro (inc_rw (i := i3) (by have := zT hd3; omega)) (And.intro (T_orders_gain (GS.at e.items x3)) (And.intro (el_in (s := e.items) (f := S_Item.D) (k := 4) (i := x3) (by first | assumption | omega) (by first | assumption | omega)) (And.intro (el_at (s := items) (f := I) (k := 1) hd3) (And.intro (lt_at hd3) trivial))))) (lp_orders_shown_3a e items s _ (i3 + 1) (w64 (s - (ze s (zt (GS.at e.items x3))))) [w64 ((w64 (((GS.at e.items x3).now.lo) + ((GS.at e.items x3).error))) + (ze s (zt (GS.at e.items x3))))] (drop_next hd3) (zT hd3) (by first | assumption | omega) (by first | assumption | omega | (simp only [zc] at * <;> omega) | (simp only [zd, za, zb, GS.some_l, List.length_set, List.length_append, List.length_cons, List.length_nil] at * <;> first | with_reducible assumption | omega) | (simp only [zd, za, zb, GS.some_l, List.length_set, List.length_append, List.length_cons, List.length_nil, zc] at * <;> first | with_reducible assumption | omega) | (simp at * <;> omega)) (by first | assumption | omega)) (by kernel_rfl)
theorem ivt_orders_shown_3 (e : S_Estate) (items : GS Int) (s : Int) : ∀ (rest3 : List Int) (i3 : Nat) (hd3 : items.l.drop i3 = rest3) (hi3 : i3 ≤ items.l.length) (hall : ∀ i ∈ items.l, 0 ≤ i ∧ i < ((e.items.l.length : Nat) : Int)) (hL3 : items.l.length ≤ 1099511627776), iv_orders_shown_3 e items s (orders_shown_3 e s rest3) := by
  intro rest3
  induction rest3 with
  | nil =>
    intro i3 hd3 hi3 hall hL3
    unfold orders_shown_3
    obtain rfl : i3 = items.l.length := nil_eq hd3 hi3
    exact trivial
  | cons x3 rest3 ih =>
    intro i3 hd3 hi3 hall hL3
    have hlt3 := zT hd3
    have hbx := hall x3 (mem_drop hd3)
    unfold orders_shown_3
    dsimp only
    exact ivt_orders_shown_3a e items s _ (i3 + 1) (w64 (s - (ze s (zt (GS.at e.items x3))))) [w64 ((w64 (((GS.at e.items x3).now.lo) + ((GS.at e.items x3).error))) + (ze s (zt (GS.at e.items x3))))] (drop_next hd3) (zT hd3) (by first | assumption | omega) (by first | assumption | omega | (simp only [zc] at * <;> omega) | (simp only [zd, za, zb, GS.some_l, List.length_set, List.length_append, List.length_cons, List.length_nil] at * <;> first | with_reducible assumption | omega) | (simp only [zd, za, zb, GS.some_l, List.length_set, List.length_append, List.length_cons, List.length_nil, zc] at * <;> first | with_reducible assumption | omega) | (simp at * <;> omega)) (by first | assumption | omega)

def orders_shown (e : S_Estate) (items : GS Int) (s : Int) : (GS Int) :=
  match orders_shown_3 e s items.l with
  | .x0 va3_0 va3_1 =>
    GS.some va3_1
  | .x1 =>
    GS.nil

def sd82 (e : S_Estate) (items : GS Int) (va3_0 : Int) (va3_1 : List Int) : St := ⟨43, [(15, B false), (2, I va3_0), (3, .lref 0 0 3 0), (7, .lsl 1 0 va3_1.length 1 none), (12, .sl items.nl (items.l.map I) (zsl items.nl 1) none), (13, I ((items.l.length : Nat) : Int)), (14, I ((items.l.length : Nat) : Int))], [(0, ⟨[.agg [.sl e.items.nl (e.items.l.map S_Item.D) (zsl e.items.nl 4) none, I e.whole.lo, I e.whole.hi]], 3, false⟩), (1, ⟨va3_1.map I, 1, false⟩)], 2, 0⟩

def sd83 (e : S_Estate) (items : GS Int) (s : Int) : St := ⟨43, [(15, B false), (2, I s), (3, .lref 0 0 3 0), (7, .sl true [] 0 none), (12, .sl items.nl (items.l.map I) (zsl items.nl 1) none), (13, I ((items.l.length : Nat) : Int)), (14, I ((items.l.length : Nat) : Int))], [(0, ⟨[.agg [.sl e.items.nl (e.items.l.map S_Item.D) (zsl e.items.nl 4) none, I e.whole.lo, I e.whole.hi]], 3, false⟩)], 1, 0⟩

theorem T_orders_shown (e : S_Estate) (items : GS Int) (s : Int) (hall : ∀ i ∈ items.l, 0 ≤ i ∧ i < ((e.items.l.length : Nat) : Int)) (hL_items : items.l.length ≤ 1099511627776) : (lim cfg).pure 72 [S_Estate.D e, GS.D I 1 items, I s] = some (GS.D I 1 (orders_shown e items s)) := by
  unfold orders_shown
  cases h1 : orders_shown_3 e s items.l with
  | x0 va3_0 va3_1 =>
    try dsimp only
    have hv_h1 := ivt_orders_shown_3 e items s items.l 0 (List.drop_zero) (Nat.zero_le _) (by first | assumption | omega) (by first | assumption | omega)
    rw [h1] at hv_h1
    have hv_h1_0 := hv_h1
    try dsimp only [iv_orders_shown_3] at hv_h1_0
    exact po_pureS [.rw 13 (I ((items.l.length : Nat) : Int)), .loop (.exit 0) (sd82 e items va3_0 va3_1)] [(1, .sl false (va3_1.map I) 1 none, [1])] (And.intro (zw (gO := zv [(0, ⟨[.agg [.sl e.items.nl (e.items.l.map S_Item.D) (zsl e.items.nl 4) none, I e.whole.lo, I e.whole.hi]], 3, false⟩), (1, ⟨va3_1.map I, 1, false⟩)]) (o := 1) (len := va3_1.length) (cap := none) (fz := false) zx va3_1 (by kernel_rfl) (by first | assumption | omega)) (And.intro (po_lr (q := lr_orders_shown_3 e items s) (lp_orders_shown_3 e items s items.l 0 (List.drop_zero) (Nat.zero_le _) (by first | assumption | omega) (by first | assumption | omega)) h1) (And.intro (zz I items) trivial))) (by kernel_rfl)
  | x1 =>
    try dsimp only
    exact zy [.rw 13 (I ((items.l.length : Nat) : Int)), .loop (.exit 0) (sd83 e items s)] (And.intro (po_lr (q := lr_orders_shown_3 e items s) (lp_orders_shown_3 e items s items.l 0 (List.drop_zero) (Nat.zero_le _) (by first | assumption | omega) (by first | assumption | omega)) h1) (And.intro (zz I items) trivial)) (by kernel_rfl)

inductive LR_orders_numbers_3 where
  | x0 (i3 : Nat) (va3_0 : List Int)
  | x1 (i3 : Nat)
instance : Inhabited LR_orders_numbers_3 := ⟨.x0 default default⟩
def orders_numbers_3a : Nat → Nat → (List Int) → LR_orders_numbers_3
  | 0, i3, va3_0 => .x0 i3 va3_0
  | rest3 + 1, i3, va3_0 =>
    orders_numbers_3a rest3 (i3 + 1) (va3_0 ++ [((i3 : Nat) : Int)])
def orders_numbers_3 : Nat → Nat → LR_orders_numbers_3
  | 0, i3 => .x1 i3
  | rest3 + 1, i3 =>
    orders_numbers_3a rest3 (i3 + 1) [((i3 : Nat) : Int)]
def orders_numbers (n : Int) : (GS Int) :=
  match orders_numbers_3 (n - 0).toNat 0 with
  | .x0 i3 va3_0 =>
    GS.some va3_0
  | .x1 i3 =>
    GS.nil

end Go.VS

namespace Go.VS
open Go Go.Proofs
set_option maxHeartbeats 0
set_option linter.unusedSimpArgs false
set_option linter.unusedVariables false
def upto (n : Int) : List Int := (List.range n.toNat).map (fun i => ((i : Nat) : Int))
theorem upto_mem {n : Int} : ∀ i ∈ upto n, 0 ≤ i ∧ i < n := by
  intro i hi
  obtain ⟨j, hj, rfl⟩ := List.mem_map.1 hi
  have := List.mem_range.1 hj
  omega
theorem numbers_l (n : Int) : (orders_numbers n).l = upto n ∧ (orders_numbers n).nl = (upto n).isEmpty := by
  have key : ∀ (k i : Nat) (v : List Int), ∃ j, orders_numbers_3a k i v = .x0 j (v ++ (List.range' i k).map (fun i => ((i : Nat) : Int))) := by
    intro k
    induction k with
    | zero => intro i v; exact ⟨i, by simp [orders_numbers_3a]⟩
    | succ k ih => intro i v; obtain ⟨j, hj⟩ := ih (i + 1) (v ++ [((i : Nat) : Int)]); exact ⟨j, by rw [orders_numbers_3a, hj, List.range'_succ]; simp⟩
  unfold orders_numbers upto
  rw [show n - 0 = n by omega]
  cases n.toNat with
  | zero => exact ⟨rfl, rfl⟩
  | succ k =>
    obtain ⟨j, hj⟩ := key k 1 [((0 : Nat) : Int)]
    rw [orders_numbers_3, hj, List.range_eq_range', List.range'_succ]
    exact ⟨rfl, rfl⟩
theorem zr {n : Int} : ∀ i ∈ (orders_numbers n).l, 0 ≤ i ∧ i < n := by rw [(numbers_l n).1]; exact upto_mem
theorem upto_len {n : Int} : (upto n).length = n.toNat := by unfold upto; simp
theorem z9 {n : Int} : (orders_numbers n).l.length = n.toNat := by rw [(numbers_l n).1, upto_len]

noncomputable def lp79_2 : Code := subC [1, 0, 1, 0, 0] (bodyC Try.f79)

inductive LR_slices_Index_2 where
  | x0
  | x1 (i2 : Nat) (x2 : Int)
instance : Inhabited LR_slices_Index_2 := ⟨.x0⟩
def slices_Index_2 (x : Int) : List Int → Nat → LR_slices_Index_2
  | [], i2 => .x0
  | x2 :: rest2, i2 =>
    bif (x == x2) then
      .x1 i2 x2
    else
      slices_Index_2 x rest2 (i2 + 1)
def lr_slices_Index_2 (l : GS Int) (x : Int) : LR_slices_Index_2 → Exit × St
  | .x0 => ((.exit 0), ⟨19, [(9, B false), (0, .sl l.nl (l.l.map I) (zsl l.nl 1) none), (1, I x), (7, I ((l.l.length : Nat) : Int)), (8, I ((l.l.length : Nat) : Int))], [], 0, 0⟩)
  | .x1 i2 x2 => (.ret, ⟨19, [(4, I ((i2 : Nat) : Int)), (17, I ((i2 : Nat) : Int)), (16, B true), (15, I x2), (14, .ptr (I x2)), (13, I ((i2 : Nat) : Int)), (12, .sl l.nl (l.l.map I) (zsl l.nl 1) none), (11, I x), (5, I ((i2 : Nat) : Int)), (10, I ((i2 : Nat) : Int)), (9, B true), (0, .sl l.nl (l.l.map I) (zsl l.nl 1) none), (1, I x), (7, I ((l.l.length : Nat) : Int)), (8, I ((i2 : Nat) : Int))], [], 0, 0⟩)
theorem lp_slices_Index_2 (l : GS Int) (x : Int) : ∀ (rest2 : List Int) (i2 : Nat) (hd2 : l.l.drop i2 = rest2) (hi2 : i2 ≤ l.l.length) (hL2 : l.l.length ≤ 9223372036854775807), (lim cfg).loop 79 lp79_2 ⟨19, [(0, .sl l.nl (l.l.map I) (zsl l.nl 1) none), (1, I x), (7, I ((l.l.length : Nat) : Int)), (8, I ((i2 : Nat) : Int))], [], 0, 0⟩ = some (lr_slices_Index_2 l x (slices_Index_2 x rest2 i2)) := by
  intro rest2
  induction rest2 with
  | nil =>
    intro i2 hd2 hi2 hL2
    unfold slices_Index_2
    obtain rfl : i2 = l.l.length := nil_eq hd2 hi2
    exact zQ [.dec false] (And.intro (lt_no hd2) trivial) (by kernel_rfl)
  | cons x2 rest2 ih =>
    intro i2 hd2 hi2 hL2
    have hlt2 := zT hd2
    unfold slices_Index_2
    cases h2 : (x == x2) with
    | true =>
      have g2 := eq_of_beq h2
      exact zQ [.dec true, .el (I x2), .dec true] (And.intro h2 (And.intro (el_at (s := l) (f := I) (k := 1) hd2) (And.intro (lt_at hd2) trivial))) (by kernel_rfl)
    | false =>
      have g2 := ne_of_beq_false h2
      exact po_turn [.dec true, .el (I x2), .dec false, .rw 18 (I ((i2 + 1 : Nat) : Int))] (And.intro (inc_rw (i := i2) (by have := zT hd2; omega)) (And.intro h2 (And.intro (el_at (s := l) (f := I) (k := 1) hd2) (And.intro (lt_at hd2) trivial)))) (ih (i2 + 1) (drop_next hd2) (zT hd2) (by first | assumption | omega)) (by kernel_rfl)

def slices_Index (l : GS Int) (x : Int) : Int :=
  match slices_Index_2 x l.l 0 with
  | .x0 =>
    (-1)
  | .x1 i2 x2 =>
    ((i2 : Nat) : Int)

def sd85 (l : GS Int) (x : Int) (i2 : Nat) (x2 : Int) : St := ⟨19, [(4, I ((i2 : Nat) : Int)), (17, I ((i2 : Nat) : Int)), (16, B true), (15, I x2), (14, .ptr (I x2)), (13, I ((i2 : Nat) : Int)), (12, .sl l.nl (l.l.map I) (zsl l.nl 1) none), (11, I x), (5, I ((i2 : Nat) : Int)), (10, I ((i2 : Nat) : Int)), (9, B true), (0, .sl l.nl (l.l.map I) (zsl l.nl 1) none), (1, I x), (7, I ((l.l.length : Nat) : Int)), (8, I ((i2 : Nat) : Int))], [], 0, 0⟩

theorem T_slices_Index (l : GS Int) (x : Int) (hL_l : l.l.length ≤ 9223372036854775807) : (lim cfg).pure 79 [GS.D I 1 l, I x] = some (I (slices_Index l x)) := by
  unfold slices_Index
  cases h3 : slices_Index_2 x l.l 0 with
  | x0 =>
    try dsimp only
    exact zy [.rw 7 (I ((l.l.length : Nat) : Int)), .loop (.exit 0) ⟨19, [(9, B false), (0, .sl l.nl (l.l.map I) (zsl l.nl 1) none), (1, I x), (7, I ((l.l.length : Nat) : Int)), (8, I ((l.l.length : Nat) : Int))], [], 0, 0⟩] (And.intro (po_lr (q := lr_slices_Index_2 l x) (lp_slices_Index_2 l x l.l 0 (List.drop_zero) (Nat.zero_le _) (by first | assumption | omega)) h3) (And.intro (zz I l) trivial)) (by kernel_rfl)
  | x1 i2 x2 =>
    try dsimp only
    exact zy [.rw 7 (I ((l.l.length : Nat) : Int)), .loop .ret (sd85 l x i2 x2)] (And.intro (po_lr (q := lr_slices_Index_2 l x) (lp_slices_Index_2 l x l.l 0 (List.drop_zero) (Nat.zero_le _) (by first | assumption | omega)) h3) (And.intro (zz I l) trivial)) (by kernel_rfl)

def slices_Contains (l : GS Int) (x : Int) : Bool :=
  bif decide ((slices_Index l x) ≥ 0) then
    true
  else
    false

theorem T_slices_Contains (l : GS Int) (x : Int) (hL_l : l.l.length ≤ 9223372036854775807) : (lim cfg).pure 36 [GS.D I 1 l, I x] = some (B (slices_Contains l x)) := by
  unfold slices_Contains
  cases h1 : decide ((slices_Index l x) ≥ 0) with
  | true =>
    have g1 := of_decide_eq_true h1
    exact zy [.pure (I (slices_Index l x)), .dec true] (And.intro h1 (And.intro (T_slices_Index l x (by first | assumption | omega)) trivial)) (by kernel_rfl)
  | false =>
    have g1 := of_decide_eq_false h1
    exact zy [.pure (I (slices_Index l x)), .dec false] (And.intro h1 (And.intro (T_slices_Index l x (by first | assumption | omega)) trivial)) (by kernel_rfl)

def orders_open (e : S_Estate) (items : GS Int) (low : Int) (high : Int) : (GS Int) × Bool :=
  bif decide ((zf ((z8 (zi e (zp (zj e items)))).1) (w64 ((w64 (low + 1)) - ((zi e (zp (zj e items))).at_.hi)))) > ((z8 (zi e (zp (zj e items)))).2)) then
    (GS.nil, false)
  else
    bif decide (((zh (zi e (zp (zj e items))) (zf ((z8 (zi e (zp (zj e items)))).1) (w64 ((w64 (low + 1)) - ((zi e (zp (zj e items))).at_.hi))))).lo) ≥ high) then
      (GS.nil, false)
    else
      bif decide (((zh (zi e (zp (zj e items))) (zf ((z8 (zi e (zp (zj e items)))).1) (w64 ((w64 (low + 1)) - ((zi e (zp (zj e items))).at_.hi))))).hi) ≤ low) then
        (GS.nil, false)
      else
        ((orders_shown e items (zf ((z8 (zi e (zp (zj e items)))).1) (w64 ((w64 (low + 1)) - ((zi e (zp (zj e items))).at_.hi))))), true)

def orders_open_o1 (e : S_Estate) (items : GS Int) : List Ora := [.pure (.sl ((zj e items).nl) (((zj e items).l).map I) (zsl ((zj e items).nl) 1) none), .pure (I (zp (zj e items))), .pure (.agg [I ((zi e (zp (zj e items))).at_.lo), I ((zi e (zp (zj e items))).at_.hi), I ((zi e (zp (zj e items))).room_), I ((zi e (zp (zj e items))).whole_.lo), I ((zi e (zp (zj e items))).whole_.hi)]), .pure (.tup [I ((z8 (zi e (zp (zj e items)))).1), I ((z8 (zi e (zp (zj e items)))).2)])]

def orders_open_o2 (e : S_Estate) (items : GS Int) (low : Int) : List Ora := [.dec false, .pure (.agg [I ((zh (zi e (zp (zj e items))) (zf ((z8 (zi e (zp (zj e items)))).1) (w64 ((w64 (low + 1)) - ((zi e (zp (zj e items))).at_.hi))))).lo), I ((zh (zi e (zp (zj e items))) (zf ((z8 (zi e (zp (zj e items)))).1) (w64 ((w64 (low + 1)) - ((zi e (zp (zj e items))).at_.hi))))).hi)])]

theorem T_orders_open (e : S_Estate) (items : GS Int) (low : Int) (high : Int) (hall : ∀ i ∈ items.l, 0 ≤ i ∧ i < ((e.items.l.length : Nat) : Int)) (hL_items : items.l.length ≤ 1099511627776) (hL_e_items : e.items.l.length ≤ 9223372036854775807) : (lim cfg).pure 78 [S_Estate.D e, GS.D I 1 items, I low, I high] = some (.tup [GS.D I 1 ((orders_open e items low high).1), B ((orders_open e items low high).2)]) := by
  unfold orders_open
  have p1 := (T_orders_gains e items (by first | assumption | omega) (by first | assumption | omega))
  have p2 := (T_orders_total (zj e items) (by first | assumption | omega | (with_reducible exact zr) | (simp only [zc] at * <;> omega) | (simp only [zd, za, zb, z9, GS.some_l, List.length_set, List.length_append, List.length_cons, List.length_nil] at * <;> first | with_reducible assumption | omega) | (simp only [zd, za, zb, z9, GS.some_l, List.length_set, List.length_append, List.length_cons, List.length_nil, zc] at * <;> first | with_reducible assumption | omega) | (simp at * <;> omega)))
  have p3 := (T_orders_windowOf e (zp (zj e items)) (by first | assumption | omega))
  have p4 := (T_orders_window_ends (zi e (zp (zj e items))))
  cases h1 : decide ((zf ((z8 (zi e (zp (zj e items)))).1) (w64 ((w64 (low + 1)) - ((zi e (zp (zj e items))).at_.hi)))) > ((z8 (zi e (zp (zj e items)))).2)) with
  | true =>
    have g1 := of_decide_eq_true h1
    exact zy ((orders_open_o1 e items) ++ [.dec true]) (And.intro h1 (And.intro p4 (And.intro p3 (And.intro p2 (And.intro p1 trivial))))) (by kernel_rfl)
  | false =>
    have g1 := of_decide_eq_false h1
    have p5 := (T_orders_window_seen (zi e (zp (zj e items))) (zf ((z8 (zi e (zp (zj e items)))).1) (w64 ((w64 (low + 1)) - ((zi e (zp (zj e items))).at_.hi)))))
    cases h2 : decide (((zh (zi e (zp (zj e items))) (zf ((z8 (zi e (zp (zj e items)))).1) (w64 ((w64 (low + 1)) - ((zi e (zp (zj e items))).at_.hi))))).lo) ≥ high) with
    | true =>
      have g2 := of_decide_eq_true h2
      exact zy ((orders_open_o1 e items) ++ ((orders_open_o2 e items low) ++ [.dec true])) (And.intro h2 (And.intro p5 (And.intro h1 (And.intro p4 (And.intro p3 (And.intro p2 (And.intro p1 trivial))))))) (by kernel_rfl)
    | false =>
      have g2 := of_decide_eq_false h2
      cases h3 : decide (((zh (zi e (zp (zj e items))) (zf ((z8 (zi e (zp (zj e items)))).1) (w64 ((w64 (low + 1)) - ((zi e (zp (zj e items))).at_.hi))))).hi) ≤ low) with
      | true =>
        have g3 := of_decide_eq_true h3
        exact zy ((orders_open_o1 e items) ++ ((orders_open_o2 e items low) ++ [.dec false, .dec true])) (And.intro h3 (And.intro h2 (And.intro p5 (And.intro h1 (And.intro p4 (And.intro p3 (And.intro p2 (And.intro p1 trivial)))))))) (by kernel_rfl)
      | false =>
        have g3 := of_decide_eq_false h3
        exact zy ((orders_open_o1 e items) ++ ((orders_open_o2 e items low) ++ [.dec false, .dec false, .pure (.sl ((orders_shown e items (zf ((z8 (zi e (zp (zj e items)))).1) (w64 ((w64 (low + 1)) - ((zi e (zp (zj e items))).at_.hi))))).nl) (((orders_shown e items (zf ((z8 (zi e (zp (zj e items)))).1) (w64 ((w64 (low + 1)) - ((zi e (zp (zj e items))).at_.hi))))).l).map I) (zsl ((orders_shown e items (zf ((z8 (zi e (zp (zj e items)))).1) (w64 ((w64 (low + 1)) - ((zi e (zp (zj e items))).at_.hi))))).nl) 1) none)])) (And.intro (T_orders_shown e items (zf ((z8 (zi e (zp (zj e items)))).1) (w64 ((w64 (low + 1)) - ((zi e (zp (zj e items))).at_.hi)))) (by first | assumption | omega) (by first | assumption | omega)) (And.intro h3 (And.intro h2 (And.intro p5 (And.intro h1 (And.intro p4 (And.intro p3 (And.intro p2 (And.intro p1 trivial))))))))) (by kernel_rfl)

def orders_bounds (e : S_Estate) (items : GS Int) (low : Int) (high : Int) : Int :=
  bif ((zR e items) != 0) then
    (zR e items)
  else
    bif decide (low ≥ high) then
      1
    else
      bif decide (low < (-1099511627776)) then
        1
      else
        bif decide (high > 1099511627776) then
          1
        else
          0

theorem T_orders_bounds (e : S_Estate) (items : GS Int) (low : Int) (high : Int) (hL : items.l.length ≤ 9223372036854775807) : (lim cfg).pure 77 [S_Estate.D e, GS.D I 1 items, I low, I high] = some (I (orders_bounds e items low high)) := by
  unfold orders_bounds
  cases h1 : ((zR e items) != 0) with
  | true =>
    have g1 := bne_true h1
    exact zy [.pure (I (zR e items)), .dec true] (And.intro h1 (And.intro (T_orders_right e items (by first | assumption | omega)) trivial)) (by kernel_rfl)
  | false =>
    obtain ⟨g1, gb1⟩ := And.intro (right_ok (by assumption) (bne_false h1)) (right_all (by assumption) (bne_false h1))
    cases h2 : decide (low ≥ high) with
    | true =>
      have g2 := of_decide_eq_true h2
      exact zy [.pure (I (zR e items)), .dec false, .dec true] (And.intro h2 (And.intro h1 (And.intro (T_orders_right e items (by first | assumption | omega)) trivial))) (by kernel_rfl)
    | false =>
      have g2 := of_decide_eq_false h2
      cases h3 : decide (low < (-1099511627776)) with
      | true =>
        have g3 := of_decide_eq_true h3
        exact zy [.pure (I (zR e items)), .dec false, .dec false, .dec true] (And.intro h3 (And.intro h2 (And.intro h1 (And.intro (T_orders_right e items (by first | assumption | omega)) trivial)))) (by kernel_rfl)
      | false =>
        have g3 := of_decide_eq_false h3
        cases h4 : decide (high > 1099511627776) with
        | true =>
          have g4 := of_decide_eq_true h4
          exact zy [.pure (I (zR e items)), .dec false, .dec false, .dec false, .dec true] (And.intro h4 (And.intro h3 (And.intro h2 (And.intro h1 (And.intro (T_orders_right e items (by first | assumption | omega)) trivial))))) (by kernel_rfl)
        | false =>
          have g4 := of_decide_eq_false h4
          exact zy [.pure (I (zR e items)), .dec false, .dec false, .dec false, .dec false] (And.intro h4 (And.intro h3 (And.intro h2 (And.intro h1 (And.intro (T_orders_right e items (by first | assumption | omega)) trivial))))) (by kernel_rfl)

theorem bounds_iff {e : S_Estate} {items : GS Int} {low high : Int} : orders_bounds e items low high = 0 ↔ zR e items = 0 ∧ low < high ∧ -1099511627776 ≤ low ∧ high ≤ 1099511627776 := by
  unfold orders_bounds
  cases h : (zR e items != 0) with
  | true =>
    have := bne_true h
    simp only [cond_true]
    exact ⟨fun h => absurd h this, fun h => h.1⟩
  | false =>
    have h' := bne_false h
    simp only [cond_false, Bool.cond_decide]
    split
    · simp; omega
    · split
      · simp; omega
      · split
        · simp; omega
        · simp; omega

def orders_Open (e : S_Estate) (items : GS Int) (low : Int) (high : Int) : (GS Int) × Bool × Int :=
  bif ((orders_bounds e items low high) != 0) then
    (GS.nil, false, (orders_bounds e items low high))
  else
    bif ((orders_open e items low high).2) then
      (((orders_open e items low high).1), true, 0)
    else
      (((orders_open e items low high).1), false, 0)

def z6 (e : S_Estate) (items : GS Int) (low : Int) (high : Int) : Bool × Int :=
  bif ((orders_bounds e items low high) != 0) then
    (false, (orders_bounds e items low high))
  else
    bif ((orders_open e items low high).2) then
      (false, 0)
    else
      (true, 0)

def orders_Decides_o1 (e : S_Estate) (items : GS Int) (low : Int) (high : Int) : List Ora := [.pure (I (orders_bounds e items low high)), .dec false, .pure (.tup [.sl (((orders_open e items low high).1).nl) ((((orders_open e items low high).1).l).map I) (zsl (((orders_open e items low high).1).nl) 1) none, B ((orders_open e items low high).2)])]

theorem T_orders_Decides (e : S_Estate) (items : GS Int) (low : Int) (high : Int) (hL : items.l.length ≤ 9223372036854775807) : (lim cfg).pure 34 [S_Estate.D e, GS.D I 1 items, I low, I high] = some (.tup [B ((z6 e items low high).1), I ((z6 e items low high).2)]) := by
  unfold z6
  have p1 := (T_orders_bounds e items low high (by first | assumption | omega))
  cases h1 : ((orders_bounds e items low high) != 0) with
  | true =>
    have g1 := bne_true h1
    exact zy [.pure (I (orders_bounds e items low high)), .dec true] (And.intro h1 (And.intro p1 trivial)) (by kernel_rfl)
  | false =>
    obtain ⟨g1, gb1⟩ := And.intro (right_ok (by assumption) (bounds_iff.1 (bne_false h1)).1) (right_all (by assumption) (bounds_iff.1 (bne_false h1)).1)
    have p2 := (T_orders_open e items low high (by first | assumption | omega) (by first | assumption | omega) (by first | assumption | omega))
    cases h2 : ((orders_open e items low high).2) with
    | true =>
      exact zy ((orders_Decides_o1 e items low high) ++ [.dec true]) (And.intro h2 (And.intro p2 (And.intro h1 (And.intro p1 trivial)))) (by kernel_rfl)
    | false =>
      exact zy ((orders_Decides_o1 e items low high) ++ [.dec false]) (And.intro h2 (And.intro p2 (And.intro h1 (And.intro p1 trivial)))) (by kernel_rfl)
end Go.VS

namespace Go.VS
open Go Go.Proofs
set_option maxHeartbeats 0
set_option linter.unusedSimpArgs false
set_option linter.unusedVariables false
end Go.VS

/-
  Orders: sorting few numbers; the widest span that is left. (A text of this claim's own; nothing of it is trusted.)
-/
namespace Go.VS
/-! ### sorting -/
theorem less_eq (a b : Int) : cmp_Less a b = decide (a < b) := by
  unfold cmp_Less cmp_isNaN
  simp only [bne_self_eq_false, cond_false]
  cases decide (a < b) <;> rfl
def insr (x : Int) : List Int → List Int
  | [] => [x]
  | y :: l => if x < y then y :: insr x l else x :: y :: l
theorem insr_perm (x : Int) : ∀ l, List.Perm (insr x l) (x :: l)
  | [] => List.Perm.refl _
  | y :: l => by
    unfold insr
    split
    · exact ((insr_perm x l).cons y).trans (List.Perm.swap x y l)
    · exact List.Perm.refl _
theorem insr_sorted (x : Int) : ∀ {l : List Int}, l.Pairwise (· ≥ ·) → (insr x l).Pairwise (· ≥ ·)
  | [], _ => by simp [insr]
  | y :: l, h => by
    unfold insr
    have h' := List.pairwise_cons.1 h
    split
    · refine List.pairwise_cons.2 ⟨fun z hz => ?_, insr_sorted x h'.2⟩
      rcases List.mem_cons.1 ((insr_perm x l).mem_iff.1 hz) with rfl | hz
      · omega
      · exact h'.1 z hz
    · refine List.pairwise_cons.2 ⟨fun z hz => ?_, h⟩
      rcases List.mem_cons.1 hz with rfl | hz
      · omega
      · have := h'.1 z hz; omega
theorem insr_len (x : Int) (l : List Int) : (insr x l).length = l.length + 1 := by rw [(insr_perm x l).length_eq, List.length_cons]
theorem ins4 : ∀ (R : List Int) (x : Int) (B : List Int) (n : Nat), R.length < n → R.length ≤ 1000 →
    ∃ j, isort4_4 n (R.length : Int) (R.reverse ++ x :: B) = .x0 j ((insr x R).reverse ++ B) ∨ isort4_4 n (R.length : Int) (R.reverse ++ x :: B) = .x1 j ((insr x R).reverse ++ B)
  | _, _, _, 0, h, _ => by omega
  | [], x, B, n + 1, _, _ => ⟨0, .inr (by simp [isort4_4, insr])⟩
  | y :: R, x, B, n + 1, h, hb => by
    simp only [List.length_cons] at h hb
    have e0 : decide ((((y :: R).length : Nat) : Int) > 0) = true := decide_eq_true (by simp only [List.length_cons]; omega)
    have e1 : w64 ((((y :: R).length : Nat) : Int) - 1) = (R.length : Int) := by simp only [List.length_cons]; rw [w64_eq (by omega) (by omega)]; omega
    have e2 : ((y :: R).reverse ++ x :: B) = R.reverse ++ y :: x :: B := by simp
    have g1 : (R.reverse ++ y :: x :: B).getD (((y :: R).length : Nat) : Int).toNat default = x := by
      simp only [List.length_cons, Int.toNat_natCast]
      rw [List.getD_eq_getElem?_getD, List.getElem?_append_right (by simp)]
      simp
    have g2 : (R.reverse ++ y :: x :: B).getD (R.length : Int).toNat default = y := by
      simp only [Int.toNat_natCast]
      rw [List.getD_eq_getElem?_getD, List.getElem?_append_right (by simp)]
      simp
    have g3 : ((R.reverse ++ y :: x :: B).set (((y :: R).length : Nat) : Int).toNat y).set (R.length : Int).toNat x = R.reverse ++ x :: y :: B := by
      simp only [List.length_cons, Int.toNat_natCast]
      rw [List.set_append_right _ _ (by simp)]
      simp only [List.length_reverse, Nat.add_sub_cancel_left]
      rw [List.set_append_right _ _ (by simp)]
      simp
    unfold isort4_4
    rw [e0, e1, e2, g1, g2, g3, less_eq]
    simp only [cond_true]
    by_cases hxy : x < y
    · rw [decide_eq_true hxy]
      simp only [cond_true]
      obtain ⟨j, hj⟩ := ins4 R x (y :: B) n (by omega) (by omega)
      refine ⟨j, ?_⟩
      have e3 : (insr x (y :: R)).reverse ++ B = (insr x R).reverse ++ y :: B := by
        rw [insr, if_pos hxy]; simp
      rw [e3]
      exact hj
    · rw [decide_eq_false hxy]
      simp only [cond_false]
      refine ⟨(((y :: R).length : Nat) : Int), .inl ?_⟩
      have e3 : (insr x (y :: R)).reverse ++ B = R.reverse ++ y :: x :: B := by
        rw [insr, if_neg hxy]; simp
      rw [e3]
theorem ins1 : ∀ (B R : List Int) (n : Nat), n = B.length → R.length + B.length ≤ 1000 → ∃ i, isort4_1 n R.length (R.reverse ++ B) = .x0 i (B.foldl (fun S x => insr x S) R).reverse
  | [], R, n, h, _ => by subst h; exact ⟨R.length, by simp [isort4_1]⟩
  | x :: B, R, n, h, hb => by
    subst h
    simp only [List.length_cons] at hb
    simp only [List.length_cons, List.foldl_cons]
    unfold isort4_1
    obtain ⟨i, hi⟩ := ins1 B (insr x R) B.length rfl (by rw [insr_len]; omega)
    rw [insr_len] at hi
    obtain ⟨j, hj⟩ := ins4 R x B (R.length + 1) (by omega) (by omega)
    refine ⟨i, ?_⟩
    rcases hj with hj | hj <;> rw [hj] <;> exact hi
def srt (l : List Int) : List Int := (l.foldl (fun S x => insr x S) []).reverse
theorem isort_eq {l : List Int} (h : l.length ≤ 1000) : isort4 l = srt l := by
  unfold isort4 srt
  cases l with
  | nil => rfl
  | cons x l =>
    simp only [List.length_cons] at h
    obtain ⟨i, hi⟩ := ins1 l [x] l.length rfl (by simp; omega)
    have e : (((((x :: l).length : Nat) : Int)) - 1).toNat = l.length := by simp
    rw [e]
    have e2 : isort4_1 l.length 1 (x :: l) = .x0 i (l.foldl (fun S x => insr x S) [x]).reverse := hi
    rw [e2]
    rfl
theorem fold_perm : ∀ (l S : List Int), List.Perm (l.foldl (fun S x => insr x S) S) (l ++ S)
  | [], S => List.Perm.refl _
  | x :: l, S => (fold_perm l (insr x S)).trans (((insr_perm x S).append_left l).trans (List.perm_middle))
theorem fold_sorted : ∀ (l : List Int) {S : List Int}, S.Pairwise (· ≥ ·) → (l.foldl (fun S x => insr x S) S).Pairwise (· ≥ ·)
  | [], _, h => h
  | x :: l, _, h => fold_sorted l (insr_sorted x h)
theorem srt_perm (l : List Int) : List.Perm (srt l) l := by
  have := fold_perm l []
  rw [List.append_nil] at this
  exact (List.reverse_perm _).trans this
theorem srt_sorted (l : List Int) : (srt l).Pairwise (· ≤ ·) := by
  unfold srt
  rw [List.pairwise_reverse]
  exact fold_sorted l List.Pairwise.nil
/-! ### the widest -/
/-- Where the first greatest one is. -/
theorem wide6 {w : S_window} {f : Int → Int} : ∀ (l : List Int) (b p m s0 : Int), (∀ s ∈ l, w64 ((zh w s).hi - (zh w s).lo) = f s) → l.Pairwise (· ≤ ·) → b < m → (∀ s ∈ l, f s ≤ m) → s0 ∈ l → f s0 = m → (∀ s ∈ l, f s = m → s0 ≤ s) →
    zO w l b p = .x0 m s0
  | [], _, _, _, _, _, _, _, _, h, _, _ => by cases h
  | x :: l, b, p, m, s0, hf, hs, hb, hm, h0, h1, h2 => by
    have hs' := List.pairwise_cons.1 hs
    have hx := hm x List.mem_cons_self
    unfold zO
    rw [hf x List.mem_cons_self]
    by_cases he : f x = m
    · have h3 := h2 x List.mem_cons_self he
      have h4 : s0 = x := by
        rcases List.mem_cons.1 h0 with h | h
        · exact h
        · have := hs'.1 s0 h; omega
      subst h4
      rw [decide_eq_true (by omega : f s0 > b)]
      simp only [cond_true]
      rw [h1]
      have key : ∀ (l : List Int), (∀ s ∈ l, w64 ((zh w s).hi - (zh w s).lo) = f s) → (∀ s ∈ l, f s ≤ m) → zO w l m s0 = .x0 m s0 := by
        intro l
        induction l with
        | nil => intro _ _; rfl
        | cons y l ih =>
          intro hf hm
          unfold zO
          rw [hf y List.mem_cons_self, decide_eq_false (by have := hm y List.mem_cons_self; omega : ¬ f y > m)]
          exact ih (fun s hs => hf s (List.mem_cons_of_mem _ hs)) (fun s hs => hm s (List.mem_cons_of_mem _ hs))
      exact key l (fun s hs => hf s (List.mem_cons_of_mem _ hs)) (fun s hs => hm s (List.mem_cons_of_mem _ hs))
    · have h4 : s0 ∈ l := by
        rcases List.mem_cons.1 h0 with h | h
        · subst h; exact absurd h1 he
        · exact h
      cases decide (f x > b) with
      | true => exact wide6 l _ _ m s0 (fun s hs => hf s (List.mem_cons_of_mem _ hs)) hs'.2 (by omega) (fun s hs => hm s (List.mem_cons_of_mem _ hs)) h4 h1 (fun s hs => h2 s (List.mem_cons_of_mem _ hs))
      | false => exact wide6 l _ _ m s0 (fun s hs => hf s (List.mem_cons_of_mem _ hs)) hs'.2 hb (fun s hs => hm s (List.mem_cons_of_mem _ hs)) h4 h1 (fun s hs => h2 s (List.mem_cons_of_mem _ hs))
/-- A window's numbers are not out of bounds. -/
structure Wk (w : S_window) : Prop where
  l0 : 0 ≤ w.at_.lo
  l1 : w.at_.lo ≤ w.at_.hi
  l2 : w.at_.hi + w.room_ ≤ 12884901888
  r0 : 0 ≤ w.room_
  w0 : 0 ≤ w.whole_.lo
  w1 : w.whole_.lo ≤ w.whole_.hi
  w2 : w.whole_.hi ≤ 17179869184
  m0 : w.at_.lo ≤ w.whole_.hi
  m1 : w.whole_.lo ≤ w.at_.hi + w.room_
def wlo (w : S_window) : Int := max 0 (w.whole_.lo - w.at_.hi)
def whi (w : S_window) : Int := min w.room_ (w.whole_.hi - w.at_.lo)
/-- The width if so much is added. -/
def wf (w : S_window) (s : Int) : Int := min (w.at_.hi + s) w.whole_.hi - max (w.at_.lo + s) w.whole_.lo
theorem ends_eq {w : S_window} (h : Wk w) : z8 w = (wlo w, whi w) := by
  obtain ⟨a, b, c, d, e, f, g, i, j⟩ := h
  unfold z8 wlo whi
  rw [imax_eq, imin_eq, w64_eq (by omega) (by omega), w64_eq (by omega) (by omega)]
theorem seen_eq {w : S_window} (h : Wk w) {s : Int} (h0 : 0 ≤ s) (h1 : s ≤ w.room_) : zh w s = ⟨max (w.at_.lo + s) w.whole_.lo, min (w.at_.hi + s) w.whole_.hi⟩ := by
  obtain ⟨a, b, c, d, e, f, g, i, j⟩ := h
  unfold zh
  rw [w64_eq (by omega) (by omega), w64_eq (by omega) (by omega), common_eq]
  simp only []
  cases decide (max (w.at_.lo + s) w.whole_.lo ≤ min (w.at_.hi + s) w.whole_.hi) <;> rfl
/-- The greatest width; the least number added for it. -/
def wpos (w : S_window) : Int := min (max (min (w.whole_.lo - w.at_.lo) (w.whole_.hi - w.at_.hi)) (wlo w)) (whi w)
theorem widest_eq {w : S_window} (h : Wk w) : orders_window_widest w = (wf w (wpos w), wpos w) := by
  have hk := h
  obtain ⟨a, b, c, d, e, f, g, i, j⟩ := h
  unfold orders_window_widest
  rw [ends_eq hk]
  simp only []
  rw [imax_eq, imax_eq, imin_eq, imin_eq, w64_eq (n := w.whole_.lo - w.at_.lo) (by omega) (by omega), w64_eq (n := w.whole_.hi - w.at_.hi) (by omega) (by omega)]
  have hle : wlo w ≤ whi w := by unfold wlo whi; omega
  have hlo : 0 ≤ wlo w := by unfold wlo; omega
  have hhi : whi w ≤ w.room_ := by unfold whi; omega
  have hs4 : ∀ l : List Int, l.length ≤ 1000 → sort4 l = srt l := fun l hl => isort_eq hl
  rw [hs4 _ (by simp)]
  have hmem : ∀ s, s ∈ srt [wlo w, whi w, min (max (w.whole_.lo - w.at_.lo) (wlo w)) (whi w), min (max (w.whole_.hi - w.at_.hi) (wlo w)) (whi w)] ↔ s ∈ [wlo w, whi w, min (max (w.whole_.lo - w.at_.lo) (wlo w)) (whi w), min (max (w.whole_.hi - w.at_.hi) (wlo w)) (whi w)] := fun s => (srt_perm _).mem_iff
  have hin : ∀ s ∈ srt [wlo w, whi w, min (max (w.whole_.lo - w.at_.lo) (wlo w)) (whi w), min (max (w.whole_.hi - w.at_.hi) (wlo w)) (whi w)], wlo w ≤ s ∧ s ≤ whi w := by
    intro s hs
    have := (hmem s).1 hs
    simp only [List.mem_cons, List.mem_nil_iff, or_false] at this
    omega
  rw [wide6 (f := wf w) _ (-1) 0 (wf w (wpos w)) (wpos w)]
  · intro s hs
    have := hin s hs
    rw [seen_eq hk (by omega) (by omega)]
    unfold wf
    exact w64_eq (by simp only []; omega) (by simp only []; omega)
  · exact srt_sorted _
  · unfold wf wpos wlo whi; omega
  · intro s hs
    have := hin s hs
    unfold wf wpos wlo whi at *
    omega
  · rw [hmem]
    simp only [List.mem_cons, List.mem_nil_iff, or_false]
    unfold wpos
    omega
  · rfl
  · intro s hs hsm
    have := hin s hs
    unfold wf wpos wlo whi at *
    omega
end Go.VS

namespace Go.VS
open Go Go.Proofs
set_option maxHeartbeats 0
set_option linter.unusedSimpArgs false
set_option linter.unusedVariables false
noncomputable def lp20_2 : Code := subC [1, 0, 1, 0, 0] (bodyC Try.f20)

inductive LR_r_Right_2 where
  | x0
  | x1 (i2 : Nat) (x2 : Int)
  | x2 (i2 : Nat) (x2 : Int)
  | x3 (i2 : Nat) (x2 : Int)
instance : Inhabited LR_r_Right_2 := ⟨.x0⟩
def r_Right_2 (e : S_Estate) (items : GS Int) : List Int → Nat → LR_r_Right_2
  | [], i2 => .x0
  | x2 :: rest2, i2 =>
    bif decide (x2 < 0) then
      .x1 i2 x2
    else
      bif decide (x2 ≥ ((e.items.l.length : Nat) : Int)) then
        .x2 i2 x2
      else
        bif decide (((i2 : Nat) : Int) > 0) then
          bif decide ((GS.at items (w64 (((i2 : Nat) : Int) - 1))) ≥ x2) then
            .x3 i2 x2
          else
            r_Right_2 e items rest2 (i2 + 1)
        else
          r_Right_2 e items rest2 (i2 + 1)
def lr_r_Right_2 (e : S_Estate) (items : GS Int) : LR_r_Right_2 → Exit × St
  | .x0 => ((.exit 0), ⟨43, [(9, B false), (8, I ((items.l.length : Nat) : Int)), (7, .sl items.nl (items.l.map I) (zsl items.nl 1) none), (6, I ((items.l.length : Nat) : Int)), (1, .sl items.nl (items.l.map I) (zsl items.nl 1) none), (2, .lref 0 0 3 0), (5, I ((items.l.length : Nat) : Int))], [(0, ⟨[.agg [.sl e.items.nl (e.items.l.map S_Item.D) (zsl e.items.nl 4) none, I e.whole.lo, I e.whole.hi]], 3, false⟩)], 1, 0⟩)
  | .x1 i2 x2 => (.ret, ⟨43, [(4, B false), (42, B true), (41, .tup []), (40, .tup []), (39, .tup []), (38, .tup []), (37, .tup []), (36, .tup []), (35, .tup []), (34, .tup []), (33, .tup []), (32, .tup []), (31, .tup []), (30, .tup []), (29, .tup []), (28, .tup []), (27, B true), (26, B true), (25, .tup []), (24, .tup []), (23, .tup []), (22, .tup []), (21, .tup []), (20, .tup []), (19, .tup []), (18, .tup []), (17, B true), (16, B true), (15, I x2), (14, .ptr (I x2)), (13, I ((i2 : Nat) : Int)), (12, .sl items.nl (items.l.map I) (zsl items.nl 1) none), (9, B true), (8, I ((items.l.length : Nat) : Int)), (7, .sl items.nl (items.l.map I) (zsl items.nl 1) none), (6, I ((i2 : Nat) : Int)), (1, .sl items.nl (items.l.map I) (zsl items.nl 1) none), (2, .lref 0 0 3 0), (5, I ((i2 : Nat) : Int))], [(0, ⟨[.agg [.sl e.items.nl (e.items.l.map S_Item.D) (zsl e.items.nl 4) none, I e.whole.lo, I e.whole.hi]], 3, false⟩)], 1, 0⟩)
  | .x2 i2 x2 => (.ret, ⟨43, [(4, B false), (42, B true), (41, .tup []), (40, .tup []), (39, .tup []), (38, .tup []), (37, .tup []), (36, .tup []), (35, .tup []), (34, .tup []), (33, .tup []), (32, .tup []), (31, .tup []), (30, .tup []), (29, .tup []), (28, .tup []), (27, B true), (26, B true), (25, B true), (24, I ((e.items.l.length : Nat) : Int)), (23, .sl e.items.nl (e.items.l.map S_Item.D) (zsl e.items.nl 4) none), (22, .lref 0 0 3 0), (21, I x2), (20, .ptr (I x2)), (19, I ((i2 : Nat) : Int)), (18, .sl items.nl (items.l.map I) (zsl items.nl 1) none), (17, B false), (16, B false), (15, I x2), (14, .ptr (I x2)), (13, I ((i2 : Nat) : Int)), (12, .sl items.nl (items.l.map I) (zsl items.nl 1) none), (9, B true), (8, I ((items.l.length : Nat) : Int)), (7, .sl items.nl (items.l.map I) (zsl items.nl 1) none), (6, I ((i2 : Nat) : Int)), (1, .sl items.nl (items.l.map I) (zsl items.nl 1) none), (2, .lref 0 0 3 0), (5, I ((i2 : Nat) : Int))], [(0, ⟨[.agg [.sl e.items.nl (e.items.l.map S_Item.D) (zsl e.items.nl 4) none, I e.whole.lo, I e.whole.hi]], 3, false⟩)], 1, 0⟩)
  | .x3 i2 x2 => (.ret, ⟨43, [(4, B false), (42, B true), (41, B true), (40, B true), (39, I x2), (38, .ptr (I x2)), (37, I ((i2 : Nat) : Int)), (36, .sl items.nl (items.l.map I) (zsl items.nl 1) none), (35, I (GS.at items (w64 (((i2 : Nat) : Int) - 1)))), (34, .ptr (I (GS.at items (w64 (((i2 : Nat) : Int) - 1))))), (33, I (w64 (((i2 : Nat) : Int) - 1))), (32, I ((i2 : Nat) : Int)), (31, .sl items.nl (items.l.map I) (zsl items.nl 1) none), (30, B true), (29, B true), (28, I ((i2 : Nat) : Int)), (27, B false), (26, B false), (25, B false), (24, I ((e.items.l.length : Nat) : Int)), (23, .sl e.items.nl (e.items.l.map S_Item.D) (zsl e.items.nl 4) none), (22, .lref 0 0 3 0), (21, I x2), (20, .ptr (I x2)), (19, I ((i2 : Nat) : Int)), (18, .sl items.nl (items.l.map I) (zsl items.nl 1) none), (17, B false), (16, B false), (15, I x2), (14, .ptr (I x2)), (13, I ((i2 : Nat) : Int)), (12, .sl items.nl (items.l.map I) (zsl items.nl 1) none), (9, B true), (8, I ((items.l.length : Nat) : Int)), (7, .sl items.nl (items.l.map I) (zsl items.nl 1) none), (6, I ((i2 : Nat) : Int)), (1, .sl items.nl (items.l.map I) (zsl items.nl 1) none), (2, .lref 0 0 3 0), (5, I ((i2 : Nat) : Int))], [(0, ⟨[.agg [.sl e.items.nl (e.items.l.map S_Item.D) (zsl e.items.nl 4) none, I e.whole.lo, I e.whole.hi]], 3, false⟩)], 1, 0⟩)
def r_Right_2_l_o1 (e : S_Estate) (items : GS Int) (x2 : Int) : List Ora := [.rw 8 (I ((items.l.length : Nat) : Int)), .dec true, .el (I x2), .dec false, .el (I x2), .rw 24 (I ((e.items.l.length : Nat) : Int))]
theorem lp_r_Right_2 (e : S_Estate) (items : GS Int) : ∀ (rest2 : List Int) (i2 : Nat) (hd2 : items.l.drop i2 = rest2) (hi2 : i2 ≤ items.l.length) (hL2 : items.l.length ≤ 9223372036854775807), (lim cfg).loop 20 lp20_2 ⟨43, [(1, .sl items.nl (items.l.map I) (zsl items.nl 1) none), (2, .lref 0 0 3 0), (5, I ((i2 : Nat) : Int))], [(0, ⟨[.agg [.sl e.items.nl (e.items.l.map S_Item.D) (zsl e.items.nl 4) none, I e.whole.lo, I e.whole.hi]], 3, false⟩)], 1, 0⟩ = some (lr_r_Right_2 e items (r_Right_2 e items rest2 i2)) := by
  intro rest2
  induction rest2 with
  | nil =>
    intro i2 hd2 hi2 hL2
    unfold r_Right_2
    obtain rfl : i2 = items.l.length := nil_eq hd2 hi2
    exact zQ [.rw 8 (I ((items.l.length : Nat) : Int)), .dec false] (And.intro (lt_no hd2) (And.intro (zz I items) trivial)) (by kernel_rfl)
  | cons x2 rest2 ih =>
    intro i2 hd2 hi2 hL2
    have hlt2 := zT hd2
    unfold r_Right_2
    have p1 := (el_at (s := items) (f := I) (k := 1) hd2)
    cases h5 : decide (x2 < 0) with
    | true =>
      have g5 := of_decide_eq_true h5
      exact zQ [.rw 8 (I ((items.l.length : Nat) : Int)), .dec true, .el (I x2), .dec true] (And.intro h5 (And.intro p1 (And.intro (lt_at hd2) (And.intro (zz I items) trivial)))) (by kernel_rfl)
    | false =>
      have g5 := of_decide_eq_false h5
      have p2 := (el_at (s := items) (f := I) (k := 1) hd2)
      cases h6 : decide (x2 ≥ ((e.items.l.length : Nat) : Int)) with
      | true =>
        have g6 := of_decide_eq_true h6
        exact zQ ((r_Right_2_l_o1 e items x2) ++ [.dec true]) (And.intro h6 (And.intro (zz S_Item.D e.items) (And.intro p2 (And.intro h5 (And.intro p1 (And.intro (lt_at hd2) (And.intro (zz I items) trivial))))))) (by kernel_rfl)
      | false =>
        have g6 := of_decide_eq_false h6
        cases h7 : decide (((i2 : Nat) : Int) > 0) with
        | true =>
          have g7 := of_decide_eq_true h7
          have p3 := (el_in (s := items) (f := I) (k := 1) (i := w64 (((i2 : Nat) : Int) - 1)) (by first | assumption | omega | (simp only [zc] at * <;> omega)) (by first | assumption | omega | (simp only [zc] at * <;> omega)))
          have p4 := (el_at (s := items) (f := I) (k := 1) hd2)
          cases h8 : decide ((GS.at items (w64 (((i2 : Nat) : Int) - 1))) ≥ x2) with
          | true =>
            have g8 := of_decide_eq_true h8
            exact zQ ((r_Right_2_l_o1 e items x2) ++ [.dec false, .dec true, .el (I (GS.at items (w64 (((i2 : Nat) : Int) - 1)))), .el (I x2), .dec true]) (And.intro h8 (And.intro p4 (And.intro p3 (And.intro h7 (And.intro h6 (And.intro (zz S_Item.D e.items) (And.intro p2 (And.intro h5 (And.intro p1 (And.intro (lt_at hd2) (And.intro (zz I items) trivial))))))))))) (by kernel_rfl)
          | false =>
            have g8 := of_decide_eq_false h8
            exact po_turn ((r_Right_2_l_o1 e items x2) ++ [.dec false, .dec true, .el (I (GS.at items (w64 (((i2 : Nat) : Int) - 1)))), .el (I x2), .dec false, .rw 11 (I ((i2 + 1 : Nat) : Int))]) (And.intro (inc_rw (i := i2) (by have := zT hd2; omega)) (And.intro h8 (And.intro p4 (And.intro p3 (And.intro h7 (And.intro h6 (And.intro (zz S_Item.D e.items) (And.intro p2 (And.intro h5 (And.intro p1 (And.intro (lt_at hd2) (And.intro (zz I items) trivial)))))))))))) (ih (i2 + 1) (drop_next hd2) (zT hd2) (by first | assumption | omega)) (by kernel_rfl)
        | false =>
          have g7 := of_decide_eq_false h7
          exact po_turn ((r_Right_2_l_o1 e items x2) ++ [.dec false, .dec false, .rw 11 (I ((i2 + 1 : Nat) : Int))]) (And.intro (inc_rw (i := i2) (by have := zT hd2; omega)) (And.intro h7 (And.intro h6 (And.intro (zz S_Item.D e.items) (And.intro p2 (And.intro h5 (And.intro p1 (And.intro (lt_at hd2) (And.intro (zz I items) trivial))))))))) (ih (i2 + 1) (drop_next hd2) (zT hd2) (by first | assumption | omega)) (by kernel_rfl)

def r_Right (e : S_Estate) (items : GS Int) : Bool :=
  match r_Right_2 e items items.l 0 with
  | .x0 =>
    true
  | .x1 i2 x2 =>
    false
  | .x2 i2 x2 =>
    false
  | .x3 i2 x2 =>
    false

def sd87 (e : S_Estate) (items : GS Int) : St := ⟨43, [(9, B false), (8, I ((items.l.length : Nat) : Int)), (7, .sl items.nl (items.l.map I) (zsl items.nl 1) none), (6, I ((items.l.length : Nat) : Int)), (1, .sl items.nl (items.l.map I) (zsl items.nl 1) none), (2, .lref 0 0 3 0), (5, I ((items.l.length : Nat) : Int))], [(0, ⟨[.agg [.sl e.items.nl (e.items.l.map S_Item.D) (zsl e.items.nl 4) none, I e.whole.lo, I e.whole.hi]], 3, false⟩)], 1, 0⟩

def sd88 (e : S_Estate) (items : GS Int) (i2 : Nat) (x2 : Int) : St := ⟨43, [(4, B false), (42, B true), (41, .tup []), (40, .tup []), (39, .tup []), (38, .tup []), (37, .tup []), (36, .tup []), (35, .tup []), (34, .tup []), (33, .tup []), (32, .tup []), (31, .tup []), (30, .tup []), (29, .tup []), (28, .tup []), (27, B true), (26, B true), (25, .tup []), (24, .tup []), (23, .tup []), (22, .tup []), (21, .tup []), (20, .tup []), (19, .tup []), (18, .tup []), (17, B true), (16, B true), (15, I x2), (14, .ptr (I x2)), (13, I ((i2 : Nat) : Int)), (12, .sl items.nl (items.l.map I) (zsl items.nl 1) none), (9, B true), (8, I ((items.l.length : Nat) : Int)), (7, .sl items.nl (items.l.map I) (zsl items.nl 1) none), (6, I ((i2 : Nat) : Int)), (1, .sl items.nl (items.l.map I) (zsl items.nl 1) none), (2, .lref 0 0 3 0), (5, I ((i2 : Nat) : Int))], [(0, ⟨[.agg [.sl e.items.nl (e.items.l.map S_Item.D) (zsl e.items.nl 4) none, I e.whole.lo, I e.whole.hi]], 3, false⟩)], 1, 0⟩

def sd89 (e : S_Estate) (items : GS Int) (i2 : Nat) (x2 : Int) : St := ⟨43, [(4, B false), (42, B true), (41, .tup []), (40, .tup []), (39, .tup []), (38, .tup []), (37, .tup []), (36, .tup []), (35, .tup []), (34, .tup []), (33, .tup []), (32, .tup []), (31, .tup []), (30, .tup []), (29, .tup []), (28, .tup []), (27, B true), (26, B true), (25, B true), (24, I ((e.items.l.length : Nat) : Int)), (23, .sl e.items.nl (e.items.l.map S_Item.D) (zsl e.items.nl 4) none), (22, .lref 0 0 3 0), (21, I x2), (20, .ptr (I x2)), (19, I ((i2 : Nat) : Int)), (18, .sl items.nl (items.l.map I) (zsl items.nl 1) none), (17, B false), (16, B false), (15, I x2), (14, .ptr (I x2)), (13, I ((i2 : Nat) : Int)), (12, .sl items.nl (items.l.map I) (zsl items.nl 1) none), (9, B true), (8, I ((items.l.length : Nat) : Int)), (7, .sl items.nl (items.l.map I) (zsl items.nl 1) none), (6, I ((i2 : Nat) : Int)), (1, .sl items.nl (items.l.map I) (zsl items.nl 1) none), (2, .lref 0 0 3 0), (5, I ((i2 : Nat) : Int))], [(0, ⟨[.agg [.sl e.items.nl (e.items.l.map S_Item.D) (zsl e.items.nl 4) none, I e.whole.lo, I e.whole.hi]], 3, false⟩)], 1, 0⟩

def sd90 (e : S_Estate) (items : GS Int) (i2 : Nat) (x2 : Int) : St := ⟨43, [(4, B false), (42, B true), (41, B true), (40, B true), (39, I x2), (38, .ptr (I x2)), (37, I ((i2 : Nat) : Int)), (36, .sl items.nl (items.l.map I) (zsl items.nl 1) none), (35, I (GS.at items (w64 (((i2 : Nat) : Int) - 1)))), (34, .ptr (I (GS.at items (w64 (((i2 : Nat) : Int) - 1))))), (33, I (w64 (((i2 : Nat) : Int) - 1))), (32, I ((i2 : Nat) : Int)), (31, .sl items.nl (items.l.map I) (zsl items.nl 1) none), (30, B true), (29, B true), (28, I ((i2 : Nat) : Int)), (27, B false), (26, B false), (25, B false), (24, I ((e.items.l.length : Nat) : Int)), (23, .sl e.items.nl (e.items.l.map S_Item.D) (zsl e.items.nl 4) none), (22, .lref 0 0 3 0), (21, I x2), (20, .ptr (I x2)), (19, I ((i2 : Nat) : Int)), (18, .sl items.nl (items.l.map I) (zsl items.nl 1) none), (17, B false), (16, B false), (15, I x2), (14, .ptr (I x2)), (13, I ((i2 : Nat) : Int)), (12, .sl items.nl (items.l.map I) (zsl items.nl 1) none), (9, B true), (8, I ((items.l.length : Nat) : Int)), (7, .sl items.nl (items.l.map I) (zsl items.nl 1) none), (6, I ((i2 : Nat) : Int)), (1, .sl items.nl (items.l.map I) (zsl items.nl 1) none), (2, .lref 0 0 3 0), (5, I ((i2 : Nat) : Int))], [(0, ⟨[.agg [.sl e.items.nl (e.items.l.map S_Item.D) (zsl e.items.nl 4) none, I e.whole.lo, I e.whole.hi]], 3, false⟩)], 1, 0⟩

theorem T_r_Right (e : S_Estate) (items : GS Int) (hL : items.l.length ≤ 9223372036854775807) : (lim cfg).pure 20 [S_Estate.D e, GS.D I 1 items] = some (B (r_Right e items)) := by
  unfold r_Right
  cases h9 : r_Right_2 e items items.l 0 with
  | x0 =>
    try dsimp only
    exact zy [.loop (.exit 0) (sd87 e items)] (And.intro (po_lr (q := lr_r_Right_2 e items) (lp_r_Right_2 e items items.l 0 (List.drop_zero) (Nat.zero_le _) (by first | assumption | omega)) h9) trivial) (by kernel_rfl)
  | x1 i2 x2 =>
    try dsimp only
    exact zy [.loop .ret (sd88 e items i2 x2)] (And.intro (po_lr (q := lr_r_Right_2 e items) (lp_r_Right_2 e items items.l 0 (List.drop_zero) (Nat.zero_le _) (by first | assumption | omega)) h9) trivial) (by kernel_rfl)
  | x2 i2 x2 =>
    try dsimp only
    exact zy [.loop .ret (sd89 e items i2 x2)] (And.intro (po_lr (q := lr_r_Right_2 e items) (lp_r_Right_2 e items items.l 0 (List.drop_zero) (Nat.zero_le _) (by first | assumption | omega)) h9) trivial) (by kernel_rfl)
  | x3 i2 x2 =>
    try dsimp only
    exact zy [.loop .ret (sd90 e items i2 x2)] (And.intro (po_lr (q := lr_r_Right_2 e items) (lp_r_Right_2 e items items.l 0 (List.drop_zero) (Nat.zero_le _) (by first | assumption | omega)) h9) trivial) (by kernel_rfl)

theorem rright5 {e : S_Estate} {items : GS Int} (hL : items.l.length ≤ 9223372036854775807) : ∀ (l : List Int) (i : Nat), items.l.drop i = l → (r_Right_2 e items l i = .x0 ↔ inc (if i = 0 then -1 else items.at ((i : Int) - 1)) (e.items.l.length : Int) l)
  | [], i, _ => by simp [r_Right_2, inc]
  | x :: l, i, hd => by
    have hlt := zT hd
    have hx : items.at (i : Int) = x := at_of hd
    have ih := rright5 (e := e) (items := items) hL l (i + 1) (drop_next hd)
    rw [if_neg (by omega), show ((i + 1 : Nat) : Int) - 1 = (i : Int) by omega, hx] at ih
    unfold r_Right_2
    simp only [inc]
    cases h1 : decide (x < 0) with
    | true => have := of_decide_eq_true h1; simp only [cond_true]; exact ⟨fun h => (by cases h), fun h => by omega⟩
    | false =>
      have := of_decide_eq_false h1
      cases h2 : decide (x ≥ ((e.items.l.length : Nat) : Int)) with
      | true => have := of_decide_eq_true h2; simp only [cond_true, cond_false]; exact ⟨fun h => (by cases h), fun h => by omega⟩
      | false =>
        have := of_decide_eq_false h2
        simp only [cond_false]
        by_cases h0 : i = 0
        · subst h0
          have e0 : decide (((0 : Nat) : Int) > 0) = false := rfl
          rw [e0, if_pos rfl]
          simp only [cond_false, ih]
          exact ⟨fun h => ⟨by omega, by omega, by omega, h⟩, fun h => h.2.2.2⟩
        · rw [if_neg h0, decide_eq_true (by omega : ((i : Nat) : Int) > 0)]
          simp only [cond_true]
          rw [w64_eq (by omega) (by omega)]
          cases h2 : decide (items.at (((i : Nat) : Int) - 1) ≥ x) with
          | true => have := of_decide_eq_true h2; simp only [cond_true]; exact ⟨fun h => (by cases h), fun h => by omega⟩
          | false =>
            have := of_decide_eq_false h2
            simp only [cond_false, ih]
            exact ⟨fun h => ⟨by omega, by omega, by omega, h⟩, fun h => h.2.2.2⟩
theorem rright_iff {e : S_Estate} {items : GS Int} (hL : items.l.length ≤ 9223372036854775807) : r_Right e items = true ↔ inc (-1) (e.items.l.length : Int) items.l := by
  have k := rright5 (e := e) hL items.l 0 List.drop_zero
  rw [if_pos rfl] at k
  rw [← k]
  unfold r_Right
  cases r_Right_2 e items items.l 0 <;> simp
end Go.VS

/-
  Orders: gains; the width that is left; what is needed. (A text of this claim's own; nothing of it is trusted.)
-/
namespace Go.VS
set_option maxHeartbeats 0
theorem right_of {e : S_Estate} {items : GS Int} (hL : items.l.length ≤ 9223372036854775807) (h : V e) (hi : inc (-1) (e.items.l.length : Int) items.l) : zR e items = 0 := (right_iff hL).2 ⟨check_iff.2 h, hi⟩
theorem inc_short {e : S_Estate} {l : List Int} (h : V e) (hi : inc (-1) (e.items.l.length : Int) l) : l.length ≤ 12 := by
  have := h.n2
  by_cases hn : l = []
  · rw [hn]; simp
  · have := inc_len hi (by omega) hn
    omega
/-! ### gains -/
def gn (x : S_Item) : Int := max 0 (x.now.hi - x.now.lo - 2 * x.error)
theorem gain_eq {x : S_Item} (h : OkItem x) : zt x = gn x := by
  obtain ⟨a, b, c, d, e, f, g⟩ := h
  unfold zt gn
  rw [imax_eq, w64_eq (n := x.now.hi - x.now.lo) (by omega) (by omega), w64_eq (n := 2 * x.error) (by omega) (by omega), w64_eq (by omega) (by omega)]
theorem gn_bd {x : S_Item} (h : OkItem x) : 0 ≤ gn x ∧ gn x ≤ x.now.hi - x.now.lo := by
  obtain ⟨a, b, c, d, e, f, g⟩ := h
  unfold gn
  omega
/-- What items gain. -/
def gs (e : S_Estate) (l : List Int) : List Int := l.map (fun i => gn (e.items.at i))
theorem gains_eq {e : S_Estate} (h : V e) {items : GS Int} (hi : ∀ i ∈ items.l, 0 ≤ i ∧ i < (e.items.l.length : Int)) : (zj e items).l = gs e items.l := by
  rw [(gains_l e items).1]
  refine List.map_congr_left fun i hm => ?_
  exact gain_eq (h.it _ (at_mem (hi i hm).1 (hi i hm).2))
theorem tot_app (a b : List Int) : tot (a ++ b) = tot a + tot b := by
  induction a with
  | nil => simp [tot]
  | cons x a ih => simp only [List.cons_append, tot, ih]; omega
theorem total3_eq : ∀ (l : List Int) (n : Int), (∀ x ∈ l, 0 ≤ x ∧ x ≤ 1073741824) → 0 ≤ n → n + 1073741824 * (l.length : Int) ≤ 4611686018427387904 → orders_total_3 l n = .x0 (n + tot l)
  | [], n, _, _, _ => by simp [orders_total_3, tot]
  | x :: l, n, h, h0, h1 => by
    have hx := h x List.mem_cons_self
    simp only [List.length_cons] at h1
    unfold orders_total_3
    rw [w64_eq (by omega) (by omega), total3_eq l _ (fun y hy => h y (List.mem_cons_of_mem _ hy)) (by omega) (by omega)]
    simp only [tot]
    congr 1
    omega
theorem total_eq {s : GS Int} (h : ∀ x ∈ s.l, 0 ≤ x ∧ x ≤ 1073741824) (hn : s.l.length ≤ 1000) : zp s = tot s.l := by
  unfold zp
  rw [total3_eq s.l 0 h (by omega) (by omega)]
  simp
theorem gs_bd {e : S_Estate} (h : V e) {l : List Int} (hi : ∀ i ∈ l, 0 ≤ i ∧ i < (e.items.l.length : Int)) : ∀ x ∈ gs e l, 0 ≤ x ∧ x ≤ 1073741824 := by
  intro x hx
  obtain ⟨i, hm, rfl⟩ := List.mem_map.1 hx
  have hk := h.it _ (at_mem (hi i hm).1 (hi i hm).2)
  have := gn_bd hk
  have := hk.2.2.1; have := hk.1
  omega
def Gl (e : S_Estate) : List Int := e.items.l.map gn
theorem tot_nonneg : ∀ {l : List Int}, (∀ x ∈ l, 0 ≤ x) → 0 ≤ tot l
  | [], _ => Int.le_refl _
  | x :: l, h => by
    have := h x List.mem_cons_self
    have := tot_nonneg (l := l) (fun y hy => h y (List.mem_cons_of_mem _ hy))
    simp only [tot]; omega
theorem tot_drop {l : List Int} (h : ∀ x ∈ l, 0 ≤ x) {i j : Nat} (hij : i ≤ j) : tot (l.drop j) ≤ tot (l.drop i) := by
  have e : l.drop j = (l.drop i).drop (j - i) := by rw [List.drop_drop]; congr 1; omega
  rw [e]
  have := tot_app ((l.drop i).take (j - i)) ((l.drop i).drop (j - i))
  rw [List.take_append_drop] at this
  have : 0 ≤ tot ((l.drop i).take (j - i)) := tot_nonneg fun x hx => h x (List.mem_of_mem_drop (List.mem_of_mem_take hx))
  omega
theorem Gl_nonneg {e : S_Estate} (h : V e) : ∀ x ∈ Gl e, 0 ≤ x := by
  intro x hx
  obtain ⟨y, hy, rfl⟩ := List.mem_map.1 hx
  exact (gn_bd (h.it y hy)).1
theorem gs_le {e : S_Estate} (h : V e) : ∀ {p : Int} {l : List Int}, -1 ≤ p → inc p (e.items.l.length : Int) l → tot (gs e l) ≤ tot ((Gl e).drop (p + 1).toNat)
  | p, [], hp, _ => tot_nonneg fun x hx => Gl_nonneg h x (List.mem_of_mem_drop hx)
  | p, x :: l, hp, hi => by
    obtain ⟨h1, h2, h3, h4⟩ := hi
    have ih := gs_le h (p := x) (by omega) h4
    have hlt : x.toNat < (Gl e).length := by unfold Gl; rw [List.length_map]; omega
    have hd : (Gl e).drop x.toNat = (Gl e)[x.toNat] :: (Gl e).drop (x.toNat + 1) := List.drop_eq_getElem_cons hlt
    have hg : (Gl e)[x.toNat] = gn (e.items.at x) := by
      have hlt' : x.toNat < e.items.l.length := by omega
      simp only [Gl, List.getElem_map, GS.at, List.getD_eq_getElem?_getD, List.getElem?_eq_getElem hlt']
      rfl
    have hm := tot_drop (Gl_nonneg h) (i := (p + 1).toNat) (j := x.toNat) (by omega)
    rw [hd, hg] at hm
    rw [show (x + 1).toNat = x.toNat + 1 by omega] at ih
    simp only [gs, List.map_cons, tot] at *
    omega
theorem Gl_tot {e : S_Estate} (h : V e) : tot (Gl e) ≤ sHi e.items.l - sLo e.items.l := by
  have key : ∀ l : List S_Item, (∀ x ∈ l, OkItem x) → tot (l.map gn) ≤ sHi l - sLo l := by
    intro l
    induction l with
    | nil => intro _; simp [tot, sHi, sLo]
    | cons x l ih =>
      intro hl
      have := ih fun y hy => hl y (List.mem_cons_of_mem _ hy)
      have := gn_bd (hl x List.mem_cons_self)
      simp only [List.map_cons, tot, sHi, sLo]
      omega
  exact key _ h.it
theorem gs_range {e : S_Estate} (h : V e) {l : List Int} (hi : inc (-1) (e.items.l.length : Int) l) : 0 ≤ tot (gs e l) ∧ tot (gs e l) ≤ sHi e.items.l - sLo e.items.l := by
  have h1 := gs_le h (by omega) hi
  have h2 := Gl_tot h
  have h3 := gs_bd h (inc_mem hi)
  simp at h1
  exact ⟨tot_nonneg fun x hx => (h3 x hx).1, by omega⟩
/-! ### the width that is left behind a gain -/
def wn (e : S_Estate) (g : Int) : S_window := ⟨⟨sLo e.items.l, sHi e.items.l - g⟩, g, e.whole⟩
def Wg (e : S_Estate) (g : Int) : Int := wf (wn e g) (wpos (wn e g))
theorem wn_ok {e : S_Estate} (h : V e) {g : Int} (h0 : 0 ≤ g) (h1 : g ≤ sHi e.items.l - sLo e.items.l) : Wk (wn e g) := by
  have hb := sums_bd h.sp
  have := h.n2
  have := h.lo; have := h.hi
  refine ⟨hb.1, ?_, ?_, h0, h.w0, h.w1, h.w2, h.lo, ?_⟩ <;> simp only [wn] <;> omega
theorem windowOf_eq {e : S_Estate} (h : V e) {g : Int} (h0 : 0 ≤ g) (h1 : g ≤ sHi e.items.l - sLo e.items.l) : zi e g = wn e g := by
  have hb := sums_bd h.sp
  have := h.n2
  unfold zi wn
  rw [all_eq h.sp h.n2]
  simp only []
  rw [w64_eq (by omega) (by omega)]
theorem wide_eq {e : S_Estate} (h : V e) {g : Int} (h0 : 0 ≤ g) (h1 : g ≤ sHi e.items.l - sLo e.items.l) : orders_window_widest (zi e g) = (Wg e g, wpos (wn e g)) := by
  rw [windowOf_eq h h0 h1, widest_eq (wn_ok h h0 h1)]; rfl
theorem Wg_eq {e : S_Estate} (h : V e) {g : Int} (h0 : 0 ≤ g) (h2 : g ≤ sHi e.items.l - sLo e.items.l) : Wg e g = min (sHi e.items.l - sLo e.items.l - g) (hiS e - loS e) := by
  have := h.lo; have := h.hi; have := h.w1
  unfold Wg wf wpos wlo whi wn hiS loS
  simp only []
  omega
theorem Wg_mono {e : S_Estate} (h : V e) {g g' : Int} (h0 : 0 ≤ g) (h1 : g ≤ g') (h2 : g' ≤ sHi e.items.l - sLo e.items.l) : Wg e g' ≤ Wg e g := by
  rw [Wg_eq h (by omega) h2, Wg_eq h h0 (by omega)]
  omega
theorem Wg_nonneg {e : S_Estate} (h : V e) {g : Int} (h0 : 0 ≤ g) (h2 : g ≤ sHi e.items.l - sLo e.items.l) : 0 ≤ Wg e g := by
  have := loS_hiS h
  rw [Wg_eq h h0 h2]
  omega
theorem gtot_eq {e : S_Estate} (h : V e) {items : GS Int} (hi : inc (-1) (e.items.l.length : Int) items.l) : zp (zj e items) = tot (gs e items.l) := by
  have := inc_short h hi
  rw [total_eq (by rw [gains_eq h (inc_mem hi)]; exact gs_bd h (inc_mem hi)) (by rw [zb]; omega), gains_eq h (inc_mem hi)]
theorem worst_eq {e : S_Estate} (h : V e) {items : GS Int} (hL : items.l.length ≤ 9223372036854775807) (hi : inc (-1) (e.items.l.length : Int) items.l) : z5 e items = (Wg e (tot (gs e items.l)), 0) := by
  have hr := gs_range h hi
  unfold z5 orders_worst
  rw [right_of hL h hi, gtot_eq h hi, wide_eq h hr.1 hr.2]
  rfl
/-! ### all items -/
/-! ### what is needed -/
/-! ### is it among them -/
theorem inc_lt : ∀ {p n : Int} {l : List Int}, inc p n l → ∀ x ∈ l, p < x
  | _, _, [], _, x, hx => by cases hx
  | p, n, y :: l, h, x, hx => by
    rcases List.mem_cons.1 hx with rfl | hx
    · exact h.1
    · have := inc_lt h.2.2.2 x hx; have := h.1; omega
end Go.VS

/-
  Orders: estates closed; areas at the ends of what can be. (A text of this claim's own; nothing of it is trusted.)
-/
namespace Go.VS
/-- One item at a number. -/
def put (l : List S_Item) (i : Nat) (y : Int) : List S_Item := l.set i ⟨⟨y, y⟩, (l.getD i default).cost, (l.getD i default).error⟩
end Go.VS

namespace Go.VS
open Go Go.Proofs
set_option maxHeartbeats 0
set_option linter.unusedSimpArgs false
set_option linter.unusedVariables false
end Go.VS

namespace Go.VS
open Go Go.Proofs
set_option maxHeartbeats 0
set_option linter.unusedSimpArgs false
set_option linter.unusedVariables false
theorem rright_all {e : S_Estate} {items : GS Int} (hL : items.l.length ≤ 9223372036854775807) (hn : 1 ≤ e.items.l.length ∧ e.items.l.length ≤ 12) (h : r_Right e items = true) : (∀ i ∈ items.l, 0 ≤ i ∧ i < ((e.items.l.length : Nat) : Int)) ∧ items.l.length ≤ 12 := by
  have h' := (rright_iff hL).1 h
  refine ⟨inc_mem h', ?_⟩
  by_cases hn' : items.l = []
  · rw [hn']; simp
  · have := inc_len h' (by omega) hn'
    omega
end Go.VS

namespace Go.VS
open Go Go.Proofs
set_option maxHeartbeats 0
set_option linter.unusedSimpArgs false
set_option linter.unusedVariables false
theorem shown_len {e : S_Estate} {items : GS Int} {s : Int} : (orders_shown e items s).l.length = items.l.length := by
  have key : ∀ (l : List Int) (n : Int) (v : List Int), ∃ m w, orders_shown_3a e s l n v = .x0 m w ∧ w.length = v.length + l.length := by
    intro l
    induction l with
    | nil => intro n v; exact ⟨n, v, rfl, by simp⟩
    | cons x l ih =>
      intro n v
      unfold orders_shown_3a
      obtain ⟨m, w, h1, h2⟩ := ih (w64 (n - (ze n (zt (GS.at e.items x))))) (v ++ [w64 ((w64 (((GS.at e.items x).now.lo) + ((GS.at e.items x).error))) + (ze n (zt (GS.at e.items x))))])
      exact ⟨m, w, h1, by rw [h2]; simp; omega⟩
  unfold orders_shown
  cases items.l with
  | nil => rfl
  | cons x l =>
    unfold orders_shown_3
    dsimp only
    obtain ⟨m, w, h1, h2⟩ := key l (w64 (s - (ze s (zt (GS.at e.items x))))) [w64 ((w64 (((GS.at e.items x).now.lo) + ((GS.at e.items x).error))) + (ze s (zt (GS.at e.items x))))]
    rw [h1]
    simp [GS.some, h2]
    omega
theorem zA {e : S_Estate} {items : GS Int} {low high : Int} : (orders_Open e items low high).1.l.length ≤ items.l.length := by
  have h1 : (orders_open e items low high).1.l.length ≤ items.l.length := by
    unfold orders_open
    simp only [Bool.cond_decide]
    split
    · simp [GS.nil]
    · split
      · simp [GS.nil]
      · split
        · simp [GS.nil]
        · simp [shown_len]
  unfold orders_Open
  cases (orders_bounds e items low high != 0) with
  | true => simp [GS.nil]
  | false => cases (orders_open e items low high).2 <;> exact h1
end Go.VS

/-
  Orders: what measurements leave. (A text of this claim's own; nothing of it is trusted.)
-/
namespace Go.VS
set_option maxHeartbeats 0
end Go.VS

/-
  Orders: what Attain shows, what measurements show of areas. (A text of this claim's own; nothing of it is trusted.)
-/
namespace Go.VS
set_option maxHeartbeats 0
/-! ### what measurements show of areas -/
end Go.VS

/-
  Orders: does it stay open. (A text of this claim's own; nothing of it is trusted.)
-/
namespace Go.VS
set_option maxHeartbeats 0
/-- The least number added behind which the span reaches beyond low. -/
def opS (e : S_Estate) (g low : Int) : Int := max (max 0 (e.whole.lo - (sHi e.items.l - g))) (low + 1 - (sHi e.items.l - g))
def Opn (e : S_Estate) (g low high : Int) : Prop := opS e g low ≤ min g (e.whole.hi - sLo e.items.l) ∧ max (sLo e.items.l + opS e g low) e.whole.lo < high ∧ low < min (sHi e.items.l - g + opS e g low) e.whole.hi
theorem open_eq {e : S_Estate} (h : V e) {items : GS Int} (hi : inc (-1) (e.items.l.length : Int) items.l) {low high : Int} (h0 : -1099511627776 ≤ low) (h1 : high ≤ 1099511627776) (hlh : low < high) :
    (Opn e (tot (gs e items.l)) low high → orders_open e items low high = (orders_shown e items (opS e (tot (gs e items.l)) low), true)) ∧ (¬ Opn e (tot (gs e items.l)) low high → orders_open e items low high = (GS.nil, false)) := by
  have hg := gs_range h hi
  have hb := sums_bd h.sp
  have hn := h.n2
  have w0 := h.w0; have w1 := h.w1; have w2 := h.w2
  have hk := wn_ok h hg.1 hg.2
  have e1 : zf (wlo (wn e (tot (gs e items.l)))) (w64 (w64 (low + 1) - (wn e (tot (gs e items.l))).at_.hi)) = opS e (tot (gs e items.l)) low := by
    rw [imax_eq]
    have : (wn e (tot (gs e items.l))).at_.hi = sHi e.items.l - tot (gs e items.l) := rfl
    rw [this, w64_eq (n := low + 1) (by omega) (by omega), w64_eq (by omega) (by omega)]
    rfl
  have e2 : whi (wn e (tot (gs e items.l))) = min (tot (gs e items.l)) (e.whole.hi - sLo e.items.l) := rfl
  have e3 : 0 ≤ opS e (tot (gs e items.l)) low := by unfold opS; omega
  unfold orders_open Opn
  rw [gtot_eq h hi, windowOf_eq h hg.1 hg.2, ends_eq hk]
  simp only []
  rw [e1, e2]
  by_cases c1 : opS e (tot (gs e items.l)) low > min (tot (gs e items.l)) (e.whole.hi - sLo e.items.l)
  · rw [decide_eq_true c1]
    simp only [cond_true]
    exact ⟨fun hh => by omega, fun _ => trivial⟩
  · rw [decide_eq_false c1, seen_eq hk e3 (by show _ ≤ tot (gs e items.l); omega)]
    simp only [cond_false]
    have f1 : max ((wn e (tot (gs e items.l))).at_.lo + opS e (tot (gs e items.l)) low) (wn e (tot (gs e items.l))).whole_.lo = max (sLo e.items.l + opS e (tot (gs e items.l)) low) e.whole.lo := rfl
    have f2 : min ((wn e (tot (gs e items.l))).at_.hi + opS e (tot (gs e items.l)) low) (wn e (tot (gs e items.l))).whole_.hi = min (sHi e.items.l - tot (gs e items.l) + opS e (tot (gs e items.l)) low) e.whole.hi := rfl
    rw [f1, f2]
    by_cases c2 : max (sLo e.items.l + opS e (tot (gs e items.l)) low) e.whole.lo ≥ high
    · rw [decide_eq_true c2]
      simp only [cond_true]
      exact ⟨fun hh => by omega, fun _ => trivial⟩
    · rw [decide_eq_false c2]
      simp only [cond_false]
      by_cases c3 : min (sHi e.items.l - tot (gs e items.l) + opS e (tot (gs e items.l)) low) e.whole.hi ≤ low
      · rw [decide_eq_true c3]
        simp only [cond_true]
        exact ⟨fun hh => by omega, fun _ => trivial⟩
      · rw [decide_eq_false c3]
        simp only [cond_false]
        exact ⟨fun _ => trivial, fun hh => absurd ⟨by omega, by omega, by omega⟩ hh⟩
theorem bounds_ok {e : S_Estate} (h : V e) {items : GS Int} (hL : items.l.length ≤ 9223372036854775807) (hi : inc (-1) (e.items.l.length : Int) items.l) {low high : Int} (h0 : -1099511627776 ≤ low) (h1 : high ≤ 1099511627776) (hlh : low < high) : orders_bounds e items low high = 0 :=
  bounds_iff.2 ⟨right_of hL h hi, hlh, h0, h1⟩
theorem openF {e : S_Estate} (h : V e) {items : GS Int} (hL : items.l.length ≤ 9223372036854775807) (hi : inc (-1) (e.items.l.length : Int) items.l) {low high : Int} (h0 : -1099511627776 ≤ low) (h1 : high ≤ 1099511627776) (hlh : low < high) :
    (Opn e (tot (gs e items.l)) low high → orders_Open e items low high = (orders_shown e items (opS e (tot (gs e items.l)) low), true, 0) ∧ z6 e items low high = (false, 0)) ∧
    (¬ Opn e (tot (gs e items.l)) low high → orders_Open e items low high = (GS.nil, false, 0) ∧ z6 e items low high = (true, 0)) := by
  have k := open_eq h hi h0 h1 hlh
  have hb := bounds_ok h hL hi h0 h1 hlh
  refine ⟨fun ho => ?_, fun ho => ?_⟩
  · have := k.1 ho
    unfold orders_Open z6
    rw [hb, this]
    exact ⟨rfl, rfl⟩
  · have := k.2 ho
    unfold orders_Open z6
    rw [hb, this]
    exact ⟨rfl, rfl⟩
end Go.VS

/-
  Orders: is a number among others. (A text of this claim's own; nothing of it is trusted.)
-/
namespace Go.VS
theorem index2 (x : Int) : ∀ (l : List Int) (i : Nat), (x ∈ l → ∃ j y, slices_Index_2 x l i = .x1 j y) ∧ (x ∉ l → slices_Index_2 x l i = .x0)
  | [], i => ⟨fun h => (by cases h), fun _ => rfl⟩
  | y :: l, i => by
    unfold slices_Index_2
    cases h : (x == y) with
    | true =>
      have := eq_of_beq h
      subst this
      exact ⟨fun _ => ⟨_, _, rfl⟩, fun h => absurd List.mem_cons_self h⟩
    | false =>
      have hne : x ≠ y := by simpa using h
      have ih := index2 x l (i + 1)
      refine ⟨fun hm => ih.1 ((List.mem_cons.1 hm).resolve_left hne), fun hm => ih.2 fun hh => hm (List.mem_cons_of_mem _ hh)⟩
theorem contains_eq (s : GS Int) (x : Int) : slices_Contains s x = decide (x ∈ s.l) := by
  unfold slices_Contains slices_Index
  have k := index2 x s.l 0
  by_cases h : x ∈ s.l
  · obtain ⟨j, y, e⟩ := k.1 h
    rw [e, decide_eq_true h]
    simp only []
    rw [decide_eq_true (by omega)]
    rfl
  · rw [k.2 h, decide_eq_false h]
    rfl
end Go.VS

namespace Go.VS
open Go Go.Proofs
set_option maxHeartbeats 0
set_option linter.unusedSimpArgs false
set_option linter.unusedVariables false
inductive LR_l_shows_3 where
  | x0 (va3_0 : List Int)
  | x1
instance : Inhabited LR_l_shows_3 := ⟨.x0 default⟩
def l_shows_3a (e : S_Estate) (areas : GS Int) (off : GS Int) : List Int → Nat → (List Int) → LR_l_shows_3
  | [], i3, va3_0 => .x0 va3_0
  | x3 :: rest3, i3, va3_0 =>
    bif decide (((i3 : Nat) : Int) < ((off.l.length : Nat) : Int)) then
      l_shows_3a e areas off rest3 (i3 + 1) (va3_0 ++ [w64 ((GS.at areas x3) + (ze (zf (GS.at off ((i3 : Nat) : Int)) (w64 (0 - ((GS.at e.items x3).error)))) ((GS.at e.items x3).error)))])
    else
      l_shows_3a e areas off rest3 (i3 + 1) (va3_0 ++ [w64 ((GS.at areas x3) + 0)])
def l_shows_3 (e : S_Estate) (areas : GS Int) (off : GS Int) : List Int → Nat → LR_l_shows_3
  | [], i3 => .x1
  | x3 :: rest3, i3 =>
    bif decide (((i3 : Nat) : Int) < ((off.l.length : Nat) : Int)) then
      l_shows_3a e areas off rest3 (i3 + 1) [w64 ((GS.at areas x3) + (ze (zf (GS.at off ((i3 : Nat) : Int)) (w64 (0 - ((GS.at e.items x3).error)))) ((GS.at e.items x3).error)))]
    else
      l_shows_3a e areas off rest3 (i3 + 1) [w64 ((GS.at areas x3) + 0)]
def l_shows (e : S_Estate) (items : GS Int) (areas : GS Int) (off : GS Int) : (GS Int) :=
  match l_shows_3 e areas off items.l 0 with
  | .x0 va3_0 =>
    GS.some va3_0
  | .x1 =>
    GS.nil

theorem zg {e : S_Estate} {items areas off : GS Int} : (l_shows e items areas off).l.length = items.l.length := by
  have key : ∀ (l : List Int) (i : Nat) (v : List Int), ∃ w, l_shows_3a e areas off l i v = .x0 w ∧ w.length = v.length + l.length := by
    intro l
    induction l with
    | nil => intro i v; exact ⟨v, rfl, by simp⟩
    | cons x l ih =>
      intro i v
      unfold l_shows_3a
      cases decide (((i : Nat) : Int) < ((off.l.length : Nat) : Int)) with
      | true => obtain ⟨w, h1, h2⟩ := ih (i + 1) (v ++ [w64 ((areas.at x) + (ze (zf (off.at ((i : Nat) : Int)) (w64 (0 - ((e.items.at x).error)))) ((e.items.at x).error)))]); exact ⟨w, h1, by rw [h2]; simp; omega⟩
      | false => obtain ⟨w, h1, h2⟩ := ih (i + 1) (v ++ [w64 ((areas.at x) + 0)]); exact ⟨w, h1, by rw [h2]; simp; omega⟩
  unfold l_shows
  cases items.l with
  | nil => rfl
  | cons x l =>
    unfold l_shows_3
    dsimp only
    cases decide (((0 : Nat) : Int) < ((off.l.length : Nat) : Int)) with
    | true => obtain ⟨w, h1, h2⟩ := key l (0 + 1) [w64 ((areas.at x) + (ze (zf (off.at ((0 : Nat) : Int)) (w64 (0 - ((e.items.at x).error)))) ((e.items.at x).error)))]; simp only [cond_true, h1, GS.some, h2]; simp; omega
    | false => obtain ⟨w, h1, h2⟩ := key l (0 + 1) [w64 ((areas.at x) + 0)]; simp only [cond_false, h1, GS.some, h2]; simp; omega
end Go.VS

/-
  VS, part V3: ranges over functions, what is met being told beforehand. (A text of this claim's own; nothing of it is trusted.)
-/
namespace Go.VS
open Go

section
variable {C : Cfg} {S : Sm} {R : Rnd}
end

/-- Nothing of a deep slice behind a slice. -/
theorem app_none {α : Type} {f : α → VS.D} {te : Ty} {gO : Nat → Option Ob} {nxt sz : Nat} {d : VS.D} (s : GS α) (h : s.l.isEmpty = true) (hd : isSl d = true) :
    appendE te gO nxt d (GS.D f sz s) = Option.some ⟨d, [], [], nxt⟩ := by
  have hl : s.l = [] := by simpa using h
  unfold GS.D
  rw [hl]
  cases hn : s.nl <;> simp [appendE, elemsD, hd]
theorem ne_of_empty {α : Type} {l : List α} (h : l.isEmpty = false) : l ≠ [] := by
  intro e
  subst e
  cases h
/-! ### a function that is ranged over; its loops -/
section
variable {C : Cfg} {R : Rnd} {K : FuncId} {args : List D} {objs objs' : List (Nat × Ob)} {nxt nxt' : Nat} {p : Option Code} {P : Prop}
end
section
variable {C : Cfg} {R : Rnd} {f : FuncId} {a : Code} {st st1 st' : St} {e : Exit} {p : Option Code} {q : Exit × St × Option Code} {P : Prop}
end
end Go.VS

/-
  VS, part V4: a way through code, in pieces. (A text of this claim's own; nothing of it is trusted.)
-/
namespace Go.VS
open Go
/-- Up to a cut: the code that is left, and the state there. -/
def evTailO (C : Cfg) (S : Sm) (f : FuncId) : Code → St → List Ora → List Prop → Option (Code × St × List Prop)
  | .seq a b, st, ors, acc => match evCodeO C S f a st ors acc with
    | some (e, st', ors', acc') => match e with
      | .normal => match ors' with
        | [o] => match o with
          | .cut => some (b, st', acc')
          | o => evTailO C S f b st' [o] acc'
        | ors' => evTailO C S f b st' ors' acc'
      | _ => none
    | none => none
  | .cond c a b, st, ors, acc => match boolOf (zD C (get st.tmps) c) with
    | some true => evTailO C S f a st ors acc
    | some false => evTailO C S f b st ors acc
    | none => none
  | .block _ a, st, ors, acc => evTailO C S f a st ors acc
  | .scope a, st, ors, acc => evTailO C S f a st ors acc
  | _, _, _, _ => none
theorem evTailO_sound {C : Cfg} {S : Sm} {f : FuncId} : ∀ (c : Code) (st : St) (b : Code) (st' : St) (ors : List Ora) (acc acc' : List Prop), evTailO C S f c st ors acc = some (b, st', acc') → allP acc' →
    (∀ e st1, (e = .normal ∨ e = .ret) → zN C S f b st' = some (e, st1) → zN C S f c st = some (e, st1)) ∧ allP acc := by
  intro c
  induction c with
  | seq x y ihx ihy =>
    intro st b st' ors acc acc' h hp
    simp only [evTailO] at h
    split at h
    · rename_i e1 st1 ors1 acc1 h1
      split at h
      · have key : (∀ e st2, (e = .normal ∨ e = .ret) → zN C S f b st' = some (e, st2) → zN C S f y st1 = some (e, st2)) ∧ allP acc1 := by
          split at h
          · split at h
            · cases h
              exact ⟨fun _ _ _ h => h, hp⟩
            · exact ihy _ _ _ _ _ _ h hp
          · exact ihy _ _ _ _ _ _ h hp
        obtain ⟨h2, h3⟩ := evCodeO_sound _ _ _ _ _ _ _ _ h1 key.2
        refine ⟨fun e st2 he hb => ?_, h3⟩
        simp only [zN, h2]
        exact key.1 e st2 he hb
      · cases h
    · cases h
  | cond c x y ihx ihy =>
    intro st b st' ors acc acc' h hp
    simp only [evTailO] at h
    split at h
    · rename_i ht
      obtain ⟨h1, h2⟩ := ihx _ _ _ _ _ _ h hp
      refine ⟨fun e st2 he hb => ?_, h2⟩
      simp only [zN]
      rw [boolOf_some ht]
      exact h1 e st2 he hb
    · rename_i ht
      obtain ⟨h1, h2⟩ := ihy _ _ _ _ _ _ h hp
      refine ⟨fun e st2 he hb => ?_, h2⟩
      simp only [zN]
      rw [boolOf_some ht]
      exact h1 e st2 he hb
    · cases h
  | block id x ih =>
    intro st b st' ors acc acc' h hp
    simp only [evTailO] at h
    obtain ⟨h1, h2⟩ := ih _ _ _ _ _ _ h hp
    refine ⟨fun e st2 he hb => ?_, h2⟩
    simp only [zN, h1 e st2 he hb]
    rcases he with rfl | rfl <;> rfl
  | scope x ih =>
    intro st b st' ors acc acc' h hp
    simp only [evTailO] at h
    obtain ⟨h1, h2⟩ := ih _ _ _ _ _ _ h hp
    refine ⟨fun e st2 he hb => ?_, h2⟩
    simp only [zN, h1 e st2 he hb]
    rcases he with rfl | rfl <;> rfl
  | _ => intro st b st' ors acc acc' h hp; simp only [evTailO] at h; cases h
/-- What a function answers, by the code that is left of it. -/
def RestOK (C : Cfg) (K : FuncId) (c : Code) (st : St) (d : D) : Prop :=
  ∃ fn e st' d0 objs n ids, C.fn K = some fn ∧ zN C (lim C) K c st = some (e, st') ∧ endO C fn e st' = some (d0, objs, n) ∧ snap (zv objs) zF d0 = some (d, ids)
def restO (C : Cfg) (S : Sm) (K : FuncId) (c : Code) (st : St) (ors : List Ora) (a : SA) : Option (D × Prop) := match C.fn K with
  | some fn => match evCodeO C S K c st ors [] with
    | some (e, st', [], acc) => match endO C fn e st' with
      | some (d, objs, _) => match snapP (zv objs) zF d a acc with
        | some (d, _, _, acc) => some (d, allP acc)
        | none => none
      | none => none
    | _ => none
  | none => none
def restTO (C : Cfg) (S : Sm) (K : FuncId) (c : Code) (st : St) (ors : List Ora) : Option (Code × St × Prop) := match evTailO C S K c st ors [] with
  | some (b, st', acc) => some (b, st', allP acc)
  | none => none
def tailO (C : Cfg) (S : Sm) (K : FuncId) (args : List D) (ors : List Ora) : Option (Code × St × Prop) := match C.ext K with
  | some _ => none
  | none => match C.fn K with
    | some fn => match fn.body with
      | some c => restTO C S K c ⟨max fn.ntmps args.length, number 0 args, [], 0, 0⟩ ors
      | none => none
    | none => none
section
variable {C : Cfg} {K : FuncId} {args : List D} {c b : Code} {st st' : St} {d : D} {P : Prop}
theorem endO_nr {fn : Func} {e : Exit} {st : St} {r : D × List (Nat × Ob) × Nat} (h : endO C fn e st = some r) : e = .normal ∨ e = .ret := by
  cases e <;> first | exact .inl rfl | exact .inr rfl | (simp only [endO] at h; cases h)
theorem zI (ors : List Ora) (a : SA) (hp : P) (h : restO C (lim C) K c st ors a = some (d, P)) : RestOK C K c st d := by
  unfold restO at h
  split at h
  · rename_i fn hfn
    split at h
    · rename_i e st1 acc1 hev
      split at h
      · rename_i d0 objs0 n0 he
        split at h
        · rename_i d1 r1 a1 p1 hs
          cases h
          obtain ⟨h1, h2⟩ := snapP_sound _ _ _ _ _ _ _ _ hs hp
          exact ⟨fn, e, st1, d0, objs0, n0, r1, hfn, (evCodeO_sound _ _ _ _ _ _ _ _ hev h2).1, he, h1⟩
        · cases h
      · cases h
    · cases h
  · cases h
theorem po_restT (ors : List Ora) (hp : P) (hr : RestOK C K b st' d) (h : restTO C (lim C) K c st ors = some (b, st', P)) : RestOK C K c st d := by
  unfold restTO at h
  split at h
  · rename_i hev
    cases h
    obtain ⟨fn, e, st1, d0, objs0, n0, ids, h1, h2, h3, h4⟩ := hr
    exact ⟨fn, e, st1, d0, objs0, n0, ids, h1, (evTailO_sound _ _ _ _ _ _ _ hev hp).1 e st1 (endO_nr h3) h2, h3, h4⟩
  · cases h
theorem po_tail (ors : List Ora) (hp : P) (hr : RestOK C K b st' d) (h : tailO C (lim C) K args ors = some (b, st', P)) : (lim C).pure K args = some d := by
  refine pure_of ?_
  unfold tailO at h
  unfold runPure
  split at h
  · cases h
  · rename_i hx
    simp only [hx]
    split at h
    · rename_i fn hfn
      split at h
      · rename_i c0 hc
        obtain ⟨fn', e, st1, d0, objs0, n0, ids, h1, h2, h3, h4⟩ := po_restT ors hp hr h
        rw [hfn] at h1
        cases h1
        have hrun : runFn C (lim C) K args [] 0 = some (d0, objs0, n0) := by
          unfold runFn
          simp only [hfn, hc, h2]
          rcases endO_nr h3 with rfl | rfl <;> exact h3
        rw [hrun]
        simp only [h4]
      · cases h
    · cases h
end
end Go.VS

