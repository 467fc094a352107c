/- Nothing of a statement is proved in this text alone: it is part 4 of the proof's own tools, an evaluator of the code over deep values, its soundness, and what it makes of this seat's functions. Conditions: none beyond the statement's own. -/
import Derived.Test.YtnifoeahomkdlaaVsOFz3
set_option linter.unusedSimpArgs false
set_option linter.unusedVariables false
namespace Go.VS
open Go Go.Proofs
set_option maxHeartbeats 0
set_option linter.unusedSimpArgs false
set_option linter.unusedVariables false
structure Arr2_Int where
  x0 : Int
  x1 : Int
instance : Inhabited Arr2_Int := ⟨⟨0, 0⟩⟩
def Arr2_Int.D (x : Arr2_Int) : VS.D := .agg [I x.x0, I x.x1]
def srtA (l : List Arr2_Int) : List Arr2_Int := (srtP pairCmp (l.map fun x => (x.x0, x.x1))).map fun p => ⟨p.1, p.2⟩
theorem zv (l : List Arr2_Int) : (srtA l).length = l.length := by unfold srtA; rw [List.length_map, srtP_len pairCmp_swo, List.length_map]
theorem T_sort (o nxt : Nat) (cap : Option Nat) (l : List Arr2_Int) (hl : l.length ≤ 1099511627776) : (lim cfg).inl 97 [.lsl o 0 l.length 2 cap, .fn (.func 98) [] []] [(o, ⟨l.map Arr2_Int.D, 2, false⟩)] nxt = some (.tup [], [(o, ⟨(srtA l).map Arr2_Int.D, 2, false⟩)], nxt) :=
  inl_of (sortX_at (f := Arr2_Int.D) (g := 98) (cf := pairCmp) (to := fun x => (x.x0, x.x1)) (of := fun p => ⟨p.1, p.2⟩) (fun _ => rfl) (fun _ => rfl) o nxt cap l hl)

theorem eok_Arr2_Int_D_d : EncD Arr2_Int.D := ⟨fun _ _ => rfl, fun _ _ => rfl⟩

theorem za : EncOK 2 Arr2_Int.D := ⟨fun _ _ _ => rfl, fun _ _ => rfl, fun _ _ _ => rfl, fun _ => ⟨rfl, rfl⟩⟩

theorem eok_GS_D_Arr2_Int_D_2_d : EncD (GS.D Arr2_Int.D 2) := ⟨fun _ _ => rfl, fun _ _ => rfl⟩

theorem z7 : EncOK 1 (GS.D Arr2_Int.D 2) := ⟨fun _ _ _ => rfl, fun _ _ => rfl, fun _ _ _ => rfl, fun _ => ⟨rfl, rfl⟩⟩

theorem pow12 {i : Nat} (h : i < 12) : 2 ^ i ≤ 4096 := Nat.le_trans (Nat.pow_le_pow_right (by omega) (Nat.le_of_lt h)) (by decide)
theorem rows_get {α : Type} {v : List (GS α)} {n i : Nat} (h : ∀ r ∈ v, 0 < r.l.length ∧ r.l.length ≤ n) (hi : i < v.length) : 0 < (v.getD i default).l.length ∧ (v.getD i default).l.length ≤ n := by
  rw [List.getD_eq_getElem?_getD, List.getElem?_eq_getElem hi]
  exact h _ (List.getElem_mem hi)
theorem rows_app {α : Type} {v : List (GS α)} {x : List α} {n i : Nat} (h : ∀ r ∈ v, 0 < r.l.length ∧ r.l.length ≤ 2 ^ i) (h1 : 1 ≤ x.length ∧ x.length ≤ n) (hn : n ≤ 2 * 2 ^ i) : ∀ r ∈ v ++ [GS.some x], 0 < r.l.length ∧ r.l.length ≤ 2 ^ (i + 1) := by
  intro r hr
  rw [Nat.pow_succ]
  rcases List.mem_append.1 hr with hr | hr
  · have := h r hr; omega
  · rw [List.mem_singleton.1 hr]; rw [GS.some_l]; omega

theorem rows_two {α : Type} {a x : List α} {n i : Nat} (hi : i = 0) (ha : a.length = 1) (h1 : 1 ≤ x.length ∧ x.length ≤ n) (hn : n ≤ 2) : ∀ r ∈ [GS.some a, GS.some x], 0 < r.l.length ∧ r.l.length ≤ 2 ^ (i + 1) := by
  subst hi
  intro r hr
  simp only [List.mem_cons, List.not_mem_nil, or_false] at hr
  rcases hr with rfl | rfl <;> simp only [GS.some_l, Nat.zero_add, Nat.pow_one] <;> omega

noncomputable def lp54_7 : Code := subC [1, 1, 0, 1, 0, 0, 1, 1, 0, 0, 1, 1, 0, 1, 0, 0] (bodyC Try.f54)

def sd20121 (e : S_Estate) (x3 : S_Item) (va3_0 : List (GS Arr2_Int)) (i7 : Nat) (q7_0 : GS Arr2_Int) (q7_1 : Int) (x7 : Arr2_Int) (v7_0 : List Arr2_Int) : St := ⟨56, [(30, I ((i7 + 1 : Nat) : Int)), (48, I ((i7 + 1 : Nat) : Int)), (6, .lsl 5 0 ((v7_0 ++ [(⟨w64 (x7.x0 + x3.cost), w64 (x7.x1 + (zg x3))⟩ : Arr2_Int)]).length) 2 none), (47, .lsl 5 0 ((v7_0 ++ [(⟨w64 (x7.x0 + x3.cost), w64 (x7.x1 + (zg x3))⟩ : Arr2_Int)]).length) 2 none), (46, .lsl 4 0 1 2 (some 1)), (45, .agg [I (w64 (x7.x0 + x3.cost)), I (w64 (x7.x1 + (zg x3)))]), (44, I (w64 (x7.x1 + (zg x3)))), (43, I (zg x3)), (42, .agg [I x3.now.lo, I x3.now.hi, I x3.cost, I x3.error]), (41, I x7.x1), (40, .lref 3 0 2 1), (39, I (w64 (x7.x0 + x3.cost))), (38, I x3.cost), (37, .lref 1 0 4 2), (36, I x7.x0), (35, .lref 3 0 2 0), (34, .lsl 2 0 v7_0.length 2 none), (8, .lref 3 0 2 0), (33, .agg [I x7.x0, I x7.x1]), (32, .ptr (.agg [I x7.x0, I x7.x1])), (31, B true), (3, .lsl 0 0 va3_0.length 1 none), (5, .lref 1 0 4 0), (6, .lsl 2 0 v7_0.length 2 none), (13, .sl e.items.nl (e.items.l.map S_Item.D) (zsl e.items.nl 4) none), (14, I ((e.items.l.length : Nat) : Int)), (15, I q7_1), (28, .sl q7_0.nl (q7_0.l.map Arr2_Int.D) (zsl q7_0.nl 2) none), (29, I ((q7_0.l.length : Nat) : Int)), (30, I ((i7 : Nat) : Int))], [(0, ⟨va3_0.map (GS.D Arr2_Int.D 2), 1, false⟩), (1, ⟨[.agg [I x3.now.lo, I x3.now.hi, I x3.cost, I x3.error]], 4, false⟩), (3, ⟨[.agg [I x7.x0, I x7.x1]], 2, false⟩), (4, ⟨[.agg [I (w64 (x7.x0 + x3.cost)), I (w64 (x7.x1 + (zg x3)))]], 2, false⟩), (5, ⟨(v7_0 ++ [(⟨w64 (x7.x0 + x3.cost), w64 (x7.x1 + (zg x3))⟩ : Arr2_Int)]).map Arr2_Int.D, 2, false⟩)], 6, 0⟩

inductive LR_orders_fronts_7 where
  | x0 (v7_0 : List Arr2_Int)
instance : Inhabited LR_orders_fronts_7 := ⟨.x0 default⟩
def orders_fronts_7 (x3 : S_Item) : List Arr2_Int → (List Arr2_Int) → LR_orders_fronts_7
  | [], v7_0 => .x0 v7_0
  | x7 :: rest7, v7_0 =>
    orders_fronts_7 x3 rest7 (v7_0 ++ [(⟨w64 (x7.x0 + x3.cost), w64 (x7.x1 + (zg x3))⟩ : Arr2_Int)])
def lr_orders_fronts_7 (e : S_Estate) (x3 : S_Item) (va3_0 : List (GS Arr2_Int)) (q7_0 : GS Arr2_Int) (q7_1 : Int) : LR_orders_fronts_7 → Exit × St
  | .x0 v7_0 => ((.exit 2), ⟨56, [(31, B false), (3, .lsl 0 0 va3_0.length 1 none), (5, .lref 1 0 4 0), (6, .lsl 2 0 v7_0.length 2 none), (13, .sl e.items.nl (e.items.l.map S_Item.D) (zsl e.items.nl 4) none), (14, I ((e.items.l.length : Nat) : Int)), (15, I q7_1), (28, .sl q7_0.nl (q7_0.l.map Arr2_Int.D) (zsl q7_0.nl 2) none), (29, I ((q7_0.l.length : Nat) : Int)), (30, I ((q7_0.l.length : Nat) : Int))], [(0, ⟨va3_0.map (GS.D Arr2_Int.D 2), 1, false⟩), (1, ⟨[.agg [I x3.now.lo, I x3.now.hi, I x3.cost, I x3.error]], 4, false⟩), (2, ⟨v7_0.map Arr2_Int.D, 2, false⟩)], 3, 0⟩)
def iv_orders_fronts_7 (e : S_Estate) (x3 : S_Item) (va3_0 : List (GS Arr2_Int)) (q7_0 : GS Arr2_Int) (q7_1 : Int) : LR_orders_fronts_7 → Prop
  | .x0 v7_0 => (1 ≤ v7_0.length) ∧ (v7_0.length ≤ q7_0.l.length + q7_0.l.length)
theorem lp_orders_fronts_7 (e : S_Estate) (x3 : S_Item) (va3_0 : List (GS Arr2_Int)) (q7_0 : GS Arr2_Int) (q7_1 : Int) : ∀ (rest7 : List Arr2_Int) (i7 : Nat) (v7_0 : List Arr2_Int) (hd7 : q7_0.l.drop i7 = rest7) (hi7 : i7 ≤ q7_0.l.length) (hv7 : 1 ≤ v7_0.length) (hq7 : q7_0.l.length ≤ 4096) (hg7_v7_0 : v7_0.length ≤ q7_0.l.length + i7) (hL7 : q7_0.l.length ≤ 1099511627776), (lim cfg).loop 54 lp54_7 ⟨56, [(3, .lsl 0 0 va3_0.length 1 none), (5, .lref 1 0 4 0), (6, .lsl 2 0 v7_0.length 2 none), (13, .sl e.items.nl (e.items.l.map S_Item.D) (zsl e.items.nl 4) none), (14, I ((e.items.l.length : Nat) : Int)), (15, I q7_1), (28, .sl q7_0.nl (q7_0.l.map Arr2_Int.D) (zsl q7_0.nl 2) none), (29, I ((q7_0.l.length : Nat) : Int)), (30, I ((i7 : Nat) : Int))], [(0, ⟨va3_0.map (GS.D Arr2_Int.D 2), 1, false⟩), (1, ⟨[.agg [I x3.now.lo, I x3.now.hi, I x3.cost, I x3.error]], 4, false⟩), (2, ⟨v7_0.map Arr2_Int.D, 2, false⟩)], 3, 0⟩ = some (lr_orders_fronts_7 e x3 va3_0 q7_0 q7_1 (orders_fronts_7 x3 rest7 v7_0)) := by
  intro rest7
  induction rest7 with
  | nil =>
    intro i7 v7_0 hd7 hi7 hv7 hq7 hg7_v7_0 hL7
    unfold orders_fronts_7
    obtain rfl : i7 = q7_0.l.length := nil_eq hd7 hi7
    exact zS [.dec false] (And.intro (lt_no hd7) trivial) (by kernel_rfl)
  | cons x7 rest7 ih =>
    intro i7 v7_0 hd7 hi7 hv7 hq7 hg7_v7_0 hL7
    have hlt7 := zt hd7
    unfold orders_fronts_7
    exact po_turn' (ks := [3, 5, 6, 13, 14, 15, 28, 29, 30]) (st' := (sd20121 e x3 va3_0 i7 q7_0 q7_1 x7 v7_0)) [.dec true, .el (.agg [I x7.x0, I x7.x1]), .pure (I (zg x3)), .op (some 47) ⟨.lsl 5 0 ((v7_0 ++ [(⟨w64 (x7.x0 + x3.cost), w64 (x7.x1 + (zg x3))⟩ : Arr2_Int)]).length) 2 none, [(2, none), (5, some ⟨(v7_0 ++ [(⟨w64 (x7.x0 + x3.cost), w64 (x7.x1 + (zg x3))⟩ : Arr2_Int)]).map Arr2_Int.D, 2, false⟩)], [2, 4], 6⟩, .rw 48 (I ((i7 + 1 : Nat) : Int))] (And.intro (zX (i := i7) (by have := zt hd7; omega)) (And.intro (app_row (f := Arr2_Int.D) (te := ty47) (gO := zD [(0, ⟨va3_0.map (GS.D Arr2_Int.D 2), 1, false⟩), (1, ⟨[.agg [I x3.now.lo, I x3.now.hi, I x3.cost, I x3.error]], 4, false⟩), (2, ⟨v7_0.map Arr2_Int.D, 2, false⟩), (3, ⟨[.agg [I x7.x0, I x7.x1]], 2, false⟩), (4, ⟨[.agg [I (w64 (x7.x0 + x3.cost)), I (w64 (x7.x1 + (zg x3)))]], 2, false⟩)]) (nxt := 5) (o := 2) (o2 := 4) (fz := false) za v7_0 (⟨w64 (x7.x0 + x3.cost), w64 (x7.x1 + (zg x3))⟩ : Arr2_Int) (by kernel_rfl) (by kernel_rfl) rfl (by kernel_rfl) (by decide) ⟨by simp only [ty47, big] <;> (first | assumption | omega | (with_reducible exact y5) | (with_reducible exact Nat.le_trans open_len (by omega)) | (exact rows_two hi0 rfl (zq (by simp)) (by simp)) | (exact rows_app (by assumption) (zq (by omega)) (by omega)) | (simp only [zr] at * <;> omega) | (simp only [zo, zi, zj, zf, zn, zv, GS.some_l, List.length_set, List.length_append, List.length_cons, List.length_nil] at * <;> first | with_reducible assumption | omega) | (simp only [zo, zi, zj, zf, zn, zv, GS.some_l, List.length_set, List.length_append, List.length_cons, List.length_nil, zr] at * <;> first | with_reducible assumption | omega) | (simp at * <;> omega)), by simp only [big] <;> (first | assumption | omega | (with_reducible exact y5) | (with_reducible exact Nat.le_trans open_len (by omega)) | (exact rows_two hi0 rfl (zq (by simp)) (by simp)) | (exact rows_app (by assumption) (zq (by omega)) (by omega)) | (simp only [zr] at * <;> omega) | (simp only [zo, zi, zj, zf, zn, zv, GS.some_l, List.length_set, List.length_append, List.length_cons, List.length_nil] at * <;> first | with_reducible assumption | omega) | (simp only [zo, zi, zj, zf, zn, zv, GS.some_l, List.length_set, List.length_append, List.length_cons, List.length_nil, zr] at * <;> first | with_reducible assumption | omega) | (simp at * <;> omega))⟩) (And.intro (T_orders_gain x3) (And.intro (el_at (s := q7_0) (f := Arr2_Int.D) (k := 2) hd7) (And.intro (lt_at hd7) trivial))))) (by kernel_rfl) (by (simp only [sd20121, go_sem, List.length_set, Nat.reduceAdd, Nat.reduceEqDiff, Nat.reduceLT, Nat.reduceLeDiff, bI2, za.idsL, za.renL, za.snapAll, z7.idsL, z7.renL, z7.snapAll, zl.idsL, zl.renL, zl.snapAll, z8.idsL, z8.renL, z8.snapAll]) <;> rfl) (ih (i7 + 1) (v7_0 ++ [(⟨w64 (x7.x0 + x3.cost), w64 (x7.x1 + (zg x3))⟩ : Arr2_Int)]) (zA hd7) (zt hd7) (by simp only [List.length_append, List.length_cons, List.length_nil] at * <;> omega) (by omega) (by simp only [List.length_append, List.length_cons, List.length_nil] at * <;> omega) (by omega)) (by kernel_rfl)
theorem ivt_orders_fronts_7 (e : S_Estate) (x3 : S_Item) (va3_0 : List (GS Arr2_Int)) (q7_0 : GS Arr2_Int) (q7_1 : Int) : ∀ (rest7 : List Arr2_Int) (i7 : Nat) (v7_0 : List Arr2_Int) (hd7 : q7_0.l.drop i7 = rest7) (hi7 : i7 ≤ q7_0.l.length) (hv7 : 1 ≤ v7_0.length) (hq7 : q7_0.l.length ≤ 4096) (hg7_v7_0 : v7_0.length ≤ q7_0.l.length + i7) (hL7 : q7_0.l.length ≤ 1099511627776), iv_orders_fronts_7 e x3 va3_0 q7_0 q7_1 (orders_fronts_7 x3 rest7 v7_0) := by
  intro rest7
  induction rest7 with
  | nil =>
    intro i7 v7_0 hd7 hi7 hv7 hq7 hg7_v7_0 hL7
    unfold orders_fronts_7
    obtain rfl : i7 = q7_0.l.length := nil_eq hd7 hi7
    exact ⟨hv7, hg7_v7_0⟩
  | cons x7 rest7 ih =>
    intro i7 v7_0 hd7 hi7 hv7 hq7 hg7_v7_0 hL7
    have hlt7 := zt hd7
    unfold orders_fronts_7
    exact ih (i7 + 1) (v7_0 ++ [(⟨w64 (x7.x0 + x3.cost), w64 (x7.x1 + (zg x3))⟩ : Arr2_Int)]) (zA hd7) (zt hd7) (by simp only [List.length_append, List.length_cons, List.length_nil] at * <;> omega) (by omega) (by simp only [List.length_append, List.length_cons, List.length_nil] at * <;> omega) (by omega)

noncomputable def lp70_4 : Code := subC [1, 1, 1, 0, 1, 0, 0] (bodyC Try.f70)

def sd20115 (l : List Arr2_Int) (i4 : Nat) (q4_0 : List Arr2_Int) (x4 : Arr2_Int) (va4_0 : List Arr2_Int) : St := ⟨36, [(11, I ((i4 + 1 : Nat) : Int)), (34, I ((i4 + 1 : Nat) : Int)), (3, .lsl 6 0 ((va4_0 ++ [x4]).length) 2 none), (33, .lsl 6 0 ((va4_0 ++ [x4]).length) 2 none), (32, .lsl 5 0 1 2 (some 1)), (31, .agg [I x4.x0, I x4.x1]), (30, .lsl 3 0 va4_0.length 2 none), (29, B true), (28, .tup []), (27, .tup []), (26, .tup []), (25, .tup []), (24, .tup []), (23, .tup []), (22, .tup []), (21, .tup []), (20, .tup []), (19, B true), (18, B true), (17, I ((va4_0.length : Nat) : Int)), (6, I ((va4_0.length : Nat) : Int)), (16, I ((va4_0.length : Nat) : Int)), (15, .lsl 3 0 va4_0.length 2 none), (5, .lref 4 0 2 0), (14, .agg [I x4.x0, I x4.x1]), (13, .lref 2 i4 2 0), (12, B true), (3, .lsl 3 0 va4_0.length 2 none), (9, .lsl 2 0 l.length 2 none), (10, I ((l.length : Nat) : Int)), (11, I ((i4 : Nat) : Int))], [(2, ⟨q4_0.map Arr2_Int.D, 2, false⟩), (4, ⟨[.agg [I x4.x0, I x4.x1]], 2, false⟩), (5, ⟨[.agg [I x4.x0, I x4.x1]], 2, false⟩), (6, ⟨(va4_0 ++ [x4]).map Arr2_Int.D, 2, false⟩)], 7, 3⟩

def sd20116 (l : List Arr2_Int) (i4 : Nat) (q4_0 : List Arr2_Int) (x4 : Arr2_Int) (va4_0 : List Arr2_Int) : St := ⟨36, [(11, I ((i4 + 1 : Nat) : Int)), (34, I ((i4 + 1 : Nat) : Int)), (3, .lsl 6 0 ((va4_0 ++ [x4]).length) 2 none), (33, .lsl 6 0 ((va4_0 ++ [x4]).length) 2 none), (32, .lsl 5 0 1 2 (some 1)), (31, .agg [I x4.x0, I x4.x1]), (30, .lsl 3 0 va4_0.length 2 none), (29, B true), (28, B true), (27, I ((va4_0.getD ((w64 (((va4_0.length : Nat) : Int) - 1)).toNat) default).x1)), (26, .lref 3 ((w64 (((va4_0.length : Nat) : Int) - 1)).toNat) 2 1), (25, .lref 3 ((w64 (((va4_0.length : Nat) : Int) - 1)).toNat) 2 0), (24, I (w64 (((va4_0.length : Nat) : Int) - 1))), (23, I ((va4_0.length : Nat) : Int)), (22, .lsl 3 0 va4_0.length 2 none), (21, I x4.x1), (20, .lref 4 0 2 1), (19, B false), (18, B false), (17, I ((va4_0.length : Nat) : Int)), (6, I ((va4_0.length : Nat) : Int)), (16, I ((va4_0.length : Nat) : Int)), (15, .lsl 3 0 va4_0.length 2 none), (5, .lref 4 0 2 0), (14, .agg [I x4.x0, I x4.x1]), (13, .lref 2 i4 2 0), (12, B true), (3, .lsl 3 0 va4_0.length 2 none), (9, .lsl 2 0 l.length 2 none), (10, I ((l.length : Nat) : Int)), (11, I ((i4 : Nat) : Int))], [(2, ⟨q4_0.map Arr2_Int.D, 2, false⟩), (4, ⟨[.agg [I x4.x0, I x4.x1]], 2, false⟩), (5, ⟨[.agg [I x4.x0, I x4.x1]], 2, false⟩), (6, ⟨(va4_0 ++ [x4]).map Arr2_Int.D, 2, false⟩)], 7, 3⟩

def sd20117 (l : List Arr2_Int) (i4 : Nat) (q4_0 : List Arr2_Int) (x4 : Arr2_Int) (va4_0 : List Arr2_Int) : St := ⟨36, [(11, I ((i4 + 1 : Nat) : Int)), (34, I ((i4 + 1 : Nat) : Int)), (29, B false), (28, B false), (27, I ((va4_0.getD ((w64 (((va4_0.length : Nat) : Int) - 1)).toNat) default).x1)), (26, .lref 3 ((w64 (((va4_0.length : Nat) : Int) - 1)).toNat) 2 1), (25, .lref 3 ((w64 (((va4_0.length : Nat) : Int) - 1)).toNat) 2 0), (24, I (w64 (((va4_0.length : Nat) : Int) - 1))), (23, I ((va4_0.length : Nat) : Int)), (22, .lsl 3 0 va4_0.length 2 none), (21, I x4.x1), (20, .lref 4 0 2 1), (19, B false), (18, B false), (17, I ((va4_0.length : Nat) : Int)), (6, I ((va4_0.length : Nat) : Int)), (16, I ((va4_0.length : Nat) : Int)), (15, .lsl 3 0 va4_0.length 2 none), (5, .lref 4 0 2 0), (14, .agg [I x4.x0, I x4.x1]), (13, .lref 2 i4 2 0), (12, B true), (3, .lsl 3 0 va4_0.length 2 none), (9, .lsl 2 0 l.length 2 none), (10, I ((l.length : Nat) : Int)), (11, I ((i4 : Nat) : Int))], [(2, ⟨q4_0.map Arr2_Int.D, 2, false⟩), (3, ⟨va4_0.map Arr2_Int.D, 2, false⟩), (4, ⟨[.agg [I x4.x0, I x4.x1]], 2, false⟩)], 5, 3⟩

def sd20118 (l : List Arr2_Int) (i4 : Nat) (q4_0 : List Arr2_Int) (x4 : Arr2_Int) : St := ⟨36, [(11, I ((i4 + 1 : Nat) : Int)), (34, I ((i4 + 1 : Nat) : Int)), (3, .lsl 5 0 1 2 none), (33, .lsl 5 0 1 2 none), (32, .lsl 4 0 1 2 (some 1)), (31, .agg [I x4.x0, I x4.x1]), (30, .sl true [] 0 none), (29, B true), (28, .tup []), (27, .tup []), (26, .tup []), (25, .tup []), (24, .tup []), (23, .tup []), (22, .tup []), (21, .tup []), (20, .tup []), (19, B true), (18, B true), (17, I 0), (6, I 0), (16, I 0), (15, .sl true [] 0 none), (5, .lref 3 0 2 0), (14, .agg [I x4.x0, I x4.x1]), (13, .lref 2 i4 2 0), (12, B true), (3, .sl true [] 0 none), (9, .lsl 2 0 l.length 2 none), (10, I ((l.length : Nat) : Int)), (11, I ((i4 : Nat) : Int))], [(2, ⟨q4_0.map Arr2_Int.D, 2, false⟩), (3, ⟨[.agg [I x4.x0, I x4.x1]], 2, false⟩), (4, ⟨[.agg [I x4.x0, I x4.x1]], 2, false⟩), (5, ⟨[.agg [I x4.x0, I x4.x1]], 2, false⟩)], 6, 3⟩

inductive LR_au70_2_3_4 where
  | x0 (va4_0 : List Arr2_Int)
  | x1
instance : Inhabited LR_au70_2_3_4 := ⟨.x0 default⟩
def au70_2_3_4a : List Arr2_Int → (List Arr2_Int) → LR_au70_2_3_4
  | [], va4_0 => .x0 va4_0
  | x4 :: rest4, va4_0 =>
    bif (((va4_0.length : Nat) : Int) == 0) then
      au70_2_3_4a rest4 (va4_0 ++ [x4])
    else
      bif decide (x4.x1 > ((va4_0.getD ((w64 (((va4_0.length : Nat) : Int) - 1)).toNat) default).x1)) then
        au70_2_3_4a rest4 (va4_0 ++ [x4])
      else
        au70_2_3_4a rest4 va4_0
def au70_2_3_4 : List Arr2_Int → LR_au70_2_3_4
  | [] => .x1
  | x4 :: rest4 =>
    au70_2_3_4a rest4 [x4]
def lr_au70_2_3_4 (l : List Arr2_Int) (q4_0 : List Arr2_Int) : LR_au70_2_3_4 → Exit × St
  | .x0 va4_0 => ((.exit 0), ⟨36, [(12, B false), (3, .lsl 3 0 va4_0.length 2 none), (9, .lsl 2 0 l.length 2 none), (10, I ((l.length : Nat) : Int)), (11, I ((q4_0.length : Nat) : Int))], [(2, ⟨q4_0.map Arr2_Int.D, 2, false⟩), (3, ⟨va4_0.map Arr2_Int.D, 2, false⟩)], 4, 3⟩)
  | .x1 => ((.exit 0), ⟨36, [(12, B false), (3, .sl true [] 0 none), (9, .lsl 2 0 l.length 2 none), (10, I ((l.length : Nat) : Int)), (11, I ((q4_0.length : Nat) : Int))], [(2, ⟨q4_0.map Arr2_Int.D, 2, false⟩)], 3, 3⟩)
def iv_au70_2_3_4 (l : List Arr2_Int) (q4_0 : List Arr2_Int) : LR_au70_2_3_4 → Prop
  | .x0 va4_0 => (1 ≤ va4_0.length) ∧ (va4_0.length ≤ q4_0.length)
  | .x1 => True
def au70_2_3_4a_l_o1 (i4 : Nat) (x4 : Arr2_Int) (va4_0 : List Arr2_Int) : List Ora := [.dec true, .op (some 13) ⟨.lref 2 i4 2 0, [], [], 4⟩, .op (some 14) ⟨.agg [I x4.x0, I x4.x1], [], [2], 4⟩, .dec false, .op (some 25) ⟨.lref 3 ((w64 (((va4_0.length : Nat) : Int) - 1)).toNat) 2 0, [], [], 5⟩, .op (some 27) ⟨I ((va4_0.getD ((w64 (((va4_0.length : Nat) : Int) - 1)).toNat) default).x1), [], [3], 5⟩]
theorem lp_au70_2_3_4a (l : List Arr2_Int) (q4_0 : List Arr2_Int) : ∀ (rest4 : List Arr2_Int) (i4 : Nat) (va4_0 : List Arr2_Int) (hd4 : q4_0.drop i4 = rest4) (hi4 : i4 ≤ q4_0.length) (hz4_va4_0 : 1 ≤ va4_0.length) (hq4 : q4_0.length = l.length) (hg4_va4_0 : va4_0.length ≤ i4) (hL4 : q4_0.length ≤ 1099511627776), (lim cfg).loop 70 lp70_4 ⟨36, [(3, .lsl 3 0 va4_0.length 2 none), (9, .lsl 2 0 l.length 2 none), (10, I ((l.length : Nat) : Int)), (11, I ((i4 : Nat) : Int))], [(2, ⟨q4_0.map Arr2_Int.D, 2, false⟩), (3, ⟨va4_0.map Arr2_Int.D, 2, false⟩)], 4, 3⟩ = some (lr_au70_2_3_4 l q4_0 (au70_2_3_4a rest4 va4_0)) := by
  intro rest4
  induction rest4 with
  | nil =>
    intro i4 va4_0 hd4 hi4 hz4_va4_0 hq4 hg4_va4_0 hL4
    unfold au70_2_3_4a
    obtain rfl : i4 = q4_0.length := nil_eq hd4 hi4
    exact zS [.dec false] (And.intro (lt_no' hd4 hq4) trivial) (by kernel_rfl)
  | cons x4 rest4 ih =>
    intro i4 va4_0 hd4 hi4 hz4_va4_0 hq4 hg4_va4_0 hL4
    have hlt4 := zt hd4
    unfold au70_2_3_4a
    have p1 := (idx_row (C := cfg) (nxt := 4) (t := 29) (ty := ty29) (te := ty47) (e := 47) (o := 2) (len := l.length) (sz := 2) (cap := none) (i := ((i4 : Nat) : Int)) (by kernel_rfl) rfl (by kernel_rfl) rfl (by omega) (by omega))
    have p2 := (load_row (C := cfg) (objs := [(2, ⟨q4_0.map Arr2_Int.D, 2, false⟩), (3, ⟨va4_0.map Arr2_Int.D, 2, false⟩)]) (nxt := 4) (t := 47) (ty := ty47) (o := 2) (n := i4) (sz := 2) (sub := 0) (ob := ⟨q4_0.map Arr2_Int.D, 2, false⟩) (e := Arr2_Int.D x4) (d := .agg [I x4.x0, I x4.x1]) (by kernel_rfl) (by kernel_rfl) rfl (row_at (f := Arr2_Int.D) hd4) (by kernel_rfl))
    cases h3 : (((va4_0.length : Nat) : Int) == 0) with
    | true =>
      have g3 := eq_of_beq h3
      exact po_turn' (ks := [3, 9, 10, 11]) (st' := (sd20115 l i4 q4_0 x4 va4_0)) [.dec true, .op (some 13) ⟨.lref 2 i4 2 0, [], [], 4⟩, .op (some 14) ⟨.agg [I x4.x0, I x4.x1], [], [2], 4⟩, .dec true, .op (some 33) ⟨.lsl 6 0 ((va4_0 ++ [x4]).length) 2 none, [(3, none), (6, some ⟨(va4_0 ++ [x4]).map Arr2_Int.D, 2, false⟩)], [3, 5], 7⟩, .rw 34 (I ((i4 + 1 : Nat) : Int))] (And.intro (zX (i := i4) (by have := zt hd4; omega)) (And.intro (app_row (f := Arr2_Int.D) (te := ty47) (gO := zD [(2, ⟨q4_0.map Arr2_Int.D, 2, false⟩), (3, ⟨va4_0.map Arr2_Int.D, 2, false⟩), (4, ⟨[.agg [I x4.x0, I x4.x1]], 2, false⟩), (5, ⟨[.agg [I x4.x0, I x4.x1]], 2, false⟩)]) (nxt := 6) (o := 3) (o2 := 5) (fz := false) za va4_0 x4 (by kernel_rfl) (by kernel_rfl) rfl (by kernel_rfl) (by decide) ⟨by simp only [ty47, big] <;> (first | assumption | omega | (with_reducible exact y5) | (with_reducible exact Nat.le_trans open_len (by omega)) | (exact rows_two hi0 rfl (zq (by simp)) (by simp)) | (exact rows_app (by assumption) (zq (by omega)) (by omega)) | (simp only [zr] at * <;> omega) | (simp only [zo, zi, zj, zf, zn, zv, GS.some_l, List.length_set, List.length_append, List.length_cons, List.length_nil] at * <;> first | with_reducible assumption | omega) | (simp only [zo, zi, zj, zf, zn, zv, GS.some_l, List.length_set, List.length_append, List.length_cons, List.length_nil, zr] at * <;> first | with_reducible assumption | omega) | (simp at * <;> omega)), by simp only [big] <;> (first | assumption | omega | (with_reducible exact y5) | (with_reducible exact Nat.le_trans open_len (by omega)) | (exact rows_two hi0 rfl (zq (by simp)) (by simp)) | (exact rows_app (by assumption) (zq (by omega)) (by omega)) | (simp only [zr] at * <;> omega) | (simp only [zo, zi, zj, zf, zn, zv, GS.some_l, List.length_set, List.length_append, List.length_cons, List.length_nil] at * <;> first | with_reducible assumption | omega) | (simp only [zo, zi, zj, zf, zn, zv, GS.some_l, List.length_set, List.length_append, List.length_cons, List.length_nil, zr] at * <;> first | with_reducible assumption | omega) | (simp at * <;> omega))⟩) (And.intro h3 (And.intro p2 (And.intro p1 (And.intro (lt_at' hd4 hq4) trivial)))))) (by kernel_rfl) (by (simp only [sd20115, go_sem, List.length_set, Nat.reduceAdd, Nat.reduceEqDiff, Nat.reduceLT, Nat.reduceLeDiff, bI2, za.idsL, za.renL, za.snapAll, z7.idsL, z7.renL, z7.snapAll, zl.idsL, zl.renL, zl.snapAll, z8.idsL, z8.renL, z8.snapAll]) <;> rfl) (ih (i4 + 1) (va4_0 ++ [x4]) (zA hd4) (zt hd4) (by omega) (by omega) (by omega) (by omega)) (by kernel_rfl)
    | false =>
      have g3 := ne_of_beq_false h3
      have p3 := (idx_row (C := cfg) (nxt := 5) (t := 29) (ty := ty29) (te := ty47) (e := 47) (o := 3) (len := va4_0.length) (sz := 2) (cap := none) (i := w64 (((va4_0.length : Nat) : Int) - 1)) (by kernel_rfl) rfl (by kernel_rfl) rfl (by simp only [zr] at * <;> omega) (by simp only [zr] at * <;> omega))
      have p4 := (load_row (C := cfg) (objs := [(2, ⟨q4_0.map Arr2_Int.D, 2, false⟩), (3, ⟨va4_0.map Arr2_Int.D, 2, false⟩), (4, ⟨[.agg [I x4.x0, I x4.x1]], 2, false⟩)]) (nxt := 5) (t := 3) (ty := ty3) (o := 3) (n := (w64 (((va4_0.length : Nat) : Int) - 1)).toNat) (sz := 2) (sub := 1) (ob := ⟨va4_0.map Arr2_Int.D, 2, false⟩) (e := Arr2_Int.D (va4_0.getD ((w64 (((va4_0.length : Nat) : Int) - 1)).toNat) default)) (d := I ((va4_0.getD ((w64 (((va4_0.length : Nat) : Int) - 1)).toNat) default).x1)) (by kernel_rfl) (by kernel_rfl) rfl (row_get (f := Arr2_Int.D) (by simp only [zr] at * <;> omega)) (by kernel_rfl))
      cases h4 : decide (x4.x1 > ((va4_0.getD ((w64 (((va4_0.length : Nat) : Int) - 1)).toNat) default).x1)) with
      | true =>
        have g4 := of_decide_eq_true h4
        exact po_turn' (ks := [3, 9, 10, 11]) (st' := (sd20116 l i4 q4_0 x4 va4_0)) ((au70_2_3_4a_l_o1 i4 x4 va4_0) ++ [.dec true, .op (some 33) ⟨.lsl 6 0 ((va4_0 ++ [x4]).length) 2 none, [(3, none), (6, some ⟨(va4_0 ++ [x4]).map Arr2_Int.D, 2, false⟩)], [3, 5], 7⟩, .rw 34 (I ((i4 + 1 : Nat) : Int))]) (And.intro (zX (i := i4) (by have := zt hd4; omega)) (And.intro (app_row (f := Arr2_Int.D) (te := ty47) (gO := zD [(2, ⟨q4_0.map Arr2_Int.D, 2, false⟩), (3, ⟨va4_0.map Arr2_Int.D, 2, false⟩), (4, ⟨[.agg [I x4.x0, I x4.x1]], 2, false⟩), (5, ⟨[.agg [I x4.x0, I x4.x1]], 2, false⟩)]) (nxt := 6) (o := 3) (o2 := 5) (fz := false) za va4_0 x4 (by kernel_rfl) (by kernel_rfl) rfl (by kernel_rfl) (by decide) ⟨by simp only [ty47, big] <;> (first | assumption | omega | (with_reducible exact y5) | (with_reducible exact Nat.le_trans open_len (by omega)) | (exact rows_two hi0 rfl (zq (by simp)) (by simp)) | (exact rows_app (by assumption) (zq (by omega)) (by omega)) | (simp only [zr] at * <;> omega) | (simp only [zo, zi, zj, zf, zn, zv, GS.some_l, List.length_set, List.length_append, List.length_cons, List.length_nil] at * <;> first | with_reducible assumption | omega) | (simp only [zo, zi, zj, zf, zn, zv, GS.some_l, List.length_set, List.length_append, List.length_cons, List.length_nil, zr] at * <;> first | with_reducible assumption | omega) | (simp at * <;> omega)), by simp only [big] <;> (first | assumption | omega | (with_reducible exact y5) | (with_reducible exact Nat.le_trans open_len (by omega)) | (exact rows_two hi0 rfl (zq (by simp)) (by simp)) | (exact rows_app (by assumption) (zq (by omega)) (by omega)) | (simp only [zr] at * <;> omega) | (simp only [zo, zi, zj, zf, zn, zv, GS.some_l, List.length_set, List.length_append, List.length_cons, List.length_nil] at * <;> first | with_reducible assumption | omega) | (simp only [zo, zi, zj, zf, zn, zv, GS.some_l, List.length_set, List.length_append, List.length_cons, List.length_nil, zr] at * <;> first | with_reducible assumption | omega) | (simp at * <;> omega))⟩) (And.intro h4 (And.intro p4 (And.intro p3 (And.intro h3 (And.intro p2 (And.intro p1 (And.intro (lt_at' hd4 hq4) trivial))))))))) (by kernel_rfl) (by (simp only [sd20116, go_sem, List.length_set, Nat.reduceAdd, Nat.reduceEqDiff, Nat.reduceLT, Nat.reduceLeDiff, bI2, za.idsL, za.renL, za.snapAll, z7.idsL, z7.renL, z7.snapAll, zl.idsL, zl.renL, zl.snapAll, z8.idsL, z8.renL, z8.snapAll]) <;> rfl) (ih (i4 + 1) (va4_0 ++ [x4]) (zA hd4) (zt hd4) (by simp only [List.length_append, List.length_cons, List.length_nil] at * <;> omega) (by omega) (by simp only [List.length_append, List.length_cons, List.length_nil] at * <;> omega) (by omega)) (by kernel_rfl)
      | false =>
        have g4 := of_decide_eq_false h4
        exact po_turn' (ks := [3, 9, 10, 11]) (st' := (sd20117 l i4 q4_0 x4 va4_0)) ((au70_2_3_4a_l_o1 i4 x4 va4_0) ++ [.dec false, .rw 34 (I ((i4 + 1 : Nat) : Int))]) (And.intro (zX (i := i4) (by have := zt hd4; omega)) (And.intro h4 (And.intro p4 (And.intro p3 (And.intro h3 (And.intro p2 (And.intro p1 (And.intro (lt_at' hd4 hq4) trivial)))))))) (by kernel_rfl) (by (simp only [sd20117, go_sem, List.length_set, Nat.reduceAdd, Nat.reduceEqDiff, Nat.reduceLT, Nat.reduceLeDiff, bI2, za.idsL, za.renL, za.snapAll, z7.idsL, z7.renL, z7.snapAll, zl.idsL, zl.renL, zl.snapAll, z8.idsL, z8.renL, z8.snapAll]) <;> rfl) (ih (i4 + 1) va4_0 (zA hd4) (zt hd4) (by omega) (by omega) (by omega) (by omega)) (by kernel_rfl)
theorem ivt_au70_2_3_4a (l : List Arr2_Int) (q4_0 : List Arr2_Int) : ∀ (rest4 : List Arr2_Int) (i4 : Nat) (va4_0 : List Arr2_Int) (hd4 : q4_0.drop i4 = rest4) (hi4 : i4 ≤ q4_0.length) (hz4_va4_0 : 1 ≤ va4_0.length) (hq4 : q4_0.length = l.length) (hg4_va4_0 : va4_0.length ≤ i4) (hL4 : q4_0.length ≤ 1099511627776), iv_au70_2_3_4 l q4_0 (au70_2_3_4a rest4 va4_0) := by
  intro rest4
  induction rest4 with
  | nil =>
    intro i4 va4_0 hd4 hi4 hz4_va4_0 hq4 hg4_va4_0 hL4
    unfold au70_2_3_4a
    obtain rfl : i4 = q4_0.length := nil_eq hd4 hi4
    exact ⟨hz4_va4_0, hg4_va4_0⟩
  | cons x4 rest4 ih =>
    intro i4 va4_0 hd4 hi4 hz4_va4_0 hq4 hg4_va4_0 hL4
    have hlt4 := zt hd4
    unfold au70_2_3_4a
    cases h3 : (((va4_0.length : Nat) : Int) == 0) with
    | true =>
      have g3 := eq_of_beq h3
      exact ih (i4 + 1) (va4_0 ++ [x4]) (zA hd4) (zt hd4) (by omega) (by omega) (by omega) (by omega)
    | false =>
      have g3 := ne_of_beq_false h3
      cases h4 : decide (x4.x1 > ((va4_0.getD ((w64 (((va4_0.length : Nat) : Int) - 1)).toNat) default).x1)) with
      | true =>
        have g4 := of_decide_eq_true h4
        exact ih (i4 + 1) (va4_0 ++ [x4]) (zA hd4) (zt hd4) (by simp only [List.length_append, List.length_cons, List.length_nil] at * <;> omega) (by omega) (by simp only [List.length_append, List.length_cons, List.length_nil] at * <;> omega) (by omega)
      | false =>
        have g4 := of_decide_eq_false h4
        exact ih (i4 + 1) va4_0 (zA hd4) (zt hd4) (by omega) (by omega) (by omega) (by omega)
theorem lp_au70_2_3_4 (l : List Arr2_Int) (q4_0 : List Arr2_Int) : ∀ (rest4 : List Arr2_Int) (i4 : Nat) (hd4 : q4_0.drop i4 = rest4) (hi4 : i4 ≤ q4_0.length) (hq4 : q4_0.length = l.length) (hL4 : q4_0.length ≤ 1099511627776), (lim cfg).loop 70 lp70_4 ⟨36, [(3, .sl true [] 0 none), (9, .lsl 2 0 l.length 2 none), (10, I ((l.length : Nat) : Int)), (11, I ((i4 : Nat) : Int))], [(2, ⟨q4_0.map Arr2_Int.D, 2, false⟩)], 3, 3⟩ = some (lr_au70_2_3_4 l q4_0 (au70_2_3_4 rest4)) := by
  intro rest4
  induction rest4 with
  | nil =>
    intro i4 hd4 hi4 hq4 hL4
    unfold au70_2_3_4
    obtain rfl : i4 = q4_0.length := nil_eq hd4 hi4
    exact zS [.dec false] (And.intro (lt_no' hd4 hq4) trivial) (by kernel_rfl)
  | cons x4 rest4 ih =>
    intro i4 hd4 hi4 hq4 hL4
    have hlt4 := zt hd4
    unfold au70_2_3_4
    dsimp only
    exact po_turn' (ks := [3, 9, 10, 11]) (st' := (sd20118 l i4 q4_0 x4)) [.dec true, .op (some 13) ⟨.lref 2 i4 2 0, [], [], 3⟩, .op (some 14) ⟨.agg [I x4.x0, I x4.x1], [], [2], 3⟩, .dec true, .rw 34 (I ((i4 + 1 : Nat) : Int))] (And.intro (zX (i := i4) (by have := zt hd4; omega)) (And.intro (Eq.refl true) (And.intro (load_row (C := cfg) (objs := [(2, ⟨q4_0.map Arr2_Int.D, 2, false⟩)]) (nxt := 3) (t := 47) (ty := ty47) (o := 2) (n := i4) (sz := 2) (sub := 0) (ob := ⟨q4_0.map Arr2_Int.D, 2, false⟩) (e := Arr2_Int.D x4) (d := .agg [I x4.x0, I x4.x1]) (by kernel_rfl) (by kernel_rfl) rfl (row_at (f := Arr2_Int.D) hd4) (by kernel_rfl)) (And.intro (idx_row (C := cfg) (nxt := 3) (t := 29) (ty := ty29) (te := ty47) (e := 47) (o := 2) (len := l.length) (sz := 2) (cap := none) (i := ((i4 : Nat) : Int)) (by kernel_rfl) rfl (by kernel_rfl) rfl (by omega) (by omega)) (And.intro (lt_at' hd4 hq4) trivial))))) (by kernel_rfl) (by (simp only [sd20118, go_sem, List.length_set, Nat.reduceAdd, Nat.reduceEqDiff, Nat.reduceLT, Nat.reduceLeDiff, bI2, za.idsL, za.renL, za.snapAll, z7.idsL, z7.renL, z7.snapAll, zl.idsL, zl.renL, zl.snapAll, z8.idsL, z8.renL, z8.snapAll]) <;> rfl) (lp_au70_2_3_4a l q4_0 _ (i4 + 1) [x4] (zA hd4) (zt hd4) (by simp only [List.length_append, List.length_cons, List.length_nil] at * <;> omega) (by omega) (by simp only [List.length_append, List.length_cons, List.length_nil] at * <;> omega) (by omega)) (by kernel_rfl)
theorem ivt_au70_2_3_4 (l : List Arr2_Int) (q4_0 : List Arr2_Int) : ∀ (rest4 : List Arr2_Int) (i4 : Nat) (hd4 : q4_0.drop i4 = rest4) (hi4 : i4 ≤ q4_0.length) (hq4 : q4_0.length = l.length) (hL4 : q4_0.length ≤ 1099511627776), iv_au70_2_3_4 l q4_0 (au70_2_3_4 rest4) := by
  intro rest4
  induction rest4 with
  | nil =>
    intro i4 hd4 hi4 hq4 hL4
    unfold au70_2_3_4
    obtain rfl : i4 = q4_0.length := nil_eq hd4 hi4
    exact trivial
  | cons x4 rest4 ih =>
    intro i4 hd4 hi4 hq4 hL4
    have hlt4 := zt hd4
    unfold au70_2_3_4
    dsimp only
    exact ivt_au70_2_3_4a l q4_0 _ (i4 + 1) [x4] (zA hd4) (zt hd4) (by simp only [List.length_append, List.length_cons, List.length_nil] at * <;> omega) (by omega) (by simp only [List.length_append, List.length_cons, List.length_nil] at * <;> omega) (by omega)

theorem au70_2_3_4a_len : ∀ (l v : List Arr2_Int), ∃ w, au70_2_3_4a l v = .x0 w ∧ v.length ≤ w.length ∧ w.length ≤ v.length + l.length
  | [], v => ⟨v, rfl, Nat.le_refl _, Nat.le_refl _⟩
  | x :: l, v => by
    obtain ⟨w, h1, h2, h3⟩ := au70_2_3_4a_len l (v ++ [x])
    obtain ⟨w', h1', h2', h3'⟩ := au70_2_3_4a_len l v
    simp only [List.length_append, List.length_cons, List.length_nil] at h2 h3 h2' h3' ⊢
    unfold au70_2_3_4a
    rw [Bool.cond_eq_ite, Bool.cond_eq_ite]
    split
    · exact ⟨w, h1, by omega, by omega⟩
    · split
      · exact ⟨w, h1, by omega, by omega⟩
      · exact ⟨w', h1', by omega, by omega⟩
theorem au70_2_3_4_len {l : List Arr2_Int} (h : 1 ≤ l.length) : ∃ w, au70_2_3_4 l = .x0 w ∧ 1 ≤ w.length ∧ w.length ≤ l.length := by
  cases l with
  | nil => simp at h
  | cons x l =>
    obtain ⟨w, h1, h2, h3⟩ := au70_2_3_4a_len l [x]
    refine ⟨w, h1, ?_, ?_⟩ <;> simp at * <;> omega
theorem au70_2_3_4_ne {l : List Arr2_Int} (h : 1 ≤ l.length) : au70_2_3_4 l ≠ .x1 := by
  obtain ⟨w, h1, _⟩ := au70_2_3_4_len h
  rw [h1]; exact fun h => by cases h

def y9 (l : List Arr2_Int) : List Arr2_Int :=
  match au70_2_3_4 (srtA l) with
  | .x0 va4_0 =>
    va4_0
  | .x1 =>
    default

def sd20120 (l : List Arr2_Int) (va4_0 : List Arr2_Int) : St := ⟨36, [(12, B false), (3, .lsl 3 0 va4_0.length 2 none), (9, .lsl 2 0 l.length 2 none), (10, I ((l.length : Nat) : Int)), (11, I (((srtA l).length : Nat) : Int))], [(2, ⟨(srtA l).map Arr2_Int.D, 2, false⟩), (3, ⟨va4_0.map Arr2_Int.D, 2, false⟩)], 4, 3⟩

def sd20119 (l : List Arr2_Int) : St := ⟨36, [(11, I 0), (10, I ((l.length : Nat) : Int)), (9, .lsl 2 0 l.length 2 none), (3, .sl true [] 0 none), (8, .tup []), (7, .lsl 2 0 l.length 2 none), (2, .sl true [] 0 none), (0, .lsl 2 0 l.length 2 none)], [(2, ⟨(srtA l).map Arr2_Int.D, 2, false⟩)], 3, 3⟩

theorem I_au70_2_3 (l : List Arr2_Int) (hl : 1 ≤ l.length) (hl2 : l.length ≤ 1099511627776) : (lim cfg).inl 70 [.lsl 2 0 l.length 2 none] [(2, ⟨l.map Arr2_Int.D, 2, false⟩)] 3 = some (.lsl 3 0 ((y9 l).length) 2 none, [(2, ⟨(srtA l).map Arr2_Int.D, 2, false⟩), (3, ⟨(y9 l).map Arr2_Int.D, 2, false⟩)], 4) := by
  unfold y9
  cases h5 : au70_2_3_4 (srtA l) with
  | x0 va4_0 =>
    try dsimp only
    have hv_h5 := ivt_au70_2_3_4 l (srtA l) (srtA l) 0 (List.drop_zero) (Nat.zero_le _) (by simp only [zo, zi, zj, zf, zn, zv, GS.some_l, List.length_set, List.length_append, List.length_cons, List.length_nil] at * <;> first | with_reducible assumption | omega) (by simp only [zo, zi, zj, zf, zn, zv, GS.some_l, List.length_set, List.length_append, List.length_cons, List.length_nil] at * <;> first | with_reducible assumption | omega)
    rw [h5] at hv_h5
    obtain ⟨hv_h5_0, hv_h5_1⟩ := hv_h5
    try dsimp only [iv_au70_2_3_4] at hv_h5_0
    try dsimp only [iv_au70_2_3_4] at hv_h5_1
    exact po_inl [.inlS [2] (.tup []) [(2, ⟨(srtA l).map Arr2_Int.D, 2, false⟩)] 3, .gloop ⟨36, [(3, .sl true [] 0 none), (9, .lsl 2 0 l.length 2 none), (10, I ((l.length : Nat) : Int)), (11, I 0)], [(2, ⟨(srtA l).map Arr2_Int.D, 2, false⟩)], 3, 3⟩ (.exit 0) (sd20120 l va4_0)] (And.intro (po_lr (q := lr_au70_2_3_4 l (srtA l)) (lp_au70_2_3_4 l (srtA l) (srtA l) 0 (List.drop_zero) (Nat.zero_le _) (by simp only [zo, zi, zj, zf, zn, zv, GS.some_l, List.length_set, List.length_append, List.length_cons, List.length_nil] at * <;> first | with_reducible assumption | omega) (by simp only [zo, zi, zj, zf, zn, zv, GS.some_l, List.length_set, List.length_append, List.length_cons, List.length_nil] at * <;> first | with_reducible assumption | omega)) h5) (And.intro (gc_of (C := cfg) (f := 70) (a := lp70_4) (ks := [3, 9, 10, 11]) (st := (sd20119 l)) (st1 := ⟨36, [(3, .sl true [] 0 none), (9, .lsl 2 0 l.length 2 none), (10, I ((l.length : Nat) : Int)), (11, I 0)], [(2, ⟨(srtA l).map Arr2_Int.D, 2, false⟩)], 3, 3⟩) (by kernel_rfl) (by (simp only [sd20119, go_sem, List.length_set, Nat.reduceAdd, Nat.reduceEqDiff, Nat.reduceLT, Nat.reduceLeDiff, bI2, za.idsL, za.renL, za.snapAll, z7.idsL, z7.renL, z7.snapAll, zl.idsL, zl.renL, zl.snapAll, z8.idsL, z8.renL, z8.snapAll]) <;> rfl)) (And.intro (And.intro (show liveFrom [(2, ⟨l.map Arr2_Int.D, 2, false⟩)] 256 [2] [] = some [2] from (by (simp only [liveFrom, go_sem, List.length_set, Nat.reduceAdd, Nat.reduceEqDiff, Nat.reduceLT, Nat.reduceLeDiff, bI2, za.idsL, za.renL, za.snapAll, z7.idsL, z7.renL, z7.snapAll, zl.idsL, zl.renL, zl.snapAll, z8.idsL, z8.renL, z8.snapAll]) <;> rfl)) (T_sort 2 3 none l (by omega))) trivial))) (by kernel_rfl)
  | x1 =>
    exact absurd h5 (au70_2_3_4_ne (by simp only [zo, zi, zj, zf, zn, zv, GS.some_l, List.length_set, List.length_append, List.length_cons, List.length_nil] at * <;> first | with_reducible assumption | omega))
theorem zq {l : List Arr2_Int} (h : 1 ≤ l.length) : 1 ≤ (y9 l).length ∧ (y9 l).length ≤ l.length := by
  obtain ⟨w, h1, h2, h3⟩ := au70_2_3_4_len (l := srtA l) (by rw [zv]; exact h)
  rw [zv] at h3
  unfold y9
  rw [h1]
  exact ⟨h2, h3⟩

noncomputable def lp54_3 : Code := subC [1, 1, 0, 1, 0, 0] (bodyC Try.f54)

def sd20125 (e : S_Estate) (i3 : Nat) (x3 : S_Item) (va3_0 : List (GS Arr2_Int)) (v7_0 : List Arr2_Int) : St := ⟨56, [(15, I ((i3 + 1 : Nat) : Int)), (54, I ((i3 + 1 : Nat) : Int)), (3, .lsl 5 0 ((va3_0 ++ [GS.some (y9 v7_0)]).length) 1 none), (53, .lsl 5 0 ((va3_0 ++ [GS.some (y9 v7_0)]).length) 1 none), (52, .lsl 4 0 1 1 (some 1)), (51, .lsl 3 0 ((y9 v7_0).length) 2 none), (50, .lsl 2 0 v7_0.length 2 none), (49, .lsl 0 0 va3_0.length 1 none), (31, B false), (3, .lsl 0 0 va3_0.length 1 none), (5, .lref 1 0 4 0), (6, .lsl 2 0 v7_0.length 2 none), (13, .sl e.items.nl (e.items.l.map S_Item.D) (zsl e.items.nl 4) none), (14, I ((e.items.l.length : Nat) : Int)), (15, I ((i3 : Nat) : Int)), (28, .sl ((va3_0.getD i3 default).nl) (((va3_0.getD i3 default).l).map Arr2_Int.D) (zsl ((va3_0.getD i3 default).nl) 2) none), (29, I (((va3_0.getD i3 default).l.length : Nat) : Int)), (30, I (((va3_0.getD i3 default).l.length : Nat) : Int))], [(1, ⟨[.agg [I x3.now.lo, I x3.now.hi, I x3.cost, I x3.error]], 4, false⟩), (2, ⟨(srtA v7_0).map Arr2_Int.D, 2, false⟩), (3, ⟨(y9 v7_0).map Arr2_Int.D, 2, false⟩), (4, ⟨[.lsl 3 0 ((y9 v7_0).length) 2 none], 1, false⟩), (5, ⟨(va3_0.map (GS.D Arr2_Int.D 2)) ++ [.lsl 3 0 ((y9 v7_0).length) 2 none], 1, false⟩)], 6, 0⟩

def sd20123 (e : S_Estate) (i3 : Nat) (x3 : S_Item) (va3_0 : List (GS Arr2_Int)) : St := ⟨56, [(3, .lsl 0 0 va3_0.length 1 none), (5, .lref 1 0 4 0), (6, .lsl 2 0 ((va3_0.getD i3 default).l.length) 2 none), (13, .sl e.items.nl (e.items.l.map S_Item.D) (zsl e.items.nl 4) none), (14, I ((e.items.l.length : Nat) : Int)), (15, I ((i3 : Nat) : Int)), (28, .sl ((va3_0.getD i3 default).nl) (((va3_0.getD i3 default).l).map Arr2_Int.D) (zsl ((va3_0.getD i3 default).nl) 2) none), (29, I (((va3_0.getD i3 default).l.length : Nat) : Int)), (30, I 0)], [(0, ⟨va3_0.map (GS.D Arr2_Int.D 2), 1, false⟩), (1, ⟨[.agg [I x3.now.lo, I x3.now.hi, I x3.cost, I x3.error]], 4, false⟩), (2, ⟨((va3_0.getD i3 default).l).map Arr2_Int.D, 2, false⟩)], 3, 0⟩

def sd20124 (e : S_Estate) (i3 : Nat) (x3 : S_Item) (va3_0 : List (GS Arr2_Int)) (v7_0 : List Arr2_Int) : St := ⟨56, [(31, B false), (3, .lsl 0 0 va3_0.length 1 none), (5, .lref 1 0 4 0), (6, .lsl 2 0 v7_0.length 2 none), (13, .sl e.items.nl (e.items.l.map S_Item.D) (zsl e.items.nl 4) none), (14, I ((e.items.l.length : Nat) : Int)), (15, I ((i3 : Nat) : Int)), (28, .sl ((va3_0.getD i3 default).nl) (((va3_0.getD i3 default).l).map Arr2_Int.D) (zsl ((va3_0.getD i3 default).nl) 2) none), (29, I (((va3_0.getD i3 default).l.length : Nat) : Int)), (30, I (((va3_0.getD i3 default).l.length : Nat) : Int))], [(0, ⟨va3_0.map (GS.D Arr2_Int.D 2), 1, false⟩), (1, ⟨[.agg [I x3.now.lo, I x3.now.hi, I x3.cost, I x3.error]], 4, false⟩), (2, ⟨v7_0.map Arr2_Int.D, 2, false⟩)], 3, 0⟩

def sd20122 (e : S_Estate) (i3 : Nat) (x3 : S_Item) (va3_0 : List (GS Arr2_Int)) : St := ⟨56, [(30, I 0), (29, I (((va3_0.getD i3 default).l.length : Nat) : Int)), (28, .sl ((va3_0.getD i3 default).nl) (((va3_0.getD i3 default).l).map Arr2_Int.D) (zsl ((va3_0.getD i3 default).nl) 2) none), (27, .lref 0 i3 1 0), (26, I ((i3 : Nat) : Int)), (25, .lsl 0 0 va3_0.length 1 none), (6, .lsl 3 0 ((va3_0.getD i3 default).l.length) 2 none), (24, .lsl 3 0 ((va3_0.getD i3 default).l.length) 2 none), (23, .sl ((va3_0.getD i3 default).nl) (((va3_0.getD i3 default).l).map Arr2_Int.D) (zsl ((va3_0.getD i3 default).nl) 2) none), (22, .lref 0 i3 1 0), (21, I ((i3 : Nat) : Int)), (20, .lsl 0 0 va3_0.length 1 none), (4, I ((i3 : Nat) : Int)), (5, .lref 1 0 4 0), (19, .agg [I x3.now.lo, I x3.now.hi, I x3.cost, I x3.error]), (18, .ptr (.agg [I x3.now.lo, I x3.now.hi, I x3.cost, I x3.error])), (17, I ((i3 : Nat) : Int)), (16, B true), (3, .lsl 0 0 va3_0.length 1 none), (13, .sl e.items.nl (e.items.l.map S_Item.D) (zsl e.items.nl 4) none), (14, I ((e.items.l.length : Nat) : Int)), (15, I ((i3 : Nat) : Int))], [(0, ⟨va3_0.map (GS.D Arr2_Int.D 2), 1, false⟩), (1, ⟨[.agg [I x3.now.lo, I x3.now.hi, I x3.cost, I x3.error]], 4, false⟩), (2, ⟨[], 2, false⟩), (3, ⟨((va3_0.getD i3 default).l).map Arr2_Int.D, 2, false⟩)], 4, 0⟩

theorem clone86_2 (s : GS Arr2_Int) (h : s.l ≠ []) (hb : s.l.length ≤ 1073741824) : (lim cfg).inl 86 [GS.D Arr2_Int.D 2 s] [] 2 = some (.lsl 3 0 s.l.length 2 none, [(2, ⟨[], 2, false⟩), (3, ⟨s.l.map Arr2_Int.D, 2, false⟩)], 4) :=
  po_inl [.op (some 4) ⟨B false, [], [], 2⟩, .dec false, .op (some 7) ⟨.lsl 3 0 s.l.length 2 none, [(3, some ⟨s.l.map Arr2_Int.D, 2, false⟩)], [2], 4⟩]
    (And.intro (app_deep (te := ty47) (gO := zD [(2, ⟨[], 2, false⟩)]) (nxt := 3) (o := 2) (fz := false) za s h (nonnil h) (by kernel_rfl) rfl (by kernel_rfl) (by decide) ⟨by simp [ty47, big]; omega, by simp [big]; omega⟩) (And.intro (Eq.refl false) (And.intro (nil_eql (C := cfg) (t := 29) (cst := true) (sz := zsl s.nl 2) (cap := none) (els := s.l.map Arr2_Int.D) (nxt := 2) (nonnil h) (by kernel_rfl)) trivial))) (by kernel_rfl)

def sd20111 (e : S_Estate) (i3 : Nat) (x3 : S_Item) : St := ⟨56, [(3, .lsl 0 0 1 1 (some 1)), (5, .lref 1 0 4 0), (6, .lsl 2 0 (([(⟨0, 0⟩ : Arr2_Int)] ++ [(⟨w64 (0 + x3.cost), w64 (0 + (zg x3))⟩ : Arr2_Int)]).length) 2 none), (13, .sl e.items.nl (e.items.l.map S_Item.D) (zsl e.items.nl 4) none), (14, I ((e.items.l.length : Nat) : Int)), (15, I ((i3 : Nat) : Int)), (28, .sl false [.agg [I 0, I 0]] 2 none), (29, I 1), (30, I 1)], [(0, ⟨[.sl false [.agg [I 0, I 0]] 2 none], 1, false⟩), (1, ⟨[.agg [I x3.now.lo, I x3.now.hi, I x3.cost, I x3.error]], 4, false⟩), (2, ⟨([(⟨0, 0⟩ : Arr2_Int)] ++ [(⟨w64 (0 + x3.cost), w64 (0 + (zg x3))⟩ : Arr2_Int)]).map Arr2_Int.D, 2, false⟩)], 3, 0⟩

def sd20110 (e : S_Estate) (i3 : Nat) (x3 : S_Item) : St := ⟨56, [(3, .lsl 0 0 1 1 (some 1)), (5, .lref 1 0 4 0), (6, .lsl 2 0 ([(⟨0, 0⟩ : Arr2_Int)].length) 2 none), (13, .sl e.items.nl (e.items.l.map S_Item.D) (zsl e.items.nl 4) none), (14, I ((e.items.l.length : Nat) : Int)), (15, I ((i3 : Nat) : Int)), (28, .sl false [.agg [I 0, I 0]] 2 none), (29, I 1), (30, I 0)], [(0, ⟨[.sl false [.agg [I 0, I 0]] 2 none], 1, false⟩), (1, ⟨[.agg [I x3.now.lo, I x3.now.hi, I x3.cost, I x3.error]], 4, false⟩), (2, ⟨[(⟨0, 0⟩ : Arr2_Int)].map Arr2_Int.D, 2, false⟩)], 3, 0⟩

def sd20112 (e : S_Estate) (i3 : Nat) (x3 : S_Item) : St := ⟨56, [(30, I 1), (48, I 1), (6, .lsl 5 0 (([(⟨0, 0⟩ : Arr2_Int)] ++ [(⟨w64 (0 + x3.cost), w64 (0 + (zg x3))⟩ : Arr2_Int)]).length) 2 none), (47, .lsl 5 0 (([(⟨0, 0⟩ : Arr2_Int)] ++ [(⟨w64 (0 + x3.cost), w64 (0 + (zg x3))⟩ : Arr2_Int)]).length) 2 none), (46, .lsl 4 0 1 2 (some 1)), (45, .agg [I (w64 (0 + x3.cost)), I (w64 (0 + (zg x3)))]), (44, I (w64 (0 + (zg x3)))), (43, I (zg x3)), (42, .agg [I x3.now.lo, I x3.now.hi, I x3.cost, I x3.error]), (41, I 0), (40, .lref 3 0 2 1), (39, I (w64 (0 + x3.cost))), (38, I x3.cost), (37, .lref 1 0 4 2), (36, I 0), (35, .lref 3 0 2 0), (34, .lsl 2 0 ([(⟨0, 0⟩ : Arr2_Int)].length) 2 none), (8, .lref 3 0 2 0), (33, .agg [I 0, I 0]), (32, .ptr (.agg [I 0, I 0])), (31, B true), (3, .lsl 0 0 1 1 (some 1)), (5, .lref 1 0 4 0), (6, .lsl 2 0 ([(⟨0, 0⟩ : Arr2_Int)].length) 2 none), (13, .sl e.items.nl (e.items.l.map S_Item.D) (zsl e.items.nl 4) none), (14, I ((e.items.l.length : Nat) : Int)), (15, I ((i3 : Nat) : Int)), (28, .sl false [.agg [I 0, I 0]] 2 none), (29, I 1), (30, I 0)], [(0, ⟨[.sl false [.agg [I 0, I 0]] 2 none], 1, false⟩), (1, ⟨[.agg [I x3.now.lo, I x3.now.hi, I x3.cost, I x3.error]], 4, false⟩), (3, ⟨[.agg [I 0, I 0]], 2, false⟩), (4, ⟨[.agg [I (w64 (0 + x3.cost)), I (w64 (0 + (zg x3)))]], 2, false⟩), (5, ⟨([(⟨0, 0⟩ : Arr2_Int)] ++ [(⟨w64 (0 + x3.cost), w64 (0 + (zg x3))⟩ : Arr2_Int)]).map Arr2_Int.D, 2, false⟩)], 6, 0⟩

def sd20126 (e : S_Estate) (i3 : Nat) (x3 : S_Item) : St := ⟨56, [(15, I ((i3 + 1 : Nat) : Int)), (54, I ((i3 + 1 : Nat) : Int)), (3, .lsl 5 0 2 1 none), (53, .lsl 5 0 2 1 none), (52, .lsl 4 0 1 1 (some 1)), (51, .lsl 3 0 ((y9 ([(⟨0, 0⟩ : Arr2_Int)] ++ [(⟨w64 (0 + x3.cost), w64 (0 + (zg x3))⟩ : Arr2_Int)])).length) 2 none), (50, .lsl 2 0 (([(⟨0, 0⟩ : Arr2_Int)] ++ [(⟨w64 (0 + x3.cost), w64 (0 + (zg x3))⟩ : Arr2_Int)]).length) 2 none), (49, .lsl 0 0 1 1 (some 1)), (31, B false), (3, .lsl 0 0 1 1 (some 1)), (5, .lref 1 0 4 0), (6, .lsl 2 0 (([(⟨0, 0⟩ : Arr2_Int)] ++ [(⟨w64 (0 + x3.cost), w64 (0 + (zg x3))⟩ : Arr2_Int)]).length) 2 none), (13, .sl e.items.nl (e.items.l.map S_Item.D) (zsl e.items.nl 4) none), (14, I ((e.items.l.length : Nat) : Int)), (15, I ((i3 : Nat) : Int)), (28, .sl false [.agg [I 0, I 0]] 2 none), (29, I 1), (30, I 1)], [(0, ⟨[.sl false [.agg [I 0, I 0]] 2 none], 1, false⟩), (1, ⟨[.agg [I x3.now.lo, I x3.now.hi, I x3.cost, I x3.error]], 4, false⟩), (2, ⟨(srtA ([(⟨0, 0⟩ : Arr2_Int)] ++ [(⟨w64 (0 + x3.cost), w64 (0 + (zg x3))⟩ : Arr2_Int)])).map Arr2_Int.D, 2, false⟩), (3, ⟨(y9 ([(⟨0, 0⟩ : Arr2_Int)] ++ [(⟨w64 (0 + x3.cost), w64 (0 + (zg x3))⟩ : Arr2_Int)])).map Arr2_Int.D, 2, false⟩), (4, ⟨[.lsl 3 0 ((y9 ([(⟨0, 0⟩ : Arr2_Int)] ++ [(⟨w64 (0 + x3.cost), w64 (0 + (zg x3))⟩ : Arr2_Int)])).length) 2 none], 1, false⟩), (5, ⟨[.sl false [.agg [I 0, I 0]] 2 none, .lsl 3 0 ((y9 ([(⟨0, 0⟩ : Arr2_Int)] ++ [(⟨w64 (0 + x3.cost), w64 (0 + (zg x3))⟩ : Arr2_Int)])).length) 2 none], 1, false⟩)], 6, 0⟩

def sd20113 (e : S_Estate) (i3 : Nat) (x3 : S_Item) : St := ⟨56, [(31, B false), (3, .lsl 0 0 1 1 (some 1)), (5, .lref 1 0 4 0), (6, .lsl 2 0 (([(⟨0, 0⟩ : Arr2_Int)] ++ [(⟨w64 (0 + x3.cost), w64 (0 + (zg x3))⟩ : Arr2_Int)]).length) 2 none), (13, .sl e.items.nl (e.items.l.map S_Item.D) (zsl e.items.nl 4) none), (14, I ((e.items.l.length : Nat) : Int)), (15, I ((i3 : Nat) : Int)), (28, .sl false [.agg [I 0, I 0]] 2 none), (29, I 1), (30, I 1)], [(0, ⟨[.sl false [.agg [I 0, I 0]] 2 none], 1, false⟩), (1, ⟨[.agg [I x3.now.lo, I x3.now.hi, I x3.cost, I x3.error]], 4, false⟩), (2, ⟨([(⟨0, 0⟩ : Arr2_Int)] ++ [(⟨w64 (0 + x3.cost), w64 (0 + (zg x3))⟩ : Arr2_Int)]).map Arr2_Int.D, 2, false⟩)], 3, 0⟩

def sd20114 (e : S_Estate) (i3 : Nat) (x3 : S_Item) : St := ⟨56, [(30, I 0), (29, I 1), (28, .sl false [.agg [I 0, I 0]] 2 none), (27, .lref 0 0 1 0), (26, I ((i3 : Nat) : Int)), (25, .lsl 0 0 1 1 (some 1)), (6, .lsl 3 0 ([(⟨0, 0⟩ : Arr2_Int)].length) 2 none), (24, .lsl 3 0 ([(⟨0, 0⟩ : Arr2_Int)].length) 2 none), (23, .sl false [.agg [I 0, I 0]] 2 none), (22, .lref 0 0 1 0), (21, I ((i3 : Nat) : Int)), (20, .lsl 0 0 1 1 (some 1)), (4, I ((i3 : Nat) : Int)), (5, .lref 1 0 4 0), (19, .agg [I x3.now.lo, I x3.now.hi, I x3.cost, I x3.error]), (18, .ptr (.agg [I x3.now.lo, I x3.now.hi, I x3.cost, I x3.error])), (17, I ((i3 : Nat) : Int)), (16, B true), (3, .lsl 0 0 1 1 (some 1)), (13, .sl e.items.nl (e.items.l.map S_Item.D) (zsl e.items.nl 4) none), (14, I ((e.items.l.length : Nat) : Int)), (15, I ((i3 : Nat) : Int))], [(0, ⟨[.sl false [.agg [I 0, I 0]] 2 none], 1, false⟩), (1, ⟨[.agg [I x3.now.lo, I x3.now.hi, I x3.cost, I x3.error]], 4, false⟩), (2, ⟨[], 2, false⟩), (3, ⟨[(⟨0, 0⟩ : Arr2_Int)].map Arr2_Int.D, 2, false⟩)], 4, 0⟩

inductive LR_orders_fronts_3 where
  | x0 (va3_0 : List (GS Arr2_Int))
  | x1
instance : Inhabited LR_orders_fronts_3 := ⟨.x0 default⟩
def orders_fronts_3a : List S_Item → Nat → (List (GS Arr2_Int)) → LR_orders_fronts_3
  | [], i3, va3_0 => .x0 va3_0
  | x3 :: rest3, i3, va3_0 =>
    match orders_fronts_7 x3 ((va3_0.getD i3 default).l) ((va3_0.getD i3 default).l) with
    | .x0 v7_0 =>
      orders_fronts_3a rest3 (i3 + 1) (va3_0 ++ [GS.some (y9 v7_0)])
def orders_fronts_3 : List S_Item → Nat → LR_orders_fronts_3
  | [], i3 => .x1
  | x3 :: rest3, i3 =>
    orders_fronts_3a rest3 (i3 + 1) [GS.some [(⟨0, 0⟩ : Arr2_Int)], GS.some (y9 ([(⟨0, 0⟩ : Arr2_Int)] ++ [(⟨w64 (0 + x3.cost), w64 (0 + (zg x3))⟩ : Arr2_Int)]))]
def lr_orders_fronts_3 (e : S_Estate) : LR_orders_fronts_3 → Exit × St
  | .x0 va3_0 => ((.exit 0), ⟨56, [(16, B false), (3, .lsl 0 0 va3_0.length 1 none), (13, .sl e.items.nl (e.items.l.map S_Item.D) (zsl e.items.nl 4) none), (14, I ((e.items.l.length : Nat) : Int)), (15, I ((e.items.l.length : Nat) : Int))], [(0, ⟨va3_0.map (GS.D Arr2_Int.D 2), 1, false⟩)], 1, 0⟩)
  | .x1 => ((.exit 0), ⟨56, [(16, B false), (3, .lsl 0 0 1 1 (some 1)), (13, .sl e.items.nl (e.items.l.map S_Item.D) (zsl e.items.nl 4) none), (14, I ((e.items.l.length : Nat) : Int)), (15, I ((e.items.l.length : Nat) : Int))], [(0, ⟨[.sl false [.agg [I 0, I 0]] 2 none], 1, false⟩)], 1, 0⟩)
def iv_orders_fronts_3 (e : S_Estate) : LR_orders_fronts_3 → Prop
  | .x0 va3_0 => (∀ r ∈ va3_0, 0 < r.l.length ∧ r.l.length ≤ 2 ^ e.items.l.length) ∧ (va3_0.length = e.items.l.length + 1)
  | .x1 => True
theorem lp_orders_fronts_3a (e : S_Estate) : ∀ (rest3 : List S_Item) (i3 : Nat) (va3_0 : List (GS Arr2_Int)) (hd3 : e.items.l.drop i3 = rest3) (hi3 : i3 ≤ e.items.l.length) (hr : ∀ r ∈ va3_0, 0 < r.l.length ∧ r.l.length ≤ 2 ^ i3) (hn : va3_0.length = i3 + 1) (hle : e.items.l.length ≤ 12) (hL3 : e.items.l.length ≤ 9223372036854775807), (lim cfg).loop 54 lp54_3 ⟨56, [(3, .lsl 0 0 va3_0.length 1 none), (13, .sl e.items.nl (e.items.l.map S_Item.D) (zsl e.items.nl 4) none), (14, I ((e.items.l.length : Nat) : Int)), (15, I ((i3 : Nat) : Int))], [(0, ⟨va3_0.map (GS.D Arr2_Int.D 2), 1, false⟩)], 1, 0⟩ = some (lr_orders_fronts_3 e (orders_fronts_3a rest3 i3 va3_0)) := by
  intro rest3
  induction rest3 with
  | nil =>
    intro i3 va3_0 hd3 hi3 hr hn hle hL3
    unfold orders_fronts_3a
    obtain rfl : i3 = e.items.l.length := nil_eq hd3 hi3
    exact zS [.dec false] (And.intro (lt_no hd3) trivial) (by kernel_rfl)
  | cons x3 rest3 ih =>
    intro i3 va3_0 hd3 hi3 hr hn hle hL3
    have hlt3 := zt hd3
    have hp12 := pow12 (i := i3) (by omega)
    obtain ⟨hq1, hq2⟩ := rows_get hr (i := i3) (by omega)
    unfold orders_fronts_3a
    cases h2 : orders_fronts_7 x3 ((va3_0.getD i3 default).l) ((va3_0.getD i3 default).l) with
    | x0 v7_0 =>
      try dsimp only
      have hv_h2 := ivt_orders_fronts_7 e x3 va3_0 (va3_0.getD i3 default) ((i3 : Nat) : Int) ((va3_0.getD i3 default).l) 0 ((va3_0.getD i3 default).l) (List.drop_zero) (Nat.zero_le _) (by omega) (by omega) (by omega) (by omega)
      rw [h2] at hv_h2
      obtain ⟨hv_h2_0, hv_h2_1⟩ := hv_h2
      try dsimp only [iv_orders_fronts_7] at hv_h2_0
      try dsimp only [iv_orders_fronts_7] at hv_h2_1
      exact po_turn' (ks := [1000000, 3, 13, 14, 15]) (st' := (sd20125 e i3 x3 va3_0 v7_0)) [.dec true, .el (.agg [I x3.now.lo, I x3.now.hi, I x3.cost, I x3.error]), .op (some 22) ⟨.lref 0 i3 1 0, [], [], 2⟩, .op (some 23) ⟨.sl ((va3_0.getD i3 default).nl) (((va3_0.getD i3 default).l).map Arr2_Int.D) (zsl ((va3_0.getD i3 default).nl) 2) none, [], [0], 2⟩, .inl (.lsl 3 0 ((va3_0.getD i3 default).l.length) 2 none) [(2, ⟨[], 2, false⟩), (3, ⟨((va3_0.getD i3 default).l).map Arr2_Int.D, 2, false⟩)] 4, .op (some 27) ⟨.lref 0 i3 1 0, [], [], 4⟩, .op (some 28) ⟨.sl ((va3_0.getD i3 default).nl) (((va3_0.getD i3 default).l).map Arr2_Int.D) (zsl ((va3_0.getD i3 default).nl) 2) none, [], [0], 4⟩, .rw 29 (I (((va3_0.getD i3 default).l.length : Nat) : Int)), .gloop (sd20123 e i3 x3 va3_0) (.exit 2) (sd20124 e i3 x3 va3_0 v7_0), .inlS [2] (.lsl 3 0 ((y9 v7_0).length) 2 none) [(2, ⟨(srtA v7_0).map Arr2_Int.D, 2, false⟩), (3, ⟨(y9 v7_0).map Arr2_Int.D, 2, false⟩)] 4, .op (some 53) ⟨.lsl 5 0 ((va3_0 ++ [GS.some (y9 v7_0)]).length) 1 none, [(0, none), (5, some ⟨va3_0.map (GS.D Arr2_Int.D 2) ++ [.lsl 3 0 ((y9 v7_0).length) 2 none], 1, false⟩)], [0, 4], 6⟩, .rw 54 (I ((i3 + 1 : Nat) : Int))] (And.intro (zX (i := i3) (by have := zt hd3; omega)) (And.intro (app_rowX (f := (GS.D Arr2_Int.D 2)) (te := ty29) (gO := zD [(0, ⟨va3_0.map (GS.D Arr2_Int.D 2), 1, false⟩), (1, ⟨[.agg [I x3.now.lo, I x3.now.hi, I x3.cost, I x3.error]], 4, false⟩), (2, ⟨(srtA v7_0).map Arr2_Int.D, 2, false⟩), (3, ⟨(y9 v7_0).map Arr2_Int.D, 2, false⟩), (4, ⟨[.lsl 3 0 ((y9 v7_0).length) 2 none], 1, false⟩)]) (nxt := 5) (o := 0) (o2 := 4) (fz := false) z7 va3_0 (GS.some (y9 v7_0)) (.lsl 3 0 ((y9 v7_0).length) 2 none) ⟨rfl, rfl⟩ (by kernel_rfl) (by kernel_rfl) rfl (by kernel_rfl) (by decide) ⟨by simp only [ty29, big] <;> (first | assumption | omega | (with_reducible exact y5) | (with_reducible exact Nat.le_trans open_len (by omega)) | (exact rows_two hi0 rfl (zq (by simp)) (by simp)) | (exact rows_app (by assumption) (zq (by omega)) (by omega)) | (simp only [zr] at * <;> omega) | (simp only [zo, zi, zj, zf, zn, zv, GS.some_l, List.length_set, List.length_append, List.length_cons, List.length_nil] at * <;> first | with_reducible assumption | omega) | (simp only [zo, zi, zj, zf, zn, zv, GS.some_l, List.length_set, List.length_append, List.length_cons, List.length_nil, zr] at * <;> first | with_reducible assumption | omega) | (simp at * <;> omega)), by simp only [big] <;> (first | assumption | omega | (with_reducible exact y5) | (with_reducible exact Nat.le_trans open_len (by omega)) | (exact rows_two hi0 rfl (zq (by simp)) (by simp)) | (exact rows_app (by assumption) (zq (by omega)) (by omega)) | (simp only [zr] at * <;> omega) | (simp only [zo, zi, zj, zf, zn, zv, GS.some_l, List.length_set, List.length_append, List.length_cons, List.length_nil] at * <;> first | with_reducible assumption | omega) | (simp only [zo, zi, zj, zf, zn, zv, GS.some_l, List.length_set, List.length_append, List.length_cons, List.length_nil, zr] at * <;> first | with_reducible assumption | omega) | (simp at * <;> omega))⟩) (And.intro (And.intro (show liveFrom [(0, ⟨va3_0.map (GS.D Arr2_Int.D 2), 1, false⟩), (1, ⟨[.agg [I x3.now.lo, I x3.now.hi, I x3.cost, I x3.error]], 4, false⟩), (2, ⟨v7_0.map Arr2_Int.D, 2, false⟩)] 256 [2] [] = some [2] from (by (simp only [liveFrom, go_sem, List.length_set, Nat.reduceAdd, Nat.reduceEqDiff, Nat.reduceLT, Nat.reduceLeDiff, bI2, za.idsL, za.renL, za.snapAll, z7.idsL, z7.renL, z7.snapAll, zl.idsL, zl.renL, zl.snapAll, z8.idsL, z8.renL, z8.snapAll]) <;> rfl)) (I_au70_2_3 v7_0 (by omega) (by omega))) (And.intro (po_lr (q := lr_orders_fronts_7 e x3 va3_0 (va3_0.getD i3 default) ((i3 : Nat) : Int)) (lp_orders_fronts_7 e x3 va3_0 (va3_0.getD i3 default) ((i3 : Nat) : Int) ((va3_0.getD i3 default).l) 0 ((va3_0.getD i3 default).l) (List.drop_zero) (Nat.zero_le _) (by omega) (by omega) (by omega) (by omega)) h2) (And.intro (gc_of (C := cfg) (f := 54) (a := lp54_7) (ks := [3, 5, 6, 13, 14, 15, 28, 29, 30]) (st := (sd20122 e i3 x3 va3_0)) (st1 := (sd20123 e i3 x3 va3_0)) (by kernel_rfl) (by (simp only [sd20122, sd20123, go_sem, List.length_set, Nat.reduceAdd, Nat.reduceEqDiff, Nat.reduceLT, Nat.reduceLeDiff, bI2, za.idsL, za.renL, za.snapAll, z7.idsL, z7.renL, z7.snapAll, zl.idsL, zl.renL, zl.snapAll, z8.idsL, z8.renL, z8.snapAll]) <;> rfl)) (And.intro (zu Arr2_Int.D (va3_0.getD i3 default)) (And.intro (load_row (C := cfg) (objs := [(0, ⟨va3_0.map (GS.D Arr2_Int.D 2), 1, false⟩), (1, ⟨[.agg [I x3.now.lo, I x3.now.hi, I x3.cost, I x3.error]], 4, false⟩), (2, ⟨[], 2, false⟩), (3, ⟨((va3_0.getD i3 default).l).map Arr2_Int.D, 2, false⟩)]) (nxt := 4) (t := 29) (ty := ty29) (o := 0) (n := i3) (sz := 1) (sub := 0) (ob := ⟨va3_0.map (GS.D Arr2_Int.D 2), 1, false⟩) (e := GS.D Arr2_Int.D 2 (va3_0.getD i3 default)) (d := .sl ((va3_0.getD i3 default).nl) (((va3_0.getD i3 default).l).map Arr2_Int.D) (zsl ((va3_0.getD i3 default).nl) 2) none) (by kernel_rfl) (by kernel_rfl) rfl (row_get (f := (GS.D Arr2_Int.D 2)) (by omega)) (by kernel_rfl)) (And.intro (idx_row (C := cfg) (nxt := 4) (t := 27) (ty := ty27) (te := ty29) (e := 29) (o := 0) (len := va3_0.length) (sz := 1) (cap := none) (i := ((i3 : Nat) : Int)) (by kernel_rfl) rfl (by kernel_rfl) rfl (by omega) (by omega)) (And.intro (clone86_2 (va3_0.getD i3 default) (ne_of_len (by omega)) (by omega)) (And.intro (load_row (C := cfg) (objs := [(0, ⟨va3_0.map (GS.D Arr2_Int.D 2), 1, false⟩), (1, ⟨[.agg [I x3.now.lo, I x3.now.hi, I x3.cost, I x3.error]], 4, false⟩)]) (nxt := 2) (t := 29) (ty := ty29) (o := 0) (n := i3) (sz := 1) (sub := 0) (ob := ⟨va3_0.map (GS.D Arr2_Int.D 2), 1, false⟩) (e := GS.D Arr2_Int.D 2 (va3_0.getD i3 default)) (d := .sl ((va3_0.getD i3 default).nl) (((va3_0.getD i3 default).l).map Arr2_Int.D) (zsl ((va3_0.getD i3 default).nl) 2) none) (by kernel_rfl) (by kernel_rfl) rfl (row_get (f := (GS.D Arr2_Int.D 2)) (by omega)) (by kernel_rfl)) (And.intro (idx_row (C := cfg) (nxt := 2) (t := 27) (ty := ty27) (te := ty29) (e := 29) (o := 0) (len := va3_0.length) (sz := 1) (cap := none) (i := ((i3 : Nat) : Int)) (by kernel_rfl) rfl (by kernel_rfl) rfl (by omega) (by omega)) (And.intro (el_at (s := e.items) (f := S_Item.D) (k := 4) hd3) (And.intro (lt_at hd3) trivial))))))))))))) (by kernel_rfl) (by (simp only [encD_GS.mapD, encD_GS.catI, encD_GS.catI_app, eok_Arr2_Int_D_d.mapD, eok_Arr2_Int_D_d.catI, eok_Arr2_Int_D_d.catI_app, eok_GS_D_Arr2_Int_D_2_d.mapD, eok_GS_D_Arr2_Int_D_2_d.catI, eok_GS_D_Arr2_Int_D_2_d.catI_app, za.idsL_app, z7.idsL_app, zl.idsL_app, z8.idsL_app, GS.D, List.map_append, List.map_cons, List.map_nil, take_all, List.take_length, List.length_map, Nat.le_refl, decide_true, if_true, sd20125, go_sem, List.length_set, Nat.reduceAdd, Nat.reduceEqDiff, Nat.reduceLT, Nat.reduceLeDiff, bI2, za.idsL, za.renL, za.snapAll, z7.idsL, z7.renL, z7.snapAll, zl.idsL, zl.renL, zl.snapAll, z8.idsL, z8.renL, z8.snapAll]) <;> rfl) (ih (i3 + 1) (va3_0 ++ [GS.some (y9 v7_0)]) (zA hd3) (zt hd3) (by exact rows_app (by assumption) (zq (by omega)) (by omega)) (by simp only [List.length_append, List.length_cons, List.length_nil] at * <;> omega) (by omega) (by omega)) (by kernel_rfl)
theorem ivt_orders_fronts_3a (e : S_Estate) : ∀ (rest3 : List S_Item) (i3 : Nat) (va3_0 : List (GS Arr2_Int)) (hd3 : e.items.l.drop i3 = rest3) (hi3 : i3 ≤ e.items.l.length) (hr : ∀ r ∈ va3_0, 0 < r.l.length ∧ r.l.length ≤ 2 ^ i3) (hn : va3_0.length = i3 + 1) (hle : e.items.l.length ≤ 12) (hL3 : e.items.l.length ≤ 9223372036854775807), iv_orders_fronts_3 e (orders_fronts_3a rest3 i3 va3_0) := by
  intro rest3
  induction rest3 with
  | nil =>
    intro i3 va3_0 hd3 hi3 hr hn hle hL3
    unfold orders_fronts_3a
    obtain rfl : i3 = e.items.l.length := nil_eq hd3 hi3
    exact ⟨hr, hn⟩
  | cons x3 rest3 ih =>
    intro i3 va3_0 hd3 hi3 hr hn hle hL3
    have hlt3 := zt hd3
    have hp12 := pow12 (i := i3) (by omega)
    obtain ⟨hq1, hq2⟩ := rows_get hr (i := i3) (by omega)
    unfold orders_fronts_3a
    cases h2 : orders_fronts_7 x3 ((va3_0.getD i3 default).l) ((va3_0.getD i3 default).l) with
    | x0 v7_0 =>
      try dsimp only
      have hv_h2 := ivt_orders_fronts_7 e x3 va3_0 (va3_0.getD i3 default) ((i3 : Nat) : Int) ((va3_0.getD i3 default).l) 0 ((va3_0.getD i3 default).l) (List.drop_zero) (Nat.zero_le _) (by omega) (by omega) (by omega) (by omega)
      rw [h2] at hv_h2
      obtain ⟨hv_h2_0, hv_h2_1⟩ := hv_h2
      try dsimp only [iv_orders_fronts_7] at hv_h2_0
      try dsimp only [iv_orders_fronts_7] at hv_h2_1
      exact ih (i3 + 1) (va3_0 ++ [GS.some (y9 v7_0)]) (zA hd3) (zt hd3) (by exact rows_app (by assumption) (zq (by omega)) (by omega)) (by simp only [List.length_append, List.length_cons, List.length_nil] at * <;> omega) (by omega) (by omega)
theorem lp_orders_fronts_3 (e : S_Estate) : ∀ (rest3 : List S_Item) (i3 : Nat) (hd3 : e.items.l.drop i3 = rest3) (hi3 : i3 ≤ e.items.l.length) (hi0 : i3 = 0) (hle : e.items.l.length ≤ 12) (hL3 : e.items.l.length ≤ 9223372036854775807), (lim cfg).loop 54 lp54_3 ⟨56, [(3, .lsl 0 0 1 1 (some 1)), (13, .sl e.items.nl (e.items.l.map S_Item.D) (zsl e.items.nl 4) none), (14, I ((e.items.l.length : Nat) : Int)), (15, I ((i3 : Nat) : Int))], [(0, ⟨[.sl false [.agg [I 0, I 0]] 2 none], 1, false⟩)], 1, 0⟩ = some (lr_orders_fronts_3 e (orders_fronts_3 rest3 i3)) := by
  intro rest3
  induction rest3 with
  | nil =>
    intro i3 hd3 hi3 hi0 hle hL3
    unfold orders_fronts_3
    obtain rfl : i3 = e.items.l.length := nil_eq hd3 hi3
    exact zS [.dec false] (And.intro (lt_no hd3) trivial) (by kernel_rfl)
  | cons x3 rest3 ih =>
    intro i3 hd3 hi3 hi0 hle hL3
    have hlt3 := zt hd3
    have hp12 := pow12 (i := i3) (by omega)
    unfold orders_fronts_3
    dsimp only
    have l1 := (app_row (f := Arr2_Int.D) (te := ty47) (gO := zD [(0, ⟨[.sl false [.agg [I 0, I 0]] 2 none], 1, false⟩), (1, ⟨[.agg [I x3.now.lo, I x3.now.hi, I x3.cost, I x3.error]], 4, false⟩), (2, ⟨[(⟨0, 0⟩ : Arr2_Int)].map Arr2_Int.D, 2, false⟩), (3, ⟨[.agg [I 0, I 0]], 2, false⟩), (4, ⟨[.agg [I (w64 (0 + x3.cost)), I (w64 (0 + (zg x3)))]], 2, false⟩)]) (nxt := 5) (o := 2) (o2 := 4) (fz := false) za [(⟨0, 0⟩ : Arr2_Int)] (⟨w64 (0 + x3.cost), w64 (0 + (zg x3))⟩ : Arr2_Int) (by kernel_rfl) (by kernel_rfl) rfl (by kernel_rfl) (by decide) ⟨by simp only [ty47, big] <;> (first | assumption | omega | (with_reducible exact y5) | (with_reducible exact Nat.le_trans open_len (by omega)) | (exact rows_two hi0 rfl (zq (by simp)) (by simp)) | (exact rows_app (by assumption) (zq (by omega)) (by omega)) | (simp only [zr] at * <;> omega) | (simp only [zo, zi, zj, zf, zn, zv, GS.some_l, List.length_set, List.length_append, List.length_cons, List.length_nil] at * <;> first | with_reducible assumption | omega) | (simp only [zo, zi, zj, zf, zn, zv, GS.some_l, List.length_set, List.length_append, List.length_cons, List.length_nil, zr] at * <;> first | with_reducible assumption | omega) | (simp at * <;> omega)), by simp only [big] <;> (first | assumption | omega | (with_reducible exact y5) | (with_reducible exact Nat.le_trans open_len (by omega)) | (exact rows_two hi0 rfl (zq (by simp)) (by simp)) | (exact rows_app (by assumption) (zq (by omega)) (by omega)) | (simp only [zr] at * <;> omega) | (simp only [zo, zi, zj, zf, zn, zv, GS.some_l, List.length_set, List.length_append, List.length_cons, List.length_nil] at * <;> first | with_reducible assumption | omega) | (simp only [zo, zi, zj, zf, zn, zv, GS.some_l, List.length_set, List.length_append, List.length_cons, List.length_nil, zr] at * <;> first | with_reducible assumption | omega) | (simp at * <;> omega))⟩)
    have l2 := (show ∀ q, (lim cfg).loop 54 lp54_7 (sd20111 e i3 x3) = some q → (lim cfg).loop 54 lp54_7 (sd20110 e i3 x3) = some q from fun q hq => po_turn' (ks := [3, 5, 6, 13, 14, 15, 28, 29, 30]) (st' := (sd20112 e i3 x3)) (st1 := (sd20111 e i3 x3)) [.dec true, .pure (I (zg x3)), .op (some 47) ⟨.lsl 5 0 (([(⟨0, 0⟩ : Arr2_Int)] ++ [(⟨w64 (0 + x3.cost), w64 (0 + (zg x3))⟩ : Arr2_Int)]).length) 2 none, [(2, none), (5, some ⟨([(⟨0, 0⟩ : Arr2_Int)] ++ [(⟨w64 (0 + x3.cost), w64 (0 + (zg x3))⟩ : Arr2_Int)]).map Arr2_Int.D, 2, false⟩)], [2, 4], 6⟩] (And.intro (l1) (And.intro (T_orders_gain x3) (And.intro (Eq.refl true) trivial))) (by kernel_rfl) (by (simp only [sd20111, sd20112, go_sem, List.length_set, Nat.reduceAdd, Nat.reduceEqDiff, Nat.reduceLT, Nat.reduceLeDiff, bI2, za.idsL, za.renL, za.snapAll, z7.idsL, z7.renL, z7.snapAll, zl.idsL, zl.renL, zl.snapAll, z8.idsL, z8.renL, z8.snapAll]) <;> rfl) hq (by kernel_rfl))
    exact po_turn' (ks := [1000000, 3, 13, 14, 15]) (st' := (sd20126 e i3 x3)) [.dec true, .el (.agg [I x3.now.lo, I x3.now.hi, I x3.cost, I x3.error]), .op (some 22) ⟨.lref 0 0 1 0, [], [], 2⟩, .inl (.lsl 3 0 ([(⟨0, 0⟩ : Arr2_Int)].length) 2 none) [(2, ⟨[], 2, false⟩), (3, ⟨[(⟨0, 0⟩ : Arr2_Int)].map Arr2_Int.D, 2, false⟩)] 4, .op (some 27) ⟨.lref 0 0 1 0, [], [], 4⟩, .gloop (sd20110 e i3 x3) (.exit 2) (sd20113 e i3 x3), .inlS [2] (.lsl 3 0 ((y9 ([(⟨0, 0⟩ : Arr2_Int)] ++ [(⟨w64 (0 + x3.cost), w64 (0 + (zg x3))⟩ : Arr2_Int)])).length) 2 none) [(2, ⟨(srtA ([(⟨0, 0⟩ : Arr2_Int)] ++ [(⟨w64 (0 + x3.cost), w64 (0 + (zg x3))⟩ : Arr2_Int)])).map Arr2_Int.D, 2, false⟩), (3, ⟨(y9 ([(⟨0, 0⟩ : Arr2_Int)] ++ [(⟨w64 (0 + x3.cost), w64 (0 + (zg x3))⟩ : Arr2_Int)])).map Arr2_Int.D, 2, false⟩)] 4, .rw 54 (I ((i3 + 1 : Nat) : Int))] (And.intro (zX (i := i3) (by have := zt hd3; omega)) (And.intro (And.intro (show liveFrom [(0, ⟨[.sl false [.agg [I 0, I 0]] 2 none], 1, false⟩), (1, ⟨[.agg [I x3.now.lo, I x3.now.hi, I x3.cost, I x3.error]], 4, false⟩), (2, ⟨([(⟨0, 0⟩ : Arr2_Int)] ++ [(⟨w64 (0 + x3.cost), w64 (0 + (zg x3))⟩ : Arr2_Int)]).map Arr2_Int.D, 2, false⟩)] 256 [2] [] = some [2] from (by (simp only [liveFrom, go_sem, List.length_set, Nat.reduceAdd, Nat.reduceEqDiff, Nat.reduceLT, Nat.reduceLeDiff, bI2, za.idsL, za.renL, za.snapAll, z7.idsL, z7.renL, z7.snapAll, zl.idsL, zl.renL, zl.snapAll, z8.idsL, z8.renL, z8.snapAll]) <;> rfl)) (I_au70_2_3 ([(⟨0, 0⟩ : Arr2_Int)] ++ [(⟨w64 (0 + x3.cost), w64 (0 + (zg x3))⟩ : Arr2_Int)]) (by simp only [List.length_append, List.length_cons, List.length_nil] at * <;> omega) (by simp only [List.length_append, List.length_cons, List.length_nil] at * <;> omega))) (And.intro (show (lim cfg).loop 54 lp54_7 (sd20110 e i3 x3) = some ((.exit 2), (sd20113 e i3 x3)) from (l2 _ (zS [.dec false] (And.intro (Eq.refl false) trivial) (by kernel_rfl)))) (And.intro (gc_of (C := cfg) (f := 54) (a := lp54_7) (ks := [3, 5, 6, 13, 14, 15, 28, 29, 30]) (st := (sd20114 e i3 x3)) (st1 := (sd20110 e i3 x3)) (by kernel_rfl) (by (simp only [sd20110, sd20114, go_sem, List.length_set, Nat.reduceAdd, Nat.reduceEqDiff, Nat.reduceLT, Nat.reduceLeDiff, bI2, za.idsL, za.renL, za.snapAll, z7.idsL, z7.renL, z7.snapAll, zl.idsL, zl.renL, zl.snapAll, z8.idsL, z8.renL, z8.snapAll]) <;> rfl)) (And.intro (idx_one (C := cfg) (nxt := 4) (t := 27) (ty := ty27) (te := ty29) (e := 29) (o := 0) (sz := 1) (cap := (some 1)) (i := ((i3 : Nat) : Int)) (by kernel_rfl) rfl (by kernel_rfl) rfl (by omega)) (And.intro (clone86_2 (GS.some [(⟨0, 0⟩ : Arr2_Int)]) (ne_of_len (by simp only [zo, zi, zj, zf, zn, zv, GS.some_l, List.length_set, List.length_append, List.length_cons, List.length_nil] at * <;> first | with_reducible assumption | omega)) (by simp only [zo, zi, zj, zf, zn, zv, GS.some_l, List.length_set, List.length_append, List.length_cons, List.length_nil] at * <;> first | with_reducible assumption | omega)) (And.intro (idx_one (C := cfg) (nxt := 2) (t := 27) (ty := ty27) (te := ty29) (e := 29) (o := 0) (sz := 1) (cap := (some 1)) (i := ((i3 : Nat) : Int)) (by kernel_rfl) rfl (by kernel_rfl) rfl (by omega)) (And.intro (el_at (s := e.items) (f := S_Item.D) (k := 4) hd3) (And.intro (lt_at hd3) trivial))))))))) (by kernel_rfl) (by (simp only [encD_GS.mapD, encD_GS.catI, encD_GS.catI_app, eok_Arr2_Int_D_d.mapD, eok_Arr2_Int_D_d.catI, eok_Arr2_Int_D_d.catI_app, eok_GS_D_Arr2_Int_D_2_d.mapD, eok_GS_D_Arr2_Int_D_2_d.catI, eok_GS_D_Arr2_Int_D_2_d.catI_app, za.idsL_app, z7.idsL_app, zl.idsL_app, z8.idsL_app, GS.D, List.map_append, List.map_cons, List.map_nil, take_all, List.take_length, List.length_map, Nat.le_refl, decide_true, if_true, sd20126, go_sem, List.length_set, Nat.reduceAdd, Nat.reduceEqDiff, Nat.reduceLT, Nat.reduceLeDiff, bI2, za.idsL, za.renL, za.snapAll, z7.idsL, z7.renL, z7.snapAll, zl.idsL, zl.renL, zl.snapAll, z8.idsL, z8.renL, z8.snapAll]) <;> rfl) (lp_orders_fronts_3a e _ (i3 + 1) [GS.some [(⟨0, 0⟩ : Arr2_Int)], GS.some (y9 ([(⟨0, 0⟩ : Arr2_Int)] ++ [(⟨w64 (0 + x3.cost), w64 (0 + (zg x3))⟩ : Arr2_Int)]))] (zA hd3) (zt hd3) (by exact rows_two hi0 rfl (zq (by simp)) (by simp)) (by simp only [List.length_append, List.length_cons, List.length_nil] at * <;> omega) (by omega) (by omega)) (by kernel_rfl)
theorem ivt_orders_fronts_3 (e : S_Estate) : ∀ (rest3 : List S_Item) (i3 : Nat) (hd3 : e.items.l.drop i3 = rest3) (hi3 : i3 ≤ e.items.l.length) (hi0 : i3 = 0) (hle : e.items.l.length ≤ 12) (hL3 : e.items.l.length ≤ 9223372036854775807), iv_orders_fronts_3 e (orders_fronts_3 rest3 i3) := by
  intro rest3
  induction rest3 with
  | nil =>
    intro i3 hd3 hi3 hi0 hle hL3
    unfold orders_fronts_3
    obtain rfl : i3 = e.items.l.length := nil_eq hd3 hi3
    exact trivial
  | cons x3 rest3 ih =>
    intro i3 hd3 hi3 hi0 hle hL3
    have hlt3 := zt hd3
    have hp12 := pow12 (i := i3) (by omega)
    unfold orders_fronts_3
    dsimp only
    exact ivt_orders_fronts_3a e _ (i3 + 1) [GS.some [(⟨0, 0⟩ : Arr2_Int)], GS.some (y9 ([(⟨0, 0⟩ : Arr2_Int)] ++ [(⟨w64 (0 + x3.cost), w64 (0 + (zg x3))⟩ : Arr2_Int)]))] (zA hd3) (zt hd3) (by exact rows_two hi0 rfl (zq (by simp)) (by simp)) (by simp only [List.length_append, List.length_cons, List.length_nil] at * <;> omega) (by omega) (by omega)

def orders_fronts (e : S_Estate) : (GS (GS Arr2_Int)) :=
  match orders_fronts_3 e.items.l 0 with
  | .x0 va3_0 =>
    GS.some va3_0
  | .x1 =>
    GS.some [GS.some [(⟨0, 0⟩ : Arr2_Int)]]

def sd20127 (e : S_Estate) (va3_0 : List (GS Arr2_Int)) : St := ⟨56, [(16, B false), (3, .lsl 0 0 va3_0.length 1 none), (13, .sl e.items.nl (e.items.l.map S_Item.D) (zsl e.items.nl 4) none), (14, I ((e.items.l.length : Nat) : Int)), (15, I ((e.items.l.length : Nat) : Int))], [(0, ⟨va3_0.map (GS.D Arr2_Int.D 2), 1, false⟩)], 1, 0⟩

def sd20128 (e : S_Estate) : St := ⟨56, [(16, B false), (3, .lsl 0 0 1 1 (some 1)), (13, .sl e.items.nl (e.items.l.map S_Item.D) (zsl e.items.nl 4) none), (14, I ((e.items.l.length : Nat) : Int)), (15, I ((e.items.l.length : Nat) : Int))], [(0, ⟨[.sl false [.agg [I 0, I 0]] 2 none], 1, false⟩)], 1, 0⟩

theorem T_orders_fronts (e : S_Estate) (hle : e.items.l.length ≤ 12) : (lim cfg).pure 54 [S_Estate.D e] = some (GS.D (GS.D Arr2_Int.D 2) 1 (orders_fronts e)) := by
  unfold orders_fronts
  cases h3 : orders_fronts_3 e.items.l 0 with
  | x0 va3_0 =>
    try dsimp only
    have hv_h3 := ivt_orders_fronts_3 e e.items.l 0 (List.drop_zero) (Nat.zero_le _) (by omega) (by omega) (by omega)
    rw [h3] at hv_h3
    obtain ⟨hv_h3_0, hv_h3_1⟩ := hv_h3
    try dsimp only [iv_orders_fronts_3] at hv_h3_0
    try dsimp only [iv_orders_fronts_3] at hv_h3_1
    exact po_pureS [.rw 14 (I ((e.items.l.length : Nat) : Int)), .loop (.exit 0) (sd20127 e va3_0)] [(0, .sl false (va3_0.map (GS.D Arr2_Int.D 2)) 1 none, [0])] (And.intro (snap_row (gO := zD [(0, ⟨va3_0.map (GS.D Arr2_Int.D 2), 1, false⟩)]) (o := 0) (len := va3_0.length) (cap := none) (fz := false) z7 va3_0 (by kernel_rfl) (by omega)) (And.intro (po_lr (q := lr_orders_fronts_3 e) (lp_orders_fronts_3 e e.items.l 0 (List.drop_zero) (Nat.zero_le _) (by omega) (by omega) (by omega)) h3) (And.intro (zu S_Item.D e.items) trivial))) (by kernel_rfl)
  | x1 =>
    try dsimp only
    exact zk [.rw 14 (I ((e.items.l.length : Nat) : Int)), .loop (.exit 0) (sd20128 e)] (And.intro (po_lr (q := lr_orders_fronts_3 e) (lp_orders_fronts_3 e e.items.l 0 (List.drop_zero) (Nat.zero_le _) (by omega) (by omega) (by omega)) h3) (And.intro (zu S_Item.D e.items) trivial)) (by kernel_rfl)
end Go.VS

namespace Go.VS
open Go Go.Proofs
set_option maxHeartbeats 0
set_option linter.unusedSimpArgs false
set_option linter.unusedVariables false
def r_Gain (x : S_Item) : Int :=
  ye (w64 ((w64 (x.now.hi - x.now.lo)) - (w64 (2 * x.error)))) 0

inductive LR_r_next_4 where
  | x0 (va4_0 : List Arr2_Int) (va4_1 : Int) (va4_2 : Int)
  | x1
  | out
instance : Inhabited LR_r_next_4 := ⟨.out⟩
def zT (front : GS Arr2_Int) (x : S_Item) : Nat → (List Arr2_Int) → Int → Int → LR_r_next_4
  | 0, _, _, _ => .out
  | rest4 + 1, va4_0, va4_1, va4_2 =>
    bif decide (va4_1 < ((front.l.length : Nat) : Int)) then
      bif (va4_2 == ((front.l.length : Nat) : Int)) then
        bif decide (((va4_0.length : Nat) : Int) > 0) then
          bif decide (((va4_0.getD ((w64 (((va4_0.length : Nat) : Int) - 1)).toNat) default).x1) ≥ ((GS.at front va4_1).x1)) then
            zT front x rest4 va4_0 (w64 (va4_1 + 1)) va4_2
          else
            bif (((va4_0.getD ((w64 (((va4_0.length : Nat) : Int) - 1)).toNat) default).x0) == ((GS.at front va4_1).x0)) then
              zT front x rest4 (va4_0.set ((w64 (((va4_0.length : Nat) : Int) - 1)).toNat) (GS.at front va4_1)) (w64 (va4_1 + 1)) va4_2
            else
              zT front x rest4 (va4_0 ++ [(GS.at front va4_1)]) (w64 (va4_1 + 1)) va4_2
        else
          zT front x rest4 (va4_0 ++ [(GS.at front va4_1)]) (w64 (va4_1 + 1)) va4_2
      else
        bif decide (((GS.at front va4_1).x0) ≤ (w64 (((GS.at front va4_2).x0) + x.cost))) then
          bif decide (((va4_0.length : Nat) : Int) > 0) then
            bif decide (((va4_0.getD ((w64 (((va4_0.length : Nat) : Int) - 1)).toNat) default).x1) ≥ ((GS.at front va4_1).x1)) then
              zT front x rest4 va4_0 (w64 (va4_1 + 1)) va4_2
            else
              bif (((va4_0.getD ((w64 (((va4_0.length : Nat) : Int) - 1)).toNat) default).x0) == ((GS.at front va4_1).x0)) then
                zT front x rest4 (va4_0.set ((w64 (((va4_0.length : Nat) : Int) - 1)).toNat) (GS.at front va4_1)) (w64 (va4_1 + 1)) va4_2
              else
                zT front x rest4 (va4_0 ++ [(GS.at front va4_1)]) (w64 (va4_1 + 1)) va4_2
          else
            zT front x rest4 (va4_0 ++ [(GS.at front va4_1)]) (w64 (va4_1 + 1)) va4_2
        else
          bif decide (((va4_0.length : Nat) : Int) > 0) then
            bif decide (((va4_0.getD ((w64 (((va4_0.length : Nat) : Int) - 1)).toNat) default).x1) ≥ (w64 (((GS.at front va4_2).x1) + (r_Gain x)))) then
              zT front x rest4 va4_0 va4_1 (w64 (va4_2 + 1))
            else
              bif (((va4_0.getD ((w64 (((va4_0.length : Nat) : Int) - 1)).toNat) default).x0) == (w64 (((GS.at front va4_2).x0) + x.cost))) then
                zT front x rest4 (va4_0.set ((w64 (((va4_0.length : Nat) : Int) - 1)).toNat) (⟨w64 (((GS.at front va4_2).x0) + x.cost), w64 (((GS.at front va4_2).x1) + (r_Gain x))⟩ : Arr2_Int)) va4_1 (w64 (va4_2 + 1))
              else
                zT front x rest4 (va4_0 ++ [(⟨w64 (((GS.at front va4_2).x0) + x.cost), w64 (((GS.at front va4_2).x1) + (r_Gain x))⟩ : Arr2_Int)]) va4_1 (w64 (va4_2 + 1))
          else
            zT front x rest4 (va4_0 ++ [(⟨w64 (((GS.at front va4_2).x0) + x.cost), w64 (((GS.at front va4_2).x1) + (r_Gain x))⟩ : Arr2_Int)]) va4_1 (w64 (va4_2 + 1))
    else
      bif decide (va4_2 < ((front.l.length : Nat) : Int)) then
        bif (va4_2 == ((front.l.length : Nat) : Int)) then
          bif decide (((va4_0.length : Nat) : Int) > 0) then
            bif decide (((va4_0.getD ((w64 (((va4_0.length : Nat) : Int) - 1)).toNat) default).x1) ≥ ((GS.at front va4_1).x1)) then
              zT front x rest4 va4_0 (w64 (va4_1 + 1)) va4_2
            else
              bif (((va4_0.getD ((w64 (((va4_0.length : Nat) : Int) - 1)).toNat) default).x0) == ((GS.at front va4_1).x0)) then
                zT front x rest4 (va4_0.set ((w64 (((va4_0.length : Nat) : Int) - 1)).toNat) (GS.at front va4_1)) (w64 (va4_1 + 1)) va4_2
              else
                zT front x rest4 (va4_0 ++ [(GS.at front va4_1)]) (w64 (va4_1 + 1)) va4_2
          else
            zT front x rest4 (va4_0 ++ [(GS.at front va4_1)]) (w64 (va4_1 + 1)) va4_2
        else
          bif decide (((va4_0.length : Nat) : Int) > 0) then
            bif decide (((va4_0.getD ((w64 (((va4_0.length : Nat) : Int) - 1)).toNat) default).x1) ≥ (w64 (((GS.at front va4_2).x1) + (r_Gain x)))) then
              zT front x rest4 va4_0 va4_1 (w64 (va4_2 + 1))
            else
              bif (((va4_0.getD ((w64 (((va4_0.length : Nat) : Int) - 1)).toNat) default).x0) == (w64 (((GS.at front va4_2).x0) + x.cost))) then
                zT front x rest4 (va4_0.set ((w64 (((va4_0.length : Nat) : Int) - 1)).toNat) (⟨w64 (((GS.at front va4_2).x0) + x.cost), w64 (((GS.at front va4_2).x1) + (r_Gain x))⟩ : Arr2_Int)) va4_1 (w64 (va4_2 + 1))
              else
                zT front x rest4 (va4_0 ++ [(⟨w64 (((GS.at front va4_2).x0) + x.cost), w64 (((GS.at front va4_2).x1) + (r_Gain x))⟩ : Arr2_Int)]) va4_1 (w64 (va4_2 + 1))
          else
            zT front x rest4 (va4_0 ++ [(⟨w64 (((GS.at front va4_2).x0) + x.cost), w64 (((GS.at front va4_2).x1) + (r_Gain x))⟩ : Arr2_Int)]) va4_1 (w64 (va4_2 + 1))
      else
        .x0 va4_0 va4_1 va4_2
def r_next_4 (front : GS Arr2_Int) (x : S_Item) : Nat → LR_r_next_4
  | 0 => .out
  | rest4 + 1 =>
    bif decide (0 < ((front.l.length : Nat) : Int)) then
      bif (0 == ((front.l.length : Nat) : Int)) then
        zT front x rest4 [(GS.at front 0)] 1 0
      else
        bif decide (((GS.at front 0).x0) ≤ (w64 (((GS.at front 0).x0) + x.cost))) then
          zT front x rest4 [(GS.at front 0)] 1 0
        else
          zT front x rest4 [(⟨w64 (((GS.at front 0).x0) + x.cost), w64 (((GS.at front 0).x1) + (r_Gain x))⟩ : Arr2_Int)] 0 1
    else
      .x1
def iv_r_next_4 (front : GS Arr2_Int) (x : S_Item) : LR_r_next_4 → Prop
  | .x0 va4_0 va4_1 va4_2 => (0 ≤ va4_1 ∧ va4_1 ≤ ((front.l.length : Nat) : Int)) ∧ (0 ≤ va4_2 ∧ va4_2 ≤ ((front.l.length : Nat) : Int)) ∧ (1 ≤ va4_0.length ∧ ((va4_0.length : Nat) : Int) ≤ va4_1 + va4_2)
  | .x1 => True
  | .out => True
theorem ivt_r_next_4a (front : GS Arr2_Int) (x : S_Item) : ∀ (rest4 : Nat) (va4_0 : List Arr2_Int) (va4_1 : Int) (va4_2 : Int) (hf4 : zT front x rest4 va4_0 va4_1 va4_2 ≠ .out) (hf12 : front.l.length ≤ 4096) (hi1 : 0 ≤ va4_1 ∧ va4_1 ≤ ((front.l.length : Nat) : Int)) (hk1 : 0 ≤ va4_2 ∧ va4_2 ≤ ((front.l.length : Nat) : Int)) (ho1 : 1 ≤ va4_0.length ∧ ((va4_0.length : Nat) : Int) ≤ va4_1 + va4_2), iv_r_next_4 front x (zT front x rest4 va4_0 va4_1 va4_2) := by
  intro rest4
  induction rest4 with
  | zero =>
    intro va4_0 va4_1 va4_2 hf4 hf12 hi1 hk1 ho1
    exact absurd rfl hf4
  | succ rest4 ih =>
    intro va4_0 va4_1 va4_2 hf4 hf12 hi1 hk1 ho1
    unfold zT at hf4 ⊢
    revert hf4
    cases h24 : decide (va4_1 < ((front.l.length : Nat) : Int)) with
    | true =>
      have g24 := of_decide_eq_true h24
      cases h25 : (va4_2 == ((front.l.length : Nat) : Int)) with
      | true =>
        have g25 := eq_of_beq h25
        cases h26 : decide (((va4_0.length : Nat) : Int) > 0) with
        | true =>
          have g26 := of_decide_eq_true h26
          cases h27 : decide (((va4_0.getD ((w64 (((va4_0.length : Nat) : Int) - 1)).toNat) default).x1) ≥ ((GS.at front va4_1).x1)) with
          | true =>
            have g27 := of_decide_eq_true h27
            intro hf4
            exact ih va4_0 (w64 (va4_1 + 1)) va4_2 hf4 (by omega) (by simp only [zr] at * <;> omega) (by omega) (by simp only [zr] at * <;> omega)
          | false =>
            have g27 := of_decide_eq_false h27
            cases h28 : (((va4_0.getD ((w64 (((va4_0.length : Nat) : Int) - 1)).toNat) default).x0) == ((GS.at front va4_1).x0)) with
            | true =>
              have g28 := eq_of_beq h28
              intro hf4
              exact ih (va4_0.set ((w64 (((va4_0.length : Nat) : Int) - 1)).toNat) (GS.at front va4_1)) (w64 (va4_1 + 1)) va4_2 hf4 (by omega) (by simp only [zr] at * <;> omega) (by omega) (by simp only [zo, zi, zj, zf, zn, zv, GS.some_l, List.length_set, List.length_append, List.length_cons, List.length_nil, zr] at * <;> first | with_reducible assumption | omega)
            | false =>
              have g28 := ne_of_beq_false h28
              intro hf4
              exact ih (va4_0 ++ [(GS.at front va4_1)]) (w64 (va4_1 + 1)) va4_2 hf4 (by omega) (by simp only [zr] at * <;> omega) (by omega) (by simp only [List.length_append, List.length_cons, List.length_nil, zr] at * <;> omega)
        | false =>
          have g26 := of_decide_eq_false h26
          intro hf4
          exact ih (va4_0 ++ [(GS.at front va4_1)]) (w64 (va4_1 + 1)) va4_2 hf4 (by omega) (by omega) (by omega) (by omega)
      | false =>
        have g25 := ne_of_beq_false h25
        cases h29 : decide (((GS.at front va4_1).x0) ≤ (w64 (((GS.at front va4_2).x0) + x.cost))) with
        | true =>
          have g29 := of_decide_eq_true h29
          cases h30 : decide (((va4_0.length : Nat) : Int) > 0) with
          | true =>
            have g30 := of_decide_eq_true h30
            cases h31 : decide (((va4_0.getD ((w64 (((va4_0.length : Nat) : Int) - 1)).toNat) default).x1) ≥ ((GS.at front va4_1).x1)) with
            | true =>
              have g31 := of_decide_eq_true h31
              intro hf4
              exact ih va4_0 (w64 (va4_1 + 1)) va4_2 hf4 (by omega) (by simp only [zr] at * <;> omega) (by omega) (by simp only [zr] at * <;> omega)
            | false =>
              have g31 := of_decide_eq_false h31
              cases h32 : (((va4_0.getD ((w64 (((va4_0.length : Nat) : Int) - 1)).toNat) default).x0) == ((GS.at front va4_1).x0)) with
              | true =>
                have g32 := eq_of_beq h32
                intro hf4
                exact ih (va4_0.set ((w64 (((va4_0.length : Nat) : Int) - 1)).toNat) (GS.at front va4_1)) (w64 (va4_1 + 1)) va4_2 hf4 (by omega) (by simp only [zr] at * <;> omega) (by omega) (by simp only [zo, zi, zj, zf, zn, zv, GS.some_l, List.length_set, List.length_append, List.length_cons, List.length_nil, zr] at * <;> first | with_reducible assumption | omega)
              | false =>
                have g32 := ne_of_beq_false h32
                intro hf4
                exact ih (va4_0 ++ [(GS.at front va4_1)]) (w64 (va4_1 + 1)) va4_2 hf4 (by omega) (by simp only [zr] at * <;> omega) (by omega) (by simp only [List.length_append, List.length_cons, List.length_nil, zr] at * <;> omega)
          | false =>
            have g30 := of_decide_eq_false h30
            intro hf4
            exact ih (va4_0 ++ [(GS.at front va4_1)]) (w64 (va4_1 + 1)) va4_2 hf4 (by omega) (by omega) (by omega) (by omega)
        | false =>
          have g29 := of_decide_eq_false h29
          cases h33 : decide (((va4_0.length : Nat) : Int) > 0) with
          | true =>
            have g33 := of_decide_eq_true h33
            cases h34 : decide (((va4_0.getD ((w64 (((va4_0.length : Nat) : Int) - 1)).toNat) default).x1) ≥ (w64 (((GS.at front va4_2).x1) + (r_Gain x)))) with
            | true =>
              have g34 := of_decide_eq_true h34
              intro hf4
              exact ih va4_0 va4_1 (w64 (va4_2 + 1)) hf4 (by omega) (by omega) (by simp only [zr] at * <;> omega) (by simp only [zr] at * <;> omega)
            | false =>
              have g34 := of_decide_eq_false h34
              cases h35 : (((va4_0.getD ((w64 (((va4_0.length : Nat) : Int) - 1)).toNat) default).x0) == (w64 (((GS.at front va4_2).x0) + x.cost))) with
              | true =>
                have g35 := eq_of_beq h35
                intro hf4
                exact ih (va4_0.set ((w64 (((va4_0.length : Nat) : Int) - 1)).toNat) (⟨w64 (((GS.at front va4_2).x0) + x.cost), w64 (((GS.at front va4_2).x1) + (r_Gain x))⟩ : Arr2_Int)) va4_1 (w64 (va4_2 + 1)) hf4 (by omega) (by omega) (by simp only [zr] at * <;> omega) (by simp only [zo, zi, zj, zf, zn, zv, GS.some_l, List.length_set, List.length_append, List.length_cons, List.length_nil, zr] at * <;> first | with_reducible assumption | omega)
              | false =>
                have g35 := ne_of_beq_false h35
                intro hf4
                exact ih (va4_0 ++ [(⟨w64 (((GS.at front va4_2).x0) + x.cost), w64 (((GS.at front va4_2).x1) + (r_Gain x))⟩ : Arr2_Int)]) va4_1 (w64 (va4_2 + 1)) hf4 (by omega) (by omega) (by simp only [zr] at * <;> omega) (by simp only [List.length_append, List.length_cons, List.length_nil, zr] at * <;> omega)
          | false =>
            have g33 := of_decide_eq_false h33
            intro hf4
            exact ih (va4_0 ++ [(⟨w64 (((GS.at front va4_2).x0) + x.cost), w64 (((GS.at front va4_2).x1) + (r_Gain x))⟩ : Arr2_Int)]) va4_1 (w64 (va4_2 + 1)) hf4 (by omega) (by omega) (by omega) (by omega)
    | false =>
      have g24 := of_decide_eq_false h24
      cases h36 : decide (va4_2 < ((front.l.length : Nat) : Int)) with
      | true =>
        have g36 := of_decide_eq_true h36
        cases h37 : (va4_2 == ((front.l.length : Nat) : Int)) with
        | true =>
          have g37 := eq_of_beq h37
          cases h38 : decide (((va4_0.length : Nat) : Int) > 0) with
          | true =>
            have g38 := of_decide_eq_true h38
            cases h39 : decide (((va4_0.getD ((w64 (((va4_0.length : Nat) : Int) - 1)).toNat) default).x1) ≥ ((GS.at front va4_1).x1)) with
            | true =>
              have g39 := of_decide_eq_true h39
              intro hf4
              exact ih va4_0 (w64 (va4_1 + 1)) va4_2 hf4 (by omega) (by omega) (by omega) (by omega)
            | false =>
              have g39 := of_decide_eq_false h39
              cases h40 : (((va4_0.getD ((w64 (((va4_0.length : Nat) : Int) - 1)).toNat) default).x0) == ((GS.at front va4_1).x0)) with
              | true =>
                have g40 := eq_of_beq h40
                intro hf4
                exact ih (va4_0.set ((w64 (((va4_0.length : Nat) : Int) - 1)).toNat) (GS.at front va4_1)) (w64 (va4_1 + 1)) va4_2 hf4 (by omega) (by omega) (by omega) (by omega)
              | false =>
                have g40 := ne_of_beq_false h40
                intro hf4
                exact ih (va4_0 ++ [(GS.at front va4_1)]) (w64 (va4_1 + 1)) va4_2 hf4 (by omega) (by omega) (by omega) (by omega)
          | false =>
            have g38 := of_decide_eq_false h38
            intro hf4
            exact ih (va4_0 ++ [(GS.at front va4_1)]) (w64 (va4_1 + 1)) va4_2 hf4 (by omega) (by omega) (by omega) (by omega)
        | false =>
          have g37 := ne_of_beq_false h37
          cases h41 : decide (((va4_0.length : Nat) : Int) > 0) with
          | true =>
            have g41 := of_decide_eq_true h41
            cases h42 : decide (((va4_0.getD ((w64 (((va4_0.length : Nat) : Int) - 1)).toNat) default).x1) ≥ (w64 (((GS.at front va4_2).x1) + (r_Gain x)))) with
            | true =>
              have g42 := of_decide_eq_true h42
              intro hf4
              exact ih va4_0 va4_1 (w64 (va4_2 + 1)) hf4 (by omega) (by omega) (by simp only [zr] at * <;> omega) (by simp only [zr] at * <;> omega)
            | false =>
              have g42 := of_decide_eq_false h42
              cases h43 : (((va4_0.getD ((w64 (((va4_0.length : Nat) : Int) - 1)).toNat) default).x0) == (w64 (((GS.at front va4_2).x0) + x.cost))) with
              | true =>
                have g43 := eq_of_beq h43
                intro hf4
                exact ih (va4_0.set ((w64 (((va4_0.length : Nat) : Int) - 1)).toNat) (⟨w64 (((GS.at front va4_2).x0) + x.cost), w64 (((GS.at front va4_2).x1) + (r_Gain x))⟩ : Arr2_Int)) va4_1 (w64 (va4_2 + 1)) hf4 (by omega) (by omega) (by simp only [zr] at * <;> omega) (by simp only [zo, zi, zj, zf, zn, zv, GS.some_l, List.length_set, List.length_append, List.length_cons, List.length_nil, zr] at * <;> first | with_reducible assumption | omega)
              | false =>
                have g43 := ne_of_beq_false h43
                intro hf4
                exact ih (va4_0 ++ [(⟨w64 (((GS.at front va4_2).x0) + x.cost), w64 (((GS.at front va4_2).x1) + (r_Gain x))⟩ : Arr2_Int)]) va4_1 (w64 (va4_2 + 1)) hf4 (by omega) (by omega) (by simp only [zr] at * <;> omega) (by simp only [List.length_append, List.length_cons, List.length_nil, zr] at * <;> omega)
          | false =>
            have g41 := of_decide_eq_false h41
            intro hf4
            exact ih (va4_0 ++ [(⟨w64 (((GS.at front va4_2).x0) + x.cost), w64 (((GS.at front va4_2).x1) + (r_Gain x))⟩ : Arr2_Int)]) va4_1 (w64 (va4_2 + 1)) hf4 (by omega) (by omega) (by omega) (by omega)
      | false =>
        have g36 := of_decide_eq_false h36
        intro hf4
        exact ⟨hi1, hk1, ho1⟩
theorem ivt_r_next_4 (front : GS Arr2_Int) (x : S_Item) : ∀ (rest4 : Nat) (hf4 : r_next_4 front x rest4 ≠ .out) (hf12 : front.l.length ≤ 4096), iv_r_next_4 front x (r_next_4 front x rest4) := by
  intro rest4
  induction rest4 with
  | zero =>
    intro hf4 hf12
    exact absurd rfl hf4
  | succ rest4 ih =>
    intro hf4 hf12
    unfold r_next_4 at hf4 ⊢
    revert hf4
    cases h44 : decide (0 < ((front.l.length : Nat) : Int)) with
    | true =>
      have g44 := of_decide_eq_true h44
      cases h45 : (0 == ((front.l.length : Nat) : Int)) with
      | true =>
        have g45 := eq_of_beq h45
        intro hf4
        exact ivt_r_next_4a front x _ [(GS.at front 0)] 1 0 hf4 (by omega) (by omega) (by omega) (by omega)
      | false =>
        have g45 := ne_of_beq_false h45
        cases h46 : decide (((GS.at front 0).x0) ≤ (w64 (((GS.at front 0).x0) + x.cost))) with
        | true =>
          have g46 := of_decide_eq_true h46
          intro hf4
          exact ivt_r_next_4a front x _ [(GS.at front 0)] 1 0 hf4 (by omega) (by omega) (by omega) (by simp only [List.length_append, List.length_cons, List.length_nil] at * <;> omega)
        | false =>
          have g46 := of_decide_eq_false h46
          intro hf4
          exact ivt_r_next_4a front x _ [(⟨w64 (((GS.at front 0).x0) + x.cost), w64 (((GS.at front 0).x1) + (r_Gain x))⟩ : Arr2_Int)] 0 1 hf4 (by omega) (by omega) (by omega) (by simp only [List.length_append, List.length_cons, List.length_nil] at * <;> omega)
    | false =>
      have g44 := of_decide_eq_false h44
      intro hf4
      exact trivial

theorem r_next_ne' (front : GS Arr2_Int) (x : S_Item) (h : front.l.length ≤ 4096) : ∀ (n : Nat) (v : List Arr2_Int) (i k : Int), 0 ≤ i → i ≤ front.l.length → 0 ≤ k → k ≤ front.l.length → 2 * (front.l.length : Int) - i - k < n → zT front x n v i k ≠ .out
  | 0, v, i, k, h0, h1, h2, h3, hn => by omega
  | n + 1, v, i, k, h0, h1, h2, h3, hn => by
    have hi : i < front.l.length → ∀ v', zT front x n v' (w64 (i + 1)) k ≠ .out := fun hl v' => by
      rw [yi (by omega) (by omega)]
      exact r_next_ne' front x h n v' _ _ (by omega) (by omega) h2 h3 (by omega)
    have hk : k < front.l.length → ∀ v', zT front x n v' i (w64 (k + 1)) ≠ .out := fun hl v' => by
      rw [yi (by omega) (by omega)]
      exact r_next_ne' front x h n v' _ _ h0 h1 (by omega) (by omega) (by omega)
    unfold zT
    simp only [Bool.cond_eq_ite]
    repeat' split
    all_goals simp only [decide_eq_true_eq, beq_iff_eq] at *
    all_goals first | (intro h; cases h; done) | (exact hi (by omega) _) | (exact hk (by omega) _) | (exfalso; omega)
theorem r_next_ne (front : GS Arr2_Int) (x : S_Item) (h : front.l.length ≤ 4096) : r_next_4 front x (2 * front.l.length + 1) ≠ .out := by
  unfold r_next_4
  simp only [Bool.cond_eq_ite]
  repeat' split
  all_goals simp only [decide_eq_true_eq, beq_iff_eq] at *
  all_goals first | (intro h; cases h; done) | (exact r_next_ne' front x h _ _ _ _ (by omega) (by omega) (by omega) (by omega) (by omega)) | (exfalso; omega)

def r_next (front : GS Arr2_Int) (x : S_Item) : (GS Arr2_Int) :=
  match r_next_4 front x (2 * front.l.length + 1) with
  | .x0 va4_0 va4_1 va4_2 =>
    GS.some va4_0
  | .x1 =>
    GS.nil
  | .out =>
    default

end Go.VS

namespace Go.VS
open Go Go.Proofs
set_option maxHeartbeats 0
set_option linter.unusedSimpArgs false
set_option linter.unusedVariables false
theorem zZ {front : GS Arr2_Int} {x : S_Item} (h : front.l.length ≤ 4096) : (r_next front x).l.length ≤ 2 * front.l.length := by
  have k := ivt_r_next_4 front x _ (r_next_ne front x h) h
  unfold r_next
  cases hr : r_next_4 front x (2 * front.l.length + 1) with
  | x0 v i k' =>
    rw [hr] at k
    obtain ⟨k1, k2, k3⟩ := k
    simp only [GS.some_l]
    omega
  | x1 => simp [GS.nil]
  | out => exact absurd hr (r_next_ne front x h)
theorem rowsR_app {α : Type} {v : List (GS α)} {x : GS α} {n i : Nat} (h : ∀ r ∈ v, r.l.length ≤ 2 ^ i) (h1 : x.l.length ≤ 2 * n) (hn : n ≤ 2 ^ i) : ∀ r ∈ v ++ [x], r.l.length ≤ 2 ^ (i + 1) := by
  intro r hr
  rw [Nat.pow_succ]
  rcases List.mem_append.1 hr with hr | hr
  · have := h r hr; omega
  · rw [List.mem_singleton.1 hr]; omega
theorem rowsR_two {α : Type} {a x : GS α} {i n : Nat} (hi : i = 0) (ha : a.l.length = 1) (h1 : x.l.length ≤ 2 * n) (hn : n ≤ 1) : ∀ r ∈ [a, x], r.l.length ≤ 2 ^ (i + 1) := by
  subst hi
  intro r hr
  simp only [List.mem_cons, List.not_mem_nil, or_false] at hr
  rcases hr with rfl | rfl <;> simp only [Nat.zero_add, Nat.pow_one] <;> omega

inductive LR_r_Fronts_5 where
  | x0 (va5_0 : List (GS Arr2_Int))
  | x1
instance : Inhabited LR_r_Fronts_5 := ⟨.x0 default⟩
def r_Fronts_5a : List S_Item → Nat → (List (GS Arr2_Int)) → LR_r_Fronts_5
  | [], i5, va5_0 => .x0 va5_0
  | x5 :: rest5, i5, va5_0 =>
    r_Fronts_5a rest5 (i5 + 1) (va5_0 ++ [(r_next (va5_0.getD i5 default) x5)])
def r_Fronts_5 : List S_Item → Nat → LR_r_Fronts_5
  | [], i5 => .x1
  | x5 :: rest5, i5 =>
    r_Fronts_5a rest5 (i5 + 1) [GS.some [(⟨0, 0⟩ : Arr2_Int)], (r_next (GS.some [(⟨0, 0⟩ : Arr2_Int)]) x5)]
def r_Fronts (e : S_Estate) : (GS (GS Arr2_Int)) × Int :=
  bif (zV e) then
    match r_Fronts_5 e.items.l 0 with
    | .x0 va5_0 =>
      (GS.some va5_0, 0)
    | .x1 =>
      (GS.some [GS.some [(⟨0, 0⟩ : Arr2_Int)]], 0)
  else
    (GS.nil, 80)

def ze (e : S_Estate) : (GS (GS Arr2_Int)) × Int :=
  bif ((zy e) != 0) then
    (GS.nil, (zy e))
  else
    ((orders_fronts e), 0)

theorem T_orders_Fronts (e : S_Estate) : (lim cfg).pure 14 [S_Estate.D e] = some (.tup [GS.D (GS.D Arr2_Int.D 2) 1 ((ze e).1), I ((ze e).2)]) := by
  unfold ze
  cases h1 : ((zy e) != 0) with
  | true =>
    have g1 := bne_true h1
    exact zk [.pure (I (zy e)), .dec true] (And.intro h1 (And.intro (yb e) trivial)) (by kernel_rfl)
  | false =>
    have g1 := check_len (bne_false h1)
    exact zk [.pure (I (zy e)), .dec false, .pure (.sl ((orders_fronts e).nl) (((orders_fronts e).l).map (GS.D Arr2_Int.D 2)) (zsl ((orders_fronts e).nl) 1) none)] (And.intro (T_orders_fronts e (by omega)) (And.intro h1 (And.intro (yb e) trivial))) (by kernel_rfl)

end Go.VS

namespace Go.VS
open Go Go.Proofs
set_option maxHeartbeats 0
set_option linter.unusedSimpArgs false
set_option linter.unusedVariables false
theorem T_lists (n : Int) : (lim cfg).pure 68 [I n] = some (.fn (.func 96) [] [.ptr (I n)]) := zk [] trivial (by kernel_rfl)

theorem n_pos {n : Nat} (h : n ≤ 12) : 1 ≤ (w64 (1 * 2 ^ (min (((n : Nat) : Int)).toNat 64)) - 0).toNat := by
  rw [shl_one (by omega) (by omega)]
  have := Nat.two_pow_pos (((n : Nat) : Int).toNat)
  omega
theorem n_le {n : Nat} (h : n ≤ 12) : w64 (1 * 2 ^ (min (((n : Nat) : Int)).toNat 64)) ≤ 4096 := by
  rw [shl_one (by omega) (by omega)]
  have : 2 ^ (((n : Nat) : Int).toNat) ≤ 2 ^ 12 := Nat.pow_le_pow_right (by omega) (by omega)
  omega

noncomputable def rg20170 (e : S_Estate) : Rnd := ⟨23, 2, 48, [(16, .fn (.func 96) [] [.ptr (I ((e.items.l.length : Nat) : Int))]), (15, I ((e.items.l.length : Nat) : Int)), (14, .sl e.items.nl (e.items.l.map S_Item.D) (zsl e.items.nl 4) none), (13, .lref 0 0 3 0), (5, .lref 1 0 1 0), (11, B false), (10, I (zy e)), (4, I (zy e)), (9, I (zy e)), (8, .agg [.sl e.items.nl (e.items.l.map S_Item.D) (zsl e.items.nl 4) none, I e.whole.lo, I e.whole.hi]), (3, I 0), (2, .sl true [] 0 none), (1, .lref 0 0 3 0), (0, .agg [.sl e.items.nl (e.items.l.map S_Item.D) (zsl e.items.nl 4) none, I e.whole.lo, I e.whole.hi])], [17], subC [1, 1, 1, 0, 1, 0, 0] (bodyC Try.f23), subC [1, 1, 1, 0, 1, 0, 1] (bodyC Try.f23)⟩

noncomputable def lp96_5 : Code := subC [1, 0, 0, 1, 1, 0, 0, 1, 1, 0, 1, 0, 0] (bodyC Try.f96)

def sd20183 (e : S_Estate) (q1_0 : Int) (i5 : Nat) (q5_0 : Int) (va5_0 : List Int) (va1_0 : List Arr2_Int) : St := ⟨30, [(12, I ((i5 + 1 : Nat) : Int)), (24, I ((i5 + 1 : Nat) : Int)), (4, .lsl 6 0 ((va5_0 ++ [((i5 : Nat) : Int)]).length) 1 none), (23, .lsl 6 0 ((va5_0 ++ [((i5 : Nat) : Int)]).length) 1 none), (22, .lsl 5 0 1 1 (some 1)), (21, I ((i5 : Nat) : Int)), (20, .lsl 3 0 va5_0.length 1 none), (19, B true), (18, I (w64 ((BitVec.ofInt 64 ((q5_0).fdiv (2 ^ (min (((i5 : Nat) : Int)).toNat 64))) &&& BitVec.ofInt 64 1).toNat : Int))), (17, I ((q5_0).fdiv (2 ^ (min (((i5 : Nat) : Int)).toNat 64)))), (16, I ((i5 : Nat) : Int)), (15, I q5_0), (5, I ((i5 : Nat) : Int)), (14, I ((i5 : Nat) : Int)), (13, B true), (0, .yld 2), (1, .ptr (I ((e.items.l.length : Nat) : Int))), (3, I q5_0), (4, .lsl 3 0 va5_0.length 1 none), (7, I q1_0), (8, I q5_0), (11, I ((e.items.l.length : Nat) : Int)), (12, I ((i5 : Nat) : Int))], [(0, ⟨[.agg [.sl e.items.nl (e.items.l.map S_Item.D) (zsl e.items.nl 4) none, I e.whole.lo, I e.whole.hi]], 3, false⟩), (1, ⟨[.lsl 4 0 va1_0.length 2 none], 1, false⟩), (4, ⟨va1_0.map Arr2_Int.D, 2, false⟩), (5, ⟨[I ((i5 : Nat) : Int)], 1, false⟩), (6, ⟨(va5_0 ++ [((i5 : Nat) : Int)]).map I, 1, false⟩)], 7, 3⟩

def sd20184 (e : S_Estate) (q1_0 : Int) (i5 : Nat) (q5_0 : Int) (va5_0 : List Int) (va1_0 : List Arr2_Int) : St := ⟨30, [(12, I ((i5 + 1 : Nat) : Int)), (24, I ((i5 + 1 : Nat) : Int)), (19, B false), (18, I (w64 ((BitVec.ofInt 64 ((q5_0).fdiv (2 ^ (min (((i5 : Nat) : Int)).toNat 64))) &&& BitVec.ofInt 64 1).toNat : Int))), (17, I ((q5_0).fdiv (2 ^ (min (((i5 : Nat) : Int)).toNat 64)))), (16, I ((i5 : Nat) : Int)), (15, I q5_0), (5, I ((i5 : Nat) : Int)), (14, I ((i5 : Nat) : Int)), (13, B true), (0, .yld 2), (1, .ptr (I ((e.items.l.length : Nat) : Int))), (3, I q5_0), (4, .lsl 3 0 va5_0.length 1 none), (7, I q1_0), (8, I q5_0), (11, I ((e.items.l.length : Nat) : Int)), (12, I ((i5 : Nat) : Int))], [(0, ⟨[.agg [.sl e.items.nl (e.items.l.map S_Item.D) (zsl e.items.nl 4) none, I e.whole.lo, I e.whole.hi]], 3, false⟩), (1, ⟨[.lsl 4 0 va1_0.length 2 none], 1, false⟩), (3, ⟨va5_0.map I, 1, false⟩), (4, ⟨va1_0.map Arr2_Int.D, 2, false⟩)], 5, 3⟩

def sd20185 (e : S_Estate) (q1_0 : Int) (i5 : Nat) (q5_0 : Int) (va1_0 : List Arr2_Int) : St := ⟨30, [(12, I ((i5 + 1 : Nat) : Int)), (24, I ((i5 + 1 : Nat) : Int)), (4, .lsl 5 0 1 1 none), (23, .lsl 5 0 1 1 none), (22, .lsl 4 0 1 1 (some 1)), (21, I ((i5 : Nat) : Int)), (20, .sl true [] 0 none), (19, B true), (18, I (w64 ((BitVec.ofInt 64 ((q5_0).fdiv (2 ^ (min (((i5 : Nat) : Int)).toNat 64))) &&& BitVec.ofInt 64 1).toNat : Int))), (17, I ((q5_0).fdiv (2 ^ (min (((i5 : Nat) : Int)).toNat 64)))), (16, I ((i5 : Nat) : Int)), (15, I q5_0), (5, I ((i5 : Nat) : Int)), (14, I ((i5 : Nat) : Int)), (13, B true), (0, .yld 2), (1, .ptr (I ((e.items.l.length : Nat) : Int))), (3, I q5_0), (4, .sl true [] 0 none), (7, I q1_0), (8, I q5_0), (11, I ((e.items.l.length : Nat) : Int)), (12, I ((i5 : Nat) : Int))], [(0, ⟨[.agg [.sl e.items.nl (e.items.l.map S_Item.D) (zsl e.items.nl 4) none, I e.whole.lo, I e.whole.hi]], 3, false⟩), (1, ⟨[.lsl 3 0 va1_0.length 2 none], 1, false⟩), (3, ⟨va1_0.map Arr2_Int.D, 2, false⟩), (4, ⟨[I ((i5 : Nat) : Int)], 1, false⟩), (5, ⟨[I ((i5 : Nat) : Int)], 1, false⟩)], 6, 3⟩

def sd20186 (e : S_Estate) (q1_0 : Int) (i5 : Nat) (q5_0 : Int) (va1_0 : List Arr2_Int) : St := ⟨30, [(12, I ((i5 + 1 : Nat) : Int)), (24, I ((i5 + 1 : Nat) : Int)), (19, B false), (18, I (w64 ((BitVec.ofInt 64 ((q5_0).fdiv (2 ^ (min (((i5 : Nat) : Int)).toNat 64))) &&& BitVec.ofInt 64 1).toNat : Int))), (17, I ((q5_0).fdiv (2 ^ (min (((i5 : Nat) : Int)).toNat 64)))), (16, I ((i5 : Nat) : Int)), (15, I q5_0), (5, I ((i5 : Nat) : Int)), (14, I ((i5 : Nat) : Int)), (13, B true), (0, .yld 2), (1, .ptr (I ((e.items.l.length : Nat) : Int))), (3, I q5_0), (4, .sl true [] 0 none), (7, I q1_0), (8, I q5_0), (11, I ((e.items.l.length : Nat) : Int)), (12, I ((i5 : Nat) : Int))], [(0, ⟨[.agg [.sl e.items.nl (e.items.l.map S_Item.D) (zsl e.items.nl 4) none, I e.whole.lo, I e.whole.hi]], 3, false⟩), (1, ⟨[.lsl 3 0 va1_0.length 2 none], 1, false⟩), (3, ⟨va1_0.map Arr2_Int.D, 2, false⟩)], 4, 3⟩

inductive LR_ls_5 where
  | x0 (va5_0 : List Int)
  | x1
instance : Inhabited LR_ls_5 := ⟨.x0 default⟩
def ls_5a (q5_0 : Int) : List S_Item → Nat → (List Int) → LR_ls_5
  | [], i5, va5_0 => .x0 va5_0
  | x5 :: rest5, i5, va5_0 =>
    bif ((w64 ((BitVec.ofInt 64 ((q5_0).fdiv (2 ^ (min (((i5 : Nat) : Int)).toNat 64))) &&& BitVec.ofInt 64 1).toNat : Int)) == 1) then
      ls_5a q5_0 rest5 (i5 + 1) (va5_0 ++ [((i5 : Nat) : Int)])
    else
      ls_5a q5_0 rest5 (i5 + 1) va5_0
def ls_5 (q5_0 : Int) : List S_Item → Nat → LR_ls_5
  | [], i5 => .x1
  | x5 :: rest5, i5 =>
    bif ((w64 ((BitVec.ofInt 64 ((q5_0).fdiv (2 ^ (min (((i5 : Nat) : Int)).toNat 64))) &&& BitVec.ofInt 64 1).toNat : Int)) == 1) then
      ls_5a q5_0 rest5 (i5 + 1) [((i5 : Nat) : Int)]
    else
      ls_5 q5_0 rest5 (i5 + 1)
def lr_ls_5 (e : S_Estate) (q1_0 : Int) (va1_0 : List Arr2_Int) (q5_0 : Int) : LR_ls_5 → Exit × St × Option Code
  | .x0 va5_0 => ((.exit 2), ⟨30, [(13, B false), (0, .yld 2), (1, .ptr (I ((e.items.l.length : Nat) : Int))), (3, I q5_0), (4, .lsl 3 0 va5_0.length 1 none), (7, I q1_0), (8, I q5_0), (11, I ((e.items.l.length : Nat) : Int)), (12, I ((e.items.l.length : Nat) : Int))], [(0, ⟨[.agg [.sl e.items.nl (e.items.l.map S_Item.D) (zsl e.items.nl 4) none, I e.whole.lo, I e.whole.hi]], 3, false⟩), (1, ⟨[.lsl 4 0 va1_0.length 2 none], 1, false⟩), (3, ⟨va5_0.map I, 1, false⟩), (4, ⟨va1_0.map Arr2_Int.D, 2, false⟩)], 5, 3⟩, none)
  | .x1 => ((.exit 2), ⟨30, [(13, B false), (0, .yld 2), (1, .ptr (I ((e.items.l.length : Nat) : Int))), (3, I q5_0), (4, .sl true [] 0 none), (7, I q1_0), (8, I q5_0), (11, I ((e.items.l.length : Nat) : Int)), (12, I ((e.items.l.length : Nat) : Int))], [(0, ⟨[.agg [.sl e.items.nl (e.items.l.map S_Item.D) (zsl e.items.nl 4) none, I e.whole.lo, I e.whole.hi]], 3, false⟩), (1, ⟨[.lsl 3 0 va1_0.length 2 none], 1, false⟩), (3, ⟨va1_0.map Arr2_Int.D, 2, false⟩)], 4, 3⟩, none)
def iv_ls_5 (e : S_Estate) (q1_0 : Int) (va1_0 : List Arr2_Int) (q5_0 : Int) : LR_ls_5 → Prop
  | .x0 va5_0 => (∀ i ∈ va5_0, 0 ≤ i ∧ i < ((e.items.l.length : Nat) : Int)) ∧ (va5_0.length ≤ 12) ∧ (va5_0.length ≤ e.items.l.length)
  | .x1 => True
theorem lp_ls_5a (e : S_Estate) (q1_0 : Int) (va1_0 : List Arr2_Int) (q5_0 : Int) : ∀ (rest5 : List S_Item) (i5 : Nat) (va5_0 : List Int) (hd5 : e.items.l.drop i5 = rest5) (hi5 : i5 ≤ e.items.l.length) (hm5_va5_0 : ∀ i ∈ va5_0, 0 ≤ i ∧ i < ((e.items.l.length : Nat) : Int)) (hz5_va5_0 : va5_0.length ≤ 12) (hle : e.items.l.length ≤ 12) (hg5_va5_0 : va5_0.length ≤ i5) (hL5 : e.items.l.length ≤ 1099511627776), (lim cfg).loopY (rg20170 e) 96 lp96_5 ⟨30, [(0, .yld 2), (1, .ptr (I ((e.items.l.length : Nat) : Int))), (3, I q5_0), (4, .lsl 3 0 va5_0.length 1 none), (7, I q1_0), (8, I q5_0), (11, I ((e.items.l.length : Nat) : Int)), (12, I ((i5 : Nat) : Int))], [(0, ⟨[.agg [.sl e.items.nl (e.items.l.map S_Item.D) (zsl e.items.nl 4) none, I e.whole.lo, I e.whole.hi]], 3, false⟩), (1, ⟨[.lsl 4 0 va1_0.length 2 none], 1, false⟩), (3, ⟨va5_0.map I, 1, false⟩), (4, ⟨va1_0.map Arr2_Int.D, 2, false⟩)], 5, 3⟩ = some (lr_ls_5 e q1_0 va1_0 q5_0 (ls_5a q5_0 rest5 i5 va5_0)) := by
  intro rest5
  induction rest5 with
  | nil =>
    intro i5 va5_0 hd5 hi5 hm5_va5_0 hz5_va5_0 hle hg5_va5_0 hL5
    unfold ls_5a
    obtain rfl : i5 = e.items.l.length := nil_eq hd5 hi5
    exact po_lastY [.dec false] (And.intro (lt_no hd5) trivial) (by kernel_rfl)
  | cons x5 rest5 ih =>
    intro i5 va5_0 hd5 hi5 hm5_va5_0 hz5_va5_0 hle hg5_va5_0 hL5
    have hlt5 := zt hd5
    unfold ls_5a
    cases h14 : ((w64 ((BitVec.ofInt 64 ((q5_0).fdiv (2 ^ (min (((i5 : Nat) : Int)).toNat 64))) &&& BitVec.ofInt 64 1).toNat : Int)) == 1) with
    | true =>
      exact po_turnY' (ks := [0, 1, 3, 4, 7, 8, 11, 12]) (st' := (sd20183 e q1_0 i5 q5_0 va5_0 va1_0)) [.dec true, .op (some 17) ⟨I ((q5_0).fdiv (2 ^ (min (((i5 : Nat) : Int)).toNat 64))), [], [], 5⟩, .dec true, .op (some 23) ⟨.lsl 6 0 ((va5_0 ++ [((i5 : Nat) : Int)]).length) 1 none, [(3, none), (6, some ⟨(va5_0 ++ [((i5 : Nat) : Int)]).map I, 1, false⟩)], [3, 5], 7⟩, .rw 24 (I ((i5 + 1 : Nat) : Int))] (And.intro (zX (i := i5) (by have := zt hd5; omega)) (And.intro (app_row (f := I) (te := ty3) (gO := zD [(0, ⟨[.agg [.sl e.items.nl (e.items.l.map S_Item.D) (zsl e.items.nl 4) none, I e.whole.lo, I e.whole.hi]], 3, false⟩), (1, ⟨[.lsl 4 0 va1_0.length 2 none], 1, false⟩), (3, ⟨va5_0.map I, 1, false⟩), (4, ⟨va1_0.map Arr2_Int.D, 2, false⟩), (5, ⟨[I ((i5 : Nat) : Int)], 1, false⟩)]) (nxt := 6) (o := 3) (o2 := 5) (fz := false) zl va5_0 ((i5 : Nat) : Int) (by kernel_rfl) (by kernel_rfl) rfl (by kernel_rfl) (by decide) ⟨by simp only [ty3, big] <;> (first | assumption | omega | (with_reducible exact y5) | (with_reducible exact Nat.le_trans open_len (by omega)) | (exact rows_two hi0 rfl (zq (by simp)) (by simp)) | (exact rows_app (by assumption) (zq (by omega)) (by omega)) | (exact rowsR_two hi0 rfl (zZ (by decide)) (by decide)) | (exact rowsR_app (by assumption) (zZ (by omega)) (by omega)) | (with_reducible exact allb_nil) | (with_reducible exact allb_one (by omega)) | (with_reducible exact allb_app (by assumption) (by omega)) | (exact Int.le_trans (n_le (by omega)) (by decide)) | (exact Nat.le_trans (au70_3_4_len (by omega)).2 (by omega)) | (simp only [zr] at * <;> omega) | (simp only [zo, zi, zj, zf, zn, zv, GS.nil_len, GS.some_l, List.length_set, List.length_append, List.length_cons, List.length_nil] at * <;> first | with_reducible assumption | omega) | (simp only [zo, zi, zj, zf, zn, zv, GS.nil_len, GS.some_l, List.length_set, List.length_append, List.length_cons, List.length_nil, zr] at * <;> first | with_reducible assumption | omega) | (simp at * <;> omega)), by simp only [big] <;> (first | assumption | omega | (with_reducible exact y5) | (with_reducible exact Nat.le_trans open_len (by omega)) | (exact rows_two hi0 rfl (zq (by simp)) (by simp)) | (exact rows_app (by assumption) (zq (by omega)) (by omega)) | (exact rowsR_two hi0 rfl (zZ (by decide)) (by decide)) | (exact rowsR_app (by assumption) (zZ (by omega)) (by omega)) | (with_reducible exact allb_nil) | (with_reducible exact allb_one (by omega)) | (with_reducible exact allb_app (by assumption) (by omega)) | (exact Int.le_trans (n_le (by omega)) (by decide)) | (exact Nat.le_trans (au70_3_4_len (by omega)).2 (by omega)) | (simp only [zr] at * <;> omega) | (simp only [zo, zi, zj, zf, zn, zv, GS.nil_len, GS.some_l, List.length_set, List.length_append, List.length_cons, List.length_nil] at * <;> first | with_reducible assumption | omega) | (simp only [zo, zi, zj, zf, zn, zv, GS.nil_len, GS.some_l, List.length_set, List.length_append, List.length_cons, List.length_nil, zr] at * <;> first | with_reducible assumption | omega) | (simp at * <;> omega))⟩) (And.intro h14 (And.intro (shr_op (C := cfg) (t := 3) (cst := false) (nxt := 5) (a := q5_0) (b := ((i5 : Nat) : Int)) (by omega)) (And.intro (lt_at hd5) trivial))))) (by kernel_rfl) (by (simp only [sd20183, go_sem, List.length_set, Nat.reduceAdd, Nat.reduceEqDiff, Nat.reduceLT, Nat.reduceLeDiff, bI2, za.idsL, za.renL, za.snapAll, z7.idsL, z7.renL, z7.snapAll, zl.idsL, zl.renL, zl.snapAll, z8.idsL, z8.renL, z8.snapAll]) <;> rfl) (ih (i5 + 1) (va5_0 ++ [((i5 : Nat) : Int)]) (zA hd5) (zt hd5) (by with_reducible exact allb_app (by assumption) (by omega)) (by simp only [List.length_append, List.length_cons, List.length_nil] at * <;> omega) (by omega) (by simp only [List.length_append, List.length_cons, List.length_nil] at * <;> omega) (by omega)) (by kernel_rfl)
    | false =>
      exact po_turnY' (ks := [0, 1, 3, 4, 7, 8, 11, 12]) (st' := (sd20184 e q1_0 i5 q5_0 va5_0 va1_0)) [.dec true, .op (some 17) ⟨I ((q5_0).fdiv (2 ^ (min (((i5 : Nat) : Int)).toNat 64))), [], [], 5⟩, .dec false, .rw 24 (I ((i5 + 1 : Nat) : Int))] (And.intro (zX (i := i5) (by have := zt hd5; omega)) (And.intro h14 (And.intro (shr_op (C := cfg) (t := 3) (cst := false) (nxt := 5) (a := q5_0) (b := ((i5 : Nat) : Int)) (by omega)) (And.intro (lt_at hd5) trivial)))) (by kernel_rfl) (by (simp only [sd20184, go_sem, List.length_set, Nat.reduceAdd, Nat.reduceEqDiff, Nat.reduceLT, Nat.reduceLeDiff, bI2, za.idsL, za.renL, za.snapAll, z7.idsL, z7.renL, z7.snapAll, zl.idsL, zl.renL, zl.snapAll, z8.idsL, z8.renL, z8.snapAll]) <;> rfl) (ih (i5 + 1) va5_0 (zA hd5) (zt hd5) (by omega) (by omega) (by omega) (by omega) (by omega)) (by kernel_rfl)
theorem ivt_ls_5a (e : S_Estate) (q1_0 : Int) (va1_0 : List Arr2_Int) (q5_0 : Int) : ∀ (rest5 : List S_Item) (i5 : Nat) (va5_0 : List Int) (hd5 : e.items.l.drop i5 = rest5) (hi5 : i5 ≤ e.items.l.length) (hm5_va5_0 : ∀ i ∈ va5_0, 0 ≤ i ∧ i < ((e.items.l.length : Nat) : Int)) (hz5_va5_0 : va5_0.length ≤ 12) (hle : e.items.l.length ≤ 12) (hg5_va5_0 : va5_0.length ≤ i5) (hL5 : e.items.l.length ≤ 1099511627776), iv_ls_5 e q1_0 va1_0 q5_0 (ls_5a q5_0 rest5 i5 va5_0) := by
  intro rest5
  induction rest5 with
  | nil =>
    intro i5 va5_0 hd5 hi5 hm5_va5_0 hz5_va5_0 hle hg5_va5_0 hL5
    unfold ls_5a
    obtain rfl : i5 = e.items.l.length := nil_eq hd5 hi5
    exact ⟨hm5_va5_0, hz5_va5_0, hg5_va5_0⟩
  | cons x5 rest5 ih =>
    intro i5 va5_0 hd5 hi5 hm5_va5_0 hz5_va5_0 hle hg5_va5_0 hL5
    have hlt5 := zt hd5
    unfold ls_5a
    cases h14 : ((w64 ((BitVec.ofInt 64 ((q5_0).fdiv (2 ^ (min (((i5 : Nat) : Int)).toNat 64))) &&& BitVec.ofInt 64 1).toNat : Int)) == 1) with
    | true =>
      exact ih (i5 + 1) (va5_0 ++ [((i5 : Nat) : Int)]) (zA hd5) (zt hd5) (by with_reducible exact allb_app (by assumption) (by omega)) (by simp only [List.length_append, List.length_cons, List.length_nil] at * <;> omega) (by omega) (by simp only [List.length_append, List.length_cons, List.length_nil] at * <;> omega) (by omega)
    | false =>
      exact ih (i5 + 1) va5_0 (zA hd5) (zt hd5) (by omega) (by omega) (by omega) (by omega) (by omega)
theorem lp_ls_5 (e : S_Estate) (q1_0 : Int) (va1_0 : List Arr2_Int) (q5_0 : Int) : ∀ (rest5 : List S_Item) (i5 : Nat) (hd5 : e.items.l.drop i5 = rest5) (hi5 : i5 ≤ e.items.l.length) (hle : e.items.l.length ≤ 12) (hL5 : e.items.l.length ≤ 1099511627776), (lim cfg).loopY (rg20170 e) 96 lp96_5 ⟨30, [(0, .yld 2), (1, .ptr (I ((e.items.l.length : Nat) : Int))), (3, I q5_0), (4, .sl true [] 0 none), (7, I q1_0), (8, I q5_0), (11, I ((e.items.l.length : Nat) : Int)), (12, I ((i5 : Nat) : Int))], [(0, ⟨[.agg [.sl e.items.nl (e.items.l.map S_Item.D) (zsl e.items.nl 4) none, I e.whole.lo, I e.whole.hi]], 3, false⟩), (1, ⟨[.lsl 3 0 va1_0.length 2 none], 1, false⟩), (3, ⟨va1_0.map Arr2_Int.D, 2, false⟩)], 4, 3⟩ = some (lr_ls_5 e q1_0 va1_0 q5_0 (ls_5 q5_0 rest5 i5)) := by
  intro rest5
  induction rest5 with
  | nil =>
    intro i5 hd5 hi5 hle hL5
    unfold ls_5
    obtain rfl : i5 = e.items.l.length := nil_eq hd5 hi5
    exact po_lastY [.dec false] (And.intro (lt_no hd5) trivial) (by kernel_rfl)
  | cons x5 rest5 ih =>
    intro i5 hd5 hi5 hle hL5
    have hlt5 := zt hd5
    unfold ls_5
    cases h15 : ((w64 ((BitVec.ofInt 64 ((q5_0).fdiv (2 ^ (min (((i5 : Nat) : Int)).toNat 64))) &&& BitVec.ofInt 64 1).toNat : Int)) == 1) with
    | true =>
      exact po_turnY' (ks := [0, 1, 3, 4, 7, 8, 11, 12]) (st' := (sd20185 e q1_0 i5 q5_0 va1_0)) [.dec true, .op (some 17) ⟨I ((q5_0).fdiv (2 ^ (min (((i5 : Nat) : Int)).toNat 64))), [], [], 4⟩, .dec true, .rw 24 (I ((i5 + 1 : Nat) : Int))] (And.intro (zX (i := i5) (by have := zt hd5; omega)) (And.intro h15 (And.intro (shr_op (C := cfg) (t := 3) (cst := false) (nxt := 4) (a := q5_0) (b := ((i5 : Nat) : Int)) (by omega)) (And.intro (lt_at hd5) trivial)))) (by kernel_rfl) (by (simp only [sd20185, go_sem, List.length_set, Nat.reduceAdd, Nat.reduceEqDiff, Nat.reduceLT, Nat.reduceLeDiff, bI2, za.idsL, za.renL, za.snapAll, z7.idsL, z7.renL, z7.snapAll, zl.idsL, zl.renL, zl.snapAll, z8.idsL, z8.renL, z8.snapAll]) <;> rfl) (lp_ls_5a e q1_0 va1_0 q5_0 _ (i5 + 1) [((i5 : Nat) : Int)] (zA hd5) (zt hd5) (by with_reducible exact allb_one (by omega)) (by simp only [List.length_append, List.length_cons, List.length_nil] at * <;> omega) (by omega) (by simp only [List.length_append, List.length_cons, List.length_nil] at * <;> omega) (by omega)) (by kernel_rfl)
    | false =>
      exact po_turnY' (ks := [0, 1, 3, 4, 7, 8, 11, 12]) (st' := (sd20186 e q1_0 i5 q5_0 va1_0)) [.dec true, .op (some 17) ⟨I ((q5_0).fdiv (2 ^ (min (((i5 : Nat) : Int)).toNat 64))), [], [], 4⟩, .dec false, .rw 24 (I ((i5 + 1 : Nat) : Int))] (And.intro (zX (i := i5) (by have := zt hd5; omega)) (And.intro h15 (And.intro (shr_op (C := cfg) (t := 3) (cst := false) (nxt := 4) (a := q5_0) (b := ((i5 : Nat) : Int)) (by omega)) (And.intro (lt_at hd5) trivial)))) (by kernel_rfl) (by (simp only [sd20186, go_sem, List.length_set, Nat.reduceAdd, Nat.reduceEqDiff, Nat.reduceLT, Nat.reduceLeDiff, bI2, za.idsL, za.renL, za.snapAll, z7.idsL, z7.renL, z7.snapAll, zl.idsL, zl.renL, zl.snapAll, z8.idsL, z8.renL, z8.snapAll]) <;> rfl) (ih (i5 + 1) (zA hd5) (zt hd5) (by omega) (by omega)) (by kernel_rfl)
theorem ivt_ls_5 (e : S_Estate) (q1_0 : Int) (va1_0 : List Arr2_Int) (q5_0 : Int) : ∀ (rest5 : List S_Item) (i5 : Nat) (hd5 : e.items.l.drop i5 = rest5) (hi5 : i5 ≤ e.items.l.length) (hle : e.items.l.length ≤ 12) (hL5 : e.items.l.length ≤ 1099511627776), iv_ls_5 e q1_0 va1_0 q5_0 (ls_5 q5_0 rest5 i5) := by
  intro rest5
  induction rest5 with
  | nil =>
    intro i5 hd5 hi5 hle hL5
    unfold ls_5
    obtain rfl : i5 = e.items.l.length := nil_eq hd5 hi5
    exact trivial
  | cons x5 rest5 ih =>
    intro i5 hd5 hi5 hle hL5
    have hlt5 := zt hd5
    unfold ls_5
    cases h15 : ((w64 ((BitVec.ofInt 64 ((q5_0).fdiv (2 ^ (min (((i5 : Nat) : Int)).toNat 64))) &&& BitVec.ofInt 64 1).toNat : Int)) == 1) with
    | true =>
      exact ivt_ls_5a e q1_0 va1_0 q5_0 _ (i5 + 1) [((i5 : Nat) : Int)] (zA hd5) (zt hd5) (by with_reducible exact allb_one (by omega)) (by simp only [List.length_append, List.length_cons, List.length_nil] at * <;> omega) (by omega) (by simp only [List.length_append, List.length_cons, List.length_nil] at * <;> omega) (by omega)
    | false =>
      exact ih (i5 + 1) (zA hd5) (zt hd5) (by omega) (by omega)

def sd20188 (e : S_Estate) (q1_0 : Int) (i5p1 : Nat) (q5p1_0 : Int) (va5p1_0 : List Int) : St := ⟨30, [(12, I ((i5p1 + 1 : Nat) : Int)), (24, I ((i5p1 + 1 : Nat) : Int)), (4, .lsl 5 0 ((va5p1_0 ++ [((i5p1 : Nat) : Int)]).length) 1 none), (23, .lsl 5 0 ((va5p1_0 ++ [((i5p1 : Nat) : Int)]).length) 1 none), (22, .lsl 4 0 1 1 (some 1)), (21, I ((i5p1 : Nat) : Int)), (20, .lsl 3 0 va5p1_0.length 1 none), (19, B true), (18, I (w64 ((BitVec.ofInt 64 ((q5p1_0).fdiv (2 ^ (min (((i5p1 : Nat) : Int)).toNat 64))) &&& BitVec.ofInt 64 1).toNat : Int))), (17, I ((q5p1_0).fdiv (2 ^ (min (((i5p1 : Nat) : Int)).toNat 64)))), (16, I ((i5p1 : Nat) : Int)), (15, I q5p1_0), (5, I ((i5p1 : Nat) : Int)), (14, I ((i5p1 : Nat) : Int)), (13, B true), (0, .yld 2), (1, .ptr (I ((e.items.l.length : Nat) : Int))), (3, I q5p1_0), (4, .lsl 3 0 va5p1_0.length 1 none), (7, I q1_0), (8, I q5p1_0), (11, I ((e.items.l.length : Nat) : Int)), (12, I ((i5p1 : Nat) : Int))], [(0, ⟨[.agg [.sl e.items.nl (e.items.l.map S_Item.D) (zsl e.items.nl 4) none, I e.whole.lo, I e.whole.hi]], 3, false⟩), (1, ⟨[.sl true [] 0 none], 1, false⟩), (4, ⟨[I ((i5p1 : Nat) : Int)], 1, false⟩), (5, ⟨(va5p1_0 ++ [((i5p1 : Nat) : Int)]).map I, 1, false⟩)], 6, 3⟩

def sd20189 (e : S_Estate) (q1_0 : Int) (i5p1 : Nat) (q5p1_0 : Int) (va5p1_0 : List Int) : St := ⟨30, [(12, I ((i5p1 + 1 : Nat) : Int)), (24, I ((i5p1 + 1 : Nat) : Int)), (19, B false), (18, I (w64 ((BitVec.ofInt 64 ((q5p1_0).fdiv (2 ^ (min (((i5p1 : Nat) : Int)).toNat 64))) &&& BitVec.ofInt 64 1).toNat : Int))), (17, I ((q5p1_0).fdiv (2 ^ (min (((i5p1 : Nat) : Int)).toNat 64)))), (16, I ((i5p1 : Nat) : Int)), (15, I q5p1_0), (5, I ((i5p1 : Nat) : Int)), (14, I ((i5p1 : Nat) : Int)), (13, B true), (0, .yld 2), (1, .ptr (I ((e.items.l.length : Nat) : Int))), (3, I q5p1_0), (4, .lsl 3 0 va5p1_0.length 1 none), (7, I q1_0), (8, I q5p1_0), (11, I ((e.items.l.length : Nat) : Int)), (12, I ((i5p1 : Nat) : Int))], [(0, ⟨[.agg [.sl e.items.nl (e.items.l.map S_Item.D) (zsl e.items.nl 4) none, I e.whole.lo, I e.whole.hi]], 3, false⟩), (1, ⟨[.sl true [] 0 none], 1, false⟩), (3, ⟨va5p1_0.map I, 1, false⟩)], 4, 3⟩

inductive LR_ls_5p1 where
  | x0 (va5p1_0 : List Int)
  | x1
instance : Inhabited LR_ls_5p1 := ⟨.x0 default⟩
def ls_5p1a (q5p1_0 : Int) : List S_Item → Nat → (List Int) → LR_ls_5p1
  | [], i5p1, va5p1_0 => .x0 va5p1_0
  | x5p1 :: rest5p1, i5p1, va5p1_0 =>
    bif ((w64 ((BitVec.ofInt 64 ((q5p1_0).fdiv (2 ^ (min (((i5p1 : Nat) : Int)).toNat 64))) &&& BitVec.ofInt 64 1).toNat : Int)) == 1) then
      ls_5p1a q5p1_0 rest5p1 (i5p1 + 1) (va5p1_0 ++ [((i5p1 : Nat) : Int)])
    else
      ls_5p1a q5p1_0 rest5p1 (i5p1 + 1) va5p1_0
def ls_5p1 (q5p1_0 : Int) : List S_Item → Nat → LR_ls_5p1
  | [], i5p1 => .x1
  | x5p1 :: rest5p1, i5p1 =>
    bif ((w64 ((BitVec.ofInt 64 ((q5p1_0).fdiv (2 ^ (min (((i5p1 : Nat) : Int)).toNat 64))) &&& BitVec.ofInt 64 1).toNat : Int)) == 1) then
      ls_5p1a q5p1_0 rest5p1 (i5p1 + 1) [((i5p1 : Nat) : Int)]
    else
      ls_5p1 q5p1_0 rest5p1 (i5p1 + 1)
def lr_ls_5p1 (e : S_Estate) (q1_0 : Int) (q5p1_0 : Int) : LR_ls_5p1 → Exit × St × Option Code
  | .x0 va5p1_0 => ((.exit 2), ⟨30, [(13, B false), (0, .yld 2), (1, .ptr (I ((e.items.l.length : Nat) : Int))), (3, I q5p1_0), (4, .lsl 3 0 va5p1_0.length 1 none), (7, I q1_0), (8, I q5p1_0), (11, I ((e.items.l.length : Nat) : Int)), (12, I ((e.items.l.length : Nat) : Int))], [(0, ⟨[.agg [.sl e.items.nl (e.items.l.map S_Item.D) (zsl e.items.nl 4) none, I e.whole.lo, I e.whole.hi]], 3, false⟩), (1, ⟨[.sl true [] 0 none], 1, false⟩), (3, ⟨va5p1_0.map I, 1, false⟩)], 4, 3⟩, none)
  | .x1 => ((.exit 2), ⟨30, [(13, B false), (0, .yld 2), (1, .ptr (I ((e.items.l.length : Nat) : Int))), (3, I q5p1_0), (4, .sl true [] 0 none), (7, I q1_0), (8, I q5p1_0), (11, I ((e.items.l.length : Nat) : Int)), (12, I ((e.items.l.length : Nat) : Int))], [(0, ⟨[.agg [.sl e.items.nl (e.items.l.map S_Item.D) (zsl e.items.nl 4) none, I e.whole.lo, I e.whole.hi]], 3, false⟩), (1, ⟨[.sl true [] 0 none], 1, false⟩)], 3, 3⟩, none)
def iv_ls_5p1 (e : S_Estate) (q1_0 : Int) (q5p1_0 : Int) : LR_ls_5p1 → Prop
  | .x0 va5p1_0 => (∀ i ∈ va5p1_0, 0 ≤ i ∧ i < ((e.items.l.length : Nat) : Int)) ∧ (va5p1_0.length ≤ 12) ∧ (va5p1_0.length ≤ e.items.l.length)
  | .x1 => True
theorem lp_ls_5p1a (e : S_Estate) (q1_0 : Int) (q5p1_0 : Int) : ∀ (rest5p1 : List S_Item) (i5p1 : Nat) (va5p1_0 : List Int) (hd5p1 : e.items.l.drop i5p1 = rest5p1) (hi5p1 : i5p1 ≤ e.items.l.length) (hm5p1_va5p1_0 : ∀ i ∈ va5p1_0, 0 ≤ i ∧ i < ((e.items.l.length : Nat) : Int)) (hz5p1_va5p1_0 : va5p1_0.length ≤ 12) (hle : e.items.l.length ≤ 12) (hg5p1_va5p1_0 : va5p1_0.length ≤ i5p1) (hL5p1 : e.items.l.length ≤ 1099511627776), (lim cfg).loopY (rg20170 e) 96 lp96_5 ⟨30, [(0, .yld 2), (1, .ptr (I ((e.items.l.length : Nat) : Int))), (3, I q5p1_0), (4, .lsl 3 0 va5p1_0.length 1 none), (7, I q1_0), (8, I q5p1_0), (11, I ((e.items.l.length : Nat) : Int)), (12, I ((i5p1 : Nat) : Int))], [(0, ⟨[.agg [.sl e.items.nl (e.items.l.map S_Item.D) (zsl e.items.nl 4) none, I e.whole.lo, I e.whole.hi]], 3, false⟩), (1, ⟨[.sl true [] 0 none], 1, false⟩), (3, ⟨va5p1_0.map I, 1, false⟩)], 4, 3⟩ = some (lr_ls_5p1 e q1_0 q5p1_0 (ls_5p1a q5p1_0 rest5p1 i5p1 va5p1_0)) := by
  intro rest5p1
  induction rest5p1 with
  | nil =>
    intro i5p1 va5p1_0 hd5p1 hi5p1 hm5p1_va5p1_0 hz5p1_va5p1_0 hle hg5p1_va5p1_0 hL5p1
    unfold ls_5p1a
    obtain rfl : i5p1 = e.items.l.length := nil_eq hd5p1 hi5p1
    exact po_lastY [.dec false] (And.intro (lt_no hd5p1) trivial) (by kernel_rfl)
  | cons x5p1 rest5p1 ih =>
    intro i5p1 va5p1_0 hd5p1 hi5p1 hm5p1_va5p1_0 hz5p1_va5p1_0 hle hg5p1_va5p1_0 hL5p1
    have hlt5p1 := zt hd5p1
    unfold ls_5p1a
    cases h19 : ((w64 ((BitVec.ofInt 64 ((q5p1_0).fdiv (2 ^ (min (((i5p1 : Nat) : Int)).toNat 64))) &&& BitVec.ofInt 64 1).toNat : Int)) == 1) with
    | true =>
      exact po_turnY' (ks := [0, 1, 3, 4, 7, 8, 11, 12]) (st' := (sd20188 e q1_0 i5p1 q5p1_0 va5p1_0)) [.dec true, .op (some 17) ⟨I ((q5p1_0).fdiv (2 ^ (min (((i5p1 : Nat) : Int)).toNat 64))), [], [], 4⟩, .dec true, .op (some 23) ⟨.lsl 5 0 ((va5p1_0 ++ [((i5p1 : Nat) : Int)]).length) 1 none, [(3, none), (5, some ⟨(va5p1_0 ++ [((i5p1 : Nat) : Int)]).map I, 1, false⟩)], [3, 4], 6⟩, .rw 24 (I ((i5p1 + 1 : Nat) : Int))] (And.intro (zX (i := i5p1) (by have := zt hd5p1; omega)) (And.intro (app_row (f := I) (te := ty3) (gO := zD [(0, ⟨[.agg [.sl e.items.nl (e.items.l.map S_Item.D) (zsl e.items.nl 4) none, I e.whole.lo, I e.whole.hi]], 3, false⟩), (1, ⟨[.sl true [] 0 none], 1, false⟩), (3, ⟨va5p1_0.map I, 1, false⟩), (4, ⟨[I ((i5p1 : Nat) : Int)], 1, false⟩)]) (nxt := 5) (o := 3) (o2 := 4) (fz := false) zl va5p1_0 ((i5p1 : Nat) : Int) (by kernel_rfl) (by kernel_rfl) rfl (by kernel_rfl) (by decide) ⟨by simp only [ty3, big] <;> (first | assumption | omega | (with_reducible exact y5) | (with_reducible exact Nat.le_trans open_len (by omega)) | (exact rows_two hi0 rfl (zq (by simp)) (by simp)) | (exact rows_app (by assumption) (zq (by omega)) (by omega)) | (exact rowsR_two hi0 rfl (zZ (by decide)) (by decide)) | (exact rowsR_app (by assumption) (zZ (by omega)) (by omega)) | (with_reducible exact allb_nil) | (with_reducible exact allb_one (by omega)) | (with_reducible exact allb_app (by assumption) (by omega)) | (exact Int.le_trans (n_le (by omega)) (by decide)) | (exact Nat.le_trans (au70_3_4_len (by omega)).2 (by omega)) | (simp only [zr] at * <;> omega) | (simp only [zo, zi, zj, zf, zn, zv, GS.nil_len, GS.some_l, List.length_set, List.length_append, List.length_cons, List.length_nil] at * <;> first | with_reducible assumption | omega) | (simp only [zo, zi, zj, zf, zn, zv, GS.nil_len, GS.some_l, List.length_set, List.length_append, List.length_cons, List.length_nil, zr] at * <;> first | with_reducible assumption | omega) | (simp at * <;> omega)), by simp only [big] <;> (first | assumption | omega | (with_reducible exact y5) | (with_reducible exact Nat.le_trans open_len (by omega)) | (exact rows_two hi0 rfl (zq (by simp)) (by simp)) | (exact rows_app (by assumption) (zq (by omega)) (by omega)) | (exact rowsR_two hi0 rfl (zZ (by decide)) (by decide)) | (exact rowsR_app (by assumption) (zZ (by omega)) (by omega)) | (with_reducible exact allb_nil) | (with_reducible exact allb_one (by omega)) | (with_reducible exact allb_app (by assumption) (by omega)) | (exact Int.le_trans (n_le (by omega)) (by decide)) | (exact Nat.le_trans (au70_3_4_len (by omega)).2 (by omega)) | (simp only [zr] at * <;> omega) | (simp only [zo, zi, zj, zf, zn, zv, GS.nil_len, GS.some_l, List.length_set, List.length_append, List.length_cons, List.length_nil] at * <;> first | with_reducible assumption | omega) | (simp only [zo, zi, zj, zf, zn, zv, GS.nil_len, GS.some_l, List.length_set, List.length_append, List.length_cons, List.length_nil, zr] at * <;> first | with_reducible assumption | omega) | (simp at * <;> omega))⟩) (And.intro h19 (And.intro (shr_op (C := cfg) (t := 3) (cst := false) (nxt := 4) (a := q5p1_0) (b := ((i5p1 : Nat) : Int)) (by omega)) (And.intro (lt_at hd5p1) trivial))))) (by kernel_rfl) (by (simp only [sd20188, go_sem, List.length_set, Nat.reduceAdd, Nat.reduceEqDiff, Nat.reduceLT, Nat.reduceLeDiff, bI2, za.idsL, za.renL, za.snapAll, z7.idsL, z7.renL, z7.snapAll, zl.idsL, zl.renL, zl.snapAll, z8.idsL, z8.renL, z8.snapAll]) <;> rfl) (ih (i5p1 + 1) (va5p1_0 ++ [((i5p1 : Nat) : Int)]) (zA hd5p1) (zt hd5p1) (by with_reducible exact allb_app (by assumption) (by omega)) (by simp only [List.length_append, List.length_cons, List.length_nil] at * <;> omega) (by omega) (by simp only [List.length_append, List.length_cons, List.length_nil] at * <;> omega) (by omega)) (by kernel_rfl)
    | false =>
      exact po_turnY' (ks := [0, 1, 3, 4, 7, 8, 11, 12]) (st' := (sd20189 e q1_0 i5p1 q5p1_0 va5p1_0)) [.dec true, .op (some 17) ⟨I ((q5p1_0).fdiv (2 ^ (min (((i5p1 : Nat) : Int)).toNat 64))), [], [], 4⟩, .dec false, .rw 24 (I ((i5p1 + 1 : Nat) : Int))] (And.intro (zX (i := i5p1) (by have := zt hd5p1; omega)) (And.intro h19 (And.intro (shr_op (C := cfg) (t := 3) (cst := false) (nxt := 4) (a := q5p1_0) (b := ((i5p1 : Nat) : Int)) (by omega)) (And.intro (lt_at hd5p1) trivial)))) (by kernel_rfl) (by (simp only [sd20189, go_sem, List.length_set, Nat.reduceAdd, Nat.reduceEqDiff, Nat.reduceLT, Nat.reduceLeDiff, bI2, za.idsL, za.renL, za.snapAll, z7.idsL, z7.renL, z7.snapAll, zl.idsL, zl.renL, zl.snapAll, z8.idsL, z8.renL, z8.snapAll]) <;> rfl) (ih (i5p1 + 1) va5p1_0 (zA hd5p1) (zt hd5p1) (by omega) (by omega) (by omega) (by omega) (by omega)) (by kernel_rfl)
theorem ivt_ls_5p1a (e : S_Estate) (q1_0 : Int) (q5p1_0 : Int) : ∀ (rest5p1 : List S_Item) (i5p1 : Nat) (va5p1_0 : List Int) (hd5p1 : e.items.l.drop i5p1 = rest5p1) (hi5p1 : i5p1 ≤ e.items.l.length) (hm5p1_va5p1_0 : ∀ i ∈ va5p1_0, 0 ≤ i ∧ i < ((e.items.l.length : Nat) : Int)) (hz5p1_va5p1_0 : va5p1_0.length ≤ 12) (hle : e.items.l.length ≤ 12) (hg5p1_va5p1_0 : va5p1_0.length ≤ i5p1) (hL5p1 : e.items.l.length ≤ 1099511627776), iv_ls_5p1 e q1_0 q5p1_0 (ls_5p1a q5p1_0 rest5p1 i5p1 va5p1_0) := by
  intro rest5p1
  induction rest5p1 with
  | nil =>
    intro i5p1 va5p1_0 hd5p1 hi5p1 hm5p1_va5p1_0 hz5p1_va5p1_0 hle hg5p1_va5p1_0 hL5p1
    unfold ls_5p1a
    obtain rfl : i5p1 = e.items.l.length := nil_eq hd5p1 hi5p1
    exact ⟨hm5p1_va5p1_0, hz5p1_va5p1_0, hg5p1_va5p1_0⟩
  | cons x5p1 rest5p1 ih =>
    intro i5p1 va5p1_0 hd5p1 hi5p1 hm5p1_va5p1_0 hz5p1_va5p1_0 hle hg5p1_va5p1_0 hL5p1
    have hlt5p1 := zt hd5p1
    unfold ls_5p1a
    cases h19 : ((w64 ((BitVec.ofInt 64 ((q5p1_0).fdiv (2 ^ (min (((i5p1 : Nat) : Int)).toNat 64))) &&& BitVec.ofInt 64 1).toNat : Int)) == 1) with
    | true =>
      exact ih (i5p1 + 1) (va5p1_0 ++ [((i5p1 : Nat) : Int)]) (zA hd5p1) (zt hd5p1) (by with_reducible exact allb_app (by assumption) (by omega)) (by simp only [List.length_append, List.length_cons, List.length_nil] at * <;> omega) (by omega) (by simp only [List.length_append, List.length_cons, List.length_nil] at * <;> omega) (by omega)
    | false =>
      exact ih (i5p1 + 1) va5p1_0 (zA hd5p1) (zt hd5p1) (by omega) (by omega) (by omega) (by omega) (by omega)
theorem lp_ls_5p1 (e : S_Estate) (q1_0 : Int) (q5p1_0 : Int) : ∀ (rest5p1 : List S_Item) (i5p1 : Nat) (hd5p1 : e.items.l.drop i5p1 = rest5p1) (hi5p1 : i5p1 ≤ e.items.l.length) (hle : e.items.l.length ≤ 12) (hL5p1 : e.items.l.length ≤ 1099511627776), (lim cfg).loopY (rg20170 e) 96 lp96_5 ⟨30, [(0, .yld 2), (1, .ptr (I ((e.items.l.length : Nat) : Int))), (3, I q5p1_0), (4, .sl true [] 0 none), (7, I q1_0), (8, I q5p1_0), (11, I ((e.items.l.length : Nat) : Int)), (12, I ((i5p1 : Nat) : Int))], [(0, ⟨[.agg [.sl e.items.nl (e.items.l.map S_Item.D) (zsl e.items.nl 4) none, I e.whole.lo, I e.whole.hi]], 3, false⟩), (1, ⟨[.sl true [] 0 none], 1, false⟩)], 3, 3⟩ = some (lr_ls_5p1 e q1_0 q5p1_0 (ls_5p1 q5p1_0 rest5p1 i5p1)) := by
  intro rest5p1
  induction rest5p1 with
  | nil =>
    intro i5p1 hd5p1 hi5p1 hle hL5p1
    unfold ls_5p1
    obtain rfl : i5p1 = e.items.l.length := nil_eq hd5p1 hi5p1
    exact po_lastY [.dec false] (And.intro (lt_no hd5p1) trivial) (by kernel_rfl)
  | cons x5p1 rest5p1 ih =>
    intro i5p1 hd5p1 hi5p1 hle hL5p1
    have hlt5p1 := zt hd5p1
    unfold ls_5p1
    cases h20 : ((w64 ((BitVec.ofInt 64 ((q5p1_0).fdiv (2 ^ (min (((i5p1 : Nat) : Int)).toNat 64))) &&& BitVec.ofInt 64 1).toNat : Int)) == 1) with
    | true =>
      exact po_turnY [.dec true, .op (some 17) ⟨I ((q5p1_0).fdiv (2 ^ (min (((i5p1 : Nat) : Int)).toNat 64))), [], [], 3⟩, .dec true, .rw 24 (I ((i5p1 + 1 : Nat) : Int))] (And.intro (zX (i := i5p1) (by have := zt hd5p1; omega)) (And.intro h20 (And.intro (shr_op (C := cfg) (t := 3) (cst := false) (nxt := 3) (a := q5p1_0) (b := ((i5p1 : Nat) : Int)) (by omega)) (And.intro (lt_at hd5p1) trivial)))) (lp_ls_5p1a e q1_0 q5p1_0 _ (i5p1 + 1) [((i5p1 : Nat) : Int)] (zA hd5p1) (zt hd5p1) (by with_reducible exact allb_one (by omega)) (by simp only [List.length_append, List.length_cons, List.length_nil] at * <;> omega) (by omega) (by simp only [List.length_append, List.length_cons, List.length_nil] at * <;> omega) (by omega)) (by kernel_rfl)
    | false =>
      exact po_turnY [.dec true, .op (some 17) ⟨I ((q5p1_0).fdiv (2 ^ (min (((i5p1 : Nat) : Int)).toNat 64))), [], [], 3⟩, .dec false, .rw 24 (I ((i5p1 + 1 : Nat) : Int))] (And.intro (zX (i := i5p1) (by have := zt hd5p1; omega)) (And.intro h20 (And.intro (shr_op (C := cfg) (t := 3) (cst := false) (nxt := 3) (a := q5p1_0) (b := ((i5p1 : Nat) : Int)) (by omega)) (And.intro (lt_at hd5p1) trivial)))) (ih (i5p1 + 1) (zA hd5p1) (zt hd5p1) (by omega) (by omega)) (by kernel_rfl)
theorem ivt_ls_5p1 (e : S_Estate) (q1_0 : Int) (q5p1_0 : Int) : ∀ (rest5p1 : List S_Item) (i5p1 : Nat) (hd5p1 : e.items.l.drop i5p1 = rest5p1) (hi5p1 : i5p1 ≤ e.items.l.length) (hle : e.items.l.length ≤ 12) (hL5p1 : e.items.l.length ≤ 1099511627776), iv_ls_5p1 e q1_0 q5p1_0 (ls_5p1 q5p1_0 rest5p1 i5p1) := by
  intro rest5p1
  induction rest5p1 with
  | nil =>
    intro i5p1 hd5p1 hi5p1 hle hL5p1
    unfold ls_5p1
    obtain rfl : i5p1 = e.items.l.length := nil_eq hd5p1 hi5p1
    exact trivial
  | cons x5p1 rest5p1 ih =>
    intro i5p1 hd5p1 hi5p1 hle hL5p1
    have hlt5p1 := zt hd5p1
    unfold ls_5p1
    cases h20 : ((w64 ((BitVec.ofInt 64 ((q5p1_0).fdiv (2 ^ (min (((i5p1 : Nat) : Int)).toNat 64))) &&& BitVec.ofInt 64 1).toNat : Int)) == 1) with
    | true =>
      exact ivt_ls_5p1a e q1_0 q5p1_0 _ (i5p1 + 1) [((i5p1 : Nat) : Int)] (zA hd5p1) (zt hd5p1) (by with_reducible exact allb_one (by omega)) (by simp only [List.length_append, List.length_cons, List.length_nil] at * <;> omega) (by omega) (by simp only [List.length_append, List.length_cons, List.length_nil] at * <;> omega) (by omega)
    | false =>
      exact ih (i5p1 + 1) (zA hd5p1) (zt hd5p1) (by omega) (by omega)

noncomputable def lp96_1 : Code := subC [1, 0, 0] (bodyC Try.f96)

def sd20191 (e : S_Estate) (i1 : Nat) (q1_0 : Int) (va5_0 : List Int) (va1_0 : List Arr2_Int) : St := ⟨30, [(8, I ((i1 + 1 : Nat) : Int)), (29, I ((i1 + 1 : Nat) : Int)), (28, B false), (27, B true), (26, .lsl 3 0 va5_0.length 1 none), (25, .yld 2), (13, B false), (0, .yld 2), (1, .ptr (I ((e.items.l.length : Nat) : Int))), (3, I ((i1 : Nat) : Int)), (4, .lsl 3 0 va5_0.length 1 none), (7, I q1_0), (8, I ((i1 : Nat) : Int)), (11, I ((e.items.l.length : Nat) : Int)), (12, I ((e.items.l.length : Nat) : Int))], [(0, ⟨[.agg [.sl e.items.nl (e.items.l.map S_Item.D) (zsl e.items.nl 4) none, I e.whole.lo, I e.whole.hi]], 3, false⟩), (1, ⟨[.lsl 6 0 ((va1_0 ++ [(⟨(zp e (GS.some va5_0)), w64 (0 - (zw e (GS.some va5_0)))⟩ : Arr2_Int)]).length) 2 none], 1, false⟩), (3, ⟨va5_0.map I, 1, false⟩), (5, ⟨[.agg [I (zp e (GS.some va5_0)), I (w64 (0 - (zw e (GS.some va5_0))))]], 2, false⟩), (6, ⟨(va1_0 ++ [(⟨(zp e (GS.some va5_0)), w64 (0 - (zw e (GS.some va5_0)))⟩ : Arr2_Int)]).map Arr2_Int.D, 2, false⟩)], 7, 3⟩

def sd20180 (e : S_Estate) (i1 : Nat) (q1_0 : Int) (va1_0 : List Arr2_Int) : St := ⟨30, [(0, .yld 2), (1, .ptr (I ((e.items.l.length : Nat) : Int))), (3, I ((i1 : Nat) : Int)), (4, .sl true [] 0 none), (7, I q1_0), (8, I ((i1 : Nat) : Int)), (11, I ((e.items.l.length : Nat) : Int)), (12, I 0)], [(0, ⟨[.agg [.sl e.items.nl (e.items.l.map S_Item.D) (zsl e.items.nl 4) none, I e.whole.lo, I e.whole.hi]], 3, false⟩), (1, ⟨[.lsl 3 0 va1_0.length 2 none], 1, false⟩), (3, ⟨va1_0.map Arr2_Int.D, 2, false⟩)], 4, 3⟩

def sd20187 (e : S_Estate) (i1 : Nat) (q1_0 : Int) (va5_0 : List Int) (va1_0 : List Arr2_Int) : St := ⟨30, [(13, B false), (0, .yld 2), (1, .ptr (I ((e.items.l.length : Nat) : Int))), (3, I ((i1 : Nat) : Int)), (4, .lsl 3 0 va5_0.length 1 none), (7, I q1_0), (8, I ((i1 : Nat) : Int)), (11, I ((e.items.l.length : Nat) : Int)), (12, I ((e.items.l.length : Nat) : Int))], [(0, ⟨[.agg [.sl e.items.nl (e.items.l.map S_Item.D) (zsl e.items.nl 4) none, I e.whole.lo, I e.whole.hi]], 3, false⟩), (1, ⟨[.lsl 4 0 va1_0.length 2 none], 1, false⟩), (3, ⟨va5_0.map I, 1, false⟩), (4, ⟨va1_0.map Arr2_Int.D, 2, false⟩)], 5, 3⟩

def sd20179 (e : S_Estate) (i1 : Nat) (q1_0 : Int) (va1_0 : List Arr2_Int) : St := ⟨30, [(12, I 0), (11, I ((e.items.l.length : Nat) : Int)), (4, .sl true [] 0 none), (3, I ((i1 : Nat) : Int)), (10, I ((i1 : Nat) : Int)), (9, B true), (0, .yld 2), (1, .ptr (I ((e.items.l.length : Nat) : Int))), (7, I q1_0), (8, I ((i1 : Nat) : Int))], [(0, ⟨[.agg [.sl e.items.nl (e.items.l.map S_Item.D) (zsl e.items.nl 4) none, I e.whole.lo, I e.whole.hi]], 3, false⟩), (1, ⟨[.lsl 3 0 va1_0.length 2 none], 1, false⟩), (3, ⟨va1_0.map Arr2_Int.D, 2, false⟩)], 4, 3⟩

def sd20192 (e : S_Estate) (i1 : Nat) (q1_0 : Int) (va1_0 : List Arr2_Int) : St := ⟨30, [(8, I ((i1 + 1 : Nat) : Int)), (29, I ((i1 + 1 : Nat) : Int)), (28, B false), (27, B true), (26, .sl true [] 0 none), (25, .yld 2), (13, B false), (0, .yld 2), (1, .ptr (I ((e.items.l.length : Nat) : Int))), (3, I ((i1 : Nat) : Int)), (4, .sl true [] 0 none), (7, I q1_0), (8, I ((i1 : Nat) : Int)), (11, I ((e.items.l.length : Nat) : Int)), (12, I ((e.items.l.length : Nat) : Int))], [(0, ⟨[.agg [.sl e.items.nl (e.items.l.map S_Item.D) (zsl e.items.nl 4) none, I e.whole.lo, I e.whole.hi]], 3, false⟩), (1, ⟨[.lsl 5 0 ((va1_0 ++ [(⟨(zp e GS.nil), w64 (0 - (zw e GS.nil))⟩ : Arr2_Int)]).length) 2 none], 1, false⟩), (4, ⟨[.agg [I (zp e GS.nil), I (w64 (0 - (zw e GS.nil)))]], 2, false⟩), (5, ⟨(va1_0 ++ [(⟨(zp e GS.nil), w64 (0 - (zw e GS.nil))⟩ : Arr2_Int)]).map Arr2_Int.D, 2, false⟩)], 6, 3⟩

def sd20182 (e : S_Estate) (i1 : Nat) (q1_0 : Int) (va1_0 : List Arr2_Int) : St := ⟨30, [(13, B false), (0, .yld 2), (1, .ptr (I ((e.items.l.length : Nat) : Int))), (3, I ((i1 : Nat) : Int)), (4, .sl true [] 0 none), (7, I q1_0), (8, I ((i1 : Nat) : Int)), (11, I ((e.items.l.length : Nat) : Int)), (12, I ((e.items.l.length : Nat) : Int))], [(0, ⟨[.agg [.sl e.items.nl (e.items.l.map S_Item.D) (zsl e.items.nl 4) none, I e.whole.lo, I e.whole.hi]], 3, false⟩), (1, ⟨[.lsl 3 0 va1_0.length 2 none], 1, false⟩), (3, ⟨va1_0.map Arr2_Int.D, 2, false⟩)], 4, 3⟩

def sd20193 (e : S_Estate) (i1 : Nat) (q1_0 : Int) (va5p1_0 : List Int) : St := ⟨30, [(8, I ((i1 + 1 : Nat) : Int)), (29, I ((i1 + 1 : Nat) : Int)), (28, B false), (27, B true), (26, .lsl 3 0 va5p1_0.length 1 none), (25, .yld 2), (13, B false), (0, .yld 2), (1, .ptr (I ((e.items.l.length : Nat) : Int))), (3, I ((i1 : Nat) : Int)), (4, .lsl 3 0 va5p1_0.length 1 none), (7, I q1_0), (8, I ((i1 : Nat) : Int)), (11, I ((e.items.l.length : Nat) : Int)), (12, I ((e.items.l.length : Nat) : Int))], [(0, ⟨[.agg [.sl e.items.nl (e.items.l.map S_Item.D) (zsl e.items.nl 4) none, I e.whole.lo, I e.whole.hi]], 3, false⟩), (1, ⟨[.lsl 5 0 1 2 none], 1, false⟩), (3, ⟨va5p1_0.map I, 1, false⟩), (4, ⟨[.agg [I (zp e (GS.some va5p1_0)), I (w64 (0 - (zw e (GS.some va5p1_0))))]], 2, false⟩), (5, ⟨[.agg [I (zp e (GS.some va5p1_0)), I (w64 (0 - (zw e (GS.some va5p1_0))))]], 2, false⟩)], 6, 3⟩

def sd20190 (e : S_Estate) (i1 : Nat) (q1_0 : Int) (va5p1_0 : List Int) : St := ⟨30, [(13, B false), (0, .yld 2), (1, .ptr (I ((e.items.l.length : Nat) : Int))), (3, I ((i1 : Nat) : Int)), (4, .lsl 3 0 va5p1_0.length 1 none), (7, I q1_0), (8, I ((i1 : Nat) : Int)), (11, I ((e.items.l.length : Nat) : Int)), (12, I ((e.items.l.length : Nat) : Int))], [(0, ⟨[.agg [.sl e.items.nl (e.items.l.map S_Item.D) (zsl e.items.nl 4) none, I e.whole.lo, I e.whole.hi]], 3, false⟩), (1, ⟨[.sl true [] 0 none], 1, false⟩), (3, ⟨va5p1_0.map I, 1, false⟩)], 4, 3⟩

def sd20174 (e : S_Estate) (i1 : Nat) (q1_0 : Int) : St := ⟨30, [(13, B false), (0, .yld 2), (1, .ptr (I ((e.items.l.length : Nat) : Int))), (3, I ((i1 : Nat) : Int)), (4, .sl true [] 0 none), (7, I q1_0), (8, I ((i1 : Nat) : Int)), (11, I ((e.items.l.length : Nat) : Int)), (12, I ((e.items.l.length : Nat) : Int))], [(0, ⟨[.agg [.sl e.items.nl (e.items.l.map S_Item.D) (zsl e.items.nl 4) none, I e.whole.lo, I e.whole.hi]], 3, false⟩), (1, ⟨[.sl true [] 0 none], 1, false⟩)], 3, 3⟩

inductive LR_ls_1 where
  | x0 (i1 : Nat) (va1_0 : List Arr2_Int)
  | x1 (i1 : Nat)
instance : Inhabited LR_ls_1 := ⟨.x0 default default⟩
def ls_1a (e : S_Estate) : Nat → Nat → (List Arr2_Int) → LR_ls_1
  | 0, i1, va1_0 => .x0 i1 va1_0
  | rest1 + 1, i1, va1_0 =>
    match ls_5 ((i1 : Nat) : Int) e.items.l 0 with
    | .x0 va5_0 =>
      ls_1a e rest1 (i1 + 1) (va1_0 ++ [(⟨(zp e (GS.some va5_0)), w64 (0 - (zw e (GS.some va5_0)))⟩ : Arr2_Int)])
    | .x1 =>
      ls_1a e rest1 (i1 + 1) (va1_0 ++ [(⟨(zp e GS.nil), w64 (0 - (zw e GS.nil))⟩ : Arr2_Int)])
def ls_1 (e : S_Estate) : Nat → Nat → LR_ls_1
  | 0, i1 => .x1 i1
  | rest1 + 1, i1 =>
    match ls_5p1 ((i1 : Nat) : Int) e.items.l 0 with
    | .x0 va5p1_0 =>
      ls_1a e rest1 (i1 + 1) [(⟨(zp e (GS.some va5p1_0)), w64 (0 - (zw e (GS.some va5p1_0)))⟩ : Arr2_Int)]
    | .x1 =>
      ls_1a e rest1 (i1 + 1) [(⟨(zp e GS.nil), w64 (0 - (zw e GS.nil))⟩ : Arr2_Int)]
def lr_ls_1 (e : S_Estate) (q1_0 : Int) : LR_ls_1 → Exit × St × Option Code
  | .x0 i1 va1_0 => ((.exit 0), ⟨30, [(9, B false), (0, .yld 2), (1, .ptr (I ((e.items.l.length : Nat) : Int))), (7, I q1_0), (8, I ((i1 : Nat) : Int))], [(0, ⟨[.agg [.sl e.items.nl (e.items.l.map S_Item.D) (zsl e.items.nl 4) none, I e.whole.lo, I e.whole.hi]], 3, false⟩), (1, ⟨[.lsl 3 0 va1_0.length 2 none], 1, false⟩), (3, ⟨va1_0.map Arr2_Int.D, 2, false⟩)], 4, 3⟩, none)
  | .x1 i1 => ((.exit 0), ⟨30, [(9, B false), (0, .yld 2), (1, .ptr (I ((e.items.l.length : Nat) : Int))), (7, I q1_0), (8, I ((i1 : Nat) : Int))], [(0, ⟨[.agg [.sl e.items.nl (e.items.l.map S_Item.D) (zsl e.items.nl 4) none, I e.whole.lo, I e.whole.hi]], 3, false⟩), (1, ⟨[.sl true [] 0 none], 1, false⟩)], 3, 3⟩, none)
def iv_ls_1 (e : S_Estate) (q1_0 : Int) : LR_ls_1 → Prop
  | .x0 i1 va1_0 => (1 ≤ va1_0.length ∧ va1_0.length ≤ i1 ∧ i1 ≤ 4096) ∧ (va1_0.length ≤ i1)
  | .x1 i1 => True
theorem lp_ls_1a (e : S_Estate) (q1_0 : Int) : ∀ (rest1 : Nat) (i1 : Nat) (va1_0 : List Arr2_Int) (hk1 : (q1_0 - ((i1 : Nat) : Int)).toNat = rest1) (hN1 : q1_0 ≤ 9223372036854775807) (hle : e.items.l.length ≤ 12) (hq4 : q1_0 ≤ 4096) (hv4 : 1 ≤ va1_0.length ∧ va1_0.length ≤ i1 ∧ i1 ≤ 4096) (hg1_va1_0 : va1_0.length ≤ i1) (hL1 : q1_0 ≤ 1099511627776), (lim cfg).loopY (rg20170 e) 96 lp96_1 ⟨30, [(0, .yld 2), (1, .ptr (I ((e.items.l.length : Nat) : Int))), (7, I q1_0), (8, I ((i1 : Nat) : Int))], [(0, ⟨[.agg [.sl e.items.nl (e.items.l.map S_Item.D) (zsl e.items.nl 4) none, I e.whole.lo, I e.whole.hi]], 3, false⟩), (1, ⟨[.lsl 3 0 va1_0.length 2 none], 1, false⟩), (3, ⟨va1_0.map Arr2_Int.D, 2, false⟩)], 4, 3⟩ = some (lr_ls_1 e q1_0 (ls_1a e rest1 i1 va1_0)) := by
  intro rest1
  induction rest1 with
  | zero =>
    intro i1 va1_0 hk1 hN1 hle hq4 hv4 hg1_va1_0 hL1
    unfold ls_1a
    exact po_lastY [.dec false] (And.intro (ct_no hk1) trivial) (by kernel_rfl)
  | succ rest1 ih =>
    intro i1 va1_0 hk1 hN1 hle hq4 hv4 hg1_va1_0 hL1
    have hlt1 := of_decide_eq_true (ct_at hk1)
    unfold ls_1a
    cases h16 : ls_5 ((i1 : Nat) : Int) e.items.l 0 with
    | x0 va5_0 =>
      try dsimp only
      have hv_h16 := ivt_ls_5 e q1_0 va1_0 ((i1 : Nat) : Int) e.items.l 0 (List.drop_zero) (Nat.zero_le _) (by omega) (by omega)
      rw [h16] at hv_h16
      obtain ⟨hv_h16_0, hv_h16_1, hv_h16_2⟩ := hv_h16
      try dsimp only [iv_ls_5] at hv_h16_0
      try dsimp only [iv_ls_5] at hv_h16_1
      try dsimp only [iv_ls_5] at hv_h16_2
      exact po_turnY' (ks := [0, 1, 7, 8]) (st' := (sd20191 e i1 q1_0 va5_0 va1_0)) [.dec true, .gloopY (sd20180 e i1 q1_0 va1_0) (.exit 2) (sd20187 e i1 q1_0 va5_0 va1_0) none, .pureS (I (zp e (GS.some va5_0))) true [(3, .sl false (va5_0.map I) 1 none, [3])], .pureS (I (zw e (GS.some va5_0))) true [(3, .sl false (va5_0.map I) 1 none, [3])], .op (some 28) ⟨.lsl 6 0 ((va1_0 ++ [(⟨(zp e (GS.some va5_0)), w64 (0 - (zw e (GS.some va5_0)))⟩ : Arr2_Int)]).length) 2 none, [(4, none), (6, some ⟨(va1_0 ++ [(⟨(zp e (GS.some va5_0)), w64 (0 - (zw e (GS.some va5_0)))⟩ : Arr2_Int)]).map Arr2_Int.D, 2, false⟩)], [4, 5], 7⟩, .rw 29 (I ((i1 + 1 : Nat) : Int))] (And.intro (zX (i := i1) (by omega)) (And.intro (app_row (f := Arr2_Int.D) (te := ty47) (gO := zD [(0, ⟨[.agg [.sl e.items.nl (e.items.l.map S_Item.D) (zsl e.items.nl 4) none, I e.whole.lo, I e.whole.hi]], 3, false⟩), (1, ⟨[.lsl 4 0 va1_0.length 2 none], 1, false⟩), (3, ⟨va5_0.map I, 1, false⟩), (4, ⟨va1_0.map Arr2_Int.D, 2, false⟩), (5, ⟨[.agg [I (zp e (GS.some va5_0)), I (w64 (0 - (zw e (GS.some va5_0))))]], 2, false⟩)]) (nxt := 6) (o := 4) (o2 := 5) (fz := false) za va1_0 (⟨(zp e (GS.some va5_0)), w64 (0 - (zw e (GS.some va5_0)))⟩ : Arr2_Int) (by kernel_rfl) (by kernel_rfl) rfl (by kernel_rfl) (by decide) ⟨by simp only [ty47, big] <;> (first | assumption | omega | (with_reducible exact y5) | (with_reducible exact Nat.le_trans open_len (by omega)) | (exact rows_two hi0 rfl (zq (by simp)) (by simp)) | (exact rows_app (by assumption) (zq (by omega)) (by omega)) | (exact rowsR_two hi0 rfl (zZ (by decide)) (by decide)) | (exact rowsR_app (by assumption) (zZ (by omega)) (by omega)) | (with_reducible exact allb_nil) | (with_reducible exact allb_one (by omega)) | (with_reducible exact allb_app (by assumption) (by omega)) | (exact Int.le_trans (n_le (by omega)) (by decide)) | (exact Nat.le_trans (au70_3_4_len (by omega)).2 (by omega)) | (simp only [zr] at * <;> omega) | (simp only [zo, zi, zj, zf, zn, zv, GS.nil_len, GS.some_l, List.length_set, List.length_append, List.length_cons, List.length_nil] at * <;> first | with_reducible assumption | omega) | (simp only [zo, zi, zj, zf, zn, zv, GS.nil_len, GS.some_l, List.length_set, List.length_append, List.length_cons, List.length_nil, zr] at * <;> first | with_reducible assumption | omega) | (simp at * <;> omega)), by simp only [big] <;> (first | assumption | omega | (with_reducible exact y5) | (with_reducible exact Nat.le_trans open_len (by omega)) | (exact rows_two hi0 rfl (zq (by simp)) (by simp)) | (exact rows_app (by assumption) (zq (by omega)) (by omega)) | (exact rowsR_two hi0 rfl (zZ (by decide)) (by decide)) | (exact rowsR_app (by assumption) (zZ (by omega)) (by omega)) | (with_reducible exact allb_nil) | (with_reducible exact allb_one (by omega)) | (with_reducible exact allb_app (by assumption) (by omega)) | (exact Int.le_trans (n_le (by omega)) (by decide)) | (exact Nat.le_trans (au70_3_4_len (by omega)).2 (by omega)) | (simp only [zr] at * <;> omega) | (simp only [zo, zi, zj, zf, zn, zv, GS.nil_len, GS.some_l, List.length_set, List.length_append, List.length_cons, List.length_nil] at * <;> first | with_reducible assumption | omega) | (simp only [zo, zi, zj, zf, zn, zv, GS.nil_len, GS.some_l, List.length_set, List.length_append, List.length_cons, List.length_nil, zr] at * <;> first | with_reducible assumption | omega) | (simp at * <;> omega))⟩) (And.intro (And.intro (show flat fuelD (I (zw e (GS.some va5_0))) = true from (by kernel_rfl)) (And.intro (And.intro (snap_row (gO := zD [(0, ⟨[.agg [.sl e.items.nl (e.items.l.map S_Item.D) (zsl e.items.nl 4) none, I e.whole.lo, I e.whole.hi]], 3, false⟩), (1, ⟨[.lsl 4 0 va1_0.length 2 none], 1, false⟩), (3, ⟨va5_0.map I, 1, false⟩), (4, ⟨va1_0.map Arr2_Int.D, 2, false⟩)]) (o := 3) (len := va5_0.length) (cap := none) (fz := false) zl va5_0 (by kernel_rfl) (by omega)) trivial) (T_orders_worst e (GS.some va5_0) (by assumption) (by simp only [zo, zi, zj, zf, zn, zv, GS.nil_len, GS.some_l, List.length_set, List.length_append, List.length_cons, List.length_nil] at * <;> first | with_reducible assumption | omega) (by omega)))) (And.intro (And.intro (show flat fuelD (I (zp e (GS.some va5_0))) = true from (by kernel_rfl)) (And.intro (And.intro (snap_row (gO := zD [(0, ⟨[.agg [.sl e.items.nl (e.items.l.map S_Item.D) (zsl e.items.nl 4) none, I e.whole.lo, I e.whole.hi]], 3, false⟩), (1, ⟨[.lsl 4 0 va1_0.length 2 none], 1, false⟩), (3, ⟨va5_0.map I, 1, false⟩), (4, ⟨va1_0.map Arr2_Int.D, 2, false⟩)]) (o := 3) (len := va5_0.length) (cap := none) (fz := false) zl va5_0 (by kernel_rfl) (by omega)) trivial) (T_orders_cost e (GS.some va5_0) (by assumption) (by simp only [zo, zi, zj, zf, zn, zv, GS.nil_len, GS.some_l, List.length_set, List.length_append, List.length_cons, List.length_nil] at * <;> first | with_reducible assumption | omega)))) (And.intro (po_lrY (q := lr_ls_5 e q1_0 va1_0 ((i1 : Nat) : Int)) (lp_ls_5 e q1_0 va1_0 ((i1 : Nat) : Int) e.items.l 0 (List.drop_zero) (Nat.zero_le _) (by omega) (by omega)) h16) (And.intro (gc_of (C := cfg) (f := 96) (a := lp96_5) (ks := [0, 1, 3, 4, 7, 8, 11, 12]) (st := (sd20179 e i1 q1_0 va1_0)) (st1 := (sd20180 e i1 q1_0 va1_0)) (by kernel_rfl) (by (simp only [sd20179, sd20180, go_sem, List.length_set, Nat.reduceAdd, Nat.reduceEqDiff, Nat.reduceLT, Nat.reduceLeDiff, bI2, za.idsL, za.renL, za.snapAll, z7.idsL, z7.renL, z7.snapAll, zl.idsL, zl.renL, zl.snapAll, z8.idsL, z8.renL, z8.snapAll]) <;> rfl)) (And.intro (ct_at hk1) trivial))))))) (by kernel_rfl) (by (simp only [sd20191, go_sem, List.length_set, Nat.reduceAdd, Nat.reduceEqDiff, Nat.reduceLT, Nat.reduceLeDiff, bI2, za.idsL, za.renL, za.snapAll, z7.idsL, z7.renL, z7.snapAll, zl.idsL, zl.renL, zl.snapAll, z8.idsL, z8.renL, z8.snapAll]) <;> rfl) (ih (i1 + 1) (va1_0 ++ [(⟨(zp e (GS.some va5_0)), w64 (0 - (zw e (GS.some va5_0)))⟩ : Arr2_Int)]) (by omega) hN1 (by omega) (by omega) (by simp only [List.length_append, List.length_cons, List.length_nil] at * <;> omega) (by simp only [List.length_append, List.length_cons, List.length_nil] at * <;> omega) (by omega)) (by kernel_rfl)
    | x1 =>
      try dsimp only
      exact po_turnY' (ks := [0, 1, 7, 8]) (st' := (sd20192 e i1 q1_0 va1_0)) [.dec true, .gloopY (sd20180 e i1 q1_0 va1_0) (.exit 2) (sd20182 e i1 q1_0 va1_0) none, .pure (I (zp e GS.nil)), .pure (I (zw e GS.nil)), .op (some 28) ⟨.lsl 5 0 ((va1_0 ++ [(⟨(zp e GS.nil), w64 (0 - (zw e GS.nil))⟩ : Arr2_Int)]).length) 2 none, [(3, none), (5, some ⟨(va1_0 ++ [(⟨(zp e GS.nil), w64 (0 - (zw e GS.nil))⟩ : Arr2_Int)]).map Arr2_Int.D, 2, false⟩)], [3, 4], 6⟩, .rw 29 (I ((i1 + 1 : Nat) : Int))] (And.intro (zX (i := i1) (by omega)) (And.intro (app_row (f := Arr2_Int.D) (te := ty47) (gO := zD [(0, ⟨[.agg [.sl e.items.nl (e.items.l.map S_Item.D) (zsl e.items.nl 4) none, I e.whole.lo, I e.whole.hi]], 3, false⟩), (1, ⟨[.lsl 3 0 va1_0.length 2 none], 1, false⟩), (3, ⟨va1_0.map Arr2_Int.D, 2, false⟩), (4, ⟨[.agg [I (zp e GS.nil), I (w64 (0 - (zw e GS.nil)))]], 2, false⟩)]) (nxt := 5) (o := 3) (o2 := 4) (fz := false) za va1_0 (⟨(zp e GS.nil), w64 (0 - (zw e GS.nil))⟩ : Arr2_Int) (by kernel_rfl) (by kernel_rfl) rfl (by kernel_rfl) (by decide) ⟨by simp only [ty47, big] <;> (first | assumption | omega | (with_reducible exact y5) | (with_reducible exact Nat.le_trans open_len (by omega)) | (exact rows_two hi0 rfl (zq (by simp)) (by simp)) | (exact rows_app (by assumption) (zq (by omega)) (by omega)) | (exact rowsR_two hi0 rfl (zZ (by decide)) (by decide)) | (exact rowsR_app (by assumption) (zZ (by omega)) (by omega)) | (with_reducible exact allb_nil) | (with_reducible exact allb_one (by omega)) | (with_reducible exact allb_app (by assumption) (by omega)) | (exact Int.le_trans (n_le (by omega)) (by decide)) | (exact Nat.le_trans (au70_3_4_len (by omega)).2 (by omega)) | (simp only [zr] at * <;> omega) | (simp only [zo, zi, zj, zf, zn, zv, GS.nil_len, GS.some_l, List.length_set, List.length_append, List.length_cons, List.length_nil] at * <;> first | with_reducible assumption | omega) | (simp only [zo, zi, zj, zf, zn, zv, GS.nil_len, GS.some_l, List.length_set, List.length_append, List.length_cons, List.length_nil, zr] at * <;> first | with_reducible assumption | omega) | (simp at * <;> omega)), by simp only [big] <;> (first | assumption | omega | (with_reducible exact y5) | (with_reducible exact Nat.le_trans open_len (by omega)) | (exact rows_two hi0 rfl (zq (by simp)) (by simp)) | (exact rows_app (by assumption) (zq (by omega)) (by omega)) | (exact rowsR_two hi0 rfl (zZ (by decide)) (by decide)) | (exact rowsR_app (by assumption) (zZ (by omega)) (by omega)) | (with_reducible exact allb_nil) | (with_reducible exact allb_one (by omega)) | (with_reducible exact allb_app (by assumption) (by omega)) | (exact Int.le_trans (n_le (by omega)) (by decide)) | (exact Nat.le_trans (au70_3_4_len (by omega)).2 (by omega)) | (simp only [zr] at * <;> omega) | (simp only [zo, zi, zj, zf, zn, zv, GS.nil_len, GS.some_l, List.length_set, List.length_append, List.length_cons, List.length_nil] at * <;> first | with_reducible assumption | omega) | (simp only [zo, zi, zj, zf, zn, zv, GS.nil_len, GS.some_l, List.length_set, List.length_append, List.length_cons, List.length_nil, zr] at * <;> first | with_reducible assumption | omega) | (simp at * <;> omega))⟩) (And.intro (T_orders_worst e GS.nil (by with_reducible exact allb_nil) (by simp only [zo, zi, zj, zf, zn, zv, GS.nil_len, GS.some_l, List.length_set, List.length_append, List.length_cons, List.length_nil] at * <;> first | with_reducible assumption | omega) (by omega)) (And.intro (T_orders_cost e GS.nil (by with_reducible exact allb_nil) (by simp only [zo, zi, zj, zf, zn, zv, GS.nil_len, GS.some_l, List.length_set, List.length_append, List.length_cons, List.length_nil] at * <;> first | with_reducible assumption | omega)) (And.intro (po_lrY (q := lr_ls_5 e q1_0 va1_0 ((i1 : Nat) : Int)) (lp_ls_5 e q1_0 va1_0 ((i1 : Nat) : Int) e.items.l 0 (List.drop_zero) (Nat.zero_le _) (by omega) (by omega)) h16) (And.intro (gc_of (C := cfg) (f := 96) (a := lp96_5) (ks := [0, 1, 3, 4, 7, 8, 11, 12]) (st := (sd20179 e i1 q1_0 va1_0)) (st1 := (sd20180 e i1 q1_0 va1_0)) (by kernel_rfl) (by (simp only [sd20179, sd20180, go_sem, List.length_set, Nat.reduceAdd, Nat.reduceEqDiff, Nat.reduceLT, Nat.reduceLeDiff, bI2, za.idsL, za.renL, za.snapAll, z7.idsL, z7.renL, z7.snapAll, zl.idsL, zl.renL, zl.snapAll, z8.idsL, z8.renL, z8.snapAll]) <;> rfl)) (And.intro (ct_at hk1) trivial))))))) (by kernel_rfl) (by (simp only [sd20192, go_sem, List.length_set, Nat.reduceAdd, Nat.reduceEqDiff, Nat.reduceLT, Nat.reduceLeDiff, bI2, za.idsL, za.renL, za.snapAll, z7.idsL, z7.renL, z7.snapAll, zl.idsL, zl.renL, zl.snapAll, z8.idsL, z8.renL, z8.snapAll]) <;> rfl) (ih (i1 + 1) (va1_0 ++ [(⟨(zp e GS.nil), w64 (0 - (zw e GS.nil))⟩ : Arr2_Int)]) (by omega) hN1 (by omega) (by omega) (by simp only [List.length_append, List.length_cons, List.length_nil] at * <;> omega) (by simp only [List.length_append, List.length_cons, List.length_nil] at * <;> omega) (by omega)) (by kernel_rfl)
theorem ivt_ls_1a (e : S_Estate) (q1_0 : Int) : ∀ (rest1 : Nat) (i1 : Nat) (va1_0 : List Arr2_Int) (hk1 : (q1_0 - ((i1 : Nat) : Int)).toNat = rest1) (hN1 : q1_0 ≤ 9223372036854775807) (hle : e.items.l.length ≤ 12) (hq4 : q1_0 ≤ 4096) (hv4 : 1 ≤ va1_0.length ∧ va1_0.length ≤ i1 ∧ i1 ≤ 4096) (hg1_va1_0 : va1_0.length ≤ i1) (hL1 : q1_0 ≤ 1099511627776), iv_ls_1 e q1_0 (ls_1a e rest1 i1 va1_0) := by
  intro rest1
  induction rest1 with
  | zero =>
    intro i1 va1_0 hk1 hN1 hle hq4 hv4 hg1_va1_0 hL1
    unfold ls_1a
    exact ⟨hv4, hg1_va1_0⟩
  | succ rest1 ih =>
    intro i1 va1_0 hk1 hN1 hle hq4 hv4 hg1_va1_0 hL1
    have hlt1 := of_decide_eq_true (ct_at hk1)
    unfold ls_1a
    cases h16 : ls_5 ((i1 : Nat) : Int) e.items.l 0 with
    | x0 va5_0 =>
      try dsimp only
      have hv_h16 := ivt_ls_5 e q1_0 va1_0 ((i1 : Nat) : Int) e.items.l 0 (List.drop_zero) (Nat.zero_le _) (by omega) (by omega)
      rw [h16] at hv_h16
      obtain ⟨hv_h16_0, hv_h16_1, hv_h16_2⟩ := hv_h16
      try dsimp only [iv_ls_5] at hv_h16_0
      try dsimp only [iv_ls_5] at hv_h16_1
      try dsimp only [iv_ls_5] at hv_h16_2
      exact ih (i1 + 1) (va1_0 ++ [(⟨(zp e (GS.some va5_0)), w64 (0 - (zw e (GS.some va5_0)))⟩ : Arr2_Int)]) (by omega) hN1 (by omega) (by omega) (by simp only [List.length_append, List.length_cons, List.length_nil] at * <;> omega) (by simp only [List.length_append, List.length_cons, List.length_nil] at * <;> omega) (by omega)
    | x1 =>
      try dsimp only
      exact ih (i1 + 1) (va1_0 ++ [(⟨(zp e GS.nil), w64 (0 - (zw e GS.nil))⟩ : Arr2_Int)]) (by omega) hN1 (by omega) (by omega) (by simp only [List.length_append, List.length_cons, List.length_nil] at * <;> omega) (by simp only [List.length_append, List.length_cons, List.length_nil] at * <;> omega) (by omega)
theorem lp_ls_1 (e : S_Estate) (q1_0 : Int) : ∀ (rest1 : Nat) (i1 : Nat) (hk1 : (q1_0 - ((i1 : Nat) : Int)).toNat = rest1) (hN1 : q1_0 ≤ 9223372036854775807) (hle : e.items.l.length ≤ 12) (hq4 : q1_0 ≤ 4096) (hL1 : q1_0 ≤ 1099511627776), (lim cfg).loopY (rg20170 e) 96 lp96_1 ⟨30, [(0, .yld 2), (1, .ptr (I ((e.items.l.length : Nat) : Int))), (7, I q1_0), (8, I ((i1 : Nat) : Int))], [(0, ⟨[.agg [.sl e.items.nl (e.items.l.map S_Item.D) (zsl e.items.nl 4) none, I e.whole.lo, I e.whole.hi]], 3, false⟩), (1, ⟨[.sl true [] 0 none], 1, false⟩)], 3, 3⟩ = some (lr_ls_1 e q1_0 (ls_1 e rest1 i1)) := by
  intro rest1
  induction rest1 with
  | zero =>
    intro i1 hk1 hN1 hle hq4 hL1
    unfold ls_1
    exact po_lastY [.dec false] (And.intro (ct_no hk1) trivial) (by kernel_rfl)
  | succ rest1 ih =>
    intro i1 hk1 hN1 hle hq4 hL1
    have hlt1 := of_decide_eq_true (ct_at hk1)
    unfold ls_1
    dsimp only
    cases h21 : ls_5p1 ((i1 : Nat) : Int) e.items.l 0 with
    | x0 va5p1_0 =>
      try dsimp only
      have hv_h21 := ivt_ls_5p1 e q1_0 ((i1 : Nat) : Int) e.items.l 0 (List.drop_zero) (Nat.zero_le _) (by omega) (by omega)
      rw [h21] at hv_h21
      obtain ⟨hv_h21_0, hv_h21_1, hv_h21_2⟩ := hv_h21
      try dsimp only [iv_ls_5p1] at hv_h21_0
      try dsimp only [iv_ls_5p1] at hv_h21_1
      try dsimp only [iv_ls_5p1] at hv_h21_2
      exact po_turnY' (ks := [0, 1, 7, 8]) (st' := (sd20193 e i1 q1_0 va5p1_0)) [.dec true, .loopY (.exit 2) (sd20190 e i1 q1_0 va5p1_0) none, .pureS (I (zp e (GS.some va5p1_0))) true [(3, .sl false (va5p1_0.map I) 1 none, [3])], .pureS (I (zw e (GS.some va5p1_0))) true [(3, .sl false (va5p1_0.map I) 1 none, [3])], .rw 29 (I ((i1 + 1 : Nat) : Int))] (And.intro (zX (i := i1) (by omega)) (And.intro (And.intro (show flat fuelD (I (zw e (GS.some va5p1_0))) = true from (by kernel_rfl)) (And.intro (And.intro (snap_row (gO := zD [(0, ⟨[.agg [.sl e.items.nl (e.items.l.map S_Item.D) (zsl e.items.nl 4) none, I e.whole.lo, I e.whole.hi]], 3, false⟩), (1, ⟨[.sl true [] 0 none], 1, false⟩), (3, ⟨va5p1_0.map I, 1, false⟩)]) (o := 3) (len := va5p1_0.length) (cap := none) (fz := false) zl va5p1_0 (by kernel_rfl) (by omega)) trivial) (T_orders_worst e (GS.some va5p1_0) (by assumption) (by simp only [zo, zi, zj, zf, zn, zv, GS.nil_len, GS.some_l, List.length_set, List.length_append, List.length_cons, List.length_nil] at * <;> first | with_reducible assumption | omega) (by omega)))) (And.intro (And.intro (show flat fuelD (I (zp e (GS.some va5p1_0))) = true from (by kernel_rfl)) (And.intro (And.intro (snap_row (gO := zD [(0, ⟨[.agg [.sl e.items.nl (e.items.l.map S_Item.D) (zsl e.items.nl 4) none, I e.whole.lo, I e.whole.hi]], 3, false⟩), (1, ⟨[.sl true [] 0 none], 1, false⟩), (3, ⟨va5p1_0.map I, 1, false⟩)]) (o := 3) (len := va5p1_0.length) (cap := none) (fz := false) zl va5p1_0 (by kernel_rfl) (by omega)) trivial) (T_orders_cost e (GS.some va5p1_0) (by assumption) (by simp only [zo, zi, zj, zf, zn, zv, GS.nil_len, GS.some_l, List.length_set, List.length_append, List.length_cons, List.length_nil] at * <;> first | with_reducible assumption | omega)))) (And.intro (po_lrY (q := lr_ls_5p1 e q1_0 ((i1 : Nat) : Int)) (lp_ls_5p1 e q1_0 ((i1 : Nat) : Int) e.items.l 0 (List.drop_zero) (Nat.zero_le _) (by omega) (by omega)) h21) (And.intro (ct_at hk1) trivial))))) (by kernel_rfl) (by (simp only [sd20193, go_sem, List.length_set, Nat.reduceAdd, Nat.reduceEqDiff, Nat.reduceLT, Nat.reduceLeDiff, bI2, za.idsL, za.renL, za.snapAll, z7.idsL, z7.renL, z7.snapAll, zl.idsL, zl.renL, zl.snapAll, z8.idsL, z8.renL, z8.snapAll]) <;> rfl) (lp_ls_1a e q1_0 _ (i1 + 1) [(⟨(zp e (GS.some va5p1_0)), w64 (0 - (zw e (GS.some va5p1_0)))⟩ : Arr2_Int)] (by omega) hN1 (by omega) (by omega) (by simp only [List.length_append, List.length_cons, List.length_nil] at * <;> omega) (by simp only [List.length_append, List.length_cons, List.length_nil] at * <;> omega) (by omega)) (by kernel_rfl)
    | x1 =>
      try dsimp only
      exact po_turnY [.dec true, .loopY (.exit 2) (sd20174 e i1 q1_0) none, .pure (I (zp e GS.nil)), .pure (I (zw e GS.nil)), .rw 29 (I ((i1 + 1 : Nat) : Int))] (And.intro (zX (i := i1) (by omega)) (And.intro (T_orders_worst e GS.nil (by with_reducible exact allb_nil) (by simp only [zo, zi, zj, zf, zn, zv, GS.nil_len, GS.some_l, List.length_set, List.length_append, List.length_cons, List.length_nil] at * <;> first | with_reducible assumption | omega) (by omega)) (And.intro (T_orders_cost e GS.nil (by with_reducible exact allb_nil) (by simp only [zo, zi, zj, zf, zn, zv, GS.nil_len, GS.some_l, List.length_set, List.length_append, List.length_cons, List.length_nil] at * <;> first | with_reducible assumption | omega)) (And.intro (po_lrY (q := lr_ls_5p1 e q1_0 ((i1 : Nat) : Int)) (lp_ls_5p1 e q1_0 ((i1 : Nat) : Int) e.items.l 0 (List.drop_zero) (Nat.zero_le _) (by omega) (by omega)) h21) (And.intro (ct_at hk1) trivial))))) (lp_ls_1a e q1_0 _ (i1 + 1) [(⟨(zp e GS.nil), w64 (0 - (zw e GS.nil))⟩ : Arr2_Int)] (by omega) hN1 (by omega) (by omega) (by simp only [List.length_append, List.length_cons, List.length_nil] at * <;> omega) (by simp only [List.length_append, List.length_cons, List.length_nil] at * <;> omega) (by omega)) (by kernel_rfl)
theorem ivt_ls_1 (e : S_Estate) (q1_0 : Int) : ∀ (rest1 : Nat) (i1 : Nat) (hk1 : (q1_0 - ((i1 : Nat) : Int)).toNat = rest1) (hN1 : q1_0 ≤ 9223372036854775807) (hle : e.items.l.length ≤ 12) (hq4 : q1_0 ≤ 4096) (hL1 : q1_0 ≤ 1099511627776), iv_ls_1 e q1_0 (ls_1 e rest1 i1) := by
  intro rest1
  induction rest1 with
  | zero =>
    intro i1 hk1 hN1 hle hq4 hL1
    unfold ls_1
    exact trivial
  | succ rest1 ih =>
    intro i1 hk1 hN1 hle hq4 hL1
    have hlt1 := of_decide_eq_true (ct_at hk1)
    unfold ls_1
    dsimp only
    cases h21 : ls_5p1 ((i1 : Nat) : Int) e.items.l 0 with
    | x0 va5p1_0 =>
      try dsimp only
      have hv_h21 := ivt_ls_5p1 e q1_0 ((i1 : Nat) : Int) e.items.l 0 (List.drop_zero) (Nat.zero_le _) (by omega) (by omega)
      rw [h21] at hv_h21
      obtain ⟨hv_h21_0, hv_h21_1, hv_h21_2⟩ := hv_h21
      try dsimp only [iv_ls_5p1] at hv_h21_0
      try dsimp only [iv_ls_5p1] at hv_h21_1
      try dsimp only [iv_ls_5p1] at hv_h21_2
      exact ivt_ls_1a e q1_0 _ (i1 + 1) [(⟨(zp e (GS.some va5p1_0)), w64 (0 - (zw e (GS.some va5p1_0)))⟩ : Arr2_Int)] (by omega) hN1 (by omega) (by omega) (by simp only [List.length_append, List.length_cons, List.length_nil] at * <;> omega) (by simp only [List.length_append, List.length_cons, List.length_nil] at * <;> omega) (by omega)
    | x1 =>
      try dsimp only
      exact ivt_ls_1a e q1_0 _ (i1 + 1) [(⟨(zp e GS.nil), w64 (0 - (zw e GS.nil))⟩ : Arr2_Int)] (by omega) hN1 (by omega) (by omega) (by simp only [List.length_append, List.length_cons, List.length_nil] at * <;> omega) (by simp only [List.length_append, List.length_cons, List.length_nil] at * <;> omega) (by omega)

theorem ls_1a_ne (e : S_Estate) : ∀ (n i : Nat) (v : List Arr2_Int) (j : Nat), ls_1a e n i v ≠ .x1 j
  | 0, i, v, j => by intro h; cases h
  | n + 1, i, v, j => by
    unfold ls_1a
    split <;> exact ls_1a_ne e n _ _ j
theorem ls_1_ne {e : S_Estate} {n i j : Nat} (h : 1 ≤ n) : ls_1 e n i ≠ .x1 j := by
  cases n with
  | zero => omega
  | succ n =>
    simp only [ls_1]
    split <;> exact ls_1a_ne e n _ _ j

noncomputable def lp23_10 : Code := subC [1, 1, 1, 1, 1, 0, 1, 0, 0] (bodyC Try.f23)

def sd20201 (i10 : Nat) (q10_0 : List Arr2_Int) (v10_0 : List Arr2_Int) : St := ⟨48, [(33, I ((i10 + 1 : Nat) : Int)), (46, I ((i10 + 1 : Nat) : Int)), (45, .lref 1 i10 2 1), (44, .lref 1 i10 2 0), (43, I (w64 (0 - ((v10_0.getD i10 default).x1)))), (42, I ((v10_0.getD i10 default).x1)), (41, .lref 1 i10 2 1), (40, .lref 1 i10 2 0), (39, I ((i10 : Nat) : Int)), (38, .lsl 1 0 q10_0.length 2 none), (37, I ((i10 : Nat) : Int)), (36, .lsl 1 0 q10_0.length 2 none), (7, I ((i10 : Nat) : Int)), (35, I ((i10 : Nat) : Int)), (34, B true), (5, .lref 0 0 1 0), (32, I ((q10_0.length : Nat) : Int)), (33, I ((i10 : Nat) : Int))], [(0, ⟨[.lsl 1 0 q10_0.length 2 none], 1, false⟩), (1, ⟨(v10_0.set i10 (⟨(v10_0.getD i10 default).x0, w64 (0 - ((v10_0.getD i10 default).x1))⟩ : Arr2_Int)).map Arr2_Int.D, 2, false⟩)], 2, 0⟩

inductive LR_orders_Steps_10 where
  | x0 (v10_0 : List Arr2_Int)
instance : Inhabited LR_orders_Steps_10 := ⟨.x0 default⟩
def orders_Steps_10 : List Arr2_Int → Nat → (List Arr2_Int) → LR_orders_Steps_10
  | [], i10, v10_0 => .x0 v10_0
  | x10 :: rest10, i10, v10_0 =>
    orders_Steps_10 rest10 (i10 + 1) (v10_0.set i10 (⟨(v10_0.getD i10 default).x0, w64 (0 - ((v10_0.getD i10 default).x1))⟩ : Arr2_Int))
def lr_orders_Steps_10 (q10_0 : List Arr2_Int) : LR_orders_Steps_10 → Exit × St
  | .x0 v10_0 => ((.exit 2), ⟨48, [(34, B false), (5, .lref 0 0 1 0), (32, I ((q10_0.length : Nat) : Int)), (33, I ((q10_0.length : Nat) : Int))], [(0, ⟨[.lsl 1 0 q10_0.length 2 none], 1, false⟩), (1, ⟨v10_0.map Arr2_Int.D, 2, false⟩)], 2, 0⟩)
def iv_orders_Steps_10 (q10_0 : List Arr2_Int) : LR_orders_Steps_10 → Prop
  | .x0 v10_0 => (v10_0.length = q10_0.length)
theorem lp_orders_Steps_10 (q10_0 : List Arr2_Int) : ∀ (rest10 : List Arr2_Int) (i10 : Nat) (v10_0 : List Arr2_Int) (hd10 : q10_0.drop i10 = rest10) (hi10 : i10 ≤ q10_0.length) (hl10_v10_0 : v10_0.length = q10_0.length) (hL10 : q10_0.length ≤ 9223372036854775807), (lim cfg).loop 23 lp23_10 ⟨48, [(5, .lref 0 0 1 0), (32, I ((q10_0.length : Nat) : Int)), (33, I ((i10 : Nat) : Int))], [(0, ⟨[.lsl 1 0 q10_0.length 2 none], 1, false⟩), (1, ⟨v10_0.map Arr2_Int.D, 2, false⟩)], 2, 0⟩ = some (lr_orders_Steps_10 q10_0 (orders_Steps_10 rest10 i10 v10_0)) := by
  intro rest10
  induction rest10 with
  | nil =>
    intro i10 v10_0 hd10 hi10 hl10_v10_0 hL10
    unfold orders_Steps_10
    obtain rfl : i10 = q10_0.length := nil_eq hd10 hi10
    exact zS [.dec false] (And.intro (lt_no hd10) trivial) (by kernel_rfl)
  | cons x10 rest10 ih =>
    intro i10 v10_0 hd10 hi10 hl10_v10_0 hL10
    have hlt10 := zt hd10
    unfold orders_Steps_10
    exact po_turn' (ks := [5, 32, 33]) (st' := (sd20201 i10 q10_0 v10_0)) [.dec true, .op (some 40) ⟨.lref 1 i10 2 0, [], [], 2⟩, .op (some 42) ⟨I ((v10_0.getD i10 default).x1), [], [1], 2⟩, .op (some 44) ⟨.lref 1 i10 2 0, [], [], 2⟩, .stS 1 ⟨.tup [], [(1, some ⟨(v10_0.set i10 (⟨(v10_0.getD i10 default).x0, w64 (0 - ((v10_0.getD i10 default).x1))⟩ : Arr2_Int)).map Arr2_Int.D, 2, false⟩)], [1], 2⟩, .rw 46 (I ((i10 + 1 : Nat) : Int))] (And.intro (zX (i := i10) (by have := zt hd10; omega)) (And.intro (store_row (C := cfg) (objs := [(0, ⟨[.lsl 1 0 q10_0.length 2 none], 1, false⟩), (1, ⟨v10_0.map Arr2_Int.D, 2, false⟩)]) (nxt := 2) (t := 3) (ty := ty3) (o := 1) (n := i10) (sz := 2) (sub := 1) (els := v10_0.map Arr2_Int.D) (els' := (v10_0.set i10 (⟨(v10_0.getD i10 default).x0, w64 (0 - ((v10_0.getD i10 default).x1))⟩ : Arr2_Int)).map Arr2_Int.D) (e := Arr2_Int.D (v10_0.getD i10 default)) (e' := Arr2_Int.D (⟨(v10_0.getD i10 default).x0, w64 (0 - ((v10_0.getD i10 default).x1))⟩ : Arr2_Int)) (v := I (w64 (0 - ((v10_0.getD i10 default).x1)))) (by kernel_rfl) (by kernel_rfl) (row_get (f := Arr2_Int.D) (by omega)) rfl (by kernel_rfl) rfl (by kernel_rfl) (row_set (f := Arr2_Int.D))) (And.intro (idx_row (C := cfg) (nxt := 2) (t := 29) (ty := ty29) (te := ty47) (e := 47) (o := 1) (len := q10_0.length) (sz := 2) (cap := none) (i := ((i10 : Nat) : Int)) (by kernel_rfl) rfl (by kernel_rfl) rfl (by omega) (by omega)) (And.intro (load_row (C := cfg) (objs := [(0, ⟨[.lsl 1 0 q10_0.length 2 none], 1, false⟩), (1, ⟨v10_0.map Arr2_Int.D, 2, false⟩)]) (nxt := 2) (t := 3) (ty := ty3) (o := 1) (n := i10) (sz := 2) (sub := 1) (ob := ⟨v10_0.map Arr2_Int.D, 2, false⟩) (e := Arr2_Int.D (v10_0.getD i10 default)) (d := I ((v10_0.getD i10 default).x1)) (by kernel_rfl) (by kernel_rfl) rfl (row_get (f := Arr2_Int.D) (by omega)) (by kernel_rfl)) (And.intro (idx_row (C := cfg) (nxt := 2) (t := 29) (ty := ty29) (te := ty47) (e := 47) (o := 1) (len := q10_0.length) (sz := 2) (cap := none) (i := ((i10 : Nat) : Int)) (by kernel_rfl) rfl (by kernel_rfl) rfl (by omega) (by omega)) (And.intro (lt_at hd10) trivial)))))) (by kernel_rfl) (by (simp only [sd20201, go_sem, List.length_set, Nat.reduceAdd, Nat.reduceEqDiff, Nat.reduceLT, Nat.reduceLeDiff, bI2, za.idsL, za.renL, za.snapAll, z7.idsL, z7.renL, z7.snapAll, zl.idsL, zl.renL, zl.snapAll, z8.idsL, z8.renL, z8.snapAll]) <;> rfl) (ih (i10 + 1) (v10_0.set i10 (⟨(v10_0.getD i10 default).x0, w64 (0 - ((v10_0.getD i10 default).x1))⟩ : Arr2_Int)) (zA hd10) (zt hd10) (by simp only [List.length_set] at * <;> omega) (by omega)) (by kernel_rfl)
theorem ivt_orders_Steps_10 (q10_0 : List Arr2_Int) : ∀ (rest10 : List Arr2_Int) (i10 : Nat) (v10_0 : List Arr2_Int) (hd10 : q10_0.drop i10 = rest10) (hi10 : i10 ≤ q10_0.length) (hl10_v10_0 : v10_0.length = q10_0.length) (hL10 : q10_0.length ≤ 9223372036854775807), iv_orders_Steps_10 q10_0 (orders_Steps_10 rest10 i10 v10_0) := by
  intro rest10
  induction rest10 with
  | nil =>
    intro i10 v10_0 hd10 hi10 hl10_v10_0 hL10
    unfold orders_Steps_10
    obtain rfl : i10 = q10_0.length := nil_eq hd10 hi10
    exact hl10_v10_0
  | cons x10 rest10 ih =>
    intro i10 v10_0 hd10 hi10 hl10_v10_0 hL10
    have hlt10 := zt hd10
    unfold orders_Steps_10
    exact ih (i10 + 1) (v10_0.set i10 (⟨(v10_0.getD i10 default).x0, w64 (0 - ((v10_0.getD i10 default).x1))⟩ : Arr2_Int)) (zA hd10) (zt hd10) (by simp only [List.length_set] at * <;> omega) (by omega)

def sd20195 (l : List Arr2_Int) (i4 : Nat) (q4_0 : List Arr2_Int) (x4 : Arr2_Int) (va4_0 : List Arr2_Int) : St := ⟨36, [(11, I ((i4 + 1 : Nat) : Int)), (34, I ((i4 + 1 : Nat) : Int)), (3, .lsl 7 0 ((va4_0 ++ [x4]).length) 2 none), (33, .lsl 7 0 ((va4_0 ++ [x4]).length) 2 none), (32, .lsl 6 0 1 2 (some 1)), (31, .agg [I x4.x0, I x4.x1]), (30, .lsl 4 0 va4_0.length 2 none), (29, B true), (28, .tup []), (27, .tup []), (26, .tup []), (25, .tup []), (24, .tup []), (23, .tup []), (22, .tup []), (21, .tup []), (20, .tup []), (19, B true), (18, B true), (17, I ((va4_0.length : Nat) : Int)), (6, I ((va4_0.length : Nat) : Int)), (16, I ((va4_0.length : Nat) : Int)), (15, .lsl 4 0 va4_0.length 2 none), (5, .lref 5 0 2 0), (14, .agg [I x4.x0, I x4.x1]), (13, .lref 3 i4 2 0), (12, B true), (3, .lsl 4 0 va4_0.length 2 none), (9, .lsl 3 0 l.length 2 none), (10, I ((l.length : Nat) : Int)), (11, I ((i4 : Nat) : Int))], [(3, ⟨q4_0.map Arr2_Int.D, 2, false⟩), (5, ⟨[.agg [I x4.x0, I x4.x1]], 2, false⟩), (6, ⟨[.agg [I x4.x0, I x4.x1]], 2, false⟩), (7, ⟨(va4_0 ++ [x4]).map Arr2_Int.D, 2, false⟩)], 8, 4⟩

def sd20196 (l : List Arr2_Int) (i4 : Nat) (q4_0 : List Arr2_Int) (x4 : Arr2_Int) (va4_0 : List Arr2_Int) : St := ⟨36, [(11, I ((i4 + 1 : Nat) : Int)), (34, I ((i4 + 1 : Nat) : Int)), (3, .lsl 7 0 ((va4_0 ++ [x4]).length) 2 none), (33, .lsl 7 0 ((va4_0 ++ [x4]).length) 2 none), (32, .lsl 6 0 1 2 (some 1)), (31, .agg [I x4.x0, I x4.x1]), (30, .lsl 4 0 va4_0.length 2 none), (29, B true), (28, B true), (27, I ((va4_0.getD ((w64 (((va4_0.length : Nat) : Int) - 1)).toNat) default).x1)), (26, .lref 4 ((w64 (((va4_0.length : Nat) : Int) - 1)).toNat) 2 1), (25, .lref 4 ((w64 (((va4_0.length : Nat) : Int) - 1)).toNat) 2 0), (24, I (w64 (((va4_0.length : Nat) : Int) - 1))), (23, I ((va4_0.length : Nat) : Int)), (22, .lsl 4 0 va4_0.length 2 none), (21, I x4.x1), (20, .lref 5 0 2 1), (19, B false), (18, B false), (17, I ((va4_0.length : Nat) : Int)), (6, I ((va4_0.length : Nat) : Int)), (16, I ((va4_0.length : Nat) : Int)), (15, .lsl 4 0 va4_0.length 2 none), (5, .lref 5 0 2 0), (14, .agg [I x4.x0, I x4.x1]), (13, .lref 3 i4 2 0), (12, B true), (3, .lsl 4 0 va4_0.length 2 none), (9, .lsl 3 0 l.length 2 none), (10, I ((l.length : Nat) : Int)), (11, I ((i4 : Nat) : Int))], [(3, ⟨q4_0.map Arr2_Int.D, 2, false⟩), (5, ⟨[.agg [I x4.x0, I x4.x1]], 2, false⟩), (6, ⟨[.agg [I x4.x0, I x4.x1]], 2, false⟩), (7, ⟨(va4_0 ++ [x4]).map Arr2_Int.D, 2, false⟩)], 8, 4⟩

def sd20197 (l : List Arr2_Int) (i4 : Nat) (q4_0 : List Arr2_Int) (x4 : Arr2_Int) (va4_0 : List Arr2_Int) : St := ⟨36, [(11, I ((i4 + 1 : Nat) : Int)), (34, I ((i4 + 1 : Nat) : Int)), (29, B false), (28, B false), (27, I ((va4_0.getD ((w64 (((va4_0.length : Nat) : Int) - 1)).toNat) default).x1)), (26, .lref 4 ((w64 (((va4_0.length : Nat) : Int) - 1)).toNat) 2 1), (25, .lref 4 ((w64 (((va4_0.length : Nat) : Int) - 1)).toNat) 2 0), (24, I (w64 (((va4_0.length : Nat) : Int) - 1))), (23, I ((va4_0.length : Nat) : Int)), (22, .lsl 4 0 va4_0.length 2 none), (21, I x4.x1), (20, .lref 5 0 2 1), (19, B false), (18, B false), (17, I ((va4_0.length : Nat) : Int)), (6, I ((va4_0.length : Nat) : Int)), (16, I ((va4_0.length : Nat) : Int)), (15, .lsl 4 0 va4_0.length 2 none), (5, .lref 5 0 2 0), (14, .agg [I x4.x0, I x4.x1]), (13, .lref 3 i4 2 0), (12, B true), (3, .lsl 4 0 va4_0.length 2 none), (9, .lsl 3 0 l.length 2 none), (10, I ((l.length : Nat) : Int)), (11, I ((i4 : Nat) : Int))], [(3, ⟨q4_0.map Arr2_Int.D, 2, false⟩), (4, ⟨va4_0.map Arr2_Int.D, 2, false⟩), (5, ⟨[.agg [I x4.x0, I x4.x1]], 2, false⟩)], 6, 4⟩

def sd20198 (l : List Arr2_Int) (i4 : Nat) (q4_0 : List Arr2_Int) (x4 : Arr2_Int) : St := ⟨36, [(11, I ((i4 + 1 : Nat) : Int)), (34, I ((i4 + 1 : Nat) : Int)), (3, .lsl 6 0 1 2 none), (33, .lsl 6 0 1 2 none), (32, .lsl 5 0 1 2 (some 1)), (31, .agg [I x4.x0, I x4.x1]), (30, .sl true [] 0 none), (29, B true), (28, .tup []), (27, .tup []), (26, .tup []), (25, .tup []), (24, .tup []), (23, .tup []), (22, .tup []), (21, .tup []), (20, .tup []), (19, B true), (18, B true), (17, I 0), (6, I 0), (16, I 0), (15, .sl true [] 0 none), (5, .lref 4 0 2 0), (14, .agg [I x4.x0, I x4.x1]), (13, .lref 3 i4 2 0), (12, B true), (3, .sl true [] 0 none), (9, .lsl 3 0 l.length 2 none), (10, I ((l.length : Nat) : Int)), (11, I ((i4 : Nat) : Int))], [(3, ⟨q4_0.map Arr2_Int.D, 2, false⟩), (4, ⟨[.agg [I x4.x0, I x4.x1]], 2, false⟩), (5, ⟨[.agg [I x4.x0, I x4.x1]], 2, false⟩), (6, ⟨[.agg [I x4.x0, I x4.x1]], 2, false⟩)], 7, 4⟩

inductive LR_au70_3_4_4 where
  | x0 (va4_0 : List Arr2_Int)
  | x1
instance : Inhabited LR_au70_3_4_4 := ⟨.x0 default⟩
def au70_3_4_4a : List Arr2_Int → (List Arr2_Int) → LR_au70_3_4_4
  | [], va4_0 => .x0 va4_0
  | x4 :: rest4, va4_0 =>
    bif (((va4_0.length : Nat) : Int) == 0) then
      au70_3_4_4a rest4 (va4_0 ++ [x4])
    else
      bif decide (x4.x1 > ((va4_0.getD ((w64 (((va4_0.length : Nat) : Int) - 1)).toNat) default).x1)) then
        au70_3_4_4a rest4 (va4_0 ++ [x4])
      else
        au70_3_4_4a rest4 va4_0
def au70_3_4_4 : List Arr2_Int → LR_au70_3_4_4
  | [] => .x1
  | x4 :: rest4 =>
    au70_3_4_4a rest4 [x4]
def lr_au70_3_4_4 (l : List Arr2_Int) (q4_0 : List Arr2_Int) : LR_au70_3_4_4 → Exit × St
  | .x0 va4_0 => ((.exit 0), ⟨36, [(12, B false), (3, .lsl 4 0 va4_0.length 2 none), (9, .lsl 3 0 l.length 2 none), (10, I ((l.length : Nat) : Int)), (11, I ((q4_0.length : Nat) : Int))], [(3, ⟨q4_0.map Arr2_Int.D, 2, false⟩), (4, ⟨va4_0.map Arr2_Int.D, 2, false⟩)], 5, 4⟩)
  | .x1 => ((.exit 0), ⟨36, [(12, B false), (3, .sl true [] 0 none), (9, .lsl 3 0 l.length 2 none), (10, I ((l.length : Nat) : Int)), (11, I ((q4_0.length : Nat) : Int))], [(3, ⟨q4_0.map Arr2_Int.D, 2, false⟩)], 4, 4⟩)
def iv_au70_3_4_4 (l : List Arr2_Int) (q4_0 : List Arr2_Int) : LR_au70_3_4_4 → Prop
  | .x0 va4_0 => (1 ≤ va4_0.length) ∧ (va4_0.length ≤ q4_0.length)
  | .x1 => True
def au70_3_4_4a_l_o1 (i4 : Nat) (x4 : Arr2_Int) (va4_0 : List Arr2_Int) : List Ora := [.dec true, .op (some 13) ⟨.lref 3 i4 2 0, [], [], 5⟩, .op (some 14) ⟨.agg [I x4.x0, I x4.x1], [], [3], 5⟩, .dec false, .op (some 25) ⟨.lref 4 ((w64 (((va4_0.length : Nat) : Int) - 1)).toNat) 2 0, [], [], 6⟩, .op (some 27) ⟨I ((va4_0.getD ((w64 (((va4_0.length : Nat) : Int) - 1)).toNat) default).x1), [], [4], 6⟩]
theorem lp_au70_3_4_4a (l : List Arr2_Int) (q4_0 : List Arr2_Int) : ∀ (rest4 : List Arr2_Int) (i4 : Nat) (va4_0 : List Arr2_Int) (hd4 : q4_0.drop i4 = rest4) (hi4 : i4 ≤ q4_0.length) (hz4_va4_0 : 1 ≤ va4_0.length) (hq4 : q4_0.length = l.length) (hg4_va4_0 : va4_0.length ≤ i4) (hL4 : q4_0.length ≤ 1099511627776), (lim cfg).loop 70 lp70_4 ⟨36, [(3, .lsl 4 0 va4_0.length 2 none), (9, .lsl 3 0 l.length 2 none), (10, I ((l.length : Nat) : Int)), (11, I ((i4 : Nat) : Int))], [(3, ⟨q4_0.map Arr2_Int.D, 2, false⟩), (4, ⟨va4_0.map Arr2_Int.D, 2, false⟩)], 5, 4⟩ = some (lr_au70_3_4_4 l q4_0 (au70_3_4_4a rest4 va4_0)) := by
  intro rest4
  induction rest4 with
  | nil =>
    intro i4 va4_0 hd4 hi4 hz4_va4_0 hq4 hg4_va4_0 hL4
    unfold au70_3_4_4a
    obtain rfl : i4 = q4_0.length := nil_eq hd4 hi4
    exact zS [.dec false] (And.intro (lt_no' hd4 hq4) trivial) (by kernel_rfl)
  | cons x4 rest4 ih =>
    intro i4 va4_0 hd4 hi4 hz4_va4_0 hq4 hg4_va4_0 hL4
    have hlt4 := zt hd4
    unfold au70_3_4_4a
    have p1 := (idx_row (C := cfg) (nxt := 5) (t := 29) (ty := ty29) (te := ty47) (e := 47) (o := 3) (len := l.length) (sz := 2) (cap := none) (i := ((i4 : Nat) : Int)) (by kernel_rfl) rfl (by kernel_rfl) rfl (by omega) (by omega))
    have p2 := (load_row (C := cfg) (objs := [(3, ⟨q4_0.map Arr2_Int.D, 2, false⟩), (4, ⟨va4_0.map Arr2_Int.D, 2, false⟩)]) (nxt := 5) (t := 47) (ty := ty47) (o := 3) (n := i4) (sz := 2) (sub := 0) (ob := ⟨q4_0.map Arr2_Int.D, 2, false⟩) (e := Arr2_Int.D x4) (d := .agg [I x4.x0, I x4.x1]) (by kernel_rfl) (by kernel_rfl) rfl (row_at (f := Arr2_Int.D) hd4) (by kernel_rfl))
    cases h3 : (((va4_0.length : Nat) : Int) == 0) with
    | true =>
      have g3 := eq_of_beq h3
      exact po_turn' (ks := [3, 9, 10, 11]) (st' := (sd20195 l i4 q4_0 x4 va4_0)) [.dec true, .op (some 13) ⟨.lref 3 i4 2 0, [], [], 5⟩, .op (some 14) ⟨.agg [I x4.x0, I x4.x1], [], [3], 5⟩, .dec true, .op (some 33) ⟨.lsl 7 0 ((va4_0 ++ [x4]).length) 2 none, [(4, none), (7, some ⟨(va4_0 ++ [x4]).map Arr2_Int.D, 2, false⟩)], [4, 6], 8⟩, .rw 34 (I ((i4 + 1 : Nat) : Int))] (And.intro (zX (i := i4) (by have := zt hd4; omega)) (And.intro (app_row (f := Arr2_Int.D) (te := ty47) (gO := zD [(3, ⟨q4_0.map Arr2_Int.D, 2, false⟩), (4, ⟨va4_0.map Arr2_Int.D, 2, false⟩), (5, ⟨[.agg [I x4.x0, I x4.x1]], 2, false⟩), (6, ⟨[.agg [I x4.x0, I x4.x1]], 2, false⟩)]) (nxt := 7) (o := 4) (o2 := 6) (fz := false) za va4_0 x4 (by kernel_rfl) (by kernel_rfl) rfl (by kernel_rfl) (by decide) ⟨by simp only [ty47, big] <;> (first | assumption | omega | (with_reducible exact y5) | (with_reducible exact Nat.le_trans open_len (by omega)) | (exact rows_two hi0 rfl (zq (by simp)) (by simp)) | (exact rows_app (by assumption) (zq (by omega)) (by omega)) | (exact rowsR_two hi0 rfl (zZ (by decide)) (by decide)) | (exact rowsR_app (by assumption) (zZ (by omega)) (by omega)) | (with_reducible exact allb_nil) | (with_reducible exact allb_one (by omega)) | (with_reducible exact allb_app (by assumption) (by omega)) | (exact Int.le_trans (n_le (by omega)) (by decide)) | (exact Nat.le_trans (au70_3_4_len (by omega)).2 (by omega)) | (simp only [zr] at * <;> omega) | (simp only [zo, zi, zj, zf, zn, zv, GS.nil_len, GS.some_l, List.length_set, List.length_append, List.length_cons, List.length_nil] at * <;> first | with_reducible assumption | omega) | (simp only [zo, zi, zj, zf, zn, zv, GS.nil_len, GS.some_l, List.length_set, List.length_append, List.length_cons, List.length_nil, zr] at * <;> first | with_reducible assumption | omega) | (simp at * <;> omega)), by simp only [big] <;> (first | assumption | omega | (with_reducible exact y5) | (with_reducible exact Nat.le_trans open_len (by omega)) | (exact rows_two hi0 rfl (zq (by simp)) (by simp)) | (exact rows_app (by assumption) (zq (by omega)) (by omega)) | (exact rowsR_two hi0 rfl (zZ (by decide)) (by decide)) | (exact rowsR_app (by assumption) (zZ (by omega)) (by omega)) | (with_reducible exact allb_nil) | (with_reducible exact allb_one (by omega)) | (with_reducible exact allb_app (by assumption) (by omega)) | (exact Int.le_trans (n_le (by omega)) (by decide)) | (exact Nat.le_trans (au70_3_4_len (by omega)).2 (by omega)) | (simp only [zr] at * <;> omega) | (simp only [zo, zi, zj, zf, zn, zv, GS.nil_len, GS.some_l, List.length_set, List.length_append, List.length_cons, List.length_nil] at * <;> first | with_reducible assumption | omega) | (simp only [zo, zi, zj, zf, zn, zv, GS.nil_len, GS.some_l, List.length_set, List.length_append, List.length_cons, List.length_nil, zr] at * <;> first | with_reducible assumption | omega) | (simp at * <;> omega))⟩) (And.intro h3 (And.intro p2 (And.intro p1 (And.intro (lt_at' hd4 hq4) trivial)))))) (by kernel_rfl) (by (simp only [sd20195, go_sem, List.length_set, Nat.reduceAdd, Nat.reduceEqDiff, Nat.reduceLT, Nat.reduceLeDiff, bI2, za.idsL, za.renL, za.snapAll, z7.idsL, z7.renL, z7.snapAll, zl.idsL, zl.renL, zl.snapAll, z8.idsL, z8.renL, z8.snapAll]) <;> rfl) (ih (i4 + 1) (va4_0 ++ [x4]) (zA hd4) (zt hd4) (by omega) (by omega) (by omega) (by omega)) (by kernel_rfl)
    | false =>
      have g3 := ne_of_beq_false h3
      have p3 := (idx_row (C := cfg) (nxt := 6) (t := 29) (ty := ty29) (te := ty47) (e := 47) (o := 4) (len := va4_0.length) (sz := 2) (cap := none) (i := w64 (((va4_0.length : Nat) : Int) - 1)) (by kernel_rfl) rfl (by kernel_rfl) rfl (by simp only [zr] at * <;> omega) (by simp only [zr] at * <;> omega))
      have p4 := (load_row (C := cfg) (objs := [(3, ⟨q4_0.map Arr2_Int.D, 2, false⟩), (4, ⟨va4_0.map Arr2_Int.D, 2, false⟩), (5, ⟨[.agg [I x4.x0, I x4.x1]], 2, false⟩)]) (nxt := 6) (t := 3) (ty := ty3) (o := 4) (n := (w64 (((va4_0.length : Nat) : Int) - 1)).toNat) (sz := 2) (sub := 1) (ob := ⟨va4_0.map Arr2_Int.D, 2, false⟩) (e := Arr2_Int.D (va4_0.getD ((w64 (((va4_0.length : Nat) : Int) - 1)).toNat) default)) (d := I ((va4_0.getD ((w64 (((va4_0.length : Nat) : Int) - 1)).toNat) default).x1)) (by kernel_rfl) (by kernel_rfl) rfl (row_get (f := Arr2_Int.D) (by simp only [zr] at * <;> omega)) (by kernel_rfl))
      cases h4 : decide (x4.x1 > ((va4_0.getD ((w64 (((va4_0.length : Nat) : Int) - 1)).toNat) default).x1)) with
      | true =>
        have g4 := of_decide_eq_true h4
        exact po_turn' (ks := [3, 9, 10, 11]) (st' := (sd20196 l i4 q4_0 x4 va4_0)) ((au70_3_4_4a_l_o1 i4 x4 va4_0) ++ [.dec true, .op (some 33) ⟨.lsl 7 0 ((va4_0 ++ [x4]).length) 2 none, [(4, none), (7, some ⟨(va4_0 ++ [x4]).map Arr2_Int.D, 2, false⟩)], [4, 6], 8⟩, .rw 34 (I ((i4 + 1 : Nat) : Int))]) (And.intro (zX (i := i4) (by have := zt hd4; omega)) (And.intro (app_row (f := Arr2_Int.D) (te := ty47) (gO := zD [(3, ⟨q4_0.map Arr2_Int.D, 2, false⟩), (4, ⟨va4_0.map Arr2_Int.D, 2, false⟩), (5, ⟨[.agg [I x4.x0, I x4.x1]], 2, false⟩), (6, ⟨[.agg [I x4.x0, I x4.x1]], 2, false⟩)]) (nxt := 7) (o := 4) (o2 := 6) (fz := false) za va4_0 x4 (by kernel_rfl) (by kernel_rfl) rfl (by kernel_rfl) (by decide) ⟨by simp only [ty47, big] <;> (first | assumption | omega | (with_reducible exact y5) | (with_reducible exact Nat.le_trans open_len (by omega)) | (exact rows_two hi0 rfl (zq (by simp)) (by simp)) | (exact rows_app (by assumption) (zq (by omega)) (by omega)) | (exact rowsR_two hi0 rfl (zZ (by decide)) (by decide)) | (exact rowsR_app (by assumption) (zZ (by omega)) (by omega)) | (with_reducible exact allb_nil) | (with_reducible exact allb_one (by omega)) | (with_reducible exact allb_app (by assumption) (by omega)) | (exact Int.le_trans (n_le (by omega)) (by decide)) | (exact Nat.le_trans (au70_3_4_len (by omega)).2 (by omega)) | (simp only [zr] at * <;> omega) | (simp only [zo, zi, zj, zf, zn, zv, GS.nil_len, GS.some_l, List.length_set, List.length_append, List.length_cons, List.length_nil] at * <;> first | with_reducible assumption | omega) | (simp only [zo, zi, zj, zf, zn, zv, GS.nil_len, GS.some_l, List.length_set, List.length_append, List.length_cons, List.length_nil, zr] at * <;> first | with_reducible assumption | omega) | (simp at * <;> omega)), by simp only [big] <;> (first | assumption | omega | (with_reducible exact y5) | (with_reducible exact Nat.le_trans open_len (by omega)) | (exact rows_two hi0 rfl (zq (by simp)) (by simp)) | (exact rows_app (by assumption) (zq (by omega)) (by omega)) | (exact rowsR_two hi0 rfl (zZ (by decide)) (by decide)) | (exact rowsR_app (by assumption) (zZ (by omega)) (by omega)) | (with_reducible exact allb_nil) | (with_reducible exact allb_one (by omega)) | (with_reducible exact allb_app (by assumption) (by omega)) | (exact Int.le_trans (n_le (by omega)) (by decide)) | (exact Nat.le_trans (au70_3_4_len (by omega)).2 (by omega)) | (simp only [zr] at * <;> omega) | (simp only [zo, zi, zj, zf, zn, zv, GS.nil_len, GS.some_l, List.length_set, List.length_append, List.length_cons, List.length_nil] at * <;> first | with_reducible assumption | omega) | (simp only [zo, zi, zj, zf, zn, zv, GS.nil_len, GS.some_l, List.length_set, List.length_append, List.length_cons, List.length_nil, zr] at * <;> first | with_reducible assumption | omega) | (simp at * <;> omega))⟩) (And.intro h4 (And.intro p4 (And.intro p3 (And.intro h3 (And.intro p2 (And.intro p1 (And.intro (lt_at' hd4 hq4) trivial))))))))) (by kernel_rfl) (by (simp only [sd20196, go_sem, List.length_set, Nat.reduceAdd, Nat.reduceEqDiff, Nat.reduceLT, Nat.reduceLeDiff, bI2, za.idsL, za.renL, za.snapAll, z7.idsL, z7.renL, z7.snapAll, zl.idsL, zl.renL, zl.snapAll, z8.idsL, z8.renL, z8.snapAll]) <;> rfl) (ih (i4 + 1) (va4_0 ++ [x4]) (zA hd4) (zt hd4) (by simp only [List.length_append, List.length_cons, List.length_nil] at * <;> omega) (by omega) (by simp only [List.length_append, List.length_cons, List.length_nil] at * <;> omega) (by omega)) (by kernel_rfl)
      | false =>
        have g4 := of_decide_eq_false h4
        exact po_turn' (ks := [3, 9, 10, 11]) (st' := (sd20197 l i4 q4_0 x4 va4_0)) ((au70_3_4_4a_l_o1 i4 x4 va4_0) ++ [.dec false, .rw 34 (I ((i4 + 1 : Nat) : Int))]) (And.intro (zX (i := i4) (by have := zt hd4; omega)) (And.intro h4 (And.intro p4 (And.intro p3 (And.intro h3 (And.intro p2 (And.intro p1 (And.intro (lt_at' hd4 hq4) trivial)))))))) (by kernel_rfl) (by (simp only [sd20197, go_sem, List.length_set, Nat.reduceAdd, Nat.reduceEqDiff, Nat.reduceLT, Nat.reduceLeDiff, bI2, za.idsL, za.renL, za.snapAll, z7.idsL, z7.renL, z7.snapAll, zl.idsL, zl.renL, zl.snapAll, z8.idsL, z8.renL, z8.snapAll]) <;> rfl) (ih (i4 + 1) va4_0 (zA hd4) (zt hd4) (by omega) (by omega) (by omega) (by omega)) (by kernel_rfl)
theorem ivt_au70_3_4_4a (l : List Arr2_Int) (q4_0 : List Arr2_Int) : ∀ (rest4 : List Arr2_Int) (i4 : Nat) (va4_0 : List Arr2_Int) (hd4 : q4_0.drop i4 = rest4) (hi4 : i4 ≤ q4_0.length) (hz4_va4_0 : 1 ≤ va4_0.length) (hq4 : q4_0.length = l.length) (hg4_va4_0 : va4_0.length ≤ i4) (hL4 : q4_0.length ≤ 1099511627776), iv_au70_3_4_4 l q4_0 (au70_3_4_4a rest4 va4_0) := by
  intro rest4
  induction rest4 with
  | nil =>
    intro i4 va4_0 hd4 hi4 hz4_va4_0 hq4 hg4_va4_0 hL4
    unfold au70_3_4_4a
    obtain rfl : i4 = q4_0.length := nil_eq hd4 hi4
    exact ⟨hz4_va4_0, hg4_va4_0⟩
  | cons x4 rest4 ih =>
    intro i4 va4_0 hd4 hi4 hz4_va4_0 hq4 hg4_va4_0 hL4
    have hlt4 := zt hd4
    unfold au70_3_4_4a
    cases h3 : (((va4_0.length : Nat) : Int) == 0) with
    | true =>
      have g3 := eq_of_beq h3
      exact ih (i4 + 1) (va4_0 ++ [x4]) (zA hd4) (zt hd4) (by omega) (by omega) (by omega) (by omega)
    | false =>
      have g3 := ne_of_beq_false h3
      cases h4 : decide (x4.x1 > ((va4_0.getD ((w64 (((va4_0.length : Nat) : Int) - 1)).toNat) default).x1)) with
      | true =>
        have g4 := of_decide_eq_true h4
        exact ih (i4 + 1) (va4_0 ++ [x4]) (zA hd4) (zt hd4) (by simp only [List.length_append, List.length_cons, List.length_nil] at * <;> omega) (by omega) (by simp only [List.length_append, List.length_cons, List.length_nil] at * <;> omega) (by omega)
      | false =>
        have g4 := of_decide_eq_false h4
        exact ih (i4 + 1) va4_0 (zA hd4) (zt hd4) (by omega) (by omega) (by omega) (by omega)
theorem lp_au70_3_4_4 (l : List Arr2_Int) (q4_0 : List Arr2_Int) : ∀ (rest4 : List Arr2_Int) (i4 : Nat) (hd4 : q4_0.drop i4 = rest4) (hi4 : i4 ≤ q4_0.length) (hq4 : q4_0.length = l.length) (hL4 : q4_0.length ≤ 1099511627776), (lim cfg).loop 70 lp70_4 ⟨36, [(3, .sl true [] 0 none), (9, .lsl 3 0 l.length 2 none), (10, I ((l.length : Nat) : Int)), (11, I ((i4 : Nat) : Int))], [(3, ⟨q4_0.map Arr2_Int.D, 2, false⟩)], 4, 4⟩ = some (lr_au70_3_4_4 l q4_0 (au70_3_4_4 rest4)) := by
  intro rest4
  induction rest4 with
  | nil =>
    intro i4 hd4 hi4 hq4 hL4
    unfold au70_3_4_4
    obtain rfl : i4 = q4_0.length := nil_eq hd4 hi4
    exact zS [.dec false] (And.intro (lt_no' hd4 hq4) trivial) (by kernel_rfl)
  | cons x4 rest4 ih =>
    intro i4 hd4 hi4 hq4 hL4
    have hlt4 := zt hd4
    unfold au70_3_4_4
    dsimp only
    exact po_turn' (ks := [3, 9, 10, 11]) (st' := (sd20198 l i4 q4_0 x4)) [.dec true, .op (some 13) ⟨.lref 3 i4 2 0, [], [], 4⟩, .op (some 14) ⟨.agg [I x4.x0, I x4.x1], [], [3], 4⟩, .dec true, .rw 34 (I ((i4 + 1 : Nat) : Int))] (And.intro (zX (i := i4) (by have := zt hd4; omega)) (And.intro (Eq.refl true) (And.intro (load_row (C := cfg) (objs := [(3, ⟨q4_0.map Arr2_Int.D, 2, false⟩)]) (nxt := 4) (t := 47) (ty := ty47) (o := 3) (n := i4) (sz := 2) (sub := 0) (ob := ⟨q4_0.map Arr2_Int.D, 2, false⟩) (e := Arr2_Int.D x4) (d := .agg [I x4.x0, I x4.x1]) (by kernel_rfl) (by kernel_rfl) rfl (row_at (f := Arr2_Int.D) hd4) (by kernel_rfl)) (And.intro (idx_row (C := cfg) (nxt := 4) (t := 29) (ty := ty29) (te := ty47) (e := 47) (o := 3) (len := l.length) (sz := 2) (cap := none) (i := ((i4 : Nat) : Int)) (by kernel_rfl) rfl (by kernel_rfl) rfl (by omega) (by omega)) (And.intro (lt_at' hd4 hq4) trivial))))) (by kernel_rfl) (by (simp only [sd20198, go_sem, List.length_set, Nat.reduceAdd, Nat.reduceEqDiff, Nat.reduceLT, Nat.reduceLeDiff, bI2, za.idsL, za.renL, za.snapAll, z7.idsL, z7.renL, z7.snapAll, zl.idsL, zl.renL, zl.snapAll, z8.idsL, z8.renL, z8.snapAll]) <;> rfl) (lp_au70_3_4_4a l q4_0 _ (i4 + 1) [x4] (zA hd4) (zt hd4) (by simp only [List.length_append, List.length_cons, List.length_nil] at * <;> omega) (by omega) (by simp only [List.length_append, List.length_cons, List.length_nil] at * <;> omega) (by omega)) (by kernel_rfl)
theorem ivt_au70_3_4_4 (l : List Arr2_Int) (q4_0 : List Arr2_Int) : ∀ (rest4 : List Arr2_Int) (i4 : Nat) (hd4 : q4_0.drop i4 = rest4) (hi4 : i4 ≤ q4_0.length) (hq4 : q4_0.length = l.length) (hL4 : q4_0.length ≤ 1099511627776), iv_au70_3_4_4 l q4_0 (au70_3_4_4 rest4) := by
  intro rest4
  induction rest4 with
  | nil =>
    intro i4 hd4 hi4 hq4 hL4
    unfold au70_3_4_4
    obtain rfl : i4 = q4_0.length := nil_eq hd4 hi4
    exact trivial
  | cons x4 rest4 ih =>
    intro i4 hd4 hi4 hq4 hL4
    have hlt4 := zt hd4
    unfold au70_3_4_4
    dsimp only
    exact ivt_au70_3_4_4a l q4_0 _ (i4 + 1) [x4] (zA hd4) (zt hd4) (by simp only [List.length_append, List.length_cons, List.length_nil] at * <;> omega) (by omega) (by simp only [List.length_append, List.length_cons, List.length_nil] at * <;> omega) (by omega)

theorem au70_3_4_4a_len : ∀ (l v : List Arr2_Int), ∃ w, au70_3_4_4a l v = .x0 w ∧ v.length ≤ w.length ∧ w.length ≤ v.length + l.length
  | [], v => ⟨v, rfl, Nat.le_refl _, Nat.le_refl _⟩
  | x :: l, v => by
    obtain ⟨w, h1, h2, h3⟩ := au70_3_4_4a_len l (v ++ [x])
    obtain ⟨w', h1', h2', h3'⟩ := au70_3_4_4a_len l v
    simp only [List.length_append, List.length_cons, List.length_nil] at h2 h3 h2' h3' ⊢
    unfold au70_3_4_4a
    rw [Bool.cond_eq_ite, Bool.cond_eq_ite]
    split
    · exact ⟨w, h1, by omega, by omega⟩
    · split
      · exact ⟨w, h1, by omega, by omega⟩
      · exact ⟨w', h1', by omega, by omega⟩
theorem au70_3_4_4_len {l : List Arr2_Int} (h : 1 ≤ l.length) : ∃ w, au70_3_4_4 l = .x0 w ∧ 1 ≤ w.length ∧ w.length ≤ l.length := by
  cases l with
  | nil => simp at h
  | cons x l =>
    obtain ⟨w, h1, h2, h3⟩ := au70_3_4_4a_len l [x]
    refine ⟨w, h1, ?_, ?_⟩ <;> simp at * <;> omega
theorem au70_3_4_4_ne {l : List Arr2_Int} (h : 1 ≤ l.length) : au70_3_4_4 l ≠ .x1 := by
  obtain ⟨w, h1, _⟩ := au70_3_4_4_len h
  rw [h1]; exact fun h => by cases h

def yc (l : List Arr2_Int) : List Arr2_Int :=
  match au70_3_4_4 (srtA l) with
  | .x0 va4_0 =>
    va4_0
  | .x1 =>
    default

def sd20200 (l : List Arr2_Int) (va4_0 : List Arr2_Int) : St := ⟨36, [(12, B false), (3, .lsl 4 0 va4_0.length 2 none), (9, .lsl 3 0 l.length 2 none), (10, I ((l.length : Nat) : Int)), (11, I (((srtA l).length : Nat) : Int))], [(3, ⟨(srtA l).map Arr2_Int.D, 2, false⟩), (4, ⟨va4_0.map Arr2_Int.D, 2, false⟩)], 5, 4⟩

def sd20199 (l : List Arr2_Int) : St := ⟨36, [(11, I 0), (10, I ((l.length : Nat) : Int)), (9, .lsl 3 0 l.length 2 none), (3, .sl true [] 0 none), (8, .tup []), (7, .lsl 3 0 l.length 2 none), (2, .sl true [] 0 none), (0, .lsl 3 0 l.length 2 none)], [(3, ⟨(srtA l).map Arr2_Int.D, 2, false⟩)], 4, 4⟩

theorem I_au70_3_4 (l : List Arr2_Int) (hl : 1 ≤ l.length) (hl2 : l.length ≤ 1099511627776) : (lim cfg).inl 70 [.lsl 3 0 l.length 2 none] [(3, ⟨l.map Arr2_Int.D, 2, false⟩)] 4 = some (.lsl 4 0 ((yc l).length) 2 none, [(3, ⟨(srtA l).map Arr2_Int.D, 2, false⟩), (4, ⟨(yc l).map Arr2_Int.D, 2, false⟩)], 5) := by
  unfold yc
  cases h5 : au70_3_4_4 (srtA l) with
  | x0 va4_0 =>
    try dsimp only
    have hv_h5 := ivt_au70_3_4_4 l (srtA l) (srtA l) 0 (List.drop_zero) (Nat.zero_le _) (by simp only [zo, zi, zj, zf, zn, zv, GS.nil_len, GS.some_l, List.length_set, List.length_append, List.length_cons, List.length_nil] at * <;> first | with_reducible assumption | omega) (by simp only [zo, zi, zj, zf, zn, zv, GS.nil_len, GS.some_l, List.length_set, List.length_append, List.length_cons, List.length_nil] at * <;> first | with_reducible assumption | omega)
    rw [h5] at hv_h5
    obtain ⟨hv_h5_0, hv_h5_1⟩ := hv_h5
    try dsimp only [iv_au70_3_4_4] at hv_h5_0
    try dsimp only [iv_au70_3_4_4] at hv_h5_1
    exact po_inl [.inlS [3] (.tup []) [(3, ⟨(srtA l).map Arr2_Int.D, 2, false⟩)] 4, .gloop ⟨36, [(3, .sl true [] 0 none), (9, .lsl 3 0 l.length 2 none), (10, I ((l.length : Nat) : Int)), (11, I 0)], [(3, ⟨(srtA l).map Arr2_Int.D, 2, false⟩)], 4, 4⟩ (.exit 0) (sd20200 l va4_0)] (And.intro (po_lr (q := lr_au70_3_4_4 l (srtA l)) (lp_au70_3_4_4 l (srtA l) (srtA l) 0 (List.drop_zero) (Nat.zero_le _) (by simp only [zo, zi, zj, zf, zn, zv, GS.nil_len, GS.some_l, List.length_set, List.length_append, List.length_cons, List.length_nil] at * <;> first | with_reducible assumption | omega) (by simp only [zo, zi, zj, zf, zn, zv, GS.nil_len, GS.some_l, List.length_set, List.length_append, List.length_cons, List.length_nil] at * <;> first | with_reducible assumption | omega)) h5) (And.intro (gc_of (C := cfg) (f := 70) (a := lp70_4) (ks := [3, 9, 10, 11]) (st := (sd20199 l)) (st1 := ⟨36, [(3, .sl true [] 0 none), (9, .lsl 3 0 l.length 2 none), (10, I ((l.length : Nat) : Int)), (11, I 0)], [(3, ⟨(srtA l).map Arr2_Int.D, 2, false⟩)], 4, 4⟩) (by kernel_rfl) (by (simp only [sd20199, go_sem, List.length_set, Nat.reduceAdd, Nat.reduceEqDiff, Nat.reduceLT, Nat.reduceLeDiff, bI2, za.idsL, za.renL, za.snapAll, z7.idsL, z7.renL, z7.snapAll, zl.idsL, zl.renL, zl.snapAll, z8.idsL, z8.renL, z8.snapAll]) <;> rfl)) (And.intro (And.intro (show liveFrom [(3, ⟨l.map Arr2_Int.D, 2, false⟩)] 256 [3] [] = some [3] from (by (simp only [liveFrom, go_sem, List.length_set, Nat.reduceAdd, Nat.reduceEqDiff, Nat.reduceLT, Nat.reduceLeDiff, bI2, za.idsL, za.renL, za.snapAll, z7.idsL, z7.renL, z7.snapAll, zl.idsL, zl.renL, zl.snapAll, z8.idsL, z8.renL, z8.snapAll]) <;> rfl)) (T_sort 3 4 none l (by omega))) trivial))) (by kernel_rfl)
  | x1 =>
    exact absurd h5 (au70_3_4_4_ne (by simp only [zo, zi, zj, zf, zn, zv, GS.nil_len, GS.some_l, List.length_set, List.length_append, List.length_cons, List.length_nil] at * <;> first | with_reducible assumption | omega))
theorem au70_3_4_len {l : List Arr2_Int} (h : 1 ≤ l.length) : 1 ≤ (yc l).length ∧ (yc l).length ≤ l.length := by
  obtain ⟨w, h1, h2, h3⟩ := au70_3_4_4_len (l := srtA l) (by rw [zv]; exact h)
  rw [zv] at h3
  unfold yc
  rw [h1]
  exact ⟨h2, h3⟩

def z6 (e : S_Estate) : (GS Arr2_Int) × Int :=
  bif ((zy e) != 0) then
    (GS.nil, (zy e))
  else
    match ls_1 e (w64 (1 * 2 ^ (min (((e.items.l.length : Nat) : Int)).toNat 64)) - 0).toNat 0 with
    | .x0 i1 va1_0 =>
      match orders_Steps_10 (yc va1_0) 0 (yc va1_0) with
      | .x0 v10_0 =>
        (GS.some v10_0, 0)
    | .x1 _ =>
      default

def sd20203 (va1_0 : List Arr2_Int) : St := ⟨48, [(5, .lref 0 0 1 0), (32, I (((yc va1_0).length : Nat) : Int)), (33, I 0)], [(0, ⟨[.lsl 1 0 ((yc va1_0).length) 2 none], 1, false⟩), (1, ⟨(yc va1_0).map Arr2_Int.D, 2, false⟩)], 2, 0⟩

def sd20204 (va1_0 : List Arr2_Int) (v10_0 : List Arr2_Int) : St := ⟨48, [(34, B false), (5, .lref 0 0 1 0), (32, I (((yc va1_0).length : Nat) : Int)), (33, I (((yc va1_0).length : Nat) : Int))], [(0, ⟨[.lsl 1 0 ((yc va1_0).length) 2 none], 1, false⟩), (1, ⟨v10_0.map Arr2_Int.D, 2, false⟩)], 2, 0⟩

def sd20202 (e : S_Estate) (va1_0 : List Arr2_Int) : St := ⟨48, [(33, I 0), (32, I (((yc va1_0).length : Nat) : Int)), (31, .lsl 4 0 ((yc va1_0).length) 2 none), (30, .lsl 4 0 ((yc va1_0).length) 2 none), (29, .lsl 3 0 va1_0.length 2 none), (16, .fn (.func 96) [] [.ptr (I ((e.items.l.length : Nat) : Int))]), (15, I ((e.items.l.length : Nat) : Int)), (14, .sl e.items.nl (e.items.l.map S_Item.D) (zsl e.items.nl 4) none), (13, .lref 0 0 3 0), (5, .lref 1 0 1 0), (11, B false), (10, I (zy e)), (4, I (zy e)), (9, I (zy e)), (8, .agg [.sl e.items.nl (e.items.l.map S_Item.D) (zsl e.items.nl 4) none, I e.whole.lo, I e.whole.hi]), (3, I 0), (2, .sl true [] 0 none), (1, .lref 0 0 3 0), (0, .agg [.sl e.items.nl (e.items.l.map S_Item.D) (zsl e.items.nl 4) none, I e.whole.lo, I e.whole.hi])], [(0, ⟨[.agg [.sl e.items.nl (e.items.l.map S_Item.D) (zsl e.items.nl 4) none, I e.whole.lo, I e.whole.hi]], 3, false⟩), (1, ⟨[.lsl 4 0 ((yc va1_0).length) 2 none], 1, false⟩), (3, ⟨(srtA va1_0).map Arr2_Int.D, 2, false⟩), (4, ⟨(yc va1_0).map Arr2_Int.D, 2, false⟩)], 5, 0⟩

def sd20194 (e : S_Estate) (i1 : Nat) (va1_0 : List Arr2_Int) : St := ⟨30, [(9, B false), (0, .yld 2), (1, .ptr (I ((e.items.l.length : Nat) : Int))), (7, I (w64 (1 * 2 ^ (min (((e.items.l.length : Nat) : Int)).toNat 64)))), (8, I ((i1 : Nat) : Int))], [(0, ⟨[.agg [.sl e.items.nl (e.items.l.map S_Item.D) (zsl e.items.nl 4) none, I e.whole.lo, I e.whole.hi]], 3, false⟩), (1, ⟨[.lsl 3 0 va1_0.length 2 none], 1, false⟩), (3, ⟨va1_0.map Arr2_Int.D, 2, false⟩)], 4, 3⟩

theorem T_orders_Steps (e : S_Estate) (hL_e_items : e.items.l.length ≤ 1099511627776) : (lim cfg).pure 23 [S_Estate.D e] = some (.tup [GS.D Arr2_Int.D 2 ((z6 e).1), I ((z6 e).2)]) := by
  unfold z6
  cases h1 : ((zy e) != 0) with
  | true =>
    have g1 := bne_true h1
    exact zk [.pure (I (zy e)), .dec true] (And.intro h1 (And.intro (yb e) trivial)) (by kernel_rfl)
  | false =>
    have g1 := check_len (bne_false h1)
    cases h22 : ls_1 e (w64 (1 * 2 ^ (min (((e.items.l.length : Nat) : Int)).toNat 64)) - 0).toNat 0 with
    | x0 i1 va1_0 =>
      try dsimp only
      have hv_h22 := ivt_ls_1 e (w64 (1 * 2 ^ (min (((e.items.l.length : Nat) : Int)).toNat 64))) (w64 (1 * 2 ^ (min (((e.items.l.length : Nat) : Int)).toNat 64)) - 0).toNat 0 (by omega) (by simp only [zr] at * <;> omega) (by omega) (by exact Int.le_trans (n_le (by omega)) (by decide)) (by exact Int.le_trans (n_le (by omega)) (by decide))
      rw [h22] at hv_h22
      obtain ⟨hv_h22_0, hv_h22_1⟩ := hv_h22
      try dsimp only [iv_ls_1] at hv_h22_0
      try dsimp only [iv_ls_1] at hv_h22_1
      cases h23 : orders_Steps_10 (yc va1_0) 0 (yc va1_0) with
      | x0 v10_0 =>
        try dsimp only
        have hv_h23 := ivt_orders_Steps_10 (yc va1_0) (yc va1_0) 0 (yc va1_0) (List.drop_zero) (Nat.zero_le _) (by omega) (by exact Nat.le_trans (au70_3_4_len (by omega)).2 (by omega))
        rw [h23] at hv_h23
        have hv_h23_0 := hv_h23
        try dsimp only [iv_orders_Steps_10] at hv_h23_0
        exact po_pureS [.pure (I (zy e)), .dec false, .rw 15 (I ((e.items.l.length : Nat) : Int)), .pure (.fn (.func 96) [] [.ptr (I ((e.items.l.length : Nat) : Int))]), .iter [(0, ⟨[.agg [.sl e.items.nl (e.items.l.map S_Item.D) (zsl e.items.nl 4) none, I e.whole.lo, I e.whole.hi]], 3, false⟩), (1, ⟨[.lsl 3 0 va1_0.length 2 none], 1, false⟩), (3, ⟨va1_0.map Arr2_Int.D, 2, false⟩)] 4 none, .inlS [3] (.lsl 4 0 ((yc va1_0).length) 2 none) [(3, ⟨(srtA va1_0).map Arr2_Int.D, 2, false⟩), (4, ⟨(yc va1_0).map Arr2_Int.D, 2, false⟩)] 5, .gloop (sd20203 va1_0) (.exit 2) (sd20204 va1_0 v10_0)] [(1, .sl false (v10_0.map Arr2_Int.D) 2 none, [1])] (And.intro (snap_row (gO := zD [(0, ⟨[.lsl 1 0 ((yc va1_0).length) 2 none], 1, false⟩), (1, ⟨v10_0.map Arr2_Int.D, 2, false⟩)]) (o := 1) (len := (yc va1_0).length) (cap := none) (fz := false) za v10_0 (by kernel_rfl) (by omega)) (And.intro (po_lr (q := lr_orders_Steps_10 (yc va1_0)) (lp_orders_Steps_10 (yc va1_0) (yc va1_0) 0 (yc va1_0) (List.drop_zero) (Nat.zero_le _) (by omega) (by exact Nat.le_trans (au70_3_4_len (by omega)).2 (by omega))) h23) (And.intro (gc_of (C := cfg) (f := 23) (a := lp23_10) (ks := [5, 32, 33]) (st := (sd20202 e va1_0)) (st1 := (sd20203 va1_0)) (by kernel_rfl) (by (simp only [sd20202, sd20203, go_sem, List.length_set, Nat.reduceAdd, Nat.reduceEqDiff, Nat.reduceLT, Nat.reduceLeDiff, bI2, za.idsL, za.renL, za.snapAll, z7.idsL, z7.renL, z7.snapAll, zl.idsL, zl.renL, zl.snapAll, z8.idsL, z8.renL, z8.snapAll]) <;> rfl)) (And.intro (And.intro (show liveFrom [(0, ⟨[.agg [.sl e.items.nl (e.items.l.map S_Item.D) (zsl e.items.nl 4) none, I e.whole.lo, I e.whole.hi]], 3, false⟩), (1, ⟨[.lsl 3 0 va1_0.length 2 none], 1, false⟩), (3, ⟨va1_0.map Arr2_Int.D, 2, false⟩)] 256 [3] [] = some [3] from (by (simp only [liveFrom, go_sem, List.length_set, Nat.reduceAdd, Nat.reduceEqDiff, Nat.reduceLT, Nat.reduceLeDiff, bI2, za.idsL, za.renL, za.snapAll, z7.idsL, z7.renL, z7.snapAll, zl.idsL, zl.renL, zl.snapAll, z8.idsL, z8.renL, z8.snapAll]) <;> rfl)) (I_au70_3_4 va1_0 (by omega) (by omega))) (And.intro (show (lim cfg).iter (rg20170 e) 96 [.yld 2, .ptr (I ((e.items.l.length : Nat) : Int))] [(0, ⟨[.agg [.sl e.items.nl (e.items.l.map S_Item.D) (zsl e.items.nl 4) none, I e.whole.lo, I e.whole.hi]], 3, false⟩), (1, ⟨[.sl true [] 0 none], 1, false⟩)] 3 = some ([(0, ⟨[.agg [.sl e.items.nl (e.items.l.map S_Item.D) (zsl e.items.nl 4) none, I e.whole.lo, I e.whole.hi]], 3, false⟩), (1, ⟨[.lsl 3 0 va1_0.length 2 none], 1, false⟩), (3, ⟨va1_0.map Arr2_Int.D, 2, false⟩)], 4, none) from po_iter [.op (some 7) ⟨I (w64 (1 * 2 ^ (min (((e.items.l.length : Nat) : Int)).toNat 64))), [], [], 3⟩, .loopY (.exit 0) (sd20194 e i1 va1_0) none] (And.intro (po_lrY (q := lr_ls_1 e (w64 (1 * 2 ^ (min (((e.items.l.length : Nat) : Int)).toNat 64)))) (lp_ls_1 e (w64 (1 * 2 ^ (min (((e.items.l.length : Nat) : Int)).toNat 64))) (w64 (1 * 2 ^ (min (((e.items.l.length : Nat) : Int)).toNat 64)) - 0).toNat 0 (by omega) (by simp only [zr] at * <;> omega) (by omega) (by exact Int.le_trans (n_le (by omega)) (by decide)) (by exact Int.le_trans (n_le (by omega)) (by decide))) h22) (And.intro (shl_op (C := cfg) (t := 3) (cst := true) (nxt := 3) (a := 1) (b := ((e.items.l.length : Nat) : Int)) (by omega)) trivial)) (by kernel_rfl)) (And.intro (T_lists ((e.items.l.length : Nat) : Int)) (And.intro (zu S_Item.D e.items) (And.intro h1 (And.intro (yb e) trivial))))))))) (by kernel_rfl)
    | x1 _ =>
      exact absurd h22 (ls_1_ne (n_pos (by omega)))
end Go.VS

namespace Go.VS
open Go Go.Proofs
set_option maxHeartbeats 0
set_option linter.unusedSimpArgs false
set_option linter.unusedVariables false
def or2 (x0 x1 : Int) : Int := bif (x0 != 0) then x0 else bif (x1 != 0) then x1 else 0

def sd20162 (x0 : Int) (x1 : Int) : St := ⟨18, [(2, I x0), (15, I x0), (14, B true), (13, I 0), (12, I x0), (5, I x0), (11, I x0), (10, .ptr (I x0)), (9, B true), (3, I 0), (6, .sl false [I x0, I x1] 1 none), (7, I 2), (8, I 0)], [], 0, 0⟩

noncomputable def lp91_3 : Code := subC [1, 1, 0, 1, 0, 0] (bodyC Try.f91)

def sd20163 (x0 : Int) (x1 : Int) : St := ⟨18, [(2, I x1), (15, I x1), (14, B true), (13, I 0), (12, I x1), (5, I x1), (11, I x1), (10, .ptr (I x1)), (9, B true), (3, I 0), (6, .sl false [I x0, I x1] 1 none), (7, I 2), (8, I 1)], [], 0, 0⟩

theorem T_or2 (x0 x1 : Int) : (lim cfg).pure 91 [.sl false [I x0, I x1] 1 none] = some (I (or2 x0 x1)) := by
  unfold or2
  cases h1 : (x0 != 0) with
  | true =>
    have g1 := bne_true h1
    exact zk [.loop .ret (sd20162 x0 x1)] (And.intro (show (lim cfg).loop 91 lp91_3 ⟨18, [(3, I 0), (6, .sl false [I x0, I x1] 1 none), (7, I 2), (8, I 0)], [], 0, 0⟩ = some (.ret, (sd20162 x0 x1)) from (zS [.dec true, .dec true] (And.intro h1 (And.intro (Eq.refl true) trivial)) (by kernel_rfl))) trivial) (by kernel_rfl)
  | false =>
    have g1 := bne_false h1
    have l1 := (show ∀ q, (lim cfg).loop 91 lp91_3 ⟨18, [(3, I 0), (6, .sl false [I x0, I x1] 1 none), (7, I 2), (8, I 1)], [], 0, 0⟩ = some q → (lim cfg).loop 91 lp91_3 ⟨18, [(3, I 0), (6, .sl false [I x0, I x1] 1 none), (7, I 2), (8, I 0)], [], 0, 0⟩ = some q from fun q hq => po_turn (st1 := ⟨18, [(3, I 0), (6, .sl false [I x0, I x1] 1 none), (7, I 2), (8, I 1)], [], 0, 0⟩) [.dec true, .dec false] (And.intro h1 (And.intro (Eq.refl true) trivial)) hq (by kernel_rfl))
    cases h2 : (x1 != 0) with
    | true =>
      have g2 := bne_true h2
      exact zk [.loop .ret (sd20163 x0 x1)] (And.intro (show (lim cfg).loop 91 lp91_3 ⟨18, [(3, I 0), (6, .sl false [I x0, I x1] 1 none), (7, I 2), (8, I 0)], [], 0, 0⟩ = some (.ret, (sd20163 x0 x1)) from (l1 _ (zS [.dec true, .dec true] (And.intro h2 (And.intro (Eq.refl true) trivial)) (by kernel_rfl)))) trivial) (by kernel_rfl)
    | false =>
      have g2 := bne_false h2
      have l2 := (show ∀ q, (lim cfg).loop 91 lp91_3 ⟨18, [(3, I 0), (6, .sl false [I x0, I x1] 1 none), (7, I 2), (8, I 2)], [], 0, 0⟩ = some q → (lim cfg).loop 91 lp91_3 ⟨18, [(3, I 0), (6, .sl false [I x0, I x1] 1 none), (7, I 2), (8, I 1)], [], 0, 0⟩ = some q from fun q hq => po_turn (st1 := ⟨18, [(3, I 0), (6, .sl false [I x0, I x1] 1 none), (7, I 2), (8, I 2)], [], 0, 0⟩) [.dec true, .dec false] (And.intro h2 (And.intro (Eq.refl true) trivial)) hq (by kernel_rfl))
      exact zk [.loop (.exit 0) ⟨18, [(9, B false), (3, I 0), (6, .sl false [I x0, I x1] 1 none), (7, I 2), (8, I 2)], [], 0, 0⟩] (And.intro (show (lim cfg).loop 91 lp91_3 ⟨18, [(3, I 0), (6, .sl false [I x0, I x1] 1 none), (7, I 2), (8, I 0)], [], 0, 0⟩ = some ((.exit 0), ⟨18, [(9, B false), (3, I 0), (6, .sl false [I x0, I x1] 1 none), (7, I 2), (8, I 2)], [], 0, 0⟩) from (l1 _ (l2 _ (zS [.dec false] (And.intro (Eq.refl false) trivial) (by kernel_rfl))))) trivial) (by kernel_rfl)

def or3 (x0 x1 x2 : Int) : Int := bif (x0 != 0) then x0 else bif (x1 != 0) then x1 else bif (x2 != 0) then x2 else 0

def sd20164 (x0 : Int) (x1 : Int) (x2 : Int) : St := ⟨18, [(2, I x0), (15, I x0), (14, B true), (13, I 0), (12, I x0), (5, I x0), (11, I x0), (10, .ptr (I x0)), (9, B true), (3, I 0), (6, .sl false [I x0, I x1, I x2] 1 none), (7, I 3), (8, I 0)], [], 0, 0⟩

def sd20165 (x0 : Int) (x1 : Int) (x2 : Int) : St := ⟨18, [(2, I x1), (15, I x1), (14, B true), (13, I 0), (12, I x1), (5, I x1), (11, I x1), (10, .ptr (I x1)), (9, B true), (3, I 0), (6, .sl false [I x0, I x1, I x2] 1 none), (7, I 3), (8, I 1)], [], 0, 0⟩

def sd20166 (x0 : Int) (x1 : Int) (x2 : Int) : St := ⟨18, [(2, I x2), (15, I x2), (14, B true), (13, I 0), (12, I x2), (5, I x2), (11, I x2), (10, .ptr (I x2)), (9, B true), (3, I 0), (6, .sl false [I x0, I x1, I x2] 1 none), (7, I 3), (8, I 2)], [], 0, 0⟩

theorem T_or3 (x0 x1 x2 : Int) : (lim cfg).pure 91 [.sl false [I x0, I x1, I x2] 1 none] = some (I (or3 x0 x1 x2)) := by
  unfold or3
  cases h1 : (x0 != 0) with
  | true =>
    have g1 := bne_true h1
    exact zk [.loop .ret (sd20164 x0 x1 x2)] (And.intro (show (lim cfg).loop 91 lp91_3 ⟨18, [(3, I 0), (6, .sl false [I x0, I x1, I x2] 1 none), (7, I 3), (8, I 0)], [], 0, 0⟩ = some (.ret, (sd20164 x0 x1 x2)) from (zS [.dec true, .dec true] (And.intro h1 (And.intro (Eq.refl true) trivial)) (by kernel_rfl))) trivial) (by kernel_rfl)
  | false =>
    have g1 := bne_false h1
    have l1 := (show ∀ q, (lim cfg).loop 91 lp91_3 ⟨18, [(3, I 0), (6, .sl false [I x0, I x1, I x2] 1 none), (7, I 3), (8, I 1)], [], 0, 0⟩ = some q → (lim cfg).loop 91 lp91_3 ⟨18, [(3, I 0), (6, .sl false [I x0, I x1, I x2] 1 none), (7, I 3), (8, I 0)], [], 0, 0⟩ = some q from fun q hq => po_turn (st1 := ⟨18, [(3, I 0), (6, .sl false [I x0, I x1, I x2] 1 none), (7, I 3), (8, I 1)], [], 0, 0⟩) [.dec true, .dec false] (And.intro h1 (And.intro (Eq.refl true) trivial)) hq (by kernel_rfl))
    cases h2 : (x1 != 0) with
    | true =>
      have g2 := bne_true h2
      exact zk [.loop .ret (sd20165 x0 x1 x2)] (And.intro (show (lim cfg).loop 91 lp91_3 ⟨18, [(3, I 0), (6, .sl false [I x0, I x1, I x2] 1 none), (7, I 3), (8, I 0)], [], 0, 0⟩ = some (.ret, (sd20165 x0 x1 x2)) from (l1 _ (zS [.dec true, .dec true] (And.intro h2 (And.intro (Eq.refl true) trivial)) (by kernel_rfl)))) trivial) (by kernel_rfl)
    | false =>
      have g2 := bne_false h2
      have l2 := (show ∀ q, (lim cfg).loop 91 lp91_3 ⟨18, [(3, I 0), (6, .sl false [I x0, I x1, I x2] 1 none), (7, I 3), (8, I 2)], [], 0, 0⟩ = some q → (lim cfg).loop 91 lp91_3 ⟨18, [(3, I 0), (6, .sl false [I x0, I x1, I x2] 1 none), (7, I 3), (8, I 1)], [], 0, 0⟩ = some q from fun q hq => po_turn (st1 := ⟨18, [(3, I 0), (6, .sl false [I x0, I x1, I x2] 1 none), (7, I 3), (8, I 2)], [], 0, 0⟩) [.dec true, .dec false] (And.intro h2 (And.intro (Eq.refl true) trivial)) hq (by kernel_rfl))
      cases h3 : (x2 != 0) with
      | true =>
        have g3 := bne_true h3
        exact zk [.loop .ret (sd20166 x0 x1 x2)] (And.intro (show (lim cfg).loop 91 lp91_3 ⟨18, [(3, I 0), (6, .sl false [I x0, I x1, I x2] 1 none), (7, I 3), (8, I 0)], [], 0, 0⟩ = some (.ret, (sd20166 x0 x1 x2)) from (l1 _ (l2 _ (zS [.dec true, .dec true] (And.intro h3 (And.intro (Eq.refl true) trivial)) (by kernel_rfl))))) trivial) (by kernel_rfl)
      | false =>
        have g3 := bne_false h3
        have l3 := (show ∀ q, (lim cfg).loop 91 lp91_3 ⟨18, [(3, I 0), (6, .sl false [I x0, I x1, I x2] 1 none), (7, I 3), (8, I 3)], [], 0, 0⟩ = some q → (lim cfg).loop 91 lp91_3 ⟨18, [(3, I 0), (6, .sl false [I x0, I x1, I x2] 1 none), (7, I 3), (8, I 2)], [], 0, 0⟩ = some q from fun q hq => po_turn (st1 := ⟨18, [(3, I 0), (6, .sl false [I x0, I x1, I x2] 1 none), (7, I 3), (8, I 3)], [], 0, 0⟩) [.dec true, .dec false] (And.intro h3 (And.intro (Eq.refl true) trivial)) hq (by kernel_rfl))
        exact zk [.loop (.exit 0) ⟨18, [(9, B false), (3, I 0), (6, .sl false [I x0, I x1, I x2] 1 none), (7, I 3), (8, I 3)], [], 0, 0⟩] (And.intro (show (lim cfg).loop 91 lp91_3 ⟨18, [(3, I 0), (6, .sl false [I x0, I x1, I x2] 1 none), (7, I 3), (8, I 0)], [], 0, 0⟩ = some ((.exit 0), ⟨18, [(9, B false), (3, I 0), (6, .sl false [I x0, I x1, I x2] 1 none), (7, I 3), (8, I 3)], [], 0, 0⟩) from (l1 _ (l2 _ (l3 _ (zS [.dec false] (And.intro (Eq.refl false) trivial) (by kernel_rfl)))))) trivial) (by kernel_rfl)

def cmp_Compare (x : Int) (y : Int) : Int :=
  bif (cmp_isNaN x) then
    bif (cmp_isNaN y) then
      0
    else
      (-1)
  else
    bif (cmp_isNaN y) then
      1
    else
      bif decide (x < y) then
        (-1)
      else
        bif decide (x > y) then
          1
        else
          0

theorem T_cmp_Compare (x : Int) (y : Int) : (lim cfg).pure 92 [I x, I y] = some (I (cmp_Compare x y)) := by
  unfold cmp_Compare
  cases h1 : (cmp_isNaN x) with
  | true =>
    cases h2 : (cmp_isNaN y) with
    | true =>
      exact zk [.pure (B (cmp_isNaN x)), .dec true, .pure (B (cmp_isNaN y)), .dec true] (And.intro h2 (And.intro (zR y) (And.intro h1 (And.intro (zR x) trivial)))) (by kernel_rfl)
    | false =>
      exact zk [.pure (B (cmp_isNaN x)), .dec true, .pure (B (cmp_isNaN y)), .dec false] (And.intro h2 (And.intro (zR y) (And.intro h1 (And.intro (zR x) trivial)))) (by kernel_rfl)
  | false =>
    cases h3 : (cmp_isNaN y) with
    | true =>
      exact zk [.pure (B (cmp_isNaN x)), .dec false, .pure (B (cmp_isNaN y)), .dec true] (And.intro h3 (And.intro (zR y) (And.intro h1 (And.intro (zR x) trivial)))) (by kernel_rfl)
    | false =>
      cases h4 : decide (x < y) with
      | true =>
        have g4 := of_decide_eq_true h4
        exact zk [.pure (B (cmp_isNaN x)), .dec false, .pure (B (cmp_isNaN y)), .dec false, .dec true] (And.intro h4 (And.intro h3 (And.intro (zR y) (And.intro h1 (And.intro (zR x) trivial))))) (by kernel_rfl)
      | false =>
        have g4 := of_decide_eq_false h4
        cases h5 : decide (x > y) with
        | true =>
          have g5 := of_decide_eq_true h5
          exact zk [.pure (B (cmp_isNaN x)), .dec false, .pure (B (cmp_isNaN y)), .dec false, .dec false, .dec true] (And.intro h5 (And.intro h4 (And.intro h3 (And.intro (zR y) (And.intro h1 (And.intro (zR x) trivial)))))) (by kernel_rfl)
        | false =>
          have g5 := of_decide_eq_false h5
          exact zk [.pure (B (cmp_isNaN x)), .dec false, .pure (B (cmp_isNaN y)), .dec false, .dec false, .dec false] (And.intro h5 (And.intro h4 (And.intro h3 (And.intro (zR y) (And.intro h1 (And.intro (zR x) trivial)))))) (by kernel_rfl)

noncomputable def lp93_2 : Code := subC [1, 0, 1, 0, 0] (bodyC Try.f93)

inductive LR_slices_Compare_2 where
  | x0
  | x1 (i2 : Nat) (x2 : Int)
  | x2 (i2 : Nat) (x2 : Int)
instance : Inhabited LR_slices_Compare_2 := ⟨.x0⟩
def slices_Compare_2 (b : GS Int) : List Int → Nat → LR_slices_Compare_2
  | [], i2 => .x0
  | x2 :: rest2, i2 =>
    bif decide (((i2 : Nat) : Int) ≥ ((b.l.length : Nat) : Int)) then
      .x1 i2 x2
    else
      bif ((cmp_Compare x2 (GS.at b ((i2 : Nat) : Int))) != 0) then
        .x2 i2 x2
      else
        slices_Compare_2 b rest2 (i2 + 1)
def lr_slices_Compare_2 (a : GS Int) (b : GS Int) : LR_slices_Compare_2 → Exit × St
  | .x0 => ((.exit 0), ⟨36, [(12, B false), (0, .sl a.nl (a.l.map I) (zsl a.nl 1) none), (1, .sl b.nl (b.l.map I) (zsl b.nl 1) none), (9, .sl a.nl (a.l.map I) (zsl a.nl 1) none), (10, I ((a.l.length : Nat) : Int)), (11, I ((a.l.length : Nat) : Int))], [], 0, 0⟩)
  | .x1 i2 x2 => (.ret, ⟨36, [(4, I 1), (19, B true), (18, I ((b.l.length : Nat) : Int)), (17, .sl b.nl (b.l.map I) (zsl b.nl 1) none), (16, I ((i2 : Nat) : Int)), (6, I x2), (5, I ((i2 : Nat) : Int)), (15, I x2), (14, .ptr (I x2)), (13, I ((i2 : Nat) : Int)), (12, B true), (0, .sl a.nl (a.l.map I) (zsl a.nl 1) none), (1, .sl b.nl (b.l.map I) (zsl b.nl 1) none), (9, .sl a.nl (a.l.map I) (zsl a.nl 1) none), (10, I ((a.l.length : Nat) : Int)), (11, I ((i2 : Nat) : Int))], [], 0, 0⟩)
  | .x2 i2 x2 => (.ret, ⟨36, [(4, I (cmp_Compare x2 (GS.at b ((i2 : Nat) : Int)))), (29, I (cmp_Compare x2 (GS.at b ((i2 : Nat) : Int)))), (28, B true), (27, I (cmp_Compare x2 (GS.at b ((i2 : Nat) : Int)))), (8, I (cmp_Compare x2 (GS.at b ((i2 : Nat) : Int)))), (26, I (cmp_Compare x2 (GS.at b ((i2 : Nat) : Int)))), (25, I (GS.at b ((i2 : Nat) : Int))), (24, I x2), (7, I (GS.at b ((i2 : Nat) : Int))), (23, I (GS.at b ((i2 : Nat) : Int))), (22, .ptr (I (GS.at b ((i2 : Nat) : Int)))), (21, I ((i2 : Nat) : Int)), (20, .sl b.nl (b.l.map I) (zsl b.nl 1) none), (19, B false), (18, I ((b.l.length : Nat) : Int)), (17, .sl b.nl (b.l.map I) (zsl b.nl 1) none), (16, I ((i2 : Nat) : Int)), (6, I x2), (5, I ((i2 : Nat) : Int)), (15, I x2), (14, .ptr (I x2)), (13, I ((i2 : Nat) : Int)), (12, B true), (0, .sl a.nl (a.l.map I) (zsl a.nl 1) none), (1, .sl b.nl (b.l.map I) (zsl b.nl 1) none), (9, .sl a.nl (a.l.map I) (zsl a.nl 1) none), (10, I ((a.l.length : Nat) : Int)), (11, I ((i2 : Nat) : Int))], [], 0, 0⟩)
def slices_Compare_2_l_o1 (b : GS Int) (i2 : Nat) (x2 : Int) : List Ora := [.dec true, .el (I x2), .rw 18 (I ((b.l.length : Nat) : Int)), .dec false, .el (I (GS.at b ((i2 : Nat) : Int))), .pure (I (cmp_Compare x2 (GS.at b ((i2 : Nat) : Int))))]
theorem lp_slices_Compare_2 (a : GS Int) (b : GS Int) : ∀ (rest2 : List Int) (i2 : Nat) (hd2 : a.l.drop i2 = rest2) (hi2 : i2 ≤ a.l.length) (hL2 : a.l.length ≤ 9223372036854775807), (lim cfg).loop 93 lp93_2 ⟨36, [(0, .sl a.nl (a.l.map I) (zsl a.nl 1) none), (1, .sl b.nl (b.l.map I) (zsl b.nl 1) none), (9, .sl a.nl (a.l.map I) (zsl a.nl 1) none), (10, I ((a.l.length : Nat) : Int)), (11, I ((i2 : Nat) : Int))], [], 0, 0⟩ = some (lr_slices_Compare_2 a b (slices_Compare_2 b rest2 i2)) := by
  intro rest2
  induction rest2 with
  | nil =>
    intro i2 hd2 hi2 hL2
    unfold slices_Compare_2
    obtain rfl : i2 = a.l.length := nil_eq hd2 hi2
    exact zS [.dec false] (And.intro (lt_no hd2) trivial) (by kernel_rfl)
  | cons x2 rest2 ih =>
    intro i2 hd2 hi2 hL2
    have hlt2 := zt hd2
    unfold slices_Compare_2
    cases h3 : decide (((i2 : Nat) : Int) ≥ ((b.l.length : Nat) : Int)) with
    | true =>
      have g3 := of_decide_eq_true h3
      exact zS [.dec true, .el (I x2), .rw 18 (I ((b.l.length : Nat) : Int)), .dec true] (And.intro h3 (And.intro (zu I b) (And.intro (el_at (s := a) (f := I) (k := 1) hd2) (And.intro (lt_at hd2) trivial)))) (by kernel_rfl)
    | false =>
      have g3 := of_decide_eq_false h3
      have p1 := (el_in (s := b) (f := I) (k := 1) (i := ((i2 : Nat) : Int)) (by omega) (by omega))
      have p2 := (T_cmp_Compare x2 (GS.at b ((i2 : Nat) : Int)))
      cases h4 : ((cmp_Compare x2 (GS.at b ((i2 : Nat) : Int))) != 0) with
      | true =>
        have g4 := bne_true h4
        exact zS ((slices_Compare_2_l_o1 b i2 x2) ++ [.dec true]) (And.intro h4 (And.intro p2 (And.intro p1 (And.intro h3 (And.intro (zu I b) (And.intro (el_at (s := a) (f := I) (k := 1) hd2) (And.intro (lt_at hd2) trivial))))))) (by kernel_rfl)
      | false =>
        have g4 := bne_false h4
        exact po_turn ((slices_Compare_2_l_o1 b i2 x2) ++ [.dec false, .rw 30 (I ((i2 + 1 : Nat) : Int))]) (And.intro (zX (i := i2) (by have := zt hd2; omega)) (And.intro h4 (And.intro p2 (And.intro p1 (And.intro h3 (And.intro (zu I b) (And.intro (el_at (s := a) (f := I) (k := 1) hd2) (And.intro (lt_at hd2) trivial)))))))) (ih (i2 + 1) (zA hd2) (zt hd2) (by omega)) (by kernel_rfl)

def slices_Compare (a : GS Int) (b : GS Int) : Int :=
  match slices_Compare_2 b a.l 0 with
  | .x0 =>
    bif decide (((a.l.length : Nat) : Int) < ((b.l.length : Nat) : Int)) then
      (-1)
    else
      0
  | .x1 i2 x2 =>
    1
  | .x2 i2 x2 =>
    (cmp_Compare x2 (GS.at b ((i2 : Nat) : Int)))

def sd20167 (a : GS Int) (b : GS Int) : St := ⟨36, [(12, B false), (0, .sl a.nl (a.l.map I) (zsl a.nl 1) none), (1, .sl b.nl (b.l.map I) (zsl b.nl 1) none), (9, .sl a.nl (a.l.map I) (zsl a.nl 1) none), (10, I ((a.l.length : Nat) : Int)), (11, I ((a.l.length : Nat) : Int))], [], 0, 0⟩

def slices_Compare_o1 (a : GS Int) (b : GS Int) : List Ora := [.rw 10 (I ((a.l.length : Nat) : Int)), .loop (.exit 0) (sd20167 a b), .rw 32 (I ((a.l.length : Nat) : Int)), .rw 34 (I ((b.l.length : Nat) : Int))]

def sd20168 (a : GS Int) (b : GS Int) (i2 : Nat) (x2 : Int) : St := ⟨36, [(4, I 1), (19, B true), (18, I ((b.l.length : Nat) : Int)), (17, .sl b.nl (b.l.map I) (zsl b.nl 1) none), (16, I ((i2 : Nat) : Int)), (6, I x2), (5, I ((i2 : Nat) : Int)), (15, I x2), (14, .ptr (I x2)), (13, I ((i2 : Nat) : Int)), (12, B true), (0, .sl a.nl (a.l.map I) (zsl a.nl 1) none), (1, .sl b.nl (b.l.map I) (zsl b.nl 1) none), (9, .sl a.nl (a.l.map I) (zsl a.nl 1) none), (10, I ((a.l.length : Nat) : Int)), (11, I ((i2 : Nat) : Int))], [], 0, 0⟩

def sd20169 (a : GS Int) (b : GS Int) (i2 : Nat) (x2 : Int) : St := ⟨36, [(4, I (cmp_Compare x2 (GS.at b ((i2 : Nat) : Int)))), (29, I (cmp_Compare x2 (GS.at b ((i2 : Nat) : Int)))), (28, B true), (27, I (cmp_Compare x2 (GS.at b ((i2 : Nat) : Int)))), (8, I (cmp_Compare x2 (GS.at b ((i2 : Nat) : Int)))), (26, I (cmp_Compare x2 (GS.at b ((i2 : Nat) : Int)))), (25, I (GS.at b ((i2 : Nat) : Int))), (24, I x2), (7, I (GS.at b ((i2 : Nat) : Int))), (23, I (GS.at b ((i2 : Nat) : Int))), (22, .ptr (I (GS.at b ((i2 : Nat) : Int)))), (21, I ((i2 : Nat) : Int)), (20, .sl b.nl (b.l.map I) (zsl b.nl 1) none), (19, B false), (18, I ((b.l.length : Nat) : Int)), (17, .sl b.nl (b.l.map I) (zsl b.nl 1) none), (16, I ((i2 : Nat) : Int)), (6, I x2), (5, I ((i2 : Nat) : Int)), (15, I x2), (14, .ptr (I x2)), (13, I ((i2 : Nat) : Int)), (12, B true), (0, .sl a.nl (a.l.map I) (zsl a.nl 1) none), (1, .sl b.nl (b.l.map I) (zsl b.nl 1) none), (9, .sl a.nl (a.l.map I) (zsl a.nl 1) none), (10, I ((a.l.length : Nat) : Int)), (11, I ((i2 : Nat) : Int))], [], 0, 0⟩

theorem T_slices_Compare (a : GS Int) (b : GS Int) (hL_a : a.l.length ≤ 9223372036854775807) : (lim cfg).pure 93 [GS.D I 1 a, GS.D I 1 b] = some (I (slices_Compare a b)) := by
  unfold slices_Compare
  cases h5 : slices_Compare_2 b a.l 0 with
  | x0 =>
    try dsimp only
    have p1 := (po_lr (q := lr_slices_Compare_2 a b) (lp_slices_Compare_2 a b a.l 0 (List.drop_zero) (Nat.zero_le _) (by omega)) h5)
    cases h6 : decide (((a.l.length : Nat) : Int) < ((b.l.length : Nat) : Int)) with
    | true =>
      have g6 := of_decide_eq_true h6
      exact zk ((slices_Compare_o1 a b) ++ [.dec true]) (And.intro h6 (And.intro (zu I b) (And.intro (zu I a) (And.intro p1 (And.intro (zu I a) trivial))))) (by kernel_rfl)
    | false =>
      have g6 := of_decide_eq_false h6
      exact zk ((slices_Compare_o1 a b) ++ [.dec false]) (And.intro h6 (And.intro (zu I b) (And.intro (zu I a) (And.intro p1 (And.intro (zu I a) trivial))))) (by kernel_rfl)
  | x1 i2 x2 =>
    try dsimp only
    exact zk [.rw 10 (I ((a.l.length : Nat) : Int)), .loop .ret (sd20168 a b i2 x2)] (And.intro (po_lr (q := lr_slices_Compare_2 a b) (lp_slices_Compare_2 a b a.l 0 (List.drop_zero) (Nat.zero_le _) (by omega)) h5) (And.intro (zu I a) trivial)) (by kernel_rfl)
  | x2 i2 x2 =>
    try dsimp only
    exact zk [.rw 10 (I ((a.l.length : Nat) : Int)), .loop .ret (sd20169 a b i2 x2)] (And.intro (po_lr (q := lr_slices_Compare_2 a b) (lp_slices_Compare_2 a b a.l 0 (List.drop_zero) (Nat.zero_le _) (by omega)) h5) (And.intro (zu I a) trivial)) (by kernel_rfl)

def zH (a : GS Int) (b : GS Int) (e : S_Estate) : Int :=
  or3 (cmp_Compare (zp e a) (zp e b)) (cmp_Compare ((a.l.length : Nat) : Int) ((b.l.length : Nat) : Int)) (slices_Compare a b)

theorem T_orders_cheapest_1 (a : GS Int) (b : GS Int) (e : S_Estate) (ha : ∀ i ∈ a.l, 0 ≤ i ∧ i < ((e.items.l.length : Nat) : Int)) (hb : ∀ i ∈ b.l, 0 ≤ i ∧ i < ((e.items.l.length : Nat) : Int)) (hLa : a.l.length ≤ 1099511627776) (hLb : b.l.length ≤ 1099511627776) : (lim cfg).pure 90 [GS.D I 1 a, GS.D I 1 b, .ptr (S_Estate.D e)] = some (I (zH a b e)) := by
  unfold zH
  exact zk [.pure (I (zp e a)), .pure (I (zp e b)), .pure (I (cmp_Compare (zp e a) (zp e b))), .rw 14 (I ((a.l.length : Nat) : Int)), .rw 16 (I ((b.l.length : Nat) : Int)), .pure (I (cmp_Compare ((a.l.length : Nat) : Int) ((b.l.length : Nat) : Int))), .pure (I (slices_Compare a b)), .pure (I (or3 (cmp_Compare (zp e a) (zp e b)) (cmp_Compare ((a.l.length : Nat) : Int) ((b.l.length : Nat) : Int)) (slices_Compare a b)))] (And.intro (T_or3 (cmp_Compare (zp e a) (zp e b)) (cmp_Compare ((a.l.length : Nat) : Int) ((b.l.length : Nat) : Int)) (slices_Compare a b)) (And.intro (T_slices_Compare a b (by omega)) (And.intro (T_cmp_Compare ((a.l.length : Nat) : Int) ((b.l.length : Nat) : Int)) (And.intro (zu I b) (And.intro (zu I a) (And.intro (T_cmp_Compare (zp e a) (zp e b)) (And.intro (T_orders_cost e b (by omega) (by omega)) (And.intro (T_orders_cost e a (by omega) (by omega)) trivial)))))))) (by kernel_rfl)

end Go.VS

