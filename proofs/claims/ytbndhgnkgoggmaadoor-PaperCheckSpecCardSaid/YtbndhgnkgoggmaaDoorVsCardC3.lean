/- Nothing of a statement is proved in this text alone: it is part 3 of the proof's own tools, an evaluator of the code over deep values, its soundness, and what it makes of this seat's functions. Conditions: none beyond the statement's own. -/
import Derived.Test.YtbndhgnkgoggmaaDoorVsCardC2
set_option linter.unusedSimpArgs false
set_option linter.unusedVariables false
namespace Go.VS
open Go Go.Proofs
set_option maxHeartbeats 0
set_option linter.unusedSimpArgs false
abbrev Net := List (Option Chn)
def yz (o : Option Chn) : D := match o with | none => .val (.pointer none) | some c => .ptr (.agg [I c.q.n, I c.q.d, whyD c.why])
def edgeB (e : Edge) : Prop := 0 ≤ e.src ∧ e.src < 5 ∧ 0 ≤ e.dst ∧ e.dst < 5 ∧ 1 ≤ e.q.n ∧ e.q.n ≤ 2000 ∧ 1 ≤ e.q.d ∧ e.q.d ≤ 2000
def qB (m : Int) (n : Nat) (c : Chn) : Prop := 1 ≤ c.q.n ∧ c.q.n ≤ m ∧ 1 ≤ c.q.d ∧ c.q.d ≤ m ∧ c.why.length ≤ n
def netB (m : Int) (n : Nat) (l : Net) : Prop := l.length = 5 ∧ ∀ c, some c ∈ l → qB m n c
def ltR (a b : Ratio) : Bool := decide (a.n * b.d < b.n * a.d)
def putE (next : Net) (j : Nat) (c : Chn) : Net := match next[j]? with
  | some (some b) => if ltR c.q b.q then next.set j (some c) else next
  | _ => next.set j (some c)
def stepE (now : Net) (next : Net) (e : Edge) : Net := match now[e.src.toNat]? with
  | some (some c) => putE next e.dst.toNat (withC c e)
  | _ => next
theorem whyD_one (ws : List Reason) : (whyD ws).one = true := by cases ws <;> rfl
theorem encOC_one (o : Option Chn) : (yz o).one = true := by cases o <;> rfl
theorem allOne_net (l : Net) : zF (l.map yz) = true := by
  induction l with
  | nil => rfl
  | cons o l ih => simp only [List.map_cons, zF, encOC_one, ih]; rfl
theorem snap_whyD (g : Nat → Option Ob) (f : Nat) (ws : List Reason) : snap g (f + 1) (whyD ws) = some (whyD ws, []) := by cases ws <;> rfl
theorem flat_whyD (f : Nat) (ws : List Reason) (w : Reason) : flat (f + 1) (whyD (ws ++ [w])) = false := by cases ws <;> rfl
theorem cmp_lt (a b : Ratio) : decide (cmpR a b < 0) = ltR a b := by
  unfold cmpR cmpI ltR
  split
  · rename_i h; simp [h]
  · split <;> rename_i h <;> simp [h]

theorem deep_why (g : Nat → Option Ob) (ws : List Reason) : deepD g (whyD ws) = whyD ws := by cases ws <;> rfl
theorem deepI_why (g : Nat → Option Ob) (ws : List Reason) : deepI g (whyD ws) = [] := by cases ws <;> rfl
theorem ids_why (f : Nat) (ws : List Reason) : idsD (f + 1) (whyD ws) = some [] := by cases ws <;> rfl
theorem ren_why (ρ : Nat → Option Nat) (f : Nat) (ws : List Reason) : renD ρ (f + 1) (whyD ws) = whyD ws := by cases ws <;> rfl
theorem deep_net (g : Nat → Option Ob) (l : Net) : List.map (deepD g) (List.map yz l) = List.map yz l := by
  rw [List.map_map]; refine List.map_congr_left fun o _ => ?_
  cases o <;> rfl
theorem deepI_net (g : Nat → Option Ob) (l : Net) : catI (deepI g) (List.map yz l) = [] := by
  induction l with
  | nil => rfl
  | cons o l ih => simp only [List.map_cons, catI, ih]; cases o <;> rfl
theorem ids_net (f : Nat) (l : Net) : idsL (idsD (f + 1)) (List.map yz l) = some [] := by
  induction l with
  | nil => rfl
  | cons o l ih => simp only [List.map_cons, idsL, ih]; cases o <;> rfl
theorem ren_net (ρ : Nat → Option Nat) (f : Nat) (l : Net) : List.map (renD ρ (f + 1)) (List.map yz l) = List.map yz l := by
  rw [List.map_map]; refine List.map_congr_left fun o _ => ?_
  cases o <;> rfl

theorem low_le {n d : Int} (hn : 1 ≤ n) (hd : 1 ≤ d) : 1 ≤ (lowR n d).n ∧ (lowR n d).n ≤ n ∧ 1 ≤ (lowR n d).d ∧ (lowR n d).d ≤ d := by
  have hg := gcdI_pos (d := d) hn
  have h1 : gcdI n d ∣ n := by
    have : ((n.toNat.gcd d.toNat : Nat) : Int) ∣ (n.toNat : Int) := Int.natCast_dvd_natCast.2 (Nat.gcd_dvd_left _ _)
    rw [Int.toNat_of_nonneg (by omega)] at this; exact this
  have h2 : gcdI n d ∣ d := by
    have : ((n.toNat.gcd d.toNat : Nat) : Int) ∣ (d.toNat : Int) := Int.natCast_dvd_natCast.2 (Nat.gcd_dvd_right _ _)
    rw [Int.toNat_of_nonneg (by omega)] at this; exact this
  unfold lowR
  simp only []
  obtain ⟨a, ha⟩ := h1
  obtain ⟨b, hb⟩ := h2
  generalize gcdI n d = g at *
  have ea : n / g = a := by rw [ha, Int.mul_ediv_cancel_left _ (by omega)]
  have eb : d / g = b := by rw [hb, Int.mul_ediv_cancel_left _ (by omega)]
  rw [ea, eb]
  have ha1 : 1 ≤ a := by
    rcases Int.lt_or_le 0 a with h | h
    · omega
    · have := Int.mul_nonpos_of_nonneg_of_nonpos (show 0 ≤ g by omega) h; omega
  have hb1 : 1 ≤ b := by
    rcases Int.lt_or_le 0 b with h | h
    · omega
    · have := Int.mul_nonpos_of_nonneg_of_nonpos (show 0 ≤ g by omega) h; omega
  have h3 : 1 * a ≤ g * a := Int.mul_le_mul_of_nonneg_right hg (by omega)
  have h4 : 1 * b ≤ g * b := Int.mul_le_mul_of_nonneg_right hg (by omega)
  omega
theorem with_mul {m : Int} {n : Nat} {c : Chn} {e : Edge} (hc : qB m n c) (he : edgeB e) (hm : 1 ≤ m) : 1 ≤ c.q.n * e.q.n ∧ c.q.n * e.q.n ≤ m * 2000 ∧ 1 ≤ c.q.d * e.q.d ∧ c.q.d * e.q.d ≤ m * 2000 := by
  obtain ⟨h1, h2, h3, h4, h5⟩ := hc
  obtain ⟨_, _, _, _, e5, e6, e7, e8⟩ := he
  have k1 := Int.mul_le_mul h1 e5 (by omega) (by omega)
  have k2 := Int.mul_le_mul h2 e6 (by omega) (by omega)
  have k3 := Int.mul_le_mul h3 e7 (by omega) (by omega)
  have k4 := Int.mul_le_mul h4 e8 (by omega) (by omega)
  omega
theorem with_qB {m : Int} {n : Nat} {c : Chn} {e : Edge} (hc : qB m n c) (he : edgeB e) (hm : 1 ≤ m) : qB (m * 2000) (n + 1) (withC c e) := by
  have hl := hc.2.2.2.2
  obtain ⟨k1, k2, k3, k4⟩ := with_mul hc he hm
  obtain ⟨l1, l2, l3, l4⟩ := low_le k1 k3
  unfold qB withC
  simp only [List.length_append, List.length_cons, List.length_nil]
  omega
theorem t107' {m : Int} {n : Nat} {c : Chn} {e : Edge} (hc : qB m n c) (he : edgeB e) (hn : n ≤ 100) (hm1 : 1 ≤ m) (hm2 : m * 2000 ≤ 9223372036854775807) : (lim cfg).pure 107 [.agg [I c.q.n, I c.q.d, whyD c.why], .agg [I e.src, I e.dst, I e.q.n, I e.q.d, B e.why.join, I e.why.at_, B e.why.back]] = some (.agg [I (withC c e).q.n, I (withC c e).q.d, whyD (withC c e).why]) := by
  obtain ⟨k1, k2, k3, k4⟩ := with_mul hc he hm1
  exact t107 c e k1 (by omega) k3 (by omega) (by have := hc.2.2.2.2; omega)
theorem t75q {m : Int} {n : Nat} {a b : Chn} (ha : qB m n a) (hb : qB m n b) (hm : m ≤ 9223372036854775807) : (lim cfg).pure 75 [.agg [I a.q.n, I a.q.d], .agg [I b.q.n, I b.q.d]] = some (I (cmpR a.q b.q)) := by
  obtain ⟨h1, h2, h3, h4, _⟩ := ha
  obtain ⟨k1, k2, k3, k4, _⟩ := hb
  exact t75 _ _ _ _ ⟨by omega, by omega⟩ ⟨by omega, by omega⟩ ⟨by omega, by omega⟩ ⟨by omega, by omega⟩

theorem take_enc (j : Nat) (l : Net) : List.take j (List.map yz l) = List.map yz (List.take j l) := by rw [List.map_take]
theorem drop_enc (j : Nat) (l : Net) : List.drop j (List.map yz l) = List.map yz (List.drop j l) := by rw [List.map_drop]
theorem set_enc {j : Nat} {l : Net} {c : Chn} (h : j < l.length) : List.map yz (l.set j (some c)) = List.map yz (List.take j l) ++ .ptr (.agg [I c.q.n, I c.q.d, whyD c.why]) :: List.map yz (List.drop (j + 1) l) := by
  rw [List.set_eq_take_append_cons_drop, if_pos h, List.map_append, List.map_cons]; rfl
theorem catI_append (g : D → List Nat) (a b : List D) : catI g (a ++ b) = catI g a ++ catI g b := by
  induction a with
  | nil => rfl
  | cons d a ih => simp only [List.cons_append, catI, ih, List.append_assoc]
theorem idsL_append (f : Nat) (l : Net) (b : List D) : idsL (idsD (f + 1)) (List.map yz l ++ b) = idsL (idsD (f + 1)) b := by
  induction l with
  | nil => rfl
  | cons o l ih =>
    simp only [List.map_cons, List.cons_append, idsL, ih]
    cases o <;> cases idsL (idsD (f + 1)) b <;> rfl
theorem netB_set {m : Int} {n j : Nat} {l : Net} {c : Chn} (h : netB m n l) (hc : qB m n c) : netB m n (l.set j (some c)) := by
  refine ⟨by rw [List.length_set]; exact h.1, fun d hd => ?_⟩
  rcases List.mem_or_eq_of_mem_set hd with h' | h'
  · exact h.2 d h'
  · cases h'; exact hc

noncomputable def lp72_4 : Code := x8 [1, 1, 1, 0, 1, 0, 0] (yN Tryd.f72)
theorem lk72_4 : cfg.keep 72 (yT lp72_4) = [1000000, 0, 6, 7, 20, 21] := by kernel_rfl
noncomputable def lp72_7 : Code := x8 [1, 1, 1, 0, 1, 0, 0, 1, 1, 0, 0, 1, 0, 1, 0, 0] (yN Tryd.f72)
theorem lk72_7 : cfg.keep 72 (yT lp72_7) = [1000000, 0, 6, 7, 8, 20, 21, 24, 25, 26] := by kernel_rfl
noncomputable def lp72_15 : Code := x8 [1, 1, 1, 0, 1, 0, 0, 1, 1, 0, 0, 1, 1, 0, 1, 0, 0] (yN Tryd.f72)
theorem lk72_15 : cfg.keep 72 (yT lp72_15) = [1000000, 0, 6, 7, 8, 20, 21, 65, 66] := by kernel_rfl

theorem L72_7 {F : Exit → St → Option D} (es : List Edge) (out now : Net) (most r m : Int) (n : Nat) (k : List Kt) (x : D) (hes : ∀ e ∈ es, edgeB e) (hlen : es.length ≤ 1000) (hm2 : m * 2000 ≤ 9223372036854775807) (hm1 : 1 ≤ m) (hn : n ≤ 100) (hnb : netB m n now) : ∀ (rest : List Edge) (i : Nat) (next : Net), es.drop i = rest → i ≤ es.length → netB (m * 2000) (n + 1) next →
    yZ cfg (lim cfg) 72 F k (.exit 2) ⟨99, [(27, B false), (0, .sl false (es.map encE) 7 none), (6, .lref 0 0 5 0), (7, .lref 1 0 5 0), (8, .lref 2 0 5 0), (20, I most), (21, I r), (24, .sl false (es.map encE) 7 none), (25, I es.length), (26, I (es.length : Nat))], [(0, ⟨[.agg (out.map yz)], 5, false⟩), (1, ⟨[.agg (now.map yz)], 5, false⟩), (2, ⟨[.agg (((rest.foldl (stepE now) next)).map yz)], 5, false⟩)], 3, 0⟩ = some x →
    EvL cfg (lim cfg) 72 F lp72_7 k ⟨99, [(0, .sl false (es.map encE) 7 none), (6, .lref 0 0 5 0), (7, .lref 1 0 5 0), (8, .lref 2 0 5 0), (20, I most), (21, I r), (24, .sl false (es.map encE) 7 none), (25, I es.length), (26, I (i : Nat))], [(0, ⟨[.agg (out.map yz)], 5, false⟩), (1, ⟨[.agg (now.map yz)], 5, false⟩), (2, ⟨[.agg ((next).map yz)], 5, false⟩)], 3, 0⟩ = some x := by
  intro rest
  induction rest with
  | nil =>
    intro i next hd hi hnx h
    have hi' : i = es.length := by
      have := List.drop_eq_nil_iff.1 hd
      omega
    subst hi'
    refine yw ?_
    dsimp only [lp72_7, x8, yN, Tryd.f72]
    simp only [bW, if_true, Nat.reduceEqDiff, if_false]
    repeat' first
      | (intro hb; first | cases hb | skip)
      | ((first | apply zB | apply y7)
         · rfl
         · simp (disch := assumption) only [yx, z6, get, z5, z0, Nat.reduceEqDiff, decide_true, decide_false, cond_true, cond_false, yk, zr, zI, yg, zF, Bool.and_true, Bool.true_and, Bool.and_self, Bool.and_false, Bool.false_and, Bool.or_false, Bool.or_true, Bool.false_or, Bool.true_or, Bool.not_true, Bool.not_false, if_true, ye, List.length_cons, List.length_nil, yy, yb, z7, zu, zt, zl, List.getElem?_cons_zero, List.getElem?_cons_succ, Nat.reduceAdd, Nat.zero_add, Nat.add_zero, Nat.one_ne_zero, zT, zs, zp, yC, zG, yK, Ty.isAgg, yB, zX, zR, zm, yh, zh, zV, yj, zg, ofV, zQ, zS, Bool.false_eq_true, if_false, Nat.reduceLeDiff, Nat.reduceLT, List.take, List.drop, List.map_cons, List.map_nil, List.append_nil, List.nil_append, List.cons_append, List.set, unD, yf, snapAll, zy, yi, zJ, zj, yE, z8, zw, ym, zU, Int.toNat_natCast, Int.natCast_nonneg, Int.toNat_zero, Int.le_refl, Nat.reduceMul, Nat.zero_mul, Nat.mul_zero, yl, zc, zW, zq, zb, zf, yA, eqD, zo, zK, yp, zH, zk, Nat.le_refl, Array.toList_map, List.size_toArray, List.getElem?_toArray, Nat.sub_zero, List.length_append, Nat.mul_one, zv, yo, bO, bS, z9, ze, zC, List.replicate, zE, zD, y9, allOk, yu, y8, newRow, yM, List.isEmpty, Bool.not_false, Bool.not_true, decide_eq_true_eq, zM, zP, zO, zz, zx, yc, zi, Option.map_some, Option.map_none, Option.isNone, Option.isSome, Option.getD_none, Option.getD_some, yP, tys, cks, Int.lt_irrefl, decide_false]
           rfl
         · simp only [zd, yF, yD, z0, z5, Nat.reduceLT, Nat.reduceEqDiff, decide_true, decide_false, cond_true, cond_false]
           rfl
         · rfl
         first
         | (apply y6
            · simp only [za, z0, Nat.reduceLT, decide_true, cond_true, ins]
              rfl
            · simp only [za, z0, Nat.reduceLT, decide_true, cond_true, ins]
              rfl)
         | (apply yt
            · simp only [za, z0, Nat.reduceLT, decide_true, cond_true, ins]
              rfl))
      | ((first | apply zZ | apply y5)
         · rfl
         · simp only [za, z0, Nat.reduceLT, decide_true, cond_true, ins]
           rfl)
      | (apply zY
         · simp only [z6, get, z5, Nat.reduceEqDiff, decide_true, decide_false, cond_true, cond_false])
      | (apply zA
         · simp only [z6, get, z5, Nat.reduceEqDiff, decide_true, decide_false, cond_true, cond_false])
      | (apply yq
         · kernel_rfl
         · kernel_rfl)
      | (simp only [bW, if_true, Nat.reduceEqDiff, if_false])
    exact h
  | cons e rest ih =>
    intro i next hd hi hnx h
    have hlt : i < es.length := by
      rcases Nat.lt_or_ge i es.length with h | h
      · exact h
      · rw [List.drop_eq_nil_of_le h] at hd; cases hd
    have hm : es[i]? = some e := by rw [← List.head?_drop, hd]; rfl
    have he := hes e (List.mem_of_getElem? hm)
    obtain ⟨e1, e2, e3, e4, e5, e6, e7, e8⟩ := he
    have hx : (es.map encE)[i]? = some (encE e) := by rw [List.getElem?_map, hm]; rfl
    have hlt' : (i : Int) < (es.length : Int) := by omega
    have hw3 : IntKind.i64.wrap ((i : Int) + 1) = ((i + 1 : Nat) : Int) := by rw [wrap_i64 (by omega) (by omega)]; omega
    have hs0 : (0 ≤ e.src) = True := by simp [e1]
    have hs5 : (e.src.toNat < 5) = True := by simp; omega
    have hd0 : (0 ≤ e.dst) = True := by simp [e3]
    have hd5 : (e.dst.toNat < 5) = True := by simp; omega
    have hj : e.dst.toNat < next.length := by have := hnx.1; omega
    have hjlen : (e.dst.toNat + 1 ≤ next.length) = True := by have := hnx.1; simp; omega
    obtain ⟨o, ho⟩ : ∃ o, now[e.src.toNat]? = some o := ⟨_, List.getElem?_eq_getElem (by have := hnb.1; omega)⟩
    obtain ⟨o', ho'⟩ : ∃ o, next[e.dst.toNat]? = some o := ⟨_, List.getElem?_eq_getElem (by have := hnx.1; omega)⟩
    have hnow : (now.map yz)[e.src.toNat]? = some (yz o) := by rw [List.getElem?_map, ho]; rfl
    have hnext : (next.map yz)[e.dst.toNat]? = some (yz o') := by rw [List.getElem?_map, ho']; rfl
    simp only [List.foldl_cons, stepE, ho] at h
    cases o with
    | none =>
      refine yw ?_
      dsimp only [lp72_7, x8, yN, Tryd.f72]
      simp only [bW, if_true, Nat.reduceEqDiff, if_false]
      repeat' first
        | (intro hb; first | cases hb | skip)
        | ((first | apply zB | apply y7)
           · rfl
           · simp (disch := assumption) only [yx, z6, get, z5, z0, Nat.reduceEqDiff, decide_true, decide_false, cond_true, cond_false, yk, zr, zI, yg, zF, Bool.and_true, Bool.true_and, Bool.and_self, Bool.and_false, Bool.false_and, Bool.or_false, Bool.or_true, Bool.false_or, Bool.true_or, Bool.not_true, Bool.not_false, if_true, ye, List.length_cons, List.length_nil, yy, yb, z7, zu, zt, zl, List.getElem?_cons_zero, List.getElem?_cons_succ, Nat.reduceAdd, Nat.zero_add, Nat.add_zero, Nat.one_ne_zero, zT, zs, zp, yC, zG, yK, Ty.isAgg, yB, zX, zR, zm, yh, zh, zV, yj, zg, ofV, zQ, zS, Bool.false_eq_true, if_false, Nat.reduceLeDiff, Nat.reduceLT, List.take, List.drop, List.map_cons, List.map_nil, List.append_nil, List.nil_append, List.cons_append, List.set, unD, yf, snapAll, zy, yi, zJ, zj, yE, z8, zw, ym, zU, Int.toNat_natCast, Int.natCast_nonneg, Int.toNat_zero, Int.le_refl, Nat.reduceMul, Nat.zero_mul, Nat.mul_zero, yl, zc, zW, zq, zb, zf, yA, eqD, zo, zK, yp, zH, zk, Nat.le_refl, Array.toList_map, List.size_toArray, List.getElem?_toArray, Nat.sub_zero, List.length_append, Nat.mul_one, zv, yo, bO, bS, z9, ze, zC, List.replicate, zE, zD, y9, allOk, yu, y8, newRow, yM, List.isEmpty, Bool.not_false, Bool.not_true, decide_eq_true_eq, zM, zP, zO, zz, zx, yc, zi, Option.map_some, Option.map_none, Option.isNone, Option.isSome, Option.getD_none, Option.getD_some, yP, tys, cks, hx, hlt', hs0, hs5, hnow, yz, encE, hw3, encOC_one]
             rfl
           · simp only [zd, yF, yD, z0, z5, Nat.reduceLT, Nat.reduceEqDiff, decide_true, decide_false, cond_true, cond_false]
             rfl
           · rfl
           first
           | (apply y6
              · simp only [za, z0, Nat.reduceLT, decide_true, cond_true, ins]
                rfl
              · simp only [za, z0, Nat.reduceLT, decide_true, cond_true, ins]
                rfl)
           | (apply yt
              · simp only [za, z0, Nat.reduceLT, decide_true, cond_true, ins]
                rfl))
        | ((first | apply zZ | apply y5)
           · rfl
           · simp only [za, z0, Nat.reduceLT, decide_true, cond_true, ins]
             rfl)
        | (apply zY
           · simp only [z6, get, z5, Nat.reduceEqDiff, decide_true, decide_false, cond_true, cond_false])
        | (apply zA
           · simp only [z6, get, z5, Nat.reduceEqDiff, decide_true, decide_false, cond_true, cond_false])
        | (apply yq
           · kernel_rfl
           · kernel_rfl)
        | (simp only [bW, if_true, Nat.reduceEqDiff, if_false])
      simp only [] at h
      refine x7 (st1 := ⟨99, [(0, .sl false (es.map encE) 7 none), (6, .lref 0 0 5 0), (7, .lref 1 0 5 0), (8, .lref 2 0 5 0), (20, I most), (21, I r), (24, .sl false (es.map encE) 7 none), (25, I es.length), (26, I (i + 1 : Nat))], [(0, ⟨[.agg (out.map yz)], 5, false⟩), (1, ⟨[.agg (now.map yz)], 5, false⟩), (2, ⟨[.agg ((next).map yz)], 5, false⟩)], 3, 0⟩) lk72_7 (by
        simp only [gc, gc0, gcWith, deepen, deepT, deepTI, deepO, deepOI, deepA, deepAI, deepEl, deepElI, catI, rootsT, keepT, rootsO, idsL, yS, yO, memN, get, zG, fromPin, renT, renN, placeOf, pinO, renO, renOb, zy, List.map_cons, List.map_nil, List.map_append, List.nil_append, List.cons_append, List.append_nil, z5, z0, Nat.reduceEqDiff, Nat.reduceLT, Nat.not_lt_zero, decide_true, decide_false, cond_true, cond_false, List.length_cons, List.length_nil, Nat.reduceAdd, Nat.zero_add, Nat.add_zero, Nat.lt_irrefl, bI, bD, deep_net, deepI_net, ids_net, ren_net, deep_why, deepI_why, ids_why, ren_why]) (ih (i + 1) next (by rw [← List.drop_drop, hd]; rfl) hlt hnx h)
    | some c =>
      simp only [] at h
      have hqb := hnb.2 c (List.mem_of_getElem? ho)
      have hc' := with_qB hqb ⟨e1, e2, e3, e4, e5, e6, e7, e8⟩ hm1
      have hfl : flat 15 (whyD (withC c e).why) = false := flat_whyD 14 c.why e.why
      have h107 := t107' hqb ⟨e1, e2, e3, e4, e5, e6, e7, e8⟩ hn hm1 hm2
      generalize withC c e = c' at *
      cases o' with
      | none =>
        have hput : putE next e.dst.toNat c' = next.set e.dst.toNat (some c') := by simp only [putE, ho']
        rw [hput] at h
        refine yw ?_
        dsimp only [lp72_7, x8, yN, Tryd.f72]
        simp only [bW, if_true, Nat.reduceEqDiff, if_false]
        repeat' first
          | (intro hb; first | cases hb | skip)
          | ((first | apply zB | apply y7)
             · rfl
             · simp (disch := assumption) only [yx, z6, get, z5, z0, Nat.reduceEqDiff, decide_true, decide_false, cond_true, cond_false, yk, zr, zI, yg, zF, Bool.and_true, Bool.true_and, Bool.and_self, Bool.and_false, Bool.false_and, Bool.or_false, Bool.or_true, Bool.false_or, Bool.true_or, Bool.not_true, Bool.not_false, if_true, ye, List.length_cons, List.length_nil, yy, yb, z7, zu, zt, zl, List.getElem?_cons_zero, List.getElem?_cons_succ, Nat.reduceAdd, Nat.zero_add, Nat.add_zero, Nat.one_ne_zero, zT, zs, zp, yC, zG, yK, Ty.isAgg, yB, zX, zR, zm, yh, zh, zV, yj, zg, ofV, zQ, zS, Bool.false_eq_true, if_false, Nat.reduceLeDiff, Nat.reduceLT, List.take, List.drop, List.map_cons, List.map_nil, List.append_nil, List.nil_append, List.cons_append, List.set, unD, yf, snapAll, zy, yi, zJ, zj, yE, z8, zw, ym, zU, Int.toNat_natCast, Int.natCast_nonneg, Int.toNat_zero, Int.le_refl, Nat.reduceMul, Nat.zero_mul, Nat.mul_zero, yl, zc, zW, zq, zb, zf, yA, eqD, zo, zK, yp, zH, zk, Nat.le_refl, Array.toList_map, List.size_toArray, List.getElem?_toArray, Nat.sub_zero, List.length_append, Nat.mul_one, zv, yo, bO, bS, z9, ze, zC, List.replicate, zE, zD, y9, allOk, yu, y8, newRow, yM, List.isEmpty, Bool.not_false, Bool.not_true, decide_eq_true_eq, zM, zP, zO, zz, zx, yc, zi, Option.map_some, Option.map_none, Option.isNone, Option.isSome, Option.getD_none, Option.getD_some, yP, tys, cks, hx, hlt', hs0, hs5, hd0, hd5, hnow, hnext, yz, encE, encOC_one, allOne_net, whyD_one, h107, cmp_lt, hw3, hfl, snap_whyD, List.length_map, Nat.mul_one, hjlen]
               rfl
             · simp only [zd, yF, yD, z0, z5, Nat.reduceLT, Nat.reduceEqDiff, decide_true, decide_false, cond_true, cond_false]
               rfl
             · rfl
             first
             | (apply y6
                · simp only [za, z0, Nat.reduceLT, decide_true, cond_true, ins]
                  rfl
                · simp only [za, z0, Nat.reduceLT, decide_true, cond_true, ins]
                  rfl)
             | (apply yt
                · simp only [za, z0, Nat.reduceLT, decide_true, cond_true, ins]
                  rfl))
          | ((first | apply zZ | apply y5)
             · rfl
             · simp only [za, z0, Nat.reduceLT, decide_true, cond_true, ins]
               rfl)
          | (apply zY
             · simp only [z6, get, z5, Nat.reduceEqDiff, decide_true, decide_false, cond_true, cond_false])
          | (apply zA
             · simp only [z6, get, z5, Nat.reduceEqDiff, decide_true, decide_false, cond_true, cond_false])
          | (apply yq
             · kernel_rfl
             · kernel_rfl)
          | (simp only [bW, if_true, Nat.reduceEqDiff, if_false])
        refine x7 (st1 := ⟨99, [(0, .sl false (es.map encE) 7 none), (6, .lref 0 0 5 0), (7, .lref 1 0 5 0), (8, .lref 2 0 5 0), (20, I most), (21, I r), (24, .sl false (es.map encE) 7 none), (25, I es.length), (26, I (i + 1 : Nat))], [(0, ⟨[.agg (out.map yz)], 5, false⟩), (1, ⟨[.agg (now.map yz)], 5, false⟩), (2, ⟨[.agg ((next.set e.dst.toNat (some c')).map yz)], 5, false⟩)], 3, 0⟩) lk72_7 (by
          simp only [gc, gc0, gcWith, deepen, deepT, deepTI, deepO, deepOI, deepA, deepAI, deepEl, deepElI, catI, rootsT, keepT, rootsO, idsL, yS, yO, memN, get, zG, fromPin, renT, renN, placeOf, pinO, renO, renOb, zy, List.map_cons, List.map_nil, List.map_append, List.nil_append, List.cons_append, List.append_nil, z5, z0, Nat.reduceEqDiff, Nat.reduceLT, Nat.not_lt_zero, decide_true, decide_false, cond_true, cond_false, List.length_cons, List.length_nil, Nat.reduceAdd, Nat.zero_add, Nat.add_zero, Nat.lt_irrefl, bI, bD, deep_net, deepI_net, ids_net, ren_net, deep_why, deepI_why, ids_why, ren_why, take_enc, drop_enc, set_enc hj, catI_append, idsL_append, sn_lref, sn_agg, sn_val, snap_whyD, snapAll, List.getElem?_cons_zero, if_true, List.append_assoc]) (ih (i + 1) (next.set e.dst.toNat (some c')) (by rw [← List.drop_drop, hd]; rfl) hlt (netB_set hnx hc') h)
      | some b =>
        have hqc := hnx.2 b (List.mem_of_getElem? ho')
        have h75 := t75q hc' hqc hm2
        refine yw ?_
        dsimp only [lp72_7, x8, yN, Tryd.f72]
        simp only [bW, if_true, Nat.reduceEqDiff, if_false]
        repeat' first
          | (intro hb; first | cases hb | skip)
          | ((first | apply zB | apply y7)
             · rfl
             · simp (disch := assumption) only [yx, z6, get, z5, z0, Nat.reduceEqDiff, decide_true, decide_false, cond_true, cond_false, yk, zr, zI, yg, zF, Bool.and_true, Bool.true_and, Bool.and_self, Bool.and_false, Bool.false_and, Bool.or_false, Bool.or_true, Bool.false_or, Bool.true_or, Bool.not_true, Bool.not_false, if_true, ye, List.length_cons, List.length_nil, yy, yb, z7, zu, zt, zl, List.getElem?_cons_zero, List.getElem?_cons_succ, Nat.reduceAdd, Nat.zero_add, Nat.add_zero, Nat.one_ne_zero, zT, zs, zp, yC, zG, yK, Ty.isAgg, yB, zX, zR, zm, yh, zh, zV, yj, zg, ofV, zQ, zS, Bool.false_eq_true, if_false, Nat.reduceLeDiff, Nat.reduceLT, List.take, List.drop, List.map_cons, List.map_nil, List.append_nil, List.nil_append, List.cons_append, List.set, unD, yf, snapAll, zy, yi, zJ, zj, yE, z8, zw, ym, zU, Int.toNat_natCast, Int.natCast_nonneg, Int.toNat_zero, Int.le_refl, Nat.reduceMul, Nat.zero_mul, Nat.mul_zero, yl, zc, zW, zq, zb, zf, yA, eqD, zo, zK, yp, zH, zk, Nat.le_refl, Array.toList_map, List.size_toArray, List.getElem?_toArray, Nat.sub_zero, List.length_append, Nat.mul_one, zv, yo, bO, bS, z9, ze, zC, List.replicate, zE, zD, y9, allOk, yu, y8, newRow, yM, List.isEmpty, Bool.not_false, Bool.not_true, decide_eq_true_eq, zM, zP, zO, zz, zx, yc, zi, Option.map_some, Option.map_none, Option.isNone, Option.isSome, Option.getD_none, Option.getD_some, yP, tys, cks, hx, hlt', hs0, hs5, hd0, hd5, hnow, hnext, yz, encE, encOC_one, allOne_net, whyD_one, h107, h75, cmp_lt, hw3, hfl, snap_whyD, List.length_map, Nat.mul_one, hjlen]
               rfl
             · simp only [zd, yF, yD, z0, z5, Nat.reduceLT, Nat.reduceEqDiff, decide_true, decide_false, cond_true, cond_false]
               rfl
             · rfl
             first
             | (apply y6
                · simp only [za, z0, Nat.reduceLT, decide_true, cond_true, ins]
                  rfl
                · simp only [za, z0, Nat.reduceLT, decide_true, cond_true, ins]
                  rfl)
             | (apply yt
                · simp only [za, z0, Nat.reduceLT, decide_true, cond_true, ins]
                  rfl))
          | ((first | apply zZ | apply y5)
             · rfl
             · simp only [za, z0, Nat.reduceLT, decide_true, cond_true, ins]
               rfl)
          | (apply zY
             · simp only [z6, get, z5, Nat.reduceEqDiff, decide_true, decide_false, cond_true, cond_false])
          | (apply zA
             · simp only [z6, get, z5, Nat.reduceEqDiff, decide_true, decide_false, cond_true, cond_false])
          | (apply yq
             · kernel_rfl
             · kernel_rfl)
          | (simp only [bW, if_true, Nat.reduceEqDiff, if_false])
        · simp only [putE, ho', hb, if_true] at h
          refine x7 (st1 := ⟨99, [(0, .sl false (es.map encE) 7 none), (6, .lref 0 0 5 0), (7, .lref 1 0 5 0), (8, .lref 2 0 5 0), (20, I most), (21, I r), (24, .sl false (es.map encE) 7 none), (25, I es.length), (26, I (i + 1 : Nat))], [(0, ⟨[.agg (out.map yz)], 5, false⟩), (1, ⟨[.agg (now.map yz)], 5, false⟩), (2, ⟨[.agg ((next.set e.dst.toNat (some c')).map yz)], 5, false⟩)], 3, 0⟩) lk72_7 (by
            simp only [gc, gc0, gcWith, deepen, deepT, deepTI, deepO, deepOI, deepA, deepAI, deepEl, deepElI, catI, rootsT, keepT, rootsO, idsL, yS, yO, memN, get, zG, fromPin, renT, renN, placeOf, pinO, renO, renOb, zy, List.map_cons, List.map_nil, List.map_append, List.nil_append, List.cons_append, List.append_nil, z5, z0, Nat.reduceEqDiff, Nat.reduceLT, Nat.not_lt_zero, decide_true, decide_false, cond_true, cond_false, List.length_cons, List.length_nil, Nat.reduceAdd, Nat.zero_add, Nat.add_zero, Nat.lt_irrefl, bI, bD, deep_net, deepI_net, ids_net, ren_net, deep_why, deepI_why, ids_why, ren_why, take_enc, drop_enc, set_enc hj, catI_append, idsL_append, sn_lref, sn_agg, sn_val, snap_whyD, snapAll, List.getElem?_cons_zero, if_true, List.append_assoc]) (ih (i + 1) (next.set e.dst.toNat (some c')) (by rw [← List.drop_drop, hd]; rfl) hlt (netB_set hnx hc') h)
        · simp only [putE, ho', hb, Bool.false_eq_true, if_false] at h
          refine x7 (st1 := ⟨99, [(0, .sl false (es.map encE) 7 none), (6, .lref 0 0 5 0), (7, .lref 1 0 5 0), (8, .lref 2 0 5 0), (20, I most), (21, I r), (24, .sl false (es.map encE) 7 none), (25, I es.length), (26, I (i + 1 : Nat))], [(0, ⟨[.agg (out.map yz)], 5, false⟩), (1, ⟨[.agg (now.map yz)], 5, false⟩), (2, ⟨[.agg ((next).map yz)], 5, false⟩)], 3, 0⟩) lk72_7 (by
            simp only [gc, gc0, gcWith, deepen, deepT, deepTI, deepO, deepOI, deepA, deepAI, deepEl, deepElI, catI, rootsT, keepT, rootsO, idsL, yS, yO, memN, get, zG, fromPin, renT, renN, placeOf, pinO, renO, renOb, zy, List.map_cons, List.map_nil, List.map_append, List.nil_append, List.cons_append, List.append_nil, z5, z0, Nat.reduceEqDiff, Nat.reduceLT, Nat.not_lt_zero, decide_true, decide_false, cond_true, cond_false, List.length_cons, List.length_nil, Nat.reduceAdd, Nat.zero_add, Nat.add_zero, Nat.lt_irrefl, bI, bD, deep_net, deepI_net, ids_net, ren_net, deep_why, deepI_why, ids_why, ren_why, take_enc, drop_enc, set_enc hj, catI_append, idsL_append, sn_lref, sn_agg, sn_val, snap_whyD, snapAll, List.getElem?_cons_zero, if_true, List.append_assoc]) (ih (i + 1) (next) (by rw [← List.drop_drop, hd]; rfl) hlt hnx h)

end Go.VS
namespace Go.VS
open Go Go.Proofs
set_option maxHeartbeats 0
set_option linter.unusedSimpArgs false
def mergeL : List (Option Chn) → Nat → Net → Net
  | [], _, out => out
  | none :: r, i, out => mergeL r (i + 1) out
  | some c :: r, i, out => mergeL r (i + 1) (putE out i c)
theorem netB_put {m : Int} {n j : Nat} {l : Net} {c : Chn} (h : netB m n l) (hc : qB m n c) : netB m n (putE l j c) := by
  unfold putE
  split
  · split
    · exact netB_set h hc
    · exact h
  · exact netB_set h hc
theorem netB_merge {m : Int} {n : Nat} : ∀ {l : List (Option Chn)} {i : Nat} {out : Net}, netB m n out → (∀ c, some c ∈ l → qB m n c) → netB m n (mergeL l i out)
  | [], _, _, h, _ => h
  | none :: r, i, out, h, hl => netB_merge (l := r) h fun c hc => hl c (List.mem_cons_of_mem _ hc)
  | some c :: r, i, out, h, hl => netB_merge (l := r) (netB_put h (hl c (by simp))) fun c hc => hl c (List.mem_cons_of_mem _ hc)

theorem L72_15 {F : Exit → St → Option D} (es : List Edge) (now next : Net) (most r m : Int) (n : Nat) (k : List Kt) (x : D) (hm2 : m ≤ 9223372036854775807) (hnb : netB m n next) : ∀ (rest : List (Option Chn)) (i : Nat) (out : Net), next.drop i = rest → i ≤ 5 → netB m n out →
    yZ cfg (lim cfg) 72 F k (.exit 4) ⟨99, [(67, B false), (0, .sl false (es.map encE) 7 none), (6, .lref 0 0 5 0), (7, .lref 1 0 5 0), (8, .lref 2 0 5 0), (20, I most), (21, I r), (65, .agg (next.map yz)), (66, I (5 : Nat))], [(0, ⟨[.agg ((mergeL rest i out).map yz)], 5, false⟩), (1, ⟨[.agg (now.map yz)], 5, false⟩), (2, ⟨[.agg (next.map yz)], 5, false⟩)], 3, 0⟩ = some x →
    EvL cfg (lim cfg) 72 F lp72_15 k ⟨99, [(0, .sl false (es.map encE) 7 none), (6, .lref 0 0 5 0), (7, .lref 1 0 5 0), (8, .lref 2 0 5 0), (20, I most), (21, I r), (65, .agg (next.map yz)), (66, I (i : Nat))], [(0, ⟨[.agg ((out).map yz)], 5, false⟩), (1, ⟨[.agg (now.map yz)], 5, false⟩), (2, ⟨[.agg (next.map yz)], 5, false⟩)], 3, 0⟩ = some x := by
  intro rest
  induction rest with
  | nil =>
    intro i out hd hi hob h
    have hi' : i = 5 := by
      have := List.drop_eq_nil_iff.1 hd
      have := hnb.1
      omega
    subst hi'
    refine yw ?_
    dsimp only [lp72_15, x8, yN, Tryd.f72]
    simp only [bW, if_true, Nat.reduceEqDiff, if_false]
    repeat' first
      | (intro hb; first | cases hb | skip)
      | ((first | apply zB | apply y7)
         · rfl
         · simp (disch := assumption) only [yx, z6, get, z5, z0, Nat.reduceEqDiff, decide_true, decide_false, cond_true, cond_false, yk, zr, zI, yg, zF, Bool.and_true, Bool.true_and, Bool.and_self, Bool.and_false, Bool.false_and, Bool.or_false, Bool.or_true, Bool.false_or, Bool.true_or, Bool.not_true, Bool.not_false, if_true, ye, List.length_cons, List.length_nil, yy, yb, z7, zu, zt, zl, List.getElem?_cons_zero, List.getElem?_cons_succ, Nat.reduceAdd, Nat.zero_add, Nat.add_zero, Nat.one_ne_zero, zT, zs, zp, yC, zG, yK, Ty.isAgg, yB, zX, zR, zm, yh, zh, zV, yj, zg, ofV, zQ, zS, Bool.false_eq_true, if_false, Nat.reduceLeDiff, Nat.reduceLT, List.take, List.drop, List.map_cons, List.map_nil, List.append_nil, List.nil_append, List.cons_append, List.set, unD, yf, snapAll, zy, yi, zJ, zj, yE, z8, zw, ym, zU, Int.toNat_natCast, Int.natCast_nonneg, Int.toNat_zero, Int.le_refl, Nat.reduceMul, Nat.zero_mul, Nat.mul_zero, yl, zc, zW, zq, zb, zf, yA, eqD, zo, zK, yp, zH, zk, Nat.le_refl, Array.toList_map, List.size_toArray, List.getElem?_toArray, Nat.sub_zero, List.length_append, Nat.mul_one, zv, yo, bO, bS, z9, ze, zC, List.replicate, zE, zD, y9, allOk, yu, y8, newRow, yM, List.isEmpty, Bool.not_false, Bool.not_true, decide_eq_true_eq, zM, zP, zO, zz, zx, yc, zi, Option.map_some, Option.map_none, Option.isNone, Option.isSome, Option.getD_none, Option.getD_some, yP, tys, cks, show (decide (((5 : Nat) : Int) < 5)) = false from rfl]
           rfl
         · simp only [zd, yF, yD, z0, z5, Nat.reduceLT, Nat.reduceEqDiff, decide_true, decide_false, cond_true, cond_false]
           rfl
         · rfl
         first
         | (apply y6
            · simp only [za, z0, Nat.reduceLT, decide_true, cond_true, ins]
              rfl
            · simp only [za, z0, Nat.reduceLT, decide_true, cond_true, ins]
              rfl)
         | (apply yt
            · simp only [za, z0, Nat.reduceLT, decide_true, cond_true, ins]
              rfl))
      | ((first | apply zZ | apply y5)
         · rfl
         · simp only [za, z0, Nat.reduceLT, decide_true, cond_true, ins]
           rfl)
      | (apply zY
         · simp only [z6, get, z5, Nat.reduceEqDiff, decide_true, decide_false, cond_true, cond_false])
      | (apply zA
         · simp only [z6, get, z5, Nat.reduceEqDiff, decide_true, decide_false, cond_true, cond_false])
      | (apply yq
         · kernel_rfl
         · kernel_rfl)
      | (simp only [bW, if_true, Nat.reduceEqDiff, if_false])
    exact h
  | cons o rest ih =>
    intro i out hd hi hob h
    have hlt : i < 5 := by
      rcases Nat.lt_or_ge i next.length with h | h
      · have := hnb.1; omega
      · rw [List.drop_eq_nil_of_le h] at hd; cases hd
    have hm : next[i]? = some o := by rw [← List.head?_drop, hd]; rfl
    have hnx : (next.map yz)[i]? = some (yz o) := by rw [List.getElem?_map, hm]; rfl
    have hlt' : ((i : Int) < 5) = True := by simp; omega
    have h5 : (i < 5) = True := by simp [hlt]
    have hw3 : IntKind.i64.wrap ((i : Int) + 1) = ((i + 1 : Nat) : Int) := by rw [wrap_i64 (by omega) (by omega)]; omega
    have hj : i < out.length := by have := hob.1; omega
    have hjlen : (i + 1 ≤ out.length) = True := by simp; omega
    obtain ⟨o', ho'⟩ : ∃ o, out[i]? = some o := ⟨_, List.getElem?_eq_getElem hj⟩
    have hout : (out.map yz)[i]? = some (yz o') := by rw [List.getElem?_map, ho']; rfl
    cases o with
    | none =>
      simp only [mergeL] at h
      refine yw ?_
      dsimp only [lp72_15, x8, yN, Tryd.f72]
      simp only [bW, if_true, Nat.reduceEqDiff, if_false]
      repeat' first
        | (intro hb; first | cases hb | skip)
        | ((first | apply zB | apply y7)
           · rfl
           · simp (disch := assumption) only [yx, z6, get, z5, z0, Nat.reduceEqDiff, decide_true, decide_false, cond_true, cond_false, yk, zr, zI, yg, zF, Bool.and_true, Bool.true_and, Bool.and_self, Bool.and_false, Bool.false_and, Bool.or_false, Bool.or_true, Bool.false_or, Bool.true_or, Bool.not_true, Bool.not_false, if_true, ye, List.length_cons, List.length_nil, yy, yb, z7, zu, zt, zl, List.getElem?_cons_zero, List.getElem?_cons_succ, Nat.reduceAdd, Nat.zero_add, Nat.add_zero, Nat.one_ne_zero, zT, zs, zp, yC, zG, yK, Ty.isAgg, yB, zX, zR, zm, yh, zh, zV, yj, zg, ofV, zQ, zS, Bool.false_eq_true, if_false, Nat.reduceLeDiff, Nat.reduceLT, List.take, List.drop, List.map_cons, List.map_nil, List.append_nil, List.nil_append, List.cons_append, List.set, unD, yf, snapAll, zy, yi, zJ, zj, yE, z8, zw, ym, zU, Int.toNat_natCast, Int.natCast_nonneg, Int.toNat_zero, Int.le_refl, Nat.reduceMul, Nat.zero_mul, Nat.mul_zero, yl, zc, zW, zq, zb, zf, yA, eqD, zo, zK, yp, zH, zk, Nat.le_refl, Array.toList_map, List.size_toArray, List.getElem?_toArray, Nat.sub_zero, List.length_append, Nat.mul_one, zv, yo, bO, bS, z9, ze, zC, List.replicate, zE, zD, y9, allOk, yu, y8, newRow, yM, List.isEmpty, Bool.not_false, Bool.not_true, decide_eq_true_eq, zM, zP, zO, zz, zx, yc, zi, Option.map_some, Option.map_none, Option.isNone, Option.isSome, Option.getD_none, Option.getD_some, yP, tys, cks, List.length_map, hlt', h5, hnx, yz, encOC_one, allOne_net, whyD_one, cmp_lt, hw3, Int.toNat_natCast, decide_true, decide_false]
             rfl
           · simp only [zd, yF, yD, z0, z5, Nat.reduceLT, Nat.reduceEqDiff, decide_true, decide_false, cond_true, cond_false]
             rfl
           · rfl
           first
           | (apply y6
              · simp only [za, z0, Nat.reduceLT, decide_true, cond_true, ins]
                rfl
              · simp only [za, z0, Nat.reduceLT, decide_true, cond_true, ins]
                rfl)
           | (apply yt
              · simp only [za, z0, Nat.reduceLT, decide_true, cond_true, ins]
                rfl))
        | ((first | apply zZ | apply y5)
           · rfl
           · simp only [za, z0, Nat.reduceLT, decide_true, cond_true, ins]
             rfl)
        | (apply zY
           · simp only [z6, get, z5, Nat.reduceEqDiff, decide_true, decide_false, cond_true, cond_false])
        | (apply zA
           · simp only [z6, get, z5, Nat.reduceEqDiff, decide_true, decide_false, cond_true, cond_false])
        | (apply yq
           · kernel_rfl
           · kernel_rfl)
        | (simp only [bW, if_true, Nat.reduceEqDiff, if_false])
      refine x7 (st1 := ⟨99, [(0, .sl false (es.map encE) 7 none), (6, .lref 0 0 5 0), (7, .lref 1 0 5 0), (8, .lref 2 0 5 0), (20, I most), (21, I r), (65, .agg (next.map yz)), (66, I (i + 1 : Nat))], [(0, ⟨[.agg ((out).map yz)], 5, false⟩), (1, ⟨[.agg (now.map yz)], 5, false⟩), (2, ⟨[.agg (next.map yz)], 5, false⟩)], 3, 0⟩) lk72_15 (by
        simp only [gc, gc0, gcWith, deepen, deepT, deepTI, deepO, deepOI, deepA, deepAI, deepEl, deepElI, catI, rootsT, keepT, rootsO, idsL, yS, yO, memN, get, zG, fromPin, renT, renN, placeOf, pinO, renO, renOb, zy, List.map_cons, List.map_nil, List.map_append, List.nil_append, List.cons_append, List.append_nil, z5, z0, Nat.reduceEqDiff, Nat.reduceLT, Nat.not_lt_zero, decide_true, decide_false, cond_true, cond_false, List.length_cons, List.length_nil, Nat.reduceAdd, Nat.zero_add, Nat.add_zero, Nat.lt_irrefl, bI, bD, deep_net, deepI_net, ids_net, ren_net, deep_why, deepI_why, ids_why, ren_why, take_enc, drop_enc, catI_append, idsL_append, sn_lref, sn_agg, sn_val, snap_whyD, snapAll, List.getElem?_cons_zero, if_true, List.append_assoc, set_enc hj]) (ih (i + 1) (out) (by rw [← List.drop_drop, hd]; rfl) hlt hob h)
    | some c =>
      simp only [mergeL, putE, ho'] at h
      have hqb := hnb.2 c (List.mem_of_getElem? hm)
      cases o' with
      | none =>
        simp only [] at h
        refine yw ?_
        dsimp only [lp72_15, x8, yN, Tryd.f72]
        simp only [bW, if_true, Nat.reduceEqDiff, if_false]
        repeat' first
          | (intro hb; first | cases hb | skip)
          | ((first | apply zB | apply y7)
             · rfl
             · simp (disch := assumption) only [yx, z6, get, z5, z0, Nat.reduceEqDiff, decide_true, decide_false, cond_true, cond_false, yk, zr, zI, yg, zF, Bool.and_true, Bool.true_and, Bool.and_self, Bool.and_false, Bool.false_and, Bool.or_false, Bool.or_true, Bool.false_or, Bool.true_or, Bool.not_true, Bool.not_false, if_true, ye, List.length_cons, List.length_nil, yy, yb, z7, zu, zt, zl, List.getElem?_cons_zero, List.getElem?_cons_succ, Nat.reduceAdd, Nat.zero_add, Nat.add_zero, Nat.one_ne_zero, zT, zs, zp, yC, zG, yK, Ty.isAgg, yB, zX, zR, zm, yh, zh, zV, yj, zg, ofV, zQ, zS, Bool.false_eq_true, if_false, Nat.reduceLeDiff, Nat.reduceLT, List.take, List.drop, List.map_cons, List.map_nil, List.append_nil, List.nil_append, List.cons_append, List.set, unD, yf, snapAll, zy, yi, zJ, zj, yE, z8, zw, ym, zU, Int.toNat_natCast, Int.natCast_nonneg, Int.toNat_zero, Int.le_refl, Nat.reduceMul, Nat.zero_mul, Nat.mul_zero, yl, zc, zW, zq, zb, zf, yA, eqD, zo, zK, yp, zH, zk, Nat.le_refl, Array.toList_map, List.size_toArray, List.getElem?_toArray, Nat.sub_zero, List.length_append, Nat.mul_one, zv, yo, bO, bS, z9, ze, zC, List.replicate, zE, zD, y9, allOk, yu, y8, newRow, yM, List.isEmpty, Bool.not_false, Bool.not_true, decide_eq_true_eq, zM, zP, zO, zz, zx, yc, zi, Option.map_some, Option.map_none, Option.isNone, Option.isSome, Option.getD_none, Option.getD_some, yP, tys, cks, List.length_map, hlt', h5, hnx, hout, yz, encOC_one, allOne_net, whyD_one, cmp_lt, hw3, hjlen, Int.toNat_natCast, decide_true, decide_false]
               rfl
             · simp only [zd, yF, yD, z0, z5, Nat.reduceLT, Nat.reduceEqDiff, decide_true, decide_false, cond_true, cond_false]
               rfl
             · rfl
             first
             | (apply y6
                · simp only [za, z0, Nat.reduceLT, decide_true, cond_true, ins]
                  rfl
                · simp only [za, z0, Nat.reduceLT, decide_true, cond_true, ins]
                  rfl)
             | (apply yt
                · simp only [za, z0, Nat.reduceLT, decide_true, cond_true, ins]
                  rfl))
          | ((first | apply zZ | apply y5)
             · rfl
             · simp only [za, z0, Nat.reduceLT, decide_true, cond_true, ins]
               rfl)
          | (apply zY
             · simp only [z6, get, z5, Nat.reduceEqDiff, decide_true, decide_false, cond_true, cond_false])
          | (apply zA
             · simp only [z6, get, z5, Nat.reduceEqDiff, decide_true, decide_false, cond_true, cond_false])
          | (apply yq
             · kernel_rfl
             · kernel_rfl)
          | (simp only [bW, if_true, Nat.reduceEqDiff, if_false])
        refine x7 (st1 := ⟨99, [(0, .sl false (es.map encE) 7 none), (6, .lref 0 0 5 0), (7, .lref 1 0 5 0), (8, .lref 2 0 5 0), (20, I most), (21, I r), (65, .agg (next.map yz)), (66, I (i + 1 : Nat))], [(0, ⟨[.agg ((out.set i (some c)).map yz)], 5, false⟩), (1, ⟨[.agg (now.map yz)], 5, false⟩), (2, ⟨[.agg (next.map yz)], 5, false⟩)], 3, 0⟩) lk72_15 (by
          simp only [gc, gc0, gcWith, deepen, deepT, deepTI, deepO, deepOI, deepA, deepAI, deepEl, deepElI, catI, rootsT, keepT, rootsO, idsL, yS, yO, memN, get, zG, fromPin, renT, renN, placeOf, pinO, renO, renOb, zy, List.map_cons, List.map_nil, List.map_append, List.nil_append, List.cons_append, List.append_nil, z5, z0, Nat.reduceEqDiff, Nat.reduceLT, Nat.not_lt_zero, decide_true, decide_false, cond_true, cond_false, List.length_cons, List.length_nil, Nat.reduceAdd, Nat.zero_add, Nat.add_zero, Nat.lt_irrefl, bI, bD, deep_net, deepI_net, ids_net, ren_net, deep_why, deepI_why, ids_why, ren_why, take_enc, drop_enc, catI_append, idsL_append, sn_lref, sn_agg, sn_val, snap_whyD, snapAll, List.getElem?_cons_zero, if_true, List.append_assoc, set_enc hj]) (ih (i + 1) (out.set i (some c)) (by rw [← List.drop_drop, hd]; rfl) hlt (netB_set hob hqb) h)
      | some b =>
        have h75 := t75q hqb (hob.2 b (List.mem_of_getElem? ho')) hm2
        refine yw ?_
        dsimp only [lp72_15, x8, yN, Tryd.f72]
        simp only [bW, if_true, Nat.reduceEqDiff, if_false]
        repeat' first
          | (intro hb; first | cases hb | skip)
          | ((first | apply zB | apply y7)
             · rfl
             · simp (disch := assumption) only [yx, z6, get, z5, z0, Nat.reduceEqDiff, decide_true, decide_false, cond_true, cond_false, yk, zr, zI, yg, zF, Bool.and_true, Bool.true_and, Bool.and_self, Bool.and_false, Bool.false_and, Bool.or_false, Bool.or_true, Bool.false_or, Bool.true_or, Bool.not_true, Bool.not_false, if_true, ye, List.length_cons, List.length_nil, yy, yb, z7, zu, zt, zl, List.getElem?_cons_zero, List.getElem?_cons_succ, Nat.reduceAdd, Nat.zero_add, Nat.add_zero, Nat.one_ne_zero, zT, zs, zp, yC, zG, yK, Ty.isAgg, yB, zX, zR, zm, yh, zh, zV, yj, zg, ofV, zQ, zS, Bool.false_eq_true, if_false, Nat.reduceLeDiff, Nat.reduceLT, List.take, List.drop, List.map_cons, List.map_nil, List.append_nil, List.nil_append, List.cons_append, List.set, unD, yf, snapAll, zy, yi, zJ, zj, yE, z8, zw, ym, zU, Int.toNat_natCast, Int.natCast_nonneg, Int.toNat_zero, Int.le_refl, Nat.reduceMul, Nat.zero_mul, Nat.mul_zero, yl, zc, zW, zq, zb, zf, yA, eqD, zo, zK, yp, zH, zk, Nat.le_refl, Array.toList_map, List.size_toArray, List.getElem?_toArray, Nat.sub_zero, List.length_append, Nat.mul_one, zv, yo, bO, bS, z9, ze, zC, List.replicate, zE, zD, y9, allOk, yu, y8, newRow, yM, List.isEmpty, Bool.not_false, Bool.not_true, decide_eq_true_eq, zM, zP, zO, zz, zx, yc, zi, Option.map_some, Option.map_none, Option.isNone, Option.isSome, Option.getD_none, Option.getD_some, yP, tys, cks, List.length_map, hlt', h5, hnx, hout, yz, encOC_one, allOne_net, whyD_one, h75, cmp_lt, hw3, hjlen, Int.toNat_natCast, decide_true, decide_false]
               rfl
             · simp only [zd, yF, yD, z0, z5, Nat.reduceLT, Nat.reduceEqDiff, decide_true, decide_false, cond_true, cond_false]
               rfl
             · rfl
             first
             | (apply y6
                · simp only [za, z0, Nat.reduceLT, decide_true, cond_true, ins]
                  rfl
                · simp only [za, z0, Nat.reduceLT, decide_true, cond_true, ins]
                  rfl)
             | (apply yt
                · simp only [za, z0, Nat.reduceLT, decide_true, cond_true, ins]
                  rfl))
          | ((first | apply zZ | apply y5)
             · rfl
             · simp only [za, z0, Nat.reduceLT, decide_true, cond_true, ins]
               rfl)
          | (apply zY
             · simp only [z6, get, z5, Nat.reduceEqDiff, decide_true, decide_false, cond_true, cond_false])
          | (apply zA
             · simp only [z6, get, z5, Nat.reduceEqDiff, decide_true, decide_false, cond_true, cond_false])
          | (apply yq
             · kernel_rfl
             · kernel_rfl)
          | (simp only [bW, if_true, Nat.reduceEqDiff, if_false])
        · simp only [hb, if_true] at h
          refine x7 (st1 := ⟨99, [(0, .sl false (es.map encE) 7 none), (6, .lref 0 0 5 0), (7, .lref 1 0 5 0), (8, .lref 2 0 5 0), (20, I most), (21, I r), (65, .agg (next.map yz)), (66, I (i + 1 : Nat))], [(0, ⟨[.agg ((out.set i (some c)).map yz)], 5, false⟩), (1, ⟨[.agg (now.map yz)], 5, false⟩), (2, ⟨[.agg (next.map yz)], 5, false⟩)], 3, 0⟩) lk72_15 (by
            simp only [gc, gc0, gcWith, deepen, deepT, deepTI, deepO, deepOI, deepA, deepAI, deepEl, deepElI, catI, rootsT, keepT, rootsO, idsL, yS, yO, memN, get, zG, fromPin, renT, renN, placeOf, pinO, renO, renOb, zy, List.map_cons, List.map_nil, List.map_append, List.nil_append, List.cons_append, List.append_nil, z5, z0, Nat.reduceEqDiff, Nat.reduceLT, Nat.not_lt_zero, decide_true, decide_false, cond_true, cond_false, List.length_cons, List.length_nil, Nat.reduceAdd, Nat.zero_add, Nat.add_zero, Nat.lt_irrefl, bI, bD, deep_net, deepI_net, ids_net, ren_net, deep_why, deepI_why, ids_why, ren_why, take_enc, drop_enc, catI_append, idsL_append, sn_lref, sn_agg, sn_val, snap_whyD, snapAll, List.getElem?_cons_zero, if_true, List.append_assoc, set_enc hj]) (ih (i + 1) (out.set i (some c)) (by rw [← List.drop_drop, hd]; rfl) hlt (netB_set hob hqb) h)
        · simp only [hb, Bool.false_eq_true, if_false] at h
          refine x7 (st1 := ⟨99, [(0, .sl false (es.map encE) 7 none), (6, .lref 0 0 5 0), (7, .lref 1 0 5 0), (8, .lref 2 0 5 0), (20, I most), (21, I r), (65, .agg (next.map yz)), (66, I (i + 1 : Nat))], [(0, ⟨[.agg ((out).map yz)], 5, false⟩), (1, ⟨[.agg (now.map yz)], 5, false⟩), (2, ⟨[.agg (next.map yz)], 5, false⟩)], 3, 0⟩) lk72_15 (by
            simp only [gc, gc0, gcWith, deepen, deepT, deepTI, deepO, deepOI, deepA, deepAI, deepEl, deepElI, catI, rootsT, keepT, rootsO, idsL, yS, yO, memN, get, zG, fromPin, renT, renN, placeOf, pinO, renO, renOb, zy, List.map_cons, List.map_nil, List.map_append, List.nil_append, List.cons_append, List.append_nil, z5, z0, Nat.reduceEqDiff, Nat.reduceLT, Nat.not_lt_zero, decide_true, decide_false, cond_true, cond_false, List.length_cons, List.length_nil, Nat.reduceAdd, Nat.zero_add, Nat.add_zero, Nat.lt_irrefl, bI, bD, deep_net, deepI_net, ids_net, ren_net, deep_why, deepI_why, ids_why, ren_why, take_enc, drop_enc, catI_append, idsL_append, sn_lref, sn_agg, sn_val, snap_whyD, snapAll, List.getElem?_cons_zero, if_true, List.append_assoc, set_enc hj]) (ih (i + 1) (out) (by rw [← List.drop_drop, hd]; rfl) hlt hob h)

def emptyN : Net := [none, none, none, none, none]
def roundsN (es : List Edge) : Nat → Net → Net → Net
  | 0, _, out => out
  | j + 1, now, out => roundsN es j (es.foldl (stepE now) emptyN) (mergeL (es.foldl (stepE now) emptyN) 0 out)
def chainsF (es : List Edge) (src most : Nat) : Net := roundsN es most (emptyN.set src (some ⟨⟨1, 1⟩, []⟩)) emptyN
theorem netB_mono {m m' : Int} {n n' : Nat} {l : Net} (h : netB m n l) (hm : m ≤ m') (hn : n ≤ n') : netB m' n' l := by
  refine ⟨h.1, fun c hc => ?_⟩
  obtain ⟨a, b, c, d, e⟩ := h.2 c hc
  exact ⟨a, by omega, c, by omega, by omega⟩
theorem netB_step {m : Int} {n : Nat} {now next : Net} {e : Edge} (hn : netB m n now) (he : edgeB e) (hm : 1 ≤ m) (h : netB (m * 2000) (n + 1) next) : netB (m * 2000) (n + 1) (stepE now next e) := by
  unfold stepE
  split
  · rename_i c hc
    exact netB_put h (with_qB (hn.2 c (List.mem_of_getElem? hc)) he hm)
  · exact h
theorem netB_fold {m : Int} {n : Nat} {now : Net} (hn : netB m n now) (hm : 1 ≤ m) : ∀ {es : List Edge} {next : Net}, (∀ e ∈ es, edgeB e) → netB (m * 2000) (n + 1) next → netB (m * 2000) (n + 1) (es.foldl (stepE now) next)
  | [], _, _, h => h
  | e :: es, next, he, h => netB_fold hn hm (es := es) (fun e' h' => he e' (List.mem_cons_of_mem _ h')) (netB_step hn (he e (by simp)) hm h)
theorem xh (m : Int) (n : Nat) : netB m n emptyN := ⟨rfl, fun c hc => by simp [emptyN] at hc⟩

theorem L72_4 {F : Exit → St → Option D} (es : List Edge) (most : Nat) (k : List Kt) (x : D) (hes : ∀ e ∈ es, edgeB e) (hlen : es.length ≤ 1000) (hmost : most ≤ 5) : ∀ (j r : Nat) (now out : Net), r + j = most → netB (2000 ^ r) r now → netB 32000000000000000 5 out →
    (∀ now' : Net, yZ cfg (lim cfg) 72 F k (.exit 0) ⟨99, [(22, B false), (0, .sl false (es.map encE) 7 none), (6, .lref 0 0 5 0), (7, .lref 1 0 5 0), (20, I (most : Nat)), (21, I (most : Nat))], [(0, ⟨[.agg ((roundsN es j now out).map yz)], 5, false⟩), (1, ⟨[.agg ((now').map yz)], 5, false⟩)], 2, 0⟩ = some x) →
    EvL cfg (lim cfg) 72 F lp72_4 k ⟨99, [(0, .sl false (es.map encE) 7 none), (6, .lref 0 0 5 0), (7, .lref 1 0 5 0), (20, I (most : Nat)), (21, I (r : Nat))], [(0, ⟨[.agg ((out).map yz)], 5, false⟩), (1, ⟨[.agg ((now).map yz)], 5, false⟩)], 2, 0⟩ = some x := by
  intro j
  induction j with
  | zero =>
    intro r now out hr hnb hob h
    obtain rfl : r = most := by omega
    refine yw ?_
    dsimp only [lp72_4, x8, yN, Tryd.f72]
    simp only [bW, if_true, Nat.reduceEqDiff, if_false]
    repeat' first
      | (intro hb; first | cases hb | skip)
      | ((first | apply zB | apply y7)
         · rfl
         · simp (disch := assumption) only [yx, z6, get, z5, z0, Nat.reduceEqDiff, decide_true, decide_false, cond_true, cond_false, yk, zr, zI, yg, zF, Bool.and_true, Bool.true_and, Bool.and_self, Bool.and_false, Bool.false_and, Bool.or_false, Bool.or_true, Bool.false_or, Bool.true_or, Bool.not_true, Bool.not_false, if_true, ye, List.length_cons, List.length_nil, yy, yb, z7, zu, zt, zl, List.getElem?_cons_zero, List.getElem?_cons_succ, Nat.reduceAdd, Nat.zero_add, Nat.add_zero, Nat.one_ne_zero, zT, zs, zp, yC, zG, yK, Ty.isAgg, yB, zX, zR, zm, yh, zh, zV, yj, zg, ofV, zQ, zS, Bool.false_eq_true, if_false, Nat.reduceLeDiff, Nat.reduceLT, List.take, List.drop, List.map_cons, List.map_nil, List.append_nil, List.nil_append, List.cons_append, List.set, unD, yf, snapAll, zy, yi, zJ, zj, yE, z8, zw, ym, zU, Int.toNat_natCast, Int.natCast_nonneg, Int.toNat_zero, Int.le_refl, Nat.reduceMul, Nat.zero_mul, Nat.mul_zero, yl, zc, zW, zq, zb, zf, yA, eqD, zo, zK, yp, zH, zk, Nat.le_refl, Array.toList_map, List.size_toArray, List.getElem?_toArray, Nat.sub_zero, List.length_append, Nat.mul_one, zv, yo, bO, bS, z9, ze, zC, List.replicate, zE, zD, y9, allOk, yu, y8, newRow, yM, List.isEmpty, Bool.not_false, Bool.not_true, decide_eq_true_eq, zM, zP, zO, zz, zx, yc, zi, Option.map_some, Option.map_none, Option.isNone, Option.isSome, Option.getD_none, Option.getD_some, yP, tys, cks, Int.lt_irrefl, decide_false]
           rfl
         · simp only [zd, yF, yD, z0, z5, Nat.reduceLT, Nat.reduceEqDiff, decide_true, decide_false, cond_true, cond_false]
           rfl
         · rfl
         first
         | (apply y6
            · simp only [za, z0, Nat.reduceLT, decide_true, cond_true, ins]
              rfl
            · simp only [za, z0, Nat.reduceLT, decide_true, cond_true, ins]
              rfl)
         | (apply yt
            · simp only [za, z0, Nat.reduceLT, decide_true, cond_true, ins]
              rfl))
      | ((first | apply zZ | apply y5)
         · rfl
         · simp only [za, z0, Nat.reduceLT, decide_true, cond_true, ins]
           rfl)
      | (apply zY
         · simp only [z6, get, z5, Nat.reduceEqDiff, decide_true, decide_false, cond_true, cond_false])
      | (apply zA
         · simp only [z6, get, z5, Nat.reduceEqDiff, decide_true, decide_false, cond_true, cond_false])
      | (apply yq
         · kernel_rfl
         · kernel_rfl)
      | (simp only [bW, if_true, Nat.reduceEqDiff, if_false])
    exact h now
  | succ j ih =>
    intro r now out hr hnb hob h
    have hlt' : ((r : Int) < (most : Int)) = True := by simp; omega
    have hw3 : IntKind.i64.wrap ((r : Int) + 1) = ((r + 1 : Nat) : Int) := by rw [wrap_i64 (by omega) (by omega)]; omega
    have hp1 : (1 : Int) ≤ 2000 ^ r := Int.pow_pos (by omega)
    have hp2 : (2000 : Int) ^ r * 2000 ≤ 32000000000000000 := by
      have : r ≤ 4 := by omega
      rcases r with _ | _ | _ | _ | _ | r <;> first | omega | decide
    have hnx := netB_fold hnb hp1 hes (xh (2000 ^ r * 2000) (r + 1))
    simp only [roundsN] at h
    refine yw ?_
    dsimp only [lp72_4, x8, yN, Tryd.f72]
    simp only [bW, if_true, Nat.reduceEqDiff, if_false]
    repeat' first
      | (intro hb; first | cases hb | skip)
      | ((first | apply zB | apply y7)
         · rfl
         · simp (disch := assumption) only [yx, z6, get, z5, z0, Nat.reduceEqDiff, decide_true, decide_false, cond_true, cond_false, yk, zr, zI, yg, zF, Bool.and_true, Bool.true_and, Bool.and_self, Bool.and_false, Bool.false_and, Bool.or_false, Bool.or_true, Bool.false_or, Bool.true_or, Bool.not_true, Bool.not_false, if_true, ye, List.length_cons, List.length_nil, yy, yb, z7, zu, zt, zl, List.getElem?_cons_zero, List.getElem?_cons_succ, Nat.reduceAdd, Nat.zero_add, Nat.add_zero, Nat.one_ne_zero, zT, zs, zp, yC, zG, yK, Ty.isAgg, yB, zX, zR, zm, yh, zh, zV, yj, zg, ofV, zQ, zS, Bool.false_eq_true, if_false, Nat.reduceLeDiff, Nat.reduceLT, List.take, List.drop, List.map_cons, List.map_nil, List.append_nil, List.nil_append, List.cons_append, List.set, unD, yf, snapAll, zy, yi, zJ, zj, yE, z8, zw, ym, zU, Int.toNat_natCast, Int.natCast_nonneg, Int.toNat_zero, Int.le_refl, Nat.reduceMul, Nat.zero_mul, Nat.mul_zero, yl, zc, zW, zq, zb, zf, yA, eqD, zo, zK, yp, zH, zk, Nat.le_refl, Array.toList_map, List.size_toArray, List.getElem?_toArray, Nat.sub_zero, List.length_append, Nat.mul_one, zv, yo, bO, bS, z9, ze, zC, List.replicate, zE, zD, y9, allOk, yu, y8, newRow, yM, List.isEmpty, Bool.not_false, Bool.not_true, decide_eq_true_eq, zM, zP, zO, zz, zx, yc, zi, Option.map_some, Option.map_none, Option.isNone, Option.isSome, Option.getD_none, Option.getD_some, yP, tys, cks, hlt', decide_true, List.length_map]
           rfl
         · simp only [zd, yF, yD, z0, z5, Nat.reduceLT, Nat.reduceEqDiff, decide_true, decide_false, cond_true, cond_false]
           rfl
         · rfl
         first
         | (apply y6
            · simp only [za, z0, Nat.reduceLT, decide_true, cond_true, ins]
              rfl
            · simp only [za, z0, Nat.reduceLT, decide_true, cond_true, ins]
              rfl)
         | (apply yt
            · simp only [za, z0, Nat.reduceLT, decide_true, cond_true, ins]
              rfl))
      | ((first | apply zZ | apply y5)
         · rfl
         · simp only [za, z0, Nat.reduceLT, decide_true, cond_true, ins]
           rfl)
      | (apply zY
         · simp only [z6, get, z5, Nat.reduceEqDiff, decide_true, decide_false, cond_true, cond_false])
      | (apply zA
         · simp only [z6, get, z5, Nat.reduceEqDiff, decide_true, decide_false, cond_true, cond_false])
      | (apply yq
         · kernel_rfl
         · kernel_rfl)
      | (simp only [bW, if_true, Nat.reduceEqDiff, if_false])
    refine w_loop (st1 := ⟨99, [(0, .sl false (es.map encE) 7 none), (6, .lref 0 0 5 0), (7, .lref 1 0 5 0), (8, .lref 2 0 5 0), (20, I (most : Nat)), (21, I (r : Nat)), (24, .sl false (es.map encE) 7 none), (25, I es.length), (26, I (0 : Nat))], [(0, ⟨[.agg (out.map yz)], 5, false⟩), (1, ⟨[.agg (now.map yz)], 5, false⟩), (2, ⟨[.agg (emptyN.map yz)], 5, false⟩)], 3, 0⟩) lk72_7 (by
      simp only [gc, gc0, gcWith, deepen, deepT, deepTI, deepO, deepOI, deepA, deepAI, deepEl, deepElI, catI, rootsT, keepT, rootsO, idsL, yS, yO, memN, get, zG, fromPin, renT, renN, placeOf, pinO, renO, renOb, zy, List.map_cons, List.map_nil, List.map_append, List.nil_append, List.cons_append, List.append_nil, z5, z0, Nat.reduceEqDiff, Nat.reduceLT, Nat.not_lt_zero, decide_true, decide_false, cond_true, cond_false, List.length_cons, List.length_nil, Nat.reduceAdd, Nat.zero_add, Nat.add_zero, Nat.lt_irrefl, bI, bD, deep_net, deepI_net, ids_net, ren_net, deep_why, deepI_why, ids_why, ren_why, take_enc, drop_enc, catI_append, idsL_append, sn_lref, sn_agg, sn_val, snap_whyD, snapAll, List.getElem?_cons_zero, if_true, List.append_assoc]
      rfl) (L72_7 es out now most r (2000 ^ r) r _ _ hes hlen (by omega) hp1 (by omega) hnb es 0 emptyN rfl (Nat.zero_le _) (xh _ _) ?_)
    generalize es.foldl (stepE now) emptyN = next at *
    have hl5 : (5 ≤ next.length) = True := by have := hnx.1; simp; omega
    have hn5 : next.length = 5 := hnx.1
    have hn5' : now.length = 5 := hnb.1
    have hdn : List.drop 5 (List.map yz now) = [] := by rw [List.drop_eq_nil_of_le]; simp [hnb.1]
    have ht5 : List.take 5 (List.map yz next) = List.map yz next := by rw [List.take_of_length_le]; simp [hnx.1]
    simp only [bW, if_true, Nat.reduceEqDiff, if_false]
    repeat' first
      | (intro hb; first | cases hb | skip)
      | ((first | apply zB | apply y7)
         · rfl
         · simp (disch := assumption) only [yx, z6, get, z5, z0, Nat.reduceEqDiff, decide_true, decide_false, cond_true, cond_false, yk, zr, zI, yg, zF, Bool.and_true, Bool.true_and, Bool.and_self, Bool.and_false, Bool.false_and, Bool.or_false, Bool.or_true, Bool.false_or, Bool.true_or, Bool.not_true, Bool.not_false, if_true, ye, List.length_cons, List.length_nil, yy, yb, z7, zu, zt, zl, List.getElem?_cons_zero, List.getElem?_cons_succ, Nat.reduceAdd, Nat.zero_add, Nat.add_zero, Nat.one_ne_zero, zT, zs, zp, yC, zG, yK, Ty.isAgg, yB, zX, zR, zm, yh, zh, zV, yj, zg, ofV, zQ, zS, Bool.false_eq_true, if_false, Nat.reduceLeDiff, Nat.reduceLT, List.take, List.drop, List.map_cons, List.map_nil, List.append_nil, List.nil_append, List.cons_append, List.set, unD, yf, snapAll, zy, yi, zJ, zj, yE, z8, zw, ym, zU, Int.toNat_natCast, Int.natCast_nonneg, Int.toNat_zero, Int.le_refl, Nat.reduceMul, Nat.zero_mul, Nat.mul_zero, yl, zc, zW, zq, zb, zf, yA, eqD, zo, zK, yp, zH, zk, Nat.le_refl, Array.toList_map, List.size_toArray, List.getElem?_toArray, Nat.sub_zero, List.length_append, Nat.mul_one, zv, yo, bO, bS, z9, ze, zC, List.replicate, zE, zD, y9, allOk, yu, y8, newRow, yM, List.isEmpty, Bool.not_false, Bool.not_true, decide_eq_true_eq, zM, zP, zO, zz, zx, yc, zi, Option.map_some, Option.map_none, Option.isNone, Option.isSome, Option.getD_none, Option.getD_some, yP, tys, cks, decide_true, hl5, ht5, List.length_map]
           rfl
         · simp only [zd, yF, yD, z0, z5, Nat.reduceLT, Nat.reduceEqDiff, decide_true, decide_false, cond_true, cond_false]
           rfl
         · rfl
         first
         | (apply y6
            · simp only [za, z0, Nat.reduceLT, decide_true, cond_true, ins]
              rfl
            · simp only [za, z0, Nat.reduceLT, decide_true, cond_true, ins]
              rfl)
         | (apply yt
            · simp only [za, z0, Nat.reduceLT, decide_true, cond_true, ins]
              rfl))
      | ((first | apply zZ | apply y5)
         · rfl
         · simp only [za, z0, Nat.reduceLT, decide_true, cond_true, ins]
           rfl)
      | (apply zY
         · simp only [z6, get, z5, Nat.reduceEqDiff, decide_true, decide_false, cond_true, cond_false])
      | (apply zA
         · simp only [z6, get, z5, Nat.reduceEqDiff, decide_true, decide_false, cond_true, cond_false])
      | (apply yq
         · kernel_rfl
         · kernel_rfl)
      | (simp only [bW, if_true, Nat.reduceEqDiff, if_false])
    refine w_loop (st1 := ⟨99, [(0, .sl false (es.map encE) 7 none), (6, .lref 0 0 5 0), (7, .lref 1 0 5 0), (8, .lref 2 0 5 0), (20, I (most : Nat)), (21, I (r : Nat)), (65, .agg (next.map yz)), (66, I (0 : Nat))], [(0, ⟨[.agg ((out).map yz)], 5, false⟩), (1, ⟨[.agg (now.map yz)], 5, false⟩), (2, ⟨[.agg (next.map yz)], 5, false⟩)], 3, 0⟩) lk72_15 (by
      simp only [gc, gc0, gcWith, deepen, deepT, deepTI, deepO, deepOI, deepA, deepAI, deepEl, deepElI, catI, rootsT, keepT, rootsO, idsL, yS, yO, memN, get, zG, fromPin, renT, renN, placeOf, pinO, renO, renOb, zy, List.map_cons, List.map_nil, List.map_append, List.nil_append, List.cons_append, List.append_nil, z5, z0, Nat.reduceEqDiff, Nat.reduceLT, Nat.not_lt_zero, decide_true, decide_false, cond_true, cond_false, List.length_cons, List.length_nil, Nat.reduceAdd, Nat.zero_add, Nat.add_zero, Nat.lt_irrefl, bI, bD, deep_net, deepI_net, ids_net, ren_net, deep_why, deepI_why, ids_why, ren_why, take_enc, drop_enc, catI_append, idsL_append, sn_lref, sn_agg, sn_val, snap_whyD, snapAll, List.getElem?_cons_zero, if_true, List.append_assoc]
      rfl) (L72_15 es now next most r 32000000000000000 5 _ _ (by omega) (netB_mono hnx hp2 (by omega)) next 0 out rfl (Nat.zero_le _) hob ?_)
    have hob2 := netB_merge (l := next) (i := 0) hob (netB_mono hnx hp2 (by omega)).2
    simp only [bW, if_true, Nat.reduceEqDiff, if_false]
    repeat' first
      | (intro hb; first | cases hb | skip)
      | ((first | apply zB | apply y7)
         · rfl
         · simp (disch := assumption) only [yx, z6, get, z5, z0, Nat.reduceEqDiff, decide_true, decide_false, cond_true, cond_false, yk, zr, zI, yg, zF, Bool.and_true, Bool.true_and, Bool.and_self, Bool.and_false, Bool.false_and, Bool.or_false, Bool.or_true, Bool.false_or, Bool.true_or, Bool.not_true, Bool.not_false, if_true, ye, List.length_cons, List.length_nil, yy, yb, z7, zu, zt, zl, List.getElem?_cons_zero, List.getElem?_cons_succ, Nat.reduceAdd, Nat.zero_add, Nat.add_zero, Nat.one_ne_zero, zT, zs, zp, yC, zG, yK, Ty.isAgg, yB, zX, zR, zm, yh, zh, zV, yj, zg, ofV, zQ, zS, Bool.false_eq_true, if_false, Nat.reduceLeDiff, Nat.reduceLT, List.take, List.drop, List.map_cons, List.map_nil, List.append_nil, List.nil_append, List.cons_append, List.set, unD, yf, snapAll, zy, yi, zJ, zj, yE, z8, zw, ym, zU, Int.toNat_natCast, Int.natCast_nonneg, Int.toNat_zero, Int.le_refl, Nat.reduceMul, Nat.zero_mul, Nat.mul_zero, yl, zc, zW, zq, zb, zf, yA, eqD, zo, zK, yp, zH, zk, Nat.le_refl, Array.toList_map, List.size_toArray, List.getElem?_toArray, Nat.sub_zero, List.length_append, Nat.mul_one, zv, yo, bO, bS, z9, ze, zC, List.replicate, zE, zD, y9, allOk, yu, y8, newRow, yM, List.isEmpty, Bool.not_false, Bool.not_true, decide_eq_true_eq, zM, zP, zO, zz, zx, yc, zi, Option.map_some, Option.map_none, Option.isNone, Option.isSome, Option.getD_none, Option.getD_some, yP, tys, cks, decide_true, hn5, hn5', ht5, hdn, List.length_map, hw3, allOne_net, Nat.le_refl, List.take_zero]
           rfl
         · simp only [zd, yF, yD, z0, z5, Nat.reduceLT, Nat.reduceEqDiff, decide_true, decide_false, cond_true, cond_false]
           rfl
         · rfl
         first
         | (apply y6
            · simp only [za, z0, Nat.reduceLT, decide_true, cond_true, ins]
              rfl
            · simp only [za, z0, Nat.reduceLT, decide_true, cond_true, ins]
              rfl)
         | (apply yt
            · simp only [za, z0, Nat.reduceLT, decide_true, cond_true, ins]
              rfl))
      | ((first | apply zZ | apply y5)
         · rfl
         · simp only [za, z0, Nat.reduceLT, decide_true, cond_true, ins]
           rfl)
      | (apply zY
         · simp only [z6, get, z5, Nat.reduceEqDiff, decide_true, decide_false, cond_true, cond_false])
      | (apply zA
         · simp only [z6, get, z5, Nat.reduceEqDiff, decide_true, decide_false, cond_true, cond_false])
      | (apply yq
         · kernel_rfl
         · kernel_rfl)
      | (simp only [bW, if_true, Nat.reduceEqDiff, if_false])
    refine x7 (st1 := ⟨99, [(0, .sl false (es.map encE) 7 none), (6, .lref 0 0 5 0), (7, .lref 1 0 5 0), (20, I (most : Nat)), (21, I (r + 1 : Nat))], [(0, ⟨[.agg ((mergeL next 0 out).map yz)], 5, false⟩), (1, ⟨[.agg ((next).map yz)], 5, false⟩)], 2, 0⟩) lk72_4 (by
      simp only [gc, gc0, gcWith, deepen, deepT, deepTI, deepO, deepOI, deepA, deepAI, deepEl, deepElI, catI, rootsT, keepT, rootsO, idsL, yS, yO, memN, get, zG, fromPin, renT, renN, placeOf, pinO, renO, renOb, zy, List.map_cons, List.map_nil, List.map_append, List.nil_append, List.cons_append, List.append_nil, z5, z0, Nat.reduceEqDiff, Nat.reduceLT, Nat.not_lt_zero, decide_true, decide_false, cond_true, cond_false, List.length_cons, List.length_nil, Nat.reduceAdd, Nat.zero_add, Nat.add_zero, Nat.lt_irrefl, bI, bD, deep_net, deepI_net, ids_net, ren_net, deep_why, deepI_why, ids_why, ren_why, take_enc, drop_enc, catI_append, idsL_append, sn_lref, sn_agg, sn_val, snap_whyD, snapAll, List.getElem?_cons_zero, if_true, List.append_assoc]) (ih (r + 1) next (mergeL next 0 out) (by omega) (by rw [Int.pow_succ]; exact hnx) hob2 h)
theorem snap_net (g : Nat → Option Ob) (f : Nat) (l : Net) : snapAll (snap g (f + 1)) (List.map yz l) = some (List.map yz l, []) := by
  induction l with
  | nil => rfl
  | cons o l ih => simp only [List.map_cons, snapAll, ih]; cases o <;> rfl
theorem rounds_netB {es : List Edge} (hes : ∀ e ∈ es, edgeB e) : ∀ (j r : Nat) {now out : Net}, r + j ≤ 5 → netB (2000 ^ r) r now → netB 32000000000000000 5 out → netB 32000000000000000 5 (roundsN es j now out)
  | 0, _, _, _, _, _, h => h
  | j + 1, r, now, out, hr, hn, ho => by
    have hp1 : (1 : Int) ≤ 2000 ^ r := Int.pow_pos (by omega)
    have hp2 : (2000 : Int) ^ r * 2000 ≤ 32000000000000000 := by
      have : r ≤ 4 := by omega
      rcases r with _ | _ | _ | _ | _ | r <;> first | omega | decide
    have hnx := netB_fold hn hp1 hes (xh (2000 ^ r * 2000) (r + 1))
    have hob2 := netB_merge (l := es.foldl (stepE now) emptyN) (i := 0) ho (netB_mono hnx hp2 (by omega)).2
    simp only [roundsN]
    exact rounds_netB hes j (r + 1) (by omega) (by rw [Int.pow_succ]; exact hnx) hob2
theorem roundsN_len {es : List Edge} (hes : ∀ e ∈ es, edgeB e) {j : Nat} {now out : Net} (hj : j ≤ 5) (hn : netB 1 0 now) (ho : netB 32000000000000000 5 out) : (roundsN es j now out).length = 5 :=
  (rounds_netB hes j 0 (by omega) hn ho).1
theorem cfg_glob0 : cfg.glob 0 = some (.agg [I 1, I 1]) := rfl

theorem t72_0 (es : List Edge) (most : Nat) (hes : ∀ e ∈ es, edgeB e) (hlen : es.length ≤ 1000) (hmost : most ≤ 5) : (lim cfg).pure 72 [.sl false (es.map encE) 7 none, I 0, I most] = some (.agg ((chainsF es 0 most).map yz)) := by
  obtain ⟨c, hc⟩ : ∃ c, chainsF es 0 most = c := ⟨_, rfl⟩
  rw [hc]
  unfold chainsF at hc
  refine yR (yG 72) cfn72 rfl (n := 99) rfl ?_
  generalize hF : xf cfg Tryd.f72 = F
  simp only [bW, if_true, Nat.reduceEqDiff, if_false, yJ]
  repeat' first
    | (intro hb; first | cases hb | skip)
    | ((first | apply zB | apply y7)
       · rfl
       · simp (disch := assumption) only [yx, z6, get, z5, z0, Nat.reduceEqDiff, decide_true, decide_false, cond_true, cond_false, yk, zr, zI, yg, zF, Bool.and_true, Bool.true_and, Bool.and_self, Bool.and_false, Bool.false_and, Bool.or_false, Bool.or_true, Bool.false_or, Bool.true_or, Bool.not_true, Bool.not_false, if_true, ye, List.length_cons, List.length_nil, yy, yb, z7, zu, zt, zl, List.getElem?_cons_zero, List.getElem?_cons_succ, Nat.reduceAdd, Nat.zero_add, Nat.add_zero, Nat.one_ne_zero, zT, zs, zp, yC, zG, yK, Ty.isAgg, yB, zX, zR, zm, yh, zh, zV, yj, zg, ofV, zQ, zS, Bool.false_eq_true, if_false, Nat.reduceLeDiff, Nat.reduceLT, List.take, List.drop, List.map_cons, List.map_nil, List.append_nil, List.nil_append, List.cons_append, List.set, unD, yf, snapAll, zy, yi, zJ, zj, yE, z8, zw, ym, zU, Int.toNat_natCast, Int.natCast_nonneg, Int.toNat_zero, Int.le_refl, Nat.reduceMul, Nat.zero_mul, Nat.mul_zero, yl, zc, zW, zq, zb, zf, yA, eqD, zo, zK, yp, zH, zk, Nat.le_refl, Array.toList_map, List.size_toArray, List.getElem?_toArray, Nat.sub_zero, List.length_append, Nat.mul_one, zv, yo, bO, bS, z9, ze, zC, List.replicate, zE, zD, y9, allOk, yu, y8, newRow, yM, List.isEmpty, Bool.not_false, Bool.not_true, decide_eq_true_eq, zM, zP, zO, zz, zx, yc, zi, Option.map_some, Option.map_none, Option.isNone, Option.isSome, Option.getD_none, Option.getD_some, yP, tys, cks, cfg_glob0, Int.reduceToNat, Int.reduceLE, List.drop_zero]
         rfl
       · simp only [zd, yF, yD, z0, z5, Nat.reduceLT, Nat.reduceEqDiff, decide_true, decide_false, cond_true, cond_false]
         rfl
       · rfl
       first
       | (apply y6
          · simp only [za, z0, Nat.reduceLT, decide_true, cond_true, ins]
            rfl
          · simp only [za, z0, Nat.reduceLT, decide_true, cond_true, ins]
            rfl)
       | (apply yt
          · simp only [za, z0, Nat.reduceLT, decide_true, cond_true, ins]
            rfl))
    | ((first | apply zZ | apply y5)
       · rfl
       · simp only [za, z0, Nat.reduceLT, decide_true, cond_true, ins]
         rfl)
    | (apply zY
       · simp only [z6, get, z5, Nat.reduceEqDiff, decide_true, decide_false, cond_true, cond_false])
    | (apply zA
       · simp only [z6, get, z5, Nat.reduceEqDiff, decide_true, decide_false, cond_true, cond_false])
    | (apply yq
       · kernel_rfl
       · kernel_rfl)
    | (simp only [bW, if_true, Nat.reduceEqDiff, if_false])
  refine w_loop (st1 := ⟨99, [(0, .sl false (es.map encE) 7 none), (6, .lref 0 0 5 0), (7, .lref 1 0 5 0), (20, I (most : Nat)), (21, I (0 : Nat))], [(0, ⟨[.agg ((emptyN).map yz)], 5, false⟩), (1, ⟨[.agg ((emptyN.set 0 (some ⟨⟨1, 1⟩, []⟩)).map yz)], 5, false⟩)], 2, 0⟩) lk72_4 (by kernel_rfl) (L72_4 es most _ _ hes hlen hmost most 0 _ emptyN (by omega) (netB_set (xh _ _) (by simp [qB])) (xh _ _) (fun now' => ?_))
  rw [hc]
  have hl5 : c.length = 5 := by rw [← hc]; exact roundsN_len hes (by omega) (netB_set (xh 1 0) (by simp [qB])) (xh _ _)
  have ht5 : List.take 5 (List.map yz c) = List.map yz c := by rw [List.take_of_length_le]; simp [hl5]
  have hd5 : List.drop 5 (List.map yz c) = [] := by rw [List.drop_eq_nil_of_le]; simp [hl5]
  simp only [bW, if_true, Nat.reduceEqDiff, if_false]
  repeat' first
    | (intro hb; first | cases hb | skip)
    | ((first | apply zB | apply y7)
       · rfl
       · simp (disch := assumption) only [yx, z6, get, z5, z0, Nat.reduceEqDiff, decide_true, decide_false, cond_true, cond_false, yk, zr, zI, yg, zF, Bool.and_true, Bool.true_and, Bool.and_self, Bool.and_false, Bool.false_and, Bool.or_false, Bool.or_true, Bool.false_or, Bool.true_or, Bool.not_true, Bool.not_false, if_true, ye, List.length_cons, List.length_nil, yy, yb, z7, zu, zt, zl, List.getElem?_cons_zero, List.getElem?_cons_succ, Nat.reduceAdd, Nat.zero_add, Nat.add_zero, Nat.one_ne_zero, zT, zs, zp, yC, zG, yK, Ty.isAgg, yB, zX, zR, zm, yh, zh, zV, yj, zg, ofV, zQ, zS, Bool.false_eq_true, if_false, Nat.reduceLeDiff, Nat.reduceLT, List.take, List.drop, List.map_cons, List.map_nil, List.append_nil, List.nil_append, List.cons_append, List.set, unD, yf, snapAll, zy, yi, zJ, zj, yE, z8, zw, ym, zU, Int.toNat_natCast, Int.natCast_nonneg, Int.toNat_zero, Int.le_refl, Nat.reduceMul, Nat.zero_mul, Nat.mul_zero, yl, zc, zW, zq, zb, zf, yA, eqD, zo, zK, yp, zH, zk, Nat.le_refl, Array.toList_map, List.size_toArray, List.getElem?_toArray, Nat.sub_zero, List.length_append, Nat.mul_one, zv, yo, bO, bS, z9, ze, zC, List.replicate, zE, zD, y9, allOk, yu, y8, newRow, yM, List.isEmpty, Bool.not_false, Bool.not_true, decide_eq_true_eq, zM, zP, zO, zz, zx, yc, zi, Option.map_some, Option.map_none, Option.isNone, Option.isSome, Option.getD_none, Option.getD_some, yP, tys, cks, hl5, ht5, hd5, List.length_map, allOne_net, Nat.le_refl, List.take_zero, decide_true]
         rfl
       · simp only [zd, yF, yD, z0, z5, Nat.reduceLT, Nat.reduceEqDiff, decide_true, decide_false, cond_true, cond_false]
         rfl
       · rfl
       first
       | (apply y6
          · simp only [za, z0, Nat.reduceLT, decide_true, cond_true, ins]
            rfl
          · simp only [za, z0, Nat.reduceLT, decide_true, cond_true, ins]
            rfl)
       | (apply yt
          · simp only [za, z0, Nat.reduceLT, decide_true, cond_true, ins]
            rfl))
    | ((first | apply zZ | apply y5)
       · rfl
       · simp only [za, z0, Nat.reduceLT, decide_true, cond_true, ins]
         rfl)
    | (apply zY
       · simp only [z6, get, z5, Nat.reduceEqDiff, decide_true, decide_false, cond_true, cond_false])
    | (apply zA
       · simp only [z6, get, z5, Nat.reduceEqDiff, decide_true, decide_false, cond_true, cond_false])
    | (apply yq
       · kernel_rfl
       · kernel_rfl)
    | (simp only [bW, if_true, Nat.reduceEqDiff, if_false])
  subst hF
  all_goals simp only [xf, finF, yI, yX, zl, get, zG, z5, Nat.reduceEqDiff, decide_true, decide_false, cond_true, cond_false, yV, snapAll, zy, List.getElem?_cons_zero, List.getElem?_cons_succ, yK, Ty.isAgg, if_true, if_false, Bool.false_eq_true, Nat.zero_add, Nat.add_zero, List.length_cons, List.length_nil, Nat.reduceAdd, Nat.reduceLeDiff, List.take, List.drop, Bool.true_and, Bool.and_self, Nat.le_refl, List.map_cons, List.length_map, List.append_nil, List.nil_append, List.cons_append, Nat.sub_zero, bO, bS, tys, Tryd.f72, snap_net, ht5, hl5, List.length_map]

theorem t72_1 (es : List Edge) (most : Nat) (hes : ∀ e ∈ es, edgeB e) (hlen : es.length ≤ 1000) (hmost : most ≤ 5) : (lim cfg).pure 72 [.sl false (es.map encE) 7 none, I 1, I most] = some (.agg ((chainsF es 1 most).map yz)) := by
  obtain ⟨c, hc⟩ : ∃ c, chainsF es 1 most = c := ⟨_, rfl⟩
  rw [hc]
  unfold chainsF at hc
  refine yR (yG 72) cfn72 rfl (n := 99) rfl ?_
  generalize hF : xf cfg Tryd.f72 = F
  simp only [bW, if_true, Nat.reduceEqDiff, if_false, yJ]
  repeat' first
    | (intro hb; first | cases hb | skip)
    | ((first | apply zB | apply y7)
       · rfl
       · simp (disch := assumption) only [yx, z6, get, z5, z0, Nat.reduceEqDiff, decide_true, decide_false, cond_true, cond_false, yk, zr, zI, yg, zF, Bool.and_true, Bool.true_and, Bool.and_self, Bool.and_false, Bool.false_and, Bool.or_false, Bool.or_true, Bool.false_or, Bool.true_or, Bool.not_true, Bool.not_false, if_true, ye, List.length_cons, List.length_nil, yy, yb, z7, zu, zt, zl, List.getElem?_cons_zero, List.getElem?_cons_succ, Nat.reduceAdd, Nat.zero_add, Nat.add_zero, Nat.one_ne_zero, zT, zs, zp, yC, zG, yK, Ty.isAgg, yB, zX, zR, zm, yh, zh, zV, yj, zg, ofV, zQ, zS, Bool.false_eq_true, if_false, Nat.reduceLeDiff, Nat.reduceLT, List.take, List.drop, List.map_cons, List.map_nil, List.append_nil, List.nil_append, List.cons_append, List.set, unD, yf, snapAll, zy, yi, zJ, zj, yE, z8, zw, ym, zU, Int.toNat_natCast, Int.natCast_nonneg, Int.toNat_zero, Int.le_refl, Nat.reduceMul, Nat.zero_mul, Nat.mul_zero, yl, zc, zW, zq, zb, zf, yA, eqD, zo, zK, yp, zH, zk, Nat.le_refl, Array.toList_map, List.size_toArray, List.getElem?_toArray, Nat.sub_zero, List.length_append, Nat.mul_one, zv, yo, bO, bS, z9, ze, zC, List.replicate, zE, zD, y9, allOk, yu, y8, newRow, yM, List.isEmpty, Bool.not_false, Bool.not_true, decide_eq_true_eq, zM, zP, zO, zz, zx, yc, zi, Option.map_some, Option.map_none, Option.isNone, Option.isSome, Option.getD_none, Option.getD_some, yP, tys, cks, cfg_glob0, Int.reduceToNat, Int.reduceLE, List.drop_zero]
         rfl
       · simp only [zd, yF, yD, z0, z5, Nat.reduceLT, Nat.reduceEqDiff, decide_true, decide_false, cond_true, cond_false]
         rfl
       · rfl
       first
       | (apply y6
          · simp only [za, z0, Nat.reduceLT, decide_true, cond_true, ins]
            rfl
          · simp only [za, z0, Nat.reduceLT, decide_true, cond_true, ins]
            rfl)
       | (apply yt
          · simp only [za, z0, Nat.reduceLT, decide_true, cond_true, ins]
            rfl))
    | ((first | apply zZ | apply y5)
       · rfl
       · simp only [za, z0, Nat.reduceLT, decide_true, cond_true, ins]
         rfl)
    | (apply zY
       · simp only [z6, get, z5, Nat.reduceEqDiff, decide_true, decide_false, cond_true, cond_false])
    | (apply zA
       · simp only [z6, get, z5, Nat.reduceEqDiff, decide_true, decide_false, cond_true, cond_false])
    | (apply yq
       · kernel_rfl
       · kernel_rfl)
    | (simp only [bW, if_true, Nat.reduceEqDiff, if_false])
  refine w_loop (st1 := ⟨99, [(0, .sl false (es.map encE) 7 none), (6, .lref 0 0 5 0), (7, .lref 1 0 5 0), (20, I (most : Nat)), (21, I (0 : Nat))], [(0, ⟨[.agg ((emptyN).map yz)], 5, false⟩), (1, ⟨[.agg ((emptyN.set 1 (some ⟨⟨1, 1⟩, []⟩)).map yz)], 5, false⟩)], 2, 0⟩) lk72_4 (by kernel_rfl) (L72_4 es most _ _ hes hlen hmost most 0 _ emptyN (by omega) (netB_set (xh _ _) (by simp [qB])) (xh _ _) (fun now' => ?_))
  rw [hc]
  have hl5 : c.length = 5 := by rw [← hc]; exact roundsN_len hes (by omega) (netB_set (xh 1 0) (by simp [qB])) (xh _ _)
  have ht5 : List.take 5 (List.map yz c) = List.map yz c := by rw [List.take_of_length_le]; simp [hl5]
  have hd5 : List.drop 5 (List.map yz c) = [] := by rw [List.drop_eq_nil_of_le]; simp [hl5]
  simp only [bW, if_true, Nat.reduceEqDiff, if_false]
  repeat' first
    | (intro hb; first | cases hb | skip)
    | ((first | apply zB | apply y7)
       · rfl
       · simp (disch := assumption) only [yx, z6, get, z5, z0, Nat.reduceEqDiff, decide_true, decide_false, cond_true, cond_false, yk, zr, zI, yg, zF, Bool.and_true, Bool.true_and, Bool.and_self, Bool.and_false, Bool.false_and, Bool.or_false, Bool.or_true, Bool.false_or, Bool.true_or, Bool.not_true, Bool.not_false, if_true, ye, List.length_cons, List.length_nil, yy, yb, z7, zu, zt, zl, List.getElem?_cons_zero, List.getElem?_cons_succ, Nat.reduceAdd, Nat.zero_add, Nat.add_zero, Nat.one_ne_zero, zT, zs, zp, yC, zG, yK, Ty.isAgg, yB, zX, zR, zm, yh, zh, zV, yj, zg, ofV, zQ, zS, Bool.false_eq_true, if_false, Nat.reduceLeDiff, Nat.reduceLT, List.take, List.drop, List.map_cons, List.map_nil, List.append_nil, List.nil_append, List.cons_append, List.set, unD, yf, snapAll, zy, yi, zJ, zj, yE, z8, zw, ym, zU, Int.toNat_natCast, Int.natCast_nonneg, Int.toNat_zero, Int.le_refl, Nat.reduceMul, Nat.zero_mul, Nat.mul_zero, yl, zc, zW, zq, zb, zf, yA, eqD, zo, zK, yp, zH, zk, Nat.le_refl, Array.toList_map, List.size_toArray, List.getElem?_toArray, Nat.sub_zero, List.length_append, Nat.mul_one, zv, yo, bO, bS, z9, ze, zC, List.replicate, zE, zD, y9, allOk, yu, y8, newRow, yM, List.isEmpty, Bool.not_false, Bool.not_true, decide_eq_true_eq, zM, zP, zO, zz, zx, yc, zi, Option.map_some, Option.map_none, Option.isNone, Option.isSome, Option.getD_none, Option.getD_some, yP, tys, cks, hl5, ht5, hd5, List.length_map, allOne_net, Nat.le_refl, List.take_zero, decide_true]
         rfl
       · simp only [zd, yF, yD, z0, z5, Nat.reduceLT, Nat.reduceEqDiff, decide_true, decide_false, cond_true, cond_false]
         rfl
       · rfl
       first
       | (apply y6
          · simp only [za, z0, Nat.reduceLT, decide_true, cond_true, ins]
            rfl
          · simp only [za, z0, Nat.reduceLT, decide_true, cond_true, ins]
            rfl)
       | (apply yt
          · simp only [za, z0, Nat.reduceLT, decide_true, cond_true, ins]
            rfl))
    | ((first | apply zZ | apply y5)
       · rfl
       · simp only [za, z0, Nat.reduceLT, decide_true, cond_true, ins]
         rfl)
    | (apply zY
       · simp only [z6, get, z5, Nat.reduceEqDiff, decide_true, decide_false, cond_true, cond_false])
    | (apply zA
       · simp only [z6, get, z5, Nat.reduceEqDiff, decide_true, decide_false, cond_true, cond_false])
    | (apply yq
       · kernel_rfl
       · kernel_rfl)
    | (simp only [bW, if_true, Nat.reduceEqDiff, if_false])
  subst hF
  all_goals simp only [xf, finF, yI, yX, zl, get, zG, z5, Nat.reduceEqDiff, decide_true, decide_false, cond_true, cond_false, yV, snapAll, zy, List.getElem?_cons_zero, List.getElem?_cons_succ, yK, Ty.isAgg, if_true, if_false, Bool.false_eq_true, Nat.zero_add, Nat.add_zero, List.length_cons, List.length_nil, Nat.reduceAdd, Nat.reduceLeDiff, List.take, List.drop, Bool.true_and, Bool.and_self, Nat.le_refl, List.map_cons, List.length_map, List.append_nil, List.nil_append, List.cons_append, Nat.sub_zero, bO, bS, tys, Tryd.f72, snap_net, ht5, hl5, List.length_map]

theorem t72_2 (es : List Edge) (most : Nat) (hes : ∀ e ∈ es, edgeB e) (hlen : es.length ≤ 1000) (hmost : most ≤ 5) : (lim cfg).pure 72 [.sl false (es.map encE) 7 none, I 2, I most] = some (.agg ((chainsF es 2 most).map yz)) := by
  obtain ⟨c, hc⟩ : ∃ c, chainsF es 2 most = c := ⟨_, rfl⟩
  rw [hc]
  unfold chainsF at hc
  refine yR (yG 72) cfn72 rfl (n := 99) rfl ?_
  generalize hF : xf cfg Tryd.f72 = F
  simp only [bW, if_true, Nat.reduceEqDiff, if_false, yJ]
  repeat' first
    | (intro hb; first | cases hb | skip)
    | ((first | apply zB | apply y7)
       · rfl
       · simp (disch := assumption) only [yx, z6, get, z5, z0, Nat.reduceEqDiff, decide_true, decide_false, cond_true, cond_false, yk, zr, zI, yg, zF, Bool.and_true, Bool.true_and, Bool.and_self, Bool.and_false, Bool.false_and, Bool.or_false, Bool.or_true, Bool.false_or, Bool.true_or, Bool.not_true, Bool.not_false, if_true, ye, List.length_cons, List.length_nil, yy, yb, z7, zu, zt, zl, List.getElem?_cons_zero, List.getElem?_cons_succ, Nat.reduceAdd, Nat.zero_add, Nat.add_zero, Nat.one_ne_zero, zT, zs, zp, yC, zG, yK, Ty.isAgg, yB, zX, zR, zm, yh, zh, zV, yj, zg, ofV, zQ, zS, Bool.false_eq_true, if_false, Nat.reduceLeDiff, Nat.reduceLT, List.take, List.drop, List.map_cons, List.map_nil, List.append_nil, List.nil_append, List.cons_append, List.set, unD, yf, snapAll, zy, yi, zJ, zj, yE, z8, zw, ym, zU, Int.toNat_natCast, Int.natCast_nonneg, Int.toNat_zero, Int.le_refl, Nat.reduceMul, Nat.zero_mul, Nat.mul_zero, yl, zc, zW, zq, zb, zf, yA, eqD, zo, zK, yp, zH, zk, Nat.le_refl, Array.toList_map, List.size_toArray, List.getElem?_toArray, Nat.sub_zero, List.length_append, Nat.mul_one, zv, yo, bO, bS, z9, ze, zC, List.replicate, zE, zD, y9, allOk, yu, y8, newRow, yM, List.isEmpty, Bool.not_false, Bool.not_true, decide_eq_true_eq, zM, zP, zO, zz, zx, yc, zi, Option.map_some, Option.map_none, Option.isNone, Option.isSome, Option.getD_none, Option.getD_some, yP, tys, cks, cfg_glob0, Int.reduceToNat, Int.reduceLE, List.drop_zero]
         rfl
       · simp only [zd, yF, yD, z0, z5, Nat.reduceLT, Nat.reduceEqDiff, decide_true, decide_false, cond_true, cond_false]
         rfl
       · rfl
       first
       | (apply y6
          · simp only [za, z0, Nat.reduceLT, decide_true, cond_true, ins]
            rfl
          · simp only [za, z0, Nat.reduceLT, decide_true, cond_true, ins]
            rfl)
       | (apply yt
          · simp only [za, z0, Nat.reduceLT, decide_true, cond_true, ins]
            rfl))
    | ((first | apply zZ | apply y5)
       · rfl
       · simp only [za, z0, Nat.reduceLT, decide_true, cond_true, ins]
         rfl)
    | (apply zY
       · simp only [z6, get, z5, Nat.reduceEqDiff, decide_true, decide_false, cond_true, cond_false])
    | (apply zA
       · simp only [z6, get, z5, Nat.reduceEqDiff, decide_true, decide_false, cond_true, cond_false])
    | (apply yq
       · kernel_rfl
       · kernel_rfl)
    | (simp only [bW, if_true, Nat.reduceEqDiff, if_false])
  refine w_loop (st1 := ⟨99, [(0, .sl false (es.map encE) 7 none), (6, .lref 0 0 5 0), (7, .lref 1 0 5 0), (20, I (most : Nat)), (21, I (0 : Nat))], [(0, ⟨[.agg ((emptyN).map yz)], 5, false⟩), (1, ⟨[.agg ((emptyN.set 2 (some ⟨⟨1, 1⟩, []⟩)).map yz)], 5, false⟩)], 2, 0⟩) lk72_4 (by kernel_rfl) (L72_4 es most _ _ hes hlen hmost most 0 _ emptyN (by omega) (netB_set (xh _ _) (by simp [qB])) (xh _ _) (fun now' => ?_))
  rw [hc]
  have hl5 : c.length = 5 := by rw [← hc]; exact roundsN_len hes (by omega) (netB_set (xh 1 0) (by simp [qB])) (xh _ _)
  have ht5 : List.take 5 (List.map yz c) = List.map yz c := by rw [List.take_of_length_le]; simp [hl5]
  have hd5 : List.drop 5 (List.map yz c) = [] := by rw [List.drop_eq_nil_of_le]; simp [hl5]
  simp only [bW, if_true, Nat.reduceEqDiff, if_false]
  repeat' first
    | (intro hb; first | cases hb | skip)
    | ((first | apply zB | apply y7)
       · rfl
       · simp (disch := assumption) only [yx, z6, get, z5, z0, Nat.reduceEqDiff, decide_true, decide_false, cond_true, cond_false, yk, zr, zI, yg, zF, Bool.and_true, Bool.true_and, Bool.and_self, Bool.and_false, Bool.false_and, Bool.or_false, Bool.or_true, Bool.false_or, Bool.true_or, Bool.not_true, Bool.not_false, if_true, ye, List.length_cons, List.length_nil, yy, yb, z7, zu, zt, zl, List.getElem?_cons_zero, List.getElem?_cons_succ, Nat.reduceAdd, Nat.zero_add, Nat.add_zero, Nat.one_ne_zero, zT, zs, zp, yC, zG, yK, Ty.isAgg, yB, zX, zR, zm, yh, zh, zV, yj, zg, ofV, zQ, zS, Bool.false_eq_true, if_false, Nat.reduceLeDiff, Nat.reduceLT, List.take, List.drop, List.map_cons, List.map_nil, List.append_nil, List.nil_append, List.cons_append, List.set, unD, yf, snapAll, zy, yi, zJ, zj, yE, z8, zw, ym, zU, Int.toNat_natCast, Int.natCast_nonneg, Int.toNat_zero, Int.le_refl, Nat.reduceMul, Nat.zero_mul, Nat.mul_zero, yl, zc, zW, zq, zb, zf, yA, eqD, zo, zK, yp, zH, zk, Nat.le_refl, Array.toList_map, List.size_toArray, List.getElem?_toArray, Nat.sub_zero, List.length_append, Nat.mul_one, zv, yo, bO, bS, z9, ze, zC, List.replicate, zE, zD, y9, allOk, yu, y8, newRow, yM, List.isEmpty, Bool.not_false, Bool.not_true, decide_eq_true_eq, zM, zP, zO, zz, zx, yc, zi, Option.map_some, Option.map_none, Option.isNone, Option.isSome, Option.getD_none, Option.getD_some, yP, tys, cks, hl5, ht5, hd5, List.length_map, allOne_net, Nat.le_refl, List.take_zero, decide_true]
         rfl
       · simp only [zd, yF, yD, z0, z5, Nat.reduceLT, Nat.reduceEqDiff, decide_true, decide_false, cond_true, cond_false]
         rfl
       · rfl
       first
       | (apply y6
          · simp only [za, z0, Nat.reduceLT, decide_true, cond_true, ins]
            rfl
          · simp only [za, z0, Nat.reduceLT, decide_true, cond_true, ins]
            rfl)
       | (apply yt
          · simp only [za, z0, Nat.reduceLT, decide_true, cond_true, ins]
            rfl))
    | ((first | apply zZ | apply y5)
       · rfl
       · simp only [za, z0, Nat.reduceLT, decide_true, cond_true, ins]
         rfl)
    | (apply zY
       · simp only [z6, get, z5, Nat.reduceEqDiff, decide_true, decide_false, cond_true, cond_false])
    | (apply zA
       · simp only [z6, get, z5, Nat.reduceEqDiff, decide_true, decide_false, cond_true, cond_false])
    | (apply yq
       · kernel_rfl
       · kernel_rfl)
    | (simp only [bW, if_true, Nat.reduceEqDiff, if_false])
  subst hF
  all_goals simp only [xf, finF, yI, yX, zl, get, zG, z5, Nat.reduceEqDiff, decide_true, decide_false, cond_true, cond_false, yV, snapAll, zy, List.getElem?_cons_zero, List.getElem?_cons_succ, yK, Ty.isAgg, if_true, if_false, Bool.false_eq_true, Nat.zero_add, Nat.add_zero, List.length_cons, List.length_nil, Nat.reduceAdd, Nat.reduceLeDiff, List.take, List.drop, Bool.true_and, Bool.and_self, Nat.le_refl, List.map_cons, List.length_map, List.append_nil, List.nil_append, List.cons_append, Nat.sub_zero, bO, bS, tys, Tryd.f72, snap_net, ht5, hl5, List.length_map]

theorem t72_3 (es : List Edge) (most : Nat) (hes : ∀ e ∈ es, edgeB e) (hlen : es.length ≤ 1000) (hmost : most ≤ 5) : (lim cfg).pure 72 [.sl false (es.map encE) 7 none, I 3, I most] = some (.agg ((chainsF es 3 most).map yz)) := by
  obtain ⟨c, hc⟩ : ∃ c, chainsF es 3 most = c := ⟨_, rfl⟩
  rw [hc]
  unfold chainsF at hc
  refine yR (yG 72) cfn72 rfl (n := 99) rfl ?_
  generalize hF : xf cfg Tryd.f72 = F
  simp only [bW, if_true, Nat.reduceEqDiff, if_false, yJ]
  repeat' first
    | (intro hb; first | cases hb | skip)
    | ((first | apply zB | apply y7)
       · rfl
       · simp (disch := assumption) only [yx, z6, get, z5, z0, Nat.reduceEqDiff, decide_true, decide_false, cond_true, cond_false, yk, zr, zI, yg, zF, Bool.and_true, Bool.true_and, Bool.and_self, Bool.and_false, Bool.false_and, Bool.or_false, Bool.or_true, Bool.false_or, Bool.true_or, Bool.not_true, Bool.not_false, if_true, ye, List.length_cons, List.length_nil, yy, yb, z7, zu, zt, zl, List.getElem?_cons_zero, List.getElem?_cons_succ, Nat.reduceAdd, Nat.zero_add, Nat.add_zero, Nat.one_ne_zero, zT, zs, zp, yC, zG, yK, Ty.isAgg, yB, zX, zR, zm, yh, zh, zV, yj, zg, ofV, zQ, zS, Bool.false_eq_true, if_false, Nat.reduceLeDiff, Nat.reduceLT, List.take, List.drop, List.map_cons, List.map_nil, List.append_nil, List.nil_append, List.cons_append, List.set, unD, yf, snapAll, zy, yi, zJ, zj, yE, z8, zw, ym, zU, Int.toNat_natCast, Int.natCast_nonneg, Int.toNat_zero, Int.le_refl, Nat.reduceMul, Nat.zero_mul, Nat.mul_zero, yl, zc, zW, zq, zb, zf, yA, eqD, zo, zK, yp, zH, zk, Nat.le_refl, Array.toList_map, List.size_toArray, List.getElem?_toArray, Nat.sub_zero, List.length_append, Nat.mul_one, zv, yo, bO, bS, z9, ze, zC, List.replicate, zE, zD, y9, allOk, yu, y8, newRow, yM, List.isEmpty, Bool.not_false, Bool.not_true, decide_eq_true_eq, zM, zP, zO, zz, zx, yc, zi, Option.map_some, Option.map_none, Option.isNone, Option.isSome, Option.getD_none, Option.getD_some, yP, tys, cks, cfg_glob0, Int.reduceToNat, Int.reduceLE, List.drop_zero]
         rfl
       · simp only [zd, yF, yD, z0, z5, Nat.reduceLT, Nat.reduceEqDiff, decide_true, decide_false, cond_true, cond_false]
         rfl
       · rfl
       first
       | (apply y6
          · simp only [za, z0, Nat.reduceLT, decide_true, cond_true, ins]
            rfl
          · simp only [za, z0, Nat.reduceLT, decide_true, cond_true, ins]
            rfl)
       | (apply yt
          · simp only [za, z0, Nat.reduceLT, decide_true, cond_true, ins]
            rfl))
    | ((first | apply zZ | apply y5)
       · rfl
       · simp only [za, z0, Nat.reduceLT, decide_true, cond_true, ins]
         rfl)
    | (apply zY
       · simp only [z6, get, z5, Nat.reduceEqDiff, decide_true, decide_false, cond_true, cond_false])
    | (apply zA
       · simp only [z6, get, z5, Nat.reduceEqDiff, decide_true, decide_false, cond_true, cond_false])
    | (apply yq
       · kernel_rfl
       · kernel_rfl)
    | (simp only [bW, if_true, Nat.reduceEqDiff, if_false])
  refine w_loop (st1 := ⟨99, [(0, .sl false (es.map encE) 7 none), (6, .lref 0 0 5 0), (7, .lref 1 0 5 0), (20, I (most : Nat)), (21, I (0 : Nat))], [(0, ⟨[.agg ((emptyN).map yz)], 5, false⟩), (1, ⟨[.agg ((emptyN.set 3 (some ⟨⟨1, 1⟩, []⟩)).map yz)], 5, false⟩)], 2, 0⟩) lk72_4 (by kernel_rfl) (L72_4 es most _ _ hes hlen hmost most 0 _ emptyN (by omega) (netB_set (xh _ _) (by simp [qB])) (xh _ _) (fun now' => ?_))
  rw [hc]
  have hl5 : c.length = 5 := by rw [← hc]; exact roundsN_len hes (by omega) (netB_set (xh 1 0) (by simp [qB])) (xh _ _)
  have ht5 : List.take 5 (List.map yz c) = List.map yz c := by rw [List.take_of_length_le]; simp [hl5]
  have hd5 : List.drop 5 (List.map yz c) = [] := by rw [List.drop_eq_nil_of_le]; simp [hl5]
  simp only [bW, if_true, Nat.reduceEqDiff, if_false]
  repeat' first
    | (intro hb; first | cases hb | skip)
    | ((first | apply zB | apply y7)
       · rfl
       · simp (disch := assumption) only [yx, z6, get, z5, z0, Nat.reduceEqDiff, decide_true, decide_false, cond_true, cond_false, yk, zr, zI, yg, zF, Bool.and_true, Bool.true_and, Bool.and_self, Bool.and_false, Bool.false_and, Bool.or_false, Bool.or_true, Bool.false_or, Bool.true_or, Bool.not_true, Bool.not_false, if_true, ye, List.length_cons, List.length_nil, yy, yb, z7, zu, zt, zl, List.getElem?_cons_zero, List.getElem?_cons_succ, Nat.reduceAdd, Nat.zero_add, Nat.add_zero, Nat.one_ne_zero, zT, zs, zp, yC, zG, yK, Ty.isAgg, yB, zX, zR, zm, yh, zh, zV, yj, zg, ofV, zQ, zS, Bool.false_eq_true, if_false, Nat.reduceLeDiff, Nat.reduceLT, List.take, List.drop, List.map_cons, List.map_nil, List.append_nil, List.nil_append, List.cons_append, List.set, unD, yf, snapAll, zy, yi, zJ, zj, yE, z8, zw, ym, zU, Int.toNat_natCast, Int.natCast_nonneg, Int.toNat_zero, Int.le_refl, Nat.reduceMul, Nat.zero_mul, Nat.mul_zero, yl, zc, zW, zq, zb, zf, yA, eqD, zo, zK, yp, zH, zk, Nat.le_refl, Array.toList_map, List.size_toArray, List.getElem?_toArray, Nat.sub_zero, List.length_append, Nat.mul_one, zv, yo, bO, bS, z9, ze, zC, List.replicate, zE, zD, y9, allOk, yu, y8, newRow, yM, List.isEmpty, Bool.not_false, Bool.not_true, decide_eq_true_eq, zM, zP, zO, zz, zx, yc, zi, Option.map_some, Option.map_none, Option.isNone, Option.isSome, Option.getD_none, Option.getD_some, yP, tys, cks, hl5, ht5, hd5, List.length_map, allOne_net, Nat.le_refl, List.take_zero, decide_true]
         rfl
       · simp only [zd, yF, yD, z0, z5, Nat.reduceLT, Nat.reduceEqDiff, decide_true, decide_false, cond_true, cond_false]
         rfl
       · rfl
       first
       | (apply y6
          · simp only [za, z0, Nat.reduceLT, decide_true, cond_true, ins]
            rfl
          · simp only [za, z0, Nat.reduceLT, decide_true, cond_true, ins]
            rfl)
       | (apply yt
          · simp only [za, z0, Nat.reduceLT, decide_true, cond_true, ins]
            rfl))
    | ((first | apply zZ | apply y5)
       · rfl
       · simp only [za, z0, Nat.reduceLT, decide_true, cond_true, ins]
         rfl)
    | (apply zY
       · simp only [z6, get, z5, Nat.reduceEqDiff, decide_true, decide_false, cond_true, cond_false])
    | (apply zA
       · simp only [z6, get, z5, Nat.reduceEqDiff, decide_true, decide_false, cond_true, cond_false])
    | (apply yq
       · kernel_rfl
       · kernel_rfl)
    | (simp only [bW, if_true, Nat.reduceEqDiff, if_false])
  subst hF
  all_goals simp only [xf, finF, yI, yX, zl, get, zG, z5, Nat.reduceEqDiff, decide_true, decide_false, cond_true, cond_false, yV, snapAll, zy, List.getElem?_cons_zero, List.getElem?_cons_succ, yK, Ty.isAgg, if_true, if_false, Bool.false_eq_true, Nat.zero_add, Nat.add_zero, List.length_cons, List.length_nil, Nat.reduceAdd, Nat.reduceLeDiff, List.take, List.drop, Bool.true_and, Bool.and_self, Nat.le_refl, List.map_cons, List.length_map, List.append_nil, List.nil_append, List.cons_append, Nat.sub_zero, bO, bS, tys, Tryd.f72, snap_net, ht5, hl5, List.length_map]

theorem t72_4 (es : List Edge) (most : Nat) (hes : ∀ e ∈ es, edgeB e) (hlen : es.length ≤ 1000) (hmost : most ≤ 5) : (lim cfg).pure 72 [.sl false (es.map encE) 7 none, I 4, I most] = some (.agg ((chainsF es 4 most).map yz)) := by
  obtain ⟨c, hc⟩ : ∃ c, chainsF es 4 most = c := ⟨_, rfl⟩
  rw [hc]
  unfold chainsF at hc
  refine yR (yG 72) cfn72 rfl (n := 99) rfl ?_
  generalize hF : xf cfg Tryd.f72 = F
  simp only [bW, if_true, Nat.reduceEqDiff, if_false, yJ]
  repeat' first
    | (intro hb; first | cases hb | skip)
    | ((first | apply zB | apply y7)
       · rfl
       · simp (disch := assumption) only [yx, z6, get, z5, z0, Nat.reduceEqDiff, decide_true, decide_false, cond_true, cond_false, yk, zr, zI, yg, zF, Bool.and_true, Bool.true_and, Bool.and_self, Bool.and_false, Bool.false_and, Bool.or_false, Bool.or_true, Bool.false_or, Bool.true_or, Bool.not_true, Bool.not_false, if_true, ye, List.length_cons, List.length_nil, yy, yb, z7, zu, zt, zl, List.getElem?_cons_zero, List.getElem?_cons_succ, Nat.reduceAdd, Nat.zero_add, Nat.add_zero, Nat.one_ne_zero, zT, zs, zp, yC, zG, yK, Ty.isAgg, yB, zX, zR, zm, yh, zh, zV, yj, zg, ofV, zQ, zS, Bool.false_eq_true, if_false, Nat.reduceLeDiff, Nat.reduceLT, List.take, List.drop, List.map_cons, List.map_nil, List.append_nil, List.nil_append, List.cons_append, List.set, unD, yf, snapAll, zy, yi, zJ, zj, yE, z8, zw, ym, zU, Int.toNat_natCast, Int.natCast_nonneg, Int.toNat_zero, Int.le_refl, Nat.reduceMul, Nat.zero_mul, Nat.mul_zero, yl, zc, zW, zq, zb, zf, yA, eqD, zo, zK, yp, zH, zk, Nat.le_refl, Array.toList_map, List.size_toArray, List.getElem?_toArray, Nat.sub_zero, List.length_append, Nat.mul_one, zv, yo, bO, bS, z9, ze, zC, List.replicate, zE, zD, y9, allOk, yu, y8, newRow, yM, List.isEmpty, Bool.not_false, Bool.not_true, decide_eq_true_eq, zM, zP, zO, zz, zx, yc, zi, Option.map_some, Option.map_none, Option.isNone, Option.isSome, Option.getD_none, Option.getD_some, yP, tys, cks, cfg_glob0, Int.reduceToNat, Int.reduceLE, List.drop_zero]
         rfl
       · simp only [zd, yF, yD, z0, z5, Nat.reduceLT, Nat.reduceEqDiff, decide_true, decide_false, cond_true, cond_false]
         rfl
       · rfl
       first
       | (apply y6
          · simp only [za, z0, Nat.reduceLT, decide_true, cond_true, ins]
            rfl
          · simp only [za, z0, Nat.reduceLT, decide_true, cond_true, ins]
            rfl)
       | (apply yt
          · simp only [za, z0, Nat.reduceLT, decide_true, cond_true, ins]
            rfl))
    | ((first | apply zZ | apply y5)
       · rfl
       · simp only [za, z0, Nat.reduceLT, decide_true, cond_true, ins]
         rfl)
    | (apply zY
       · simp only [z6, get, z5, Nat.reduceEqDiff, decide_true, decide_false, cond_true, cond_false])
    | (apply zA
       · simp only [z6, get, z5, Nat.reduceEqDiff, decide_true, decide_false, cond_true, cond_false])
    | (apply yq
       · kernel_rfl
       · kernel_rfl)
    | (simp only [bW, if_true, Nat.reduceEqDiff, if_false])
  refine w_loop (st1 := ⟨99, [(0, .sl false (es.map encE) 7 none), (6, .lref 0 0 5 0), (7, .lref 1 0 5 0), (20, I (most : Nat)), (21, I (0 : Nat))], [(0, ⟨[.agg ((emptyN).map yz)], 5, false⟩), (1, ⟨[.agg ((emptyN.set 4 (some ⟨⟨1, 1⟩, []⟩)).map yz)], 5, false⟩)], 2, 0⟩) lk72_4 (by kernel_rfl) (L72_4 es most _ _ hes hlen hmost most 0 _ emptyN (by omega) (netB_set (xh _ _) (by simp [qB])) (xh _ _) (fun now' => ?_))
  rw [hc]
  have hl5 : c.length = 5 := by rw [← hc]; exact roundsN_len hes (by omega) (netB_set (xh 1 0) (by simp [qB])) (xh _ _)
  have ht5 : List.take 5 (List.map yz c) = List.map yz c := by rw [List.take_of_length_le]; simp [hl5]
  have hd5 : List.drop 5 (List.map yz c) = [] := by rw [List.drop_eq_nil_of_le]; simp [hl5]
  simp only [bW, if_true, Nat.reduceEqDiff, if_false]
  repeat' first
    | (intro hb; first | cases hb | skip)
    | ((first | apply zB | apply y7)
       · rfl
       · simp (disch := assumption) only [yx, z6, get, z5, z0, Nat.reduceEqDiff, decide_true, decide_false, cond_true, cond_false, yk, zr, zI, yg, zF, Bool.and_true, Bool.true_and, Bool.and_self, Bool.and_false, Bool.false_and, Bool.or_false, Bool.or_true, Bool.false_or, Bool.true_or, Bool.not_true, Bool.not_false, if_true, ye, List.length_cons, List.length_nil, yy, yb, z7, zu, zt, zl, List.getElem?_cons_zero, List.getElem?_cons_succ, Nat.reduceAdd, Nat.zero_add, Nat.add_zero, Nat.one_ne_zero, zT, zs, zp, yC, zG, yK, Ty.isAgg, yB, zX, zR, zm, yh, zh, zV, yj, zg, ofV, zQ, zS, Bool.false_eq_true, if_false, Nat.reduceLeDiff, Nat.reduceLT, List.take, List.drop, List.map_cons, List.map_nil, List.append_nil, List.nil_append, List.cons_append, List.set, unD, yf, snapAll, zy, yi, zJ, zj, yE, z8, zw, ym, zU, Int.toNat_natCast, Int.natCast_nonneg, Int.toNat_zero, Int.le_refl, Nat.reduceMul, Nat.zero_mul, Nat.mul_zero, yl, zc, zW, zq, zb, zf, yA, eqD, zo, zK, yp, zH, zk, Nat.le_refl, Array.toList_map, List.size_toArray, List.getElem?_toArray, Nat.sub_zero, List.length_append, Nat.mul_one, zv, yo, bO, bS, z9, ze, zC, List.replicate, zE, zD, y9, allOk, yu, y8, newRow, yM, List.isEmpty, Bool.not_false, Bool.not_true, decide_eq_true_eq, zM, zP, zO, zz, zx, yc, zi, Option.map_some, Option.map_none, Option.isNone, Option.isSome, Option.getD_none, Option.getD_some, yP, tys, cks, hl5, ht5, hd5, List.length_map, allOne_net, Nat.le_refl, List.take_zero, decide_true]
         rfl
       · simp only [zd, yF, yD, z0, z5, Nat.reduceLT, Nat.reduceEqDiff, decide_true, decide_false, cond_true, cond_false]
         rfl
       · rfl
       first
       | (apply y6
          · simp only [za, z0, Nat.reduceLT, decide_true, cond_true, ins]
            rfl
          · simp only [za, z0, Nat.reduceLT, decide_true, cond_true, ins]
            rfl)
       | (apply yt
          · simp only [za, z0, Nat.reduceLT, decide_true, cond_true, ins]
            rfl))
    | ((first | apply zZ | apply y5)
       · rfl
       · simp only [za, z0, Nat.reduceLT, decide_true, cond_true, ins]
         rfl)
    | (apply zY
       · simp only [z6, get, z5, Nat.reduceEqDiff, decide_true, decide_false, cond_true, cond_false])
    | (apply zA
       · simp only [z6, get, z5, Nat.reduceEqDiff, decide_true, decide_false, cond_true, cond_false])
    | (apply yq
       · kernel_rfl
       · kernel_rfl)
    | (simp only [bW, if_true, Nat.reduceEqDiff, if_false])
  subst hF
  all_goals simp only [xf, finF, yI, yX, zl, get, zG, z5, Nat.reduceEqDiff, decide_true, decide_false, cond_true, cond_false, yV, snapAll, zy, List.getElem?_cons_zero, List.getElem?_cons_succ, yK, Ty.isAgg, if_true, if_false, Bool.false_eq_true, Nat.zero_add, Nat.add_zero, List.length_cons, List.length_nil, Nat.reduceAdd, Nat.reduceLeDiff, List.take, List.drop, Bool.true_and, Bool.and_self, Nat.le_refl, List.map_cons, List.length_map, List.append_nil, List.nil_append, List.cons_append, Nat.sub_zero, bO, bS, tys, Tryd.f72, snap_net, ht5, hl5, List.length_map]

theorem t72 (es : List Edge) (src most : Nat) (hes : ∀ e ∈ es, edgeB e) (hlen : es.length ≤ 1000) (hsrc : src < 5) (hmost : most ≤ 5) : (lim cfg).pure 72 [.sl false (es.map encE) 7 none, I src, I most] = some (.agg ((chainsF es src most).map yz)) := by
  rcases src with _ | _ | _ | _ | _ | src
  · exact t72_0 es most hes hlen hmost
  · exact t72_1 es most hes hlen hmost
  · exact t72_2 es most hes hlen hmost
  · exact t72_3 es most hes hlen hmost
  · exact t72_4 es most hes hlen hmost
  · omega

end Go.VS
/-
  VS, part W2: rows of elements that hold no names; slices that a loop appends to. (A text of this claim's own; nothing of it is trusted.)
-/
namespace Go.VS
open Go

/-- Elements of a size that lead to none of the call's own objects. -/
structure EncOK {α : Type} (sz : Nat) (f : α → D) : Prop where
  snap : ∀ g n x, snap g (n + 2) (f x) = some (f x, [])
  ids : ∀ n x, idsD (n + 2) (f x) = some []
  ren : ∀ ρ n x, renD ρ (n + 2) (f x) = f x
  ok : ∀ x, (f x).okCells = true ∧ (f x).cells.length = sz
section
variable {α : Type} {sz : Nat} {f : α → D} (h : EncOK sz f)
include h
theorem EncOK.snapAll (g : Nat → Option Ob) (n : Nat) (l : List α) : Go.VS.snapAll (Go.VS.snap g (n + 2)) (l.map f) = some (l.map f, []) := by
  induction l with
  | nil => rfl
  | cons x l ih => simp only [List.map_cons, Go.VS.snapAll, ih, h.snap]; rfl
theorem EncOK.idsL (n : Nat) (l : List α) : Go.VS.idsL (idsD (n + 2)) (l.map f) = some [] := by
  induction l with
  | nil => rfl
  | cons x l ih => simp only [List.map_cons, Go.VS.idsL, ih, h.ids]; rfl
theorem EncOK.idsL_app (n : Nat) (l : List α) (b : List D) : Go.VS.idsL (idsD (n + 2)) (l.map f ++ b) = Go.VS.idsL (idsD (n + 2)) b := by
  induction l with
  | nil => rfl
  | cons x l ih =>
    simp only [List.map_cons, List.cons_append, Go.VS.idsL, ih, h.ids]
    cases Go.VS.idsL (idsD (n + 2)) b <;> rfl
theorem EncOK.renL (ρ : Nat → Option Nat) (n : Nat) (l : List α) : (l.map f).map (renD ρ (n + 2)) = l.map f := by
  rw [List.map_map]; exact List.map_congr_left fun x _ => h.ren ρ n x
theorem EncOK.allOk (l : List α) : Go.VS.allOk sz (l.map f) = true := by
  induction l with
  | nil => rfl
  | cons x l ih => simp only [List.map_cons, Go.VS.allOk, ih, (h.ok x).1, (h.ok x).2, decide_true, Bool.and_self]
end
theorem allOk_append {sz : Nat} : ∀ {a b : List D}, allOk sz (a ++ b) = (allOk sz a && allOk sz b)
  | [], b => by simp [allOk]
  | d :: a, b => by simp [allOk, allOk_append (a := a), Bool.and_assoc]

/-- A slice that began as nil and was appended to: as a value, among the objects, and the next free name. -/
def gD (k sz : Nat) {α : Type} (l : List α) : D := match l with | [] => .sl true [] 0 none | _ :: r => .lsl k 0 (r.length + 1) sz none
def gO (k sz : Nat) {α : Type} (f : α → D) (l : List α) : List (Nat × Ob) := match l with | [] => [] | x :: r => [(k, ⟨(x :: r).map f, sz, false⟩)]
def gN (k : Nat) {α : Type} (l : List α) : Nat := match l with | [] => k | _ => k + 1
/-- .. and as a deep value. -/
def gS (sz : Nat) {α : Type} (f : α → D) (l : List α) : D := match l with | [] => .sl true [] 0 none | x :: r => .sl false ((x :: r).map f) sz none
theorem zN {α β : Type} {f : α → β} (r : List α) : List.take r.length (List.map f r) = List.map f r := by rw [List.take_of_length_le]; simp
theorem zn {α β : Type} {f : α → β} (r : List α) (x : β) : List.take (r.length + 1) (List.map f r ++ [x]) = List.map f r ++ [x] := by rw [List.take_of_length_le]; simp
section
variable {t : Ty} {sub : Nat}
theorem pd_agg {cs : List D} : yK t sub (.agg cs) = if t.isAgg then (if sub + t.size ≤ cs.length then some (.agg ((cs.drop sub).take t.size)) else none) else match cs[sub]? with | some c => if c.one then some c else none | none => none := rfl
theorem pd_val {v : Value} : yK t sub (.val v) = if t.isAgg then none else if sub = 0 then (if D.one (.val v) then some (.val v) else none) else none := rfl
theorem pd_sl {nl : Bool} {els : List D} {sz : Nat} {cap : Option Nat} : yK t sub (.sl nl els sz cap) = if t.isAgg then none else if sub = 0 then (if D.one (.sl nl els sz cap) then some (.sl nl els sz cap) else none) else none := rfl
theorem pd_ptr {e : D} : yK t sub (.ptr e) = if t.isAgg then none else if sub = 0 then (if D.one (.ptr e) then some (.ptr e) else none) else none := rfl
theorem pd_lref {o i sz sub' : Nat} : yK t sub (.lref o i sz sub') = if t.isAgg then none else if sub = 0 then (if D.one (.lref o i sz sub') then some (.lref o i sz sub') else none) else none := rfl
theorem pd_lsl {o off len sz : Nat} {cap : Option Nat} : yK t sub (.lsl o off len sz cap) = if t.isAgg then none else if sub = 0 then (if D.one (.lsl o off len sz cap) then some (.lsl o off len sz cap) else none) else none := rfl
theorem pd_fn {f : Fn} {a b : List D} : yK t sub (.fn f a b) = if t.isAgg then none else if sub = 0 then (if D.one (.fn f a b) then some (.fn f a b) else none) else none := rfl
theorem pd_iface {t' : TypeId} {e : D} : yK t sub (.iface t' e) = if t.isAgg then none else if sub = 0 then (if D.one (.iface t' e) then some (.iface t' e) else none) else none := rfl
end
theorem ids_fn {f : Nat} {g : Fn} {a b : List D} : idsD (f + 1) (.fn g a b) = match idsL (idsD f) a, idsL (idsD f) b with | some a, some b => some (a ++ b) | _, _ => none := rfl
theorem ren_fn {ρ : Nat → Option Nat} {f : Nat} {g : Fn} {a b : List D} : renD ρ (f + 1) (.fn g a b) = .fn g (a.map (renD ρ f)) (b.map (renD ρ f)) := rfl
theorem ids_iface {f : Nat} {t : TypeId} {d : D} : idsD (f + 1) (.iface t d) = idsD f d := rfl
theorem ren_iface {ρ : Nat → Option Nat} {f : Nat} {t : TypeId} {d : D} : renD ρ (f + 1) (.iface t d) = .iface t (renD ρ f d) := rfl
set_option linter.defProp false
/-- Several equations in one. -/
def bP := (And.intro (And.intro (And.intro @pd_agg @pd_val) (And.intro @pd_sl @pd_ptr)) (And.intro (And.intro @pd_lref @pd_lsl) (And.intro @pd_fn @pd_iface)))
def bI2 := (And.intro (And.intro @ids_fn @ren_fn) (And.intro @ids_iface @ren_iface))
end Go.VS
namespace Go.VS
open Go Go.Proofs
set_option maxHeartbeats 0
set_option linter.unusedSimpArgs false

theorem ite_nil {b : Bool} : (if b = true then ([] : List Upd) else []) = [] := by cases b <;> rfl
def one1 : Ratio := ⟨1, 1⟩
def clashFrom (es : List Edge) : Nat → Nat → Option Chn
  | 0, _ => none
  | j + 1, i => match (chainsF es i 5)[i]? with
    | some (some c) => if ltR c.q one1 then some c else clashFrom es j (i + 1)
    | _ => clashFrom es j (i + 1)
theorem edge_of_mark {p : Paper} {m : Mark} (h : markOK p m = true) (hs : p.sheets ≤ 4) (i : Nat) : ∀ e ∈ markE m i, edgeB e := by
  simp [markOK, yY, isAxis, isSeen] at h
  intro e he
  simp [markE] at he
  unfold edgeB
  rcases he with rfl | rfl <;> simp only [] <;> omega
theorem edge_of_join {p : Paper} {m : Join} (h : joinOK p m = true) (hs : p.sheets ≤ 4) (i : Nat) : ∀ e ∈ joinE m i, edgeB e := by
  simp [joinOK, yY, isAxis, isSeen] at h
  intro e he
  simp [joinE] at he
  unfold edgeB
  rcases he with rfl | rfl <;> simp only [] <;> omega
theorem marksE_mem (ax : Int) {e : Edge} : ∀ {l : List Mark} {i : Nat}, e ∈ marksE ax l i → ∃ m k, m ∈ l ∧ m.axis = ax ∧ e ∈ markE m k
  | [], _, h => by cases h
  | m :: r, i, h => by
    simp only [marksE, List.mem_append] at h
    rcases h with h | h
    · split at h
      · rename_i hax; exact ⟨m, i, by simp, hax, h⟩
      · cases h
    · obtain ⟨m', k, h1, h2, h3⟩ := marksE_mem ax h
      exact ⟨m', k, List.mem_cons_of_mem _ h1, h2, h3⟩
theorem joinsE_mem (ax : Int) {e : Edge} : ∀ {l : List Join} {i : Nat}, e ∈ joinsE ax l i → ∃ m k, m ∈ l ∧ m.axis = ax ∧ e ∈ joinE m k
  | [], _, h => by cases h
  | m :: r, i, h => by
    simp only [joinsE, List.mem_append] at h
    rcases h with h | h
    · split at h
      · rename_i hax; exact ⟨m, i, by simp, hax, h⟩
      · cases h
    · obtain ⟨m', k, h1, h2, h3⟩ := joinsE_mem ax h
      exact ⟨m', k, List.mem_cons_of_mem _ h1, h2, h3⟩
theorem paperOK_def {p : Paper} (hok : xc p = true) : 1 ≤ p.sheets ∧ p.sheets ≤ 4 ∧ p.marks.length ≤ 24 ∧ p.joins.length ≤ 24 ∧ (∀ m ∈ p.marks, markOK p m = true) ∧ (∀ m ∈ p.joins, joinOK p m = true) := by
  simp only [xc, Bool.and_eq_true, decide_eq_true_eq, List.all_eq_true] at hok
  obtain ⟨⟨⟨⟨⟨o1, o2⟩, o3⟩, o4⟩, o5⟩, o6⟩ := hok
  exact ⟨o1, o2, o3, o4, o5, o6⟩
theorem edgesB {p : Paper} (hok : xc p = true) (ax : Int) : (∀ e ∈ edges p ax, edgeB e) ∧ (edges p ax).length ≤ 1000 := by
  obtain ⟨o1, o2, o3, o4, o5, o6⟩ := paperOK_def hok
  refine ⟨fun e he => ?_, ?_⟩
  · simp only [edges, List.mem_append, List.mem_flatMap, List.mem_range'_1] at he
    rcases he with (⟨i, hi, he⟩ | he) | he
    · simp [sheetE] at he
      unfold edgeB
      rcases he with rfl | rfl <;> simp only [] <;> omega
    · obtain ⟨m, k, h1, _, h2⟩ := marksE_mem ax he
      exact edge_of_mark (o5 m h1) o2 k e h2
    · obtain ⟨m, k, h1, _, h2⟩ := joinsE_mem ax he
      exact edge_of_join (o6 m h1) o2 k e h2
  · have h1 := marksE_len ax p.marks 0
    have h2 := joinsE_len ax p.joins 0
    have h3 := sheetsE_len p.sheets.toNat 0
    simp only [edges, List.length_append]
    omega
theorem chainsF_netB {es : List Edge} (hes : ∀ e ∈ es, edgeB e) {src most : Nat} (hm : most ≤ 5) : netB 32000000000000000 5 (chainsF es src most) :=
  rounds_netB hes most 0 (by omega) (netB_set (xh 1 0) (by simp [qB])) (xh _ _)
theorem cmp_one {m : Int} {n : Nat} {c : Chn} (h : qB m n c) (hm : m ≤ 9223372036854775807) : (lim cfg).pure 75 [.agg [I c.q.n, I c.q.d], .agg [I 1, I 1]] = some (I (cmpR c.q one1)) := by
  obtain ⟨h1, h2, h3, h4, _⟩ := h
  exact t75 _ _ _ _ ⟨by omega, by omega⟩ ⟨by omega, by omega⟩ ⟨by omega, by omega⟩ ⟨by omega, by omega⟩

noncomputable def lp99_3 : Code := x8 [1, 1, 0, 1, 0, 0] (yN Tryd.f99)
theorem lk99_3 : cfg.keep 99 (yT lp99_3) = [5, 13, 14] := by kernel_rfl

theorem L99_3 {F : Exit → St → Option D} (es : List Edge) (N : Nat) (k : List Kt) (x : D) (hes : ∀ e ∈ es, edgeB e) (hlen : es.length ≤ 1000) (hN : N ≤ 5) (hk : ∀ (c : Chn) st, get st.tmps 4 = yz (some c) → yZ cfg (lim cfg) 99 F k .ret st = some (yz (some c))) : ∀ (j i : Nat), i + j = N →
    (clashFrom es j i = none → yZ cfg (lim cfg) 99 F k (.exit 0) ⟨35, [(15, B false), (5, .sl false (es.map encE) 7 none), (13, I N), (14, I (N : Nat))], [], 0, 0⟩ = some x) →
    (∀ c, clashFrom es j i = some c → x = yz (some c)) →
    EvL cfg (lim cfg) 99 F lp99_3 k ⟨35, [(5, .sl false (es.map encE) 7 none), (13, I N), (14, I (i : Nat))], [], 0, 0⟩ = some x := by
  intro j
  induction j with
  | zero =>
    intro i hi h h'
    obtain rfl : i = N := by omega
    refine yw ?_
    try dsimp only [lp99_3, x8, yN, Tryd.f99]
    simp only [bW, if_true, Nat.reduceEqDiff, if_false]
    repeat' first
      | (intro hb; first | cases hb | skip)
      | ((first | apply zB | apply y7)
         · rfl
         · simp (disch := assumption) only [yx, z6, get, z5, z0, Nat.reduceEqDiff, decide_true, decide_false, cond_true, cond_false, yk, zr, zI, yg, zF, Bool.and_true, Bool.true_and, Bool.and_self, Bool.and_false, Bool.false_and, Bool.or_false, Bool.or_true, Bool.false_or, Bool.true_or, Bool.not_true, Bool.not_false, if_true, ye, List.length_cons, List.length_nil, yy, yb, z7, zu, zt, zl, List.getElem?_cons_zero, List.getElem?_cons_succ, Nat.reduceAdd, Nat.zero_add, Nat.add_zero, Nat.one_ne_zero, zT, zs, zp, yC, zG, bP, Ty.isAgg, yB, zX, zR, zm, yh, zh, zV, yj, zg, ofV, zQ, zS, Bool.false_eq_true, if_false, Nat.reduceLeDiff, Nat.reduceLT, List.take, List.drop, List.map_cons, List.map_nil, List.append_nil, List.nil_append, List.cons_append, List.set, unD, yf, snapAll, zy, yi, zJ, zj, yE, z8, zw, ym, zU, Int.toNat_natCast, Int.natCast_nonneg, Int.toNat_zero, Int.le_refl, Nat.reduceMul, Nat.zero_mul, Nat.mul_zero, yl, zc, zW, zq, zb, zf, yA, eqD, zo, zK, yp, zH, zk, Nat.le_refl, Array.toList_map, List.size_toArray, List.getElem?_toArray, Nat.sub_zero, List.length_append, Nat.mul_one, zv, yo, bO, bS, z9, ze, zC, List.replicate, zE, zD, y9, allOk, yu, y8, newRow, yM, List.isEmpty, Bool.not_false, Bool.not_true, decide_eq_true_eq, zM, zP, zO, zz, zx, yc, zi, Option.map_some, Option.map_none, Option.isNone, Option.isSome, Option.getD_none, Option.getD_some, yP, zN, zn, Int.reduceToNat, Int.reduceLE, Int.reduceLT, Int.reduceBNe, Int.reduceBEq, tys, cks, Int.lt_irrefl, decide_false]
           rfl
         · simp only [zd, yF, yD, z0, z5, Nat.reduceLT, Nat.reduceEqDiff, decide_true, decide_false, cond_true, cond_false]
           rfl
         · rfl
         first
         | (apply y6
            · simp only [za, z0, Nat.reduceLT, decide_true, cond_true, ins]
              rfl
            · simp only [za, z0, Nat.reduceLT, decide_true, cond_true, ins]
              rfl)
         | (apply yt
            · simp only [za, z0, Nat.reduceLT, decide_true, cond_true, ins]
              rfl))
      | ((first | apply zZ | apply y5)
         · rfl
         · simp only [za, z0, Nat.reduceLT, decide_true, cond_true, ins]
           rfl)
      | (apply zY
         · simp only [z6, get, z5, Nat.reduceEqDiff, decide_true, decide_false, cond_true, cond_false])
      | (apply zA
         · simp only [z6, get, z5, Nat.reduceEqDiff, decide_true, decide_false, cond_true, cond_false])
      | (apply yq
         · kernel_rfl
         · kernel_rfl)
      | (simp only [bW, if_true, Nat.reduceEqDiff, if_false])
    exact h rfl
  | succ j ih =>
    intro i hi h h'
    have hlt' : ((i : Int) < (N : Int)) = True := by simp; omega
    have hlt5 : (i < 5) = True := by simp; omega
    have hw3 : IntKind.i64.wrap ((i : Int) + 1) = ((i + 1 : Nat) : Int) := by rw [wrap_i64 (by omega) (by omega)]; omega
    have h72 : (lim cfg).pure 72 [.sl false (es.map encE) 7 none, I i, I 5] = some (.agg ((chainsF es i 5).map yz)) := t72 es i 5 hes hlen (by omega) (by omega)
    have hnb := chainsF_netB hes (src := i) (most := 5) (by omega)
    obtain ⟨o, ho⟩ : ∃ o, (chainsF es i 5)[i]? = some o := ⟨_, List.getElem?_eq_getElem (by have := hnb.1; omega)⟩
    have hnet : ((chainsF es i 5).map yz)[i]? = some (yz o) := by rw [List.getElem?_map, ho]; rfl
    simp only [clashFrom, ho] at h h'
    cases o with
    | none =>
      refine yw ?_
      try dsimp only [lp99_3, x8, yN, Tryd.f99]
      simp only [bW, if_true, Nat.reduceEqDiff, if_false]
      repeat' first
        | (intro hb; first | cases hb | skip)
        | ((first | apply zB | apply y7)
           · rfl
           · simp (disch := assumption) only [yx, z6, get, z5, z0, Nat.reduceEqDiff, decide_true, decide_false, cond_true, cond_false, yk, zr, zI, yg, zF, Bool.and_true, Bool.true_and, Bool.and_self, Bool.and_false, Bool.false_and, Bool.or_false, Bool.or_true, Bool.false_or, Bool.true_or, Bool.not_true, Bool.not_false, if_true, ye, List.length_cons, List.length_nil, yy, yb, z7, zu, zt, zl, List.getElem?_cons_zero, List.getElem?_cons_succ, Nat.reduceAdd, Nat.zero_add, Nat.add_zero, Nat.one_ne_zero, zT, zs, zp, yC, zG, bP, Ty.isAgg, yB, zX, zR, zm, yh, zh, zV, yj, zg, ofV, zQ, zS, Bool.false_eq_true, if_false, Nat.reduceLeDiff, Nat.reduceLT, List.take, List.drop, List.map_cons, List.map_nil, List.append_nil, List.nil_append, List.cons_append, List.set, unD, yf, snapAll, zy, yi, zJ, zj, yE, z8, zw, ym, zU, Int.toNat_natCast, Int.natCast_nonneg, Int.toNat_zero, Int.le_refl, Nat.reduceMul, Nat.zero_mul, Nat.mul_zero, yl, zc, zW, zq, zb, zf, yA, eqD, zo, zK, yp, zH, zk, Nat.le_refl, Array.toList_map, List.size_toArray, List.getElem?_toArray, Nat.sub_zero, List.length_append, Nat.mul_one, zv, yo, bO, bS, z9, ze, zC, List.replicate, zE, zD, y9, allOk, yu, y8, newRow, yM, List.isEmpty, Bool.not_false, Bool.not_true, decide_eq_true_eq, zM, zP, zO, zz, zx, yc, zi, Option.map_some, Option.map_none, Option.isNone, Option.isSome, Option.getD_none, Option.getD_some, yP, zN, zn, Int.reduceToNat, Int.reduceLE, Int.reduceLT, Int.reduceBNe, Int.reduceBEq, tys, cks, hlt', h72, hnet, yz, encOC_one, cmp_lt, hw3, cfg_glob0, Int.toNat_natCast, Int.natCast_nonneg, hlt5, decide_true]
             rfl
           · simp only [zd, yF, yD, z0, z5, Nat.reduceLT, Nat.reduceEqDiff, decide_true, decide_false, cond_true, cond_false]
             rfl
           · rfl
           first
           | (apply y6
              · simp only [za, z0, Nat.reduceLT, decide_true, cond_true, ins]
                rfl
              · simp only [za, z0, Nat.reduceLT, decide_true, cond_true, ins]
                rfl)
           | (apply yt
              · simp only [za, z0, Nat.reduceLT, decide_true, cond_true, ins]
                rfl))
        | ((first | apply zZ | apply y5)
           · rfl
           · simp only [za, z0, Nat.reduceLT, decide_true, cond_true, ins]
             rfl)
        | (apply zY
           · simp only [z6, get, z5, Nat.reduceEqDiff, decide_true, decide_false, cond_true, cond_false])
        | (apply zA
           · simp only [z6, get, z5, Nat.reduceEqDiff, decide_true, decide_false, cond_true, cond_false])
        | (apply yq
           · kernel_rfl
           · kernel_rfl)
        | (simp only [bW, if_true, Nat.reduceEqDiff, if_false])
      simp only [] at h h'
      exact x7 (st1 := ⟨35, [(5, .sl false (es.map encE) 7 none), (13, I N), (14, I (i + 1 : Nat))], [], 0, 0⟩) lk99_3 (by kernel_rfl) (ih (i + 1) (by omega) h h')
    | some c =>
      have h75 := cmp_one (hnb.2 c (List.mem_of_getElem? ho)) (by omega)
      refine yw ?_
      try dsimp only [lp99_3, x8, yN, Tryd.f99]
      simp only [bW, if_true, Nat.reduceEqDiff, if_false]
      repeat' first
        | (intro hb; first | cases hb | skip)
        | ((first | apply zB | apply y7)
           · rfl
           · simp (disch := assumption) only [yx, z6, get, z5, z0, Nat.reduceEqDiff, decide_true, decide_false, cond_true, cond_false, yk, zr, zI, yg, zF, Bool.and_true, Bool.true_and, Bool.and_self, Bool.and_false, Bool.false_and, Bool.or_false, Bool.or_true, Bool.false_or, Bool.true_or, Bool.not_true, Bool.not_false, if_true, ye, List.length_cons, List.length_nil, yy, yb, z7, zu, zt, zl, List.getElem?_cons_zero, List.getElem?_cons_succ, Nat.reduceAdd, Nat.zero_add, Nat.add_zero, Nat.one_ne_zero, zT, zs, zp, yC, zG, bP, Ty.isAgg, yB, zX, zR, zm, yh, zh, zV, yj, zg, ofV, zQ, zS, Bool.false_eq_true, if_false, Nat.reduceLeDiff, Nat.reduceLT, List.take, List.drop, List.map_cons, List.map_nil, List.append_nil, List.nil_append, List.cons_append, List.set, unD, yf, snapAll, zy, yi, zJ, zj, yE, z8, zw, ym, zU, Int.toNat_natCast, Int.natCast_nonneg, Int.toNat_zero, Int.le_refl, Nat.reduceMul, Nat.zero_mul, Nat.mul_zero, yl, zc, zW, zq, zb, zf, yA, eqD, zo, zK, yp, zH, zk, Nat.le_refl, Array.toList_map, List.size_toArray, List.getElem?_toArray, Nat.sub_zero, List.length_append, Nat.mul_one, zv, yo, bO, bS, z9, ze, zC, List.replicate, zE, zD, y9, allOk, yu, y8, newRow, yM, List.isEmpty, Bool.not_false, Bool.not_true, decide_eq_true_eq, zM, zP, zO, zz, zx, yc, zi, Option.map_some, Option.map_none, Option.isNone, Option.isSome, Option.getD_none, Option.getD_some, yP, zN, zn, Int.reduceToNat, Int.reduceLE, Int.reduceLT, Int.reduceBNe, Int.reduceBEq, tys, cks, hlt', h72, hnet, yz, encOC_one, h75, cmp_lt, hw3, cfg_glob0, Int.toNat_natCast, Int.natCast_nonneg, hlt5, decide_true]
             rfl
           · simp only [zd, yF, yD, z0, z5, Nat.reduceLT, Nat.reduceEqDiff, decide_true, decide_false, cond_true, cond_false]
             rfl
           · rfl
           first
           | (apply y6
              · simp only [za, z0, Nat.reduceLT, decide_true, cond_true, ins]
                rfl
              · simp only [za, z0, Nat.reduceLT, decide_true, cond_true, ins]
                rfl)
           | (apply yt
              · simp only [za, z0, Nat.reduceLT, decide_true, cond_true, ins]
                rfl))
        | ((first | apply zZ | apply y5)
           · rfl
           · simp only [za, z0, Nat.reduceLT, decide_true, cond_true, ins]
             rfl)
        | (apply zY
           · simp only [z6, get, z5, Nat.reduceEqDiff, decide_true, decide_false, cond_true, cond_false])
        | (apply zA
           · simp only [z6, get, z5, Nat.reduceEqDiff, decide_true, decide_false, cond_true, cond_false])
        | (apply yq
           · kernel_rfl
           · kernel_rfl)
        | (simp only [bW, if_true, Nat.reduceEqDiff, if_false])
      · have hx := h' c (by simp only [hb, if_true])
        rw [hx]; exact hk c _ rfl
      · simp only [hb, Bool.false_eq_true, if_false] at h h'
        exact x7 (st1 := ⟨35, [(5, .sl false (es.map encE) 7 none), (13, I N), (14, I (i + 1 : Nat))], [], 0, 0⟩) lk99_3 (by kernel_rfl) (ih (i + 1) (by omega) h h')
def clashA (p : Paper) (ax : Int) : Option Chn := clashFrom (edges p ax) (1 + p.sheets).toNat 0
theorem snap_enc (g : Nat → Option Ob) (f : Nat) (o : Option Chn) : snap g (f + 3) (yz o) = some (yz o, []) := by
  cases o <;> rfl
theorem t99 (p : Paper) (ax : Int) (hwf : p.wf) (hok : xc p = true) : (lim cfg).pure 99 [yW p, I ax] = some (yz (clashA p ax)) := by
  have h68 := t68 p ax hwf hok
  obtain ⟨o1, o2, _⟩ := paperOK_def hok
  obtain ⟨hes, hlen⟩ := edgesB hok ax
  obtain ⟨N, hN⟩ := Int.eq_ofNat_of_zero_le (show 0 ≤ 1 + p.sheets by omega)
  have hw : IntKind.i64.wrap (1 + p.sheets) = (N : Int) := by rw [wrap_i64 (by omega) (by omega), hN]
  have hcl : clashA p ax = clashFrom (edges p ax) N 0 := by unfold clashA; rw [hN]; rfl
  rw [hcl]
  refine yR (yG 99) cfn99 rfl (n := 35) rfl ?_
  generalize hF : xf cfg Tryd.f99 = F
  simp only [bW, if_true, Nat.reduceEqDiff, if_false, yJ]
  repeat' first
    | (intro hb; first | cases hb | skip)
    | ((first | apply zB | apply y7)
       · rfl
       · simp (disch := assumption) only [yx, z6, get, z5, z0, Nat.reduceEqDiff, decide_true, decide_false, cond_true, cond_false, yk, zr, zI, yg, zF, Bool.and_true, Bool.true_and, Bool.and_self, Bool.and_false, Bool.false_and, Bool.or_false, Bool.or_true, Bool.false_or, Bool.true_or, Bool.not_true, Bool.not_false, if_true, ye, List.length_cons, List.length_nil, yy, yb, z7, zu, zt, zl, List.getElem?_cons_zero, List.getElem?_cons_succ, Nat.reduceAdd, Nat.zero_add, Nat.add_zero, Nat.one_ne_zero, zT, zs, zp, yC, zG, bP, Ty.isAgg, yB, zX, zR, zm, yh, zh, zV, yj, zg, ofV, zQ, zS, Bool.false_eq_true, if_false, Nat.reduceLeDiff, Nat.reduceLT, List.take, List.drop, List.map_cons, List.map_nil, List.append_nil, List.nil_append, List.cons_append, List.set, unD, yf, snapAll, zy, yi, zJ, zj, yE, z8, zw, ym, zU, Int.toNat_natCast, Int.natCast_nonneg, Int.toNat_zero, Int.le_refl, Nat.reduceMul, Nat.zero_mul, Nat.mul_zero, yl, zc, zW, zq, zb, zf, yA, eqD, zo, zK, yp, zH, zk, Nat.le_refl, Array.toList_map, List.size_toArray, List.getElem?_toArray, Nat.sub_zero, List.length_append, Nat.mul_one, zv, yo, bO, bS, z9, ze, zC, List.replicate, zE, zD, y9, allOk, yu, y8, newRow, yM, List.isEmpty, Bool.not_false, Bool.not_true, decide_eq_true_eq, zM, zP, zO, zz, zx, yc, zi, Option.map_some, Option.map_none, Option.isNone, Option.isSome, Option.getD_none, Option.getD_some, yP, zN, zn, Int.reduceToNat, Int.reduceLE, Int.reduceLT, Int.reduceBNe, Int.reduceBEq, tys, cks, h68, hw]
         rfl
       · simp only [zd, yF, yD, z0, z5, Nat.reduceLT, Nat.reduceEqDiff, decide_true, decide_false, cond_true, cond_false]
         rfl
       · rfl
       first
       | (apply y6
          · simp only [za, z0, Nat.reduceLT, decide_true, cond_true, ins]
            rfl
          · simp only [za, z0, Nat.reduceLT, decide_true, cond_true, ins]
            rfl)
       | (apply yt
          · simp only [za, z0, Nat.reduceLT, decide_true, cond_true, ins]
            rfl))
    | ((first | apply zZ | apply y5)
       · rfl
       · simp only [za, z0, Nat.reduceLT, decide_true, cond_true, ins]
         rfl)
    | (apply zY
       · simp only [z6, get, z5, Nat.reduceEqDiff, decide_true, decide_false, cond_true, cond_false])
    | (apply zA
       · simp only [z6, get, z5, Nat.reduceEqDiff, decide_true, decide_false, cond_true, cond_false])
    | (apply yq
       · kernel_rfl
       · kernel_rfl)
    | (simp only [bW, if_true, Nat.reduceEqDiff, if_false])
  have hend : ∀ o st, get st.tmps 4 = yz o → F .ret st = some (yz o) := by
    rintro o st hd
    subst hF
    simp only [xf, finF, yI, yX, zl, get, zG, z5, Nat.reduceEqDiff, decide_true, decide_false, cond_true, cond_false, yV, snapAll, zy, List.getElem?_cons_zero, List.getElem?_cons_succ, bP, Ty.isAgg, if_true, if_false, Bool.false_eq_true, Nat.zero_add, Nat.add_zero, List.length_cons, List.length_nil, Nat.reduceAdd, Nat.reduceLeDiff, List.take, List.drop, Bool.true_and, Bool.and_self, Nat.le_refl, List.map_cons, List.length_map, List.append_nil, List.nil_append, List.cons_append, Nat.sub_zero, bO, bS, tys, Tryd.f99, hd, snap_enc]
  refine w_loop (st1 := ⟨35, [(5, .sl false ((edges p ax).map encE) 7 none), (13, I N), (14, I (0 : Nat))], [], 0, 0⟩) lk99_3 (by kernel_rfl) (L99_3 (edges p ax) N _ _ hes hlen (by omega) (fun c st hd => ?_) N 0 (by omega) (fun hn => ?_) (fun c hc => by rw [hc]))
  · simp only [bW, if_true, Nat.reduceEqDiff, if_false]
    exact hend (some c) st hd
  · rw [hn]
    simp only [bW, if_true, Nat.reduceEqDiff, if_false]
    repeat' first
      | (intro hb; first | cases hb | skip)
      | ((first | apply zB | apply y7)
         · rfl
         · simp (disch := assumption) only [yx, z6, get, z5, z0, Nat.reduceEqDiff, decide_true, decide_false, cond_true, cond_false, yk, zr, zI, yg, zF, Bool.and_true, Bool.true_and, Bool.and_self, Bool.and_false, Bool.false_and, Bool.or_false, Bool.or_true, Bool.false_or, Bool.true_or, Bool.not_true, Bool.not_false, if_true, ye, List.length_cons, List.length_nil, yy, yb, z7, zu, zt, zl, List.getElem?_cons_zero, List.getElem?_cons_succ, Nat.reduceAdd, Nat.zero_add, Nat.add_zero, Nat.one_ne_zero, zT, zs, zp, yC, zG, bP, Ty.isAgg, yB, zX, zR, zm, yh, zh, zV, yj, zg, ofV, zQ, zS, Bool.false_eq_true, if_false, Nat.reduceLeDiff, Nat.reduceLT, List.take, List.drop, List.map_cons, List.map_nil, List.append_nil, List.nil_append, List.cons_append, List.set, unD, yf, snapAll, zy, yi, zJ, zj, yE, z8, zw, ym, zU, Int.toNat_natCast, Int.natCast_nonneg, Int.toNat_zero, Int.le_refl, Nat.reduceMul, Nat.zero_mul, Nat.mul_zero, yl, zc, zW, zq, zb, zf, yA, eqD, zo, zK, yp, zH, zk, Nat.le_refl, Array.toList_map, List.size_toArray, List.getElem?_toArray, Nat.sub_zero, List.length_append, Nat.mul_one, zv, yo, bO, bS, z9, ze, zC, List.replicate, zE, zD, y9, allOk, yu, y8, newRow, yM, List.isEmpty, Bool.not_false, Bool.not_true, decide_eq_true_eq, zM, zP, zO, zz, zx, yc, zi, Option.map_some, Option.map_none, Option.isNone, Option.isSome, Option.getD_none, Option.getD_some, yP, zN, zn, Int.reduceToNat, Int.reduceLE, Int.reduceLT, Int.reduceBNe, Int.reduceBEq, tys, cks]
           rfl
         · simp only [zd, yF, yD, z0, z5, Nat.reduceLT, Nat.reduceEqDiff, decide_true, decide_false, cond_true, cond_false]
           rfl
         · rfl
         first
         | (apply y6
            · simp only [za, z0, Nat.reduceLT, decide_true, cond_true, ins]
              rfl
            · simp only [za, z0, Nat.reduceLT, decide_true, cond_true, ins]
              rfl)
         | (apply yt
            · simp only [za, z0, Nat.reduceLT, decide_true, cond_true, ins]
              rfl))
      | ((first | apply zZ | apply y5)
         · rfl
         · simp only [za, z0, Nat.reduceLT, decide_true, cond_true, ins]
           rfl)
      | (apply zY
         · simp only [z6, get, z5, Nat.reduceEqDiff, decide_true, decide_false, cond_true, cond_false])
      | (apply zA
         · simp only [z6, get, z5, Nat.reduceEqDiff, decide_true, decide_false, cond_true, cond_false])
      | (apply yq
         · kernel_rfl
         · kernel_rfl)
      | (simp only [bW, if_true, Nat.reduceEqDiff, if_false])
    exact hend none _ rfl

theorem t79 (p : Paper) (hwf : p.wf) (hok : xc p = true) : (lim cfg).pure 79 [yW p] = some (B ((clashA p 0).isNone && (clashA p 1).isNone)) := by
  have h0 := t99 p 0 hwf hok
  have h1 := t99 p 1 hwf hok
  cases hc0 : clashA p 0 <;> cases hc1 : clashA p 1 <;> rw [hc0] at h0 <;> rw [hc1] at h1
  all_goals
    refine yR (yG 79) cfn79 rfl (n := 11) rfl ?_
    simp only [bW, if_true, Nat.reduceEqDiff, if_false, yJ]
    repeat' first
      | (intro hb; first | cases hb | skip)
      | ((first | apply zB | apply y7)
         · rfl
         · simp (disch := assumption) only [yx, z6, get, z5, z0, Nat.reduceEqDiff, decide_true, decide_false, cond_true, cond_false, yk, zr, zI, yg, zF, Bool.and_true, Bool.true_and, Bool.and_self, Bool.and_false, Bool.false_and, Bool.or_false, Bool.or_true, Bool.false_or, Bool.true_or, Bool.not_true, Bool.not_false, if_true, ye, List.length_cons, List.length_nil, yy, yb, z7, zu, zt, zl, List.getElem?_cons_zero, List.getElem?_cons_succ, Nat.reduceAdd, Nat.zero_add, Nat.add_zero, Nat.one_ne_zero, zT, zs, zp, yC, zG, bP, Ty.isAgg, yB, zX, zR, zm, yh, zh, zV, yj, zg, ofV, zQ, zS, Bool.false_eq_true, if_false, Nat.reduceLeDiff, Nat.reduceLT, List.take, List.drop, List.map_cons, List.map_nil, List.append_nil, List.nil_append, List.cons_append, List.set, unD, yf, snapAll, zy, yi, zJ, zj, yE, z8, zw, ym, zU, Int.toNat_natCast, Int.natCast_nonneg, Int.toNat_zero, Int.le_refl, Nat.reduceMul, Nat.zero_mul, Nat.mul_zero, yl, zc, zW, zq, zb, zf, yA, eqD, zo, zK, yp, zH, zk, Nat.le_refl, Array.toList_map, List.size_toArray, List.getElem?_toArray, Nat.sub_zero, List.length_append, Nat.mul_one, zv, yo, bO, bS, z9, ze, zC, List.replicate, zE, zD, y9, allOk, yu, y8, newRow, yM, List.isEmpty, Bool.not_false, Bool.not_true, decide_eq_true_eq, zM, zP, zO, zz, zx, yc, zi, Option.map_some, Option.map_none, Option.isNone, Option.isSome, Option.getD_none, Option.getD_some, yP, zN, zn, Int.reduceToNat, Int.reduceLE, Int.reduceLT, Int.reduceBNe, Int.reduceBEq, tys, cks, h0, h1, yz, Option.isNone]
           rfl
         · simp only [zd, yF, yD, z0, z5, Nat.reduceLT, Nat.reduceEqDiff, decide_true, decide_false, cond_true, cond_false]
           rfl
         · rfl
         first
         | (apply y6
            · simp only [za, z0, Nat.reduceLT, decide_true, cond_true, ins]
              rfl
            · simp only [za, z0, Nat.reduceLT, decide_true, cond_true, ins]
              rfl)
         | (apply yt
            · simp only [za, z0, Nat.reduceLT, decide_true, cond_true, ins]
              rfl))
      | ((first | apply zZ | apply y5)
         · rfl
         · simp only [za, z0, Nat.reduceLT, decide_true, cond_true, ins]
           rfl)
      | (apply zY
         · simp only [z6, get, z5, Nat.reduceEqDiff, decide_true, decide_false, cond_true, cond_false])
      | (apply zA
         · simp only [z6, get, z5, Nat.reduceEqDiff, decide_true, decide_false, cond_true, cond_false])
      | (apply yq
         · kernel_rfl
         · kernel_rfl)
      | (simp only [bW, if_true, Nat.reduceEqDiff, if_false])
    all_goals first | done | (simp only [xf, finF, yI, yX, zl, get, zG, z5, Nat.reduceEqDiff, decide_true, decide_false, cond_true, cond_false, yV, snapAll, zy, List.getElem?_cons_zero, List.getElem?_cons_succ, bP, Ty.isAgg, if_true, if_false, Bool.false_eq_true, Nat.zero_add, Nat.add_zero, List.length_cons, List.length_nil, Nat.reduceAdd, Nat.reduceLeDiff, List.take, List.drop, Bool.true_and, Bool.and_self, Nat.le_refl, List.map_cons, List.length_map, List.append_nil, List.nil_append, List.cons_append, Nat.sub_zero, bO, bS, tys, Tryd.f79, Option.isNone, Bool.and_true, Bool.and_false, Bool.and_self]; done) | (simp only [xf, finF, yI, yX, zl, get, zG, z5, Nat.reduceEqDiff, decide_true, decide_false, cond_true, cond_false, yV, snapAll, zy, List.getElem?_cons_zero, List.getElem?_cons_succ, bP, Ty.isAgg, if_true, if_false, Bool.false_eq_true, Nat.zero_add, Nat.add_zero, List.length_cons, List.length_nil, Nat.reduceAdd, Nat.reduceLeDiff, List.take, List.drop, Bool.true_and, Bool.and_self, Nat.le_refl, List.map_cons, List.length_map, List.append_nil, List.nil_append, List.cons_append, Nat.sub_zero, bO, bS, tys, Tryd.f79]; rfl)


end Go.VS
namespace Go.VS
open Go Go.Proofs
set_option maxHeartbeats 0
set_option linter.unusedSimpArgs false

theorem t63' (p : Paper) (s : Int) : (lim cfg).pure 63 [yW p, I s] = some (B (yY p s)) := t63 _ _ _ _ _ s
theorem t64' (x : Int) : (lim cfg).pure 64 [I x] = some (B (isAxis x)) := t64 x
def namedF (p : Paper) (ax : Int) (ss : List Int) : Int := if ss.all (yY p) && isAxis ax then 0 else 1
def possibleF (p : Paper) : Bool := (clashA p 0).isNone && (clashA p 1).isNone
def knownF (p : Paper) (ax : Int) (ss : List Int) : Int := if xc p then (if possibleF p then namedF p ax ss else 31) else 30

noncomputable def lp95_2 : Code := x8 [1, 0, 1, 0, 0] (yN Tryd.f95)
theorem lk95_2 : cfg.keep 95 (yT lp95_2) = [1, 3, 9, 10, 11] := by kernel_rfl

theorem L95_2 {F : Exit → St → Option D} (p : Paper) (ax : Int) (nl : Bool) (ss : List Int) (k : List Kt) (x : D) (sz : Nat) (hsz : nl = false → sz = 1) (hnl : nl = true → ss = []) (hlen : ss.length ≤ 9223372036854775807) (hk : ∀ st, get st.tmps 6 = I 1 → yZ cfg (lim cfg) 95 F k .ret st = some (I 1)) : ∀ (rest : List Int) (i : Nat), ss.drop i = rest → i ≤ ss.length →
    (rest.all (yY p) = true → yZ cfg (lim cfg) 95 F k (.exit 0) ⟨23, [(12, B false), (1, I ax), (3, .lref 0 0 3 0), (9, .sl nl (ss.map I) sz none), (10, I ss.length), (11, I (ss.length : Nat))], [(0, ⟨[yW p], 3, false⟩)], 1, 0⟩ = some x) →
    (rest.all (yY p) = false → x = I 1) →
    EvL cfg (lim cfg) 95 F lp95_2 k ⟨23, [(1, I ax), (3, .lref 0 0 3 0), (9, .sl nl (ss.map I) sz none), (10, I ss.length), (11, I (i : Nat))], [(0, ⟨[yW p], 3, false⟩)], 1, 0⟩ = some x := by
  intro rest
  induction rest with
  | nil =>
    intro i hd hi h h'
    have hi' : i = ss.length := by
      have := List.drop_eq_nil_iff.1 hd
      omega
    subst hi'
    refine yw ?_
    try dsimp only [lp95_2, x8, yN, Tryd.f95]
    simp only [bW, if_true, Nat.reduceEqDiff, if_false]
    repeat' first
      | (intro hb; first | cases hb | skip)
      | ((first | apply zB | apply y7)
         · rfl
         · simp (disch := assumption) only [yx, z6, get, z5, z0, Nat.reduceEqDiff, decide_true, decide_false, cond_true, cond_false, yk, zr, zI, yg, zF, Bool.and_true, Bool.true_and, Bool.and_self, Bool.and_false, Bool.false_and, Bool.or_false, Bool.or_true, Bool.false_or, Bool.true_or, Bool.not_true, Bool.not_false, if_true, ye, List.length_cons, List.length_nil, yy, yb, z7, zu, zt, zl, List.getElem?_cons_zero, List.getElem?_cons_succ, Nat.reduceAdd, Nat.zero_add, Nat.add_zero, Nat.one_ne_zero, zT, zs, zp, yC, zG, bP, Ty.isAgg, yB, zX, zR, zm, yh, zh, zV, yj, zg, ofV, zQ, zS, Bool.false_eq_true, if_false, Nat.reduceLeDiff, Nat.reduceLT, List.take, List.drop, List.map_cons, List.map_nil, List.append_nil, List.nil_append, List.cons_append, List.set, unD, yf, snapAll, zy, yi, zJ, zj, yE, z8, zw, ym, zU, Int.toNat_natCast, Int.natCast_nonneg, Int.toNat_zero, Int.le_refl, Nat.reduceMul, Nat.zero_mul, Nat.mul_zero, yl, zc, zW, zq, zb, zf, yA, eqD, zo, zK, yp, zH, zk, Nat.le_refl, Array.toList_map, List.size_toArray, List.getElem?_toArray, Nat.sub_zero, List.length_append, Nat.mul_one, zv, yo, bO, bS, z9, ze, zC, List.replicate, zE, zD, y9, allOk, yu, y8, newRow, yM, List.isEmpty, Bool.not_false, Bool.not_true, decide_eq_true_eq, zM, zP, zO, zz, zx, yc, zi, Option.map_some, Option.map_none, Option.isNone, Option.isSome, Option.getD_none, Option.getD_some, yP, zN, zn, Int.reduceToNat, Int.reduceLE, Int.reduceLT, Int.reduceBNe, Int.reduceBEq, tys, cks, Int.lt_irrefl, decide_false]
           rfl
         · simp only [zd, yF, yD, z0, z5, Nat.reduceLT, Nat.reduceEqDiff, decide_true, decide_false, cond_true, cond_false]
           rfl
         · rfl
         first
         | (apply y6
            · simp only [za, z0, Nat.reduceLT, decide_true, cond_true, ins]
              rfl
            · simp only [za, z0, Nat.reduceLT, decide_true, cond_true, ins]
              rfl)
         | (apply yt
            · simp only [za, z0, Nat.reduceLT, decide_true, cond_true, ins]
              rfl))
      | ((first | apply zZ | apply y5)
         · rfl
         · simp only [za, z0, Nat.reduceLT, decide_true, cond_true, ins]
           rfl)
      | (apply zY
         · simp only [z6, get, z5, Nat.reduceEqDiff, decide_true, decide_false, cond_true, cond_false])
      | (apply zA
         · simp only [z6, get, z5, Nat.reduceEqDiff, decide_true, decide_false, cond_true, cond_false])
      | (apply yq
         · kernel_rfl
         · kernel_rfl)
      | (simp only [bW, if_true, Nat.reduceEqDiff, if_false])
    exact h rfl
  | cons m rest ih =>
    intro i hd hi h h'
    have hlt : i < ss.length := by
      rcases Nat.lt_or_ge i ss.length with h | h
      · exact h
      · rw [List.drop_eq_nil_of_le h] at hd; cases hd
    have hm : ss[i]? = some m := by rw [← List.head?_drop, hd]; rfl
    have hx : (ss.map I)[i]? = some (I m) := by rw [List.getElem?_map, hm]; rfl
    have hnm : nl = false := by
      cases h : nl with
      | false => rfl
      | true => rw [hnl h] at hlt; cases hlt
    have hsz1 := hsz hnm
    clear hsz
    subst hsz1
    have hlt' : (i : Int) < (ss.length : Int) := by omega
    have hw3 : IntKind.i64.wrap ((i : Int) + 1) = ((i + 1 : Nat) : Int) := by rw [wrap_i64 (by omega) (by omega)]; omega
    cases hs : yY p m with
    | true =>
      simp only [List.all_cons, hs, Bool.true_and] at h h'
      refine yw ?_
      try dsimp only [lp95_2, x8, yN, Tryd.f95]
      simp only [bW, if_true, Nat.reduceEqDiff, if_false]
      repeat' first
        | (intro hb; first | cases hb | skip)
        | ((first | apply zB | apply y7)
           · rfl
           · simp (disch := assumption) only [yx, z6, get, z5, z0, Nat.reduceEqDiff, decide_true, decide_false, cond_true, cond_false, yk, zr, zI, yg, zF, Bool.and_true, Bool.true_and, Bool.and_self, Bool.and_false, Bool.false_and, Bool.or_false, Bool.or_true, Bool.false_or, Bool.true_or, Bool.not_true, Bool.not_false, if_true, ye, List.length_cons, List.length_nil, yy, yb, z7, zu, zt, zl, List.getElem?_cons_zero, List.getElem?_cons_succ, Nat.reduceAdd, Nat.zero_add, Nat.add_zero, Nat.one_ne_zero, zT, zs, zp, yC, zG, bP, Ty.isAgg, yB, zX, zR, zm, yh, zh, zV, yj, zg, ofV, zQ, zS, Bool.false_eq_true, if_false, Nat.reduceLeDiff, Nat.reduceLT, List.take, List.drop, List.map_cons, List.map_nil, List.append_nil, List.nil_append, List.cons_append, List.set, unD, yf, snapAll, zy, yi, zJ, zj, yE, z8, zw, ym, zU, Int.toNat_natCast, Int.natCast_nonneg, Int.toNat_zero, Int.le_refl, Nat.reduceMul, Nat.zero_mul, Nat.mul_zero, yl, zc, zW, zq, zb, zf, yA, eqD, zo, zK, yp, zH, zk, Nat.le_refl, Array.toList_map, List.size_toArray, List.getElem?_toArray, Nat.sub_zero, List.length_append, Nat.mul_one, zv, yo, bO, bS, z9, ze, zC, List.replicate, zE, zD, y9, allOk, yu, y8, newRow, yM, List.isEmpty, Bool.not_false, Bool.not_true, decide_eq_true_eq, zM, zP, zO, zz, zx, yc, zi, Option.map_some, Option.map_none, Option.isNone, Option.isSome, Option.getD_none, Option.getD_some, yP, zN, zn, Int.reduceToNat, Int.reduceLE, Int.reduceLT, Int.reduceBNe, Int.reduceBEq, tys, cks, hx, hnm, hlt', hw3, t63', Int.toNat_natCast, hs]
             rfl
           · simp only [zd, yF, yD, z0, z5, Nat.reduceLT, Nat.reduceEqDiff, decide_true, decide_false, cond_true, cond_false]
             rfl
           · rfl
           first
           | (apply y6
              · simp only [za, z0, Nat.reduceLT, decide_true, cond_true, ins]
                rfl
              · simp only [za, z0, Nat.reduceLT, decide_true, cond_true, ins]
                rfl)
           | (apply yt
              · simp only [za, z0, Nat.reduceLT, decide_true, cond_true, ins]
                rfl))
        | ((first | apply zZ | apply y5)
           · rfl
           · simp only [za, z0, Nat.reduceLT, decide_true, cond_true, ins]
             rfl)
        | (apply zY
           · simp only [z6, get, z5, Nat.reduceEqDiff, decide_true, decide_false, cond_true, cond_false])
        | (apply zA
           · simp only [z6, get, z5, Nat.reduceEqDiff, decide_true, decide_false, cond_true, cond_false])
        | (apply yq
           · kernel_rfl
           · kernel_rfl)
        | (simp only [bW, if_true, Nat.reduceEqDiff, if_false])
      exact x7 (st1 := ⟨23, [(1, I ax), (3, .lref 0 0 3 0), (9, .sl nl (ss.map I) 1 none), (10, I ss.length), (11, I (i + 1 : Nat))], [(0, ⟨[yW p], 3, false⟩)], 1, 0⟩) lk95_2 (by kernel_rfl) (ih (i + 1) (by rw [← List.drop_drop, hd]; rfl) hlt h h')
    | false =>
      rw [h' (by simp [hs])]
      refine yw ?_
      try dsimp only [lp95_2, x8, yN, Tryd.f95]
      simp only [bW, if_true, Nat.reduceEqDiff, if_false]
      repeat' first
        | (intro hb; first | cases hb | skip)
        | ((first | apply zB | apply y7)
           · rfl
           · simp (disch := assumption) only [yx, z6, get, z5, z0, Nat.reduceEqDiff, decide_true, decide_false, cond_true, cond_false, yk, zr, zI, yg, zF, Bool.and_true, Bool.true_and, Bool.and_self, Bool.and_false, Bool.false_and, Bool.or_false, Bool.or_true, Bool.false_or, Bool.true_or, Bool.not_true, Bool.not_false, if_true, ye, List.length_cons, List.length_nil, yy, yb, z7, zu, zt, zl, List.getElem?_cons_zero, List.getElem?_cons_succ, Nat.reduceAdd, Nat.zero_add, Nat.add_zero, Nat.one_ne_zero, zT, zs, zp, yC, zG, bP, Ty.isAgg, yB, zX, zR, zm, yh, zh, zV, yj, zg, ofV, zQ, zS, Bool.false_eq_true, if_false, Nat.reduceLeDiff, Nat.reduceLT, List.take, List.drop, List.map_cons, List.map_nil, List.append_nil, List.nil_append, List.cons_append, List.set, unD, yf, snapAll, zy, yi, zJ, zj, yE, z8, zw, ym, zU, Int.toNat_natCast, Int.natCast_nonneg, Int.toNat_zero, Int.le_refl, Nat.reduceMul, Nat.zero_mul, Nat.mul_zero, yl, zc, zW, zq, zb, zf, yA, eqD, zo, zK, yp, zH, zk, Nat.le_refl, Array.toList_map, List.size_toArray, List.getElem?_toArray, Nat.sub_zero, List.length_append, Nat.mul_one, zv, yo, bO, bS, z9, ze, zC, List.replicate, zE, zD, y9, allOk, yu, y8, newRow, yM, List.isEmpty, Bool.not_false, Bool.not_true, decide_eq_true_eq, zM, zP, zO, zz, zx, yc, zi, Option.map_some, Option.map_none, Option.isNone, Option.isSome, Option.getD_none, Option.getD_some, yP, zN, zn, Int.reduceToNat, Int.reduceLE, Int.reduceLT, Int.reduceBNe, Int.reduceBEq, tys, cks, hx, hnm, hlt', hw3, t63', Int.toNat_natCast, hs]
             rfl
           · simp only [zd, yF, yD, z0, z5, Nat.reduceLT, Nat.reduceEqDiff, decide_true, decide_false, cond_true, cond_false]
             rfl
           · rfl
           first
           | (apply y6
              · simp only [za, z0, Nat.reduceLT, decide_true, cond_true, ins]
                rfl
              · simp only [za, z0, Nat.reduceLT, decide_true, cond_true, ins]
                rfl)
           | (apply yt
              · simp only [za, z0, Nat.reduceLT, decide_true, cond_true, ins]
                rfl))
        | ((first | apply zZ | apply y5)
           · rfl
           · simp only [za, z0, Nat.reduceLT, decide_true, cond_true, ins]
             rfl)
        | (apply zY
           · simp only [z6, get, z5, Nat.reduceEqDiff, decide_true, decide_false, cond_true, cond_false])
        | (apply zA
           · simp only [z6, get, z5, Nat.reduceEqDiff, decide_true, decide_false, cond_true, cond_false])
        | (apply yq
           · kernel_rfl
           · kernel_rfl)
        | (simp only [bW, if_true, Nat.reduceEqDiff, if_false])
      exact hk _ rfl
theorem t95 (p : Paper) (ax : Int) (nl : Bool) (ss : List Int) (sz : Nat) (hsz : nl = false → sz = 1) (hnl : nl = true → ss = []) (hlen : ss.length ≤ 9223372036854775807) : (lim cfg).pure 95 [yW p, I ax, .sl nl (ss.map I) sz none] = some (I (namedF p ax ss)) := by
  have hls := len_if (f := I) hnl
  refine yR (yG 95) cfn95 rfl (n := 23) rfl ?_
  generalize hF : xf cfg Tryd.f95 = F
  simp only [bW, if_true, Nat.reduceEqDiff, if_false, yJ]
  repeat' first
    | (intro hb; first | cases hb | skip)
    | ((first | apply zB | apply y7)
       · rfl
       · simp (disch := assumption) only [yx, z6, get, z5, z0, Nat.reduceEqDiff, decide_true, decide_false, cond_true, cond_false, yk, zr, zI, yg, zF, Bool.and_true, Bool.true_and, Bool.and_self, Bool.and_false, Bool.false_and, Bool.or_false, Bool.or_true, Bool.false_or, Bool.true_or, Bool.not_true, Bool.not_false, if_true, ye, List.length_cons, List.length_nil, yy, yb, z7, zu, zt, zl, List.getElem?_cons_zero, List.getElem?_cons_succ, Nat.reduceAdd, Nat.zero_add, Nat.add_zero, Nat.one_ne_zero, zT, zs, zp, yC, zG, bP, Ty.isAgg, yB, zX, zR, zm, yh, zh, zV, yj, zg, ofV, zQ, zS, Bool.false_eq_true, if_false, Nat.reduceLeDiff, Nat.reduceLT, List.take, List.drop, List.map_cons, List.map_nil, List.append_nil, List.nil_append, List.cons_append, List.set, unD, yf, snapAll, zy, yi, zJ, zj, yE, z8, zw, ym, zU, Int.toNat_natCast, Int.natCast_nonneg, Int.toNat_zero, Int.le_refl, Nat.reduceMul, Nat.zero_mul, Nat.mul_zero, yl, zc, zW, zq, zb, zf, yA, eqD, zo, zK, yp, zH, zk, Nat.le_refl, Array.toList_map, List.size_toArray, List.getElem?_toArray, Nat.sub_zero, List.length_append, Nat.mul_one, zv, yo, bO, bS, z9, ze, zC, List.replicate, zE, zD, y9, allOk, yu, y8, newRow, yM, List.isEmpty, Bool.not_false, Bool.not_true, decide_eq_true_eq, zM, zP, zO, zz, zx, yc, zi, Option.map_some, Option.map_none, Option.isNone, Option.isSome, Option.getD_none, Option.getD_some, yP, zN, zn, Int.reduceToNat, Int.reduceLE, Int.reduceLT, Int.reduceBNe, Int.reduceBEq, tys, cks, hls]
         rfl
       · simp only [zd, yF, yD, z0, z5, Nat.reduceLT, Nat.reduceEqDiff, decide_true, decide_false, cond_true, cond_false]
         rfl
       · rfl
       first
       | (apply y6
          · simp only [za, z0, Nat.reduceLT, decide_true, cond_true, ins]
            rfl
          · simp only [za, z0, Nat.reduceLT, decide_true, cond_true, ins]
            rfl)
       | (apply yt
          · simp only [za, z0, Nat.reduceLT, decide_true, cond_true, ins]
            rfl))
    | ((first | apply zZ | apply y5)
       · rfl
       · simp only [za, z0, Nat.reduceLT, decide_true, cond_true, ins]
         rfl)
    | (apply zY
       · simp only [z6, get, z5, Nat.reduceEqDiff, decide_true, decide_false, cond_true, cond_false])
    | (apply zA
       · simp only [z6, get, z5, Nat.reduceEqDiff, decide_true, decide_false, cond_true, cond_false])
    | (apply yq
       · kernel_rfl
       · kernel_rfl)
    | (simp only [bW, if_true, Nat.reduceEqDiff, if_false])
  have hend : ∀ v st, get st.tmps 6 = I v → F .ret st = some (I v) := by
    intro v st hd
    subst hF
    simp only [xf, finF, yI, yX, zl, get, zG, z5, Nat.reduceEqDiff, decide_true, decide_false, cond_true, cond_false, yV, snapAll, zy, List.getElem?_cons_zero, List.getElem?_cons_succ, bP, Ty.isAgg, if_true, if_false, Bool.false_eq_true, Nat.zero_add, Nat.add_zero, List.length_cons, List.length_nil, Nat.reduceAdd, Nat.reduceLeDiff, List.take, List.drop, Bool.true_and, Bool.and_self, Nat.le_refl, List.map_cons, List.length_map, List.append_nil, List.nil_append, List.cons_append, Nat.sub_zero, bO, bS, tys, Tryd.f95, hd]
  refine w_loop (st1 := ⟨23, [(1, I ax), (3, .lref 0 0 3 0), (9, .sl nl (ss.map I) sz none), (10, I ss.length), (11, I (0 : Nat))], [(0, ⟨[yW p], 3, false⟩)], 1, 0⟩) lk95_2 (by kernel_rfl) (L95_2 p ax nl ss _ _ sz hsz hnl hlen (fun st hd => ?_) ss 0 rfl (Nat.zero_le _) (fun ha => ?_) (fun ha => ?_))
  · simp only [bW, if_true, Nat.reduceEqDiff, if_false]
    exact hend 1 st hd
  · cases hax : isAxis ax with
    | true =>
      rw [show namedF p ax ss = 0 by simp [namedF, ha, hax]]
      simp only [bW, if_true, Nat.reduceEqDiff, if_false]
      repeat' first
        | (intro hb; first | cases hb | skip)
        | ((first | apply zB | apply y7)
           · rfl
           · simp (disch := assumption) only [yx, z6, get, z5, z0, Nat.reduceEqDiff, decide_true, decide_false, cond_true, cond_false, yk, zr, zI, yg, zF, Bool.and_true, Bool.true_and, Bool.and_self, Bool.and_false, Bool.false_and, Bool.or_false, Bool.or_true, Bool.false_or, Bool.true_or, Bool.not_true, Bool.not_false, if_true, ye, List.length_cons, List.length_nil, yy, yb, z7, zu, zt, zl, List.getElem?_cons_zero, List.getElem?_cons_succ, Nat.reduceAdd, Nat.zero_add, Nat.add_zero, Nat.one_ne_zero, zT, zs, zp, yC, zG, bP, Ty.isAgg, yB, zX, zR, zm, yh, zh, zV, yj, zg, ofV, zQ, zS, Bool.false_eq_true, if_false, Nat.reduceLeDiff, Nat.reduceLT, List.take, List.drop, List.map_cons, List.map_nil, List.append_nil, List.nil_append, List.cons_append, List.set, unD, yf, snapAll, zy, yi, zJ, zj, yE, z8, zw, ym, zU, Int.toNat_natCast, Int.natCast_nonneg, Int.toNat_zero, Int.le_refl, Nat.reduceMul, Nat.zero_mul, Nat.mul_zero, yl, zc, zW, zq, zb, zf, yA, eqD, zo, zK, yp, zH, zk, Nat.le_refl, Array.toList_map, List.size_toArray, List.getElem?_toArray, Nat.sub_zero, List.length_append, Nat.mul_one, zv, yo, bO, bS, z9, ze, zC, List.replicate, zE, zD, y9, allOk, yu, y8, newRow, yM, List.isEmpty, Bool.not_false, Bool.not_true, decide_eq_true_eq, zM, zP, zO, zz, zx, yc, zi, Option.map_some, Option.map_none, Option.isNone, Option.isSome, Option.getD_none, Option.getD_some, yP, zN, zn, Int.reduceToNat, Int.reduceLE, Int.reduceLT, Int.reduceBNe, Int.reduceBEq, tys, cks, t64', hax]
             rfl
           · simp only [zd, yF, yD, z0, z5, Nat.reduceLT, Nat.reduceEqDiff, decide_true, decide_false, cond_true, cond_false]
             rfl
           · rfl
           first
           | (apply y6
              · simp only [za, z0, Nat.reduceLT, decide_true, cond_true, ins]
                rfl
              · simp only [za, z0, Nat.reduceLT, decide_true, cond_true, ins]
                rfl)
           | (apply yt
              · simp only [za, z0, Nat.reduceLT, decide_true, cond_true, ins]
                rfl))
        | ((first | apply zZ | apply y5)
           · rfl
           · simp only [za, z0, Nat.reduceLT, decide_true, cond_true, ins]
             rfl)
        | (apply zY
           · simp only [z6, get, z5, Nat.reduceEqDiff, decide_true, decide_false, cond_true, cond_false])
        | (apply zA
           · simp only [z6, get, z5, Nat.reduceEqDiff, decide_true, decide_false, cond_true, cond_false])
        | (apply yq
           · kernel_rfl
           · kernel_rfl)
        | (simp only [bW, if_true, Nat.reduceEqDiff, if_false])
      exact hend 0 _ rfl
    | false =>
      rw [show namedF p ax ss = 1 by simp [namedF, ha, hax]]
      simp only [bW, if_true, Nat.reduceEqDiff, if_false]
      repeat' first
        | (intro hb; first | cases hb | skip)
        | ((first | apply zB | apply y7)
           · rfl
           · simp (disch := assumption) only [yx, z6, get, z5, z0, Nat.reduceEqDiff, decide_true, decide_false, cond_true, cond_false, yk, zr, zI, yg, zF, Bool.and_true, Bool.true_and, Bool.and_self, Bool.and_false, Bool.false_and, Bool.or_false, Bool.or_true, Bool.false_or, Bool.true_or, Bool.not_true, Bool.not_false, if_true, ye, List.length_cons, List.length_nil, yy, yb, z7, zu, zt, zl, List.getElem?_cons_zero, List.getElem?_cons_succ, Nat.reduceAdd, Nat.zero_add, Nat.add_zero, Nat.one_ne_zero, zT, zs, zp, yC, zG, bP, Ty.isAgg, yB, zX, zR, zm, yh, zh, zV, yj, zg, ofV, zQ, zS, Bool.false_eq_true, if_false, Nat.reduceLeDiff, Nat.reduceLT, List.take, List.drop, List.map_cons, List.map_nil, List.append_nil, List.nil_append, List.cons_append, List.set, unD, yf, snapAll, zy, yi, zJ, zj, yE, z8, zw, ym, zU, Int.toNat_natCast, Int.natCast_nonneg, Int.toNat_zero, Int.le_refl, Nat.reduceMul, Nat.zero_mul, Nat.mul_zero, yl, zc, zW, zq, zb, zf, yA, eqD, zo, zK, yp, zH, zk, Nat.le_refl, Array.toList_map, List.size_toArray, List.getElem?_toArray, Nat.sub_zero, List.length_append, Nat.mul_one, zv, yo, bO, bS, z9, ze, zC, List.replicate, zE, zD, y9, allOk, yu, y8, newRow, yM, List.isEmpty, Bool.not_false, Bool.not_true, decide_eq_true_eq, zM, zP, zO, zz, zx, yc, zi, Option.map_some, Option.map_none, Option.isNone, Option.isSome, Option.getD_none, Option.getD_some, yP, zN, zn, Int.reduceToNat, Int.reduceLE, Int.reduceLT, Int.reduceBNe, Int.reduceBEq, tys, cks, t64', hax]
             rfl
           · simp only [zd, yF, yD, z0, z5, Nat.reduceLT, Nat.reduceEqDiff, decide_true, decide_false, cond_true, cond_false]
             rfl
           · rfl
           first
           | (apply y6
              · simp only [za, z0, Nat.reduceLT, decide_true, cond_true, ins]
                rfl
              · simp only [za, z0, Nat.reduceLT, decide_true, cond_true, ins]
                rfl)
           | (apply yt
              · simp only [za, z0, Nat.reduceLT, decide_true, cond_true, ins]
                rfl))
        | ((first | apply zZ | apply y5)
           · rfl
           · simp only [za, z0, Nat.reduceLT, decide_true, cond_true, ins]
             rfl)
        | (apply zY
           · simp only [z6, get, z5, Nat.reduceEqDiff, decide_true, decide_false, cond_true, cond_false])
        | (apply zA
           · simp only [z6, get, z5, Nat.reduceEqDiff, decide_true, decide_false, cond_true, cond_false])
        | (apply yq
           · kernel_rfl
           · kernel_rfl)
        | (simp only [bW, if_true, Nat.reduceEqDiff, if_false])
      exact hend 1 _ rfl
  · rw [show namedF p ax ss = 1 by simp [namedF, ha]]
theorem t79' (p : Paper) (hwf : p.wf) (hok : xc p = true) : (lim cfg).pure 79 [yW p] = some (B (possibleF p)) := t79 p hwf hok
theorem t71 (p : Paper) (ax : Int) (nl : Bool) (ss : List Int) (hwf : p.wf) (sz : Nat) (hsz : nl = false → sz = 1) (hnl : nl = true → ss = []) (hlen : ss.length ≤ 9223372036854775807) : (lim cfg).pure 71 [yW p, I ax, .sl nl (ss.map I) sz none] = some (I (knownF p ax ss)) := by
  have h15 := t15 p hwf
  have h95 := t95 p ax nl ss sz hsz hnl hlen
  unfold knownF
  unfold check at h15
  cases hok : xc p with
  | false =>
    rw [hok] at h15
    simp only [Bool.false_eq_true, if_false] at h15 ⊢
    refine yR (yG 71) cfn71 rfl (n := 20) rfl ?_
    simp only [bW, if_true, Nat.reduceEqDiff, if_false, yJ]
    repeat' first
      | (intro hb; first | cases hb | skip)
      | ((first | apply zB | apply y7)
         · rfl
         · simp (disch := assumption) only [yx, z6, get, z5, z0, Nat.reduceEqDiff, decide_true, decide_false, cond_true, cond_false, yk, zr, zI, yg, zF, Bool.and_true, Bool.true_and, Bool.and_self, Bool.and_false, Bool.false_and, Bool.or_false, Bool.or_true, Bool.false_or, Bool.true_or, Bool.not_true, Bool.not_false, if_true, ye, List.length_cons, List.length_nil, yy, yb, z7, zu, zt, zl, List.getElem?_cons_zero, List.getElem?_cons_succ, Nat.reduceAdd, Nat.zero_add, Nat.add_zero, Nat.one_ne_zero, zT, zs, zp, yC, zG, bP, Ty.isAgg, yB, zX, zR, zm, yh, zh, zV, yj, zg, ofV, zQ, zS, Bool.false_eq_true, if_false, Nat.reduceLeDiff, Nat.reduceLT, List.take, List.drop, List.map_cons, List.map_nil, List.append_nil, List.nil_append, List.cons_append, List.set, unD, yf, snapAll, zy, yi, zJ, zj, yE, z8, zw, ym, zU, Int.toNat_natCast, Int.natCast_nonneg, Int.toNat_zero, Int.le_refl, Nat.reduceMul, Nat.zero_mul, Nat.mul_zero, yl, zc, zW, zq, zb, zf, yA, eqD, zo, zK, yp, zH, zk, Nat.le_refl, Array.toList_map, List.size_toArray, List.getElem?_toArray, Nat.sub_zero, List.length_append, Nat.mul_one, zv, yo, bO, bS, z9, ze, zC, List.replicate, zE, zD, y9, allOk, yu, y8, newRow, yM, List.isEmpty, Bool.not_false, Bool.not_true, decide_eq_true_eq, zM, zP, zO, zz, zx, yc, zi, Option.map_some, Option.map_none, Option.isNone, Option.isSome, Option.getD_none, Option.getD_some, yP, zN, zn, Int.reduceToNat, Int.reduceLE, Int.reduceLT, Int.reduceBNe, Int.reduceBEq, tys, cks, h15]
           rfl
         · simp only [zd, yF, yD, z0, z5, Nat.reduceLT, Nat.reduceEqDiff, decide_true, decide_false, cond_true, cond_false]
           rfl
         · rfl
         first
         | (apply y6
            · simp only [za, z0, Nat.reduceLT, decide_true, cond_true, ins]
              rfl
            · simp only [za, z0, Nat.reduceLT, decide_true, cond_true, ins]
              rfl)
         | (apply yt
            · simp only [za, z0, Nat.reduceLT, decide_true, cond_true, ins]
              rfl))
      | ((first | apply zZ | apply y5)
         · rfl
         · simp only [za, z0, Nat.reduceLT, decide_true, cond_true, ins]
           rfl)
      | (apply zY
         · simp only [z6, get, z5, Nat.reduceEqDiff, decide_true, decide_false, cond_true, cond_false])
      | (apply zA
         · simp only [z6, get, z5, Nat.reduceEqDiff, decide_true, decide_false, cond_true, cond_false])
      | (apply yq
         · kernel_rfl
         · kernel_rfl)
      | (simp only [bW, if_true, Nat.reduceEqDiff, if_false])
    all_goals simp only [xf, finF, yI, yX, zl, get, zG, z5, Nat.reduceEqDiff, decide_true, decide_false, cond_true, cond_false, yV, snapAll, zy, List.getElem?_cons_zero, List.getElem?_cons_succ, bP, Ty.isAgg, if_true, if_false, Bool.false_eq_true, Nat.zero_add, Nat.add_zero, List.length_cons, List.length_nil, Nat.reduceAdd, Nat.reduceLeDiff, List.take, List.drop, Bool.true_and, Bool.and_self, Nat.le_refl, List.map_cons, List.length_map, List.append_nil, List.nil_append, List.cons_append, Nat.sub_zero, bO, bS, tys, Tryd.f71]
    all_goals first | done | rfl | (simp_all []; done) | trace_state
  | true =>
    rw [hok] at h15
    simp only [if_true] at h15 ⊢
    have h79 := t79' p hwf hok
    cases hp : possibleF p with
    | false =>
      rw [hp] at h79
      simp only [Bool.false_eq_true, if_false]
      refine yR (yG 71) cfn71 rfl (n := 20) rfl ?_
      simp only [bW, if_true, Nat.reduceEqDiff, if_false, yJ]
      repeat' first
        | (intro hb; first | cases hb | skip)
        | ((first | apply zB | apply y7)
           · rfl
           · simp (disch := assumption) only [yx, z6, get, z5, z0, Nat.reduceEqDiff, decide_true, decide_false, cond_true, cond_false, yk, zr, zI, yg, zF, Bool.and_true, Bool.true_and, Bool.and_self, Bool.and_false, Bool.false_and, Bool.or_false, Bool.or_true, Bool.false_or, Bool.true_or, Bool.not_true, Bool.not_false, if_true, ye, List.length_cons, List.length_nil, yy, yb, z7, zu, zt, zl, List.getElem?_cons_zero, List.getElem?_cons_succ, Nat.reduceAdd, Nat.zero_add, Nat.add_zero, Nat.one_ne_zero, zT, zs, zp, yC, zG, bP, Ty.isAgg, yB, zX, zR, zm, yh, zh, zV, yj, zg, ofV, zQ, zS, Bool.false_eq_true, if_false, Nat.reduceLeDiff, Nat.reduceLT, List.take, List.drop, List.map_cons, List.map_nil, List.append_nil, List.nil_append, List.cons_append, List.set, unD, yf, snapAll, zy, yi, zJ, zj, yE, z8, zw, ym, zU, Int.toNat_natCast, Int.natCast_nonneg, Int.toNat_zero, Int.le_refl, Nat.reduceMul, Nat.zero_mul, Nat.mul_zero, yl, zc, zW, zq, zb, zf, yA, eqD, zo, zK, yp, zH, zk, Nat.le_refl, Array.toList_map, List.size_toArray, List.getElem?_toArray, Nat.sub_zero, List.length_append, Nat.mul_one, zv, yo, bO, bS, z9, ze, zC, List.replicate, zE, zD, y9, allOk, yu, y8, newRow, yM, List.isEmpty, Bool.not_false, Bool.not_true, decide_eq_true_eq, zM, zP, zO, zz, zx, yc, zi, Option.map_some, Option.map_none, Option.isNone, Option.isSome, Option.getD_none, Option.getD_some, yP, zN, zn, Int.reduceToNat, Int.reduceLE, Int.reduceLT, Int.reduceBNe, Int.reduceBEq, tys, cks, h15, h79]
             rfl
           · simp only [zd, yF, yD, z0, z5, Nat.reduceLT, Nat.reduceEqDiff, decide_true, decide_false, cond_true, cond_false]
             rfl
           · rfl
           first
           | (apply y6
              · simp only [za, z0, Nat.reduceLT, decide_true, cond_true, ins]
                rfl
              · simp only [za, z0, Nat.reduceLT, decide_true, cond_true, ins]
                rfl)
           | (apply yt
              · simp only [za, z0, Nat.reduceLT, decide_true, cond_true, ins]
                rfl))
        | ((first | apply zZ | apply y5)
           · rfl
           · simp only [za, z0, Nat.reduceLT, decide_true, cond_true, ins]
             rfl)
        | (apply zY
           · simp only [z6, get, z5, Nat.reduceEqDiff, decide_true, decide_false, cond_true, cond_false])
        | (apply zA
           · simp only [z6, get, z5, Nat.reduceEqDiff, decide_true, decide_false, cond_true, cond_false])
        | (apply yq
           · kernel_rfl
           · kernel_rfl)
        | (simp only [bW, if_true, Nat.reduceEqDiff, if_false])
      all_goals simp only [xf, finF, yI, yX, zl, get, zG, z5, Nat.reduceEqDiff, decide_true, decide_false, cond_true, cond_false, yV, snapAll, zy, List.getElem?_cons_zero, List.getElem?_cons_succ, bP, Ty.isAgg, if_true, if_false, Bool.false_eq_true, Nat.zero_add, Nat.add_zero, List.length_cons, List.length_nil, Nat.reduceAdd, Nat.reduceLeDiff, List.take, List.drop, Bool.true_and, Bool.and_self, Nat.le_refl, List.map_cons, List.length_map, List.append_nil, List.nil_append, List.cons_append, Nat.sub_zero, bO, bS, tys, Tryd.f71]
      all_goals first | done | rfl | (simp_all []; done) | trace_state
    | true =>
      rw [hp] at h79
      simp only [if_true]
      refine yR (yG 71) cfn71 rfl (n := 20) rfl ?_
      simp only [bW, if_true, Nat.reduceEqDiff, if_false, yJ]
      repeat' first
        | (intro hb; first | cases hb | skip)
        | ((first | apply zB | apply y7)
           · rfl
           · simp (disch := assumption) only [yx, z6, get, z5, z0, Nat.reduceEqDiff, decide_true, decide_false, cond_true, cond_false, yk, zr, zI, yg, zF, Bool.and_true, Bool.true_and, Bool.and_self, Bool.and_false, Bool.false_and, Bool.or_false, Bool.or_true, Bool.false_or, Bool.true_or, Bool.not_true, Bool.not_false, if_true, ye, List.length_cons, List.length_nil, yy, yb, z7, zu, zt, zl, List.getElem?_cons_zero, List.getElem?_cons_succ, Nat.reduceAdd, Nat.zero_add, Nat.add_zero, Nat.one_ne_zero, zT, zs, zp, yC, zG, bP, Ty.isAgg, yB, zX, zR, zm, yh, zh, zV, yj, zg, ofV, zQ, zS, Bool.false_eq_true, if_false, Nat.reduceLeDiff, Nat.reduceLT, List.take, List.drop, List.map_cons, List.map_nil, List.append_nil, List.nil_append, List.cons_append, List.set, unD, yf, snapAll, zy, yi, zJ, zj, yE, z8, zw, ym, zU, Int.toNat_natCast, Int.natCast_nonneg, Int.toNat_zero, Int.le_refl, Nat.reduceMul, Nat.zero_mul, Nat.mul_zero, yl, zc, zW, zq, zb, zf, yA, eqD, zo, zK, yp, zH, zk, Nat.le_refl, Array.toList_map, List.size_toArray, List.getElem?_toArray, Nat.sub_zero, List.length_append, Nat.mul_one, zv, yo, bO, bS, z9, ze, zC, List.replicate, zE, zD, y9, allOk, yu, y8, newRow, yM, List.isEmpty, Bool.not_false, Bool.not_true, decide_eq_true_eq, zM, zP, zO, zz, zx, yc, zi, Option.map_some, Option.map_none, Option.isNone, Option.isSome, Option.getD_none, Option.getD_some, yP, zN, zn, Int.reduceToNat, Int.reduceLE, Int.reduceLT, Int.reduceBNe, Int.reduceBEq, tys, cks, h15, h79, h95]
             rfl
           · simp only [zd, yF, yD, z0, z5, Nat.reduceLT, Nat.reduceEqDiff, decide_true, decide_false, cond_true, cond_false]
             rfl
           · rfl
           first
           | (apply y6
              · simp only [za, z0, Nat.reduceLT, decide_true, cond_true, ins]
                rfl
              · simp only [za, z0, Nat.reduceLT, decide_true, cond_true, ins]
                rfl)
           | (apply yt
              · simp only [za, z0, Nat.reduceLT, decide_true, cond_true, ins]
                rfl))
        | ((first | apply zZ | apply y5)
           · rfl
           · simp only [za, z0, Nat.reduceLT, decide_true, cond_true, ins]
             rfl)
        | (apply zY
           · simp only [z6, get, z5, Nat.reduceEqDiff, decide_true, decide_false, cond_true, cond_false])
        | (apply zA
           · simp only [z6, get, z5, Nat.reduceEqDiff, decide_true, decide_false, cond_true, cond_false])
        | (apply yq
           · kernel_rfl
           · kernel_rfl)
        | (simp only [bW, if_true, Nat.reduceEqDiff, if_false])
      all_goals simp only [xf, finF, yI, yX, zl, get, zG, z5, Nat.reduceEqDiff, decide_true, decide_false, cond_true, cond_false, yV, snapAll, zy, List.getElem?_cons_zero, List.getElem?_cons_succ, bP, Ty.isAgg, if_true, if_false, Bool.false_eq_true, Nat.zero_add, Nat.add_zero, List.length_cons, List.length_nil, Nat.reduceAdd, Nat.reduceLeDiff, List.take, List.drop, Bool.true_and, Bool.and_self, Nat.le_refl, List.map_cons, List.length_map, List.append_nil, List.nil_append, List.cons_append, Nat.sub_zero, bO, bS, tys, Tryd.f71]
      all_goals first | done | rfl | (simp_all []; done) | trace_state

def downO (p : Paper) (s ax : Int) : Option Chn := ((chainsF (edges p ax) (1 + s).toNat 4)[0]?).join
def upO (p : Paper) (s ax : Int) : Option Chn := ((chainsF (edges p ax) 0 4)[(1 + s).toNat]?).join
def chnOr (o : Option Chn) : Chn := match o with | some c => c | none => ⟨⟨1, 1⟩, []⟩
def downF (p : Paper) (s ax : Int) : Chn := chnOr (downO p s ax)
def upF (p : Paper) (s ax : Int) : Chn := chnOr (upO p s ax)

/-! ### what an edge leads to is there -/
def isS (l : Net) (j : Nat) : Prop := ∃ c, l[j]? = some (some c)
theorem isS_put {l : Net} {j i : Nat} {c : Chn} (h : isS l j) : isS (putE l i c) j := by
  obtain ⟨d, hd⟩ := h
  have key : ∃ c', (l.set i (some c))[j]? = some (some c') := by
    by_cases e : i = j
    · subst e; exact ⟨c, by rw [List.getElem?_set]; simp; rw [List.getElem?_eq_some_iff] at hd; exact hd.1⟩
    · exact ⟨d, by rw [List.getElem?_set_ne e]; exact hd⟩
  unfold putE
  split
  · split
    · exact key
    · exact ⟨d, hd⟩
  · exact key
theorem isS_putE {l : Net} {i : Nat} {c : Chn} (h : i < l.length) : isS (putE l i c) i := by
  have key : ∃ c', (l.set i (some c))[i]? = some (some c') := ⟨c, by rw [List.getElem?_set]; simp [h]⟩
  unfold putE
  split
  · rename_i b hb
    split
    · exact key
    · exact ⟨b, hb⟩
  · exact key
theorem isS_step {now l : Net} {e : Edge} {j : Nat} (h : isS l j) : isS (stepE now l e) j := by
  unfold stepE
  split
  · exact isS_put h
  · exact h
theorem isS_fold {now : Net} {j : Nat} : ∀ {es : List Edge} {l : Net}, isS l j → isS (es.foldl (stepE now) l) j
  | [], _, h => h
  | e :: es, l, h => isS_fold (es := es) (isS_step h)
theorem len_put {l : Net} {i : Nat} {c : Chn} : (putE l i c).length = l.length := by
  unfold putE; split <;> (try split) <;> simp
theorem len_step {now l : Net} {e : Edge} : (stepE now l e).length = l.length := by
  unfold stepE; split
  · exact len_put
  · rfl
theorem isS_of_edge {now : Net} {e : Edge} : ∀ {es : List Edge} {l : Net}, e ∈ es → isS now e.src.toNat → e.dst.toNat < l.length → isS (es.foldl (stepE now) l) e.dst.toNat
  | [], _, h, _, _ => by cases h
  | e' :: es, l, h, hs, hl => by
    rcases List.mem_cons.1 h with rfl | h
    · refine isS_fold (es := es) ?_
      obtain ⟨c, hc⟩ := hs
      unfold stepE; rw [hc]
      exact isS_putE hl
    · exact isS_of_edge (es := es) h hs (by rw [len_step]; exact hl)
theorem isS_merge {j : Nat} : ∀ {l : List (Option Chn)} {i : Nat} {out : Net}, isS out j → isS (mergeL l i out) j
  | [], _, _, h => h
  | none :: r, i, out, h => isS_merge (l := r) h
  | some c :: r, i, out, h => isS_merge (l := r) (isS_put h)
theorem isS_mergeL {j : Nat} {c : Chn} : ∀ {l : List (Option Chn)} {i : Nat} {out : Net}, l[j]? = some (some c) → i + j < out.length → isS (mergeL l i out) (i + j)
  | [], _, _, h, _ => by simp at h
  | o :: r, i, out, h, hl => by
    cases j with
    | zero =>
      simp at h; subst h
      exact isS_merge (l := r) (isS_putE hl)
    | succ j =>
      simp at h
      cases o with
      | none => simp only [mergeL]; rw [show i + (j + 1) = (i + 1) + j by omega]; exact isS_mergeL (l := r) h (by omega)
      | some d => simp only [mergeL]; rw [show i + (j + 1) = (i + 1) + j by omega]; exact isS_mergeL (l := r) h (by rw [len_put]; omega)
theorem isS_rounds {es : List Edge} {j : Nat} : ∀ {k : Nat} {now out : Net}, isS out j → isS (roundsN es k now out) j
  | 0, _, _, h => h
  | k + 1, now, out, h => isS_rounds (k := k) (isS_merge h)
theorem chains_edge {es : List Edge} {e : Edge} {k : Nat} (he : e ∈ es) (hb : edgeB e) : isS (chainsF es e.src.toNat (k + 1)) e.dst.toNat := by
  unfold chainsF
  simp only [roundsN]
  refine isS_rounds ?_
  obtain ⟨b1, b2, b3, b4, _⟩ := hb
  have hs5 : e.src.toNat < emptyN.length := by show e.src.toNat < 5; omega
  have hd5 : e.dst.toNat < emptyN.length := by show e.dst.toNat < 5; omega
  obtain ⟨c, hc⟩ : isS (es.foldl (stepE (emptyN.set e.src.toNat (some ⟨⟨1, 1⟩, []⟩))) emptyN) e.dst.toNat :=
    isS_of_edge he ⟨_, List.getElem?_set_self hs5⟩ hd5
  have := isS_mergeL (i := 0) (out := emptyN) hc (by rw [Nat.zero_add]; exact hd5)
  rwa [Nat.zero_add] at this
theorem sheet_edge {p : Paper} {s : Int} (ax : Int) (hs : yY p s = true) : (⟨1 + s, 0, ⟨2, 1⟩, ⟨false, -1 - s, false⟩⟩ : Edge) ∈ edges p ax ∧ (⟨0, 1 + s, ⟨2, 1⟩, ⟨false, -1 - s, true⟩⟩ : Edge) ∈ edges p ax := by
  simp [yY] at hs
  obtain ⟨n, rfl⟩ := Int.eq_ofNat_of_zero_le hs.1
  have hmem : n ∈ List.range' 0 p.sheets.toNat := by rw [List.mem_range'_1]; omega
  simp only [edges, List.mem_append, List.mem_flatMap]
  exact ⟨.inl (.inl ⟨n, hmem, by simp [sheetE]⟩), .inl (.inl ⟨n, hmem, by simp [sheetE]⟩)⟩
theorem downO_some {p : Paper} {s : Int} (ax : Int) (hok : xc p = true) (hs : yY p s = true) : downO p s ax = some (downF p s ax) ∧ (chainsF (edges p ax) (1 + s).toNat 4)[0]? = some (some (downF p s ax)) := by
  obtain ⟨h1, h2⟩ := sheet_edge ax hs
  obtain ⟨c, hc⟩ := chains_edge (k := 3) h1 ((edgesB hok ax).1 _ h1)
  have hc' : (chainsF (edges p ax) (1 + s).toNat 4)[0]? = some (some c) := hc
  have e : downO p s ax = some c := by unfold downO; rw [hc']; rfl
  have e' : downF p s ax = c := by unfold downF; rw [e]; rfl
  rw [e', e]; exact ⟨rfl, hc'⟩
theorem upO_some {p : Paper} {s : Int} (ax : Int) (hok : xc p = true) (hs : yY p s = true) : upO p s ax = some (upF p s ax) ∧ (chainsF (edges p ax) 0 4)[(1 + s).toNat]? = some (some (upF p s ax)) := by
  obtain ⟨h1, h2⟩ := sheet_edge ax hs
  obtain ⟨c, hc⟩ := chains_edge (k := 3) h2 ((edgesB hok ax).1 _ h2)
  have hc' : (chainsF (edges p ax) 0 4)[(1 + s).toNat]? = some (some c) := hc
  have e : upO p s ax = some c := by unfold upO; rw [hc']; rfl
  have e' : upF p s ax = c := by unfold upF; rw [e]; rfl
  rw [e', e]; exact ⟨rfl, hc'⟩
theorem downF_qB {p : Paper} {s : Int} (ax : Int) (hok : xc p = true) (hs : yY p s = true) : qB 32000000000000000 5 (downF p s ax) :=
  (chainsF_netB (edgesB hok ax).1 (by omega)).2 _ (List.mem_of_getElem? (downO_some ax hok hs).2)
theorem upF_qB {p : Paper} {s : Int} (ax : Int) (hok : xc p = true) (hs : yY p s = true) : qB 32000000000000000 5 (upF p s ax) :=
  (chainsF_netB (edgesB hok ax).1 (by omega)).2 _ (List.mem_of_getElem? (upO_some ax hok hs).2)

theorem t100 (p : Paper) (s ax : Int) (hwf : p.wf) (hok : xc p = true) (hs : yY p s = true) : (lim cfg).pure 100 [yW p, I s, I ax] = some (yz (some (downF p s ax))) := by
  have h68 := t68 p ax hwf hok
  obtain ⟨o1, o2, _⟩ := paperOK_def hok
  obtain ⟨hes, hlen⟩ := edgesB hok ax
  have hc := (downO_some ax hok hs).2
  simp [yY] at hs
  obtain ⟨N, hN⟩ := Int.eq_ofNat_of_zero_le (show 0 ≤ 1 + s by omega)
  have hw : IntKind.i64.wrap (1 + s) = (N : Int) := by rw [wrap_i64 (by omega) (by omega), hN]
  have hN' : (1 + s).toNat = N := by rw [hN]; rfl
  rw [hN'] at hc
  have h72 := t72 (edges p ax) N 4 hes hlen (by omega) (by omega)
  have hnet : ((chainsF (edges p ax) N 4).map yz)[0]? = some (yz (some (downF p s ax))) := by rw [List.getElem?_map, hc]; rfl
  have hlt5 : (N < 5) = True := by simp; omega
  simp only [Int.cast_ofNat_Int] at h72
  refine yR (yG 100) cfn100 rfl (n := 14) rfl ?_
  generalize hF : xf cfg Tryd.f100 = F
  simp only [bW, if_true, Nat.reduceEqDiff, if_false, yJ]
  repeat' first
    | (intro hb; first | cases hb | skip)
    | ((first | apply zB | apply y7)
       · rfl
       · simp (disch := assumption) only [yx, z6, get, z5, z0, Nat.reduceEqDiff, decide_true, decide_false, cond_true, cond_false, yk, zr, zI, yg, zF, Bool.and_true, Bool.true_and, Bool.and_self, Bool.and_false, Bool.false_and, Bool.or_false, Bool.or_true, Bool.false_or, Bool.true_or, Bool.not_true, Bool.not_false, if_true, ye, List.length_cons, List.length_nil, yy, yb, z7, zu, zt, zl, List.getElem?_cons_zero, List.getElem?_cons_succ, Nat.reduceAdd, Nat.zero_add, Nat.add_zero, Nat.one_ne_zero, zT, zs, zp, yC, zG, bP, Ty.isAgg, yB, zX, zR, zm, yh, zh, zV, yj, zg, ofV, zQ, zS, Bool.false_eq_true, if_false, Nat.reduceLeDiff, Nat.reduceLT, List.take, List.drop, List.map_cons, List.map_nil, List.append_nil, List.nil_append, List.cons_append, List.set, unD, yf, snapAll, zy, yi, zJ, zj, yE, z8, zw, ym, zU, Int.toNat_natCast, Int.natCast_nonneg, Int.toNat_zero, Int.le_refl, Nat.reduceMul, Nat.zero_mul, Nat.mul_zero, yl, zc, zW, zq, zb, zf, yA, eqD, zo, zK, yp, zH, zk, Nat.le_refl, Array.toList_map, List.size_toArray, List.getElem?_toArray, Nat.sub_zero, List.length_append, Nat.mul_one, zv, yo, bO, bS, z9, ze, zC, List.replicate, zE, zD, y9, allOk, yu, y8, newRow, yM, List.isEmpty, Bool.not_false, Bool.not_true, decide_eq_true_eq, zM, zP, zO, zz, zx, yc, zi, Option.map_some, Option.map_none, Option.isNone, Option.isSome, Option.getD_none, Option.getD_some, yP, zN, zn, Int.reduceToNat, Int.reduceLE, Int.reduceLT, Int.reduceBNe, Int.reduceBEq, tys, cks, h68, hw, h72, hnet, encOC_one, hlt5, Int.toNat_natCast, Int.natCast_nonneg, decide_true, Int.reduceToNat, show (0 : Nat) < 5 from by decide]
         rfl
       · simp only [zd, yF, yD, z0, z5, Nat.reduceLT, Nat.reduceEqDiff, decide_true, decide_false, cond_true, cond_false]
         rfl
       · rfl
       first
       | (apply y6
          · simp only [za, z0, Nat.reduceLT, decide_true, cond_true, ins]
            rfl
          · simp only [za, z0, Nat.reduceLT, decide_true, cond_true, ins]
            rfl)
       | (apply yt
          · simp only [za, z0, Nat.reduceLT, decide_true, cond_true, ins]
            rfl))
    | ((first | apply zZ | apply y5)
       · rfl
       · simp only [za, z0, Nat.reduceLT, decide_true, cond_true, ins]
         rfl)
    | (apply zY
       · simp only [z6, get, z5, Nat.reduceEqDiff, decide_true, decide_false, cond_true, cond_false])
    | (apply zA
       · simp only [z6, get, z5, Nat.reduceEqDiff, decide_true, decide_false, cond_true, cond_false])
    | (apply yq
       · kernel_rfl
       · kernel_rfl)
    | (simp only [bW, if_true, Nat.reduceEqDiff, if_false])
  subst hF
  simp only [xf, finF, yI, yX, zl, get, zG, z5, Nat.reduceEqDiff, decide_true, decide_false, cond_true, cond_false, yV, snapAll, zy, List.getElem?_cons_zero, List.getElem?_cons_succ, bP, Ty.isAgg, if_true, if_false, Bool.false_eq_true, Nat.zero_add, Nat.add_zero, List.length_cons, List.length_nil, Nat.reduceAdd, Nat.reduceLeDiff, List.take, List.drop, Bool.true_and, Bool.and_self, Nat.le_refl, List.map_cons, List.length_map, List.append_nil, List.nil_append, List.cons_append, Nat.sub_zero, bO, bS, tys, Tryd.f100, snap_enc]

theorem t101 (p : Paper) (s ax : Int) (hwf : p.wf) (hok : xc p = true) (hs : yY p s = true) : (lim cfg).pure 101 [yW p, I s, I ax] = some (yz (some (upF p s ax))) := by
  have h68 := t68 p ax hwf hok
  obtain ⟨o1, o2, _⟩ := paperOK_def hok
  obtain ⟨hes, hlen⟩ := edgesB hok ax
  have hc := (upO_some ax hok hs).2
  simp [yY] at hs
  obtain ⟨N, hN⟩ := Int.eq_ofNat_of_zero_le (show 0 ≤ 1 + s by omega)
  have hw : IntKind.i64.wrap (1 + s) = (N : Int) := by rw [wrap_i64 (by omega) (by omega), hN]
  have hN' : (1 + s).toNat = N := by rw [hN]; rfl
  rw [hN'] at hc
  have h72 := t72 (edges p ax) 0 4 hes hlen (by omega) (by omega)
  have hnet : ((chainsF (edges p ax) 0 4).map yz)[N]? = some (yz (some (upF p s ax))) := by rw [List.getElem?_map, hc]; rfl
  have hlt5 : (N < 5) = True := by simp; omega
  simp only [Int.cast_ofNat_Int] at h72
  refine yR (yG 101) cfn101 rfl (n := 14) rfl ?_
  generalize hF : xf cfg Tryd.f101 = F
  simp only [bW, if_true, Nat.reduceEqDiff, if_false, yJ]
  repeat' first
    | (intro hb; first | cases hb | skip)
    | ((first | apply zB | apply y7)
       · rfl
       · simp (disch := assumption) only [yx, z6, get, z5, z0, Nat.reduceEqDiff, decide_true, decide_false, cond_true, cond_false, yk, zr, zI, yg, zF, Bool.and_true, Bool.true_and, Bool.and_self, Bool.and_false, Bool.false_and, Bool.or_false, Bool.or_true, Bool.false_or, Bool.true_or, Bool.not_true, Bool.not_false, if_true, ye, List.length_cons, List.length_nil, yy, yb, z7, zu, zt, zl, List.getElem?_cons_zero, List.getElem?_cons_succ, Nat.reduceAdd, Nat.zero_add, Nat.add_zero, Nat.one_ne_zero, zT, zs, zp, yC, zG, bP, Ty.isAgg, yB, zX, zR, zm, yh, zh, zV, yj, zg, ofV, zQ, zS, Bool.false_eq_true, if_false, Nat.reduceLeDiff, Nat.reduceLT, List.take, List.drop, List.map_cons, List.map_nil, List.append_nil, List.nil_append, List.cons_append, List.set, unD, yf, snapAll, zy, yi, zJ, zj, yE, z8, zw, ym, zU, Int.toNat_natCast, Int.natCast_nonneg, Int.toNat_zero, Int.le_refl, Nat.reduceMul, Nat.zero_mul, Nat.mul_zero, yl, zc, zW, zq, zb, zf, yA, eqD, zo, zK, yp, zH, zk, Nat.le_refl, Array.toList_map, List.size_toArray, List.getElem?_toArray, Nat.sub_zero, List.length_append, Nat.mul_one, zv, yo, bO, bS, z9, ze, zC, List.replicate, zE, zD, y9, allOk, yu, y8, newRow, yM, List.isEmpty, Bool.not_false, Bool.not_true, decide_eq_true_eq, zM, zP, zO, zz, zx, yc, zi, Option.map_some, Option.map_none, Option.isNone, Option.isSome, Option.getD_none, Option.getD_some, yP, zN, zn, Int.reduceToNat, Int.reduceLE, Int.reduceLT, Int.reduceBNe, Int.reduceBEq, tys, cks, h68, hw, h72, hnet, encOC_one, hlt5, Int.toNat_natCast, Int.natCast_nonneg, decide_true, Int.reduceToNat, show (0 : Nat) < 5 from by decide]
         rfl
       · simp only [zd, yF, yD, z0, z5, Nat.reduceLT, Nat.reduceEqDiff, decide_true, decide_false, cond_true, cond_false]
         rfl
       · rfl
       first
       | (apply y6
          · simp only [za, z0, Nat.reduceLT, decide_true, cond_true, ins]
            rfl
          · simp only [za, z0, Nat.reduceLT, decide_true, cond_true, ins]
            rfl)
       | (apply yt
          · simp only [za, z0, Nat.reduceLT, decide_true, cond_true, ins]
            rfl))
    | ((first | apply zZ | apply y5)
       · rfl
       · simp only [za, z0, Nat.reduceLT, decide_true, cond_true, ins]
         rfl)
    | (apply zY
       · simp only [z6, get, z5, Nat.reduceEqDiff, decide_true, decide_false, cond_true, cond_false])
    | (apply zA
       · simp only [z6, get, z5, Nat.reduceEqDiff, decide_true, decide_false, cond_true, cond_false])
    | (apply yq
       · kernel_rfl
       · kernel_rfl)
    | (simp only [bW, if_true, Nat.reduceEqDiff, if_false])
  subst hF
  simp only [xf, finF, yI, yX, zl, get, zG, z5, Nat.reduceEqDiff, decide_true, decide_false, cond_true, cond_false, yV, snapAll, zy, List.getElem?_cons_zero, List.getElem?_cons_succ, bP, Ty.isAgg, if_true, if_false, Bool.false_eq_true, Nat.zero_add, Nat.add_zero, List.length_cons, List.length_nil, Nat.reduceAdd, Nat.reduceLeDiff, List.take, List.drop, Bool.true_and, Bool.and_self, Nat.le_refl, List.map_cons, List.length_map, List.append_nil, List.nil_append, List.cons_append, Nat.sub_zero, bO, bS, tys, Tryd.f101, snap_enc]

end Go.VS
namespace Go.VS
open Go Go.Proofs
set_option maxHeartbeats 0
set_option linter.unusedSimpArgs false

structure F4 where
  xn : Int
  xd : Int
  yn : Int
  yd : Int
def xi (f : F4) : D := .agg [I f.xn, I f.xd, I f.yn, I f.yd]
theorem okF : EncOK 4 xi := ⟨fun _ _ _ => rfl, fun _ _ => rfl, fun _ _ _ => rfl, fun _ => ⟨rfl, rfl⟩⟩
theorem known_zero {p : Paper} {ax : Int} {ss : List Int} : knownF p ax ss = 0 ↔ xc p = true ∧ possibleF p = true ∧ ss.all (yY p) = true ∧ isAxis ax = true := by
  unfold knownF namedF
  cases xc p <;> cases possibleF p <;> cases ss.all (yY p) <;> cases isAxis ax <;> simp
def loF (p : Paper) (s ax : Int) : Ratio := ⟨(upF p s ax).q.d, (upF p s ax).q.n⟩
def hiF (p : Paper) (s ax : Int) : Ratio := (downF p s ax).q

theorem t73 (p : Paper) (s ax : Int) (hwf : p.wf) (hok : xc p = true) (hs : yY p s = true) : (lim cfg).pure 73 [yW p, I s, I ax] = some (.agg [I (loF p s ax).n, I (loF p s ax).d, I (hiF p s ax).n, I (hiF p s ax).d]) := by
  have h100 := t100 p s ax hwf hok hs
  have h101 := t101 p s ax hwf hok hs
  simp only [yz] at h100 h101
  refine yR (yG 73) cfn73 rfl (n := 23) rfl ?_
  simp only [bW, if_true, Nat.reduceEqDiff, if_false, yJ]
  repeat' first
    | (intro hb; first | cases hb | skip)
    | ((first | apply zB | apply y7)
       · rfl
       · simp (disch := assumption) only [yx, z6, get, z5, z0, Nat.reduceEqDiff, decide_true, decide_false, cond_true, cond_false, yk, zr, zI, yg, zF, Bool.and_true, Bool.true_and, Bool.and_self, Bool.and_false, Bool.false_and, Bool.or_false, Bool.or_true, Bool.false_or, Bool.true_or, Bool.not_true, Bool.not_false, if_true, ye, List.length_cons, List.length_nil, yy, yb, z7, zu, zt, zl, List.getElem?_cons_zero, List.getElem?_cons_succ, Nat.reduceAdd, Nat.zero_add, Nat.add_zero, Nat.one_ne_zero, zT, zs, zp, yC, zG, bP, Ty.isAgg, yB, zX, zR, zm, yh, zh, zV, yj, zg, ofV, zQ, zS, Bool.false_eq_true, if_false, Nat.reduceLeDiff, Nat.reduceLT, List.take, List.drop, List.map_cons, List.map_nil, List.append_nil, List.nil_append, List.cons_append, List.set, unD, yf, snapAll, zy, yi, zJ, zj, yE, z8, zw, ym, zU, Int.toNat_natCast, Int.natCast_nonneg, Int.toNat_zero, Int.le_refl, Nat.reduceMul, Nat.zero_mul, Nat.mul_zero, yl, zc, zW, zq, zb, zf, yA, eqD, zo, zK, yp, zH, zk, Nat.le_refl, Array.toList_map, List.size_toArray, List.getElem?_toArray, Nat.sub_zero, List.length_append, Nat.mul_one, zv, yo, bO, bS, z9, ze, zC, List.replicate, zE, zD, y9, allOk, yu, y8, newRow, yM, List.isEmpty, Bool.not_false, Bool.not_true, decide_eq_true_eq, zM, zP, zO, zz, zx, yc, zi, Option.map_some, Option.map_none, Option.isNone, Option.isSome, Option.getD_none, Option.getD_some, yP, zN, zn, Int.reduceToNat, Int.reduceLE, Int.reduceLT, Int.reduceBNe, Int.reduceBEq, tys, cks, h100, h101, t97, whyD_one, yz]
         rfl
       · simp only [zd, yF, yD, z0, z5, Nat.reduceLT, Nat.reduceEqDiff, decide_true, decide_false, cond_true, cond_false]
         rfl
       · rfl
       first
       | (apply y6
          · simp only [za, z0, Nat.reduceLT, decide_true, cond_true, ins]
            rfl
          · simp only [za, z0, Nat.reduceLT, decide_true, cond_true, ins]
            rfl)
       | (apply yt
          · simp only [za, z0, Nat.reduceLT, decide_true, cond_true, ins]
            rfl))
    | ((first | apply zZ | apply y5)
       · rfl
       · simp only [za, z0, Nat.reduceLT, decide_true, cond_true, ins]
         rfl)
    | (apply zY
       · simp only [z6, get, z5, Nat.reduceEqDiff, decide_true, decide_false, cond_true, cond_false])
    | (apply zA
       · simp only [z6, get, z5, Nat.reduceEqDiff, decide_true, decide_false, cond_true, cond_false])
    | (apply yq
       · kernel_rfl
       · kernel_rfl)
    | (simp only [bW, if_true, Nat.reduceEqDiff, if_false])
  all_goals try simp only [xf, finF, yI, yX, zl, get, zG, z5, Nat.reduceEqDiff, decide_true, decide_false, cond_true, cond_false, yV, snapAll, zy, List.getElem?_cons_zero, List.getElem?_cons_succ, bP, Ty.isAgg, if_true, if_false, Bool.false_eq_true, Nat.zero_add, Nat.add_zero, List.length_cons, List.length_nil, Nat.reduceAdd, Nat.reduceLeDiff, List.take, List.drop, Bool.true_and, Bool.and_self, Nat.le_refl, List.map_cons, List.length_map, List.append_nil, List.nil_append, List.cons_append, Nat.sub_zero, bO, bS, tys, Tryd.f73]
  all_goals first | done | rfl | (simp_all []; done) | trace_state

theorem t20 (p : Paper) (s ax : Int) (hwf : p.wf) : (lim cfg).pure 20 [yW p, I s, I ax] = some (if knownF p ax [s] = 0 then .tup [.agg [I (loF p s ax).n, I (loF p s ax).d], .agg [I (hiF p s ax).n, I (hiF p s ax).d], I 0] else .tup [.agg [I 0, I 0], .agg [I 0, I 0], I (knownF p ax [s])]) := by
  have h71 := t71 p ax false [s] hwf 1 (by simp) (by simp) (by simp)
  simp only [List.map_cons, List.map_nil] at h71
  by_cases hk : knownF p ax [s] = 0
  · rw [if_pos hk]
    rw [hk] at h71
    obtain ⟨hok, hp, hs, hax⟩ := known_zero.1 hk
    simp at hs
    have h73 := t73 p s ax hwf hok hs
    refine yR (yG 20) cfn20 rfl (n := 29) rfl ?_
    simp only [bW, if_true, Nat.reduceEqDiff, if_false, yJ]
    repeat' first
      | (intro hb; first | cases hb | skip)
      | ((first | apply zB | apply y7)
         · rfl
         · simp (disch := assumption) only [yx, z6, get, z5, z0, Nat.reduceEqDiff, decide_true, decide_false, cond_true, cond_false, yk, zr, zI, yg, zF, Bool.and_true, Bool.true_and, Bool.and_self, Bool.and_false, Bool.false_and, Bool.or_false, Bool.or_true, Bool.false_or, Bool.true_or, Bool.not_true, Bool.not_false, if_true, ye, List.length_cons, List.length_nil, yy, yb, z7, zu, zt, zl, List.getElem?_cons_zero, List.getElem?_cons_succ, Nat.reduceAdd, Nat.zero_add, Nat.add_zero, Nat.one_ne_zero, zT, zs, zp, yC, zG, bP, Ty.isAgg, yB, zX, zR, zm, yh, zh, zV, yj, zg, ofV, zQ, zS, Bool.false_eq_true, if_false, Nat.reduceLeDiff, Nat.reduceLT, List.take, List.drop, List.map_cons, List.map_nil, List.append_nil, List.nil_append, List.cons_append, List.set, unD, yf, snapAll, zy, yi, zJ, zj, yE, z8, zw, ym, zU, Int.toNat_natCast, Int.natCast_nonneg, Int.toNat_zero, Int.le_refl, Nat.reduceMul, Nat.zero_mul, Nat.mul_zero, yl, zc, zW, zq, zb, zf, yA, eqD, zo, zK, yp, zH, zk, Nat.le_refl, Array.toList_map, List.size_toArray, List.getElem?_toArray, Nat.sub_zero, List.length_append, Nat.mul_one, zv, yo, bO, bS, z9, ze, zC, List.replicate, zE, zD, y9, allOk, yu, y8, newRow, yM, List.isEmpty, Bool.not_false, Bool.not_true, decide_eq_true_eq, zM, zP, zO, zz, zx, yc, zi, Option.map_some, Option.map_none, Option.isNone, Option.isSome, Option.getD_none, Option.getD_some, yP, zN, zn, Int.reduceToNat, Int.reduceLE, Int.reduceLT, Int.reduceBNe, Int.reduceBEq, tys, cks, h71, h73]
           rfl
         · simp only [zd, yF, yD, z0, z5, Nat.reduceLT, Nat.reduceEqDiff, decide_true, decide_false, cond_true, cond_false]
           rfl
         · rfl
         first
         | (apply y6
            · simp only [za, z0, Nat.reduceLT, decide_true, cond_true, ins]
              rfl
            · simp only [za, z0, Nat.reduceLT, decide_true, cond_true, ins]
              rfl)
         | (apply yt
            · simp only [za, z0, Nat.reduceLT, decide_true, cond_true, ins]
              rfl))
      | ((first | apply zZ | apply y5)
         · rfl
         · simp only [za, z0, Nat.reduceLT, decide_true, cond_true, ins]
           rfl)
      | (apply zY
         · simp only [z6, get, z5, Nat.reduceEqDiff, decide_true, decide_false, cond_true, cond_false])
      | (apply zA
         · simp only [z6, get, z5, Nat.reduceEqDiff, decide_true, decide_false, cond_true, cond_false])
      | (apply yq
         · kernel_rfl
         · kernel_rfl)
      | (simp only [bW, if_true, Nat.reduceEqDiff, if_false])
    all_goals try simp only [xf, finF, yI, yX, zl, get, zG, z5, Nat.reduceEqDiff, decide_true, decide_false, cond_true, cond_false, yV, snapAll, zy, List.getElem?_cons_zero, List.getElem?_cons_succ, bP, Ty.isAgg, if_true, if_false, Bool.false_eq_true, Nat.zero_add, Nat.add_zero, List.length_cons, List.length_nil, Nat.reduceAdd, Nat.reduceLeDiff, List.take, List.drop, Bool.true_and, Bool.and_self, Nat.le_refl, List.map_cons, List.length_map, List.append_nil, List.nil_append, List.cons_append, Nat.sub_zero, bO, bS, tys, Tryd.f20]
    all_goals first | done | rfl | (simp_all []; done) | trace_state
  · rw [if_neg hk]
    have hne : (knownF p ax [s] != 0) = true := by simp [hk]
    refine yR (yG 20) cfn20 rfl (n := 29) rfl ?_
    simp only [bW, if_true, Nat.reduceEqDiff, if_false, yJ]
    repeat' first
      | (intro hb; first | cases hb | skip)
      | ((first | apply zB | apply y7)
         · rfl
         · simp (disch := assumption) only [yx, z6, get, z5, z0, Nat.reduceEqDiff, decide_true, decide_false, cond_true, cond_false, yk, zr, zI, yg, zF, Bool.and_true, Bool.true_and, Bool.and_self, Bool.and_false, Bool.false_and, Bool.or_false, Bool.or_true, Bool.false_or, Bool.true_or, Bool.not_true, Bool.not_false, if_true, ye, List.length_cons, List.length_nil, yy, yb, z7, zu, zt, zl, List.getElem?_cons_zero, List.getElem?_cons_succ, Nat.reduceAdd, Nat.zero_add, Nat.add_zero, Nat.one_ne_zero, zT, zs, zp, yC, zG, bP, Ty.isAgg, yB, zX, zR, zm, yh, zh, zV, yj, zg, ofV, zQ, zS, Bool.false_eq_true, if_false, Nat.reduceLeDiff, Nat.reduceLT, List.take, List.drop, List.map_cons, List.map_nil, List.append_nil, List.nil_append, List.cons_append, List.set, unD, yf, snapAll, zy, yi, zJ, zj, yE, z8, zw, ym, zU, Int.toNat_natCast, Int.natCast_nonneg, Int.toNat_zero, Int.le_refl, Nat.reduceMul, Nat.zero_mul, Nat.mul_zero, yl, zc, zW, zq, zb, zf, yA, eqD, zo, zK, yp, zH, zk, Nat.le_refl, Array.toList_map, List.size_toArray, List.getElem?_toArray, Nat.sub_zero, List.length_append, Nat.mul_one, zv, yo, bO, bS, z9, ze, zC, List.replicate, zE, zD, y9, allOk, yu, y8, newRow, yM, List.isEmpty, Bool.not_false, Bool.not_true, decide_eq_true_eq, zM, zP, zO, zz, zx, yc, zi, Option.map_some, Option.map_none, Option.isNone, Option.isSome, Option.getD_none, Option.getD_some, yP, zN, zn, Int.reduceToNat, Int.reduceLE, Int.reduceLT, Int.reduceBNe, Int.reduceBEq, tys, cks, h71, hne]
           rfl
         · simp only [zd, yF, yD, z0, z5, Nat.reduceLT, Nat.reduceEqDiff, decide_true, decide_false, cond_true, cond_false]
           rfl
         · rfl
         first
         | (apply y6
            · simp only [za, z0, Nat.reduceLT, decide_true, cond_true, ins]
              rfl
            · simp only [za, z0, Nat.reduceLT, decide_true, cond_true, ins]
              rfl)
         | (apply yt
            · simp only [za, z0, Nat.reduceLT, decide_true, cond_true, ins]
              rfl))
      | ((first | apply zZ | apply y5)
         · rfl
         · simp only [za, z0, Nat.reduceLT, decide_true, cond_true, ins]
           rfl)
      | (apply zY
         · simp only [z6, get, z5, Nat.reduceEqDiff, decide_true, decide_false, cond_true, cond_false])
      | (apply zA
         · simp only [z6, get, z5, Nat.reduceEqDiff, decide_true, decide_false, cond_true, cond_false])
      | (apply yq
         · kernel_rfl
         · kernel_rfl)
      | (simp only [bW, if_true, Nat.reduceEqDiff, if_false])
    all_goals try simp only [xf, finF, yI, yX, zl, get, zG, z5, Nat.reduceEqDiff, decide_true, decide_false, cond_true, cond_false, yV, snapAll, zy, List.getElem?_cons_zero, List.getElem?_cons_succ, bP, Ty.isAgg, if_true, if_false, Bool.false_eq_true, Nat.zero_add, Nat.add_zero, List.length_cons, List.length_nil, Nat.reduceAdd, Nat.reduceLeDiff, List.take, List.drop, Bool.true_and, Bool.and_self, Nat.le_refl, List.map_cons, List.length_map, List.append_nil, List.nil_append, List.cons_append, Nat.sub_zero, bO, bS, tys, Tryd.f20]
    all_goals first | done | rfl | (simp_all []; done) | trace_state

theorem isS_fold2 {es : List Edge} {now : Net} {e : Edge} (he : e ∈ es) (hb : edgeB e) (hs : isS now e.src.toNat) : isS (es.foldl (stepE now) emptyN) e.dst.toNat :=
  isS_of_edge he hs (by show e.dst.toNat < 5; obtain ⟨b1, b2, b3, b4, _⟩ := hb; omega)
theorem merge_len : ∀ {l : List (Option Chn)} {i : Nat} {out : Net}, (mergeL l i out).length = out.length
  | [], _, _ => rfl
  | none :: r, i, out => merge_len (l := r)
  | some c :: r, i, out => by simp only [mergeL]; rw [merge_len (l := r), len_put]
theorem chains_edge2 {es : List Edge} {e e' : Edge} {k : Nat} (he : e ∈ es) (hb : edgeB e) (he' : e' ∈ es) (hb' : edgeB e') (h : e'.src = e.dst) : isS (chainsF es e.src.toNat (k + 2)) e'.dst.toNat := by
  unfold chainsF
  simp only [roundsN]
  refine isS_rounds ?_
  have hs5 : e.src.toNat < emptyN.length := by obtain ⟨b1, b2, b3, b4, _⟩ := hb; show e.src.toNat < 5; omega
  have hd5 : e'.dst.toNat < emptyN.length := by obtain ⟨b1, b2, b3, b4, _⟩ := hb'; show e'.dst.toNat < 5; omega
  have h1 := isS_fold2 he hb (now := emptyN.set e.src.toNat (some ⟨⟨1, 1⟩, []⟩)) ⟨_, List.getElem?_set_self hs5⟩
  rw [← h] at h1
  obtain ⟨c, hc⟩ := isS_fold2 he' hb' h1
  have := isS_mergeL (i := 0) (out := mergeL (es.foldl (stepE (emptyN.set e.src.toNat (some ⟨⟨1, 1⟩, []⟩))) emptyN) 0 emptyN) hc (by rw [Nat.zero_add, merge_len]; exact hd5)
  rwa [Nat.zero_add] at this
def betwF (p : Paper) (a b ax : Int) : Ratio := if a = b then one1 else (chnOr (((chainsF (edges p ax) (1 + a).toNat 4)[(1 + b).toNat]?).join)).q
theorem betw_some {p : Paper} {a b : Int} (ax : Int) (hok : xc p = true) (ha : yY p a = true) (hb : yY p b = true) (hab : a ≠ b) : ∃ c, (chainsF (edges p ax) (1 + a).toNat 4)[(1 + b).toNat]? = some (some c) ∧ betwF p a b ax = c.q ∧ qB 32000000000000000 5 c := by
  obtain ⟨h1, _⟩ := sheet_edge ax ha
  obtain ⟨_, h2⟩ := sheet_edge ax hb
  have hes := (edgesB hok ax).1
  obtain ⟨c, hc⟩ := chains_edge2 (k := 2) h1 (hes _ h1) h2 (hes _ h2) rfl
  have hc' : (chainsF (edges p ax) (1 + a).toNat 4)[(1 + b).toNat]? = some (some c) := hc
  refine ⟨c, hc', ?_, (chainsF_netB hes (by omega)).2 _ (List.mem_of_getElem? hc')⟩
  unfold betwF
  rw [if_neg hab, hc']; rfl
theorem t19 (p : Paper) (a b ax : Int) (hwf : p.wf) : (lim cfg).pure 19 [yW p, I a, I b, I ax] = some (if knownF p ax [a, b] = 0 then .tup [.agg [I (betwF p a b ax).n, I (betwF p a b ax).d], I 0] else .tup [.agg [I 0, I 0], I (knownF p ax [a, b])]) := by
  have h71 := t71 p ax false [a, b] hwf 1 (by simp) (by simp) (by simp)
  simp only [List.map_cons, List.map_nil] at h71
  by_cases hk : knownF p ax [a, b] = 0
  · rw [if_pos hk]
    rw [hk] at h71
    obtain ⟨hok, hp, hs, hax⟩ := known_zero.1 hk
    simp at hs
    obtain ⟨o1, o2, _⟩ := paperOK_def hok
    by_cases hab : a = b
    · have heq : (a == b) = true := by simp [hab]
      rw [show betwF p a b ax = one1 by simp [betwF, hab]]
      refine yR (yG 19) cfn19 rfl (n := 37) rfl ?_
      simp only [bW, if_true, Nat.reduceEqDiff, if_false, yJ]
      repeat' first
        | (intro hb; first | cases hb | skip)
        | ((first | apply zB | apply y7)
           · rfl
           · simp (disch := assumption) only [yx, z6, get, z5, z0, Nat.reduceEqDiff, decide_true, decide_false, cond_true, cond_false, yk, zr, zI, yg, zF, Bool.and_true, Bool.true_and, Bool.and_self, Bool.and_false, Bool.false_and, Bool.or_false, Bool.or_true, Bool.false_or, Bool.true_or, Bool.not_true, Bool.not_false, if_true, ye, List.length_cons, List.length_nil, yy, yb, z7, zu, zt, zl, List.getElem?_cons_zero, List.getElem?_cons_succ, Nat.reduceAdd, Nat.zero_add, Nat.add_zero, Nat.one_ne_zero, zT, zs, zp, yC, zG, bP, Ty.isAgg, yB, zX, zR, zm, yh, zh, zV, yj, zg, ofV, zQ, zS, Bool.false_eq_true, if_false, Nat.reduceLeDiff, Nat.reduceLT, List.take, List.drop, List.map_cons, List.map_nil, List.append_nil, List.nil_append, List.cons_append, List.set, unD, yf, snapAll, zy, yi, zJ, zj, yE, z8, zw, ym, zU, Int.toNat_natCast, Int.natCast_nonneg, Int.toNat_zero, Int.le_refl, Nat.reduceMul, Nat.zero_mul, Nat.mul_zero, yl, zc, zW, zq, zb, zf, yA, eqD, zo, zK, yp, zH, zk, Nat.le_refl, Array.toList_map, List.size_toArray, List.getElem?_toArray, Nat.sub_zero, List.length_append, Nat.mul_one, zv, yo, bO, bS, z9, ze, zC, List.replicate, zE, zD, y9, allOk, yu, y8, newRow, yM, List.isEmpty, Bool.not_false, Bool.not_true, decide_eq_true_eq, zM, zP, zO, zz, zx, yc, zi, Option.map_some, Option.map_none, Option.isNone, Option.isSome, Option.getD_none, Option.getD_some, yP, zN, zn, Int.reduceToNat, Int.reduceLE, Int.reduceLT, Int.reduceBNe, Int.reduceBEq, tys, cks, h71, heq, cfg_glob0]
             rfl
           · simp only [zd, yF, yD, z0, z5, Nat.reduceLT, Nat.reduceEqDiff, decide_true, decide_false, cond_true, cond_false]
             rfl
           · rfl
           first
           | (apply y6
              · simp only [za, z0, Nat.reduceLT, decide_true, cond_true, ins]
                rfl
              · simp only [za, z0, Nat.reduceLT, decide_true, cond_true, ins]
                rfl)
           | (apply yt
              · simp only [za, z0, Nat.reduceLT, decide_true, cond_true, ins]
                rfl))
        | ((first | apply zZ | apply y5)
           · rfl
           · simp only [za, z0, Nat.reduceLT, decide_true, cond_true, ins]
             rfl)
        | (apply zY
           · simp only [z6, get, z5, Nat.reduceEqDiff, decide_true, decide_false, cond_true, cond_false])
        | (apply zA
           · simp only [z6, get, z5, Nat.reduceEqDiff, decide_true, decide_false, cond_true, cond_false])
        | (apply yq
           · kernel_rfl
           · kernel_rfl)
        | (simp only [bW, if_true, Nat.reduceEqDiff, if_false])
      all_goals try simp only [xf, finF, yI, yX, zl, get, zG, z5, Nat.reduceEqDiff, decide_true, decide_false, cond_true, cond_false, yV, snapAll, zy, List.getElem?_cons_zero, List.getElem?_cons_succ, bP, Ty.isAgg, if_true, if_false, Bool.false_eq_true, Nat.zero_add, Nat.add_zero, List.length_cons, List.length_nil, Nat.reduceAdd, Nat.reduceLeDiff, List.take, List.drop, Bool.true_and, Bool.and_self, Nat.le_refl, List.map_cons, List.length_map, List.append_nil, List.nil_append, List.cons_append, Nat.sub_zero, bO, bS, tys, Tryd.f19]
      all_goals first | done | rfl | (simp_all []; done) | trace_state
    · have heq : (a == b) = false := by simp [hab]
      obtain ⟨c, hc, hcq, _⟩ := betw_some ax hok hs.1 hs.2 hab
      rw [hcq]
      have h68 := t68 p ax hwf hok
      obtain ⟨hes, hlen⟩ := edgesB hok ax
      have hsa := hs.1
      have hsb := hs.2
      simp [yY] at hsa hsb
      obtain ⟨A, hA⟩ := Int.eq_ofNat_of_zero_le (show 0 ≤ 1 + a by omega)
      obtain ⟨N, hN⟩ := Int.eq_ofNat_of_zero_le (show 0 ≤ 1 + b by omega)
      have hwa : IntKind.i64.wrap (1 + a) = (A : Int) := by rw [wrap_i64 (by omega) (by omega), hA]
      have hwb : IntKind.i64.wrap (1 + b) = (N : Int) := by rw [wrap_i64 (by omega) (by omega), hN]
      have hA' : (1 + a).toNat = A := by rw [hA]; rfl
      have hN' : (1 + b).toNat = N := by rw [hN]; rfl
      rw [hA', hN'] at hc
      have h72 := t72 (edges p ax) A 4 hes hlen (by omega) (by omega)
      have hnet : ((chainsF (edges p ax) A 4).map yz)[N]? = some (yz (some c)) := by rw [List.getElem?_map, hc]; rfl
      have hlt5 : (N < 5) = True := by simp; omega
      simp only [Int.cast_ofNat_Int] at h72
      refine yR (yG 19) cfn19 rfl (n := 37) rfl ?_
      simp only [bW, if_true, Nat.reduceEqDiff, if_false, yJ]
      repeat' first
        | (intro hb; first | cases hb | skip)
        | ((first | apply zB | apply y7)
           · rfl
           · simp (disch := assumption) only [yx, z6, get, z5, z0, Nat.reduceEqDiff, decide_true, decide_false, cond_true, cond_false, yk, zr, zI, yg, zF, Bool.and_true, Bool.true_and, Bool.and_self, Bool.and_false, Bool.false_and, Bool.or_false, Bool.or_true, Bool.false_or, Bool.true_or, Bool.not_true, Bool.not_false, if_true, ye, List.length_cons, List.length_nil, yy, yb, z7, zu, zt, zl, List.getElem?_cons_zero, List.getElem?_cons_succ, Nat.reduceAdd, Nat.zero_add, Nat.add_zero, Nat.one_ne_zero, zT, zs, zp, yC, zG, bP, Ty.isAgg, yB, zX, zR, zm, yh, zh, zV, yj, zg, ofV, zQ, zS, Bool.false_eq_true, if_false, Nat.reduceLeDiff, Nat.reduceLT, List.take, List.drop, List.map_cons, List.map_nil, List.append_nil, List.nil_append, List.cons_append, List.set, unD, yf, snapAll, zy, yi, zJ, zj, yE, z8, zw, ym, zU, Int.toNat_natCast, Int.natCast_nonneg, Int.toNat_zero, Int.le_refl, Nat.reduceMul, Nat.zero_mul, Nat.mul_zero, yl, zc, zW, zq, zb, zf, yA, eqD, zo, zK, yp, zH, zk, Nat.le_refl, Array.toList_map, List.size_toArray, List.getElem?_toArray, Nat.sub_zero, List.length_append, Nat.mul_one, zv, yo, bO, bS, z9, ze, zC, List.replicate, zE, zD, y9, allOk, yu, y8, newRow, yM, List.isEmpty, Bool.not_false, Bool.not_true, decide_eq_true_eq, zM, zP, zO, zz, zx, yc, zi, Option.map_some, Option.map_none, Option.isNone, Option.isSome, Option.getD_none, Option.getD_some, yP, zN, zn, Int.reduceToNat, Int.reduceLE, Int.reduceLT, Int.reduceBNe, Int.reduceBEq, tys, cks, h71, heq, h68, hwa, hwb, h72, hnet, yz, whyD_one, encOC_one, hlt5, Int.toNat_natCast, Int.natCast_nonneg]
             rfl
           · simp only [zd, yF, yD, z0, z5, Nat.reduceLT, Nat.reduceEqDiff, decide_true, decide_false, cond_true, cond_false]
             rfl
           · rfl
           first
           | (apply y6
              · simp only [za, z0, Nat.reduceLT, decide_true, cond_true, ins]
                rfl
              · simp only [za, z0, Nat.reduceLT, decide_true, cond_true, ins]
                rfl)
           | (apply yt
              · simp only [za, z0, Nat.reduceLT, decide_true, cond_true, ins]
                rfl))
        | ((first | apply zZ | apply y5)
           · rfl
           · simp only [za, z0, Nat.reduceLT, decide_true, cond_true, ins]
             rfl)
        | (apply zY
           · simp only [z6, get, z5, Nat.reduceEqDiff, decide_true, decide_false, cond_true, cond_false])
        | (apply zA
           · simp only [z6, get, z5, Nat.reduceEqDiff, decide_true, decide_false, cond_true, cond_false])
        | (apply yq
           · kernel_rfl
           · kernel_rfl)
        | (simp only [bW, if_true, Nat.reduceEqDiff, if_false])
      all_goals try simp only [xf, finF, yI, yX, zl, get, zG, z5, Nat.reduceEqDiff, decide_true, decide_false, cond_true, cond_false, yV, snapAll, zy, List.getElem?_cons_zero, List.getElem?_cons_succ, bP, Ty.isAgg, if_true, if_false, Bool.false_eq_true, Nat.zero_add, Nat.add_zero, List.length_cons, List.length_nil, Nat.reduceAdd, Nat.reduceLeDiff, List.take, List.drop, Bool.true_and, Bool.and_self, Nat.le_refl, List.map_cons, List.length_map, List.append_nil, List.nil_append, List.cons_append, Nat.sub_zero, bO, bS, tys, Tryd.f19]
      all_goals first | done | rfl | (simp_all []; done) | trace_state
  · rw [if_neg hk]
    have hne : (knownF p ax [a, b] != 0) = true := by simp [hk]
    refine yR (yG 19) cfn19 rfl (n := 37) rfl ?_
    simp only [bW, if_true, Nat.reduceEqDiff, if_false, yJ]
    repeat' first
      | (intro hb; first | cases hb | skip)
      | ((first | apply zB | apply y7)
         · rfl
         · simp (disch := assumption) only [yx, z6, get, z5, z0, Nat.reduceEqDiff, decide_true, decide_false, cond_true, cond_false, yk, zr, zI, yg, zF, Bool.and_true, Bool.true_and, Bool.and_self, Bool.and_false, Bool.false_and, Bool.or_false, Bool.or_true, Bool.false_or, Bool.true_or, Bool.not_true, Bool.not_false, if_true, ye, List.length_cons, List.length_nil, yy, yb, z7, zu, zt, zl, List.getElem?_cons_zero, List.getElem?_cons_succ, Nat.reduceAdd, Nat.zero_add, Nat.add_zero, Nat.one_ne_zero, zT, zs, zp, yC, zG, bP, Ty.isAgg, yB, zX, zR, zm, yh, zh, zV, yj, zg, ofV, zQ, zS, Bool.false_eq_true, if_false, Nat.reduceLeDiff, Nat.reduceLT, List.take, List.drop, List.map_cons, List.map_nil, List.append_nil, List.nil_append, List.cons_append, List.set, unD, yf, snapAll, zy, yi, zJ, zj, yE, z8, zw, ym, zU, Int.toNat_natCast, Int.natCast_nonneg, Int.toNat_zero, Int.le_refl, Nat.reduceMul, Nat.zero_mul, Nat.mul_zero, yl, zc, zW, zq, zb, zf, yA, eqD, zo, zK, yp, zH, zk, Nat.le_refl, Array.toList_map, List.size_toArray, List.getElem?_toArray, Nat.sub_zero, List.length_append, Nat.mul_one, zv, yo, bO, bS, z9, ze, zC, List.replicate, zE, zD, y9, allOk, yu, y8, newRow, yM, List.isEmpty, Bool.not_false, Bool.not_true, decide_eq_true_eq, zM, zP, zO, zz, zx, yc, zi, Option.map_some, Option.map_none, Option.isNone, Option.isSome, Option.getD_none, Option.getD_some, yP, zN, zn, Int.reduceToNat, Int.reduceLE, Int.reduceLT, Int.reduceBNe, Int.reduceBEq, tys, cks, h71, hne]
           rfl
         · simp only [zd, yF, yD, z0, z5, Nat.reduceLT, Nat.reduceEqDiff, decide_true, decide_false, cond_true, cond_false]
           rfl
         · rfl
         first
         | (apply y6
            · simp only [za, z0, Nat.reduceLT, decide_true, cond_true, ins]
              rfl
            · simp only [za, z0, Nat.reduceLT, decide_true, cond_true, ins]
              rfl)
         | (apply yt
            · simp only [za, z0, Nat.reduceLT, decide_true, cond_true, ins]
              rfl))
      | ((first | apply zZ | apply y5)
         · rfl
         · simp only [za, z0, Nat.reduceLT, decide_true, cond_true, ins]
           rfl)
      | (apply zY
         · simp only [z6, get, z5, Nat.reduceEqDiff, decide_true, decide_false, cond_true, cond_false])
      | (apply zA
         · simp only [z6, get, z5, Nat.reduceEqDiff, decide_true, decide_false, cond_true, cond_false])
      | (apply yq
         · kernel_rfl
         · kernel_rfl)
      | (simp only [bW, if_true, Nat.reduceEqDiff, if_false])
    all_goals try simp only [xf, finF, yI, yX, zl, get, zG, z5, Nat.reduceEqDiff, decide_true, decide_false, cond_true, cond_false, yV, snapAll, zy, List.getElem?_cons_zero, List.getElem?_cons_succ, bP, Ty.isAgg, if_true, if_false, Bool.false_eq_true, Nat.zero_add, Nat.add_zero, List.length_cons, List.length_nil, Nat.reduceAdd, Nat.reduceLeDiff, List.take, List.drop, Bool.true_and, Bool.and_self, Nat.le_refl, List.map_cons, List.length_map, List.append_nil, List.nil_append, List.cons_append, Nat.sub_zero, bO, bS, tys, Tryd.f19]
    all_goals first | done | rfl | (simp_all []; done) | trace_state

theorem t30 (p : Paper) (hwf : p.wf) : (lim cfg).pure 30 [yW p] = some (if xc p then .tup [B (possibleF p), I 0] else .tup [B false, I 30]) := by
  have h15 := t15 p hwf
  unfold check at h15
  cases hok : xc p with
  | false =>
    rw [hok] at h15
    simp only [Bool.false_eq_true, if_false] at h15 ⊢
    refine yR (yG 30) cfn30 rfl (n := 12) rfl ?_
    simp only [bW, if_true, Nat.reduceEqDiff, if_false, yJ]
    repeat' first
      | (intro hb; first | cases hb | skip)
      | ((first | apply zB | apply y7)
         · rfl
         · simp (disch := assumption) only [yx, z6, get, z5, z0, Nat.reduceEqDiff, decide_true, decide_false, cond_true, cond_false, yk, zr, zI, yg, zF, Bool.and_true, Bool.true_and, Bool.and_self, Bool.and_false, Bool.false_and, Bool.or_false, Bool.or_true, Bool.false_or, Bool.true_or, Bool.not_true, Bool.not_false, if_true, ye, List.length_cons, List.length_nil, yy, yb, z7, zu, zt, zl, List.getElem?_cons_zero, List.getElem?_cons_succ, Nat.reduceAdd, Nat.zero_add, Nat.add_zero, Nat.one_ne_zero, zT, zs, zp, yC, zG, bP, Ty.isAgg, yB, zX, zR, zm, yh, zh, zV, yj, zg, ofV, zQ, zS, Bool.false_eq_true, if_false, Nat.reduceLeDiff, Nat.reduceLT, List.take, List.drop, List.map_cons, List.map_nil, List.append_nil, List.nil_append, List.cons_append, List.set, unD, yf, snapAll, zy, yi, zJ, zj, yE, z8, zw, ym, zU, Int.toNat_natCast, Int.natCast_nonneg, Int.toNat_zero, Int.le_refl, Nat.reduceMul, Nat.zero_mul, Nat.mul_zero, yl, zc, zW, zq, zb, zf, yA, eqD, zo, zK, yp, zH, zk, Nat.le_refl, Array.toList_map, List.size_toArray, List.getElem?_toArray, Nat.sub_zero, List.length_append, Nat.mul_one, zv, yo, bO, bS, z9, ze, zC, List.replicate, zE, zD, y9, allOk, yu, y8, newRow, yM, List.isEmpty, Bool.not_false, Bool.not_true, decide_eq_true_eq, zM, zP, zO, zz, zx, yc, zi, Option.map_some, Option.map_none, Option.isNone, Option.isSome, Option.getD_none, Option.getD_some, yP, zN, zn, Int.reduceToNat, Int.reduceLE, Int.reduceLT, Int.reduceBNe, Int.reduceBEq, tys, cks, h15]
           rfl
         · simp only [zd, yF, yD, z0, z5, Nat.reduceLT, Nat.reduceEqDiff, decide_true, decide_false, cond_true, cond_false]
           rfl
         · rfl
         first
         | (apply y6
            · simp only [za, z0, Nat.reduceLT, decide_true, cond_true, ins]
              rfl
            · simp only [za, z0, Nat.reduceLT, decide_true, cond_true, ins]
              rfl)
         | (apply yt
            · simp only [za, z0, Nat.reduceLT, decide_true, cond_true, ins]
              rfl))
      | ((first | apply zZ | apply y5)
         · rfl
         · simp only [za, z0, Nat.reduceLT, decide_true, cond_true, ins]
           rfl)
      | (apply zY
         · simp only [z6, get, z5, Nat.reduceEqDiff, decide_true, decide_false, cond_true, cond_false])
      | (apply zA
         · simp only [z6, get, z5, Nat.reduceEqDiff, decide_true, decide_false, cond_true, cond_false])
      | (apply yq
         · kernel_rfl
         · kernel_rfl)
      | (simp only [bW, if_true, Nat.reduceEqDiff, if_false])
    all_goals try simp only [xf, finF, yI, yX, zl, get, zG, z5, Nat.reduceEqDiff, decide_true, decide_false, cond_true, cond_false, yV, snapAll, zy, List.getElem?_cons_zero, List.getElem?_cons_succ, bP, Ty.isAgg, if_true, if_false, Bool.false_eq_true, Nat.zero_add, Nat.add_zero, List.length_cons, List.length_nil, Nat.reduceAdd, Nat.reduceLeDiff, List.take, List.drop, Bool.true_and, Bool.and_self, Nat.le_refl, List.map_cons, List.length_map, List.append_nil, List.nil_append, List.cons_append, Nat.sub_zero, bO, bS, tys, Tryd.f30]
    all_goals first | done | rfl | (simp_all []; done) | trace_state
  | true =>
    rw [hok] at h15
    simp only [if_true] at h15 ⊢
    have h79 := t79' p hwf hok
    cases hp : possibleF p <;> rw [hp] at h79
    all_goals
      refine yR (yG 30) cfn30 rfl (n := 12) rfl ?_
      simp only [bW, if_true, Nat.reduceEqDiff, if_false, yJ]
      repeat' first
        | (intro hb; first | cases hb | skip)
        | ((first | apply zB | apply y7)
           · rfl
           · simp (disch := assumption) only [yx, z6, get, z5, z0, Nat.reduceEqDiff, decide_true, decide_false, cond_true, cond_false, yk, zr, zI, yg, zF, Bool.and_true, Bool.true_and, Bool.and_self, Bool.and_false, Bool.false_and, Bool.or_false, Bool.or_true, Bool.false_or, Bool.true_or, Bool.not_true, Bool.not_false, if_true, ye, List.length_cons, List.length_nil, yy, yb, z7, zu, zt, zl, List.getElem?_cons_zero, List.getElem?_cons_succ, Nat.reduceAdd, Nat.zero_add, Nat.add_zero, Nat.one_ne_zero, zT, zs, zp, yC, zG, bP, Ty.isAgg, yB, zX, zR, zm, yh, zh, zV, yj, zg, ofV, zQ, zS, Bool.false_eq_true, if_false, Nat.reduceLeDiff, Nat.reduceLT, List.take, List.drop, List.map_cons, List.map_nil, List.append_nil, List.nil_append, List.cons_append, List.set, unD, yf, snapAll, zy, yi, zJ, zj, yE, z8, zw, ym, zU, Int.toNat_natCast, Int.natCast_nonneg, Int.toNat_zero, Int.le_refl, Nat.reduceMul, Nat.zero_mul, Nat.mul_zero, yl, zc, zW, zq, zb, zf, yA, eqD, zo, zK, yp, zH, zk, Nat.le_refl, Array.toList_map, List.size_toArray, List.getElem?_toArray, Nat.sub_zero, List.length_append, Nat.mul_one, zv, yo, bO, bS, z9, ze, zC, List.replicate, zE, zD, y9, allOk, yu, y8, newRow, yM, List.isEmpty, Bool.not_false, Bool.not_true, decide_eq_true_eq, zM, zP, zO, zz, zx, yc, zi, Option.map_some, Option.map_none, Option.isNone, Option.isSome, Option.getD_none, Option.getD_some, yP, zN, zn, Int.reduceToNat, Int.reduceLE, Int.reduceLT, Int.reduceBNe, Int.reduceBEq, tys, cks, h15, h79]
             rfl
           · simp only [zd, yF, yD, z0, z5, Nat.reduceLT, Nat.reduceEqDiff, decide_true, decide_false, cond_true, cond_false]
             rfl
           · rfl
           first
           | (apply y6
              · simp only [za, z0, Nat.reduceLT, decide_true, cond_true, ins]
                rfl
              · simp only [za, z0, Nat.reduceLT, decide_true, cond_true, ins]
                rfl)
           | (apply yt
              · simp only [za, z0, Nat.reduceLT, decide_true, cond_true, ins]
                rfl))
        | ((first | apply zZ | apply y5)
           · rfl
           · simp only [za, z0, Nat.reduceLT, decide_true, cond_true, ins]
             rfl)
        | (apply zY
           · simp only [z6, get, z5, Nat.reduceEqDiff, decide_true, decide_false, cond_true, cond_false])
        | (apply zA
           · simp only [z6, get, z5, Nat.reduceEqDiff, decide_true, decide_false, cond_true, cond_false])
        | (apply yq
           · kernel_rfl
           · kernel_rfl)
        | (simp only [bW, if_true, Nat.reduceEqDiff, if_false])
      all_goals try simp only [xf, finF, yI, yX, zl, get, zG, z5, Nat.reduceEqDiff, decide_true, decide_false, cond_true, cond_false, yV, snapAll, zy, List.getElem?_cons_zero, List.getElem?_cons_succ, bP, Ty.isAgg, if_true, if_false, Bool.false_eq_true, Nat.zero_add, Nat.add_zero, List.length_cons, List.length_nil, Nat.reduceAdd, Nat.reduceLeDiff, List.take, List.drop, Bool.true_and, Bool.and_self, Nat.le_refl, List.map_cons, List.length_map, List.append_nil, List.nil_append, List.cons_append, Nat.sub_zero, bO, bS, tys, Tryd.f30]
      all_goals first | done | rfl | (simp_all []; done) | trace_state


end Go.VS
