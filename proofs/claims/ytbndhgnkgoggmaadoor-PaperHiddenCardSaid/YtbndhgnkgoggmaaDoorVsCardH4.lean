/- Nothing of a statement is proved in this text alone: it is part 4 of the proof's own tools, an evaluator of the code over deep values, its soundness, and what it makes of this seat's functions. Conditions: none beyond the statement's own. -/
import Derived.Test.YtbndhgnkgoggmaaDoorVsCardH3
set_option linter.unusedSimpArgs false
set_option linter.unusedVariables false
/-
  Factors that a paper allows lie between the ends; the ends are allowed. (A text of this claim's own; nothing of it is trusted.)
-/
namespace Go.VS
open Go Go.VS.Walks
/-! ### rounding -/
theorem vq_int (z : Int) : vq z 1 = (z : Rat) := by have := vq_cancel (n := z) (d := 1) (by decide); simpa using this
theorem int_mul_vR (x : Int) (r : Ratio) : (x : Rat) * vR r = vq (x * r.n) r.d := by
  rw [← vq_int]; unfold vR; rw [vq_mul, Int.one_mul]
theorem dn_le {x : Int} {r : Ratio} (hd : 1 ≤ r.d) : ((dnF x r : Int) : Rat) ≤ (x : Rat) * vR r := by
  rw [int_mul_vR, ← vq_int, vq_le (by decide) (by omega), Int.mul_one]
  unfold dnF
  exact Int.ediv_mul_le _ (by omega)
theorem le_dn {x z : Int} {r : Ratio} (hd : 1 ≤ r.d) (h : (z : Rat) ≤ (x : Rat) * vR r) : z ≤ dnF x r := by
  rw [int_mul_vR, ← vq_int, vq_le (by decide) (by omega), Int.mul_one] at h
  unfold dnF
  exact (Int.le_ediv_iff_mul_le (by omega)).2 h
theorem le_up {x : Int} {r : Ratio} (hd : 1 ≤ r.d) : (x : Rat) * vR r ≤ ((upR x r : Int) : Rat) := by
  rw [int_mul_vR, ← vq_int, vq_le (by omega) (by decide), Int.mul_one]
  unfold upR
  have h1 := Int.mul_ediv_add_emod (x * r.n) r.d
  have h2 := Int.emod_lt_of_pos (x * r.n) (show 0 < r.d by omega)
  have h3 : (x * r.n / r.d + 1) * r.d = r.d * (x * r.n / r.d) + r.d := by rw [Int.add_mul, Int.mul_comm, Int.one_mul]
  have h4 : (x * r.n / r.d) * r.d = r.d * (x * r.n / r.d) := Int.mul_comm _ _
  split <;> omega
theorem up_le {x z : Int} {r : Ratio} (hd : 1 ≤ r.d) (h : (x : Rat) * vR r ≤ (z : Rat)) : upR x r ≤ z := by
  rw [int_mul_vR, ← vq_int, vq_le (by omega) (by decide), Int.mul_one] at h
  unfold upR
  have h1 := Int.mul_ediv_add_emod (x * r.n) r.d
  have h2 := Int.emod_nonneg (x * r.n) (show r.d ≠ 0 by omega)
  split
  · rename_i h0
    have : r.d * (x * r.n / r.d) ≤ r.d * z := by rw [Int.mul_comm r.d z]; omega
    exact Int.le_of_mul_le_mul_left this (by omega)
  · rename_i h0
    have : r.d * (x * r.n / r.d) < r.d * z := by rw [Int.mul_comm r.d z]; omega
    have := Int.lt_of_mul_lt_mul_left this (by omega)
    omega
theorem int_le {a b : Int} : (a : Rat) ≤ (b : Rat) ↔ a ≤ b := by
  rw [← vq_int, ← vq_int, vq_le (by decide) (by decide)]; omega
theorem vR_inv {r : Ratio} (h1 : 1 ≤ r.n) (h2 : 1 ≤ r.d) : vR r * vR (invR r) = 1 := by
  unfold vR invR
  rw [vq_mul, Int.mul_comm, ← vq_one]
  have hp := Int.mul_le_mul h2 h1 (by omega) (by omega)
  have h3 : vq (r.d * r.n) (r.d * r.n) ≤ vq 1 1 := by rw [vq_le (by omega) (by decide)]; omega
  have h4 : vq 1 1 ≤ vq (r.d * r.n) (r.d * r.n) := by rw [vq_le (by decide) (by omega)]; omega
  exact Rat.le_antisymm h3 h4
/-! ### factors along walks -/
theorem axF_ok {f : F4} (h : f4OK f = true) (ax : Int) : 1 ≤ (axF f ax).n ∧ 1 ≤ (axF f ax).d := by
  simp only [f4OK, ratioOK, Bool.and_eq_true, decide_eq_true_eq] at h
  unfold axF
  split <;> simp only [] <;> omega
theorem fac_pos {fs : List F4} (h : fs.all f4OK = true) (ax node : Int) : 1 ≤ (zB fs ax node).n ∧ 1 ≤ (zB fs ax node).d := by
  have := factor_ok (ax := ax) (node := node) h
  simp only [ratioOK, Bool.and_eq_true, decide_eq_true_eq] at this
  omega
theorem fine_iff2 {fs : List F4} {ax : Int} {e : Edge} (h : fs.all f4OK = true) (hb : edgeB e) : edgeFine fs ax e = true ↔ vR (zB fs ax e.src) ≤ vR e.q * vR (zB fs ax e.dst) := by
  obtain ⟨a1, a2⟩ := fac_pos h ax e.src
  obtain ⟨b1, b2⟩ := fac_pos h ax e.dst
  obtain ⟨-, -, -, -, q1, q2, q3, q4⟩ := hb
  have hp := Int.mul_le_mul q3 b2 (by omega) (by omega)
  unfold edgeFine
  rw [decide_eq_true_eq]
  unfold vR
  rw [vq_mul, vq_le (by omega) (by omega), Int.mul_assoc, ← Int.mul_assoc]
structure Fine (p : Paper) (fs : List F4) : Prop where
  ok : zu p = true
  len : (fs.length : Int) = p.sheets
  all : fs.all f4OK = true
  f0 : factorsFine p fs 0 = true
  f1 : factorsFine p fs 1 = true
theorem fine_of {p : Paper} {fs : List F4} : checkFF p fs = 0 ↔ Fine p fs := by
  unfold checkFF
  constructor
  · intro h
    split at h
    · rename_i hok
      split at h
      · rename_i h2
        split at h
        · rename_i h3
          rw [Bool.and_eq_true] at h3
          exact ⟨hok, h2.1, h2.2, h3.1, h3.2⟩
        · cases h
      · cases h
    · cases h
  · rintro ⟨a, b, c, d, e⟩
    rw [if_pos a, if_pos ⟨b, c⟩, d, e]; rfl
theorem fac_rpos {p : Paper} {fs : List F4} (hF : Fine p fs) {ax : Int} (_ : zO ax = true) (node : Int) : 0 < vR (zB fs ax node) := by
  obtain ⟨a, b⟩ := fac_pos hF.all ax node
  exact vq_pos (by omega) (by omega)
theorem fac_at {p : Paper} {fs : List F4} (_ : Fine p fs) {ax : Int} (_ : zO ax = true) {i : Nat} {f : F4} (hf : fs[i]? = some f) : zB fs ax ((1 + i : Nat) : Int) = axF f ax := by
  unfold zB
  rw [if_neg (by omega), show (((1 + i : Nat) : Int) - 1).toNat = i by omega, hf]
theorem fac_zero {p : Paper} {fs : List F4} (_ : Fine p fs) {ax : Int} (_ : zO ax = true) : zB fs ax ((0 : Nat) : Int) = one1 := by unfold zB; exact if_pos (by simp)
section
variable {p : Paper} {fs : List F4} (hF : Fine p fs) {ax : Int} (hax : zO ax = true)
include hF hax
theorem fine_edge {e : Edge} (he : e ∈ zv p ax) : vR (zB fs ax e.src) ≤ vR e.q * vR (zB fs ax e.dst) := by
  have h : factorsFine p fs ax = true := by
    simp [zO] at hax
    rcases hax with rfl | rfl
    · exact hF.f0
    · exact hF.f1
  exact (fine_iff2 hF.all (edge_nodes hF.ok he).1).1 (List.all_eq_true.1 h e he)
theorem fine_walk : ∀ {w : List Edge} {a b : Nat}, Wk (zv p ax) a w b → vR (zB fs ax a) ≤ prE w * vR (zB fs ax b)
  | [], a, b, hw => by
    have : a = b := hw.1
    rw [this, show prE [] = 1 from rfl, Rat.one_mul]; exact Rat.le_refl
  | e :: w, a, b, hw => by
    have hin := hw.2 e (by simp)
    obtain ⟨hb, h1, h2⟩ := edge_in hF.ok hin
    have hs : e.src.toNat = a := hw.1.2.1
    have ih := fine_walk (w := w) (a := e.dst.toNat) (b := b) ⟨hw.1.2.2, fun e' h' => hw.2 e' (List.mem_cons_of_mem _ h')⟩
    have h3 := fine_edge hF hax hin
    rw [show ((e.dst.toNat : Nat) : Int) = e.dst by omega] at ih
    rw [show (a : Int) = e.src by omega]
    refine Rat.le_trans h3 ?_
    show vR e.q * vR (zB fs ax e.dst) ≤ vR e.q * prE w * vR (zB fs ax b)
    rw [Rat.mul_assoc]
    exact Rat.mul_le_mul_of_nonneg_left ih (Rat.le_of_lt (edge_pos hb))
theorem fine_closed {w : List Edge} {a : Nat} (hw : Wk (zv p ax) a w a) : 1 ≤ prE w := by
  have h := fine_walk hF hax hw
  have hp := fac_rpos hF hax a
  refine Rat.le_of_mul_le_mul_right (c := vR (zB fs ax a)) ?_ hp
  rw [Rat.one_mul]; exact h
theorem fine_none : clashA p ax = none := by
  obtain ⟨o1, o2, -⟩ := zI hF.ok
  refine clash_of fun k h1 h2 c hc => ?_
  obtain ⟨n, n1, n2, w, w1, w2, w3, w4, w5⟩ := (chains_spec (fun e he => (edge_nodes hF.ok he).1) (show k < 5 by omega) 5).2.1 k c hc
  have hp := fine_closed hF hax w2
  cases hlt : ltR c.q one1 with
  | false => rfl
  | true =>
    rw [ltR_iff w5.2.1 (by decide), one_vR, w3] at hlt
    exact absurd hlt (Rat.not_lt.2 hp)
theorem fine_between {i : Nat} {f : F4} (hf : fs[i]? = some f) : vR (axF f ax) ≤ vR (hiF p i ax) ∧ vR (loF p i ax) ≤ vR (axF f ax) := by
  have hi : (i : Int) < p.sheets := by
    have := (List.getElem?_eq_some_iff.1 hf).1
    have := hF.len
    omega
  have hc := fine_none hF hax
  obtain ⟨_, w, w1, _, w3⟩ := dist_real hF.ok ax (show ((1 + i : Nat) : Int) < 1 + p.sheets by omega) (show ((0 : Nat) : Int) < 1 + p.sheets by omega)
  obtain ⟨r2, v, v1, _, v3⟩ := dist_real hF.ok ax (show ((0 : Nat) : Int) < 1 + p.sheets by omega) (show ((1 + i : Nat) : Int) < 1 + p.sheets by omega)
  have h1 := fine_walk hF hax w1
  have h2 := fine_walk hF hax v1
  rw [fac_at hF hax hf, fac_zero hF hax, one_vR] at h1 h2
  rw [hi_dist, lo_dist2]
  rw [← w3, Rat.mul_one] at h1
  rw [← v3] at h2
  refine ⟨h1, ?_⟩
  have hinv := vR_inv r2.1 r2.2.1
  have hp := red_pos r2
  refine Rat.le_of_mul_le_mul_left (c := vR (distF p ax 0 (1 + i))) ?_ hp
  rw [show (⟨(distF p ax 0 (1 + i)).d, (distF p ax 0 (1 + i)).n⟩ : Ratio) = invR (distF p ax 0 (1 + i)) from rfl, hinv]
  exact h2
end
theorem fine_possible {p : Paper} {fs : List F4} (hF : Fine p fs) : possibleF p = true := by
  unfold possibleF
  rw [fine_none hF (show zO 0 = true from rfl), fine_none hF (show zO 1 = true from rfl)]; rfl
/-! ### what a list that is followed comes to -/
theorem go_real {p : Paper} (hok : zu p = true) {ax : Int} : ∀ (l : List Reason) (b : Bool) (q : Ratio) (s a : Int) (t : Int × Int × Ratio), goG (zv p ax) lowM l b q s a = some t → redR q → (b = true → l ≠ []) → 0 ≤ a →
    ∃ w : List Edge, w.length = l.length ∧ (b = false → t.1 = s ∧ Wk (zv p ax) a.toNat w t.2.1.toNat) ∧ (b = true → Wk (zv p ax) t.1.toNat w t.2.1.toNat) ∧ redR t.2.2 ∧ vR t.2.2 = vR q * prE w
  | [], b, q, s, a, t, h, hq, hb, ha => by
    cases h
    refine ⟨[], rfl, fun _ => ⟨rfl, wk_nil _ _⟩, fun h => absurd rfl (hb h), hq, by rw [show prE [] = 1 from rfl, Rat.mul_one]⟩
  | r :: rs, b, q, s, a, t, h, hq, hb, ha => by
    simp only [goG] at h
    cases hf : findW (zv p ax) r with
    | none => rw [hf] at h; cases h
    | some e =>
      rw [hf] at h
      simp only at h
      obtain ⟨he, -⟩ := findW_iff.1 hf
      obtain ⟨hbd, k1, k2⟩ := edge_in hok he
      obtain ⟨x1, x2⟩ := lowM_spec hq hbd
      split at h
      · cases h
      · rename_i hn
        obtain ⟨w, w1, w2, -, w4, w5⟩ := go_real hok rs false (lowM q e) (if b then e.src else s) e.dst t h x1 (by simp) k2.1
        obtain ⟨w2, w3⟩ := w2 rfl
        have hcons := wk_append (wk_one he) w3
        refine ⟨e :: w, by simp [w1], fun hbf => ?_, fun hbt => ?_, w4, ?_⟩
        · rw [hbf] at w2 hn
          have hsa : e.src = a := Classical.byContradiction fun h => hn ⟨rfl, h⟩
          rw [← hsa]
          exact ⟨w2, hcons⟩
        · rw [hbt] at w2
          simp only [if_true] at w2
          rw [w2]; exact hcons
        · rw [w5, x2, Rat.mul_assoc]; rfl
theorem follow_real {p : Paper} (hok : zu p = true) {ax : Int} {l : List Reason} {s a : Int} {q : Ratio} (h : followO p ax l = some (s, a, q)) : ∃ w, 1 ≤ w.length ∧ Wk (zv p ax) s.toNat w a.toNat ∧ vR q = prE w := by
  unfold followO at h
  split at h
  · rename_i hl
    obtain ⟨w, w1, _, w3, w4, w5⟩ := go_real hok l true one1 0 0 _ h red_one (fun _ h => by rw [h] at hl; simp at hl) (by omega)
    refine ⟨w, by omega, w3 rfl, ?_⟩
    simp only [] at w5
    rw [w5, one_vR, Rat.one_mul]
  · cases h
end Go.VS
namespace Go.VS
open Go Go.Proofs
set_option maxHeartbeats 0
set_option linter.unusedSimpArgs false

noncomputable def lp42_7 : Code := zD [1, 1, 1, 0, 1, 0, 0] (zt Tryd.f42)
theorem lk42_7 : cfg.keep 42 (zw lp42_7) = [1, 3, 5, 6, 23] := by kernel_rfl

theorem t118 (x y : Int) (hx : 0 ≤ x) (hx' : x < 9223372036854775808) (hy : 1 ≤ y) (hy' : y < 9223372036854775808) : (lim cfg).pure 118 [U 0, U x, U y] = some (.tup [U (x / y), U (x % y)]) := by
  have hy0 : (y == 0) = false := by simp; omega
  have hy1 : decide (y ≤ 0) = false := by simp; omega
  have hy2 : (y = 0) = False := by simp; omega
  have hq : IntKind.u64.wrap (x.tdiv y) = x / y := by
    rw [Int.tdiv_eq_ediv_of_nonneg hx, wrap_u64']
    have := Int.ediv_nonneg hx (show 0 ≤ y by omega)
    have := Int.ediv_le_self y hx
    omega
  have hr : x.tmod y = x % y := Int.tmod_eq_emod_of_nonneg hx
  refine zo (zj 118) cfn118 rfl (n := 135) rfl ?_
  simp only [bW, if_true, Nat.reduceEqDiff, if_false, zk]
  repeat' first
    | (intro hb; first | cases hb | skip)
    | ((first | apply z8 | apply ze)
       · rfl
       · simp (disch := assumption) only [go_sem, Nat.reduceEqDiff, Nat.reduceAdd, bP, zg, Nat.reduceLeDiff, Nat.reduceLT, Nat.reduceMul, List.length_append, decide_eq_true_eq, z9, z6, Int.reduceToNat, Int.reduceLE, Int.reduceLT, Int.reduceBNe, Int.reduceBEq, hy0, hy1, hy2, hq, hr]
         rfl
       · simp only [go_sem, Nat.reduceLT, Nat.reduceEqDiff]
         rfl
       · rfl
       first
       | (apply zd
          · simp only [z5, z0, Nat.reduceLT, decide_true, cond_true, ins]
            rfl
          · simp only [z5, z0, Nat.reduceLT, decide_true, cond_true, ins]
            rfl)
       | (apply zi
          · simp only [z5, z0, Nat.reduceLT, decide_true, cond_true, ins]
            rfl))
    | ((first | apply zb | apply zc)
       · rfl
       · simp only [z5, z0, Nat.reduceLT, decide_true, cond_true, ins]
         rfl)
    | (apply za
       · simp only [go_sem, Nat.reduceEqDiff])
    | (apply z7
       · simp only [go_sem, Nat.reduceEqDiff])
    | (apply zh
       · kernel_rfl
       · kernel_rfl)
    | (simp only [bW, if_true, Nat.reduceEqDiff, if_false])
  all_goals simp only [go_sem, Nat.reduceEqDiff, bP, Nat.reduceAdd, Nat.reduceLeDiff, List.length_map, Tryd.f118]
  all_goals first | rfl | (simp_all []; done) | (simp_all []; intros; omega)

theorem t111 (x y : Int) (hx : 0 ≤ x) (hx' : x < 9223372036854775808) (hy : 1 ≤ y) (hy' : y < 9223372036854775808) : (lim cfg).pure 111 [.agg [U 0, U x], I y] = some (.tup [I (x / y), B (x % y != 0)]) := by
  have e1 := t118 x y hx hx' hy hy'
  have w1 : IntKind.u64.wrap y = y := by rw [wrap_u64']; omega
  have w2 : IntKind.i64.wrap (x / y) = x / y := by
    have := Int.ediv_nonneg hx (show 0 ≤ y by omega)
    have := Int.ediv_le_self y hx
    exact wrap_i64 (by omega) (by omega)
  refine zo (zj 111) cfn111 rfl (n := 22) rfl ?_
  simp only [bW, if_true, Nat.reduceEqDiff, if_false, zk]
  repeat' first
    | (intro hb; first | cases hb | skip)
    | ((first | apply z8 | apply ze)
       · rfl
       · simp (disch := assumption) only [go_sem, Nat.reduceEqDiff, Nat.reduceAdd, bP, zg, Nat.reduceLeDiff, Nat.reduceLT, Nat.reduceMul, List.length_append, decide_eq_true_eq, z9, z6, Int.reduceToNat, Int.reduceLE, Int.reduceLT, Int.reduceBNe, Int.reduceBEq, e1, w1, w2]
         rfl
       · simp only [go_sem, Nat.reduceLT, Nat.reduceEqDiff]
         rfl
       · rfl
       first
       | (apply zd
          · simp only [z5, z0, Nat.reduceLT, decide_true, cond_true, ins]
            rfl
          · simp only [z5, z0, Nat.reduceLT, decide_true, cond_true, ins]
            rfl)
       | (apply zi
          · simp only [z5, z0, Nat.reduceLT, decide_true, cond_true, ins]
            rfl))
    | ((first | apply zb | apply zc)
       · rfl
       · simp only [z5, z0, Nat.reduceLT, decide_true, cond_true, ins]
         rfl)
    | (apply za
       · simp only [go_sem, Nat.reduceEqDiff])
    | (apply z7
       · simp only [go_sem, Nat.reduceEqDiff])
    | (apply zh
       · kernel_rfl
       · kernel_rfl)
    | (simp only [bW, if_true, Nat.reduceEqDiff, if_false])
  all_goals simp only [go_sem, Nat.reduceEqDiff, bP, Nat.reduceAdd, Nat.reduceLeDiff, List.length_map, Tryd.f111]
  all_goals first | rfl | (simp_all []; done) | (simp_all []; intros; omega)

theorem t69s (x y : Int) (hx : 0 ≤ x) (hx' : x < 9223372036854775808) (hy : 0 ≤ y) (hy' : y < 9223372036854775808) (h0 : 0 ≤ x * y) (h : x * y < 9223372036854775808) : (lim cfg).pure 69 [I x, I y] = some (.agg [U 0, U (x * y)]) := by
  have := t69 x y hx hx' hy hy'
  rw [this]
  have e1 : hi64 x y = 0 := by unfold hi64; omega
  have e2 : lo64 x y = x * y := by unfold lo64; omega
  rw [e1, e2]

theorem t89 (s : Span) (a b : Ratio) (h1 : 0 ≤ s.lo) (h2 : s.lo ≤ 4194304) (h3 : 0 ≤ s.hi) (h4 : s.hi ≤ 4194304) (ha : goodQ a) (hb : goodQ b) : (lim cfg).pure 89 [.agg [I s.lo, I s.hi], .agg [I a.n, I a.d], .agg [I b.n, I b.d]] = some (.agg [I (outF s a b).lo, I (outF s a b).hi]) := by
  obtain ⟨a1, a2, a3, a4⟩ := mul_le2 h1 ha h2
  obtain ⟨b1, b2, b3, b4⟩ := mul_le2 h3 hb h4
  obtain ⟨⟨p1, p2, p3⟩, p4, p5, p6, p7⟩ := ha
  obtain ⟨⟨q1, q2, q3⟩, q4, q5, q6, q7⟩ := hb
  have e1 := t69s s.lo a.n h1 (by omega) (by omega) (by omega) a1 (by omega)
  have e2 := t69s s.hi b.n h3 (by omega) (by omega) (by omega) b1 (by omega)
  have e3 := t111 (s.lo * a.n) a.d a1 (by omega) p2 (by omega)
  have e4 := t111 (s.hi * b.n) b.d b1 (by omega) q2 (by omega)
  by_cases hz : s.hi * b.n % b.d = 0
  · have hz1 : (s.hi * b.n % b.d != 0) = false := by simp [hz]
    have hu : (outF s a b).hi = s.hi * b.n / b.d := by unfold outF upR; rw [if_pos hz]
    have hd : (outF s a b).lo = s.lo * a.n / a.d := rfl
    rw [hu, hd]
    refine zo (zj 89) cfn89 rfl (n := 39) rfl ?_
    simp only [bW, if_true, Nat.reduceEqDiff, if_false, zk]
    repeat' first
      | (intro hb; first | cases hb | skip)
      | ((first | apply z8 | apply ze)
         · rfl
         · simp (disch := assumption) only [go_sem, Nat.reduceEqDiff, Nat.reduceAdd, bP, zg, Nat.reduceLeDiff, Nat.reduceLT, Nat.reduceMul, List.length_append, decide_eq_true_eq, z9, z6, Int.reduceToNat, Int.reduceLE, Int.reduceLT, Int.reduceBNe, Int.reduceBEq, e1, e2, e3, e4, hz1]
           rfl
         · simp only [go_sem, Nat.reduceLT, Nat.reduceEqDiff]
           rfl
         · rfl
         first
         | (apply zd
            · simp only [z5, z0, Nat.reduceLT, decide_true, cond_true, ins]
              rfl
            · simp only [z5, z0, Nat.reduceLT, decide_true, cond_true, ins]
              rfl)
         | (apply zi
            · simp only [z5, z0, Nat.reduceLT, decide_true, cond_true, ins]
              rfl))
      | ((first | apply zb | apply zc)
         · rfl
         · simp only [z5, z0, Nat.reduceLT, decide_true, cond_true, ins]
           rfl)
      | (apply za
         · simp only [go_sem, Nat.reduceEqDiff])
      | (apply z7
         · simp only [go_sem, Nat.reduceEqDiff])
      | (apply zh
         · kernel_rfl
         · kernel_rfl)
      | (simp only [bW, if_true, Nat.reduceEqDiff, if_false])
    all_goals try simp only [go_sem, Nat.reduceEqDiff, bP, Nat.reduceAdd, Nat.reduceLeDiff, List.length_map, Tryd.f89]
    all_goals first | done | rfl | (simp_all []; done) | trace_state
  · have hz1 : (s.hi * b.n % b.d != 0) = true := by simp [hz]
    have hu : (outF s a b).hi = s.hi * b.n / b.d + 1 := by unfold outF upR; rw [if_neg hz]
    have hd : (outF s a b).lo = s.lo * a.n / a.d := rfl
    have hw : IntKind.i64.wrap (s.hi * b.n / b.d + 1) = s.hi * b.n / b.d + 1 := by unfold dnF at b3 b4; exact wrap_i64 (by omega) (by omega)
    rw [hu, hd]
    refine zo (zj 89) cfn89 rfl (n := 39) rfl ?_
    simp only [bW, if_true, Nat.reduceEqDiff, if_false, zk]
    repeat' first
      | (intro hb; first | cases hb | skip)
      | ((first | apply z8 | apply ze)
         · rfl
         · simp (disch := assumption) only [go_sem, Nat.reduceEqDiff, Nat.reduceAdd, bP, zg, Nat.reduceLeDiff, Nat.reduceLT, Nat.reduceMul, List.length_append, decide_eq_true_eq, z9, z6, Int.reduceToNat, Int.reduceLE, Int.reduceLT, Int.reduceBNe, Int.reduceBEq, e1, e2, e3, e4, hz1, hw]
           rfl
         · simp only [go_sem, Nat.reduceLT, Nat.reduceEqDiff]
           rfl
         · rfl
         first
         | (apply zd
            · simp only [z5, z0, Nat.reduceLT, decide_true, cond_true, ins]
              rfl
            · simp only [z5, z0, Nat.reduceLT, decide_true, cond_true, ins]
              rfl)
         | (apply zi
            · simp only [z5, z0, Nat.reduceLT, decide_true, cond_true, ins]
              rfl))
      | ((first | apply zb | apply zc)
         · rfl
         · simp only [z5, z0, Nat.reduceLT, decide_true, cond_true, ins]
           rfl)
      | (apply za
         · simp only [go_sem, Nat.reduceEqDiff])
      | (apply z7
         · simp only [go_sem, Nat.reduceEqDiff])
      | (apply zh
         · kernel_rfl
         · kernel_rfl)
      | (simp only [bW, if_true, Nat.reduceEqDiff, if_false])
    all_goals try simp only [go_sem, Nat.reduceEqDiff, bP, Nat.reduceAdd, Nat.reduceLeDiff, List.length_map, Tryd.f89]
    all_goals first | done | rfl | (simp_all []; done) | trace_state

def lenF (p : Paper) (s ax : Int) (x : Span) : Span := outF x (invR (hiF p s ax)) (invR (loF p s ax))
def seeF (p : Paper) (s ax : Int) (x : Span) : Span := outF x (loF p s ax) (hiF p s ax)
def spB (x : Span) (n : Int) : Prop := 0 ≤ x.lo ∧ x.lo ≤ x.hi ∧ x.hi ≤ n
theorem outB {x : Span} {a b : Ratio} {n : Int} (h : spB x n) (ha : goodQ a) (hb : goodQ b) : 0 ≤ (outF x a b).lo ∧ (outF x a b).lo ≤ 2 * n + 1 ∧ 0 ≤ (outF x a b).hi ∧ (outF x a b).hi ≤ 2 * n + 1 := by
  obtain ⟨h1, h2, h3⟩ := h
  obtain ⟨a1, a2, a3, a4⟩ := mul_le2 h1 ha (Int.le_refl _)
  obtain ⟨b1, b2, b3⟩ := up_le2 (show 0 ≤ x.hi by omega) hb
  have e1 : (outF x a b).lo = dnF x.lo a := rfl
  have e2 : (outF x a b).hi = upR x.hi b := rfl
  omega
theorem t86 (p : Paper) (s ax : Int) (x : Span) (hwf : p.wf) (hok : zu p = true) (hc : clashA p ax = none) (hs : zy p s = true) (h1 : 0 ≤ x.lo) (h2 : x.lo ≤ 4194304) (h3 : 0 ≤ x.hi) (h4 : x.hi ≤ 4194304) : (lim cfg).pure 86 [zC p, I s, I ax, .agg [I x.lo, I x.hi]] = some (.agg [I (lenF p s ax x).lo, I (lenF p s ax x).hi]) := by
  have h73 := t73 p s ax hwf hok hs
  obtain ⟨i, rfl, hi, _⟩ := sheet_nat hs
  have g1 := goodQ_inv (hi_good hok hc (i := i) (by omega))
  have g2 := goodQ_inv (lo_good hok hc (i := i) (by omega))
  have h89 := t89 x (invR (hiF p i ax)) (invR (loF p i ax)) h1 h2 h3 h4 g1 g2
  unfold lenF
  simp only [invR] at h89 ⊢
  refine zo (zj 86) cfn86 rfl (n := 22) rfl ?_
  simp only [bW, if_true, Nat.reduceEqDiff, if_false, zk]
  repeat' first
    | (intro hb; first | cases hb | skip)
    | ((first | apply z8 | apply ze)
       · rfl
       · simp (disch := assumption) only [go_sem, Nat.reduceEqDiff, Nat.reduceAdd, bP, zg, Nat.reduceLeDiff, Nat.reduceLT, Nat.reduceMul, List.length_append, decide_eq_true_eq, z9, z6, Int.reduceToNat, Int.reduceLE, Int.reduceLT, Int.reduceBNe, Int.reduceBEq, h73, h89, t97, show (0 : Nat) < 2 from by decide, show (1 : Nat) < 2 from by decide]
         rfl
       · simp only [go_sem, Nat.reduceLT, Nat.reduceEqDiff]
         rfl
       · rfl
       first
       | (apply zd
          · simp only [z5, z0, Nat.reduceLT, decide_true, cond_true, ins]
            rfl
          · simp only [z5, z0, Nat.reduceLT, decide_true, cond_true, ins]
            rfl)
       | (apply zi
          · simp only [z5, z0, Nat.reduceLT, decide_true, cond_true, ins]
            rfl))
    | ((first | apply zb | apply zc)
       · rfl
       · simp only [z5, z0, Nat.reduceLT, decide_true, cond_true, ins]
         rfl)
    | (apply za
       · simp only [go_sem, Nat.reduceEqDiff])
    | (apply z7
       · simp only [go_sem, Nat.reduceEqDiff])
    | (apply zh
       · kernel_rfl
       · kernel_rfl)
    | (simp only [bW, if_true, Nat.reduceEqDiff, if_false])
  all_goals try simp only [go_sem, Nat.reduceEqDiff, bP, Nat.reduceAdd, Nat.reduceLeDiff, List.length_map, Tryd.f86]
  all_goals first | done | rfl | (simp_all []; done) | trace_state

theorem span_B {x : Span} (h : spanOK x = true) : spB x 1048576 := by
  simp [spanOK] at h
  exact ⟨h.1.1, h.1.2, h.2⟩
def Dsp (x : Span) : D := .agg [I x.lo, I x.hi]
theorem t38 (p : Paper) (s ax : Int) (x : Span) (hwf : p.wf) : (lim cfg).pure 38 [zC p, I s, I ax, .agg [I x.lo, I x.hi]] = some (if knownF p ax [s] = 0 then (if spanOK x then .tup [Dsp (lenF p s ax x), I 0] else .tup [Dsp ⟨0, 0⟩, I 1]) else .tup [Dsp ⟨0, 0⟩, I (knownF p ax [s])]) := by
  have h71 := t71 p ax false [s] hwf 1 (by simp) (by simp) (by simp)
  simp only [List.map_cons, List.map_nil] at h71
  have h85 := t85 x
  simp only [encS] at h85
  by_cases hk : knownF p ax [s] = 0
  · rw [if_pos hk]
    rw [hk] at h71
    obtain ⟨hok, hp, hs, hax⟩ := known_zero.1 hk
    simp at hs
    cases hx : spanOK x with
    | false =>
      rw [hx] at h85
      simp only [Bool.false_eq_true, if_false]
      refine zo (zj 38) cfn38 rfl (n := 29) rfl ?_
      simp only [bW, if_true, Nat.reduceEqDiff, if_false, zk]
      repeat' first
        | (intro hb; first | cases hb | skip)
        | ((first | apply z8 | apply ze)
           · rfl
           · simp (disch := assumption) only [go_sem, Nat.reduceEqDiff, Nat.reduceAdd, bP, zg, Nat.reduceLeDiff, Nat.reduceLT, Nat.reduceMul, List.length_append, decide_eq_true_eq, z9, z6, Int.reduceToNat, Int.reduceLE, Int.reduceLT, Int.reduceBNe, Int.reduceBEq, h71, h85]
             rfl
           · simp only [go_sem, Nat.reduceLT, Nat.reduceEqDiff]
             rfl
           · rfl
           first
           | (apply zd
              · simp only [z5, z0, Nat.reduceLT, decide_true, cond_true, ins]
                rfl
              · simp only [z5, z0, Nat.reduceLT, decide_true, cond_true, ins]
                rfl)
           | (apply zi
              · simp only [z5, z0, Nat.reduceLT, decide_true, cond_true, ins]
                rfl))
        | ((first | apply zb | apply zc)
           · rfl
           · simp only [z5, z0, Nat.reduceLT, decide_true, cond_true, ins]
             rfl)
        | (apply za
           · simp only [go_sem, Nat.reduceEqDiff])
        | (apply z7
           · simp only [go_sem, Nat.reduceEqDiff])
        | (apply zh
           · kernel_rfl
           · kernel_rfl)
        | (simp only [bW, if_true, Nat.reduceEqDiff, if_false])
      all_goals try simp only [go_sem, Nat.reduceEqDiff, bP, Nat.reduceAdd, Nat.reduceLeDiff, List.length_map, Tryd.f38, Dsp]
      all_goals first | done | rfl | (simp_all []; done) | trace_state
    | true =>
      rw [hx] at h85
      simp only [if_true]
      obtain ⟨b1, b2, b3⟩ := span_B hx
      have h86 := t86 p s ax x hwf hok (poss_none hp hax) hs b1 (by omega) (by omega) (by omega)
      refine zo (zj 38) cfn38 rfl (n := 29) rfl ?_
      simp only [bW, if_true, Nat.reduceEqDiff, if_false, zk]
      repeat' first
        | (intro hb; first | cases hb | skip)
        | ((first | apply z8 | apply ze)
           · rfl
           · simp (disch := assumption) only [go_sem, Nat.reduceEqDiff, Nat.reduceAdd, bP, zg, Nat.reduceLeDiff, Nat.reduceLT, Nat.reduceMul, List.length_append, decide_eq_true_eq, z9, z6, Int.reduceToNat, Int.reduceLE, Int.reduceLT, Int.reduceBNe, Int.reduceBEq, h71, h85, h86]
             rfl
           · simp only [go_sem, Nat.reduceLT, Nat.reduceEqDiff]
             rfl
           · rfl
           first
           | (apply zd
              · simp only [z5, z0, Nat.reduceLT, decide_true, cond_true, ins]
                rfl
              · simp only [z5, z0, Nat.reduceLT, decide_true, cond_true, ins]
                rfl)
           | (apply zi
              · simp only [z5, z0, Nat.reduceLT, decide_true, cond_true, ins]
                rfl))
        | ((first | apply zb | apply zc)
           · rfl
           · simp only [z5, z0, Nat.reduceLT, decide_true, cond_true, ins]
             rfl)
        | (apply za
           · simp only [go_sem, Nat.reduceEqDiff])
        | (apply z7
           · simp only [go_sem, Nat.reduceEqDiff])
        | (apply zh
           · kernel_rfl
           · kernel_rfl)
        | (simp only [bW, if_true, Nat.reduceEqDiff, if_false])
      all_goals try simp only [go_sem, Nat.reduceEqDiff, bP, Nat.reduceAdd, Nat.reduceLeDiff, List.length_map, Tryd.f38, Dsp]
      all_goals first | done | rfl | (simp_all []; done) | trace_state
  · rw [if_neg hk]
    have hne : (knownF p ax [s] != 0) = true := by simp [hk]
    refine zo (zj 38) cfn38 rfl (n := 29) rfl ?_
    simp only [bW, if_true, Nat.reduceEqDiff, if_false, zk]
    repeat' first
      | (intro hb; first | cases hb | skip)
      | ((first | apply z8 | apply ze)
         · rfl
         · simp (disch := assumption) only [go_sem, Nat.reduceEqDiff, Nat.reduceAdd, bP, zg, Nat.reduceLeDiff, Nat.reduceLT, Nat.reduceMul, List.length_append, decide_eq_true_eq, z9, z6, Int.reduceToNat, Int.reduceLE, Int.reduceLT, Int.reduceBNe, Int.reduceBEq, h71, hne]
           rfl
         · simp only [go_sem, Nat.reduceLT, Nat.reduceEqDiff]
           rfl
         · rfl
         first
         | (apply zd
            · simp only [z5, z0, Nat.reduceLT, decide_true, cond_true, ins]
              rfl
            · simp only [z5, z0, Nat.reduceLT, decide_true, cond_true, ins]
              rfl)
         | (apply zi
            · simp only [z5, z0, Nat.reduceLT, decide_true, cond_true, ins]
              rfl))
      | ((first | apply zb | apply zc)
         · rfl
         · simp only [z5, z0, Nat.reduceLT, decide_true, cond_true, ins]
           rfl)
      | (apply za
         · simp only [go_sem, Nat.reduceEqDiff])
      | (apply z7
         · simp only [go_sem, Nat.reduceEqDiff])
      | (apply zh
         · kernel_rfl
         · kernel_rfl)
      | (simp only [bW, if_true, Nat.reduceEqDiff, if_false])
    all_goals try simp only [go_sem, Nat.reduceEqDiff, bP, Nat.reduceAdd, Nat.reduceLeDiff, List.length_map, Tryd.f38, Dsp]
    all_goals first | done | rfl | (simp_all []; done) | trace_state

theorem t40 (p : Paper) (s : Int) (x : Span) (hwf : p.wf) : (lim cfg).pure 40 [zC p, I s, .agg [I x.lo, I x.hi]] = some (if knownF p 0 [s] = 0 then (if spanOK x then .tup [Dsp (lenF p s 1 (lenF p s 0 x)), I 0] else .tup [Dsp ⟨0, 0⟩, I 1]) else .tup [Dsp ⟨0, 0⟩, I (knownF p 0 [s])]) := by
  have h38 := t38 p s 0 x hwf
  by_cases hk : knownF p 0 [s] = 0
  · rw [if_pos hk] at h38 ⊢
    obtain ⟨hok, hp, hs, hax⟩ := known_zero.1 hk
    simp at hs
    cases hx : spanOK x with
    | false =>
      rw [hx] at h38
      simp only [Bool.false_eq_true, if_false] at h38 ⊢
      refine zo (zj 40) cfn40 rfl (n := 25) rfl ?_
      simp only [bW, if_true, Nat.reduceEqDiff, if_false, zk]
      repeat' first
        | (intro hb; first | cases hb | skip)
        | ((first | apply z8 | apply ze)
           · rfl
           · simp (disch := assumption) only [go_sem, Nat.reduceEqDiff, Nat.reduceAdd, bP, zg, Nat.reduceLeDiff, Nat.reduceLT, Nat.reduceMul, List.length_append, decide_eq_true_eq, z9, z6, Int.reduceToNat, Int.reduceLE, Int.reduceLT, Int.reduceBNe, Int.reduceBEq, h38, Dsp]
             rfl
           · simp only [go_sem, Nat.reduceLT, Nat.reduceEqDiff]
             rfl
           · rfl
           first
           | (apply zd
              · simp only [z5, z0, Nat.reduceLT, decide_true, cond_true, ins]
                rfl
              · simp only [z5, z0, Nat.reduceLT, decide_true, cond_true, ins]
                rfl)
           | (apply zi
              · simp only [z5, z0, Nat.reduceLT, decide_true, cond_true, ins]
                rfl))
        | ((first | apply zb | apply zc)
           · rfl
           · simp only [z5, z0, Nat.reduceLT, decide_true, cond_true, ins]
             rfl)
        | (apply za
           · simp only [go_sem, Nat.reduceEqDiff])
        | (apply z7
           · simp only [go_sem, Nat.reduceEqDiff])
        | (apply zh
           · kernel_rfl
           · kernel_rfl)
        | (simp only [bW, if_true, Nat.reduceEqDiff, if_false])
      all_goals try simp only [go_sem, Nat.reduceEqDiff, bP, Nat.reduceAdd, Nat.reduceLeDiff, List.length_map, Tryd.f40, Dsp]
      all_goals first | done | rfl | (simp_all []; done) | trace_state
    | true =>
      rw [hx] at h38
      simp only [if_true] at h38 ⊢
      obtain ⟨i, rfl, hi, _⟩ := sheet_nat hs
      obtain ⟨b1, b2, b3, b4⟩ := outB (span_B hx) (goodQ_inv (hi_good hok (poss_none hp hax) (i := i) (by omega))) (goodQ_inv (lo_good hok (poss_none hp hax) (i := i) (by omega)))
      have h86 := t86 p i 1 (lenF p i 0 x) hwf hok (poss_none hp rfl) hs b1 (by simp only [lenF, invR] at *; omega) b3 (by simp only [lenF, invR] at *; omega)
      refine zo (zj 40) cfn40 rfl (n := 25) rfl ?_
      simp only [bW, if_true, Nat.reduceEqDiff, if_false, zk]
      repeat' first
        | (intro hb; first | cases hb | skip)
        | ((first | apply z8 | apply ze)
           · rfl
           · simp (disch := assumption) only [go_sem, Nat.reduceEqDiff, Nat.reduceAdd, bP, zg, Nat.reduceLeDiff, Nat.reduceLT, Nat.reduceMul, List.length_append, decide_eq_true_eq, z9, z6, Int.reduceToNat, Int.reduceLE, Int.reduceLT, Int.reduceBNe, Int.reduceBEq, h38, h86, Dsp, bne_self_eq_false]
             rfl
           · simp only [go_sem, Nat.reduceLT, Nat.reduceEqDiff]
             rfl
           · rfl
           first
           | (apply zd
              · simp only [z5, z0, Nat.reduceLT, decide_true, cond_true, ins]
                rfl
              · simp only [z5, z0, Nat.reduceLT, decide_true, cond_true, ins]
                rfl)
           | (apply zi
              · simp only [z5, z0, Nat.reduceLT, decide_true, cond_true, ins]
                rfl))
        | ((first | apply zb | apply zc)
           · rfl
           · simp only [z5, z0, Nat.reduceLT, decide_true, cond_true, ins]
             rfl)
        | (apply za
           · simp only [go_sem, Nat.reduceEqDiff])
        | (apply z7
           · simp only [go_sem, Nat.reduceEqDiff])
        | (apply zh
           · kernel_rfl
           · kernel_rfl)
        | (simp only [bW, if_true, Nat.reduceEqDiff, if_false])
      all_goals try simp only [go_sem, Nat.reduceEqDiff, bP, Nat.reduceAdd, Nat.reduceLeDiff, List.length_map, Tryd.f40, Dsp]
      all_goals first | done | rfl | (simp_all []; done) | trace_state
  · rw [if_neg hk] at h38 ⊢
    have hne : (knownF p 0 [s] != 0) = true := by simp [hk]
    refine zo (zj 40) cfn40 rfl (n := 25) rfl ?_
    simp only [bW, if_true, Nat.reduceEqDiff, if_false, zk]
    repeat' first
      | (intro hb; first | cases hb | skip)
      | ((first | apply z8 | apply ze)
         · rfl
         · simp (disch := assumption) only [go_sem, Nat.reduceEqDiff, Nat.reduceAdd, bP, zg, Nat.reduceLeDiff, Nat.reduceLT, Nat.reduceMul, List.length_append, decide_eq_true_eq, z9, z6, Int.reduceToNat, Int.reduceLE, Int.reduceLT, Int.reduceBNe, Int.reduceBEq, h38, hne, Dsp]
           rfl
         · simp only [go_sem, Nat.reduceLT, Nat.reduceEqDiff]
           rfl
         · rfl
         first
         | (apply zd
            · simp only [z5, z0, Nat.reduceLT, decide_true, cond_true, ins]
              rfl
            · simp only [z5, z0, Nat.reduceLT, decide_true, cond_true, ins]
              rfl)
         | (apply zi
            · simp only [z5, z0, Nat.reduceLT, decide_true, cond_true, ins]
              rfl))
      | ((first | apply zb | apply zc)
         · rfl
         · simp only [z5, z0, Nat.reduceLT, decide_true, cond_true, ins]
           rfl)
      | (apply za
         · simp only [go_sem, Nat.reduceEqDiff])
      | (apply z7
         · simp only [go_sem, Nat.reduceEqDiff])
      | (apply zh
         · kernel_rfl
         · kernel_rfl)
      | (simp only [bW, if_true, Nat.reduceEqDiff, if_false])
    all_goals try simp only [go_sem, Nat.reduceEqDiff, bP, Nat.reduceAdd, Nat.reduceLeDiff, List.length_map, Tryd.f40, Dsp]
    all_goals first | done | rfl | (simp_all []; done) | trace_state

theorem t42 (p : Paper) (s : Int) (x : Span) (hwf : p.wf) : (lim cfg).pure 42 [zC p, I s, .agg [I x.lo, I x.hi]] = some (if knownF p 0 [s] = 0 then (if spanOK x then .tup [Dsp (seeF p s 1 (seeF p s 0 x)), I 0] else .tup [Dsp ⟨0, 0⟩, I 1]) else .tup [Dsp ⟨0, 0⟩, I (knownF p 0 [s])]) := by
  have h71 := t71 p 0 false [s] hwf 1 (by simp) (by simp) (by simp)
  simp only [List.map_cons, List.map_nil] at h71
  have h85 := t85 x
  simp only [encS] at h85
  by_cases hk : knownF p 0 [s] = 0
  · rw [if_pos hk]
    rw [hk] at h71
    obtain ⟨hok, hp, hs, hax⟩ := known_zero.1 hk
    simp at hs
    cases hx : spanOK x with
    | false =>
      rw [hx] at h85
      simp only [Bool.false_eq_true, if_false]
      refine zo (zj 42) cfn42 rfl (n := 38) rfl ?_
      simp only [bW, if_true, Nat.reduceEqDiff, if_false, zk]
      repeat' first
        | (intro hb; first | cases hb | skip)
        | ((first | apply z8 | apply ze)
           · rfl
           · simp (disch := assumption) only [go_sem, Nat.reduceEqDiff, Nat.reduceAdd, bP, zg, Nat.reduceLeDiff, Nat.reduceLT, Nat.reduceMul, List.length_append, decide_eq_true_eq, z9, z6, Int.reduceToNat, Int.reduceLE, Int.reduceLT, Int.reduceBNe, Int.reduceBEq, h71, h85]
             rfl
           · simp only [go_sem, Nat.reduceLT, Nat.reduceEqDiff]
             rfl
           · rfl
           first
           | (apply zd
              · simp only [z5, z0, Nat.reduceLT, decide_true, cond_true, ins]
                rfl
              · simp only [z5, z0, Nat.reduceLT, decide_true, cond_true, ins]
                rfl)
           | (apply zi
              · simp only [z5, z0, Nat.reduceLT, decide_true, cond_true, ins]
                rfl))
        | ((first | apply zb | apply zc)
           · rfl
           · simp only [z5, z0, Nat.reduceLT, decide_true, cond_true, ins]
             rfl)
        | (apply za
           · simp only [go_sem, Nat.reduceEqDiff])
        | (apply z7
           · simp only [go_sem, Nat.reduceEqDiff])
        | (apply zh
           · kernel_rfl
           · kernel_rfl)
        | (simp only [bW, if_true, Nat.reduceEqDiff, if_false])
      all_goals try simp only [go_sem, Nat.reduceEqDiff, bP, Nat.reduceAdd, Nat.reduceLeDiff, List.length_map, Tryd.f42, Dsp]
      all_goals first | done | rfl | (simp_all []; done) | trace_state
    | true =>
      rw [hx] at h85
      simp only [if_true]
      obtain ⟨b1, b2, b3⟩ := span_B hx
      have h730 := t73 p s 0 hwf hok hs
      have h731 := t73 p s 1 hwf hok hs
      obtain ⟨i, rfl, hi, _⟩ := sheet_nat hs
      have g1 := lo_good hok (poss_none hp (show zO 0 = true from rfl)) (i := i) (by omega)
      have g2 := hi_good hok (poss_none hp (show zO 0 = true from rfl)) (i := i) (by omega)
      have g3 := lo_good hok (poss_none hp (show zO 1 = true from rfl)) (i := i) (by omega)
      have g4 := hi_good hok (poss_none hp (show zO 1 = true from rfl)) (i := i) (by omega)
      have h890 := t89 x (loF p i 0) (hiF p i 0) b1 (by omega) (by omega) (by omega) g1 g2
      obtain ⟨c1, c2, c3, c4⟩ := outB (span_B hx) g1 g2
      have h891 := t89 (seeF p i 0 x) (loF p i 1) (hiF p i 1) c1 (by simp only [seeF] at *; omega) c3 (by simp only [seeF] at *; omega) g3 g4
      rw [show outF x (loF p i 0) (hiF p i 0) = seeF p i 0 x from rfl] at h890
      rw [show outF (seeF p i 0 x) (loF p i 1) (hiF p i 1) = seeF p i 1 (seeF p i 0 x) from rfl] at h891
      refine zo (zj 42) cfn42 rfl (n := 38) rfl ?_
      simp only [bW, if_true, Nat.reduceEqDiff, if_false, zk]
      repeat' first
        | (intro hb; first | cases hb | skip)
        | ((first | apply z8 | apply ze)
           · rfl
           · simp (disch := assumption) only [go_sem, Nat.reduceEqDiff, Nat.reduceAdd, bP, zg, Nat.reduceLeDiff, Nat.reduceLT, Nat.reduceMul, List.length_append, decide_eq_true_eq, z9, z6, Int.reduceToNat, Int.reduceLE, Int.reduceLT, Int.reduceBNe, Int.reduceBEq, h71, h85]
             rfl
           · simp only [go_sem, Nat.reduceLT, Nat.reduceEqDiff]
             rfl
           · rfl
           first
           | (apply zd
              · simp only [z5, z0, Nat.reduceLT, decide_true, cond_true, ins]
                rfl
              · simp only [z5, z0, Nat.reduceLT, decide_true, cond_true, ins]
                rfl)
           | (apply zi
              · simp only [z5, z0, Nat.reduceLT, decide_true, cond_true, ins]
                rfl))
        | ((first | apply zb | apply zc)
           · rfl
           · simp only [z5, z0, Nat.reduceLT, decide_true, cond_true, ins]
             rfl)
        | (apply za
           · simp only [go_sem, Nat.reduceEqDiff])
        | (apply z7
           · simp only [go_sem, Nat.reduceEqDiff])
        | (apply zh
           · kernel_rfl
           · kernel_rfl)
        | (simp only [bW, if_true, Nat.reduceEqDiff, if_false])
      refine w_loop (st1 := ⟨38, [(1, I (i : Nat)), (3, .lref 0 0 3 0), (5, .lref 1 0 2 0), (6, .lref 2 0 2 0), (23, I 0)], [(0, ⟨[zC p], 3, false⟩), (1, ⟨[.agg [I (x).lo, I (x).hi]], 2, false⟩), (2, ⟨[.agg [I 0, I 0]], 2, false⟩)], 3, 0⟩) lk42_7 (by kernel_rfl) ?_
      refine zl ?_
      try dsimp only [lp42_7, zD, zt, Tryd.f42]
      simp only [bW, if_true, Nat.reduceEqDiff, if_false]
      repeat' first
        | (intro hb; first | cases hb | skip)
        | ((first | apply z8 | apply ze)
           · rfl
           · simp (disch := assumption) only [go_sem, Nat.reduceEqDiff, Nat.reduceAdd, bP, zg, Nat.reduceLeDiff, Nat.reduceLT, Nat.reduceMul, List.length_append, decide_eq_true_eq, z9, z6, Int.reduceToNat, Int.reduceLE, Int.reduceLT, Int.reduceBNe, Int.reduceBEq, h730, h890, show (0 : Nat) < 2 from by decide, show (1 : Nat) < 2 from by decide, show IntKind.i64.wrap (0 + 1) = 1 from by decide, show IntKind.i64.wrap (1 + 1) = 2 from by decide]
             rfl
           · simp only [go_sem, Nat.reduceLT, Nat.reduceEqDiff]
             rfl
           · rfl
           first
           | (apply zd
              · simp only [z5, z0, Nat.reduceLT, decide_true, cond_true, ins]
                rfl
              · simp only [z5, z0, Nat.reduceLT, decide_true, cond_true, ins]
                rfl)
           | (apply zi
              · simp only [z5, z0, Nat.reduceLT, decide_true, cond_true, ins]
                rfl))
        | ((first | apply zb | apply zc)
           · rfl
           · simp only [z5, z0, Nat.reduceLT, decide_true, cond_true, ins]
             rfl)
        | (apply za
           · simp only [go_sem, Nat.reduceEqDiff])
        | (apply z7
           · simp only [go_sem, Nat.reduceEqDiff])
        | (apply zh
           · kernel_rfl
           · kernel_rfl)
        | (simp only [bW, if_true, Nat.reduceEqDiff, if_false])
      refine zz (st1 := ⟨38, [(1, I (i : Nat)), (3, .lref 0 0 3 0), (5, .lref 1 0 2 0), (6, .lref 2 0 2 0), (23, I 1)], [(0, ⟨[zC p], 3, false⟩), (1, ⟨[.agg [I (seeF p i 0 x).lo, I (seeF p i 0 x).hi]], 2, false⟩), (2, ⟨[.agg [I 0, I 0]], 2, false⟩)], 3, 0⟩) lk42_7 (by kernel_rfl) ?_
      refine zl ?_
      try dsimp only [lp42_7, zD, zt, Tryd.f42]
      simp only [bW, if_true, Nat.reduceEqDiff, if_false]
      repeat' first
        | (intro hb; first | cases hb | skip)
        | ((first | apply z8 | apply ze)
           · rfl
           · simp (disch := assumption) only [go_sem, Nat.reduceEqDiff, Nat.reduceAdd, bP, zg, Nat.reduceLeDiff, Nat.reduceLT, Nat.reduceMul, List.length_append, decide_eq_true_eq, z9, z6, Int.reduceToNat, Int.reduceLE, Int.reduceLT, Int.reduceBNe, Int.reduceBEq, h731, h891, show (0 : Nat) < 2 from by decide, show (1 : Nat) < 2 from by decide, show IntKind.i64.wrap (0 + 1) = 1 from by decide, show IntKind.i64.wrap (1 + 1) = 2 from by decide]
             rfl
           · simp only [go_sem, Nat.reduceLT, Nat.reduceEqDiff]
             rfl
           · rfl
           first
           | (apply zd
              · simp only [z5, z0, Nat.reduceLT, decide_true, cond_true, ins]
                rfl
              · simp only [z5, z0, Nat.reduceLT, decide_true, cond_true, ins]
                rfl)
           | (apply zi
              · simp only [z5, z0, Nat.reduceLT, decide_true, cond_true, ins]
                rfl))
        | ((first | apply zb | apply zc)
           · rfl
           · simp only [z5, z0, Nat.reduceLT, decide_true, cond_true, ins]
             rfl)
        | (apply za
           · simp only [go_sem, Nat.reduceEqDiff])
        | (apply z7
           · simp only [go_sem, Nat.reduceEqDiff])
        | (apply zh
           · kernel_rfl
           · kernel_rfl)
        | (simp only [bW, if_true, Nat.reduceEqDiff, if_false])
      refine zz (st1 := ⟨38, [(1, I (i : Nat)), (3, .lref 0 0 3 0), (5, .lref 1 0 2 0), (6, .lref 2 0 2 0), (23, I 2)], [(0, ⟨[zC p], 3, false⟩), (1, ⟨[.agg [I (seeF p i 1 (seeF p i 0 x)).lo, I (seeF p i 1 (seeF p i 0 x)).hi]], 2, false⟩), (2, ⟨[.agg [I 0, I 0]], 2, false⟩)], 3, 0⟩) lk42_7 (by kernel_rfl) ?_
      refine zl ?_
      try dsimp only [lp42_7, zD, zt, Tryd.f42]
      simp only [bW, if_true, Nat.reduceEqDiff, if_false]
      repeat' first
        | (intro hb; first | cases hb | skip)
        | ((first | apply z8 | apply ze)
           · rfl
           · simp (disch := assumption) only [go_sem, Nat.reduceEqDiff, Nat.reduceAdd, bP, zg, Nat.reduceLeDiff, Nat.reduceLT, Nat.reduceMul, List.length_append, decide_eq_true_eq, z9, z6, Int.reduceToNat, Int.reduceLE, Int.reduceLT, Int.reduceBNe, Int.reduceBEq, show (0 : Nat) < 2 from by decide, show (1 : Nat) < 2 from by decide, show IntKind.i64.wrap (0 + 1) = 1 from by decide, show IntKind.i64.wrap (1 + 1) = 2 from by decide]
             rfl
           · simp only [go_sem, Nat.reduceLT, Nat.reduceEqDiff]
             rfl
           · rfl
           first
           | (apply zd
              · simp only [z5, z0, Nat.reduceLT, decide_true, cond_true, ins]
                rfl
              · simp only [z5, z0, Nat.reduceLT, decide_true, cond_true, ins]
                rfl)
           | (apply zi
              · simp only [z5, z0, Nat.reduceLT, decide_true, cond_true, ins]
                rfl))
        | ((first | apply zb | apply zc)
           · rfl
           · simp only [z5, z0, Nat.reduceLT, decide_true, cond_true, ins]
             rfl)
        | (apply za
           · simp only [go_sem, Nat.reduceEqDiff])
        | (apply z7
           · simp only [go_sem, Nat.reduceEqDiff])
        | (apply zh
           · kernel_rfl
           · kernel_rfl)
        | (simp only [bW, if_true, Nat.reduceEqDiff, if_false])
      all_goals try simp only [go_sem, Nat.reduceEqDiff, bP, Nat.reduceAdd, Nat.reduceLeDiff, List.length_map, Tryd.f42, Dsp]
      all_goals first | done | rfl | (simp_all []; done) | trace_state
  · rw [if_neg hk]
    have hne : (knownF p 0 [s] != 0) = true := by simp [hk]
    refine zo (zj 42) cfn42 rfl (n := 38) rfl ?_
    simp only [bW, if_true, Nat.reduceEqDiff, if_false, zk]
    repeat' first
      | (intro hb; first | cases hb | skip)
      | ((first | apply z8 | apply ze)
         · rfl
         · simp (disch := assumption) only [go_sem, Nat.reduceEqDiff, Nat.reduceAdd, bP, zg, Nat.reduceLeDiff, Nat.reduceLT, Nat.reduceMul, List.length_append, decide_eq_true_eq, z9, z6, Int.reduceToNat, Int.reduceLE, Int.reduceLT, Int.reduceBNe, Int.reduceBEq, h71, hne]
           rfl
         · simp only [go_sem, Nat.reduceLT, Nat.reduceEqDiff]
           rfl
         · rfl
         first
         | (apply zd
            · simp only [z5, z0, Nat.reduceLT, decide_true, cond_true, ins]
              rfl
            · simp only [z5, z0, Nat.reduceLT, decide_true, cond_true, ins]
              rfl)
         | (apply zi
            · simp only [z5, z0, Nat.reduceLT, decide_true, cond_true, ins]
              rfl))
      | ((first | apply zb | apply zc)
         · rfl
         · simp only [z5, z0, Nat.reduceLT, decide_true, cond_true, ins]
           rfl)
      | (apply za
         · simp only [go_sem, Nat.reduceEqDiff])
      | (apply z7
         · simp only [go_sem, Nat.reduceEqDiff])
      | (apply zh
         · kernel_rfl
         · kernel_rfl)
      | (simp only [bW, if_true, Nat.reduceEqDiff, if_false])
    all_goals try simp only [go_sem, Nat.reduceEqDiff, bP, Nat.reduceAdd, Nat.reduceLeDiff, List.length_map, Tryd.f42, Dsp]
    all_goals first | done | rfl | (simp_all []; done) | trace_state

end Go.VS
/-
  Whatever the factors are that a paper allows: lengths and areas lead back. (A text of this claim's own; nothing of it is trusted.)
-/
namespace Go.VS
open Go Go.VS.Walks
theorem ceil_eq {a d : Int} (hd : 1 ≤ d) : (a + d - 1) / d = if a % d = 0 then a / d else a / d + 1 := by
  have h1 := Int.mul_ediv_add_emod a d
  have h2 := Int.emod_nonneg a (show d ≠ 0 by omega)
  have h3 := Int.emod_lt_of_pos a (show 0 < d by omega)
  split
  · rename_i h
    rw [show a + d - 1 = (d - 1) + d * (a / d) by omega, Int.add_mul_ediv_left _ _ (by omega), Int.ediv_eq_zero_of_lt (by omega) (by omega), Int.zero_add]
  · rename_i h
    rw [show a + d - 1 = (a % d - 1) + d * (a / d + 1) by rw [Int.mul_add, Int.mul_one]; omega, Int.add_mul_ediv_left _ _ (by omega), Int.ediv_eq_zero_of_lt (by omega) (by omega), Int.zero_add]
theorem back_lo {z : Int} {c v : Rat} {h : Ratio} (hr : redR h) (hc : 0 ≤ c) (h1 : (z : Rat) ≤ c * v) (h2 : v ≤ vR h) : ((dnF z (invR h) : Int) : Rat) ≤ c := by
  have hi : 0 < vR (invR h) := vq_pos (show 0 < h.d by have := hr.2.1; omega) (show 0 < h.n by have := hr.1; omega)
  refine Rat.le_trans (dn_le (r := invR h) (by have := hr.1; exact this)) ?_
  refine Rat.le_trans (Rat.mul_le_mul_of_nonneg_right h1 (Rat.le_of_lt hi)) ?_
  refine Rat.le_trans (Rat.mul_le_mul_of_nonneg_right (Rat.mul_le_mul_of_nonneg_left h2 hc) (Rat.le_of_lt hi)) ?_
  rw [Rat.mul_assoc, vR_inv hr.1 hr.2.1, Rat.mul_one]; exact Rat.le_refl
theorem back_hi {z : Int} {c v : Rat} {l : Ratio} (hr : redR l) (hc : 0 ≤ c) (h1 : c * v ≤ (z : Rat)) (h2 : vR l ≤ v) : c ≤ ((upR z (invR l) : Int) : Rat) := by
  have hi : 0 < vR (invR l) := vq_pos (show 0 < l.d by have := hr.2.1; omega) (show 0 < l.n by have := hr.1; omega)
  refine Rat.le_trans ?_ (le_up (r := invR l) (by have := hr.1; exact this))
  refine Rat.le_trans ?_ (Rat.mul_le_mul_of_nonneg_right h1 (Rat.le_of_lt hi))
  refine Rat.le_trans ?_ (Rat.mul_le_mul_of_nonneg_right (Rat.mul_le_mul_of_nonneg_left h2 hc) (Rat.le_of_lt hi))
  rw [Rat.mul_assoc, vR_inv hr.1 hr.2.1, Rat.mul_one]; exact Rat.le_refl
theorem rat_nonneg {n : Int} (h : 0 ≤ n) : (0 : Rat) ≤ (n : Rat) := by
  have : ((0 : Int) : Rat) ≤ (n : Rat) := int_le.2 h
  simpa using this
section
variable {p : Paper} {fs : List F4} (hF : Fine p fs) {i : Nat} {f : F4} (hf : fs[i]? = some f) {n : Int} (hn : 0 ≤ n) (hn' : n ≤ 100000)
include hF hf
theorem sheet_of : (i : Int) < p.sheets ∧ zy p i = true := by
  have h1 := (List.getElem?_eq_some_iff.1 hf).1
  have h2 := hF.len
  exact ⟨by omega, by simp [zy]; omega⟩
theorem fac_two {ax : Int} (hax : zO ax = true) : vR (axF f ax) ≤ 2 ∧ 0 < vR (axF f ax) := by
  obtain ⟨h1, h2⟩ := fine_between hF hax hf
  obtain ⟨g, _⟩ := hi_good hF.ok (fine_none hF hax) (sheet_of hF hf).1
  obtain ⟨a, b⟩ := axF_ok (List.all_eq_true.1 hF.all f (List.mem_of_getElem? hf)) ax
  refine ⟨Rat.le_trans h1 ?_, vq_pos (by omega) (by omega)⟩
  have g2 := hi_good hF.ok (fine_none hF hax) (sheet_of hF hf).1
  exact (vR_two g2.1).2 g2.2.1
theorem seen_ok {ax : Int} (hax : zO ax = true) (hn : 0 ≤ n) (hn' : n ≤ 100000) : spanOK ⟨dnF n (axF f ax), upR n (axF f ax)⟩ = true := by
  obtain ⟨a, b⟩ := axF_ok (List.all_eq_true.1 hF.all f (List.mem_of_getElem? hf)) ax
  obtain ⟨t1, t2⟩ := fac_two hF hf hax
  have h1 : 0 ≤ dnF n (axF f ax) := Int.ediv_nonneg (Int.mul_nonneg hn (by omega)) (by omega)
  have h2 : dnF n (axF f ax) ≤ upR n (axF f ax) := int_le.1 (Rat.le_trans (dn_le b) (le_up b))
  have h3 : upR n (axF f ax) ≤ n * 2 := up_le b (by
    have := Rat.mul_le_mul_of_nonneg_left t1 (rat_nonneg hn)
    simpa using this)
  simp only [spanOK, Bool.and_eq_true, decide_eq_true_eq]
  omega
theorem len_back {ax : Int} (hax : zO ax = true) (hn : 0 ≤ n) : (lenF p i ax ⟨dnF n (axF f ax), upR n (axF f ax)⟩).lo ≤ n ∧ n ≤ (lenF p i ax ⟨dnF n (axF f ax), upR n (axF f ax)⟩).hi := by
  obtain ⟨a, b⟩ := axF_ok (List.all_eq_true.1 hF.all f (List.mem_of_getElem? hf)) ax
  obtain ⟨h1, h2⟩ := fine_between hF hax hf
  have g1 := hi_good hF.ok (fine_none hF hax) (sheet_of hF hf).1
  have g2 := lo_good hF.ok (fine_none hF hax) (sheet_of hF hf).1
  exact ⟨int_le.1 (back_lo g1.1 (rat_nonneg hn) (dn_le b) h1), int_le.1 (back_hi g2.1 (rat_nonneg hn) (le_up b) h2)⟩
/-- Both axes' factors at once. -/
def areaR (f : F4) : Ratio := ⟨f.xn * f.yn, f.xd * f.yd⟩
theorem area_pos : 1 ≤ (areaR f).n ∧ 1 ≤ (areaR f).d ∧ vR (areaR f) = vR (axF f 0) * vR (axF f 1) := by
  obtain ⟨a, b⟩ := axF_ok (List.all_eq_true.1 hF.all f (List.mem_of_getElem? hf)) 0
  obtain ⟨c, d⟩ := axF_ok (List.all_eq_true.1 hF.all f (List.mem_of_getElem? hf)) 1
  have e0 : axF f 0 = ⟨f.xn, f.xd⟩ := rfl
  have e1 : axF f 1 = ⟨f.yn, f.yd⟩ := rfl
  rw [e0] at a b
  rw [e1] at c d
  have a : 1 ≤ f.xn := a
  have b : 1 ≤ f.xd := b
  have c : 1 ≤ f.yn := c
  have d : 1 ≤ f.yd := d
  have p1 := Int.mul_le_mul a c (by omega) (by omega)
  have p2 := Int.mul_le_mul b d (by omega) (by omega)
  exact ⟨p1, p2, by rw [e0, e1]; unfold vR areaR; rw [vq_mul]⟩
theorem area_ok (hn : 0 ≤ n) (hn' : n ≤ 100000) : spanOK ⟨dnF n (areaR f), upR n (areaR f)⟩ = true := by
  obtain ⟨a, b, c⟩ := area_pos hF hf
  obtain ⟨t1, t2⟩ := fac_two hF hf (show zO 0 = true from rfl)
  obtain ⟨u1, u2⟩ := fac_two hF hf (show zO 1 = true from rfl)
  have h1 : 0 ≤ dnF n (areaR f) := Int.ediv_nonneg (Int.mul_nonneg hn (by omega)) (by omega)
  have h2 : dnF n (areaR f) ≤ upR n (areaR f) := int_le.1 (Rat.le_trans (dn_le b) (le_up b))
  have h4 : vR (areaR f) ≤ 4 := by
    rw [c]
    refine Rat.le_trans (Rat.mul_le_mul_of_nonneg_right t1 (Rat.le_of_lt u2)) ?_
    refine Rat.le_trans (Rat.mul_le_mul_of_nonneg_left u1 (by decide)) ?_
    exact (by rw [show (4 : Rat) = vq 4 1 by decide, show (2 : Rat) = vq 2 1 by decide, vq_mul]; exact Rat.le_refl)
  have h3 : upR n (areaR f) ≤ n * 4 := up_le b (by
    have := Rat.mul_le_mul_of_nonneg_left h4 (rat_nonneg hn)
    simpa using this)
  simp only [spanOK, Bool.and_eq_true, decide_eq_true_eq]
  omega
theorem area_back (hn : 0 ≤ n) : (lenF p i 1 (lenF p i 0 ⟨dnF n (areaR f), upR n (areaR f)⟩)).lo ≤ n ∧ n ≤ (lenF p i 1 (lenF p i 0 ⟨dnF n (areaR f), upR n (areaR f)⟩)).hi := by
  obtain ⟨a, b, c⟩ := area_pos hF hf
  have hx := show zO 0 = true from rfl
  have hy := show zO 1 = true from rfl
  obtain ⟨h1, h2⟩ := fine_between hF hx hf
  obtain ⟨k1, k2⟩ := fine_between hF hy hf
  have g1 := hi_good hF.ok (fine_none hF hx) (sheet_of hF hf).1
  have g2 := lo_good hF.ok (fine_none hF hx) (sheet_of hF hf).1
  have g3 := hi_good hF.ok (fine_none hF hy) (sheet_of hF hf).1
  have g4 := lo_good hF.ok (fine_none hF hy) (sheet_of hF hf).1
  obtain ⟨-, u2⟩ := fac_two hF hf hy
  have hnn := rat_nonneg hn
  have hc : 0 ≤ (n : Rat) * vR (axF f 1) := Rat.mul_nonneg hnn (Rat.le_of_lt u2)
  have e : (n : Rat) * vR (areaR f) = (n : Rat) * vR (axF f 1) * vR (axF f 0) := by rw [c, Rat.mul_comm (vR (axF f 0)), Rat.mul_assoc]
  constructor
  · refine int_le.1 (back_lo g3.1 hnn (back_lo g1.1 hc ?_ h1) k1)
    rw [← e]; exact dn_le b
  · refine int_le.1 (back_hi g4.1 hnn (back_hi g2.1 hc ?_ h2) k2)
    rw [← e]; exact le_up b
theorem seen_back (hn : 0 ≤ n) : (seeF p i 1 (seeF p i 0 ⟨n, n⟩)).lo ≤ dnF n (areaR f) ∧ upR n (areaR f) ≤ (seeF p i 1 (seeF p i 0 ⟨n, n⟩)).hi := by
  obtain ⟨a, b, c⟩ := area_pos hF hf
  have hx := show zO 0 = true from rfl
  have hy := show zO 1 = true from rfl
  obtain ⟨h1, h2⟩ := fine_between hF hx hf
  obtain ⟨k1, k2⟩ := fine_between hF hy hf
  have g1 := hi_good hF.ok (fine_none hF hx) (sheet_of hF hf).1
  have g2 := lo_good hF.ok (fine_none hF hx) (sheet_of hF hf).1
  have g3 := hi_good hF.ok (fine_none hF hy) (sheet_of hF hf).1
  have g4 := lo_good hF.ok (fine_none hF hy) (sheet_of hF hf).1
  obtain ⟨-, t2⟩ := fac_two hF hf hx
  obtain ⟨-, u2⟩ := fac_two hF hf hy
  have hnn := rat_nonneg hn
  constructor
  · refine le_dn b ?_
    show ((dnF (dnF n (loF p i 0)) (loF p i 1) : Int) : Rat) ≤ _
    refine Rat.le_trans (dn_le g4.1.2.1) ?_
    refine Rat.le_trans (Rat.mul_le_mul_of_nonneg_right (dn_le g2.1.2.1) (Rat.le_of_lt (red_pos g4.1))) ?_
    refine Rat.le_trans (Rat.mul_le_mul_of_nonneg_right (Rat.mul_le_mul_of_nonneg_left h2 hnn) (Rat.le_of_lt (red_pos g4.1))) ?_
    refine Rat.le_trans (Rat.mul_le_mul_of_nonneg_left k2 (Rat.mul_nonneg hnn (Rat.le_of_lt t2))) ?_
    rw [c, Rat.mul_assoc]; exact Rat.le_refl
  · refine up_le b ?_
    show _ ≤ ((upR (upR n (hiF p i 0)) (hiF p i 1) : Int) : Rat)
    refine Rat.le_trans ?_ (le_up g3.1.2.1)
    refine Rat.le_trans ?_ (Rat.mul_le_mul_of_nonneg_right (le_up g1.1.2.1) (Rat.le_of_lt (red_pos g3.1)))
    refine Rat.le_trans ?_ (Rat.mul_le_mul_of_nonneg_right (Rat.mul_le_mul_of_nonneg_left h1 hnn) (Rat.le_of_lt (red_pos g3.1)))
    refine Rat.le_trans ?_ (Rat.mul_le_mul_of_nonneg_left k1 (Rat.mul_nonneg hnn (Rat.le_of_lt t2)))
    rw [c, Rat.mul_assoc]; exact Rat.le_refl
end
end Go.VS
namespace Go.VS
open Go Go.Proofs
set_option maxHeartbeats 0
set_option linter.unusedSimpArgs false

set_option maxRecDepth 100000
theorem ckI {S : Sm} {objs : List (Nat × Ob)} {nxt : Nat} {args : List D} : zr cfg S objs nxt 62 args = callInl S objs nxt 62 args := by
  simp only [zr, cfg_fn, cfn62]
  rfl
theorem i62 : (lim cfg).inl 62 [] [] 0 = some (.agg [I 2, .lsl 1 0 1 5 (some 1), .lsl 2 0 1 7 (some 1)], [(0, ⟨[.agg [I 2, .lsl 1 0 1 5 (some 1), .lsl 2 0 1 7 (some 1)]], 3, false⟩), (1, ⟨[.agg [I 0, I 0, I 100, I 98, I 1]], 5, false⟩), (2, ⟨[.agg [I 0, I 1, I 0, I 50, I 1, I 100, I 2]], 7, false⟩)], 3) := inl_of (by kernel_rfl)
theorem wf1 : example1.wf := ⟨by simp [example1], by simp [example1], by simp [example1], by simp [example1]⟩
def example2 : Paper := ⟨2, false, [⟨0, 0, 100, 98, 1⟩, ⟨1, 0, 10, 10, 0⟩], false, [⟨0, 1, 0, 50, 1, 100, 2⟩]⟩
theorem wf2 : example2.wf := ⟨by simp [example2], by simp [example2], by simp [example2], by simp [example2]⟩
theorem f20a : (lim cfg).pure 20 [.agg [I 2, .sl false [.agg [I 0, I 0, I 100, I 98, I 1]] 5 none, .sl false [.agg [I 0, I 1, I 0, I 50, I 1, I 100, I 2]] 7 none], I 0, I 0] = some (.tup [.agg [I 97, I 100], .agg [I 99, I 100], I 0]) := (t20 example1 0 0 wf1).trans (by kernel_rfl)
theorem f20b : (lim cfg).pure 20 [.agg [I 2, .sl false [.agg [I 0, I 0, I 100, I 98, I 1]] 5 none, .sl false [.agg [I 0, I 1, I 0, I 50, I 1, I 100, I 2]] 7 none], I 1, I 0] = some (.tup [.agg [I 4753, I 2550], .agg [I 2, I 1], I 0]) := (t20 example1 1 0 wf1).trans (by kernel_rfl)
theorem f19 : (lim cfg).pure 19 [.agg [I 2, .sl false [.agg [I 0, I 0, I 100, I 98, I 1]] 5 none, .sl false [.agg [I 0, I 1, I 0, I 50, I 1, I 100, I 2]] 7 none], I 0, I 1, I 0] = some (.tup [.agg [I 51, I 98], I 0]) := (t19 example1 0 1 0 wf1).trans (by kernel_rfl)
theorem f49 : (lim cfg).pure 49 [.agg [I 2, .sl false [.agg [I 0, I 0, I 100, I 98, I 1]] 5 none, .sl false [.agg [I 0, I 1, I 0, I 50, I 1, I 100, I 2]] 7 none], I 1, I 0, B false] = some (.tup [.sl false [.agg [B false, I 0, B true], .agg [B true, I 0, B false]] 3 none, I 0]) := (t49 example1 1 0 false wf1).trans (by kernel_rfl)
theorem f57 : (lim cfg).pure 57 [.sl false [.agg [B false, I 0, B true], .agg [B true, I 0, B false]] 3 none, .sl false [.agg [B false, I 0, B true], .agg [B true, I 0, B false]] 3 none] = some (B true) :=
  (t57 false false 3 3 [⟨false, 0, true⟩, ⟨true, 0, false⟩] [⟨false, 0, true⟩, ⟨true, 0, false⟩] (by simp) (by simp) (by simp) (by simp) (by simp) (by simp)).trans (by kernel_rfl)
theorem f71 : (lim cfg).pure 71 [.agg [I 2, .sl false [.agg [I 0, I 0, I 100, I 98, I 1]] 5 none, .sl false [.agg [I 0, I 1, I 0, I 50, I 1, I 100, I 2]] 7 none], I 0, .sl false [I 0] 1 none] = some (I 0) := (t71 example1 0 false [0] wf1 1 (by simp) (by simp) (by simp)).trans (by kernel_rfl)
theorem f73 : (lim cfg).pure 73 [.agg [I 2, .sl false [.agg [I 0, I 0, I 100, I 98, I 1]] 5 none, .sl false [.agg [I 0, I 1, I 0, I 50, I 1, I 100, I 2]] 7 none], I 0, I 0] = some (.agg [I 97, I 100, I 99, I 100]) := (t73 example1 0 0 wf1 (by kernel_rfl) (by kernel_rfl)).trans (by kernel_rfl)
theorem f89 : (lim cfg).pure 89 [.agg [I 10, I 10], .agg [I 100, I 99], .agg [I 100, I 97]] = some (.agg [I 10, I 11]) := lim_pure.2 ⟨30, by kernel_rfl⟩
theorem f85 : (lim cfg).pure 85 [.agg [I 10, I 10]] = some (B true) := (t85 ⟨10, 10⟩).trans (by kernel_rfl)
theorem f86 : (lim cfg).pure 86 [.agg [I 2, .sl false [.agg [I 0, I 0, I 100, I 98, I 1]] 5 none, .sl false [.agg [I 0, I 1, I 0, I 50, I 1, I 100, I 2]] 7 none], I 0, I 0, .agg [I 10, I 10]] = some (.agg [I 10, I 11]) := by
  refine zo (zj 86) cfn86 rfl (n := 22) rfl ?_
  simp only [bW, if_true, Nat.reduceEqDiff, if_false, zk]
  repeat' first
    | (intro hb; first | cases hb | skip)
    | ((first | apply z8 | apply ze)
       · rfl
       · simp (disch := assumption) only [go_sem, Nat.reduceEqDiff, Nat.reduceAdd, bP, zg, Nat.reduceLeDiff, Nat.reduceLT, Nat.reduceMul, List.length_append, decide_eq_true_eq, z9, z6, Int.reduceToNat, Int.reduceLE, Int.reduceLT, Int.reduceBNe, Int.reduceBEq, f73, t97, f89]
         rfl
       · simp only [go_sem, Nat.reduceLT, Nat.reduceEqDiff]
         rfl
       · rfl
       first
       | (apply zd
          · simp only [z5, z0, Nat.reduceLT, decide_true, cond_true, ins]
            rfl
          · simp only [z5, z0, Nat.reduceLT, decide_true, cond_true, ins]
            rfl)
       | (apply zi
          · simp only [z5, z0, Nat.reduceLT, decide_true, cond_true, ins]
            rfl))
    | ((first | apply zb | apply zc)
       · rfl
       · simp only [z5, z0, Nat.reduceLT, decide_true, cond_true, ins]
         rfl)
    | (apply za
       · simp only [go_sem, Nat.reduceEqDiff])
    | (apply z7
       · simp only [go_sem, Nat.reduceEqDiff])
    | (apply zh
       · kernel_rfl
       · kernel_rfl)
    | (simp only [bW, if_true, Nat.reduceEqDiff, if_false])
  all_goals try simp only [go_sem, Nat.reduceEqDiff, bP, Nat.reduceAdd, Nat.reduceLeDiff, List.length_map, Tryd.f86]
  all_goals first | done | rfl | (simp_all []; done) | trace_state

theorem f38 : (lim cfg).pure 38 [.agg [I 2, .sl false [.agg [I 0, I 0, I 100, I 98, I 1]] 5 none, .sl false [.agg [I 0, I 1, I 0, I 50, I 1, I 100, I 2]] 7 none], I 0, I 0, .agg [I 10, I 10]] = some (.tup [.agg [I 10, I 11], I 0]) := by
  refine zo (zj 38) cfn38 rfl (n := 29) rfl ?_
  simp only [bW, if_true, Nat.reduceEqDiff, if_false, zk]
  repeat' first
    | (intro hb; first | cases hb | skip)
    | ((first | apply z8 | apply ze)
       · rfl
       · simp (disch := assumption) only [go_sem, Nat.reduceEqDiff, Nat.reduceAdd, bP, zg, Nat.reduceLeDiff, Nat.reduceLT, Nat.reduceMul, List.length_append, decide_eq_true_eq, z9, z6, Int.reduceToNat, Int.reduceLE, Int.reduceLT, Int.reduceBNe, Int.reduceBEq, f71, f85, f86, show ((0 : Int) != 0) = false from rfl]
         rfl
       · simp only [go_sem, Nat.reduceLT, Nat.reduceEqDiff]
         rfl
       · rfl
       first
       | (apply zd
          · simp only [z5, z0, Nat.reduceLT, decide_true, cond_true, ins]
            rfl
          · simp only [z5, z0, Nat.reduceLT, decide_true, cond_true, ins]
            rfl)
       | (apply zi
          · simp only [z5, z0, Nat.reduceLT, decide_true, cond_true, ins]
            rfl))
    | ((first | apply zb | apply zc)
       · rfl
       · simp only [z5, z0, Nat.reduceLT, decide_true, cond_true, ins]
         rfl)
    | (apply za
       · simp only [go_sem, Nat.reduceEqDiff])
    | (apply z7
       · simp only [go_sem, Nat.reduceEqDiff])
    | (apply zh
       · kernel_rfl
       · kernel_rfl)
    | (simp only [bW, if_true, Nat.reduceEqDiff, if_false])
  all_goals try simp only [go_sem, Nat.reduceEqDiff, bP, Nat.reduceAdd, Nat.reduceLeDiff, List.length_map, Tryd.f38]
  all_goals first | done | rfl | (simp_all []; done) | trace_state

theorem f18 : (lim cfg).pure 18 [.agg [I 2, .sl false [.agg [I 0, I 0, I 100, I 98, I 1]] 5 none, .sl false [.agg [I 0, I 1, I 0, I 50, I 1, I 100, I 2]] 7 none], .sl false [.agg [I 98, I 100, I 1, I 1], .agg [I 196, I 100, I 1, I 1]] 4 none] = some (I 0) := (t18 example1 [⟨98, 100, 1, 1⟩, ⟨196, 100, 1, 1⟩] false 4 wf1 (by simp) (by simp) (by simp)).trans (by kernel_rfl)
theorem f30 : (lim cfg).pure 30 [.agg [I 2, .sl false [.agg [I 0, I 0, I 100, I 98, I 1], .agg [I 1, I 0, I 10, I 10, I 0]] 5 none, .sl false [.agg [I 0, I 1, I 0, I 50, I 1, I 100, I 2]] 7 none]] = some (.tup [B false, I 0]) := (t30 example2 wf2).trans (by kernel_rfl)
theorem f48 : (lim cfg).pure 48 [.agg [I 2, .sl false [.agg [I 0, I 0, I 100, I 98, I 1], .agg [I 1, I 0, I 10, I 10, I 0]] 5 none, .sl false [.agg [I 0, I 1, I 0, I 50, I 1, I 100, I 2]] 7 none]] = some (clashD (clashR example2)) := (t48 example2 wf2).trans (by kernel_rfl)
theorem f48' : ∃ w r, (lim cfg).pure 48 [.agg [I 2, .sl false [.agg [I 0, I 0, I 100, I 98, I 1], .agg [I 1, I 0, I 10, I 10, I 0]] 5 none, .sl false [.agg [I 0, I 1, I 0, I 50, I 1, I 100, I 2]] 7 none]] = some (.tup [.sl false (List.map encW (w :: r)) 3 none, B true, I 0]) := by
  have h : ((clashR example2).map fun c => c.why.isEmpty) = some false := by kernel_rfl
  rw [f48]
  cases hc : clashR example2 with
  | none => rw [hc] at h; cases h
  | some c =>
    rw [hc] at h
    obtain ⟨q, ws⟩ := c
    cases ws with
    | nil => simp at h
    | cons w r => exact ⟨w, r, rfl⟩
theorem f15 : (lim cfg).pure 15 [.agg [I 0, .sl true [] 0 none, .sl true [] 0 none]] = some (I 30) := lim_pure.2 ⟨30, by kernel_rfl⟩

theorem t14 : (lim cfg).pure 14 [] = some (B true) := by
  obtain ⟨w, r, hf48⟩ := f48'
  refine zo (zj 14) cfn14 rfl (n := 153) rfl ?_
  simp only [bW, if_true, Nat.reduceEqDiff, if_false, zk]
  repeat' first
    | (intro hb; first | cases hb | skip)
    | ((first | apply z8 | apply ze)
       · rfl
       · simp (disch := assumption) only [go_sem, Nat.reduceEqDiff, Nat.reduceAdd, bP, zg, Nat.reduceLeDiff, Nat.reduceLT, Nat.reduceMul, List.length_append, decide_eq_true_eq, z9, z6, Int.reduceToNat, Int.reduceLE, Int.reduceLT, Int.reduceBNe, Int.reduceBEq, ckI, i62, callInl, allBelow, only, keysO, allUpd, f20a, f20b, f19, f49, f57, t21, encR, f38, f18, f30, hf48, f15, whyD_one, zM, show ((0 : Int) != 0) = false from rfl]
         rfl
       · simp only [go_sem, Nat.reduceLT, Nat.reduceEqDiff]
         rfl
       · rfl
       first
       | (apply zd
          · simp only [z5, z0, Nat.reduceLT, decide_true, cond_true, ins]
            rfl
          · simp only [z5, z0, Nat.reduceLT, decide_true, cond_true, ins]
            rfl)
       | (apply zi
          · simp only [z5, z0, Nat.reduceLT, decide_true, cond_true, ins]
            rfl))
    | ((first | apply zb | apply zc)
       · rfl
       · simp only [z5, z0, Nat.reduceLT, decide_true, cond_true, ins]
         rfl)
    | (apply za
       · simp only [go_sem, Nat.reduceEqDiff])
    | (apply z7
       · simp only [go_sem, Nat.reduceEqDiff])
    | (apply zh
       · kernel_rfl
       · kernel_rfl)
    | (simp only [bW, if_true, Nat.reduceEqDiff, if_false])
  all_goals try simp only [go_sem, Nat.reduceEqDiff, bP, Nat.reduceAdd, Nat.reduceLeDiff, List.length_map, Tryd.f14]
  all_goals first | done | rfl | (simp_all []; done) | trace_state

end Go.VS
namespace Go.VS
open Go Go.Proofs
set_option maxHeartbeats 0
set_option linter.unusedSimpArgs false

noncomputable def lp16_2 : Code := zD [1, 0, 1, 0, 0] (zt Tryd.f16)
theorem lk16_2 : cfg.keep 16 (zw lp16_2) = [1, 2, 9, 10, 11] := by kernel_rfl
noncomputable def lp16_5 : Code := zD [1, 0, 1, 0, 0, 1, 1, 0, 0, 1, 1, 0, 0] (zt Tryd.f16)
theorem lk16_5 : cfg.keep 16 (zw lp16_5) = [1, 2, 9, 10, 11, 15, 16] := by kernel_rfl

def smallR (n d : Int) : Bool := decide (1 ≤ n) && decide (1 ≤ d) && decide (n ≤ 100000) && decide (d ≤ 100000)
def small4 (f : F4) : Bool := smallR f.xn f.xd && smallR f.yn f.yd
def plainF (p : Paper) (fs : List F4) : Bool := fs.all small4 && decide ((fs.length : Int) = p.sheets)

theorem L16_2 {F : Exit → St → Option D} (p : Paper) (fs : List F4) (nf : Bool) (sf : Nat) (k : List Kt) (x : D) (hnf : nf = true → fs = []) (hsf : nf = false → sf = 4) (hl : fs.length ≤ 9223372036854775807) (hk : ∀ st, get st.tmps 4 = B false → zF cfg (lim cfg) 16 F k .ret st = some (B false)) : ∀ (rest : List F4) (i : Nat), fs.drop i = rest → i ≤ fs.length →
    (rest.all small4 = true → zF cfg (lim cfg) 16 F k (.exit 0) ⟨44, [(12, B false), (1, .sl nf (fs.map encF) sf none), (2, .lref 0 0 3 0), (9, .sl nf (fs.map encF) sf none), (10, I fs.length), (11, I (fs.length : Nat))], [(0, ⟨[zC p], 3, false⟩)], 1, 0⟩ = some x) →
    (rest.all small4 = false → x = B false) →
    EvL cfg (lim cfg) 16 F lp16_2 k ⟨44, [(1, .sl nf (fs.map encF) sf none), (2, .lref 0 0 3 0), (9, .sl nf (fs.map encF) sf none), (10, I fs.length), (11, I (i : Nat))], [(0, ⟨[zC p], 3, false⟩)], 1, 0⟩ = some x := by
  intro rest
  induction rest with
  | nil =>
    intro i hd hi h h'
    have hi' : i = fs.length := by
      have := List.drop_eq_nil_iff.1 hd
      omega
    subst hi'
    refine zl ?_
    try dsimp only [lp16_2, zD, zt, Tryd.f16]
    simp only [bW, if_true, Nat.reduceEqDiff, if_false]
    repeat' first
      | (intro hb; first | cases hb | skip)
      | ((first | apply z8 | apply ze)
         · rfl
         · simp (disch := assumption) only [go_sem, Nat.reduceEqDiff, Nat.reduceAdd, bP, zg, Nat.reduceLeDiff, Nat.reduceLT, Nat.reduceMul, List.length_append, decide_eq_true_eq, z9, z6, Int.reduceToNat, Int.reduceLE, Int.reduceLT, Int.reduceBNe, Int.reduceBEq, Int.lt_irrefl]
           rfl
         · simp only [go_sem, Nat.reduceLT, Nat.reduceEqDiff]
           rfl
         · rfl
         first
         | (apply zd
            · simp only [z5, z0, Nat.reduceLT, decide_true, cond_true, ins]
              rfl
            · simp only [z5, z0, Nat.reduceLT, decide_true, cond_true, ins]
              rfl)
         | (apply zi
            · simp only [z5, z0, Nat.reduceLT, decide_true, cond_true, ins]
              rfl))
      | ((first | apply zb | apply zc)
         · rfl
         · simp only [z5, z0, Nat.reduceLT, decide_true, cond_true, ins]
           rfl)
      | (apply za
         · simp only [go_sem, Nat.reduceEqDiff])
      | (apply z7
         · simp only [go_sem, Nat.reduceEqDiff])
      | (apply zh
         · kernel_rfl
         · kernel_rfl)
      | (simp only [bW, if_true, Nat.reduceEqDiff, if_false])
    exact h rfl
  | cons f rest ih =>
    intro i hd hi h h'
    have hlt : i < fs.length := by
      rcases Nat.lt_or_ge i fs.length with h | h
      · exact h
      · rw [List.drop_eq_nil_of_le h] at hd; cases hd
    have hf : fs[i]? = some f := by rw [← List.head?_drop, hd]; rfl
    have hx : (fs.map encF)[i]? = some (.agg [I f.xn, I f.xd, I f.yn, I f.yd]) := by rw [List.getElem?_map, hf]; rfl
    have hnf' : nf = false := by
      cases h : nf with
      | false => rfl
      | true => rw [hnf h] at hlt; cases hlt
    have hs1 := hsf hnf'
    clear hsf
    subst hs1
    have hlt' : (i : Int) < (fs.length : Int) := by omega
    have hw3 : IntKind.i64.wrap ((i : Int) + 1) = ((i + 1 : Nat) : Int) := by rw [wrap_i64 (by omega) (by omega)]; omega
    cases h1 : smallR f.xn f.xd with
    | false =>
      rw [h' (by simp [small4, h1])]
      simp only [smallR, Bool.and_eq_false_iff, decide_eq_false_iff_not] at h1
      refine zl ?_
      try dsimp only [lp16_2, zD, zt, Tryd.f16]
      simp only [bW, if_true, Nat.reduceEqDiff, if_false]
      repeat' first
        | (intro hb; first | cases hb | skip)
        | ((first | apply z8 | apply ze)
           · rfl
           · simp (disch := assumption) only [go_sem, Nat.reduceEqDiff, Nat.reduceAdd, bP, zg, Nat.reduceLeDiff, Nat.reduceLT, Nat.reduceMul, List.length_append, decide_eq_true_eq, z9, z6, Int.reduceToNat, Int.reduceLE, Int.reduceLT, Int.reduceBNe, Int.reduceBEq, hx, hnf', hlt', hw3, show (0 : Nat) < 2 from by decide, show (1 : Nat) < 2 from by decide, show IntKind.i64.wrap (0 + 1) = 1 from by decide, show IntKind.i64.wrap (1 + 1) = 2 from by decide]
             rfl
           · simp only [go_sem, Nat.reduceLT, Nat.reduceEqDiff]
             rfl
           · rfl
           first
           | (apply zd
              · simp only [z5, z0, Nat.reduceLT, decide_true, cond_true, ins]
                rfl
              · simp only [z5, z0, Nat.reduceLT, decide_true, cond_true, ins]
                rfl)
           | (apply zi
              · simp only [z5, z0, Nat.reduceLT, decide_true, cond_true, ins]
                rfl))
        | ((first | apply zb | apply zc)
           · rfl
           · simp only [z5, z0, Nat.reduceLT, decide_true, cond_true, ins]
             rfl)
        | (apply za
           · simp only [go_sem, Nat.reduceEqDiff])
        | (apply z7
           · simp only [go_sem, Nat.reduceEqDiff])
        | (apply zh
           · kernel_rfl
           · kernel_rfl)
        | (simp only [bW, if_true, Nat.reduceEqDiff, if_false])
      refine w_loop (st1 := ⟨44, [(1, .sl nf (fs.map encF) 4 none), (2, .lref 0 0 3 0), (9, .sl nf (fs.map encF) 4 none), (10, I fs.length), (11, I (i : Nat)), (15, .agg [I f.xn, I f.xd, I f.yn, I f.yd]), (16, I 0)], [(0, ⟨[zC p], 3, false⟩)], 1, 0⟩) lk16_5 (by kernel_rfl) ?_
      refine zl ?_
      try dsimp only [lp16_5, zD, zt, Tryd.f16]
      simp only [bW, if_true, Nat.reduceEqDiff, if_false]
      repeat' first
        | (intro hb; first | cases hb | skip)
        | ((first | apply z8 | apply ze)
           · rfl
           · simp (disch := assumption) only [go_sem, Nat.reduceEqDiff, Nat.reduceAdd, bP, zg, Nat.reduceLeDiff, Nat.reduceLT, Nat.reduceMul, List.length_append, decide_eq_true_eq, z9, z6, Int.reduceToNat, Int.reduceLE, Int.reduceLT, Int.reduceBNe, Int.reduceBEq, hx, hnf', hlt', hw3, show (0 : Nat) < 2 from by decide, show (1 : Nat) < 2 from by decide, show IntKind.i64.wrap (0 + 1) = 1 from by decide, show IntKind.i64.wrap (1 + 1) = 2 from by decide]
             rfl
           · simp only [go_sem, Nat.reduceLT, Nat.reduceEqDiff]
             rfl
           · rfl
           first
           | (apply zd
              · simp only [z5, z0, Nat.reduceLT, decide_true, cond_true, ins]
                rfl
              · simp only [z5, z0, Nat.reduceLT, decide_true, cond_true, ins]
                rfl)
           | (apply zi
              · simp only [z5, z0, Nat.reduceLT, decide_true, cond_true, ins]
                rfl))
        | ((first | apply zb | apply zc)
           · rfl
           · simp only [z5, z0, Nat.reduceLT, decide_true, cond_true, ins]
             rfl)
        | (apply za
           · simp only [go_sem, Nat.reduceEqDiff])
        | (apply z7
           · simp only [go_sem, Nat.reduceEqDiff])
        | (apply zh
           · kernel_rfl
           · kernel_rfl)
        | (simp only [bW, if_true, Nat.reduceEqDiff, if_false])
      all_goals first | exact hk _ rfl | (exfalso; simp_all; omega)
    | true =>
      simp only [smallR, Bool.and_eq_true, decide_eq_true_eq] at h1
      have a1 : (f.xn < 1) = False := by simp; omega
      have a2 : (f.xd < 1) = False := by simp; omega
      have a3 : (f.xn > 100000) = False := by simp; omega
      have a4 : (f.xd > 100000) = False := by simp; omega
      cases h2 : smallR f.yn f.yd with
      | false =>
        rw [h' (by simp [small4, h2])]
        simp only [smallR, Bool.and_eq_false_iff, decide_eq_false_iff_not] at h2
        refine zl ?_
        try dsimp only [lp16_2, zD, zt, Tryd.f16]
        simp only [bW, if_true, Nat.reduceEqDiff, if_false]
        repeat' first
          | (intro hb; first | cases hb | skip)
          | ((first | apply z8 | apply ze)
             · rfl
             · simp (disch := assumption) only [go_sem, Nat.reduceEqDiff, Nat.reduceAdd, bP, zg, Nat.reduceLeDiff, Nat.reduceLT, Nat.reduceMul, List.length_append, decide_eq_true_eq, z9, z6, Int.reduceToNat, Int.reduceLE, Int.reduceLT, Int.reduceBNe, Int.reduceBEq, hx, hnf', hlt', hw3, show (0 : Nat) < 2 from by decide, show (1 : Nat) < 2 from by decide, show IntKind.i64.wrap (0 + 1) = 1 from by decide, show IntKind.i64.wrap (1 + 1) = 2 from by decide]
               rfl
             · simp only [go_sem, Nat.reduceLT, Nat.reduceEqDiff]
               rfl
             · rfl
             first
             | (apply zd
                · simp only [z5, z0, Nat.reduceLT, decide_true, cond_true, ins]
                  rfl
                · simp only [z5, z0, Nat.reduceLT, decide_true, cond_true, ins]
                  rfl)
             | (apply zi
                · simp only [z5, z0, Nat.reduceLT, decide_true, cond_true, ins]
                  rfl))
          | ((first | apply zb | apply zc)
             · rfl
             · simp only [z5, z0, Nat.reduceLT, decide_true, cond_true, ins]
               rfl)
          | (apply za
             · simp only [go_sem, Nat.reduceEqDiff])
          | (apply z7
             · simp only [go_sem, Nat.reduceEqDiff])
          | (apply zh
             · kernel_rfl
             · kernel_rfl)
          | (simp only [bW, if_true, Nat.reduceEqDiff, if_false])
        refine w_loop (st1 := ⟨44, [(1, .sl nf (fs.map encF) 4 none), (2, .lref 0 0 3 0), (9, .sl nf (fs.map encF) 4 none), (10, I fs.length), (11, I (i : Nat)), (15, .agg [I f.xn, I f.xd, I f.yn, I f.yd]), (16, I 0)], [(0, ⟨[zC p], 3, false⟩)], 1, 0⟩) lk16_5 (by kernel_rfl) ?_
        refine zl ?_
        try dsimp only [lp16_5, zD, zt, Tryd.f16]
        simp only [bW, if_true, Nat.reduceEqDiff, if_false]
        repeat' first
          | (intro hb; first | cases hb | skip)
          | ((first | apply z8 | apply ze)
             · rfl
             · simp (disch := assumption) only [go_sem, Nat.reduceEqDiff, Nat.reduceAdd, bP, zg, Nat.reduceLeDiff, Nat.reduceLT, Nat.reduceMul, List.length_append, decide_eq_true_eq, z9, z6, Int.reduceToNat, Int.reduceLE, Int.reduceLT, Int.reduceBNe, Int.reduceBEq, hx, hnf', hlt', hw3, show (0 : Nat) < 2 from by decide, show (1 : Nat) < 2 from by decide, show IntKind.i64.wrap (0 + 1) = 1 from by decide, show IntKind.i64.wrap (1 + 1) = 2 from by decide, a1, a2, a3, a4]
               rfl
             · simp only [go_sem, Nat.reduceLT, Nat.reduceEqDiff]
               rfl
             · rfl
             first
             | (apply zd
                · simp only [z5, z0, Nat.reduceLT, decide_true, cond_true, ins]
                  rfl
                · simp only [z5, z0, Nat.reduceLT, decide_true, cond_true, ins]
                  rfl)
             | (apply zi
                · simp only [z5, z0, Nat.reduceLT, decide_true, cond_true, ins]
                  rfl))
          | ((first | apply zb | apply zc)
             · rfl
             · simp only [z5, z0, Nat.reduceLT, decide_true, cond_true, ins]
               rfl)
          | (apply za
             · simp only [go_sem, Nat.reduceEqDiff])
          | (apply z7
             · simp only [go_sem, Nat.reduceEqDiff])
          | (apply zh
             · kernel_rfl
             · kernel_rfl)
          | (simp only [bW, if_true, Nat.reduceEqDiff, if_false])
        refine zz (st1 := ⟨44, [(1, .sl nf (fs.map encF) 4 none), (2, .lref 0 0 3 0), (9, .sl nf (fs.map encF) 4 none), (10, I fs.length), (11, I (i : Nat)), (15, .agg [I f.xn, I f.xd, I f.yn, I f.yd]), (16, I 1)], [(0, ⟨[zC p], 3, false⟩)], 1, 0⟩) lk16_5 (by kernel_rfl) ?_
        refine zl ?_
        try dsimp only [lp16_5, zD, zt, Tryd.f16]
        simp only [bW, if_true, Nat.reduceEqDiff, if_false]
        repeat' first
          | (intro hb; first | cases hb | skip)
          | ((first | apply z8 | apply ze)
             · rfl
             · simp (disch := assumption) only [go_sem, Nat.reduceEqDiff, Nat.reduceAdd, bP, zg, Nat.reduceLeDiff, Nat.reduceLT, Nat.reduceMul, List.length_append, decide_eq_true_eq, z9, z6, Int.reduceToNat, Int.reduceLE, Int.reduceLT, Int.reduceBNe, Int.reduceBEq, hx, hnf', hlt', hw3, show (0 : Nat) < 2 from by decide, show (1 : Nat) < 2 from by decide, show IntKind.i64.wrap (0 + 1) = 1 from by decide, show IntKind.i64.wrap (1 + 1) = 2 from by decide]
               rfl
             · simp only [go_sem, Nat.reduceLT, Nat.reduceEqDiff]
               rfl
             · rfl
             first
             | (apply zd
                · simp only [z5, z0, Nat.reduceLT, decide_true, cond_true, ins]
                  rfl
                · simp only [z5, z0, Nat.reduceLT, decide_true, cond_true, ins]
                  rfl)
             | (apply zi
                · simp only [z5, z0, Nat.reduceLT, decide_true, cond_true, ins]
                  rfl))
          | ((first | apply zb | apply zc)
             · rfl
             · simp only [z5, z0, Nat.reduceLT, decide_true, cond_true, ins]
               rfl)
          | (apply za
             · simp only [go_sem, Nat.reduceEqDiff])
          | (apply z7
             · simp only [go_sem, Nat.reduceEqDiff])
          | (apply zh
             · kernel_rfl
             · kernel_rfl)
          | (simp only [bW, if_true, Nat.reduceEqDiff, if_false])
        all_goals first | exact hk _ rfl | (exfalso; simp_all; omega)
      | true =>
        have hs : small4 f = true := by simp [small4, smallR, h1, h2]; simp [smallR] at h2; omega
        simp only [List.all_cons, hs, Bool.true_and] at h h'
        simp only [smallR, Bool.and_eq_true, decide_eq_true_eq] at h2
        have b1 : (f.yn < 1) = False := by simp; omega
        have b2 : (f.yd < 1) = False := by simp; omega
        have b3 : (f.yn > 100000) = False := by simp; omega
        have b4 : (f.yd > 100000) = False := by simp; omega
        refine zl ?_
        try dsimp only [lp16_2, zD, zt, Tryd.f16]
        simp only [bW, if_true, Nat.reduceEqDiff, if_false]
        repeat' first
          | (intro hb; first | cases hb | skip)
          | ((first | apply z8 | apply ze)
             · rfl
             · simp (disch := assumption) only [go_sem, Nat.reduceEqDiff, Nat.reduceAdd, bP, zg, Nat.reduceLeDiff, Nat.reduceLT, Nat.reduceMul, List.length_append, decide_eq_true_eq, z9, z6, Int.reduceToNat, Int.reduceLE, Int.reduceLT, Int.reduceBNe, Int.reduceBEq, hx, hnf', hlt', hw3, show (0 : Nat) < 2 from by decide, show (1 : Nat) < 2 from by decide, show IntKind.i64.wrap (0 + 1) = 1 from by decide, show IntKind.i64.wrap (1 + 1) = 2 from by decide]
               rfl
             · simp only [go_sem, Nat.reduceLT, Nat.reduceEqDiff]
               rfl
             · rfl
             first
             | (apply zd
                · simp only [z5, z0, Nat.reduceLT, decide_true, cond_true, ins]
                  rfl
                · simp only [z5, z0, Nat.reduceLT, decide_true, cond_true, ins]
                  rfl)
             | (apply zi
                · simp only [z5, z0, Nat.reduceLT, decide_true, cond_true, ins]
                  rfl))
          | ((first | apply zb | apply zc)
             · rfl
             · simp only [z5, z0, Nat.reduceLT, decide_true, cond_true, ins]
               rfl)
          | (apply za
             · simp only [go_sem, Nat.reduceEqDiff])
          | (apply z7
             · simp only [go_sem, Nat.reduceEqDiff])
          | (apply zh
             · kernel_rfl
             · kernel_rfl)
          | (simp only [bW, if_true, Nat.reduceEqDiff, if_false])
        refine w_loop (st1 := ⟨44, [(1, .sl nf (fs.map encF) 4 none), (2, .lref 0 0 3 0), (9, .sl nf (fs.map encF) 4 none), (10, I fs.length), (11, I (i : Nat)), (15, .agg [I f.xn, I f.xd, I f.yn, I f.yd]), (16, I 0)], [(0, ⟨[zC p], 3, false⟩)], 1, 0⟩) lk16_5 (by kernel_rfl) ?_
        refine zl ?_
        try dsimp only [lp16_5, zD, zt, Tryd.f16]
        simp only [bW, if_true, Nat.reduceEqDiff, if_false]
        repeat' first
          | (intro hb; first | cases hb | skip)
          | ((first | apply z8 | apply ze)
             · rfl
             · simp (disch := assumption) only [go_sem, Nat.reduceEqDiff, Nat.reduceAdd, bP, zg, Nat.reduceLeDiff, Nat.reduceLT, Nat.reduceMul, List.length_append, decide_eq_true_eq, z9, z6, Int.reduceToNat, Int.reduceLE, Int.reduceLT, Int.reduceBNe, Int.reduceBEq, hx, hnf', hlt', hw3, show (0 : Nat) < 2 from by decide, show (1 : Nat) < 2 from by decide, show IntKind.i64.wrap (0 + 1) = 1 from by decide, show IntKind.i64.wrap (1 + 1) = 2 from by decide, a1, a2, a3, a4]
               rfl
             · simp only [go_sem, Nat.reduceLT, Nat.reduceEqDiff]
               rfl
             · rfl
             first
             | (apply zd
                · simp only [z5, z0, Nat.reduceLT, decide_true, cond_true, ins]
                  rfl
                · simp only [z5, z0, Nat.reduceLT, decide_true, cond_true, ins]
                  rfl)
             | (apply zi
                · simp only [z5, z0, Nat.reduceLT, decide_true, cond_true, ins]
                  rfl))
          | ((first | apply zb | apply zc)
             · rfl
             · simp only [z5, z0, Nat.reduceLT, decide_true, cond_true, ins]
               rfl)
          | (apply za
             · simp only [go_sem, Nat.reduceEqDiff])
          | (apply z7
             · simp only [go_sem, Nat.reduceEqDiff])
          | (apply zh
             · kernel_rfl
             · kernel_rfl)
          | (simp only [bW, if_true, Nat.reduceEqDiff, if_false])
        refine zz (st1 := ⟨44, [(1, .sl nf (fs.map encF) 4 none), (2, .lref 0 0 3 0), (9, .sl nf (fs.map encF) 4 none), (10, I fs.length), (11, I (i : Nat)), (15, .agg [I f.xn, I f.xd, I f.yn, I f.yd]), (16, I 1)], [(0, ⟨[zC p], 3, false⟩)], 1, 0⟩) lk16_5 (by kernel_rfl) ?_
        refine zl ?_
        try dsimp only [lp16_5, zD, zt, Tryd.f16]
        simp only [bW, if_true, Nat.reduceEqDiff, if_false]
        repeat' first
          | (intro hb; first | cases hb | skip)
          | ((first | apply z8 | apply ze)
             · rfl
             · simp (disch := assumption) only [go_sem, Nat.reduceEqDiff, Nat.reduceAdd, bP, zg, Nat.reduceLeDiff, Nat.reduceLT, Nat.reduceMul, List.length_append, decide_eq_true_eq, z9, z6, Int.reduceToNat, Int.reduceLE, Int.reduceLT, Int.reduceBNe, Int.reduceBEq, hx, hnf', hlt', hw3, show (0 : Nat) < 2 from by decide, show (1 : Nat) < 2 from by decide, show IntKind.i64.wrap (0 + 1) = 1 from by decide, show IntKind.i64.wrap (1 + 1) = 2 from by decide, b1, b2, b3, b4]
               rfl
             · simp only [go_sem, Nat.reduceLT, Nat.reduceEqDiff]
               rfl
             · rfl
             first
             | (apply zd
                · simp only [z5, z0, Nat.reduceLT, decide_true, cond_true, ins]
                  rfl
                · simp only [z5, z0, Nat.reduceLT, decide_true, cond_true, ins]
                  rfl)
             | (apply zi
                · simp only [z5, z0, Nat.reduceLT, decide_true, cond_true, ins]
                  rfl))
          | ((first | apply zb | apply zc)
             · rfl
             · simp only [z5, z0, Nat.reduceLT, decide_true, cond_true, ins]
               rfl)
          | (apply za
             · simp only [go_sem, Nat.reduceEqDiff])
          | (apply z7
             · simp only [go_sem, Nat.reduceEqDiff])
          | (apply zh
             · kernel_rfl
             · kernel_rfl)
          | (simp only [bW, if_true, Nat.reduceEqDiff, if_false])
        refine zz (st1 := ⟨44, [(1, .sl nf (fs.map encF) 4 none), (2, .lref 0 0 3 0), (9, .sl nf (fs.map encF) 4 none), (10, I fs.length), (11, I (i : Nat)), (15, .agg [I f.xn, I f.xd, I f.yn, I f.yd]), (16, I 2)], [(0, ⟨[zC p], 3, false⟩)], 1, 0⟩) lk16_5 (by kernel_rfl) ?_
        refine zl ?_
        try dsimp only [lp16_5, zD, zt, Tryd.f16]
        simp only [bW, if_true, Nat.reduceEqDiff, if_false]
        repeat' first
          | (intro hb; first | cases hb | skip)
          | ((first | apply z8 | apply ze)
             · rfl
             · simp (disch := assumption) only [go_sem, Nat.reduceEqDiff, Nat.reduceAdd, bP, zg, Nat.reduceLeDiff, Nat.reduceLT, Nat.reduceMul, List.length_append, decide_eq_true_eq, z9, z6, Int.reduceToNat, Int.reduceLE, Int.reduceLT, Int.reduceBNe, Int.reduceBEq, hx, hnf', hlt', hw3, show (0 : Nat) < 2 from by decide, show (1 : Nat) < 2 from by decide, show IntKind.i64.wrap (0 + 1) = 1 from by decide, show IntKind.i64.wrap (1 + 1) = 2 from by decide]
               rfl
             · simp only [go_sem, Nat.reduceLT, Nat.reduceEqDiff]
               rfl
             · rfl
             first
             | (apply zd
                · simp only [z5, z0, Nat.reduceLT, decide_true, cond_true, ins]
                  rfl
                · simp only [z5, z0, Nat.reduceLT, decide_true, cond_true, ins]
                  rfl)
             | (apply zi
                · simp only [z5, z0, Nat.reduceLT, decide_true, cond_true, ins]
                  rfl))
          | ((first | apply zb | apply zc)
             · rfl
             · simp only [z5, z0, Nat.reduceLT, decide_true, cond_true, ins]
               rfl)
          | (apply za
             · simp only [go_sem, Nat.reduceEqDiff])
          | (apply z7
             · simp only [go_sem, Nat.reduceEqDiff])
          | (apply zh
             · kernel_rfl
             · kernel_rfl)
          | (simp only [bW, if_true, Nat.reduceEqDiff, if_false])
        exact zz (st1 := ⟨44, [(1, .sl nf (fs.map encF) 4 none), (2, .lref 0 0 3 0), (9, .sl nf (fs.map encF) 4 none), (10, I fs.length), (11, I (i + 1 : Nat))], [(0, ⟨[zC p], 3, false⟩)], 1, 0⟩) lk16_2 (by kernel_rfl) (ih (i + 1) (by rw [← List.drop_drop, hd]; rfl) hlt h h')
theorem t16 (p : Paper) (fs : List F4) (nf : Bool) (sf : Nat) (hnf : nf = true → fs = []) (hsf : nf = false → sf = 4) (hl : fs.length ≤ 9223372036854775807) : (lim cfg).pure 16 [zC p, .sl nf (fs.map encF) sf none] = some (B (plainF p fs)) := by
  have hlf := len_if (f := encF) hnf
  refine zo (zj 16) cfn16 rfl (n := 44) rfl ?_
  generalize hF : finP cfg Tryd.f16 = F
  simp only [bW, if_true, Nat.reduceEqDiff, if_false, zk]
  repeat' first
    | (intro hb; first | cases hb | skip)
    | ((first | apply z8 | apply ze)
       · rfl
       · simp (disch := assumption) only [go_sem, Nat.reduceEqDiff, Nat.reduceAdd, bP, zg, Nat.reduceLeDiff, Nat.reduceLT, Nat.reduceMul, List.length_append, decide_eq_true_eq, z9, z6, Int.reduceToNat, Int.reduceLE, Int.reduceLT, Int.reduceBNe, Int.reduceBEq, hlf]
         rfl
       · simp only [go_sem, Nat.reduceLT, Nat.reduceEqDiff]
         rfl
       · rfl
       first
       | (apply zd
          · simp only [z5, z0, Nat.reduceLT, decide_true, cond_true, ins]
            rfl
          · simp only [z5, z0, Nat.reduceLT, decide_true, cond_true, ins]
            rfl)
       | (apply zi
          · simp only [z5, z0, Nat.reduceLT, decide_true, cond_true, ins]
            rfl))
    | ((first | apply zb | apply zc)
       · rfl
       · simp only [z5, z0, Nat.reduceLT, decide_true, cond_true, ins]
         rfl)
    | (apply za
       · simp only [go_sem, Nat.reduceEqDiff])
    | (apply z7
       · simp only [go_sem, Nat.reduceEqDiff])
    | (apply zh
       · kernel_rfl
       · kernel_rfl)
    | (simp only [bW, if_true, Nat.reduceEqDiff, if_false])
  have hend : ∀ v st, get st.tmps 4 = B v → F .ret st = some (B v) := by
    intro v st hd
    subst hF
    simp only [go_sem, Nat.reduceEqDiff, bP, Nat.reduceAdd, Nat.reduceLeDiff, List.length_map, Tryd.f16, hd]
  refine w_loop (st1 := ⟨44, [(1, .sl nf (fs.map encF) sf none), (2, .lref 0 0 3 0), (9, .sl nf (fs.map encF) sf none), (10, I fs.length), (11, I (0 : Nat))], [(0, ⟨[zC p], 3, false⟩)], 1, 0⟩) lk16_2 (by kernel_rfl) (L16_2 p fs nf sf _ _ hnf hsf hl (fun st hd => ?_) fs 0 rfl (Nat.zero_le _) (fun ha => ?_) (fun ha => by simp [plainF, ha]))
  · simp only [bW, if_true, Nat.reduceEqDiff, if_false]
    exact hend false st hd
  · by_cases hlen : (fs.length : Int) = p.sheets
    · have hb : ((fs.length : Int) == p.sheets) = true := by simp [hlen]
      rw [show plainF p fs = true by simp [plainF, ha, hlen]]
      simp only [bW, if_true, Nat.reduceEqDiff, if_false]
      repeat' first
        | (intro hb; first | cases hb | skip)
        | ((first | apply z8 | apply ze)
           · rfl
           · simp (disch := assumption) only [go_sem, Nat.reduceEqDiff, Nat.reduceAdd, bP, zg, Nat.reduceLeDiff, Nat.reduceLT, Nat.reduceMul, List.length_append, decide_eq_true_eq, z9, z6, Int.reduceToNat, Int.reduceLE, Int.reduceLT, Int.reduceBNe, Int.reduceBEq, hlf, hb]
             rfl
           · simp only [go_sem, Nat.reduceLT, Nat.reduceEqDiff]
             rfl
           · rfl
           first
           | (apply zd
              · simp only [z5, z0, Nat.reduceLT, decide_true, cond_true, ins]
                rfl
              · simp only [z5, z0, Nat.reduceLT, decide_true, cond_true, ins]
                rfl)
           | (apply zi
              · simp only [z5, z0, Nat.reduceLT, decide_true, cond_true, ins]
                rfl))
        | ((first | apply zb | apply zc)
           · rfl
           · simp only [z5, z0, Nat.reduceLT, decide_true, cond_true, ins]
             rfl)
        | (apply za
           · simp only [go_sem, Nat.reduceEqDiff])
        | (apply z7
           · simp only [go_sem, Nat.reduceEqDiff])
        | (apply zh
           · kernel_rfl
           · kernel_rfl)
        | (simp only [bW, if_true, Nat.reduceEqDiff, if_false])
      exact hend true _ rfl
    · have hb : ((fs.length : Int) == p.sheets) = false := by simp [hlen]
      rw [show plainF p fs = false by simp [plainF, hlen]]
      simp only [bW, if_true, Nat.reduceEqDiff, if_false]
      repeat' first
        | (intro hb; first | cases hb | skip)
        | ((first | apply z8 | apply ze)
           · rfl
           · simp (disch := assumption) only [go_sem, Nat.reduceEqDiff, Nat.reduceAdd, bP, zg, Nat.reduceLeDiff, Nat.reduceLT, Nat.reduceMul, List.length_append, decide_eq_true_eq, z9, z6, Int.reduceToNat, Int.reduceLE, Int.reduceLT, Int.reduceBNe, Int.reduceBEq, hlf, hb]
             rfl
           · simp only [go_sem, Nat.reduceLT, Nat.reduceEqDiff]
             rfl
           · rfl
           first
           | (apply zd
              · simp only [z5, z0, Nat.reduceLT, decide_true, cond_true, ins]
                rfl
              · simp only [z5, z0, Nat.reduceLT, decide_true, cond_true, ins]
                rfl)
           | (apply zi
              · simp only [z5, z0, Nat.reduceLT, decide_true, cond_true, ins]
                rfl))
        | ((first | apply zb | apply zc)
           · rfl
           · simp only [z5, z0, Nat.reduceLT, decide_true, cond_true, ins]
             rfl)
        | (apply za
           · simp only [go_sem, Nat.reduceEqDiff])
        | (apply z7
           · simp only [go_sem, Nat.reduceEqDiff])
        | (apply zh
           · kernel_rfl
           · kernel_rfl)
        | (simp only [bW, if_true, Nat.reduceEqDiff, if_false])
      exact hend false _ rfl

end Go.VS
namespace Go.VS
open Go Go.Proofs
set_option maxHeartbeats 0
set_option linter.unusedSimpArgs false

noncomputable def lp112_2 : Code := zD [1, 0, 1, 0, 0] (zt Tryd.f112)
theorem lk112_2 : cfg.keep 112 (zw lp112_2) = [0, 1, 7, 8] := by kernel_rfl

noncomputable def lp93_6 : Code := zD [1, 1, 1, 1, 0, 1, 0, 0] (zt Tryd.f93)
theorem lk93_6 : cfg.keep 93 (zw lp93_6) = [3, 9, 10, 11, 12, 29, 30, 31] := by kernel_rfl

theorem t113 (e : Edge) (r : Reason) : (lim cfg).pure 113 [.agg [I e.src, I e.dst, I e.q.n, I e.q.d, B e.why.join, I e.why.at_, B e.why.back], .ptr (.agg [B r.join, I r.at_, B r.back])] = some (B (eqW e.why r)) := by
  refine zo (zj 113) cfn113 rfl (n := 8) rfl ?_
  simp only [bW, if_true, Nat.reduceEqDiff, if_false, zk]
  repeat' first
    | (intro hb; first | cases hb | skip)
    | ((first | apply z8 | apply ze)
       · rfl
       · simp (disch := assumption) only [go_sem, Nat.reduceEqDiff, Nat.reduceAdd, bP, zg, Nat.reduceLeDiff, Nat.reduceLT, Nat.reduceMul, List.length_append, decide_eq_true_eq, z9, z6, Int.reduceToNat, Int.reduceLE, Int.reduceLT, Int.reduceBNe, Int.reduceBEq, eqBoolV]
         rfl
       · simp only [go_sem, Nat.reduceLT, Nat.reduceEqDiff]
         rfl
       · rfl
       first
       | (apply zd
          · simp only [z5, z0, Nat.reduceLT, decide_true, cond_true, ins]
            rfl
          · simp only [z5, z0, Nat.reduceLT, decide_true, cond_true, ins]
            rfl)
       | (apply zi
          · simp only [z5, z0, Nat.reduceLT, decide_true, cond_true, ins]
            rfl))
    | ((first | apply zb | apply zc)
       · rfl
       · simp only [z5, z0, Nat.reduceLT, decide_true, cond_true, ins]
         rfl)
    | (apply za
       · simp only [go_sem, Nat.reduceEqDiff])
    | (apply z7
       · simp only [go_sem, Nat.reduceEqDiff])
    | (apply zh
       · kernel_rfl
       · kernel_rfl)
    | (simp only [bW, if_true, Nat.reduceEqDiff, if_false])
  all_goals simp only [go_sem, Nat.reduceEqDiff, bP, Nat.reduceAdd, Nat.reduceLeDiff, List.length_map, Tryd.f113]
  all_goals (simp_all [eqW]; done)

def idxW (es : List Edge) (r : Reason) : Nat → List Edge → Int
  | _, [] => -1
  | i, e :: rest => if eqW e.why r then (i : Int) else idxW es r (i + 1) rest
theorem idxW_spec {es : List Edge} {r : Reason} : ∀ {rest : List Edge} {i : Nat}, es.drop i = rest → (rest.find? (fun e => eqW e.why r) = none → idxW es r i rest = -1) ∧ (∀ e, rest.find? (fun e => eqW e.why r) = some e → ∃ k : Nat, idxW es r i rest = k ∧ es[k]? = some e)
  | [], i, _ => ⟨fun _ => rfl, fun e h => by simp at h⟩
  | e :: rest, i, hd => by
    have hm : es[i]? = some e := by rw [← List.head?_drop, hd]; rfl
    obtain ⟨i1, i2⟩ := idxW_spec (es := es) (r := r) (rest := rest) (i := i + 1) (by rw [← List.drop_drop, hd]; rfl)
    simp only [idxW, List.find?_cons]
    cases h : eqW e.why r with
    | true =>
      refine ⟨fun h' => by simp at h', fun e' h' => ?_⟩
      simp at h'
      subst h'
      exact ⟨i, by simp, hm⟩
    | false =>
      simp only [Bool.false_eq_true, if_false]
      exact ⟨i1, fun e' h' => i2 e' h'⟩

theorem L112_2 {F : Exit → St → Option D} (es : List Edge) (r : Reason) (k : List Kt) (x : D) (hl : es.length ≤ 1000) (hk : ∀ (v : Int) st, get st.tmps 4 = I v → zF cfg (lim cfg) 112 F k .ret st = some (I v)) : ∀ (rest : List Edge) (i : Nat), es.drop i = rest → i ≤ es.length →
    (idxW es r i rest = -1 → zF cfg (lim cfg) 112 F k (.exit 0) ⟨19, [(9, B false), (0, .sl false (es.map zK) 7 none), (1, .fn (.func 113) [] [.ptr (.agg [B r.join, I r.at_, B r.back])]), (7, I es.length), (8, I (es.length : Nat))], [], 0, 0⟩ = some x) →
    (idxW es r i rest ≠ -1 → x = I (idxW es r i rest)) →
    EvL cfg (lim cfg) 112 F lp112_2 k ⟨19, [(0, .sl false (es.map zK) 7 none), (1, .fn (.func 113) [] [.ptr (.agg [B r.join, I r.at_, B r.back])]), (7, I es.length), (8, I (i : Nat))], [], 0, 0⟩ = some x := by
  intro rest
  induction rest with
  | nil =>
    intro i hd hi h h'
    have hi' : i = es.length := by
      have := List.drop_eq_nil_iff.1 hd
      omega
    subst hi'
    refine zl ?_
    try dsimp only [lp112_2, zD, zt, Tryd.f112]
    simp only [bW, if_true, Nat.reduceEqDiff, if_false]
    repeat' first
      | (intro hb; first | cases hb | skip)
      | ((first | apply z8 | apply ze)
         · rfl
         · simp (disch := assumption) only [go_sem, Nat.reduceEqDiff, Nat.reduceAdd, bP, zg, Nat.reduceLeDiff, Nat.reduceLT, Nat.reduceMul, List.length_append, decide_eq_true_eq, z9, z6, Int.reduceToNat, Int.reduceLE, Int.reduceLT, Int.reduceBNe, Int.reduceBEq, Int.lt_irrefl]
           rfl
         · simp only [go_sem, Nat.reduceLT, Nat.reduceEqDiff]
           rfl
         · rfl
         first
         | (apply zd
            · simp only [z5, z0, Nat.reduceLT, decide_true, cond_true, ins]
              rfl
            · simp only [z5, z0, Nat.reduceLT, decide_true, cond_true, ins]
              rfl)
         | (apply zi
            · simp only [z5, z0, Nat.reduceLT, decide_true, cond_true, ins]
              rfl))
      | ((first | apply zb | apply zc)
         · rfl
         · simp only [z5, z0, Nat.reduceLT, decide_true, cond_true, ins]
           rfl)
      | (apply za
         · simp only [go_sem, Nat.reduceEqDiff])
      | (apply z7
         · simp only [go_sem, Nat.reduceEqDiff])
      | (apply zh
         · kernel_rfl
         · kernel_rfl)
      | (simp only [bW, if_true, Nat.reduceEqDiff, if_false])
    exact h rfl
  | cons e rest ih =>
    intro i hd hi h h'
    have hlt : i < es.length := by
      rcases Nat.lt_or_ge i es.length with h | h
      · exact h
      · rw [List.drop_eq_nil_of_le h] at hd; cases hd
    have hm : es[i]? = some e := by rw [← List.head?_drop, hd]; rfl
    have hx : (es.map zK)[i]? = some (.agg [I e.src, I e.dst, I e.q.n, I e.q.d, B e.why.join, I e.why.at_, B e.why.back]) := by rw [List.getElem?_map, hm]; rfl
    have hlt' : (i : Int) < (es.length : Int) := by omega
    have hw3 : IntKind.i64.wrap ((i : Int) + 1) = ((i + 1 : Nat) : Int) := by rw [wrap_i64 (by omega) (by omega)]; omega
    have h113 := t113 e r
    simp only [idxW] at h h'
    cases he : eqW e.why r with
    | true =>
      rw [he] at h113
      simp only [he, if_true] at h h'
      rw [h' (by omega)]
      clear h h'
      refine zl ?_
      try dsimp only [lp112_2, zD, zt, Tryd.f112]
      simp only [bW, if_true, Nat.reduceEqDiff, if_false]
      repeat' first
        | (intro hb; first | cases hb | skip)
        | ((first | apply z8 | apply ze)
           · rfl
           · simp (disch := assumption) only [go_sem, Nat.reduceEqDiff, Nat.reduceAdd, bP, zg, Nat.reduceLeDiff, Nat.reduceLT, Nat.reduceMul, List.length_append, decide_eq_true_eq, z9, z6, Int.reduceToNat, Int.reduceLE, Int.reduceLT, Int.reduceBNe, Int.reduceBEq, hx, hlt', hw3, h113]
             rfl
           · simp only [go_sem, Nat.reduceLT, Nat.reduceEqDiff]
             rfl
           · rfl
           first
           | (apply zd
              · simp only [z5, z0, Nat.reduceLT, decide_true, cond_true, ins]
                rfl
              · simp only [z5, z0, Nat.reduceLT, decide_true, cond_true, ins]
                rfl)
           | (apply zi
              · simp only [z5, z0, Nat.reduceLT, decide_true, cond_true, ins]
                rfl))
        | ((first | apply zb | apply zc)
           · rfl
           · simp only [z5, z0, Nat.reduceLT, decide_true, cond_true, ins]
             rfl)
        | (apply za
           · simp only [go_sem, Nat.reduceEqDiff])
        | (apply z7
           · simp only [go_sem, Nat.reduceEqDiff])
        | (apply zh
           · kernel_rfl
           · kernel_rfl)
        | (simp only [bW, if_true, Nat.reduceEqDiff, if_false])
      exact hk _ _ rfl
    | false =>
      rw [he] at h113
      simp only [he, Bool.false_eq_true, if_false] at h h'
      refine zl ?_
      try dsimp only [lp112_2, zD, zt, Tryd.f112]
      simp only [bW, if_true, Nat.reduceEqDiff, if_false]
      repeat' first
        | (intro hb; first | cases hb | skip)
        | ((first | apply z8 | apply ze)
           · rfl
           · simp (disch := assumption) only [go_sem, Nat.reduceEqDiff, Nat.reduceAdd, bP, zg, Nat.reduceLeDiff, Nat.reduceLT, Nat.reduceMul, List.length_append, decide_eq_true_eq, z9, z6, Int.reduceToNat, Int.reduceLE, Int.reduceLT, Int.reduceBNe, Int.reduceBEq, hx, hlt', hw3, h113]
             rfl
           · simp only [go_sem, Nat.reduceLT, Nat.reduceEqDiff]
             rfl
           · rfl
           first
           | (apply zd
              · simp only [z5, z0, Nat.reduceLT, decide_true, cond_true, ins]
                rfl
              · simp only [z5, z0, Nat.reduceLT, decide_true, cond_true, ins]
                rfl)
           | (apply zi
              · simp only [z5, z0, Nat.reduceLT, decide_true, cond_true, ins]
                rfl))
        | ((first | apply zb | apply zc)
           · rfl
           · simp only [z5, z0, Nat.reduceLT, decide_true, cond_true, ins]
             rfl)
        | (apply za
           · simp only [go_sem, Nat.reduceEqDiff])
        | (apply z7
           · simp only [go_sem, Nat.reduceEqDiff])
        | (apply zh
           · kernel_rfl
           · kernel_rfl)
        | (simp only [bW, if_true, Nat.reduceEqDiff, if_false])
      exact zz (st1 := ⟨19, [(0, .sl false (es.map zK) 7 none), (1, .fn (.func 113) [] [.ptr (.agg [B r.join, I r.at_, B r.back])]), (7, I es.length), (8, I (i + 1 : Nat))], [], 0, 0⟩) lk112_2 (by kernel_rfl) (ih (i + 1) (by rw [← List.drop_drop, hd]; rfl) hlt h h')
theorem t112 (es : List Edge) (r : Reason) (hl : es.length ≤ 1000) : (lim cfg).pure 112 [.sl false (es.map zK) 7 none, .fn (.func 113) [] [.ptr (.agg [B r.join, I r.at_, B r.back])]] = some (I (idxW es r 0 es)) := by
  refine zo (zj 112) cfn112 rfl (n := 19) rfl ?_
  generalize hF : finP cfg Tryd.f112 = F
  simp only [bW, if_true, Nat.reduceEqDiff, if_false, zk]
  have hret : ∀ (v : Int) st, get st.tmps 4 = I v → F .ret st = some (I v) := by
    intro v st h
    subst hF
    simp only [go_sem, Nat.reduceEqDiff, bP, Nat.reduceAdd, Nat.reduceLeDiff, List.length_map, Tryd.f112, h]
  repeat' first
    | (intro hb; first | cases hb | skip)
    | ((first | apply z8 | apply ze)
       · rfl
       · simp (disch := assumption) only [go_sem, Nat.reduceEqDiff, Nat.reduceAdd, bP, zg, Nat.reduceLeDiff, Nat.reduceLT, Nat.reduceMul, List.length_append, decide_eq_true_eq, z9, z6, Int.reduceToNat, Int.reduceLE, Int.reduceLT, Int.reduceBNe, Int.reduceBEq, List.length_map]
         rfl
       · simp only [go_sem, Nat.reduceLT, Nat.reduceEqDiff]
         rfl
       · rfl
       first
       | (apply zd
          · simp only [z5, z0, Nat.reduceLT, decide_true, cond_true, ins]
            rfl
          · simp only [z5, z0, Nat.reduceLT, decide_true, cond_true, ins]
            rfl)
       | (apply zi
          · simp only [z5, z0, Nat.reduceLT, decide_true, cond_true, ins]
            rfl))
    | ((first | apply zb | apply zc)
       · rfl
       · simp only [z5, z0, Nat.reduceLT, decide_true, cond_true, ins]
         rfl)
    | (apply za
       · simp only [go_sem, Nat.reduceEqDiff])
    | (apply z7
       · simp only [go_sem, Nat.reduceEqDiff])
    | (apply zh
       · kernel_rfl
       · kernel_rfl)
    | (simp only [bW, if_true, Nat.reduceEqDiff, if_false])
  refine w_loop (st1 := ⟨19, [(0, .sl false (es.map zK) 7 none), (1, .fn (.func 113) [] [.ptr (.agg [B r.join, I r.at_, B r.back])]), (7, I es.length), (8, I (0 : Nat))], [], 0, 0⟩) lk112_2 (by kernel_rfl) (L112_2 es r _ _ hl (fun v st h => by simp only [bW, if_true, Nat.reduceEqDiff, if_false]; exact hret v st h) es 0 rfl (Nat.zero_le _) (fun h => ?_) (fun h => rfl))
  rw [h]
  simp only [bW, if_true, Nat.reduceEqDiff, if_false]
  repeat' first
    | (intro hb; first | cases hb | skip)
    | ((first | apply z8 | apply ze)
       · rfl
       · simp (disch := assumption) only [go_sem, Nat.reduceEqDiff, Nat.reduceAdd, bP, zg, Nat.reduceLeDiff, Nat.reduceLT, Nat.reduceMul, List.length_append, decide_eq_true_eq, z9, z6, Int.reduceToNat, Int.reduceLE, Int.reduceLT, Int.reduceBNe, Int.reduceBEq]
         rfl
       · simp only [go_sem, Nat.reduceLT, Nat.reduceEqDiff]
         rfl
       · rfl
       first
       | (apply zd
          · simp only [z5, z0, Nat.reduceLT, decide_true, cond_true, ins]
            rfl
          · simp only [z5, z0, Nat.reduceLT, decide_true, cond_true, ins]
            rfl)
       | (apply zi
          · simp only [z5, z0, Nat.reduceLT, decide_true, cond_true, ins]
            rfl))
    | ((first | apply zb | apply zc)
       · rfl
       · simp only [z5, z0, Nat.reduceLT, decide_true, cond_true, ins]
         rfl)
    | (apply za
       · simp only [go_sem, Nat.reduceEqDiff])
    | (apply z7
       · simp only [go_sem, Nat.reduceEqDiff])
    | (apply zh
       · kernel_rfl
       · kernel_rfl)
    | (simp only [bW, if_true, Nat.reduceEqDiff, if_false])
  subst hF
  all_goals simp only [go_sem, Nat.reduceEqDiff, bP, Nat.reduceAdd, Nat.reduceLeDiff, List.length_map, Tryd.f112]
theorem t92 (s a : Int) (q : Ratio) (h1 : 1 ≤ q.n) (h2 : q.n ≤ 32000000000000000) (h3 : 1 ≤ q.d) (h4 : q.d ≤ 32000000000000000) : (lim cfg).pure 92 [I s, I a, .agg [I q.n, I q.d]] = some (B ((s == a) && ltR q one1)) := by
  have h75 := t75 q.n q.d 1 1 ⟨by omega, by omega⟩ ⟨by omega, by omega⟩ ⟨by omega, by omega⟩ ⟨by omega, by omega⟩
  have hl := cmp_lt q one1
  unfold cmpR at hl
  simp only [one1] at hl
  cases hs : (s == a) with
  | false =>
    refine zo (zj 92) cfn92 rfl (n := 16) rfl ?_
    simp only [bW, if_true, Nat.reduceEqDiff, if_false, zk]
    repeat' first
      | (intro hb; first | cases hb | skip)
      | ((first | apply z8 | apply ze)
         · rfl
         · simp (disch := assumption) only [go_sem, Nat.reduceEqDiff, Nat.reduceAdd, bP, zg, Nat.reduceLeDiff, Nat.reduceLT, Nat.reduceMul, List.length_append, decide_eq_true_eq, z9, z6, Int.reduceToNat, Int.reduceLE, Int.reduceLT, Int.reduceBNe, Int.reduceBEq, cfg_glob0, h75, hs, hl, one1]
           rfl
         · simp only [go_sem, Nat.reduceLT, Nat.reduceEqDiff]
           rfl
         · rfl
         first
         | (apply zd
            · simp only [z5, z0, Nat.reduceLT, decide_true, cond_true, ins]
              rfl
            · simp only [z5, z0, Nat.reduceLT, decide_true, cond_true, ins]
              rfl)
         | (apply zi
            · simp only [z5, z0, Nat.reduceLT, decide_true, cond_true, ins]
              rfl))
      | ((first | apply zb | apply zc)
         · rfl
         · simp only [z5, z0, Nat.reduceLT, decide_true, cond_true, ins]
           rfl)
      | (apply za
         · simp only [go_sem, Nat.reduceEqDiff])
      | (apply z7
         · simp only [go_sem, Nat.reduceEqDiff])
      | (apply zh
         · kernel_rfl
         · kernel_rfl)
      | (simp only [bW, if_true, Nat.reduceEqDiff, if_false])
    all_goals try simp only [go_sem, Nat.reduceEqDiff, bP, Nat.reduceAdd, Nat.reduceLeDiff, List.length_map, Tryd.f92, one1]
    all_goals first | done | rfl | (simp_all []; done) | trace_state
  | true =>
    refine zo (zj 92) cfn92 rfl (n := 16) rfl ?_
    simp only [bW, if_true, Nat.reduceEqDiff, if_false, zk]
    repeat' first
      | (intro hb; first | cases hb | skip)
      | ((first | apply z8 | apply ze)
         · rfl
         · simp (disch := assumption) only [go_sem, Nat.reduceEqDiff, Nat.reduceAdd, bP, zg, Nat.reduceLeDiff, Nat.reduceLT, Nat.reduceMul, List.length_append, decide_eq_true_eq, z9, z6, Int.reduceToNat, Int.reduceLE, Int.reduceLT, Int.reduceBNe, Int.reduceBEq, cfg_glob0, h75, hs, hl, one1]
           rfl
         · simp only [go_sem, Nat.reduceLT, Nat.reduceEqDiff]
           rfl
         · rfl
         first
         | (apply zd
            · simp only [z5, z0, Nat.reduceLT, decide_true, cond_true, ins]
              rfl
            · simp only [z5, z0, Nat.reduceLT, decide_true, cond_true, ins]
              rfl)
         | (apply zi
            · simp only [z5, z0, Nat.reduceLT, decide_true, cond_true, ins]
              rfl))
      | ((first | apply zb | apply zc)
         · rfl
         · simp only [z5, z0, Nat.reduceLT, decide_true, cond_true, ins]
           rfl)
      | (apply za
         · simp only [go_sem, Nat.reduceEqDiff])
      | (apply z7
         · simp only [go_sem, Nat.reduceEqDiff])
      | (apply zh
         · kernel_rfl
         · kernel_rfl)
      | (simp only [bW, if_true, Nat.reduceEqDiff, if_false])
    all_goals try simp only [go_sem, Nat.reduceEqDiff, bP, Nat.reduceAdd, Nat.reduceLeDiff, List.length_map, Tryd.f92, one1]
    all_goals first | done | rfl | (simp_all []; done) | trace_state

/-- Is a ratio at most another one? -/
def leR (a b : Ratio) : Bool := decide (a.n * b.d ≤ b.n * a.d)
theorem cmp_le (a b : Ratio) : decide (cmpI (a.n * b.d) (b.n * a.d) ≤ 0) = leR a b := by
  unfold cmpI leR
  rw [decide_eq_decide]
  split
  · simp; omega
  · split <;> simp <;> omega
def proves (g : Bool) (sh : Int) (bd : Ratio) (s a : Int) (q : Ratio) : Bool := if g then (s == 1 + sh) && ((a == 0) && leR q bd) else (s == 0) && ((a == 1 + sh) && leR q ⟨bd.d, bd.n⟩)
theorem t96 (g : Bool) (sh : Int) (bd : Ratio) (s a : Int) (q : Ratio) (h1 : 1 ≤ q.n) (h2 : q.n ≤ 32000000000000000) (h3 : 1 ≤ q.d) (h4 : q.d ≤ 32000000000000000) (hb : ratioOK bd = true) (hs1 : 0 ≤ sh) (hs2 : sh ≤ 4) : (lim cfg).pure 96 [I s, I a, .agg [I q.n, I q.d], .ptr (B g), .ptr (I sh), .ptr (.agg [I bd.n, I bd.d])] = some (B (proves g sh bd s a q)) := by
  obtain ⟨r1, r2⟩ := ratio_p63 hb
  have h75 := t75 q.n q.d bd.n bd.d ⟨by omega, by omega⟩ ⟨by omega, by omega⟩ r1 r2
  have h75' := t75 q.n q.d bd.d bd.n ⟨by omega, by omega⟩ ⟨by omega, by omega⟩ r2 r1
  have hl := cmp_le q bd
  have hl' := cmp_le q ⟨bd.d, bd.n⟩
  simp only [] at hl'
  have hw : IntKind.i64.wrap (1 + sh) = 1 + sh := wrap_i64 (by omega) (by omega)
  unfold proves
  cases g with
  | true =>
    simp only [if_true]
    cases e1 : (s == 1 + sh) <;> cases e2 : (a == 0)
    all_goals
      refine zo (zj 96) cfn96 rfl (n := 40) rfl ?_
      simp only [bW, if_true, Nat.reduceEqDiff, if_false, zk]
      repeat' first
        | (intro hb; first | cases hb | skip)
        | ((first | apply z8 | apply ze)
           · rfl
           · simp (disch := assumption) only [go_sem, Nat.reduceEqDiff, Nat.reduceAdd, bP, zg, Nat.reduceLeDiff, Nat.reduceLT, Nat.reduceMul, List.length_append, decide_eq_true_eq, z9, z6, Int.reduceToNat, Int.reduceLE, Int.reduceLT, Int.reduceBNe, Int.reduceBEq, h75, hl, hw, e1, e2]
             rfl
           · simp only [go_sem, Nat.reduceLT, Nat.reduceEqDiff]
             rfl
           · rfl
           first
           | (apply zd
              · simp only [z5, z0, Nat.reduceLT, decide_true, cond_true, ins]
                rfl
              · simp only [z5, z0, Nat.reduceLT, decide_true, cond_true, ins]
                rfl)
           | (apply zi
              · simp only [z5, z0, Nat.reduceLT, decide_true, cond_true, ins]
                rfl))
        | ((first | apply zb | apply zc)
           · rfl
           · simp only [z5, z0, Nat.reduceLT, decide_true, cond_true, ins]
             rfl)
        | (apply za
           · simp only [go_sem, Nat.reduceEqDiff])
        | (apply z7
           · simp only [go_sem, Nat.reduceEqDiff])
        | (apply zh
           · kernel_rfl
           · kernel_rfl)
        | (simp only [bW, if_true, Nat.reduceEqDiff, if_false])
      all_goals try simp only [go_sem, Nat.reduceEqDiff, bP, Nat.reduceAdd, Nat.reduceLeDiff, List.length_map, Tryd.f96]
      all_goals first | done | rfl | (simp_all []; done) | trace_state
  | false =>
    simp only [Bool.false_eq_true, if_false]
    cases e1 : (s == 0) <;> cases e2 : (a == 1 + sh)
    all_goals
      refine zo (zj 96) cfn96 rfl (n := 40) rfl ?_
      simp only [bW, if_true, Nat.reduceEqDiff, if_false, zk]
      repeat' first
        | (intro hb; first | cases hb | skip)
        | ((first | apply z8 | apply ze)
           · rfl
           · simp (disch := assumption) only [go_sem, Nat.reduceEqDiff, Nat.reduceAdd, bP, zg, Nat.reduceLeDiff, Nat.reduceLT, Nat.reduceMul, List.length_append, decide_eq_true_eq, z9, z6, Int.reduceToNat, Int.reduceLE, Int.reduceLT, Int.reduceBNe, Int.reduceBEq, h75', hl', hw, t97, e1, e2]
             rfl
           · simp only [go_sem, Nat.reduceLT, Nat.reduceEqDiff]
             rfl
           · rfl
           first
           | (apply zd
              · simp only [z5, z0, Nat.reduceLT, decide_true, cond_true, ins]
                rfl
              · simp only [z5, z0, Nat.reduceLT, decide_true, cond_true, ins]
                rfl)
           | (apply zi
              · simp only [z5, z0, Nat.reduceLT, decide_true, cond_true, ins]
                rfl))
        | ((first | apply zb | apply zc)
           · rfl
           · simp only [z5, z0, Nat.reduceLT, decide_true, cond_true, ins]
             rfl)
        | (apply za
           · simp only [go_sem, Nat.reduceEqDiff])
        | (apply z7
           · simp only [go_sem, Nat.reduceEqDiff])
        | (apply zh
           · kernel_rfl
           · kernel_rfl)
        | (simp only [bW, if_true, Nat.reduceEqDiff, if_false])
      all_goals try simp only [go_sem, Nat.reduceEqDiff, bP, Nat.reduceAdd, Nat.reduceLeDiff, List.length_map, Tryd.f96]
      all_goals first | done | rfl | (simp_all []; done) | trace_state

theorem L93_6_92 {F : Exit → St → Option D}  (es : List Edge) (l : List Reason) (nl : Bool) (sz : Nat) (k : List Kt) (x : D) (hes : ∀ e ∈ es, edgeB e) (hlen : es.length ≤ 1000) (hnl : nl = true → l = []) (hsz : nl = false → sz = 3) (hl5 : l.length ≤ 5) (hk : ∀ st, get st.tmps 8 = B false → zF cfg (lim cfg) 93 F k .ret st = some (B false)) : ∀ (rest : List Reason) (i : Nat) (c : Chn) (s a : Int), l.drop i = rest → i ≤ l.length → qB (2000 ^ i) i c →
    (∀ (c' : Chn) (s' a' : Int), goG es lowM rest (decide (i = 0)) c.q s a = some (s', a', c'.q) → zF cfg (lim cfg) 93 F k (.exit 0) ⟨79, [(32, B false), (3, .fn (.func 92) [] []), (9, .sl false (es.map zK) 7 none), (10, .lref 0 0 3 0), (11, I (s')), (12, I (a')), (29, .sl nl (l.map encW) sz none), (30, I l.length), (31, I (l.length : Nat))], [(0, ⟨[.agg [I (c').q.n, I (c').q.d, whyD (c').why]], 3, false⟩)], 1, 0⟩ = some x) →
    (goG es lowM rest (decide (i = 0)) c.q s a = none → x = B false) →
    EvL cfg (lim cfg) 93 F lp93_6 k ⟨79, [(3, .fn (.func 92) [] []), (9, .sl false (es.map zK) 7 none), (10, .lref 0 0 3 0), (11, I (s)), (12, I (a)), (29, .sl nl (l.map encW) sz none), (30, I l.length), (31, I (i : Nat))], [(0, ⟨[.agg [I (c).q.n, I (c).q.d, whyD (c).why]], 3, false⟩)], 1, 0⟩ = some x := by
  intro rest
  induction rest with
  | nil =>
    intro i c s a hd hi hq h h0
    have hi' : i = l.length := by
      have := List.drop_eq_nil_iff.1 hd
      omega
    subst hi'
    have h := h c s a rfl
    clear h0
    refine zl ?_
    try dsimp only [lp93_6, zD, zt, Tryd.f93]
    simp only [bW, if_true, Nat.reduceEqDiff, if_false]
    repeat' first
      | (intro hb; first | cases hb | skip)
      | ((first | apply z8 | apply ze)
         · rfl
         · simp (disch := assumption) only [go_sem, Nat.reduceEqDiff, Nat.reduceAdd, bP, zg, Nat.reduceLeDiff, Nat.reduceLT, Nat.reduceMul, List.length_append, decide_eq_true_eq, z9, z6, Int.reduceToNat, Int.reduceLE, Int.reduceLT, Int.reduceBNe, Int.reduceBEq, Int.lt_irrefl]
           rfl
         · simp only [go_sem, Nat.reduceLT, Nat.reduceEqDiff]
           rfl
         · rfl
         first
         | (apply zd
            · simp only [z5, z0, Nat.reduceLT, decide_true, cond_true, ins]
              rfl
            · simp only [z5, z0, Nat.reduceLT, decide_true, cond_true, ins]
              rfl)
         | (apply zi
            · simp only [z5, z0, Nat.reduceLT, decide_true, cond_true, ins]
              rfl))
      | ((first | apply zb | apply zc)
         · rfl
         · simp only [z5, z0, Nat.reduceLT, decide_true, cond_true, ins]
           rfl)
      | (apply za
         · simp only [go_sem, Nat.reduceEqDiff])
      | (apply z7
         · simp only [go_sem, Nat.reduceEqDiff])
      | (apply zh
         · kernel_rfl
         · kernel_rfl)
      | (simp only [bW, if_true, Nat.reduceEqDiff, if_false])
    exact h
  | cons r rest ih =>
    intro i c s a hd hi hq h h0
    have hlt : i < l.length := by
      rcases Nat.lt_or_ge i l.length with h | h
      · exact h
      · rw [List.drop_eq_nil_of_le h] at hd; cases hd
    have hm : l[i]? = some r := by rw [← List.head?_drop, hd]; rfl
    have hx : (l.map encW)[i]? = some (.agg [B r.join, I r.at_, B r.back]) := by rw [List.getElem?_map, hm]; rfl
    have hnl' : nl = false := by
      cases h : nl with
      | false => rfl
      | true => rw [hnl h] at hlt; cases hlt
    have hs1 := hsz hnl'
    clear hsz
    subst hs1
    subst hnl'
    have hlt' : (i : Int) < (l.length : Int) := by omega
    have hw3 : IntKind.i64.wrap ((i : Int) + 1) = ((i + 1 : Nat) : Int) := by rw [wrap_i64 (by omega) (by omega)]; omega
    have h112 := t112 es r hlen
    obtain ⟨j1, j2⟩ := idxW_spec (es := es) (r := r) (rest := es) (i := 0) rfl
    simp only [goG] at h h0
    cases hf : findW es r with
    | none =>
      rw [j1 hf] at h112
      rw [hf] at h0
      rw [h0 rfl]
      clear h h0 ih
      refine zl ?_
      try dsimp only [lp93_6, zD, zt, Tryd.f93]
      simp only [bW, if_true, Nat.reduceEqDiff, if_false]
      repeat' first
        | (intro hb; first | cases hb | skip)
        | ((first | apply z8 | apply ze)
           · rfl
           · simp (disch := assumption) only [go_sem, Nat.reduceEqDiff, Nat.reduceAdd, bP, zg, Nat.reduceLeDiff, Nat.reduceLT, Nat.reduceMul, List.length_append, decide_eq_true_eq, z9, z6, Int.reduceToNat, Int.reduceLE, Int.reduceLT, Int.reduceBNe, Int.reduceBEq, hx, hlt', hw3, h112, whyD_one, pd_why, zM, ids_fn]
             rfl
           · simp only [go_sem, Nat.reduceLT, Nat.reduceEqDiff]
             rfl
           · rfl
           first
           | (apply zd
              · simp only [z5, z0, Nat.reduceLT, decide_true, cond_true, ins]
                rfl
              · simp only [z5, z0, Nat.reduceLT, decide_true, cond_true, ins]
                rfl)
           | (apply zi
              · simp only [z5, z0, Nat.reduceLT, decide_true, cond_true, ins]
                rfl))
        | ((first | apply zb | apply zc)
           · rfl
           · simp only [z5, z0, Nat.reduceLT, decide_true, cond_true, ins]
             rfl)
        | (apply za
           · simp only [go_sem, Nat.reduceEqDiff])
        | (apply z7
           · simp only [go_sem, Nat.reduceEqDiff])
        | (apply zh
           · kernel_rfl
           · kernel_rfl)
        | (simp only [bW, if_true, Nat.reduceEqDiff, if_false])
      exact hk _ rfl
    | some e =>
      obtain ⟨n, j3, j4⟩ := j2 e hf
      rw [j3] at h112
      rw [hf] at h h0
      simp only [] at h h0
      have hxe : (es.map zK)[n]? = some (.agg [I e.src, I e.dst, I e.q.n, I e.q.d, B e.why.join, I e.why.at_, B e.why.back]) := by rw [List.getElem?_map, j4]; rfl
      have heb := hes e (List.mem_of_getElem? j4)
      have hp1 : (1 : Int) ≤ 2000 ^ i := Int.pow_pos (by omega)
      have hp2 : (2000 : Int) ^ i * 2000 ≤ 32000000000000000 := by
        have : i = 0 ∨ i = 1 ∨ i = 2 ∨ i = 3 ∨ i = 4 := by omega
        rcases this with h | h | h | h | h <;> rw [h] <;> decide
      have h107 := t107' hq heb (by omega) hp1 (by omega)
      have hq' := with_qB hq heb hp1
      rw [← Int.pow_succ] at hq'
      have hn0 : decide ((n : Int) < 0) = false := by simp
      have hz1 : decide (i + 1 = 0) = false := by simp
      rw [← hz1] at h h0
      by_cases hi0 : i = 0
      · have hd0 : decide (i = 0) = true := by simp [hi0]
        have c1 : decide ((i : Int) > 0) = false := by simp; omega
        have c2 : ((i : Int) == 0) = true := by simp [hi0]
        rw [if_neg (by rw [hz1, hd0]; simp), if_pos hd0] at h h0
        have h : ∀ (c' : Chn) (s' a' : Int), goG es lowM rest (decide (i + 1 = 0)) (withC c e).q e.src e.dst = some (s', a', c'.q) → _ := h
        have h0 : goG es lowM rest (decide (i + 1 = 0)) (withC c e).q e.src e.dst = none → _ := h0
        refine zl ?_
        try dsimp only [lp93_6, zD, zt, Tryd.f93]
        simp only [bW, if_true, Nat.reduceEqDiff, if_false]
        repeat' first
          | (intro hb; first | cases hb | skip)
          | ((first | apply z8 | apply ze)
             · rfl
             · simp (disch := assumption) only [go_sem, Nat.reduceEqDiff, Nat.reduceAdd, bP, zg, Nat.reduceLeDiff, Nat.reduceLT, Nat.reduceMul, List.length_append, decide_eq_true_eq, z9, z6, Int.reduceToNat, Int.reduceLE, Int.reduceLT, Int.reduceBNe, Int.reduceBEq, hx, hlt', hw3, h112, whyD_one, pd_why, zM, ids_fn, hxe, h107, hn0, c1, c2]
               rfl
             · simp only [go_sem, Nat.reduceLT, Nat.reduceEqDiff]
               rfl
             · rfl
             first
             | (apply zd
                · simp only [z5, z0, Nat.reduceLT, decide_true, cond_true, ins]
                  rfl
                · simp only [z5, z0, Nat.reduceLT, decide_true, cond_true, ins]
                  rfl)
             | (apply zi
                · simp only [z5, z0, Nat.reduceLT, decide_true, cond_true, ins]
                  rfl))
          | ((first | apply zb | apply zc)
             · rfl
             · simp only [z5, z0, Nat.reduceLT, decide_true, cond_true, ins]
               rfl)
          | (apply za
             · simp only [go_sem, Nat.reduceEqDiff])
          | (apply z7
             · simp only [go_sem, Nat.reduceEqDiff])
          | (apply zh
             · kernel_rfl
             · kernel_rfl)
          | (simp only [bW, if_true, Nat.reduceEqDiff, if_false])
        refine zz (st1 := ⟨79, [(3, .fn (.func 92) [] []), (9, .sl false (es.map zK) 7 none), (10, .lref 0 0 3 0), (11, I (e.src)), (12, I (e.dst)), (29, .sl false (l.map encW) 3 none), (30, I l.length), (31, I (i + 1 : Nat))], [(0, ⟨[.agg [I (withC c e).q.n, I (withC c e).q.d, whyD (withC c e).why]], 3, false⟩)], 1, 0⟩) lk93_6 (by
          simp only [go_sem, List.map_append, Nat.reduceEqDiff, Nat.reduceLT, Nat.reduceAdd, bI, bD, bI2, deep_net, deepI_net, ids_net, ren_net, deep_why, deepI_why, ids_why, ren_why, take_enc, drop_enc, catI_append, idsL_append, sn_lref, sn_agg, sn_val, zM, List.append_assoc]
          try rfl) (ih (i + 1) (withC c e) (e.src) (e.dst) (by rw [← List.drop_drop, hd]; rfl) hlt hq' h h0)
      · have hd0 : decide (i = 0) = false := by simp [hi0]
        have c1 : decide ((i : Int) > 0) = true := by simp; omega
        have c2 : ((i : Int) == 0) = false := by simp [hi0]
        by_cases ha : e.src = a
        · have c3 : (e.src != a) = false := by simp [ha]
          rw [if_neg (fun h => h.2 ha), if_neg (by rw [hd0]; simp)] at h h0
          have h : ∀ (c' : Chn) (s' a' : Int), goG es lowM rest (decide (i + 1 = 0)) (withC c e).q s e.dst = some (s', a', c'.q) → _ := h
          have h0 : goG es lowM rest (decide (i + 1 = 0)) (withC c e).q s e.dst = none → _ := h0
          refine zl ?_
          try dsimp only [lp93_6, zD, zt, Tryd.f93]
          simp only [bW, if_true, Nat.reduceEqDiff, if_false]
          repeat' first
            | (intro hb; first | cases hb | skip)
            | ((first | apply z8 | apply ze)
               · rfl
               · simp (disch := assumption) only [go_sem, Nat.reduceEqDiff, Nat.reduceAdd, bP, zg, Nat.reduceLeDiff, Nat.reduceLT, Nat.reduceMul, List.length_append, decide_eq_true_eq, z9, z6, Int.reduceToNat, Int.reduceLE, Int.reduceLT, Int.reduceBNe, Int.reduceBEq, hx, hlt', hw3, h112, whyD_one, pd_why, zM, ids_fn, hxe, h107, hn0, c1, c2, c3]
                 rfl
               · simp only [go_sem, Nat.reduceLT, Nat.reduceEqDiff]
                 rfl
               · rfl
               first
               | (apply zd
                  · simp only [z5, z0, Nat.reduceLT, decide_true, cond_true, ins]
                    rfl
                  · simp only [z5, z0, Nat.reduceLT, decide_true, cond_true, ins]
                    rfl)
               | (apply zi
                  · simp only [z5, z0, Nat.reduceLT, decide_true, cond_true, ins]
                    rfl))
            | ((first | apply zb | apply zc)
               · rfl
               · simp only [z5, z0, Nat.reduceLT, decide_true, cond_true, ins]
                 rfl)
            | (apply za
               · simp only [go_sem, Nat.reduceEqDiff])
            | (apply z7
               · simp only [go_sem, Nat.reduceEqDiff])
            | (apply zh
               · kernel_rfl
               · kernel_rfl)
            | (simp only [bW, if_true, Nat.reduceEqDiff, if_false])
          refine zz (st1 := ⟨79, [(3, .fn (.func 92) [] []), (9, .sl false (es.map zK) 7 none), (10, .lref 0 0 3 0), (11, I (s)), (12, I (e.dst)), (29, .sl false (l.map encW) 3 none), (30, I l.length), (31, I (i + 1 : Nat))], [(0, ⟨[.agg [I (withC c e).q.n, I (withC c e).q.d, whyD (withC c e).why]], 3, false⟩)], 1, 0⟩) lk93_6 (by
            simp only [go_sem, List.map_append, Nat.reduceEqDiff, Nat.reduceLT, Nat.reduceAdd, bI, bD, bI2, deep_net, deepI_net, ids_net, ren_net, deep_why, deepI_why, ids_why, ren_why, take_enc, drop_enc, catI_append, idsL_append, sn_lref, sn_agg, sn_val, zM, List.append_assoc]
            try rfl) (ih (i + 1) (withC c e) (s) (e.dst) (by rw [← List.drop_drop, hd]; rfl) hlt hq' h h0)
        · have c3 : (e.src != a) = true := by simp [ha]
          rw [if_pos ⟨by rw [hz1, hd0], ha⟩] at h0
          rw [h0 rfl]
          clear h h0 ih
          refine zl ?_
          try dsimp only [lp93_6, zD, zt, Tryd.f93]
          simp only [bW, if_true, Nat.reduceEqDiff, if_false]
          repeat' first
            | (intro hb; first | cases hb | skip)
            | ((first | apply z8 | apply ze)
               · rfl
               · simp (disch := assumption) only [go_sem, Nat.reduceEqDiff, Nat.reduceAdd, bP, zg, Nat.reduceLeDiff, Nat.reduceLT, Nat.reduceMul, List.length_append, decide_eq_true_eq, z9, z6, Int.reduceToNat, Int.reduceLE, Int.reduceLT, Int.reduceBNe, Int.reduceBEq, hx, hlt', hw3, h112, whyD_one, pd_why, zM, ids_fn, hxe, h107, hn0, c1, c2, c3]
                 rfl
               · simp only [go_sem, Nat.reduceLT, Nat.reduceEqDiff]
                 rfl
               · rfl
               first
               | (apply zd
                  · simp only [z5, z0, Nat.reduceLT, decide_true, cond_true, ins]
                    rfl
                  · simp only [z5, z0, Nat.reduceLT, decide_true, cond_true, ins]
                    rfl)
               | (apply zi
                  · simp only [z5, z0, Nat.reduceLT, decide_true, cond_true, ins]
                    rfl))
            | ((first | apply zb | apply zc)
               · rfl
               · simp only [z5, z0, Nat.reduceLT, decide_true, cond_true, ins]
                 rfl)
            | (apply za
               · simp only [go_sem, Nat.reduceEqDiff])
            | (apply z7
               · simp only [go_sem, Nat.reduceEqDiff])
            | (apply zh
               · kernel_rfl
               · kernel_rfl)
            | (simp only [bW, if_true, Nat.reduceEqDiff, if_false])
          exact hk _ rfl
def ans92  (o : Option (Int × Int × Ratio)) : Bool := match o with | none => false | some (s, a, q) => (s == a) && ltR q one1
theorem t93_92  (p : Paper) (ax : Int) (l : List Reason) (nl : Bool) (sz : Nat) (hwf : p.wf) (hok : zu p = true) (hnl : nl = true → l = []) (hsz : nl = false → sz = 3) (hll : l.length ≤ 9223372036854775807) : (lim cfg).pure 93 [zC p, I ax, .sl nl (l.map encW) sz none, .fn (.func 92) [] []] = some (B (ans92 (followO p ax l))) := by
  have h68 := t68 p ax hwf hok
  obtain ⟨hes, hlen⟩ := edgesB hok ax
  have hlw := len_if (f := encW) hnl
  by_cases hl : 1 ≤ l.length ∧ l.length ≤ 5
  · have c1 : decide ((l.length : Int) < 1) = false := by simp; omega
    have c2 : decide ((l.length : Int) > 5) = false := by simp; omega
    have hfo : followO p ax l = goG (zv p ax) lowM l true one1 0 0 := by unfold followO; rw [if_pos hl]
    have hinv := fun s a q => follow_inv (s := s) (a := a) (q := q) hok (ax := ax) (l := l)
    rw [hfo] at hinv ⊢
    generalize zv p ax = es at *
    refine zo (zj 93) cfn93 rfl (n := 79) rfl ?_
    generalize hF : finP cfg Tryd.f93 = F
    simp only [bW, if_true, Nat.reduceEqDiff, if_false, zk]
    have hret : ∀ (v : Bool) st, get st.tmps 8 = B v → F .ret st = some (B v) := by
      intro v st h
      subst hF
      simp only [go_sem, Nat.reduceEqDiff, bP, Nat.reduceAdd, Nat.reduceLeDiff, List.length_map, Tryd.f93, h]
    repeat' first
      | (intro hb; first | cases hb | skip)
      | ((first | apply z8 | apply ze)
         · rfl
         · simp (disch := assumption) only [go_sem, Nat.reduceEqDiff, Nat.reduceAdd, bP, zg, Nat.reduceLeDiff, Nat.reduceLT, Nat.reduceMul, List.length_append, decide_eq_true_eq, z9, z6, Int.reduceToNat, Int.reduceLE, Int.reduceLT, Int.reduceBNe, Int.reduceBEq, hlw, c1, c2, h68, cfg_glob0]
           rfl
         · simp only [go_sem, Nat.reduceLT, Nat.reduceEqDiff]
           rfl
         · rfl
         first
         | (apply zd
            · simp only [z5, z0, Nat.reduceLT, decide_true, cond_true, ins]
              rfl
            · simp only [z5, z0, Nat.reduceLT, decide_true, cond_true, ins]
              rfl)
         | (apply zi
            · simp only [z5, z0, Nat.reduceLT, decide_true, cond_true, ins]
              rfl))
      | ((first | apply zb | apply zc)
         · rfl
         · simp only [z5, z0, Nat.reduceLT, decide_true, cond_true, ins]
           rfl)
      | (apply za
         · simp only [go_sem, Nat.reduceEqDiff])
      | (apply z7
         · simp only [go_sem, Nat.reduceEqDiff])
      | (apply zh
         · kernel_rfl
         · kernel_rfl)
      | (simp only [bW, if_true, Nat.reduceEqDiff, if_false])
    refine w_loop (st1 := ⟨79, [(3, .fn (.func 92) [] []), (9, .sl false (es.map zK) 7 none), (10, .lref 0 0 3 0), (11, I (0)), (12, I (0)), (29, .sl nl (l.map encW) sz none), (30, I l.length), (31, I (0 : Nat))], [(0, ⟨[.agg [I ((⟨one1, []⟩ : Chn)).q.n, I ((⟨one1, []⟩ : Chn)).q.d, whyD ((⟨one1, []⟩ : Chn)).why]], 3, false⟩)], 1, 0⟩) lk93_6 (by
      simp only [go_sem, List.map_append, Nat.reduceEqDiff, Nat.reduceLT, Nat.reduceAdd, bI, bD, bI2]
      try rfl) (L93_6_92 es l nl sz _ _ hes hlen hnl hsz hl.2 (fun st h => by simp only [bW, if_true, Nat.reduceEqDiff, if_false]; exact hret false st h) l 0 ⟨one1, []⟩ 0 0 rfl (Nat.zero_le _) ⟨by decide, by decide, by decide, by decide, Nat.le_refl _⟩ (fun c s a h => ?_) (fun h => by
        have h : goG es lowM l true one1 0 0 = none := h
        rw [h]; rfl))
    have h : goG es lowM l true one1 0 0 = some (s, a, c.q) := h
    rw [h]
    obtain ⟨r1, r2, r3, r4, r5⟩ := hinv _ _ _ h
    have hask := t92 s a c.q r1.1 r4 r1.2.1 r5
    simp only [bW, if_true, Nat.reduceEqDiff, if_false]
    repeat' first
      | (intro hb; first | cases hb | skip)
      | ((first | apply z8 | apply ze)
         · rfl
         · simp (disch := assumption) only [go_sem, Nat.reduceEqDiff, Nat.reduceAdd, bP, zg, Nat.reduceLeDiff, Nat.reduceLT, Nat.reduceMul, List.length_append, decide_eq_true_eq, z9, z6, Int.reduceToNat, Int.reduceLE, Int.reduceLT, Int.reduceBNe, Int.reduceBEq, hask, whyD_one, pd_why]
           rfl
         · simp only [go_sem, Nat.reduceLT, Nat.reduceEqDiff]
           rfl
         · rfl
         first
         | (apply zd
            · simp only [z5, z0, Nat.reduceLT, decide_true, cond_true, ins]
              rfl
            · simp only [z5, z0, Nat.reduceLT, decide_true, cond_true, ins]
              rfl)
         | (apply zi
            · simp only [z5, z0, Nat.reduceLT, decide_true, cond_true, ins]
              rfl))
      | ((first | apply zb | apply zc)
         · rfl
         · simp only [z5, z0, Nat.reduceLT, decide_true, cond_true, ins]
           rfl)
      | (apply za
         · simp only [go_sem, Nat.reduceEqDiff])
      | (apply z7
         · simp only [go_sem, Nat.reduceEqDiff])
      | (apply zh
         · kernel_rfl
         · kernel_rfl)
      | (simp only [bW, if_true, Nat.reduceEqDiff, if_false])
    all_goals (subst hF; simp only [go_sem, Nat.reduceEqDiff, bP, Nat.reduceAdd, Nat.reduceLeDiff, List.length_map, Tryd.f93, ans92])
    all_goals first | done | simp_all
  · have hfo : followO p ax l = none := by unfold followO; rw [if_neg hl]
    rw [hfo]
    by_cases h1 : l.length < 1
    · have c1 : decide ((l.length : Int) < 1) = true := by simp; omega
      refine zo (zj 93) cfn93 rfl (n := 79) rfl ?_
      simp only [bW, if_true, Nat.reduceEqDiff, if_false, zk]
      repeat' first
        | (intro hb; first | cases hb | skip)
        | ((first | apply z8 | apply ze)
           · rfl
           · simp (disch := assumption) only [go_sem, Nat.reduceEqDiff, Nat.reduceAdd, bP, zg, Nat.reduceLeDiff, Nat.reduceLT, Nat.reduceMul, List.length_append, decide_eq_true_eq, z9, z6, Int.reduceToNat, Int.reduceLE, Int.reduceLT, Int.reduceBNe, Int.reduceBEq, hlw, c1]
             rfl
           · simp only [go_sem, Nat.reduceLT, Nat.reduceEqDiff]
             rfl
           · rfl
           first
           | (apply zd
              · simp only [z5, z0, Nat.reduceLT, decide_true, cond_true, ins]
                rfl
              · simp only [z5, z0, Nat.reduceLT, decide_true, cond_true, ins]
                rfl)
           | (apply zi
              · simp only [z5, z0, Nat.reduceLT, decide_true, cond_true, ins]
                rfl))
        | ((first | apply zb | apply zc)
           · rfl
           · simp only [z5, z0, Nat.reduceLT, decide_true, cond_true, ins]
             rfl)
        | (apply za
           · simp only [go_sem, Nat.reduceEqDiff])
        | (apply z7
           · simp only [go_sem, Nat.reduceEqDiff])
        | (apply zh
           · kernel_rfl
           · kernel_rfl)
        | (simp only [bW, if_true, Nat.reduceEqDiff, if_false])
      all_goals try simp only [go_sem, Nat.reduceEqDiff, bP, Nat.reduceAdd, Nat.reduceLeDiff, List.length_map, Tryd.f93, ans92]
      all_goals first | done | rfl | (simp_all []; done) | trace_state
    · have c1 : decide ((l.length : Int) < 1) = false := by simp; omega
      have c2 : decide ((l.length : Int) > 5) = true := by simp; omega
      refine zo (zj 93) cfn93 rfl (n := 79) rfl ?_
      simp only [bW, if_true, Nat.reduceEqDiff, if_false, zk]
      repeat' first
        | (intro hb; first | cases hb | skip)
        | ((first | apply z8 | apply ze)
           · rfl
           · simp (disch := assumption) only [go_sem, Nat.reduceEqDiff, Nat.reduceAdd, bP, zg, Nat.reduceLeDiff, Nat.reduceLT, Nat.reduceMul, List.length_append, decide_eq_true_eq, z9, z6, Int.reduceToNat, Int.reduceLE, Int.reduceLT, Int.reduceBNe, Int.reduceBEq, hlw, c1, c2]
             rfl
           · simp only [go_sem, Nat.reduceLT, Nat.reduceEqDiff]
             rfl
           · rfl
           first
           | (apply zd
              · simp only [z5, z0, Nat.reduceLT, decide_true, cond_true, ins]
                rfl
              · simp only [z5, z0, Nat.reduceLT, decide_true, cond_true, ins]
                rfl)
           | (apply zi
              · simp only [z5, z0, Nat.reduceLT, decide_true, cond_true, ins]
                rfl))
        | ((first | apply zb | apply zc)
           · rfl
           · simp only [z5, z0, Nat.reduceLT, decide_true, cond_true, ins]
             rfl)
        | (apply za
           · simp only [go_sem, Nat.reduceEqDiff])
        | (apply z7
           · simp only [go_sem, Nat.reduceEqDiff])
        | (apply zh
           · kernel_rfl
           · kernel_rfl)
        | (simp only [bW, if_true, Nat.reduceEqDiff, if_false])
      all_goals try simp only [go_sem, Nat.reduceEqDiff, bP, Nat.reduceAdd, Nat.reduceLeDiff, List.length_map, Tryd.f93, ans92]
      all_goals first | done | rfl | (simp_all []; done) | trace_state

theorem L93_6_96 {F : Exit → St → Option D} (g : Bool) (sh : Int) (bd : Ratio) (es : List Edge) (l : List Reason) (nl : Bool) (sz : Nat) (k : List Kt) (x : D) (hes : ∀ e ∈ es, edgeB e) (hlen : es.length ≤ 1000) (hnl : nl = true → l = []) (hsz : nl = false → sz = 3) (hl5 : l.length ≤ 5) (hk : ∀ st, get st.tmps 8 = B false → zF cfg (lim cfg) 93 F k .ret st = some (B false)) : ∀ (rest : List Reason) (i : Nat) (c : Chn) (s a : Int), l.drop i = rest → i ≤ l.length → qB (2000 ^ i) i c →
    (∀ (c' : Chn) (s' a' : Int), goG es lowM rest (decide (i = 0)) c.q s a = some (s', a', c'.q) → zF cfg (lim cfg) 93 F k (.exit 0) ⟨79, [(32, B false), (3, .fn (.func 96) [] [.ptr (B g), .ptr (I sh), .ptr (.agg [I bd.n, I bd.d])]), (9, .sl false (es.map zK) 7 none), (10, .lref 0 0 3 0), (11, I (s')), (12, I (a')), (29, .sl nl (l.map encW) sz none), (30, I l.length), (31, I (l.length : Nat))], [(0, ⟨[.agg [I (c').q.n, I (c').q.d, whyD (c').why]], 3, false⟩)], 1, 0⟩ = some x) →
    (goG es lowM rest (decide (i = 0)) c.q s a = none → x = B false) →
    EvL cfg (lim cfg) 93 F lp93_6 k ⟨79, [(3, .fn (.func 96) [] [.ptr (B g), .ptr (I sh), .ptr (.agg [I bd.n, I bd.d])]), (9, .sl false (es.map zK) 7 none), (10, .lref 0 0 3 0), (11, I (s)), (12, I (a)), (29, .sl nl (l.map encW) sz none), (30, I l.length), (31, I (i : Nat))], [(0, ⟨[.agg [I (c).q.n, I (c).q.d, whyD (c).why]], 3, false⟩)], 1, 0⟩ = some x := by
  intro rest
  induction rest with
  | nil =>
    intro i c s a hd hi hq h h0
    have hi' : i = l.length := by
      have := List.drop_eq_nil_iff.1 hd
      omega
    subst hi'
    have h := h c s a rfl
    clear h0
    refine zl ?_
    try dsimp only [lp93_6, zD, zt, Tryd.f93]
    simp only [bW, if_true, Nat.reduceEqDiff, if_false]
    repeat' first
      | (intro hb; first | cases hb | skip)
      | ((first | apply z8 | apply ze)
         · rfl
         · simp (disch := assumption) only [go_sem, Nat.reduceEqDiff, Nat.reduceAdd, bP, zg, Nat.reduceLeDiff, Nat.reduceLT, Nat.reduceMul, List.length_append, decide_eq_true_eq, z9, z6, Int.reduceToNat, Int.reduceLE, Int.reduceLT, Int.reduceBNe, Int.reduceBEq, Int.lt_irrefl]
           rfl
         · simp only [go_sem, Nat.reduceLT, Nat.reduceEqDiff]
           rfl
         · rfl
         first
         | (apply zd
            · simp only [z5, z0, Nat.reduceLT, decide_true, cond_true, ins]
              rfl
            · simp only [z5, z0, Nat.reduceLT, decide_true, cond_true, ins]
              rfl)
         | (apply zi
            · simp only [z5, z0, Nat.reduceLT, decide_true, cond_true, ins]
              rfl))
      | ((first | apply zb | apply zc)
         · rfl
         · simp only [z5, z0, Nat.reduceLT, decide_true, cond_true, ins]
           rfl)
      | (apply za
         · simp only [go_sem, Nat.reduceEqDiff])
      | (apply z7
         · simp only [go_sem, Nat.reduceEqDiff])
      | (apply zh
         · kernel_rfl
         · kernel_rfl)
      | (simp only [bW, if_true, Nat.reduceEqDiff, if_false])
    exact h
  | cons r rest ih =>
    intro i c s a hd hi hq h h0
    have hlt : i < l.length := by
      rcases Nat.lt_or_ge i l.length with h | h
      · exact h
      · rw [List.drop_eq_nil_of_le h] at hd; cases hd
    have hm : l[i]? = some r := by rw [← List.head?_drop, hd]; rfl
    have hx : (l.map encW)[i]? = some (.agg [B r.join, I r.at_, B r.back]) := by rw [List.getElem?_map, hm]; rfl
    have hnl' : nl = false := by
      cases h : nl with
      | false => rfl
      | true => rw [hnl h] at hlt; cases hlt
    have hs1 := hsz hnl'
    clear hsz
    subst hs1
    subst hnl'
    have hlt' : (i : Int) < (l.length : Int) := by omega
    have hw3 : IntKind.i64.wrap ((i : Int) + 1) = ((i + 1 : Nat) : Int) := by rw [wrap_i64 (by omega) (by omega)]; omega
    have h112 := t112 es r hlen
    obtain ⟨j1, j2⟩ := idxW_spec (es := es) (r := r) (rest := es) (i := 0) rfl
    simp only [goG] at h h0
    cases hf : findW es r with
    | none =>
      rw [j1 hf] at h112
      rw [hf] at h0
      rw [h0 rfl]
      clear h h0 ih
      refine zl ?_
      try dsimp only [lp93_6, zD, zt, Tryd.f93]
      simp only [bW, if_true, Nat.reduceEqDiff, if_false]
      repeat' first
        | (intro hb; first | cases hb | skip)
        | ((first | apply z8 | apply ze)
           · rfl
           · simp (disch := assumption) only [go_sem, Nat.reduceEqDiff, Nat.reduceAdd, bP, zg, Nat.reduceLeDiff, Nat.reduceLT, Nat.reduceMul, List.length_append, decide_eq_true_eq, z9, z6, Int.reduceToNat, Int.reduceLE, Int.reduceLT, Int.reduceBNe, Int.reduceBEq, hx, hlt', hw3, h112, whyD_one, pd_why, zM, ids_fn]
             rfl
           · simp only [go_sem, Nat.reduceLT, Nat.reduceEqDiff]
             rfl
           · rfl
           first
           | (apply zd
              · simp only [z5, z0, Nat.reduceLT, decide_true, cond_true, ins]
                rfl
              · simp only [z5, z0, Nat.reduceLT, decide_true, cond_true, ins]
                rfl)
           | (apply zi
              · simp only [z5, z0, Nat.reduceLT, decide_true, cond_true, ins]
                rfl))
        | ((first | apply zb | apply zc)
           · rfl
           · simp only [z5, z0, Nat.reduceLT, decide_true, cond_true, ins]
             rfl)
        | (apply za
           · simp only [go_sem, Nat.reduceEqDiff])
        | (apply z7
           · simp only [go_sem, Nat.reduceEqDiff])
        | (apply zh
           · kernel_rfl
           · kernel_rfl)
        | (simp only [bW, if_true, Nat.reduceEqDiff, if_false])
      exact hk _ rfl
    | some e =>
      obtain ⟨n, j3, j4⟩ := j2 e hf
      rw [j3] at h112
      rw [hf] at h h0
      simp only [] at h h0
      have hxe : (es.map zK)[n]? = some (.agg [I e.src, I e.dst, I e.q.n, I e.q.d, B e.why.join, I e.why.at_, B e.why.back]) := by rw [List.getElem?_map, j4]; rfl
      have heb := hes e (List.mem_of_getElem? j4)
      have hp1 : (1 : Int) ≤ 2000 ^ i := Int.pow_pos (by omega)
      have hp2 : (2000 : Int) ^ i * 2000 ≤ 32000000000000000 := by
        have : i = 0 ∨ i = 1 ∨ i = 2 ∨ i = 3 ∨ i = 4 := by omega
        rcases this with h | h | h | h | h <;> rw [h] <;> decide
      have h107 := t107' hq heb (by omega) hp1 (by omega)
      have hq' := with_qB hq heb hp1
      rw [← Int.pow_succ] at hq'
      have hn0 : decide ((n : Int) < 0) = false := by simp
      have hz1 : decide (i + 1 = 0) = false := by simp
      rw [← hz1] at h h0
      by_cases hi0 : i = 0
      · have hd0 : decide (i = 0) = true := by simp [hi0]
        have c1 : decide ((i : Int) > 0) = false := by simp; omega
        have c2 : ((i : Int) == 0) = true := by simp [hi0]
        rw [if_neg (by rw [hz1, hd0]; simp), if_pos hd0] at h h0
        have h : ∀ (c' : Chn) (s' a' : Int), goG es lowM rest (decide (i + 1 = 0)) (withC c e).q e.src e.dst = some (s', a', c'.q) → _ := h
        have h0 : goG es lowM rest (decide (i + 1 = 0)) (withC c e).q e.src e.dst = none → _ := h0
        refine zl ?_
        try dsimp only [lp93_6, zD, zt, Tryd.f93]
        simp only [bW, if_true, Nat.reduceEqDiff, if_false]
        repeat' first
          | (intro hb; first | cases hb | skip)
          | ((first | apply z8 | apply ze)
             · rfl
             · simp (disch := assumption) only [go_sem, Nat.reduceEqDiff, Nat.reduceAdd, bP, zg, Nat.reduceLeDiff, Nat.reduceLT, Nat.reduceMul, List.length_append, decide_eq_true_eq, z9, z6, Int.reduceToNat, Int.reduceLE, Int.reduceLT, Int.reduceBNe, Int.reduceBEq, hx, hlt', hw3, h112, whyD_one, pd_why, zM, ids_fn, hxe, h107, hn0, c1, c2]
               rfl
             · simp only [go_sem, Nat.reduceLT, Nat.reduceEqDiff]
               rfl
             · rfl
             first
             | (apply zd
                · simp only [z5, z0, Nat.reduceLT, decide_true, cond_true, ins]
                  rfl
                · simp only [z5, z0, Nat.reduceLT, decide_true, cond_true, ins]
                  rfl)
             | (apply zi
                · simp only [z5, z0, Nat.reduceLT, decide_true, cond_true, ins]
                  rfl))
          | ((first | apply zb | apply zc)
             · rfl
             · simp only [z5, z0, Nat.reduceLT, decide_true, cond_true, ins]
               rfl)
          | (apply za
             · simp only [go_sem, Nat.reduceEqDiff])
          | (apply z7
             · simp only [go_sem, Nat.reduceEqDiff])
          | (apply zh
             · kernel_rfl
             · kernel_rfl)
          | (simp only [bW, if_true, Nat.reduceEqDiff, if_false])
        refine zz (st1 := ⟨79, [(3, .fn (.func 96) [] [.ptr (B g), .ptr (I sh), .ptr (.agg [I bd.n, I bd.d])]), (9, .sl false (es.map zK) 7 none), (10, .lref 0 0 3 0), (11, I (e.src)), (12, I (e.dst)), (29, .sl false (l.map encW) 3 none), (30, I l.length), (31, I (i + 1 : Nat))], [(0, ⟨[.agg [I (withC c e).q.n, I (withC c e).q.d, whyD (withC c e).why]], 3, false⟩)], 1, 0⟩) lk93_6 (by
          simp only [go_sem, List.map_append, Nat.reduceEqDiff, Nat.reduceLT, Nat.reduceAdd, bI, bD, bI2, deep_net, deepI_net, ids_net, ren_net, deep_why, deepI_why, ids_why, ren_why, take_enc, drop_enc, catI_append, idsL_append, sn_lref, sn_agg, sn_val, zM, List.append_assoc]
          try rfl) (ih (i + 1) (withC c e) (e.src) (e.dst) (by rw [← List.drop_drop, hd]; rfl) hlt hq' h h0)
      · have hd0 : decide (i = 0) = false := by simp [hi0]
        have c1 : decide ((i : Int) > 0) = true := by simp; omega
        have c2 : ((i : Int) == 0) = false := by simp [hi0]
        by_cases ha : e.src = a
        · have c3 : (e.src != a) = false := by simp [ha]
          rw [if_neg (fun h => h.2 ha), if_neg (by rw [hd0]; simp)] at h h0
          have h : ∀ (c' : Chn) (s' a' : Int), goG es lowM rest (decide (i + 1 = 0)) (withC c e).q s e.dst = some (s', a', c'.q) → _ := h
          have h0 : goG es lowM rest (decide (i + 1 = 0)) (withC c e).q s e.dst = none → _ := h0
          refine zl ?_
          try dsimp only [lp93_6, zD, zt, Tryd.f93]
          simp only [bW, if_true, Nat.reduceEqDiff, if_false]
          repeat' first
            | (intro hb; first | cases hb | skip)
            | ((first | apply z8 | apply ze)
               · rfl
               · simp (disch := assumption) only [go_sem, Nat.reduceEqDiff, Nat.reduceAdd, bP, zg, Nat.reduceLeDiff, Nat.reduceLT, Nat.reduceMul, List.length_append, decide_eq_true_eq, z9, z6, Int.reduceToNat, Int.reduceLE, Int.reduceLT, Int.reduceBNe, Int.reduceBEq, hx, hlt', hw3, h112, whyD_one, pd_why, zM, ids_fn, hxe, h107, hn0, c1, c2, c3]
                 rfl
               · simp only [go_sem, Nat.reduceLT, Nat.reduceEqDiff]
                 rfl
               · rfl
               first
               | (apply zd
                  · simp only [z5, z0, Nat.reduceLT, decide_true, cond_true, ins]
                    rfl
                  · simp only [z5, z0, Nat.reduceLT, decide_true, cond_true, ins]
                    rfl)
               | (apply zi
                  · simp only [z5, z0, Nat.reduceLT, decide_true, cond_true, ins]
                    rfl))
            | ((first | apply zb | apply zc)
               · rfl
               · simp only [z5, z0, Nat.reduceLT, decide_true, cond_true, ins]
                 rfl)
            | (apply za
               · simp only [go_sem, Nat.reduceEqDiff])
            | (apply z7
               · simp only [go_sem, Nat.reduceEqDiff])
            | (apply zh
               · kernel_rfl
               · kernel_rfl)
            | (simp only [bW, if_true, Nat.reduceEqDiff, if_false])
          refine zz (st1 := ⟨79, [(3, .fn (.func 96) [] [.ptr (B g), .ptr (I sh), .ptr (.agg [I bd.n, I bd.d])]), (9, .sl false (es.map zK) 7 none), (10, .lref 0 0 3 0), (11, I (s)), (12, I (e.dst)), (29, .sl false (l.map encW) 3 none), (30, I l.length), (31, I (i + 1 : Nat))], [(0, ⟨[.agg [I (withC c e).q.n, I (withC c e).q.d, whyD (withC c e).why]], 3, false⟩)], 1, 0⟩) lk93_6 (by
            simp only [go_sem, List.map_append, Nat.reduceEqDiff, Nat.reduceLT, Nat.reduceAdd, bI, bD, bI2, deep_net, deepI_net, ids_net, ren_net, deep_why, deepI_why, ids_why, ren_why, take_enc, drop_enc, catI_append, idsL_append, sn_lref, sn_agg, sn_val, zM, List.append_assoc]
            try rfl) (ih (i + 1) (withC c e) (s) (e.dst) (by rw [← List.drop_drop, hd]; rfl) hlt hq' h h0)
        · have c3 : (e.src != a) = true := by simp [ha]
          rw [if_pos ⟨by rw [hz1, hd0], ha⟩] at h0
          rw [h0 rfl]
          clear h h0 ih
          refine zl ?_
          try dsimp only [lp93_6, zD, zt, Tryd.f93]
          simp only [bW, if_true, Nat.reduceEqDiff, if_false]
          repeat' first
            | (intro hb; first | cases hb | skip)
            | ((first | apply z8 | apply ze)
               · rfl
               · simp (disch := assumption) only [go_sem, Nat.reduceEqDiff, Nat.reduceAdd, bP, zg, Nat.reduceLeDiff, Nat.reduceLT, Nat.reduceMul, List.length_append, decide_eq_true_eq, z9, z6, Int.reduceToNat, Int.reduceLE, Int.reduceLT, Int.reduceBNe, Int.reduceBEq, hx, hlt', hw3, h112, whyD_one, pd_why, zM, ids_fn, hxe, h107, hn0, c1, c2, c3]
                 rfl
               · simp only [go_sem, Nat.reduceLT, Nat.reduceEqDiff]
                 rfl
               · rfl
               first
               | (apply zd
                  · simp only [z5, z0, Nat.reduceLT, decide_true, cond_true, ins]
                    rfl
                  · simp only [z5, z0, Nat.reduceLT, decide_true, cond_true, ins]
                    rfl)
               | (apply zi
                  · simp only [z5, z0, Nat.reduceLT, decide_true, cond_true, ins]
                    rfl))
            | ((first | apply zb | apply zc)
               · rfl
               · simp only [z5, z0, Nat.reduceLT, decide_true, cond_true, ins]
                 rfl)
            | (apply za
               · simp only [go_sem, Nat.reduceEqDiff])
            | (apply z7
               · simp only [go_sem, Nat.reduceEqDiff])
            | (apply zh
               · kernel_rfl
               · kernel_rfl)
            | (simp only [bW, if_true, Nat.reduceEqDiff, if_false])
          exact hk _ rfl
def ans96 (g : Bool) (sh : Int) (bd : Ratio) (o : Option (Int × Int × Ratio)) : Bool := match o with | none => false | some (s, a, q) => proves g sh bd s a q
theorem t93_96 (g : Bool) (sh : Int) (bd : Ratio) (p : Paper) (ax : Int) (l : List Reason) (nl : Bool) (sz : Nat) (hwf : p.wf) (hok : zu p = true) (hnl : nl = true → l = []) (hsz : nl = false → sz = 3) (hll : l.length ≤ 9223372036854775807) (hb : ratioOK bd = true) (hs1 : 0 ≤ sh) (hs2 : sh ≤ 4) : (lim cfg).pure 93 [zC p, I ax, .sl nl (l.map encW) sz none, .fn (.func 96) [] [.ptr (B g), .ptr (I sh), .ptr (.agg [I bd.n, I bd.d])]] = some (B (ans96 g sh bd (followO p ax l))) := by
  have h68 := t68 p ax hwf hok
  obtain ⟨hes, hlen⟩ := edgesB hok ax
  have hlw := len_if (f := encW) hnl
  by_cases hl : 1 ≤ l.length ∧ l.length ≤ 5
  · have c1 : decide ((l.length : Int) < 1) = false := by simp; omega
    have c2 : decide ((l.length : Int) > 5) = false := by simp; omega
    have hfo : followO p ax l = goG (zv p ax) lowM l true one1 0 0 := by unfold followO; rw [if_pos hl]
    have hinv := fun s a q => follow_inv (s := s) (a := a) (q := q) hok (ax := ax) (l := l)
    rw [hfo] at hinv ⊢
    generalize zv p ax = es at *
    refine zo (zj 93) cfn93 rfl (n := 79) rfl ?_
    generalize hF : finP cfg Tryd.f93 = F
    simp only [bW, if_true, Nat.reduceEqDiff, if_false, zk]
    have hret : ∀ (v : Bool) st, get st.tmps 8 = B v → F .ret st = some (B v) := by
      intro v st h
      subst hF
      simp only [go_sem, Nat.reduceEqDiff, bP, Nat.reduceAdd, Nat.reduceLeDiff, List.length_map, Tryd.f93, h]
    repeat' first
      | (intro hb; first | cases hb | skip)
      | ((first | apply z8 | apply ze)
         · rfl
         · simp (disch := assumption) only [go_sem, Nat.reduceEqDiff, Nat.reduceAdd, bP, zg, Nat.reduceLeDiff, Nat.reduceLT, Nat.reduceMul, List.length_append, decide_eq_true_eq, z9, z6, Int.reduceToNat, Int.reduceLE, Int.reduceLT, Int.reduceBNe, Int.reduceBEq, hlw, c1, c2, h68, cfg_glob0]
           rfl
         · simp only [go_sem, Nat.reduceLT, Nat.reduceEqDiff]
           rfl
         · rfl
         first
         | (apply zd
            · simp only [z5, z0, Nat.reduceLT, decide_true, cond_true, ins]
              rfl
            · simp only [z5, z0, Nat.reduceLT, decide_true, cond_true, ins]
              rfl)
         | (apply zi
            · simp only [z5, z0, Nat.reduceLT, decide_true, cond_true, ins]
              rfl))
      | ((first | apply zb | apply zc)
         · rfl
         · simp only [z5, z0, Nat.reduceLT, decide_true, cond_true, ins]
           rfl)
      | (apply za
         · simp only [go_sem, Nat.reduceEqDiff])
      | (apply z7
         · simp only [go_sem, Nat.reduceEqDiff])
      | (apply zh
         · kernel_rfl
         · kernel_rfl)
      | (simp only [bW, if_true, Nat.reduceEqDiff, if_false])
    refine w_loop (st1 := ⟨79, [(3, .fn (.func 96) [] [.ptr (B g), .ptr (I sh), .ptr (.agg [I bd.n, I bd.d])]), (9, .sl false (es.map zK) 7 none), (10, .lref 0 0 3 0), (11, I (0)), (12, I (0)), (29, .sl nl (l.map encW) sz none), (30, I l.length), (31, I (0 : Nat))], [(0, ⟨[.agg [I ((⟨one1, []⟩ : Chn)).q.n, I ((⟨one1, []⟩ : Chn)).q.d, whyD ((⟨one1, []⟩ : Chn)).why]], 3, false⟩)], 1, 0⟩) lk93_6 (by
      simp only [go_sem, List.map_append, Nat.reduceEqDiff, Nat.reduceLT, Nat.reduceAdd, bI, bD, bI2]
      try rfl) (L93_6_96 g sh bd es l nl sz _ _ hes hlen hnl hsz hl.2 (fun st h => by simp only [bW, if_true, Nat.reduceEqDiff, if_false]; exact hret false st h) l 0 ⟨one1, []⟩ 0 0 rfl (Nat.zero_le _) ⟨by decide, by decide, by decide, by decide, Nat.le_refl _⟩ (fun c s a h => ?_) (fun h => by
        have h : goG es lowM l true one1 0 0 = none := h
        rw [h]; rfl))
    have h : goG es lowM l true one1 0 0 = some (s, a, c.q) := h
    rw [h]
    obtain ⟨r1, r2, r3, r4, r5⟩ := hinv _ _ _ h
    have hask := t96 g sh bd s a c.q r1.1 r4 r1.2.1 r5 hb hs1 hs2
    simp only [bW, if_true, Nat.reduceEqDiff, if_false]
    repeat' first
      | (intro hb; first | cases hb | skip)
      | ((first | apply z8 | apply ze)
         · rfl
         · simp (disch := assumption) only [go_sem, Nat.reduceEqDiff, Nat.reduceAdd, bP, zg, Nat.reduceLeDiff, Nat.reduceLT, Nat.reduceMul, List.length_append, decide_eq_true_eq, z9, z6, Int.reduceToNat, Int.reduceLE, Int.reduceLT, Int.reduceBNe, Int.reduceBEq, hask, whyD_one, pd_why]
           rfl
         · simp only [go_sem, Nat.reduceLT, Nat.reduceEqDiff]
           rfl
         · rfl
         first
         | (apply zd
            · simp only [z5, z0, Nat.reduceLT, decide_true, cond_true, ins]
              rfl
            · simp only [z5, z0, Nat.reduceLT, decide_true, cond_true, ins]
              rfl)
         | (apply zi
            · simp only [z5, z0, Nat.reduceLT, decide_true, cond_true, ins]
              rfl))
      | ((first | apply zb | apply zc)
         · rfl
         · simp only [z5, z0, Nat.reduceLT, decide_true, cond_true, ins]
           rfl)
      | (apply za
         · simp only [go_sem, Nat.reduceEqDiff])
      | (apply z7
         · simp only [go_sem, Nat.reduceEqDiff])
      | (apply zh
         · kernel_rfl
         · kernel_rfl)
      | (simp only [bW, if_true, Nat.reduceEqDiff, if_false])
    all_goals (subst hF; simp only [go_sem, Nat.reduceEqDiff, bP, Nat.reduceAdd, Nat.reduceLeDiff, List.length_map, Tryd.f93, ans96])
    all_goals first | done | simp_all
  · have hfo : followO p ax l = none := by unfold followO; rw [if_neg hl]
    rw [hfo]
    by_cases h1 : l.length < 1
    · have c1 : decide ((l.length : Int) < 1) = true := by simp; omega
      refine zo (zj 93) cfn93 rfl (n := 79) rfl ?_
      simp only [bW, if_true, Nat.reduceEqDiff, if_false, zk]
      repeat' first
        | (intro hb; first | cases hb | skip)
        | ((first | apply z8 | apply ze)
           · rfl
           · simp (disch := assumption) only [go_sem, Nat.reduceEqDiff, Nat.reduceAdd, bP, zg, Nat.reduceLeDiff, Nat.reduceLT, Nat.reduceMul, List.length_append, decide_eq_true_eq, z9, z6, Int.reduceToNat, Int.reduceLE, Int.reduceLT, Int.reduceBNe, Int.reduceBEq, hlw, c1]
             rfl
           · simp only [go_sem, Nat.reduceLT, Nat.reduceEqDiff]
             rfl
           · rfl
           first
           | (apply zd
              · simp only [z5, z0, Nat.reduceLT, decide_true, cond_true, ins]
                rfl
              · simp only [z5, z0, Nat.reduceLT, decide_true, cond_true, ins]
                rfl)
           | (apply zi
              · simp only [z5, z0, Nat.reduceLT, decide_true, cond_true, ins]
                rfl))
        | ((first | apply zb | apply zc)
           · rfl
           · simp only [z5, z0, Nat.reduceLT, decide_true, cond_true, ins]
             rfl)
        | (apply za
           · simp only [go_sem, Nat.reduceEqDiff])
        | (apply z7
           · simp only [go_sem, Nat.reduceEqDiff])
        | (apply zh
           · kernel_rfl
           · kernel_rfl)
        | (simp only [bW, if_true, Nat.reduceEqDiff, if_false])
      all_goals try simp only [go_sem, Nat.reduceEqDiff, bP, Nat.reduceAdd, Nat.reduceLeDiff, List.length_map, Tryd.f93, ans96]
      all_goals first | done | rfl | (simp_all []; done) | trace_state
    · have c1 : decide ((l.length : Int) < 1) = false := by simp; omega
      have c2 : decide ((l.length : Int) > 5) = true := by simp; omega
      refine zo (zj 93) cfn93 rfl (n := 79) rfl ?_
      simp only [bW, if_true, Nat.reduceEqDiff, if_false, zk]
      repeat' first
        | (intro hb; first | cases hb | skip)
        | ((first | apply z8 | apply ze)
           · rfl
           · simp (disch := assumption) only [go_sem, Nat.reduceEqDiff, Nat.reduceAdd, bP, zg, Nat.reduceLeDiff, Nat.reduceLT, Nat.reduceMul, List.length_append, decide_eq_true_eq, z9, z6, Int.reduceToNat, Int.reduceLE, Int.reduceLT, Int.reduceBNe, Int.reduceBEq, hlw, c1, c2]
             rfl
           · simp only [go_sem, Nat.reduceLT, Nat.reduceEqDiff]
             rfl
           · rfl
           first
           | (apply zd
              · simp only [z5, z0, Nat.reduceLT, decide_true, cond_true, ins]
                rfl
              · simp only [z5, z0, Nat.reduceLT, decide_true, cond_true, ins]
                rfl)
           | (apply zi
              · simp only [z5, z0, Nat.reduceLT, decide_true, cond_true, ins]
                rfl))
        | ((first | apply zb | apply zc)
           · rfl
           · simp only [z5, z0, Nat.reduceLT, decide_true, cond_true, ins]
             rfl)
        | (apply za
           · simp only [go_sem, Nat.reduceEqDiff])
        | (apply z7
           · simp only [go_sem, Nat.reduceEqDiff])
        | (apply zh
           · kernel_rfl
           · kernel_rfl)
        | (simp only [bW, if_true, Nat.reduceEqDiff, if_false])
      all_goals try simp only [go_sem, Nat.reduceEqDiff, bP, Nat.reduceAdd, Nat.reduceLeDiff, List.length_map, Tryd.f93, ans96]
      all_goals first | done | rfl | (simp_all []; done) | trace_state

end Go.VS
namespace Go.VS
open Go Go.Proofs
set_option maxHeartbeats 0
set_option linter.unusedSimpArgs false

def clashOK (p : Paper) (l : List Reason) : Bool := ans92 (followO p 0 l) || ans92 (followO p 1 l)
def clashC (p : Paper) (l : List Reason) : Int := if zu p then (if clashOK p l then 0 else 32) else 30
theorem t44 (p : Paper) (l : List Reason) (nl : Bool) (sz : Nat) (hwf : p.wf) (hnl : nl = true → l = []) (hsz : nl = false → sz = 3) (hll : l.length ≤ 9223372036854775807) : (lim cfg).pure 44 [zC p, .sl nl (l.map encW) sz none] = some (I (clashC p l)) := by
  have h15 := t15 p hwf
  unfold check at h15
  unfold clashC clashOK
  cases hok : zu p with
  | false =>
    rw [hok] at h15
    simp only [Bool.false_eq_true, if_false] at h15 ⊢
    refine zo (zj 44) cfn44 rfl (n := 24) rfl ?_
    simp only [bW, if_true, Nat.reduceEqDiff, if_false, zk]
    repeat' first
      | (intro hb; first | cases hb | skip)
      | ((first | apply z8 | apply ze)
         · rfl
         · simp (disch := assumption) only [go_sem, Nat.reduceEqDiff, Nat.reduceAdd, bP, zg, Nat.reduceLeDiff, Nat.reduceLT, Nat.reduceMul, List.length_append, decide_eq_true_eq, z9, z6, Int.reduceToNat, Int.reduceLE, Int.reduceLT, Int.reduceBNe, Int.reduceBEq, h15]
           rfl
         · simp only [go_sem, Nat.reduceLT, Nat.reduceEqDiff]
           rfl
         · rfl
         first
         | (apply zd
            · simp only [z5, z0, Nat.reduceLT, decide_true, cond_true, ins]
              rfl
            · simp only [z5, z0, Nat.reduceLT, decide_true, cond_true, ins]
              rfl)
         | (apply zi
            · simp only [z5, z0, Nat.reduceLT, decide_true, cond_true, ins]
              rfl))
      | ((first | apply zb | apply zc)
         · rfl
         · simp only [z5, z0, Nat.reduceLT, decide_true, cond_true, ins]
           rfl)
      | (apply za
         · simp only [go_sem, Nat.reduceEqDiff])
      | (apply z7
         · simp only [go_sem, Nat.reduceEqDiff])
      | (apply zh
         · kernel_rfl
         · kernel_rfl)
      | (simp only [bW, if_true, Nat.reduceEqDiff, if_false])
    all_goals try simp only [go_sem, Nat.reduceEqDiff, bP, Nat.reduceAdd, Nat.reduceLeDiff, List.length_map, Tryd.f44]
    all_goals first | done | rfl | (simp_all []; done) | trace_state
  | true =>
    rw [hok] at h15
    simp only [if_true] at h15 ⊢
    have e0 := t93_92 p 0 l nl sz hwf hok hnl hsz hll
    have e1 := t93_92 p 1 l nl sz hwf hok hnl hsz hll
    cases h0 : ans92 (followO p 0 l) <;> cases h1 : ans92 (followO p 1 l) <;> rw [h0] at e0 <;> rw [h1] at e1
    all_goals
      refine zo (zj 44) cfn44 rfl (n := 24) rfl ?_
      simp only [bW, if_true, Nat.reduceEqDiff, if_false, zk]
      repeat' first
        | (intro hb; first | cases hb | skip)
        | ((first | apply z8 | apply ze)
           · rfl
           · simp (disch := assumption) only [go_sem, Nat.reduceEqDiff, Nat.reduceAdd, bP, zg, Nat.reduceLeDiff, Nat.reduceLT, Nat.reduceMul, List.length_append, decide_eq_true_eq, z9, z6, Int.reduceToNat, Int.reduceLE, Int.reduceLT, Int.reduceBNe, Int.reduceBEq, h15, e0, e1]
             rfl
           · simp only [go_sem, Nat.reduceLT, Nat.reduceEqDiff]
             rfl
           · rfl
           first
           | (apply zd
              · simp only [z5, z0, Nat.reduceLT, decide_true, cond_true, ins]
                rfl
              · simp only [z5, z0, Nat.reduceLT, decide_true, cond_true, ins]
                rfl)
           | (apply zi
              · simp only [z5, z0, Nat.reduceLT, decide_true, cond_true, ins]
                rfl))
        | ((first | apply zb | apply zc)
           · rfl
           · simp only [z5, z0, Nat.reduceLT, decide_true, cond_true, ins]
             rfl)
        | (apply za
           · simp only [go_sem, Nat.reduceEqDiff])
        | (apply z7
           · simp only [go_sem, Nat.reduceEqDiff])
        | (apply zh
           · kernel_rfl
           · kernel_rfl)
        | (simp only [bW, if_true, Nat.reduceEqDiff, if_false])
      all_goals try simp only [go_sem, Nat.reduceEqDiff, bP, Nat.reduceAdd, Nat.reduceLeDiff, List.length_map, Tryd.f44]
      all_goals first | done | rfl | (simp_all []; done) | trace_state

def proofC (p : Paper) (sh ax : Int) (g : Bool) (bd : Ratio) (l : List Reason) : Int := if zu p then (if zy p sh && zO ax && ratioOK bd then (if ans96 g sh bd (followO p ax l) then 0 else 32) else 1) else 30
theorem named_iff (p : Paper) (sh ax : Int) : (namedF p ax [sh] != 0) = !(zy p sh && zO ax) := by
  unfold namedF
  simp only [List.all_cons, List.all_nil, Bool.and_true]
  cases zy p sh && zO ax <;> rfl
theorem t46 (p : Paper) (sh ax : Int) (g : Bool) (bd : Ratio) (l : List Reason) (nl : Bool) (sz : Nat) (hwf : p.wf) (hnl : nl = true → l = []) (hsz : nl = false → sz = 3) (hll : l.length ≤ 9223372036854775807) : (lim cfg).pure 46 [zC p, I sh, I ax, B g, .agg [I bd.n, I bd.d], .sl nl (l.map encW) sz none] = some (I (proofC p sh ax g bd l)) := by
  have h15 := t15 p hwf
  have h95 := t95 p ax false [sh] 1 (by simp) (by simp) (by simp)
  have h66 := t66' bd
  simp only [List.map_cons, List.map_nil] at h95
  have hn := named_iff p sh ax
  unfold check at h15
  unfold proofC
  cases hok : zu p with
  | false =>
    rw [hok] at h15
    simp only [Bool.false_eq_true, if_false] at h15 ⊢
    refine zo (zj 46) cfn46 rfl (n := 40) rfl ?_
    simp only [bW, if_true, Nat.reduceEqDiff, if_false, zk]
    repeat' first
      | (intro hb; first | cases hb | skip)
      | ((first | apply z8 | apply ze)
         · rfl
         · simp (disch := assumption) only [go_sem, Nat.reduceEqDiff, Nat.reduceAdd, bP, zg, Nat.reduceLeDiff, Nat.reduceLT, Nat.reduceMul, List.length_append, decide_eq_true_eq, z9, z6, Int.reduceToNat, Int.reduceLE, Int.reduceLT, Int.reduceBNe, Int.reduceBEq, h15]
           rfl
         · simp only [go_sem, Nat.reduceLT, Nat.reduceEqDiff]
           rfl
         · rfl
         first
         | (apply zd
            · simp only [z5, z0, Nat.reduceLT, decide_true, cond_true, ins]
              rfl
            · simp only [z5, z0, Nat.reduceLT, decide_true, cond_true, ins]
              rfl)
         | (apply zi
            · simp only [z5, z0, Nat.reduceLT, decide_true, cond_true, ins]
              rfl))
      | ((first | apply zb | apply zc)
         · rfl
         · simp only [z5, z0, Nat.reduceLT, decide_true, cond_true, ins]
           rfl)
      | (apply za
         · simp only [go_sem, Nat.reduceEqDiff])
      | (apply z7
         · simp only [go_sem, Nat.reduceEqDiff])
      | (apply zh
         · kernel_rfl
         · kernel_rfl)
      | (simp only [bW, if_true, Nat.reduceEqDiff, if_false])
    all_goals try simp only [go_sem, Nat.reduceEqDiff, bP, Nat.reduceAdd, Nat.reduceLeDiff, List.length_map, Tryd.f46]
    all_goals first | done | rfl | (simp_all []; done) | trace_state
  | true =>
    rw [hok] at h15
    simp only [if_true] at h15 ⊢
    cases h1 : zy p sh && zO ax with
    | false =>
      rw [h1] at hn
      simp only [Bool.false_and, Bool.false_eq_true, if_false, Bool.not_false] at hn ⊢
      refine zo (zj 46) cfn46 rfl (n := 40) rfl ?_
      simp only [bW, if_true, Nat.reduceEqDiff, if_false, zk]
      repeat' first
        | (intro hb; first | cases hb | skip)
        | ((first | apply z8 | apply ze)
           · rfl
           · simp (disch := assumption) only [go_sem, Nat.reduceEqDiff, Nat.reduceAdd, bP, zg, Nat.reduceLeDiff, Nat.reduceLT, Nat.reduceMul, List.length_append, decide_eq_true_eq, z9, z6, Int.reduceToNat, Int.reduceLE, Int.reduceLT, Int.reduceBNe, Int.reduceBEq, h15, h95, hn]
             rfl
           · simp only [go_sem, Nat.reduceLT, Nat.reduceEqDiff]
             rfl
           · rfl
           first
           | (apply zd
              · simp only [z5, z0, Nat.reduceLT, decide_true, cond_true, ins]
                rfl
              · simp only [z5, z0, Nat.reduceLT, decide_true, cond_true, ins]
                rfl)
           | (apply zi
              · simp only [z5, z0, Nat.reduceLT, decide_true, cond_true, ins]
                rfl))
        | ((first | apply zb | apply zc)
           · rfl
           · simp only [z5, z0, Nat.reduceLT, decide_true, cond_true, ins]
             rfl)
        | (apply za
           · simp only [go_sem, Nat.reduceEqDiff])
        | (apply z7
           · simp only [go_sem, Nat.reduceEqDiff])
        | (apply zh
           · kernel_rfl
           · kernel_rfl)
        | (simp only [bW, if_true, Nat.reduceEqDiff, if_false])
      all_goals try simp only [go_sem, Nat.reduceEqDiff, bP, Nat.reduceAdd, Nat.reduceLeDiff, List.length_map, Tryd.f46]
      all_goals first | done | rfl | (simp_all []; done) | trace_state
    | true =>
      rw [h1] at hn
      simp only [Bool.true_and, Bool.not_true] at hn ⊢
      cases h2 : ratioOK bd with
      | false =>
        rw [h2] at h66
        simp only [Bool.false_eq_true, if_false]
        refine zo (zj 46) cfn46 rfl (n := 40) rfl ?_
        simp only [bW, if_true, Nat.reduceEqDiff, if_false, zk]
        repeat' first
          | (intro hb; first | cases hb | skip)
          | ((first | apply z8 | apply ze)
             · rfl
             · simp (disch := assumption) only [go_sem, Nat.reduceEqDiff, Nat.reduceAdd, bP, zg, Nat.reduceLeDiff, Nat.reduceLT, Nat.reduceMul, List.length_append, decide_eq_true_eq, z9, z6, Int.reduceToNat, Int.reduceLE, Int.reduceLT, Int.reduceBNe, Int.reduceBEq, h15, h95, hn, h66]
               rfl
             · simp only [go_sem, Nat.reduceLT, Nat.reduceEqDiff]
               rfl
             · rfl
             first
             | (apply zd
                · simp only [z5, z0, Nat.reduceLT, decide_true, cond_true, ins]
                  rfl
                · simp only [z5, z0, Nat.reduceLT, decide_true, cond_true, ins]
                  rfl)
             | (apply zi
                · simp only [z5, z0, Nat.reduceLT, decide_true, cond_true, ins]
                  rfl))
          | ((first | apply zb | apply zc)
             · rfl
             · simp only [z5, z0, Nat.reduceLT, decide_true, cond_true, ins]
               rfl)
          | (apply za
             · simp only [go_sem, Nat.reduceEqDiff])
          | (apply z7
             · simp only [go_sem, Nat.reduceEqDiff])
          | (apply zh
             · kernel_rfl
             · kernel_rfl)
          | (simp only [bW, if_true, Nat.reduceEqDiff, if_false])
        all_goals try simp only [go_sem, Nat.reduceEqDiff, bP, Nat.reduceAdd, Nat.reduceLeDiff, List.length_map, Tryd.f46]
        all_goals first | done | rfl | (simp_all []; done) | trace_state
      | true =>
        rw [h2] at h66
        simp only [if_true]
        obtain ⟨o1, o2, -⟩ := zI hok
        have hsh : 0 ≤ sh ∧ sh < p.sheets := by simp [zy] at h1; exact h1.1
        have h93 := t93_96 g sh bd p ax l nl sz hwf hok hnl hsz hll h2 hsh.1 (by omega)
        cases h3 : ans96 g sh bd (followO p ax l) <;> rw [h3] at h93
        all_goals
          refine zo (zj 46) cfn46 rfl (n := 40) rfl ?_
          simp only [bW, if_true, Nat.reduceEqDiff, if_false, zk]
          repeat' first
            | (intro hb; first | cases hb | skip)
            | ((first | apply z8 | apply ze)
               · rfl
               · simp (disch := assumption) only [go_sem, Nat.reduceEqDiff, Nat.reduceAdd, bP, zg, Nat.reduceLeDiff, Nat.reduceLT, Nat.reduceMul, List.length_append, decide_eq_true_eq, z9, z6, Int.reduceToNat, Int.reduceLE, Int.reduceLT, Int.reduceBNe, Int.reduceBEq, h15, h95, hn, h66, h93]
                 rfl
               · simp only [go_sem, Nat.reduceLT, Nat.reduceEqDiff]
                 rfl
               · rfl
               first
               | (apply zd
                  · simp only [z5, z0, Nat.reduceLT, decide_true, cond_true, ins]
                    rfl
                  · simp only [z5, z0, Nat.reduceLT, decide_true, cond_true, ins]
                    rfl)
               | (apply zi
                  · simp only [z5, z0, Nat.reduceLT, decide_true, cond_true, ins]
                    rfl))
            | ((first | apply zb | apply zc)
               · rfl
               · simp only [z5, z0, Nat.reduceLT, decide_true, cond_true, ins]
                 rfl)
            | (apply za
               · simp only [go_sem, Nat.reduceEqDiff])
            | (apply z7
               · simp only [go_sem, Nat.reduceEqDiff])
            | (apply zh
               · kernel_rfl
               · kernel_rfl)
            | (simp only [bW, if_true, Nat.reduceEqDiff, if_false])
          all_goals try simp only [go_sem, Nat.reduceEqDiff, bP, Nat.reduceAdd, Nat.reduceLeDiff, List.length_map, Tryd.f46]
          all_goals first | done | rfl | (simp_all []; done) | trace_state


end Go.VS
namespace Go.VS
open Go Go.Proofs
set_option maxHeartbeats 0
set_option linter.unusedSimpArgs false

noncomputable def lp10_6 : Code := zD [1, 1, 1, 0, 1, 0, 0] (zt Tryd.f10)
theorem lk10_6 : cfg.keep 10 (zw lp10_6) = [1, 2, 3, 4, 5, 68, 69, 70] := by kernel_rfl
noncomputable def lp10_9 : Code := zD [1, 1, 1, 0, 1, 0, 0, 1, 1, 0, 0, 1, 1, 0, 0] (zt Tryd.f10)
theorem lk10_9 : cfg.keep 10 (zw lp10_9) = [1, 2, 3, 4, 5, 68, 69, 70, 74, 75] := by kernel_rfl
noncomputable def lp10_18 : Code := zD [1, 1, 1, 1, 1, 0, 1, 0, 0] (zt Tryd.f10)
theorem lk10_18 : cfg.keep 10 (zw lp10_18) = [1, 2, 3, 4, 5, 92] := by kernel_rfl

def okK (n d : Int) : Bool := decide (n ≤ 1000) && decide (d ≤ 1000)
def okK4 (f : F4) : Bool := okK f.xn f.xd && okK f.yn f.yd
theorem L10_6 {F : Exit → St → Option D} (p : Paper) (fs : List F4) (nf : Bool) (sf : Nat) (l : List Reason) (nl : Bool) (sz : Nat) (s n : Int) (k : List Kt) (x : D) (hnf : nf = true → fs = []) (hsf : nf = false → sf = 4) (hl : fs.length ≤ 9223372036854775807) (hk : ∀ st, get st.tmps 10 = B true → zF cfg (lim cfg) 10 F k .ret st = some (B true)) : ∀ (rest : List F4) (i : Nat), fs.drop i = rest → i ≤ fs.length →
    (rest.all okK4 = true → zF cfg (lim cfg) 10 F k (.exit 0) ⟨229, [(71, B false), (1, .sl nf (fs.map encF) sf none), (2, .sl nl (l.map encW) sz none), (3, I s), (4, I n), (5, .lref 0 0 3 0), (68, .sl nf (fs.map encF) sf none), (69, I fs.length), (70, I (fs.length : Nat))], [(0, ⟨[zC p], 3, false⟩)], 1, 0⟩ = some x) →
    (rest.all okK4 = false → x = B true) →
    EvL cfg (lim cfg) 10 F lp10_6 k ⟨229, [(1, .sl nf (fs.map encF) sf none), (2, .sl nl (l.map encW) sz none), (3, I s), (4, I n), (5, .lref 0 0 3 0), (68, .sl nf (fs.map encF) sf none), (69, I fs.length), (70, I (i : Nat))], [(0, ⟨[zC p], 3, false⟩)], 1, 0⟩ = some x := by
  intro rest
  induction rest with
  | nil =>
    intro i hd hi h h'
    have hi' : i = fs.length := by
      have := List.drop_eq_nil_iff.1 hd
      omega
    subst hi'
    refine zl ?_
    try dsimp only [lp10_6, zD, zt, Tryd.f10]
    simp only [bW, if_true, Nat.reduceEqDiff, if_false]
    repeat' first
      | (intro hb; first | cases hb | skip)
      | ((first | apply z8 | apply ze)
         · rfl
         · simp (disch := assumption) only [go_sem, Nat.reduceEqDiff, Nat.reduceAdd, bP, zg, Nat.reduceLeDiff, Nat.reduceLT, Nat.reduceMul, List.length_append, decide_eq_true_eq, z9, z6, Int.reduceToNat, Int.reduceLE, Int.reduceLT, Int.reduceBNe, Int.reduceBEq, Int.lt_irrefl]
           rfl
         · simp only [go_sem, Nat.reduceLT, Nat.reduceEqDiff]
           rfl
         · rfl
         first
         | (apply zd
            · simp only [z5, z0, Nat.reduceLT, decide_true, cond_true, ins]
              rfl
            · simp only [z5, z0, Nat.reduceLT, decide_true, cond_true, ins]
              rfl)
         | (apply zi
            · simp only [z5, z0, Nat.reduceLT, decide_true, cond_true, ins]
              rfl))
      | ((first | apply zb | apply zc)
         · rfl
         · simp only [z5, z0, Nat.reduceLT, decide_true, cond_true, ins]
           rfl)
      | (apply za
         · simp only [go_sem, Nat.reduceEqDiff])
      | (apply z7
         · simp only [go_sem, Nat.reduceEqDiff])
      | (apply zh
         · kernel_rfl
         · kernel_rfl)
      | (simp only [bW, if_true, Nat.reduceEqDiff, if_false])
    exact h rfl
  | cons f rest ih =>
    intro i hd hi h h'
    have hlt : i < fs.length := by
      rcases Nat.lt_or_ge i fs.length with h | h
      · exact h
      · rw [List.drop_eq_nil_of_le h] at hd; cases hd
    have hf : fs[i]? = some f := by rw [← List.head?_drop, hd]; rfl
    have hx : (fs.map encF)[i]? = some (.agg [I f.xn, I f.xd, I f.yn, I f.yd]) := by rw [List.getElem?_map, hf]; rfl
    have hnf' : nf = false := by
      cases h : nf with
      | false => rfl
      | true => rw [hnf h] at hlt; cases hlt
    have hs1 := hsf hnf'
    clear hsf
    subst hs1
    have hlt' : (i : Int) < (fs.length : Int) := by omega
    have hw3 : IntKind.i64.wrap ((i : Int) + 1) = ((i + 1 : Nat) : Int) := by rw [wrap_i64 (by omega) (by omega)]; omega
    cases h1 : okK f.xn f.xd with
    | false =>
      rw [h' (by simp [okK4, h1])]
      simp only [okK, Bool.and_eq_false_iff, decide_eq_false_iff_not] at h1
      refine zl ?_
      try dsimp only [lp10_6, zD, zt, Tryd.f10]
      simp only [bW, if_true, Nat.reduceEqDiff, if_false]
      repeat' first
        | (intro hb; first | cases hb | skip)
        | ((first | apply z8 | apply ze)
           · rfl
           · simp (disch := assumption) only [go_sem, Nat.reduceEqDiff, Nat.reduceAdd, bP, zg, Nat.reduceLeDiff, Nat.reduceLT, Nat.reduceMul, List.length_append, decide_eq_true_eq, z9, z6, Int.reduceToNat, Int.reduceLE, Int.reduceLT, Int.reduceBNe, Int.reduceBEq, hx, hnf', hlt', hw3, show (0 : Nat) < 2 from by decide, show (1 : Nat) < 2 from by decide, show IntKind.i64.wrap (0 + 1) = 1 from by decide, show IntKind.i64.wrap (1 + 1) = 2 from by decide]
             rfl
           · simp only [go_sem, Nat.reduceLT, Nat.reduceEqDiff]
             rfl
           · rfl
           first
           | (apply zd
              · simp only [z5, z0, Nat.reduceLT, decide_true, cond_true, ins]
                rfl
              · simp only [z5, z0, Nat.reduceLT, decide_true, cond_true, ins]
                rfl)
           | (apply zi
              · simp only [z5, z0, Nat.reduceLT, decide_true, cond_true, ins]
                rfl))
        | ((first | apply zb | apply zc)
           · rfl
           · simp only [z5, z0, Nat.reduceLT, decide_true, cond_true, ins]
             rfl)
        | (apply za
           · simp only [go_sem, Nat.reduceEqDiff])
        | (apply z7
           · simp only [go_sem, Nat.reduceEqDiff])
        | (apply zh
           · kernel_rfl
           · kernel_rfl)
        | (simp only [bW, if_true, Nat.reduceEqDiff, if_false])
      apply w_loop lk10_9
      · simp only [go_sem, List.map_append, Nat.reduceEqDiff, Nat.reduceLT, Nat.reduceAdd, bI, bD, bI2, zC]
        rfl
      refine zl ?_
      try dsimp only [lp10_9, zD, zt, Tryd.f10]
      simp only [bW, if_true, Nat.reduceEqDiff, if_false]
      repeat' first
        | (intro hb; first | cases hb | skip)
        | ((first | apply z8 | apply ze)
           · rfl
           · simp (disch := assumption) only [go_sem, Nat.reduceEqDiff, Nat.reduceAdd, bP, zg, Nat.reduceLeDiff, Nat.reduceLT, Nat.reduceMul, List.length_append, decide_eq_true_eq, z9, z6, Int.reduceToNat, Int.reduceLE, Int.reduceLT, Int.reduceBNe, Int.reduceBEq, hx, hnf', hlt', hw3, show (0 : Nat) < 2 from by decide, show (1 : Nat) < 2 from by decide, show IntKind.i64.wrap (0 + 1) = 1 from by decide, show IntKind.i64.wrap (1 + 1) = 2 from by decide]
             rfl
           · simp only [go_sem, Nat.reduceLT, Nat.reduceEqDiff]
             rfl
           · rfl
           first
           | (apply zd
              · simp only [z5, z0, Nat.reduceLT, decide_true, cond_true, ins]
                rfl
              · simp only [z5, z0, Nat.reduceLT, decide_true, cond_true, ins]
                rfl)
           | (apply zi
              · simp only [z5, z0, Nat.reduceLT, decide_true, cond_true, ins]
                rfl))
        | ((first | apply zb | apply zc)
           · rfl
           · simp only [z5, z0, Nat.reduceLT, decide_true, cond_true, ins]
             rfl)
        | (apply za
           · simp only [go_sem, Nat.reduceEqDiff])
        | (apply z7
           · simp only [go_sem, Nat.reduceEqDiff])
        | (apply zh
           · kernel_rfl
           · kernel_rfl)
        | (simp only [bW, if_true, Nat.reduceEqDiff, if_false])
      all_goals first | exact hk _ rfl | (exfalso; simp_all; omega)
    | true =>
      simp only [okK, Bool.and_eq_true, decide_eq_true_eq] at h1
      have a3 : decide (f.xn > 1000) = false := by simp; omega
      have a4 : decide (f.xd > 1000) = false := by simp; omega
      cases h2 : okK f.yn f.yd with
      | false =>
        rw [h' (by simp [okK4, h2])]
        simp only [okK, Bool.and_eq_false_iff, decide_eq_false_iff_not] at h2
        refine zl ?_
        try dsimp only [lp10_6, zD, zt, Tryd.f10]
        simp only [bW, if_true, Nat.reduceEqDiff, if_false]
        repeat' first
          | (intro hb; first | cases hb | skip)
          | ((first | apply z8 | apply ze)
             · rfl
             · simp (disch := assumption) only [go_sem, Nat.reduceEqDiff, Nat.reduceAdd, bP, zg, Nat.reduceLeDiff, Nat.reduceLT, Nat.reduceMul, List.length_append, decide_eq_true_eq, z9, z6, Int.reduceToNat, Int.reduceLE, Int.reduceLT, Int.reduceBNe, Int.reduceBEq, hx, hnf', hlt', hw3, show (0 : Nat) < 2 from by decide, show (1 : Nat) < 2 from by decide, show IntKind.i64.wrap (0 + 1) = 1 from by decide, show IntKind.i64.wrap (1 + 1) = 2 from by decide]
               rfl
             · simp only [go_sem, Nat.reduceLT, Nat.reduceEqDiff]
               rfl
             · rfl
             first
             | (apply zd
                · simp only [z5, z0, Nat.reduceLT, decide_true, cond_true, ins]
                  rfl
                · simp only [z5, z0, Nat.reduceLT, decide_true, cond_true, ins]
                  rfl)
             | (apply zi
                · simp only [z5, z0, Nat.reduceLT, decide_true, cond_true, ins]
                  rfl))
          | ((first | apply zb | apply zc)
             · rfl
             · simp only [z5, z0, Nat.reduceLT, decide_true, cond_true, ins]
               rfl)
          | (apply za
             · simp only [go_sem, Nat.reduceEqDiff])
          | (apply z7
             · simp only [go_sem, Nat.reduceEqDiff])
          | (apply zh
             · kernel_rfl
             · kernel_rfl)
          | (simp only [bW, if_true, Nat.reduceEqDiff, if_false])
        apply w_loop lk10_9
        · simp only [go_sem, List.map_append, Nat.reduceEqDiff, Nat.reduceLT, Nat.reduceAdd, bI, bD, bI2, zC]
          rfl
        refine zl ?_
        try dsimp only [lp10_9, zD, zt, Tryd.f10]
        simp only [bW, if_true, Nat.reduceEqDiff, if_false]
        repeat' first
          | (intro hb; first | cases hb | skip)
          | ((first | apply z8 | apply ze)
             · rfl
             · simp (disch := assumption) only [go_sem, Nat.reduceEqDiff, Nat.reduceAdd, bP, zg, Nat.reduceLeDiff, Nat.reduceLT, Nat.reduceMul, List.length_append, decide_eq_true_eq, z9, z6, Int.reduceToNat, Int.reduceLE, Int.reduceLT, Int.reduceBNe, Int.reduceBEq, hx, hnf', hlt', hw3, show (0 : Nat) < 2 from by decide, show (1 : Nat) < 2 from by decide, show IntKind.i64.wrap (0 + 1) = 1 from by decide, show IntKind.i64.wrap (1 + 1) = 2 from by decide, a3, a4]
               rfl
             · simp only [go_sem, Nat.reduceLT, Nat.reduceEqDiff]
               rfl
             · rfl
             first
             | (apply zd
                · simp only [z5, z0, Nat.reduceLT, decide_true, cond_true, ins]
                  rfl
                · simp only [z5, z0, Nat.reduceLT, decide_true, cond_true, ins]
                  rfl)
             | (apply zi
                · simp only [z5, z0, Nat.reduceLT, decide_true, cond_true, ins]
                  rfl))
          | ((first | apply zb | apply zc)
             · rfl
             · simp only [z5, z0, Nat.reduceLT, decide_true, cond_true, ins]
               rfl)
          | (apply za
             · simp only [go_sem, Nat.reduceEqDiff])
          | (apply z7
             · simp only [go_sem, Nat.reduceEqDiff])
          | (apply zh
             · kernel_rfl
             · kernel_rfl)
          | (simp only [bW, if_true, Nat.reduceEqDiff, if_false])
        apply zz lk10_9
        · simp only [go_sem, List.map_append, Nat.reduceEqDiff, Nat.reduceLT, Nat.reduceAdd, bI, bD, bI2, zC]
          rfl
        refine zl ?_
        try dsimp only [lp10_9, zD, zt, Tryd.f10]
        simp only [bW, if_true, Nat.reduceEqDiff, if_false]
        repeat' first
          | (intro hb; first | cases hb | skip)
          | ((first | apply z8 | apply ze)
             · rfl
             · simp (disch := assumption) only [go_sem, Nat.reduceEqDiff, Nat.reduceAdd, bP, zg, Nat.reduceLeDiff, Nat.reduceLT, Nat.reduceMul, List.length_append, decide_eq_true_eq, z9, z6, Int.reduceToNat, Int.reduceLE, Int.reduceLT, Int.reduceBNe, Int.reduceBEq, hx, hnf', hlt', hw3, show (0 : Nat) < 2 from by decide, show (1 : Nat) < 2 from by decide, show IntKind.i64.wrap (0 + 1) = 1 from by decide, show IntKind.i64.wrap (1 + 1) = 2 from by decide]
               rfl
             · simp only [go_sem, Nat.reduceLT, Nat.reduceEqDiff]
               rfl
             · rfl
             first
             | (apply zd
                · simp only [z5, z0, Nat.reduceLT, decide_true, cond_true, ins]
                  rfl
                · simp only [z5, z0, Nat.reduceLT, decide_true, cond_true, ins]
                  rfl)
             | (apply zi
                · simp only [z5, z0, Nat.reduceLT, decide_true, cond_true, ins]
                  rfl))
          | ((first | apply zb | apply zc)
             · rfl
             · simp only [z5, z0, Nat.reduceLT, decide_true, cond_true, ins]
               rfl)
          | (apply za
             · simp only [go_sem, Nat.reduceEqDiff])
          | (apply z7
             · simp only [go_sem, Nat.reduceEqDiff])
          | (apply zh
             · kernel_rfl
             · kernel_rfl)
          | (simp only [bW, if_true, Nat.reduceEqDiff, if_false])
        all_goals first | exact hk _ rfl | (exfalso; simp_all; omega)
      | true =>
        have hs : okK4 f = true := by simp [okK4, okK, h1]; simp [okK] at h2; omega
        simp only [List.all_cons, hs, Bool.true_and] at h h'
        simp only [okK, Bool.and_eq_true, decide_eq_true_eq] at h2
        have b3 : decide (f.yn > 1000) = false := by simp; omega
        have b4 : decide (f.yd > 1000) = false := by simp; omega
        refine zl ?_
        try dsimp only [lp10_6, zD, zt, Tryd.f10]
        simp only [bW, if_true, Nat.reduceEqDiff, if_false]
        repeat' first
          | (intro hb; first | cases hb | skip)
          | ((first | apply z8 | apply ze)
             · rfl
             · simp (disch := assumption) only [go_sem, Nat.reduceEqDiff, Nat.reduceAdd, bP, zg, Nat.reduceLeDiff, Nat.reduceLT, Nat.reduceMul, List.length_append, decide_eq_true_eq, z9, z6, Int.reduceToNat, Int.reduceLE, Int.reduceLT, Int.reduceBNe, Int.reduceBEq, hx, hnf', hlt', hw3, show (0 : Nat) < 2 from by decide, show (1 : Nat) < 2 from by decide, show IntKind.i64.wrap (0 + 1) = 1 from by decide, show IntKind.i64.wrap (1 + 1) = 2 from by decide]
               rfl
             · simp only [go_sem, Nat.reduceLT, Nat.reduceEqDiff]
               rfl
             · rfl
             first
             | (apply zd
                · simp only [z5, z0, Nat.reduceLT, decide_true, cond_true, ins]
                  rfl
                · simp only [z5, z0, Nat.reduceLT, decide_true, cond_true, ins]
                  rfl)
             | (apply zi
                · simp only [z5, z0, Nat.reduceLT, decide_true, cond_true, ins]
                  rfl))
          | ((first | apply zb | apply zc)
             · rfl
             · simp only [z5, z0, Nat.reduceLT, decide_true, cond_true, ins]
               rfl)
          | (apply za
             · simp only [go_sem, Nat.reduceEqDiff])
          | (apply z7
             · simp only [go_sem, Nat.reduceEqDiff])
          | (apply zh
             · kernel_rfl
             · kernel_rfl)
          | (simp only [bW, if_true, Nat.reduceEqDiff, if_false])
        apply w_loop lk10_9
        · simp only [go_sem, List.map_append, Nat.reduceEqDiff, Nat.reduceLT, Nat.reduceAdd, bI, bD, bI2, zC]
          rfl
        refine zl ?_
        try dsimp only [lp10_9, zD, zt, Tryd.f10]
        simp only [bW, if_true, Nat.reduceEqDiff, if_false]
        repeat' first
          | (intro hb; first | cases hb | skip)
          | ((first | apply z8 | apply ze)
             · rfl
             · simp (disch := assumption) only [go_sem, Nat.reduceEqDiff, Nat.reduceAdd, bP, zg, Nat.reduceLeDiff, Nat.reduceLT, Nat.reduceMul, List.length_append, decide_eq_true_eq, z9, z6, Int.reduceToNat, Int.reduceLE, Int.reduceLT, Int.reduceBNe, Int.reduceBEq, hx, hnf', hlt', hw3, show (0 : Nat) < 2 from by decide, show (1 : Nat) < 2 from by decide, show IntKind.i64.wrap (0 + 1) = 1 from by decide, show IntKind.i64.wrap (1 + 1) = 2 from by decide, a3, a4]
               rfl
             · simp only [go_sem, Nat.reduceLT, Nat.reduceEqDiff]
               rfl
             · rfl
             first
             | (apply zd
                · simp only [z5, z0, Nat.reduceLT, decide_true, cond_true, ins]
                  rfl
                · simp only [z5, z0, Nat.reduceLT, decide_true, cond_true, ins]
                  rfl)
             | (apply zi
                · simp only [z5, z0, Nat.reduceLT, decide_true, cond_true, ins]
                  rfl))
          | ((first | apply zb | apply zc)
             · rfl
             · simp only [z5, z0, Nat.reduceLT, decide_true, cond_true, ins]
               rfl)
          | (apply za
             · simp only [go_sem, Nat.reduceEqDiff])
          | (apply z7
             · simp only [go_sem, Nat.reduceEqDiff])
          | (apply zh
             · kernel_rfl
             · kernel_rfl)
          | (simp only [bW, if_true, Nat.reduceEqDiff, if_false])
        apply zz lk10_9
        · simp only [go_sem, List.map_append, Nat.reduceEqDiff, Nat.reduceLT, Nat.reduceAdd, bI, bD, bI2, zC]
          rfl
        refine zl ?_
        try dsimp only [lp10_9, zD, zt, Tryd.f10]
        simp only [bW, if_true, Nat.reduceEqDiff, if_false]
        repeat' first
          | (intro hb; first | cases hb | skip)
          | ((first | apply z8 | apply ze)
             · rfl
             · simp (disch := assumption) only [go_sem, Nat.reduceEqDiff, Nat.reduceAdd, bP, zg, Nat.reduceLeDiff, Nat.reduceLT, Nat.reduceMul, List.length_append, decide_eq_true_eq, z9, z6, Int.reduceToNat, Int.reduceLE, Int.reduceLT, Int.reduceBNe, Int.reduceBEq, hx, hnf', hlt', hw3, show (0 : Nat) < 2 from by decide, show (1 : Nat) < 2 from by decide, show IntKind.i64.wrap (0 + 1) = 1 from by decide, show IntKind.i64.wrap (1 + 1) = 2 from by decide, b3, b4]
               rfl
             · simp only [go_sem, Nat.reduceLT, Nat.reduceEqDiff]
               rfl
             · rfl
             first
             | (apply zd
                · simp only [z5, z0, Nat.reduceLT, decide_true, cond_true, ins]
                  rfl
                · simp only [z5, z0, Nat.reduceLT, decide_true, cond_true, ins]
                  rfl)
             | (apply zi
                · simp only [z5, z0, Nat.reduceLT, decide_true, cond_true, ins]
                  rfl))
          | ((first | apply zb | apply zc)
             · rfl
             · simp only [z5, z0, Nat.reduceLT, decide_true, cond_true, ins]
               rfl)
          | (apply za
             · simp only [go_sem, Nat.reduceEqDiff])
          | (apply z7
             · simp only [go_sem, Nat.reduceEqDiff])
          | (apply zh
             · kernel_rfl
             · kernel_rfl)
          | (simp only [bW, if_true, Nat.reduceEqDiff, if_false])
        apply zz lk10_9
        · simp only [go_sem, List.map_append, Nat.reduceEqDiff, Nat.reduceLT, Nat.reduceAdd, bI, bD, bI2, zC]
          rfl
        refine zl ?_
        try dsimp only [lp10_9, zD, zt, Tryd.f10]
        simp only [bW, if_true, Nat.reduceEqDiff, if_false]
        repeat' first
          | (intro hb; first | cases hb | skip)
          | ((first | apply z8 | apply ze)
             · rfl
             · simp (disch := assumption) only [go_sem, Nat.reduceEqDiff, Nat.reduceAdd, bP, zg, Nat.reduceLeDiff, Nat.reduceLT, Nat.reduceMul, List.length_append, decide_eq_true_eq, z9, z6, Int.reduceToNat, Int.reduceLE, Int.reduceLT, Int.reduceBNe, Int.reduceBEq, hx, hnf', hlt', hw3, show (0 : Nat) < 2 from by decide, show (1 : Nat) < 2 from by decide, show IntKind.i64.wrap (0 + 1) = 1 from by decide, show IntKind.i64.wrap (1 + 1) = 2 from by decide]
               rfl
             · simp only [go_sem, Nat.reduceLT, Nat.reduceEqDiff]
               rfl
             · rfl
             first
             | (apply zd
                · simp only [z5, z0, Nat.reduceLT, decide_true, cond_true, ins]
                  rfl
                · simp only [z5, z0, Nat.reduceLT, decide_true, cond_true, ins]
                  rfl)
             | (apply zi
                · simp only [z5, z0, Nat.reduceLT, decide_true, cond_true, ins]
                  rfl))
          | ((first | apply zb | apply zc)
             · rfl
             · simp only [z5, z0, Nat.reduceLT, decide_true, cond_true, ins]
               rfl)
          | (apply za
             · simp only [go_sem, Nat.reduceEqDiff])
          | (apply z7
             · simp only [go_sem, Nat.reduceEqDiff])
          | (apply zh
             · kernel_rfl
             · kernel_rfl)
          | (simp only [bW, if_true, Nat.reduceEqDiff, if_false])
        exact zz (st1 := ⟨229, [(1, .sl nf (fs.map encF) 4 none), (2, .sl nl (l.map encW) sz none), (3, I s), (4, I n), (5, .lref 0 0 3 0), (68, .sl nf (fs.map encF) 4 none), (69, I fs.length), (70, I (i + 1 : Nat))], [(0, ⟨[zC p], 3, false⟩)], 1, 0⟩) lk10_6 (by kernel_rfl) (ih (i + 1) (by rw [← List.drop_drop, hd]; rfl) hlt h h')

theorem fine_noclash {p : Paper} {fs : List F4} (hF : Fine p fs) (l : List Reason) : clashC p l = 32 := by
  have key : ∀ ax, zO ax = true → ans92 (followO p ax l) = false := by
    intro ax hax
    cases h : followO p ax l with
    | none => rfl
    | some t =>
      obtain ⟨s, a, q⟩ := t
      obtain ⟨r, h1, h2, -, -⟩ := follow_inv hF.ok h
      obtain ⟨w, w1, w2, w3⟩ := follow_real hF.ok h
      simp only [ans92]
      by_cases hsa : s = a
      · subst hsa
        have hone := fine_closed hF hax w2
        cases hlt : ltR q one1 with
        | false => simp
        | true =>
          rw [ltR_iff r.2.1 (by decide), one_vR, w3] at hlt
          exact absurd hlt (Rat.not_lt.2 hone)
      · simp [hsa]
  unfold clashC clashOK
  rw [hF.ok, key 0 rfl, key 1 rfl]
  rfl
theorem t10 (p : Paper) (fs : List F4) (nf : Bool) (sf : Nat) (l : List Reason) (nl : Bool) (sz : Nat) (s n : Int) (hwf : p.wf) (hnf : nf = true → fs = []) (hsf : nf = false → sf = 4) (hl : fs.length ≤ 9223372036854775807) (hnl : nl = true → l = []) (hsz : nl = false → sz = 3) (hll : l.length ≤ 9223372036854775807) : (lim cfg).pure 10 [zC p, .sl nf (fs.map encF) sf none, .sl nl (l.map encW) sz none, I s, I n] = some (B true) := by
  have h15 := t15 p hwf
  have h16 := t16 p fs nf sf hnf hsf hl
  have h17 := t17 p hwf
  have h18 := t18 p fs nf sf hwf hnf hsf hl
  have h44 := t44 p l nl sz hwf hnl hsz hll
  have hlw := len_if (f := encW) hnl
  have hlf := len_if (f := encF) hnf
  unfold check at h15
  cases hok : zu p with
  | false =>
    rw [hok] at h15
    simp only [Bool.false_eq_true, if_false] at h15
    refine zo (zj 10) cfn10 rfl (n := 229) rfl ?_
    simp only [bW, if_true, Nat.reduceEqDiff, if_false, zk]
    repeat' first
      | (intro hb; first | cases hb | skip)
      | ((first | apply z8 | apply ze)
         · rfl
         · simp (disch := assumption) only [go_sem, Nat.reduceEqDiff, Nat.reduceAdd, bP, zg, Nat.reduceLeDiff, Nat.reduceLT, Nat.reduceMul, List.length_append, decide_eq_true_eq, z9, z6, Int.reduceToNat, Int.reduceLE, Int.reduceLT, Int.reduceBNe, Int.reduceBEq, t14, hlw, h15]
           rfl
         · simp only [go_sem, Nat.reduceLT, Nat.reduceEqDiff]
           rfl
         · rfl
         first
         | (apply zd
            · simp only [z5, z0, Nat.reduceLT, decide_true, cond_true, ins]
              rfl
            · simp only [z5, z0, Nat.reduceLT, decide_true, cond_true, ins]
              rfl)
         | (apply zi
            · simp only [z5, z0, Nat.reduceLT, decide_true, cond_true, ins]
              rfl))
      | ((first | apply zb | apply zc)
         · rfl
         · simp only [z5, z0, Nat.reduceLT, decide_true, cond_true, ins]
           rfl)
      | (apply za
         · simp only [go_sem, Nat.reduceEqDiff])
      | (apply z7
         · simp only [go_sem, Nat.reduceEqDiff])
      | (apply zh
         · kernel_rfl
         · kernel_rfl)
      | (simp only [bW, if_true, Nat.reduceEqDiff, if_false])
    all_goals try simp only [go_sem, Nat.reduceEqDiff, bP, Nat.reduceAdd, Nat.reduceLeDiff, List.length_map, Tryd.f10]
    all_goals first | done | rfl | (simp_all []; done) | trace_state
  | true =>
  rw [hok] at h15
  simp only [if_true] at h15
  cases hpl : plainF p fs with
  | false =>
    rw [hpl] at h16
    refine zo (zj 10) cfn10 rfl (n := 229) rfl ?_
    simp only [bW, if_true, Nat.reduceEqDiff, if_false, zk]
    repeat' first
      | (intro hb; first | cases hb | skip)
      | ((first | apply z8 | apply ze)
         · rfl
         · simp (disch := assumption) only [go_sem, Nat.reduceEqDiff, Nat.reduceAdd, bP, zg, Nat.reduceLeDiff, Nat.reduceLT, Nat.reduceMul, List.length_append, decide_eq_true_eq, z9, z6, Int.reduceToNat, Int.reduceLE, Int.reduceLT, Int.reduceBNe, Int.reduceBEq, t14, hlw, h15, h16]
           rfl
         · simp only [go_sem, Nat.reduceLT, Nat.reduceEqDiff]
           rfl
         · rfl
         first
         | (apply zd
            · simp only [z5, z0, Nat.reduceLT, decide_true, cond_true, ins]
              rfl
            · simp only [z5, z0, Nat.reduceLT, decide_true, cond_true, ins]
              rfl)
         | (apply zi
            · simp only [z5, z0, Nat.reduceLT, decide_true, cond_true, ins]
              rfl))
      | ((first | apply zb | apply zc)
         · rfl
         · simp only [z5, z0, Nat.reduceLT, decide_true, cond_true, ins]
           rfl)
      | (apply za
         · simp only [go_sem, Nat.reduceEqDiff])
      | (apply z7
         · simp only [go_sem, Nat.reduceEqDiff])
      | (apply zh
         · kernel_rfl
         · kernel_rfl)
      | (simp only [bW, if_true, Nat.reduceEqDiff, if_false])
    all_goals try simp only [go_sem, Nat.reduceEqDiff, bP, Nat.reduceAdd, Nat.reduceLeDiff, List.length_map, Tryd.f10]
    all_goals first | done | rfl | (simp_all []; done) | trace_state
  | true =>
  rw [hpl] at h16
  cases hfe : (decide (p.marks.length ≤ 26) && decide (p.joins.length ≤ 26)) with
  | false =>
    rw [hfe] at h17
    refine zo (zj 10) cfn10 rfl (n := 229) rfl ?_
    simp only [bW, if_true, Nat.reduceEqDiff, if_false, zk]
    repeat' first
      | (intro hb; first | cases hb | skip)
      | ((first | apply z8 | apply ze)
         · rfl
         · simp (disch := assumption) only [go_sem, Nat.reduceEqDiff, Nat.reduceAdd, bP, zg, Nat.reduceLeDiff, Nat.reduceLT, Nat.reduceMul, List.length_append, decide_eq_true_eq, z9, z6, Int.reduceToNat, Int.reduceLE, Int.reduceLT, Int.reduceBNe, Int.reduceBEq, t14, hlw, h15, h16, h17]
           rfl
         · simp only [go_sem, Nat.reduceLT, Nat.reduceEqDiff]
           rfl
         · rfl
         first
         | (apply zd
            · simp only [z5, z0, Nat.reduceLT, decide_true, cond_true, ins]
              rfl
            · simp only [z5, z0, Nat.reduceLT, decide_true, cond_true, ins]
              rfl)
         | (apply zi
            · simp only [z5, z0, Nat.reduceLT, decide_true, cond_true, ins]
              rfl))
      | ((first | apply zb | apply zc)
         · rfl
         · simp only [z5, z0, Nat.reduceLT, decide_true, cond_true, ins]
           rfl)
      | (apply za
         · simp only [go_sem, Nat.reduceEqDiff])
      | (apply z7
         · simp only [go_sem, Nat.reduceEqDiff])
      | (apply zh
         · kernel_rfl
         · kernel_rfl)
      | (simp only [bW, if_true, Nat.reduceEqDiff, if_false])
    all_goals try simp only [go_sem, Nat.reduceEqDiff, bP, Nat.reduceAdd, Nat.reduceLeDiff, List.length_map, Tryd.f10]
    all_goals first | done | rfl | (simp_all []; done) | trace_state
  | true =>
  rw [hfe] at h17
  cases c1 : decide ((l.length : Int) > 40) with
  | true =>
    refine zo (zj 10) cfn10 rfl (n := 229) rfl ?_
    simp only [bW, if_true, Nat.reduceEqDiff, if_false, zk]
    repeat' first
      | (intro hb; first | cases hb | skip)
      | ((first | apply z8 | apply ze)
         · rfl
         · simp (disch := assumption) only [go_sem, Nat.reduceEqDiff, Nat.reduceAdd, bP, zg, Nat.reduceLeDiff, Nat.reduceLT, Nat.reduceMul, List.length_append, decide_eq_true_eq, z9, z6, Int.reduceToNat, Int.reduceLE, Int.reduceLT, Int.reduceBNe, Int.reduceBEq, t14, hlw, h15, h16, h17, c1]
           rfl
         · simp only [go_sem, Nat.reduceLT, Nat.reduceEqDiff]
           rfl
         · rfl
         first
         | (apply zd
            · simp only [z5, z0, Nat.reduceLT, decide_true, cond_true, ins]
              rfl
            · simp only [z5, z0, Nat.reduceLT, decide_true, cond_true, ins]
              rfl)
         | (apply zi
            · simp only [z5, z0, Nat.reduceLT, decide_true, cond_true, ins]
              rfl))
      | ((first | apply zb | apply zc)
         · rfl
         · simp only [z5, z0, Nat.reduceLT, decide_true, cond_true, ins]
           rfl)
      | (apply za
         · simp only [go_sem, Nat.reduceEqDiff])
      | (apply z7
         · simp only [go_sem, Nat.reduceEqDiff])
      | (apply zh
         · kernel_rfl
         · kernel_rfl)
      | (simp only [bW, if_true, Nat.reduceEqDiff, if_false])
    all_goals try simp only [go_sem, Nat.reduceEqDiff, bP, Nat.reduceAdd, Nat.reduceLeDiff, List.length_map, Tryd.f10]
    all_goals first | done | rfl | (simp_all []; done) | trace_state
  | false =>
  cases c2 : decide (s < 0) with
  | true =>
    refine zo (zj 10) cfn10 rfl (n := 229) rfl ?_
    simp only [bW, if_true, Nat.reduceEqDiff, if_false, zk]
    repeat' first
      | (intro hb; first | cases hb | skip)
      | ((first | apply z8 | apply ze)
         · rfl
         · simp (disch := assumption) only [go_sem, Nat.reduceEqDiff, Nat.reduceAdd, bP, zg, Nat.reduceLeDiff, Nat.reduceLT, Nat.reduceMul, List.length_append, decide_eq_true_eq, z9, z6, Int.reduceToNat, Int.reduceLE, Int.reduceLT, Int.reduceBNe, Int.reduceBEq, t14, hlw, h15, h16, h17, c1, c2]
           rfl
         · simp only [go_sem, Nat.reduceLT, Nat.reduceEqDiff]
           rfl
         · rfl
         first
         | (apply zd
            · simp only [z5, z0, Nat.reduceLT, decide_true, cond_true, ins]
              rfl
            · simp only [z5, z0, Nat.reduceLT, decide_true, cond_true, ins]
              rfl)
         | (apply zi
            · simp only [z5, z0, Nat.reduceLT, decide_true, cond_true, ins]
              rfl))
      | ((first | apply zb | apply zc)
         · rfl
         · simp only [z5, z0, Nat.reduceLT, decide_true, cond_true, ins]
           rfl)
      | (apply za
         · simp only [go_sem, Nat.reduceEqDiff])
      | (apply z7
         · simp only [go_sem, Nat.reduceEqDiff])
      | (apply zh
         · kernel_rfl
         · kernel_rfl)
      | (simp only [bW, if_true, Nat.reduceEqDiff, if_false])
    all_goals try simp only [go_sem, Nat.reduceEqDiff, bP, Nat.reduceAdd, Nat.reduceLeDiff, List.length_map, Tryd.f10]
    all_goals first | done | rfl | (simp_all []; done) | trace_state
  | false =>
  cases c3 : decide (s ≥ p.sheets) with
  | true =>
    refine zo (zj 10) cfn10 rfl (n := 229) rfl ?_
    simp only [bW, if_true, Nat.reduceEqDiff, if_false, zk]
    repeat' first
      | (intro hb; first | cases hb | skip)
      | ((first | apply z8 | apply ze)
         · rfl
         · simp (disch := assumption) only [go_sem, Nat.reduceEqDiff, Nat.reduceAdd, bP, zg, Nat.reduceLeDiff, Nat.reduceLT, Nat.reduceMul, List.length_append, decide_eq_true_eq, z9, z6, Int.reduceToNat, Int.reduceLE, Int.reduceLT, Int.reduceBNe, Int.reduceBEq, t14, hlw, h15, h16, h17, c1, c2, c3]
           rfl
         · simp only [go_sem, Nat.reduceLT, Nat.reduceEqDiff]
           rfl
         · rfl
         first
         | (apply zd
            · simp only [z5, z0, Nat.reduceLT, decide_true, cond_true, ins]
              rfl
            · simp only [z5, z0, Nat.reduceLT, decide_true, cond_true, ins]
              rfl)
         | (apply zi
            · simp only [z5, z0, Nat.reduceLT, decide_true, cond_true, ins]
              rfl))
      | ((first | apply zb | apply zc)
         · rfl
         · simp only [z5, z0, Nat.reduceLT, decide_true, cond_true, ins]
           rfl)
      | (apply za
         · simp only [go_sem, Nat.reduceEqDiff])
      | (apply z7
         · simp only [go_sem, Nat.reduceEqDiff])
      | (apply zh
         · kernel_rfl
         · kernel_rfl)
      | (simp only [bW, if_true, Nat.reduceEqDiff, if_false])
    all_goals try simp only [go_sem, Nat.reduceEqDiff, bP, Nat.reduceAdd, Nat.reduceLeDiff, List.length_map, Tryd.f10]
    all_goals first | done | rfl | (simp_all []; done) | trace_state
  | false =>
  cases c4 : decide (n < 0) with
  | true =>
    refine zo (zj 10) cfn10 rfl (n := 229) rfl ?_
    simp only [bW, if_true, Nat.reduceEqDiff, if_false, zk]
    repeat' first
      | (intro hb; first | cases hb | skip)
      | ((first | apply z8 | apply ze)
         · rfl
         · simp (disch := assumption) only [go_sem, Nat.reduceEqDiff, Nat.reduceAdd, bP, zg, Nat.reduceLeDiff, Nat.reduceLT, Nat.reduceMul, List.length_append, decide_eq_true_eq, z9, z6, Int.reduceToNat, Int.reduceLE, Int.reduceLT, Int.reduceBNe, Int.reduceBEq, t14, hlw, h15, h16, h17, c1, c2, c3, c4]
           rfl
         · simp only [go_sem, Nat.reduceLT, Nat.reduceEqDiff]
           rfl
         · rfl
         first
         | (apply zd
            · simp only [z5, z0, Nat.reduceLT, decide_true, cond_true, ins]
              rfl
            · simp only [z5, z0, Nat.reduceLT, decide_true, cond_true, ins]
              rfl)
         | (apply zi
            · simp only [z5, z0, Nat.reduceLT, decide_true, cond_true, ins]
              rfl))
      | ((first | apply zb | apply zc)
         · rfl
         · simp only [z5, z0, Nat.reduceLT, decide_true, cond_true, ins]
           rfl)
      | (apply za
         · simp only [go_sem, Nat.reduceEqDiff])
      | (apply z7
         · simp only [go_sem, Nat.reduceEqDiff])
      | (apply zh
         · kernel_rfl
         · kernel_rfl)
      | (simp only [bW, if_true, Nat.reduceEqDiff, if_false])
    all_goals try simp only [go_sem, Nat.reduceEqDiff, bP, Nat.reduceAdd, Nat.reduceLeDiff, List.length_map, Tryd.f10]
    all_goals first | done | rfl | (simp_all []; done) | trace_state
  | false =>
  cases c5 : decide (n > 100000) with
  | true =>
    refine zo (zj 10) cfn10 rfl (n := 229) rfl ?_
    simp only [bW, if_true, Nat.reduceEqDiff, if_false, zk]
    repeat' first
      | (intro hb; first | cases hb | skip)
      | ((first | apply z8 | apply ze)
         · rfl
         · simp (disch := assumption) only [go_sem, Nat.reduceEqDiff, Nat.reduceAdd, bP, zg, Nat.reduceLeDiff, Nat.reduceLT, Nat.reduceMul, List.length_append, decide_eq_true_eq, z9, z6, Int.reduceToNat, Int.reduceLE, Int.reduceLT, Int.reduceBNe, Int.reduceBEq, t14, hlw, h15, h16, h17, c1, c2, c3, c4, c5]
           rfl
         · simp only [go_sem, Nat.reduceLT, Nat.reduceEqDiff]
           rfl
         · rfl
         first
         | (apply zd
            · simp only [z5, z0, Nat.reduceLT, decide_true, cond_true, ins]
              rfl
            · simp only [z5, z0, Nat.reduceLT, decide_true, cond_true, ins]
              rfl)
         | (apply zi
            · simp only [z5, z0, Nat.reduceLT, decide_true, cond_true, ins]
              rfl))
      | ((first | apply zb | apply zc)
         · rfl
         · simp only [z5, z0, Nat.reduceLT, decide_true, cond_true, ins]
           rfl)
      | (apply za
         · simp only [go_sem, Nat.reduceEqDiff])
      | (apply z7
         · simp only [go_sem, Nat.reduceEqDiff])
      | (apply zh
         · kernel_rfl
         · kernel_rfl)
      | (simp only [bW, if_true, Nat.reduceEqDiff, if_false])
    all_goals try simp only [go_sem, Nat.reduceEqDiff, bP, Nat.reduceAdd, Nat.reduceLeDiff, List.length_map, Tryd.f10]
    all_goals first | done | rfl | (simp_all []; done) | trace_state
  | false =>
  refine zo (zj 10) cfn10 rfl (n := 229) rfl ?_
  generalize hF : finP cfg Tryd.f10 = F
  simp only [bW, if_true, Nat.reduceEqDiff, if_false, zk]
  have hret : ∀ (v : Bool) st, get st.tmps 10 = B v → F .ret st = some (B v) := by
    intro v st h
    subst hF
    simp only [go_sem, Nat.reduceEqDiff, bP, Nat.reduceAdd, Nat.reduceLeDiff, List.length_map, Tryd.f10, h]
  repeat' first
    | (intro hb; first | cases hb | skip)
    | ((first | apply z8 | apply ze)
       · rfl
       · simp (disch := assumption) only [go_sem, Nat.reduceEqDiff, Nat.reduceAdd, bP, zg, Nat.reduceLeDiff, Nat.reduceLT, Nat.reduceMul, List.length_append, decide_eq_true_eq, z9, z6, Int.reduceToNat, Int.reduceLE, Int.reduceLT, Int.reduceBNe, Int.reduceBEq, t14, hlw, h15, h16, h17, c1, c2, c3, c4, c5, hlf]
         rfl
       · simp only [go_sem, Nat.reduceLT, Nat.reduceEqDiff]
         rfl
       · rfl
       first
       | (apply zd
          · simp only [z5, z0, Nat.reduceLT, decide_true, cond_true, ins]
            rfl
          · simp only [z5, z0, Nat.reduceLT, decide_true, cond_true, ins]
            rfl)
       | (apply zi
          · simp only [z5, z0, Nat.reduceLT, decide_true, cond_true, ins]
            rfl))
    | ((first | apply zb | apply zc)
       · rfl
       · simp only [z5, z0, Nat.reduceLT, decide_true, cond_true, ins]
         rfl)
    | (apply za
       · simp only [go_sem, Nat.reduceEqDiff])
    | (apply z7
       · simp only [go_sem, Nat.reduceEqDiff])
    | (apply zh
       · kernel_rfl
       · kernel_rfl)
    | (simp only [bW, if_true, Nat.reduceEqDiff, if_false])
  refine w_loop (st1 := ⟨229, [(1, .sl nf (fs.map encF) sf none), (2, .sl nl (l.map encW) sz none), (3, I s), (4, I n), (5, .lref 0 0 3 0), (68, .sl nf (fs.map encF) sf none), (69, I fs.length), (70, I (0 : Nat))], [(0, ⟨[zC p], 3, false⟩)], 1, 0⟩) lk10_6 (by kernel_rfl) (L10_6 p fs nf sf l nl sz s n _ _ hnf hsf hl (fun st h => by simp only [bW, if_true, Nat.reduceEqDiff, if_false]; exact hret true st h) fs 0 rfl (Nat.zero_le _) (fun hall => ?_) (fun _ => rfl))
  by_cases hff : checkFF p fs = 0
  case neg =>
    have hb : (checkFF p fs != 0) = true := by simp [hff]
    simp only [bW, if_true, Nat.reduceEqDiff, if_false]
    repeat' first
      | (intro hb; first | cases hb | skip)
      | ((first | apply z8 | apply ze)
         · rfl
         · simp (disch := assumption) only [go_sem, Nat.reduceEqDiff, Nat.reduceAdd, bP, zg, Nat.reduceLeDiff, Nat.reduceLT, Nat.reduceMul, List.length_append, decide_eq_true_eq, z9, z6, Int.reduceToNat, Int.reduceLE, Int.reduceLT, Int.reduceBNe, Int.reduceBEq, h18, hb]
           rfl
         · simp only [go_sem, Nat.reduceLT, Nat.reduceEqDiff]
           rfl
         · rfl
         first
         | (apply zd
            · simp only [z5, z0, Nat.reduceLT, decide_true, cond_true, ins]
              rfl
            · simp only [z5, z0, Nat.reduceLT, decide_true, cond_true, ins]
              rfl)
         | (apply zi
            · simp only [z5, z0, Nat.reduceLT, decide_true, cond_true, ins]
              rfl))
      | ((first | apply zb | apply zc)
         · rfl
         · simp only [z5, z0, Nat.reduceLT, decide_true, cond_true, ins]
           rfl)
      | (apply za
         · simp only [go_sem, Nat.reduceEqDiff])
      | (apply z7
         · simp only [go_sem, Nat.reduceEqDiff])
      | (apply zh
         · kernel_rfl
         · kernel_rfl)
      | (simp only [bW, if_true, Nat.reduceEqDiff, if_false])
    exact hret true _ rfl
  rw [hff] at h18
  have hF2 := fine_of.1 hff
  rw [fine_noclash hF2 l] at h44
  simp only [decide_eq_false_iff_not] at c2 c3 c4 c5
  obtain ⟨i, rfl⟩ := Int.eq_ofNat_of_zero_le (show 0 ≤ s by omega)
  have hlen := hF2.len
  obtain ⟨f, hf⟩ : ∃ f, fs[i]? = some f := ⟨_, List.getElem?_eq_getElem (by omega)⟩
  have hx : (fs.map encF)[i]? = some (.agg [I f.xn, I f.xd, I f.yn, I f.yd]) := by rw [List.getElem?_map, hf]; rfl
  have hnf' : nf = false := by
    cases h : nf with
    | false => rfl
    | true => rw [hnf h] at hf; simp at hf
  have hs1 := hsf hnf'
  clear hsf
  subst hs1
  have hk4 := List.all_eq_true.1 hall f (List.mem_of_getElem? hf)
  simp only [okK4, okK, Bool.and_eq_true, decide_eq_true_eq] at hk4
  have fok := List.all_eq_true.1 hF2.all f (List.mem_of_getElem? hf)
  have f1 : 1 ≤ f.xn := (axF_ok fok 0).1
  have f2 : 1 ≤ f.xd := (axF_ok fok 0).2
  have f3 : 1 ≤ f.yn := (axF_ok fok 1).1
  have f4 : 1 ≤ f.yd := (axF_ok fok 1).2
  have hkn : ∀ ax, zO ax = true → knownF p ax [(i : Int)] = 0 := fun ax hax => known_zero.2 ⟨hok, fine_possible hF2, by simp only [List.all_cons, List.all_nil, Bool.and_true]; exact (sheet_of hF2 hf).2, hax⟩
  have lx := t38 p i 0 ⟨dnF n ⟨f.xn, f.xd⟩, upR n ⟨f.xn, f.xd⟩⟩ hwf
  have ly := t38 p i 1 ⟨dnF n ⟨f.yn, f.yd⟩, upR n ⟨f.yn, f.yd⟩⟩ hwf
  have la := t40 p i ⟨dnF n (areaR f), upR n (areaR f)⟩ hwf
  have ls := t42 p i ⟨n, n⟩ hwf
  have so0 : spanOK ⟨dnF n ⟨f.xn, f.xd⟩, upR n ⟨f.xn, f.xd⟩⟩ = true := seen_ok hF2 hf (ax := 0) rfl (by omega) (by omega)
  have so1 : spanOK ⟨dnF n ⟨f.yn, f.yd⟩, upR n ⟨f.yn, f.yd⟩⟩ = true := seen_ok hF2 hf (ax := 1) rfl (by omega) (by omega)
  rw [if_pos (hkn 0 rfl), if_pos so0] at lx
  rw [if_pos (hkn 1 rfl), if_pos so1] at ly
  rw [if_pos (hkn 0 rfl), if_pos (area_ok hF2 hf (by omega) (by omega))] at la
  rw [if_pos (hkn 0 rfl), if_pos (by simp [spanOK]; omega)] at ls
  obtain ⟨bx1, bx2⟩ := len_back hF2 hf (ax := 0) (n := n) rfl (by omega)
  obtain ⟨by1, by2⟩ := len_back hF2 hf (ax := 1) (n := n) rfl (by omega)
  obtain ⟨ba1, ba2⟩ := area_back hF2 hf (n := n) (by omega)
  obtain ⟨bs1, bs2⟩ := seen_back hF2 hf (n := n) (by omega)
  rw [show axF f 0 = ⟨f.xn, f.xd⟩ from rfl] at bx1 bx2
  rw [show axF f 1 = ⟨f.yn, f.yd⟩ from rfl] at by1 by2
  have m1 := Int.mul_le_mul (show n ≤ 100000 by omega) hk4.1.1 (by omega) (by omega)
  have m1' := Int.mul_nonneg (show 0 ≤ n by omega) (show 0 ≤ f.xn by omega)
  have m2 := Int.mul_le_mul (show n ≤ 100000 by omega) hk4.2.1 (by omega) (by omega)
  have m2' := Int.mul_nonneg (show 0 ≤ n by omega) (show 0 ≤ f.yn by omega)
  have m3 := Int.mul_le_mul m1 hk4.2.1 (by omega) (by omega)
  have m3' := Int.mul_nonneg m1' (show 0 ≤ f.yn by omega)
  have m4 := Int.mul_le_mul hk4.1.2 hk4.2.2 (by omega) (by omega)
  have m4' := Int.mul_le_mul f2 f4 (by omega) (by omega)
  have q1 : IntKind.i64.wrap ((n * f.xn).tdiv f.xd) = dnF n ⟨f.xn, f.xd⟩ := quo_wrap m1' (by omega) f2
  have q2 : IntKind.i64.wrap ((n * f.xn + f.xd - 1).tdiv f.xd) = upR n ⟨f.xn, f.xd⟩ := by rw [quo_wrap (by omega) (by omega) f2, ceil_eq f2]; rfl
  have q3 : IntKind.i64.wrap ((n * f.yn).tdiv f.yd) = dnF n ⟨f.yn, f.yd⟩ := quo_wrap m2' (by omega) f4
  have q4 : IntKind.i64.wrap ((n * f.yn + f.yd - 1).tdiv f.yd) = upR n ⟨f.yn, f.yd⟩ := by rw [quo_wrap (by omega) (by omega) f4, ceil_eq f4]; rfl
  have q5 : IntKind.i64.wrap ((n * f.xn * f.yn).tdiv (f.xd * f.yd)) = dnF n (areaR f) := by rw [quo_wrap m3' (by omega) (by omega)]; unfold dnF areaR; rw [Int.mul_assoc]
  have q6 : IntKind.i64.wrap ((n * f.xn * f.yn + f.xd * f.yd - 1).tdiv (f.xd * f.yd)) = upR n (areaR f) := by rw [quo_wrap (by omega) (by omega) (by omega), ceil_eq (by omega), Int.mul_assoc]; rfl
  have w1 : IntKind.i64.wrap (n * f.xn) = n * f.xn := wrap_i64 (by omega) (by omega)
  have w2 : IntKind.i64.wrap (n * f.xn + f.xd) = n * f.xn + f.xd := wrap_i64 (by omega) (by omega)
  have w3 : IntKind.i64.wrap (n * f.xn + f.xd - 1) = n * f.xn + f.xd - 1 := wrap_i64 (by omega) (by omega)
  have w4 : IntKind.i64.wrap (n * f.yn) = n * f.yn := wrap_i64 (by omega) (by omega)
  have w5 : IntKind.i64.wrap (n * f.yn + f.yd) = n * f.yn + f.yd := wrap_i64 (by omega) (by omega)
  have w6 : IntKind.i64.wrap (n * f.yn + f.yd - 1) = n * f.yn + f.yd - 1 := wrap_i64 (by omega) (by omega)
  have w7 : IntKind.i64.wrap (n * f.xn * f.yn) = n * f.xn * f.yn := wrap_i64 (by omega) (by omega)
  have w8 : IntKind.i64.wrap (f.xd * f.yd) = f.xd * f.yd := wrap_i64 (by omega) (by omega)
  have w9 : IntKind.i64.wrap (n * f.xn * f.yn + f.xd * f.yd) = n * f.xn * f.yn + f.xd * f.yd := wrap_i64 (by omega) (by omega)
  have w10 : IntKind.i64.wrap (n * f.xn * f.yn + f.xd * f.yd - 1) = n * f.xn * f.yn + f.xd * f.yd - 1 := wrap_i64 (by omega) (by omega)
  have z1 : (f.xd = 0) = False := by simp; omega
  have z2 : (f.yd = 0) = False := by simp; omega
  have z3 : (f.xd * f.yd = 0) = False := by rw [eq_iff_iff, iff_false]; omega
  generalize dnF n ⟨f.xn, f.xd⟩ = A1 at *
  generalize upR n ⟨f.xn, f.xd⟩ = A2 at *
  generalize dnF n ⟨f.yn, f.yd⟩ = A3 at *
  generalize upR n ⟨f.yn, f.yd⟩ = A4 at *
  generalize dnF n (areaR f) = A5 at *
  generalize upR n (areaR f) = A6 at *
  clear so0 so1
  simp only [Dsp] at lx ly la ls
  generalize lenF p i 0 ⟨A1, A2⟩ = S1 at *
  generalize lenF p i 1 ⟨A3, A4⟩ = S2 at *
  generalize lenF p i 1 (lenF p i 0 ⟨A5, A6⟩) = S3 at *
  generalize seeF p i 1 (seeF p i 0 ⟨n, n⟩) = S4 at *
  have t1 : decide (S1.lo > n) = false := by simp; omega
  have t2 : decide (S1.hi < n) = false := by simp; omega
  have t3 : decide (S2.lo > n) = false := by simp; omega
  have t4 : decide (S2.hi < n) = false := by simp; omega
  have t5 : decide (S3.lo ≤ n) = true := by simp; omega
  have t6 : decide (S3.hi ≥ n) = true := by simp; omega
  have t7 : decide (S4.lo ≤ A5) = true := by simp; omega
  have t8 : decide (S4.hi ≥ A6) = true := by simp; omega
  clear bx1 bx2 by1 by2 ba1 ba2 bs1 bs2 m1 m2 m3 m4 m1' m2' m3' m4' hk4 fok hkn hF2
  simp only [bW, if_true, Nat.reduceEqDiff, if_false]
  repeat' first
    | (intro hb; first | cases hb | skip)
    | ((first | apply z8 | apply ze)
       · rfl
       · simp (disch := assumption) only [go_sem, Nat.reduceEqDiff, Nat.reduceAdd, bP, zg, Nat.reduceLeDiff, Nat.reduceLT, Nat.reduceMul, List.length_append, decide_eq_true_eq, z9, z6, Int.reduceToNat, Int.reduceLE, Int.reduceLT, Int.reduceBNe, Int.reduceBEq, h18, bne_self_eq_false]
         rfl
       · simp only [go_sem, Nat.reduceLT, Nat.reduceEqDiff]
         rfl
       · rfl
       first
       | (apply zd
          · simp only [z5, z0, Nat.reduceLT, decide_true, cond_true, ins]
            rfl
          · simp only [z5, z0, Nat.reduceLT, decide_true, cond_true, ins]
            rfl)
       | (apply zi
          · simp only [z5, z0, Nat.reduceLT, decide_true, cond_true, ins]
            rfl))
    | ((first | apply zb | apply zc)
       · rfl
       · simp only [z5, z0, Nat.reduceLT, decide_true, cond_true, ins]
         rfl)
    | (apply za
       · simp only [go_sem, Nat.reduceEqDiff])
    | (apply z7
       · simp only [go_sem, Nat.reduceEqDiff])
    | (apply zh
       · kernel_rfl
       · kernel_rfl)
    | (simp only [bW, if_true, Nat.reduceEqDiff, if_false])
  apply w_loop lk10_18
  · simp only [go_sem, List.map_append, Nat.reduceEqDiff, Nat.reduceLT, Nat.reduceAdd, bI, bD, bI2, zC]
    rfl
  refine zl ?_
  try dsimp only [lp10_18, zD, zt, Tryd.f10]
  simp only [bW, if_true, Nat.reduceEqDiff, if_false]
  repeat' first
    | (intro hb; first | cases hb | skip)
    | ((first | apply z8 | apply ze)
       · rfl
       · simp (disch := assumption) only [go_sem, Nat.reduceEqDiff, Nat.reduceAdd, bP, zg, Nat.reduceLeDiff, Nat.reduceLT, Nat.reduceMul, List.length_append, decide_eq_true_eq, z9, z6, Int.reduceToNat, Int.reduceLE, Int.reduceLT, Int.reduceBNe, Int.reduceBEq, hx, hnf', q1, q2, w1, w2, w3, z1, lx, t1, t2, bne_self_eq_false, show (0 : Nat) < 2 from by decide, show IntKind.i64.wrap (0 + 1) = 1 from by decide]
         rfl
       · simp only [go_sem, Nat.reduceLT, Nat.reduceEqDiff]
         rfl
       · rfl
       first
       | (apply zd
          · simp only [z5, z0, Nat.reduceLT, decide_true, cond_true, ins]
            rfl
          · simp only [z5, z0, Nat.reduceLT, decide_true, cond_true, ins]
            rfl)
       | (apply zi
          · simp only [z5, z0, Nat.reduceLT, decide_true, cond_true, ins]
            rfl))
    | ((first | apply zb | apply zc)
       · rfl
       · simp only [z5, z0, Nat.reduceLT, decide_true, cond_true, ins]
         rfl)
    | (apply za
       · simp only [go_sem, Nat.reduceEqDiff])
    | (apply z7
       · simp only [go_sem, Nat.reduceEqDiff])
    | (apply zh
       · kernel_rfl
       · kernel_rfl)
    | (simp only [bW, if_true, Nat.reduceEqDiff, if_false])
  apply zz lk10_18
  · simp only [go_sem, List.map_append, Nat.reduceEqDiff, Nat.reduceLT, Nat.reduceAdd, bI, bD, bI2, zC]
    rfl
  refine zl ?_
  try dsimp only [lp10_18, zD, zt, Tryd.f10]
  simp only [bW, if_true, Nat.reduceEqDiff, if_false]
  repeat' first
    | (intro hb; first | cases hb | skip)
    | ((first | apply z8 | apply ze)
       · rfl
       · simp (disch := assumption) only [go_sem, Nat.reduceEqDiff, Nat.reduceAdd, bP, zg, Nat.reduceLeDiff, Nat.reduceLT, Nat.reduceMul, List.length_append, decide_eq_true_eq, z9, z6, Int.reduceToNat, Int.reduceLE, Int.reduceLT, Int.reduceBNe, Int.reduceBEq, hx, hnf', q3, q4, w4, w5, w6, z2, ly, t3, t4, bne_self_eq_false, show (1 : Nat) < 2 from by decide, show IntKind.i64.wrap (1 + 1) = 2 from by decide]
         rfl
       · simp only [go_sem, Nat.reduceLT, Nat.reduceEqDiff]
         rfl
       · rfl
       first
       | (apply zd
          · simp only [z5, z0, Nat.reduceLT, decide_true, cond_true, ins]
            rfl
          · simp only [z5, z0, Nat.reduceLT, decide_true, cond_true, ins]
            rfl)
       | (apply zi
          · simp only [z5, z0, Nat.reduceLT, decide_true, cond_true, ins]
            rfl))
    | ((first | apply zb | apply zc)
       · rfl
       · simp only [z5, z0, Nat.reduceLT, decide_true, cond_true, ins]
         rfl)
    | (apply za
       · simp only [go_sem, Nat.reduceEqDiff])
    | (apply z7
       · simp only [go_sem, Nat.reduceEqDiff])
    | (apply zh
       · kernel_rfl
       · kernel_rfl)
    | (simp only [bW, if_true, Nat.reduceEqDiff, if_false])
  apply zz lk10_18
  · simp only [go_sem, List.map_append, Nat.reduceEqDiff, Nat.reduceLT, Nat.reduceAdd, bI, bD, bI2, zC]
    rfl
  refine zl ?_
  try dsimp only [lp10_18, zD, zt, Tryd.f10]
  simp only [bW, if_true, Nat.reduceEqDiff, if_false]
  repeat' first
    | (intro hb; first | cases hb | skip)
    | ((first | apply z8 | apply ze)
       · rfl
       · simp (disch := assumption) only [go_sem, Nat.reduceEqDiff, Nat.reduceAdd, bP, zg, Nat.reduceLeDiff, Nat.reduceLT, Nat.reduceMul, List.length_append, decide_eq_true_eq, z9, z6, Int.reduceToNat, Int.reduceLE, Int.reduceLT, Int.reduceBNe, Int.reduceBEq, hx, hnf', q5, q6, w1, w7, w8, w9, w10, z3, la, ls, t5, t6, t7, t8, h44, beq_self_eq_true, bne_self_eq_false, show (0 : Nat) < 2 from by decide, show (1 : Nat) < 2 from by decide]
         rfl
       · simp only [go_sem, Nat.reduceLT, Nat.reduceEqDiff]
         rfl
       · rfl
       first
       | (apply zd
          · simp only [z5, z0, Nat.reduceLT, decide_true, cond_true, ins]
            rfl
          · simp only [z5, z0, Nat.reduceLT, decide_true, cond_true, ins]
            rfl)
       | (apply zi
          · simp only [z5, z0, Nat.reduceLT, decide_true, cond_true, ins]
            rfl))
    | ((first | apply zb | apply zc)
       · rfl
       · simp only [z5, z0, Nat.reduceLT, decide_true, cond_true, ins]
         rfl)
    | (apply za
       · simp only [go_sem, Nat.reduceEqDiff])
    | (apply z7
       · simp only [go_sem, Nat.reduceEqDiff])
    | (apply zh
       · kernel_rfl
       · kernel_rfl)
    | (simp only [bW, if_true, Nat.reduceEqDiff, if_false])
  exact hret true _ rfl

end Go.VS
