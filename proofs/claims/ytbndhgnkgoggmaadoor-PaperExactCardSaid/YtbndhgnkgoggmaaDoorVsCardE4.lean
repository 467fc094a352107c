/- Nothing of a statement is proved in this text alone: it is part 4 of the proof's own tools, an evaluator of the code over deep values, its soundness, and what it makes of this seat's functions. Conditions: none beyond the statement's own. -/
import Derived.Test.YtbndhgnkgoggmaaDoorVsCardE3
import Derived.OpenShut
import Derived.Deep.Slices
import Derived.ChangeStays
import Derived.ReadAgain
import Derived.ChangeSame
import Derived.ChangeBears2
import Derived.Test.YtbndhgnkgoggmaaDoorCards
import Derived.Test.YtbndhgnkgoggmaaDoorTie
import Derived.WalkKit
import Derived.ProofKit
import Derived.Deep.DeepHandedRow
import Derived.Lib.LaidTab
set_option linter.unusedSimpArgs false
set_option linter.unusedVariables false
/-
  Factors that a paper allows lie between the ends; the ends are allowed. (A text of this claim's own; nothing of it is trusted.)
-/
namespace Go.VS
open Go Go.VS.Walks
/-! ### rounding -/
theorem vq_int (z : Int) : vq z 1 = (z : Rat) := by have := vq_cancel (n := z) (d := 1) (by decide); simpa using this
theorem int_mul_vR (x : Int) (r : Ratio) : (x : Rat) * vR r = vq (x * r.n) r.d := by
  rw [← vq_int]; unfold vR; rw [vq_mul, Int.one_mul]
theorem dn_le {x : Int} {r : Ratio} (hd : 1 ≤ r.d) : ((dnF x r : Int) : Rat) ≤ (x : Rat) * vR r := by
  rw [int_mul_vR, ← vq_int, vq_le (by decide) (by omega), Int.mul_one]
  unfold dnF
  exact Int.ediv_mul_le _ (by omega)
theorem le_dn {x z : Int} {r : Ratio} (hd : 1 ≤ r.d) (h : (z : Rat) ≤ (x : Rat) * vR r) : z ≤ dnF x r := by
  rw [int_mul_vR, ← vq_int, vq_le (by decide) (by omega), Int.mul_one] at h
  unfold dnF
  exact (Int.le_ediv_iff_mul_le (by omega)).2 h
theorem le_up {x : Int} {r : Ratio} (hd : 1 ≤ r.d) : (x : Rat) * vR r ≤ ((upR x r : Int) : Rat) := by
  rw [int_mul_vR, ← vq_int, vq_le (by omega) (by decide), Int.mul_one]
  unfold upR
  have h1 := Int.mul_ediv_add_emod (x * r.n) r.d
  have h2 := Int.emod_lt_of_pos (x * r.n) (show 0 < r.d by omega)
  have h3 : (x * r.n / r.d + 1) * r.d = r.d * (x * r.n / r.d) + r.d := by rw [Int.add_mul, Int.mul_comm, Int.one_mul]
  have h4 : (x * r.n / r.d) * r.d = r.d * (x * r.n / r.d) := Int.mul_comm _ _
  split <;> omega
theorem up_le {x z : Int} {r : Ratio} (hd : 1 ≤ r.d) (h : (x : Rat) * vR r ≤ (z : Rat)) : upR x r ≤ z := by
  rw [int_mul_vR, ← vq_int, vq_le (by omega) (by decide), Int.mul_one] at h
  unfold upR
  have h1 := Int.mul_ediv_add_emod (x * r.n) r.d
  have h2 := Int.emod_nonneg (x * r.n) (show r.d ≠ 0 by omega)
  split
  · rename_i h0
    have : r.d * (x * r.n / r.d) ≤ r.d * z := by rw [Int.mul_comm r.d z]; omega
    exact Int.le_of_mul_le_mul_left this (by omega)
  · rename_i h0
    have : r.d * (x * r.n / r.d) < r.d * z := by rw [Int.mul_comm r.d z]; omega
    have := Int.lt_of_mul_lt_mul_left this (by omega)
    omega
theorem int_le {a b : Int} : (a : Rat) ≤ (b : Rat) ↔ a ≤ b := by
  rw [← vq_int, ← vq_int, vq_le (by decide) (by decide)]; omega
theorem vR_inv {r : Ratio} (h1 : 1 ≤ r.n) (h2 : 1 ≤ r.d) : vR r * vR (invR r) = 1 := by
  unfold vR invR
  rw [vq_mul, Int.mul_comm, ← vq_one]
  have hp := Int.mul_le_mul h2 h1 (by omega) (by omega)
  have h3 : vq (r.d * r.n) (r.d * r.n) ≤ vq 1 1 := by rw [vq_le (by omega) (by decide)]; omega
  have h4 : vq 1 1 ≤ vq (r.d * r.n) (r.d * r.n) := by rw [vq_le (by decide) (by omega)]; omega
  exact Rat.le_antisymm h3 h4
/-! ### factors along walks -/
theorem axF_ok {f : F4} (h : f4OK f = true) (ax : Int) : 1 ≤ (axF f ax).n ∧ 1 ≤ (axF f ax).d := by
  simp only [f4OK, ratioOK, Bool.and_eq_true, decide_eq_true_eq] at h
  unfold axF
  split <;> simp only [] <;> omega
theorem fac_pos {fs : List F4} (h : fs.all f4OK = true) (ax node : Int) : 1 ≤ (zB fs ax node).n ∧ 1 ≤ (zB fs ax node).d := by
  have := factor_ok (ax := ax) (node := node) h
  simp only [ratioOK, Bool.and_eq_true, decide_eq_true_eq] at this
  omega
theorem fine_iff2 {fs : List F4} {ax : Int} {e : Edge} (h : fs.all f4OK = true) (hb : edgeB e) : edgeFine fs ax e = true ↔ vR (zB fs ax e.src) ≤ vR e.q * vR (zB fs ax e.dst) := by
  obtain ⟨a1, a2⟩ := fac_pos h ax e.src
  obtain ⟨b1, b2⟩ := fac_pos h ax e.dst
  obtain ⟨-, -, -, -, q1, q2, q3, q4⟩ := hb
  have hp := Int.mul_le_mul q3 b2 (by omega) (by omega)
  unfold edgeFine
  rw [decide_eq_true_eq]
  unfold vR
  rw [vq_mul, vq_le (by omega) (by omega), Int.mul_assoc, ← Int.mul_assoc]
structure Fine (p : Paper) (fs : List F4) : Prop where
  ok : zr p = true
  len : (fs.length : Int) = p.sheets
  all : fs.all f4OK = true
  f0 : factorsFine p fs 0 = true
  f1 : factorsFine p fs 1 = true
theorem fine_of {p : Paper} {fs : List F4} : checkFF p fs = 0 ↔ Fine p fs := by
  unfold checkFF
  constructor
  · intro h
    split at h
    · rename_i hok
      split at h
      · rename_i h2
        split at h
        · rename_i h3
          rw [Bool.and_eq_true] at h3
          exact ⟨hok, h2.1, h2.2, h3.1, h3.2⟩
        · cases h
      · cases h
    · cases h
  · rintro ⟨a, b, c, d, e⟩
    rw [if_pos a, if_pos ⟨b, c⟩, d, e]; rfl
theorem fac_rpos {p : Paper} {fs : List F4} (hF : Fine p fs) {ax : Int} (_ : zR ax = true) (node : Int) : 0 < vR (zB fs ax node) := by
  obtain ⟨a, b⟩ := fac_pos hF.all ax node
  exact vq_pos (by omega) (by omega)
theorem fac_at {p : Paper} {fs : List F4} (_ : Fine p fs) {ax : Int} (_ : zR ax = true) {i : Nat} {f : F4} (hf : fs[i]? = some f) : zB fs ax ((1 + i : Nat) : Int) = axF f ax := by
  unfold zB
  rw [if_neg (by omega), show (((1 + i : Nat) : Int) - 1).toNat = i by omega, hf]
theorem fac_zero {p : Paper} {fs : List F4} (_ : Fine p fs) {ax : Int} (_ : zR ax = true) : zB fs ax ((0 : Nat) : Int) = one1 := by unfold zB; exact if_pos (by simp)
section
variable {p : Paper} {fs : List F4} (hF : Fine p fs) {ax : Int} (hax : zR ax = true)
include hF hax
theorem fine_edge {e : Edge} (he : e ∈ zx p ax) : vR (zB fs ax e.src) ≤ vR e.q * vR (zB fs ax e.dst) := by
  have h : factorsFine p fs ax = true := by
    simp [zR] at hax
    rcases hax with rfl | rfl
    · exact hF.f0
    · exact hF.f1
  exact (fine_iff2 hF.all (edge_nodes hF.ok he).1).1 (List.all_eq_true.1 h e he)
theorem fine_walk : ∀ {w : List Edge} {a b : Nat}, Wk (zx p ax) a w b → vR (zB fs ax a) ≤ prE w * vR (zB fs ax b)
  | [], a, b, hw => by
    have : a = b := hw.1
    rw [this, show prE [] = 1 from rfl, Rat.one_mul]; exact Rat.le_refl
  | e :: w, a, b, hw => by
    have hin := hw.2 e (by simp)
    obtain ⟨hb, h1, h2⟩ := edge_in hF.ok hin
    have hs : e.src.toNat = a := hw.1.2.1
    have ih := fine_walk (w := w) (a := e.dst.toNat) (b := b) ⟨hw.1.2.2, fun e' h' => hw.2 e' (List.mem_cons_of_mem _ h')⟩
    have h3 := fine_edge hF hax hin
    rw [show ((e.dst.toNat : Nat) : Int) = e.dst by omega] at ih
    rw [show (a : Int) = e.src by omega]
    refine Rat.le_trans h3 ?_
    show vR e.q * vR (zB fs ax e.dst) ≤ vR e.q * prE w * vR (zB fs ax b)
    rw [Rat.mul_assoc]
    exact Rat.mul_le_mul_of_nonneg_left ih (Rat.le_of_lt (edge_pos hb))
theorem fine_closed {w : List Edge} {a : Nat} (hw : Wk (zx p ax) a w a) : 1 ≤ prE w := by
  have h := fine_walk hF hax hw
  have hp := fac_rpos hF hax a
  refine Rat.le_of_mul_le_mul_right (c := vR (zB fs ax a)) ?_ hp
  rw [Rat.one_mul]; exact h
theorem fine_none : clashA p ax = none := by
  obtain ⟨o1, o2, -⟩ := zD hF.ok
  refine clash_of fun k h1 h2 c hc => ?_
  obtain ⟨n, n1, n2, w, w1, w2, w3, w4, w5⟩ := (chains_spec (fun e he => (edge_nodes hF.ok he).1) (show k < 5 by omega) 5).2.1 k c hc
  have hp := fine_closed hF hax w2
  cases hlt : ltR c.q one1 with
  | false => rfl
  | true =>
    rw [ltR_iff w5.2.1 (by decide), one_vR, w3] at hlt
    exact absurd hlt (Rat.not_lt.2 hp)
theorem fine_between {i : Nat} {f : F4} (hf : fs[i]? = some f) : vR (axF f ax) ≤ vR (hiF p i ax) ∧ vR (loF p i ax) ≤ vR (axF f ax) := by
  have hi : (i : Int) < p.sheets := by
    have := (List.getElem?_eq_some_iff.1 hf).1
    have := hF.len
    omega
  have hc := fine_none hF hax
  obtain ⟨_, w, w1, _, w3⟩ := dist_real hF.ok ax (show ((1 + i : Nat) : Int) < 1 + p.sheets by omega) (show ((0 : Nat) : Int) < 1 + p.sheets by omega)
  obtain ⟨r2, v, v1, _, v3⟩ := dist_real hF.ok ax (show ((0 : Nat) : Int) < 1 + p.sheets by omega) (show ((1 + i : Nat) : Int) < 1 + p.sheets by omega)
  have h1 := fine_walk hF hax w1
  have h2 := fine_walk hF hax v1
  rw [fac_at hF hax hf, fac_zero hF hax, one_vR] at h1 h2
  rw [hi_dist, lo_dist2]
  rw [← w3, Rat.mul_one] at h1
  rw [← v3] at h2
  refine ⟨h1, ?_⟩
  have hinv := vR_inv r2.1 r2.2.1
  have hp := red_pos r2
  refine Rat.le_of_mul_le_mul_left (c := vR (distF p ax 0 (1 + i))) ?_ hp
  rw [show (⟨(distF p ax 0 (1 + i)).d, (distF p ax 0 (1 + i)).n⟩ : Ratio) = invR (distF p ax 0 (1 + i)) from rfl, hinv]
  exact h2
end
theorem fine_possible {p : Paper} {fs : List F4} (hF : Fine p fs) : possibleF p = true := by
  unfold possibleF
  rw [fine_none hF (show zR 0 = true from rfl), fine_none hF (show zR 1 = true from rfl)]; rfl
/-! ### what a list that is followed comes to -/
theorem go_real {p : Paper} (hok : zr p = true) {ax : Int} : ∀ (l : List Reason) (b : Bool) (q : Ratio) (s a : Int) (t : Int × Int × Ratio), goG (zx p ax) lowM l b q s a = some t → redR q → (b = true → l ≠ []) → 0 ≤ a →
    ∃ w : List Edge, w.length = l.length ∧ (b = false → t.1 = s ∧ Wk (zx p ax) a.toNat w t.2.1.toNat) ∧ (b = true → Wk (zx p ax) t.1.toNat w t.2.1.toNat) ∧ redR t.2.2 ∧ vR t.2.2 = vR q * prE w
  | [], b, q, s, a, t, h, hq, hb, ha => by
    cases h
    refine ⟨[], rfl, fun _ => ⟨rfl, wk_nil _ _⟩, fun h => absurd rfl (hb h), hq, by rw [show prE [] = 1 from rfl, Rat.mul_one]⟩
  | r :: rs, b, q, s, a, t, h, hq, hb, ha => by
    simp only [goG] at h
    cases hf : findW (zx p ax) r with
    | none => rw [hf] at h; cases h
    | some e =>
      rw [hf] at h
      simp only at h
      obtain ⟨he, -⟩ := findW_iff.1 hf
      obtain ⟨hbd, k1, k2⟩ := edge_in hok he
      obtain ⟨x1, x2⟩ := lowM_spec hq hbd
      split at h
      · cases h
      · rename_i hn
        obtain ⟨w, w1, w2, -, w4, w5⟩ := go_real hok rs false (lowM q e) (if b then e.src else s) e.dst t h x1 (by simp) k2.1
        obtain ⟨w2, w3⟩ := w2 rfl
        have hcons := wk_append (wk_one he) w3
        refine ⟨e :: w, by simp [w1], fun hbf => ?_, fun hbt => ?_, w4, ?_⟩
        · rw [hbf] at w2 hn
          have hsa : e.src = a := Classical.byContradiction fun h => hn ⟨rfl, h⟩
          rw [← hsa]
          exact ⟨w2, hcons⟩
        · rw [hbt] at w2
          simp only [if_true] at w2
          rw [w2]; exact hcons
        · rw [w5, x2, Rat.mul_assoc]; rfl
theorem follow_real {p : Paper} (hok : zr p = true) {ax : Int} {l : List Reason} {s a : Int} {q : Ratio} (h : followO p ax l = some (s, a, q)) : ∃ w, 1 ≤ w.length ∧ Wk (zx p ax) s.toNat w a.toNat ∧ vR q = prE w := by
  unfold followO at h
  split at h
  · rename_i hl
    obtain ⟨w, w1, _, w3, w4, w5⟩ := go_real hok l true one1 0 0 _ h red_one (fun _ h => by rw [h] at hl; simp at hl) (by omega)
    refine ⟨w, by omega, w3 rfl, ?_⟩
    simp only [] at w5
    rw [w5, one_vR, Rat.one_mul]
  · cases h
end Go.VS
namespace Go.VS
open Go Go.Proofs
set_option maxHeartbeats 0
set_option linter.unusedSimpArgs false

noncomputable def lp112_2 : Code := zM [1, 0, 1, 0, 0] (zy Tryd.f112)
theorem lk112_2 : cfg.keep 112 (zA lp112_2) = [0, 1, 7, 8] := by kernel_rfl

noncomputable def lp93_6 : Code := zM [1, 1, 1, 1, 0, 1, 0, 0] (zy Tryd.f93)
theorem lk93_6 : cfg.keep 93 (zA lp93_6) = [3, 9, 10, 11, 12, 29, 30, 31] := by kernel_rfl

theorem t113 (e : Edge) (r : Reason) : (lim cfg).pure 113 [.agg [I e.src, I e.dst, I e.q.n, I e.q.d, B e.why.join, I e.why.at_, B e.why.back], .ptr (.agg [B r.join, I r.at_, B r.back])] = some (B (eqW e.why r)) := by
  refine zu (zn 113) cfn113 rfl (n := 8) rfl ?_
  simp only [bW, if_true, Nat.reduceEqDiff, if_false, zp]
  repeat' first
    | (intro hb; first | cases hb | skip)
    | ((first | apply z9 | apply zh)
       · rfl
       · simp (disch := assumption) only [go_sem, Nat.reduceEqDiff, Nat.reduceAdd, bP, zj, Nat.reduceLeDiff, Nat.reduceLT, Nat.reduceMul, List.length_append, decide_eq_true_eq, zc, z7, Int.reduceToNat, Int.reduceLE, Int.reduceLT, Int.reduceBNe, Int.reduceBEq, eqBoolV]
         rfl
       · simp only [go_sem, Nat.reduceLT, Nat.reduceEqDiff]
         rfl
       · rfl
       first
       | (apply zg
          · simp only [z6, z5, Nat.reduceLT, decide_true, cond_true, ins]
            rfl
          · simp only [z6, z5, Nat.reduceLT, decide_true, cond_true, ins]
            rfl)
       | (apply zl
          · simp only [z6, z5, Nat.reduceLT, decide_true, cond_true, ins]
            rfl))
    | ((first | apply ze | apply zf)
       · rfl
       · simp only [z6, z5, Nat.reduceLT, decide_true, cond_true, ins]
         rfl)
    | (apply zd
       · simp only [go_sem, Nat.reduceEqDiff])
    | (apply z8
       · simp only [go_sem, Nat.reduceEqDiff])
    | (apply zk
       · kernel_rfl
       · kernel_rfl)
    | (simp only [bW, if_true, Nat.reduceEqDiff, if_false])
  all_goals simp only [go_sem, Nat.reduceEqDiff, bP, Nat.reduceAdd, Nat.reduceLeDiff, List.length_map, Tryd.f113]
  all_goals (simp_all [eqW]; done)

def idxW (es : List Edge) (r : Reason) : Nat → List Edge → Int
  | _, [] => -1
  | i, e :: rest => if eqW e.why r then (i : Int) else idxW es r (i + 1) rest
theorem idxW_spec {es : List Edge} {r : Reason} : ∀ {rest : List Edge} {i : Nat}, es.drop i = rest → (rest.find? (fun e => eqW e.why r) = none → idxW es r i rest = -1) ∧ (∀ e, rest.find? (fun e => eqW e.why r) = some e → ∃ k : Nat, idxW es r i rest = k ∧ es[k]? = some e)
  | [], i, _ => ⟨fun _ => rfl, fun e h => by simp at h⟩
  | e :: rest, i, hd => by
    have hm : es[i]? = some e := by rw [← List.head?_drop, hd]; rfl
    obtain ⟨i1, i2⟩ := idxW_spec (es := es) (r := r) (rest := rest) (i := i + 1) (by rw [← List.drop_drop, hd]; rfl)
    simp only [idxW, List.find?_cons]
    cases h : eqW e.why r with
    | true =>
      refine ⟨fun h' => by simp at h', fun e' h' => ?_⟩
      simp at h'
      subst h'
      exact ⟨i, by simp, hm⟩
    | false =>
      simp only [Bool.false_eq_true, if_false]
      exact ⟨i1, fun e' h' => i2 e' h'⟩

theorem L112_2 {F : Exit → St → Option D} (es : List Edge) (r : Reason) (k : List Kt) (x : D) (hl : es.length ≤ 1000) (hk : ∀ (v : Int) st, get st.tmps 4 = I v → zH cfg (lim cfg) 112 F k .ret st = some (I v)) : ∀ (rest : List Edge) (i : Nat), es.drop i = rest → i ≤ es.length →
    (idxW es r i rest = -1 → zH cfg (lim cfg) 112 F k (.exit 0) ⟨19, [(9, B false), (0, .sl false (es.map zP) 7 none), (1, .fn (.func 113) [] [.ptr (.agg [B r.join, I r.at_, B r.back])]), (7, I es.length), (8, I (es.length : Nat))], [], 0, 0⟩ = some x) →
    (idxW es r i rest ≠ -1 → x = I (idxW es r i rest)) →
    EvL cfg (lim cfg) 112 F lp112_2 k ⟨19, [(0, .sl false (es.map zP) 7 none), (1, .fn (.func 113) [] [.ptr (.agg [B r.join, I r.at_, B r.back])]), (7, I es.length), (8, I (i : Nat))], [], 0, 0⟩ = some x := by
  intro rest
  induction rest with
  | nil =>
    intro i hd hi h h'
    have hi' : i = es.length := by
      have := List.drop_eq_nil_iff.1 hd
      omega
    subst hi'
    refine zq ?_
    try dsimp only [lp112_2, zM, zy, Tryd.f112]
    simp only [bW, if_true, Nat.reduceEqDiff, if_false]
    repeat' first
      | (intro hb; first | cases hb | skip)
      | ((first | apply z9 | apply zh)
         · rfl
         · simp (disch := assumption) only [go_sem, Nat.reduceEqDiff, Nat.reduceAdd, bP, zj, Nat.reduceLeDiff, Nat.reduceLT, Nat.reduceMul, List.length_append, decide_eq_true_eq, zc, z7, Int.reduceToNat, Int.reduceLE, Int.reduceLT, Int.reduceBNe, Int.reduceBEq, Int.lt_irrefl]
           rfl
         · simp only [go_sem, Nat.reduceLT, Nat.reduceEqDiff]
           rfl
         · rfl
         first
         | (apply zg
            · simp only [z6, z5, Nat.reduceLT, decide_true, cond_true, ins]
              rfl
            · simp only [z6, z5, Nat.reduceLT, decide_true, cond_true, ins]
              rfl)
         | (apply zl
            · simp only [z6, z5, Nat.reduceLT, decide_true, cond_true, ins]
              rfl))
      | ((first | apply ze | apply zf)
         · rfl
         · simp only [z6, z5, Nat.reduceLT, decide_true, cond_true, ins]
           rfl)
      | (apply zd
         · simp only [go_sem, Nat.reduceEqDiff])
      | (apply z8
         · simp only [go_sem, Nat.reduceEqDiff])
      | (apply zk
         · kernel_rfl
         · kernel_rfl)
      | (simp only [bW, if_true, Nat.reduceEqDiff, if_false])
    exact h rfl
  | cons e rest ih =>
    intro i hd hi h h'
    have hlt : i < es.length := by
      rcases Nat.lt_or_ge i es.length with h | h
      · exact h
      · rw [List.drop_eq_nil_of_le h] at hd; cases hd
    have hm : es[i]? = some e := by rw [← List.head?_drop, hd]; rfl
    have hx : (es.map zP)[i]? = some (.agg [I e.src, I e.dst, I e.q.n, I e.q.d, B e.why.join, I e.why.at_, B e.why.back]) := by rw [List.getElem?_map, hm]; rfl
    have hlt' : (i : Int) < (es.length : Int) := by omega
    have hw3 : IntKind.i64.wrap ((i : Int) + 1) = ((i + 1 : Nat) : Int) := by rw [wrap_i64 (by omega) (by omega)]; omega
    have h113 := t113 e r
    simp only [idxW] at h h'
    cases he : eqW e.why r with
    | true =>
      rw [he] at h113
      simp only [he, if_true] at h h'
      rw [h' (by omega)]
      clear h h'
      refine zq ?_
      try dsimp only [lp112_2, zM, zy, Tryd.f112]
      simp only [bW, if_true, Nat.reduceEqDiff, if_false]
      repeat' first
        | (intro hb; first | cases hb | skip)
        | ((first | apply z9 | apply zh)
           · rfl
           · simp (disch := assumption) only [go_sem, Nat.reduceEqDiff, Nat.reduceAdd, bP, zj, Nat.reduceLeDiff, Nat.reduceLT, Nat.reduceMul, List.length_append, decide_eq_true_eq, zc, z7, Int.reduceToNat, Int.reduceLE, Int.reduceLT, Int.reduceBNe, Int.reduceBEq, hx, hlt', hw3, h113]
             rfl
           · simp only [go_sem, Nat.reduceLT, Nat.reduceEqDiff]
             rfl
           · rfl
           first
           | (apply zg
              · simp only [z6, z5, Nat.reduceLT, decide_true, cond_true, ins]
                rfl
              · simp only [z6, z5, Nat.reduceLT, decide_true, cond_true, ins]
                rfl)
           | (apply zl
              · simp only [z6, z5, Nat.reduceLT, decide_true, cond_true, ins]
                rfl))
        | ((first | apply ze | apply zf)
           · rfl
           · simp only [z6, z5, Nat.reduceLT, decide_true, cond_true, ins]
             rfl)
        | (apply zd
           · simp only [go_sem, Nat.reduceEqDiff])
        | (apply z8
           · simp only [go_sem, Nat.reduceEqDiff])
        | (apply zk
           · kernel_rfl
           · kernel_rfl)
        | (simp only [bW, if_true, Nat.reduceEqDiff, if_false])
      exact hk _ _ rfl
    | false =>
      rw [he] at h113
      simp only [he, Bool.false_eq_true, if_false] at h h'
      refine zq ?_
      try dsimp only [lp112_2, zM, zy, Tryd.f112]
      simp only [bW, if_true, Nat.reduceEqDiff, if_false]
      repeat' first
        | (intro hb; first | cases hb | skip)
        | ((first | apply z9 | apply zh)
           · rfl
           · simp (disch := assumption) only [go_sem, Nat.reduceEqDiff, Nat.reduceAdd, bP, zj, Nat.reduceLeDiff, Nat.reduceLT, Nat.reduceMul, List.length_append, decide_eq_true_eq, zc, z7, Int.reduceToNat, Int.reduceLE, Int.reduceLT, Int.reduceBNe, Int.reduceBEq, hx, hlt', hw3, h113]
             rfl
           · simp only [go_sem, Nat.reduceLT, Nat.reduceEqDiff]
             rfl
           · rfl
           first
           | (apply zg
              · simp only [z6, z5, Nat.reduceLT, decide_true, cond_true, ins]
                rfl
              · simp only [z6, z5, Nat.reduceLT, decide_true, cond_true, ins]
                rfl)
           | (apply zl
              · simp only [z6, z5, Nat.reduceLT, decide_true, cond_true, ins]
                rfl))
        | ((first | apply ze | apply zf)
           · rfl
           · simp only [z6, z5, Nat.reduceLT, decide_true, cond_true, ins]
             rfl)
        | (apply zd
           · simp only [go_sem, Nat.reduceEqDiff])
        | (apply z8
           · simp only [go_sem, Nat.reduceEqDiff])
        | (apply zk
           · kernel_rfl
           · kernel_rfl)
        | (simp only [bW, if_true, Nat.reduceEqDiff, if_false])
      exact zG (st1 := ⟨19, [(0, .sl false (es.map zP) 7 none), (1, .fn (.func 113) [] [.ptr (.agg [B r.join, I r.at_, B r.back])]), (7, I es.length), (8, I (i + 1 : Nat))], [], 0, 0⟩) lk112_2 (by kernel_rfl) (ih (i + 1) (by rw [← List.drop_drop, hd]; rfl) hlt h h')
theorem t112 (es : List Edge) (r : Reason) (hl : es.length ≤ 1000) : (lim cfg).pure 112 [.sl false (es.map zP) 7 none, .fn (.func 113) [] [.ptr (.agg [B r.join, I r.at_, B r.back])]] = some (I (idxW es r 0 es)) := by
  refine zu (zn 112) cfn112 rfl (n := 19) rfl ?_
  generalize hF : finP cfg Tryd.f112 = F
  simp only [bW, if_true, Nat.reduceEqDiff, if_false, zp]
  have hret : ∀ (v : Int) st, get st.tmps 4 = I v → F .ret st = some (I v) := by
    intro v st h
    subst hF
    simp only [go_sem, Nat.reduceEqDiff, bP, Nat.reduceAdd, Nat.reduceLeDiff, List.length_map, Tryd.f112, h]
  repeat' first
    | (intro hb; first | cases hb | skip)
    | ((first | apply z9 | apply zh)
       · rfl
       · simp (disch := assumption) only [go_sem, Nat.reduceEqDiff, Nat.reduceAdd, bP, zj, Nat.reduceLeDiff, Nat.reduceLT, Nat.reduceMul, List.length_append, decide_eq_true_eq, zc, z7, Int.reduceToNat, Int.reduceLE, Int.reduceLT, Int.reduceBNe, Int.reduceBEq, List.length_map]
         rfl
       · simp only [go_sem, Nat.reduceLT, Nat.reduceEqDiff]
         rfl
       · rfl
       first
       | (apply zg
          · simp only [z6, z5, Nat.reduceLT, decide_true, cond_true, ins]
            rfl
          · simp only [z6, z5, Nat.reduceLT, decide_true, cond_true, ins]
            rfl)
       | (apply zl
          · simp only [z6, z5, Nat.reduceLT, decide_true, cond_true, ins]
            rfl))
    | ((first | apply ze | apply zf)
       · rfl
       · simp only [z6, z5, Nat.reduceLT, decide_true, cond_true, ins]
         rfl)
    | (apply zd
       · simp only [go_sem, Nat.reduceEqDiff])
    | (apply z8
       · simp only [go_sem, Nat.reduceEqDiff])
    | (apply zk
       · kernel_rfl
       · kernel_rfl)
    | (simp only [bW, if_true, Nat.reduceEqDiff, if_false])
  refine w_loop (st1 := ⟨19, [(0, .sl false (es.map zP) 7 none), (1, .fn (.func 113) [] [.ptr (.agg [B r.join, I r.at_, B r.back])]), (7, I es.length), (8, I (0 : Nat))], [], 0, 0⟩) lk112_2 (by kernel_rfl) (L112_2 es r _ _ hl (fun v st h => by simp only [bW, if_true, Nat.reduceEqDiff, if_false]; exact hret v st h) es 0 rfl (Nat.zero_le _) (fun h => ?_) (fun h => rfl))
  rw [h]
  simp only [bW, if_true, Nat.reduceEqDiff, if_false]
  repeat' first
    | (intro hb; first | cases hb | skip)
    | ((first | apply z9 | apply zh)
       · rfl
       · simp (disch := assumption) only [go_sem, Nat.reduceEqDiff, Nat.reduceAdd, bP, zj, Nat.reduceLeDiff, Nat.reduceLT, Nat.reduceMul, List.length_append, decide_eq_true_eq, zc, z7, Int.reduceToNat, Int.reduceLE, Int.reduceLT, Int.reduceBNe, Int.reduceBEq]
         rfl
       · simp only [go_sem, Nat.reduceLT, Nat.reduceEqDiff]
         rfl
       · rfl
       first
       | (apply zg
          · simp only [z6, z5, Nat.reduceLT, decide_true, cond_true, ins]
            rfl
          · simp only [z6, z5, Nat.reduceLT, decide_true, cond_true, ins]
            rfl)
       | (apply zl
          · simp only [z6, z5, Nat.reduceLT, decide_true, cond_true, ins]
            rfl))
    | ((first | apply ze | apply zf)
       · rfl
       · simp only [z6, z5, Nat.reduceLT, decide_true, cond_true, ins]
         rfl)
    | (apply zd
       · simp only [go_sem, Nat.reduceEqDiff])
    | (apply z8
       · simp only [go_sem, Nat.reduceEqDiff])
    | (apply zk
       · kernel_rfl
       · kernel_rfl)
    | (simp only [bW, if_true, Nat.reduceEqDiff, if_false])
  subst hF
  all_goals simp only [go_sem, Nat.reduceEqDiff, bP, Nat.reduceAdd, Nat.reduceLeDiff, List.length_map, Tryd.f112]
theorem t92 (s a : Int) (q : Ratio) (h1 : 1 ≤ q.n) (h2 : q.n ≤ 32000000000000000) (h3 : 1 ≤ q.d) (h4 : q.d ≤ 32000000000000000) : (lim cfg).pure 92 [I s, I a, .agg [I q.n, I q.d]] = some (B ((s == a) && ltR q one1)) := by
  have h75 := t75 q.n q.d 1 1 ⟨by omega, by omega⟩ ⟨by omega, by omega⟩ ⟨by omega, by omega⟩ ⟨by omega, by omega⟩
  have hl := cmp_lt q one1
  unfold cmpR at hl
  simp only [one1] at hl
  cases hs : (s == a) with
  | false =>
    refine zu (zn 92) cfn92 rfl (n := 16) rfl ?_
    simp only [bW, if_true, Nat.reduceEqDiff, if_false, zp]
    repeat' first
      | (intro hb; first | cases hb | skip)
      | ((first | apply z9 | apply zh)
         · rfl
         · simp (disch := assumption) only [go_sem, Nat.reduceEqDiff, Nat.reduceAdd, bP, zj, Nat.reduceLeDiff, Nat.reduceLT, Nat.reduceMul, List.length_append, decide_eq_true_eq, zc, z7, Int.reduceToNat, Int.reduceLE, Int.reduceLT, Int.reduceBNe, Int.reduceBEq, cfg_glob0, h75, hs, hl, one1]
           rfl
         · simp only [go_sem, Nat.reduceLT, Nat.reduceEqDiff]
           rfl
         · rfl
         first
         | (apply zg
            · simp only [z6, z5, Nat.reduceLT, decide_true, cond_true, ins]
              rfl
            · simp only [z6, z5, Nat.reduceLT, decide_true, cond_true, ins]
              rfl)
         | (apply zl
            · simp only [z6, z5, Nat.reduceLT, decide_true, cond_true, ins]
              rfl))
      | ((first | apply ze | apply zf)
         · rfl
         · simp only [z6, z5, Nat.reduceLT, decide_true, cond_true, ins]
           rfl)
      | (apply zd
         · simp only [go_sem, Nat.reduceEqDiff])
      | (apply z8
         · simp only [go_sem, Nat.reduceEqDiff])
      | (apply zk
         · kernel_rfl
         · kernel_rfl)
      | (simp only [bW, if_true, Nat.reduceEqDiff, if_false])
    all_goals try simp only [go_sem, Nat.reduceEqDiff, bP, Nat.reduceAdd, Nat.reduceLeDiff, List.length_map, Tryd.f92, one1]
    all_goals first | done | rfl | (simp_all []; done) | trace_state
  | true =>
    refine zu (zn 92) cfn92 rfl (n := 16) rfl ?_
    simp only [bW, if_true, Nat.reduceEqDiff, if_false, zp]
    repeat' first
      | (intro hb; first | cases hb | skip)
      | ((first | apply z9 | apply zh)
         · rfl
         · simp (disch := assumption) only [go_sem, Nat.reduceEqDiff, Nat.reduceAdd, bP, zj, Nat.reduceLeDiff, Nat.reduceLT, Nat.reduceMul, List.length_append, decide_eq_true_eq, zc, z7, Int.reduceToNat, Int.reduceLE, Int.reduceLT, Int.reduceBNe, Int.reduceBEq, cfg_glob0, h75, hs, hl, one1]
           rfl
         · simp only [go_sem, Nat.reduceLT, Nat.reduceEqDiff]
           rfl
         · rfl
         first
         | (apply zg
            · simp only [z6, z5, Nat.reduceLT, decide_true, cond_true, ins]
              rfl
            · simp only [z6, z5, Nat.reduceLT, decide_true, cond_true, ins]
              rfl)
         | (apply zl
            · simp only [z6, z5, Nat.reduceLT, decide_true, cond_true, ins]
              rfl))
      | ((first | apply ze | apply zf)
         · rfl
         · simp only [z6, z5, Nat.reduceLT, decide_true, cond_true, ins]
           rfl)
      | (apply zd
         · simp only [go_sem, Nat.reduceEqDiff])
      | (apply z8
         · simp only [go_sem, Nat.reduceEqDiff])
      | (apply zk
         · kernel_rfl
         · kernel_rfl)
      | (simp only [bW, if_true, Nat.reduceEqDiff, if_false])
    all_goals try simp only [go_sem, Nat.reduceEqDiff, bP, Nat.reduceAdd, Nat.reduceLeDiff, List.length_map, Tryd.f92, one1]
    all_goals first | done | rfl | (simp_all []; done) | trace_state

/-- Is a ratio at most another one? -/
def leR (a b : Ratio) : Bool := decide (a.n * b.d ≤ b.n * a.d)
theorem cmp_le (a b : Ratio) : decide (cmpI (a.n * b.d) (b.n * a.d) ≤ 0) = leR a b := by
  unfold cmpI leR
  rw [decide_eq_decide]
  split
  · simp; omega
  · split <;> simp <;> omega
def proves (g : Bool) (sh : Int) (bd : Ratio) (s a : Int) (q : Ratio) : Bool := if g then (s == 1 + sh) && ((a == 0) && leR q bd) else (s == 0) && ((a == 1 + sh) && leR q ⟨bd.d, bd.n⟩)
theorem t96 (g : Bool) (sh : Int) (bd : Ratio) (s a : Int) (q : Ratio) (h1 : 1 ≤ q.n) (h2 : q.n ≤ 32000000000000000) (h3 : 1 ≤ q.d) (h4 : q.d ≤ 32000000000000000) (hb : ratioOK bd = true) (hs1 : 0 ≤ sh) (hs2 : sh ≤ 4) : (lim cfg).pure 96 [I s, I a, .agg [I q.n, I q.d], .ptr (B g), .ptr (I sh), .ptr (.agg [I bd.n, I bd.d])] = some (B (proves g sh bd s a q)) := by
  obtain ⟨r1, r2⟩ := ratio_p63 hb
  have h75 := t75 q.n q.d bd.n bd.d ⟨by omega, by omega⟩ ⟨by omega, by omega⟩ r1 r2
  have h75' := t75 q.n q.d bd.d bd.n ⟨by omega, by omega⟩ ⟨by omega, by omega⟩ r2 r1
  have hl := cmp_le q bd
  have hl' := cmp_le q ⟨bd.d, bd.n⟩
  simp only [] at hl'
  have hw : IntKind.i64.wrap (1 + sh) = 1 + sh := wrap_i64 (by omega) (by omega)
  unfold proves
  cases g with
  | true =>
    simp only [if_true]
    cases e1 : (s == 1 + sh) <;> cases e2 : (a == 0)
    all_goals
      refine zu (zn 96) cfn96 rfl (n := 40) rfl ?_
      simp only [bW, if_true, Nat.reduceEqDiff, if_false, zp]
      repeat' first
        | (intro hb; first | cases hb | skip)
        | ((first | apply z9 | apply zh)
           · rfl
           · simp (disch := assumption) only [go_sem, Nat.reduceEqDiff, Nat.reduceAdd, bP, zj, Nat.reduceLeDiff, Nat.reduceLT, Nat.reduceMul, List.length_append, decide_eq_true_eq, zc, z7, Int.reduceToNat, Int.reduceLE, Int.reduceLT, Int.reduceBNe, Int.reduceBEq, h75, hl, hw, e1, e2]
             rfl
           · simp only [go_sem, Nat.reduceLT, Nat.reduceEqDiff]
             rfl
           · rfl
           first
           | (apply zg
              · simp only [z6, z5, Nat.reduceLT, decide_true, cond_true, ins]
                rfl
              · simp only [z6, z5, Nat.reduceLT, decide_true, cond_true, ins]
                rfl)
           | (apply zl
              · simp only [z6, z5, Nat.reduceLT, decide_true, cond_true, ins]
                rfl))
        | ((first | apply ze | apply zf)
           · rfl
           · simp only [z6, z5, Nat.reduceLT, decide_true, cond_true, ins]
             rfl)
        | (apply zd
           · simp only [go_sem, Nat.reduceEqDiff])
        | (apply z8
           · simp only [go_sem, Nat.reduceEqDiff])
        | (apply zk
           · kernel_rfl
           · kernel_rfl)
        | (simp only [bW, if_true, Nat.reduceEqDiff, if_false])
      all_goals try simp only [go_sem, Nat.reduceEqDiff, bP, Nat.reduceAdd, Nat.reduceLeDiff, List.length_map, Tryd.f96]
      all_goals first | done | rfl | (simp_all []; done) | trace_state
  | false =>
    simp only [Bool.false_eq_true, if_false]
    cases e1 : (s == 0) <;> cases e2 : (a == 1 + sh)
    all_goals
      refine zu (zn 96) cfn96 rfl (n := 40) rfl ?_
      simp only [bW, if_true, Nat.reduceEqDiff, if_false, zp]
      repeat' first
        | (intro hb; first | cases hb | skip)
        | ((first | apply z9 | apply zh)
           · rfl
           · simp (disch := assumption) only [go_sem, Nat.reduceEqDiff, Nat.reduceAdd, bP, zj, Nat.reduceLeDiff, Nat.reduceLT, Nat.reduceMul, List.length_append, decide_eq_true_eq, zc, z7, Int.reduceToNat, Int.reduceLE, Int.reduceLT, Int.reduceBNe, Int.reduceBEq, h75', hl', hw, t97, e1, e2]
             rfl
           · simp only [go_sem, Nat.reduceLT, Nat.reduceEqDiff]
             rfl
           · rfl
           first
           | (apply zg
              · simp only [z6, z5, Nat.reduceLT, decide_true, cond_true, ins]
                rfl
              · simp only [z6, z5, Nat.reduceLT, decide_true, cond_true, ins]
                rfl)
           | (apply zl
              · simp only [z6, z5, Nat.reduceLT, decide_true, cond_true, ins]
                rfl))
        | ((first | apply ze | apply zf)
           · rfl
           · simp only [z6, z5, Nat.reduceLT, decide_true, cond_true, ins]
             rfl)
        | (apply zd
           · simp only [go_sem, Nat.reduceEqDiff])
        | (apply z8
           · simp only [go_sem, Nat.reduceEqDiff])
        | (apply zk
           · kernel_rfl
           · kernel_rfl)
        | (simp only [bW, if_true, Nat.reduceEqDiff, if_false])
      all_goals try simp only [go_sem, Nat.reduceEqDiff, bP, Nat.reduceAdd, Nat.reduceLeDiff, List.length_map, Tryd.f96]
      all_goals first | done | rfl | (simp_all []; done) | trace_state

theorem L93_6_92 {F : Exit → St → Option D}  (es : List Edge) (l : List Reason) (nl : Bool) (sz : Nat) (k : List Kt) (x : D) (hes : ∀ e ∈ es, edgeB e) (hlen : es.length ≤ 1000) (hnl : nl = true → l = []) (hsz : nl = false → sz = 3) (hl5 : l.length ≤ 5) (hk : ∀ st, get st.tmps 8 = B false → zH cfg (lim cfg) 93 F k .ret st = some (B false)) : ∀ (rest : List Reason) (i : Nat) (c : Chn) (s a : Int), l.drop i = rest → i ≤ l.length → qB (2000 ^ i) i c →
    (∀ (c' : Chn) (s' a' : Int), goG es lowM rest (decide (i = 0)) c.q s a = some (s', a', c'.q) → zH cfg (lim cfg) 93 F k (.exit 0) ⟨79, [(32, B false), (3, .fn (.func 92) [] []), (9, .sl false (es.map zP) 7 none), (10, .lref 0 0 3 0), (11, I (s')), (12, I (a')), (29, .sl nl (l.map encW) sz none), (30, I l.length), (31, I (l.length : Nat))], [(0, ⟨[.agg [I (c').q.n, I (c').q.d, whyD (c').why]], 3, false⟩)], 1, 0⟩ = some x) →
    (goG es lowM rest (decide (i = 0)) c.q s a = none → x = B false) →
    EvL cfg (lim cfg) 93 F lp93_6 k ⟨79, [(3, .fn (.func 92) [] []), (9, .sl false (es.map zP) 7 none), (10, .lref 0 0 3 0), (11, I (s)), (12, I (a)), (29, .sl nl (l.map encW) sz none), (30, I l.length), (31, I (i : Nat))], [(0, ⟨[.agg [I (c).q.n, I (c).q.d, whyD (c).why]], 3, false⟩)], 1, 0⟩ = some x := by
  intro rest
  induction rest with
  | nil =>
    intro i c s a hd hi hq h h0
    have hi' : i = l.length := by
      have := List.drop_eq_nil_iff.1 hd
      omega
    subst hi'
    have h := h c s a rfl
    clear h0
    refine zq ?_
    try dsimp only [lp93_6, zM, zy, Tryd.f93]
    simp only [bW, if_true, Nat.reduceEqDiff, if_false]
    repeat' first
      | (intro hb; first | cases hb | skip)
      | ((first | apply z9 | apply zh)
         · rfl
         · simp (disch := assumption) only [go_sem, Nat.reduceEqDiff, Nat.reduceAdd, bP, zj, Nat.reduceLeDiff, Nat.reduceLT, Nat.reduceMul, List.length_append, decide_eq_true_eq, zc, z7, Int.reduceToNat, Int.reduceLE, Int.reduceLT, Int.reduceBNe, Int.reduceBEq, Int.lt_irrefl]
           rfl
         · simp only [go_sem, Nat.reduceLT, Nat.reduceEqDiff]
           rfl
         · rfl
         first
         | (apply zg
            · simp only [z6, z5, Nat.reduceLT, decide_true, cond_true, ins]
              rfl
            · simp only [z6, z5, Nat.reduceLT, decide_true, cond_true, ins]
              rfl)
         | (apply zl
            · simp only [z6, z5, Nat.reduceLT, decide_true, cond_true, ins]
              rfl))
      | ((first | apply ze | apply zf)
         · rfl
         · simp only [z6, z5, Nat.reduceLT, decide_true, cond_true, ins]
           rfl)
      | (apply zd
         · simp only [go_sem, Nat.reduceEqDiff])
      | (apply z8
         · simp only [go_sem, Nat.reduceEqDiff])
      | (apply zk
         · kernel_rfl
         · kernel_rfl)
      | (simp only [bW, if_true, Nat.reduceEqDiff, if_false])
    exact h
  | cons r rest ih =>
    intro i c s a hd hi hq h h0
    have hlt : i < l.length := by
      rcases Nat.lt_or_ge i l.length with h | h
      · exact h
      · rw [List.drop_eq_nil_of_le h] at hd; cases hd
    have hm : l[i]? = some r := by rw [← List.head?_drop, hd]; rfl
    have hx : (l.map encW)[i]? = some (.agg [B r.join, I r.at_, B r.back]) := by rw [List.getElem?_map, hm]; rfl
    have hnl' : nl = false := by
      cases h : nl with
      | false => rfl
      | true => rw [hnl h] at hlt; cases hlt
    have hs1 := hsz hnl'
    clear hsz
    subst hs1
    subst hnl'
    have hlt' : (i : Int) < (l.length : Int) := by omega
    have hw3 : IntKind.i64.wrap ((i : Int) + 1) = ((i + 1 : Nat) : Int) := by rw [wrap_i64 (by omega) (by omega)]; omega
    have h112 := t112 es r hlen
    obtain ⟨j1, j2⟩ := idxW_spec (es := es) (r := r) (rest := es) (i := 0) rfl
    simp only [goG] at h h0
    cases hf : findW es r with
    | none =>
      rw [j1 hf] at h112
      rw [hf] at h0
      rw [h0 rfl]
      clear h h0 ih
      refine zq ?_
      try dsimp only [lp93_6, zM, zy, Tryd.f93]
      simp only [bW, if_true, Nat.reduceEqDiff, if_false]
      repeat' first
        | (intro hb; first | cases hb | skip)
        | ((first | apply z9 | apply zh)
           · rfl
           · simp (disch := assumption) only [go_sem, Nat.reduceEqDiff, Nat.reduceAdd, bP, zj, Nat.reduceLeDiff, Nat.reduceLT, Nat.reduceMul, List.length_append, decide_eq_true_eq, zc, z7, Int.reduceToNat, Int.reduceLE, Int.reduceLT, Int.reduceBNe, Int.reduceBEq, hx, hlt', hw3, h112, whyD_one, pd_why, zJ, ids_fn]
             rfl
           · simp only [go_sem, Nat.reduceLT, Nat.reduceEqDiff]
             rfl
           · rfl
           first
           | (apply zg
              · simp only [z6, z5, Nat.reduceLT, decide_true, cond_true, ins]
                rfl
              · simp only [z6, z5, Nat.reduceLT, decide_true, cond_true, ins]
                rfl)
           | (apply zl
              · simp only [z6, z5, Nat.reduceLT, decide_true, cond_true, ins]
                rfl))
        | ((first | apply ze | apply zf)
           · rfl
           · simp only [z6, z5, Nat.reduceLT, decide_true, cond_true, ins]
             rfl)
        | (apply zd
           · simp only [go_sem, Nat.reduceEqDiff])
        | (apply z8
           · simp only [go_sem, Nat.reduceEqDiff])
        | (apply zk
           · kernel_rfl
           · kernel_rfl)
        | (simp only [bW, if_true, Nat.reduceEqDiff, if_false])
      exact hk _ rfl
    | some e =>
      obtain ⟨n, j3, j4⟩ := j2 e hf
      rw [j3] at h112
      rw [hf] at h h0
      simp only [] at h h0
      have hxe : (es.map zP)[n]? = some (.agg [I e.src, I e.dst, I e.q.n, I e.q.d, B e.why.join, I e.why.at_, B e.why.back]) := by rw [List.getElem?_map, j4]; rfl
      have heb := hes e (List.mem_of_getElem? j4)
      have hp1 : (1 : Int) ≤ 2000 ^ i := Int.pow_pos (by omega)
      have hp2 : (2000 : Int) ^ i * 2000 ≤ 32000000000000000 := by
        have : i = 0 ∨ i = 1 ∨ i = 2 ∨ i = 3 ∨ i = 4 := by omega
        rcases this with h | h | h | h | h <;> rw [h] <;> decide
      have h107 := t107' hq heb (by omega) hp1 (by omega)
      have hq' := with_qB hq heb hp1
      rw [← Int.pow_succ] at hq'
      have hn0 : decide ((n : Int) < 0) = false := by simp
      have hz1 : decide (i + 1 = 0) = false := by simp
      rw [← hz1] at h h0
      by_cases hi0 : i = 0
      · have hd0 : decide (i = 0) = true := by simp [hi0]
        have c1 : decide ((i : Int) > 0) = false := by simp; omega
        have c2 : ((i : Int) == 0) = true := by simp [hi0]
        rw [if_neg (by rw [hz1, hd0]; simp), if_pos hd0] at h h0
        have h : ∀ (c' : Chn) (s' a' : Int), goG es lowM rest (decide (i + 1 = 0)) (withC c e).q e.src e.dst = some (s', a', c'.q) → _ := h
        have h0 : goG es lowM rest (decide (i + 1 = 0)) (withC c e).q e.src e.dst = none → _ := h0
        refine zq ?_
        try dsimp only [lp93_6, zM, zy, Tryd.f93]
        simp only [bW, if_true, Nat.reduceEqDiff, if_false]
        repeat' first
          | (intro hb; first | cases hb | skip)
          | ((first | apply z9 | apply zh)
             · rfl
             · simp (disch := assumption) only [go_sem, Nat.reduceEqDiff, Nat.reduceAdd, bP, zj, Nat.reduceLeDiff, Nat.reduceLT, Nat.reduceMul, List.length_append, decide_eq_true_eq, zc, z7, Int.reduceToNat, Int.reduceLE, Int.reduceLT, Int.reduceBNe, Int.reduceBEq, hx, hlt', hw3, h112, whyD_one, pd_why, zJ, ids_fn, hxe, h107, hn0, c1, c2]
               rfl
             · simp only [go_sem, Nat.reduceLT, Nat.reduceEqDiff]
               rfl
             · rfl
             first
             | (apply zg
                · simp only [z6, z5, Nat.reduceLT, decide_true, cond_true, ins]
                  rfl
                · simp only [z6, z5, Nat.reduceLT, decide_true, cond_true, ins]
                  rfl)
             | (apply zl
                · simp only [z6, z5, Nat.reduceLT, decide_true, cond_true, ins]
                  rfl))
          | ((first | apply ze | apply zf)
             · rfl
             · simp only [z6, z5, Nat.reduceLT, decide_true, cond_true, ins]
               rfl)
          | (apply zd
             · simp only [go_sem, Nat.reduceEqDiff])
          | (apply z8
             · simp only [go_sem, Nat.reduceEqDiff])
          | (apply zk
             · kernel_rfl
             · kernel_rfl)
          | (simp only [bW, if_true, Nat.reduceEqDiff, if_false])
        refine zG (st1 := ⟨79, [(3, .fn (.func 92) [] []), (9, .sl false (es.map zP) 7 none), (10, .lref 0 0 3 0), (11, I (e.src)), (12, I (e.dst)), (29, .sl false (l.map encW) 3 none), (30, I l.length), (31, I (i + 1 : Nat))], [(0, ⟨[.agg [I (withC c e).q.n, I (withC c e).q.d, whyD (withC c e).why]], 3, false⟩)], 1, 0⟩) lk93_6 (by
          simp only [go_sem, List.map_append, Nat.reduceEqDiff, Nat.reduceLT, Nat.reduceAdd, bI, bD, bI2, deep_net, deepI_net, ids_net, ren_net, deep_why, deepI_why, ids_why, ren_why, take_enc, drop_enc, catI_append, idsL_append, sn_lref, sn_agg, sn_val, zJ, List.append_assoc]
          try rfl) (ih (i + 1) (withC c e) (e.src) (e.dst) (by rw [← List.drop_drop, hd]; rfl) hlt hq' h h0)
      · have hd0 : decide (i = 0) = false := by simp [hi0]
        have c1 : decide ((i : Int) > 0) = true := by simp; omega
        have c2 : ((i : Int) == 0) = false := by simp [hi0]
        by_cases ha : e.src = a
        · have c3 : (e.src != a) = false := by simp [ha]
          rw [if_neg (fun h => h.2 ha), if_neg (by rw [hd0]; simp)] at h h0
          have h : ∀ (c' : Chn) (s' a' : Int), goG es lowM rest (decide (i + 1 = 0)) (withC c e).q s e.dst = some (s', a', c'.q) → _ := h
          have h0 : goG es lowM rest (decide (i + 1 = 0)) (withC c e).q s e.dst = none → _ := h0
          refine zq ?_
          try dsimp only [lp93_6, zM, zy, Tryd.f93]
          simp only [bW, if_true, Nat.reduceEqDiff, if_false]
          repeat' first
            | (intro hb; first | cases hb | skip)
            | ((first | apply z9 | apply zh)
               · rfl
               · simp (disch := assumption) only [go_sem, Nat.reduceEqDiff, Nat.reduceAdd, bP, zj, Nat.reduceLeDiff, Nat.reduceLT, Nat.reduceMul, List.length_append, decide_eq_true_eq, zc, z7, Int.reduceToNat, Int.reduceLE, Int.reduceLT, Int.reduceBNe, Int.reduceBEq, hx, hlt', hw3, h112, whyD_one, pd_why, zJ, ids_fn, hxe, h107, hn0, c1, c2, c3]
                 rfl
               · simp only [go_sem, Nat.reduceLT, Nat.reduceEqDiff]
                 rfl
               · rfl
               first
               | (apply zg
                  · simp only [z6, z5, Nat.reduceLT, decide_true, cond_true, ins]
                    rfl
                  · simp only [z6, z5, Nat.reduceLT, decide_true, cond_true, ins]
                    rfl)
               | (apply zl
                  · simp only [z6, z5, Nat.reduceLT, decide_true, cond_true, ins]
                    rfl))
            | ((first | apply ze | apply zf)
               · rfl
               · simp only [z6, z5, Nat.reduceLT, decide_true, cond_true, ins]
                 rfl)
            | (apply zd
               · simp only [go_sem, Nat.reduceEqDiff])
            | (apply z8
               · simp only [go_sem, Nat.reduceEqDiff])
            | (apply zk
               · kernel_rfl
               · kernel_rfl)
            | (simp only [bW, if_true, Nat.reduceEqDiff, if_false])
          refine zG (st1 := ⟨79, [(3, .fn (.func 92) [] []), (9, .sl false (es.map zP) 7 none), (10, .lref 0 0 3 0), (11, I (s)), (12, I (e.dst)), (29, .sl false (l.map encW) 3 none), (30, I l.length), (31, I (i + 1 : Nat))], [(0, ⟨[.agg [I (withC c e).q.n, I (withC c e).q.d, whyD (withC c e).why]], 3, false⟩)], 1, 0⟩) lk93_6 (by
            simp only [go_sem, List.map_append, Nat.reduceEqDiff, Nat.reduceLT, Nat.reduceAdd, bI, bD, bI2, deep_net, deepI_net, ids_net, ren_net, deep_why, deepI_why, ids_why, ren_why, take_enc, drop_enc, catI_append, idsL_append, sn_lref, sn_agg, sn_val, zJ, List.append_assoc]
            try rfl) (ih (i + 1) (withC c e) (s) (e.dst) (by rw [← List.drop_drop, hd]; rfl) hlt hq' h h0)
        · have c3 : (e.src != a) = true := by simp [ha]
          rw [if_pos ⟨by rw [hz1, hd0], ha⟩] at h0
          rw [h0 rfl]
          clear h h0 ih
          refine zq ?_
          try dsimp only [lp93_6, zM, zy, Tryd.f93]
          simp only [bW, if_true, Nat.reduceEqDiff, if_false]
          repeat' first
            | (intro hb; first | cases hb | skip)
            | ((first | apply z9 | apply zh)
               · rfl
               · simp (disch := assumption) only [go_sem, Nat.reduceEqDiff, Nat.reduceAdd, bP, zj, Nat.reduceLeDiff, Nat.reduceLT, Nat.reduceMul, List.length_append, decide_eq_true_eq, zc, z7, Int.reduceToNat, Int.reduceLE, Int.reduceLT, Int.reduceBNe, Int.reduceBEq, hx, hlt', hw3, h112, whyD_one, pd_why, zJ, ids_fn, hxe, h107, hn0, c1, c2, c3]
                 rfl
               · simp only [go_sem, Nat.reduceLT, Nat.reduceEqDiff]
                 rfl
               · rfl
               first
               | (apply zg
                  · simp only [z6, z5, Nat.reduceLT, decide_true, cond_true, ins]
                    rfl
                  · simp only [z6, z5, Nat.reduceLT, decide_true, cond_true, ins]
                    rfl)
               | (apply zl
                  · simp only [z6, z5, Nat.reduceLT, decide_true, cond_true, ins]
                    rfl))
            | ((first | apply ze | apply zf)
               · rfl
               · simp only [z6, z5, Nat.reduceLT, decide_true, cond_true, ins]
                 rfl)
            | (apply zd
               · simp only [go_sem, Nat.reduceEqDiff])
            | (apply z8
               · simp only [go_sem, Nat.reduceEqDiff])
            | (apply zk
               · kernel_rfl
               · kernel_rfl)
            | (simp only [bW, if_true, Nat.reduceEqDiff, if_false])
          exact hk _ rfl
def ans92  (o : Option (Int × Int × Ratio)) : Bool := match o with | none => false | some (s, a, q) => (s == a) && ltR q one1
theorem t93_92  (p : Paper) (ax : Int) (l : List Reason) (nl : Bool) (sz : Nat) (hwf : p.wf) (hok : zr p = true) (hnl : nl = true → l = []) (hsz : nl = false → sz = 3) (hll : l.length ≤ 9223372036854775807) : (lim cfg).pure 93 [zN p, I ax, .sl nl (l.map encW) sz none, .fn (.func 92) [] []] = some (B (ans92 (followO p ax l))) := by
  have h68 := t68 p ax hwf hok
  obtain ⟨hes, hlen⟩ := edgesB hok ax
  have hlw := len_if (f := encW) hnl
  by_cases hl : 1 ≤ l.length ∧ l.length ≤ 5
  · have c1 : decide ((l.length : Int) < 1) = false := by simp; omega
    have c2 : decide ((l.length : Int) > 5) = false := by simp; omega
    have hfo : followO p ax l = goG (zx p ax) lowM l true one1 0 0 := by unfold followO; rw [if_pos hl]
    have hinv := fun s a q => follow_inv (s := s) (a := a) (q := q) hok (ax := ax) (l := l)
    rw [hfo] at hinv ⊢
    generalize zx p ax = es at *
    refine zu (zn 93) cfn93 rfl (n := 79) rfl ?_
    generalize hF : finP cfg Tryd.f93 = F
    simp only [bW, if_true, Nat.reduceEqDiff, if_false, zp]
    have hret : ∀ (v : Bool) st, get st.tmps 8 = B v → F .ret st = some (B v) := by
      intro v st h
      subst hF
      simp only [go_sem, Nat.reduceEqDiff, bP, Nat.reduceAdd, Nat.reduceLeDiff, List.length_map, Tryd.f93, h]
    repeat' first
      | (intro hb; first | cases hb | skip)
      | ((first | apply z9 | apply zh)
         · rfl
         · simp (disch := assumption) only [go_sem, Nat.reduceEqDiff, Nat.reduceAdd, bP, zj, Nat.reduceLeDiff, Nat.reduceLT, Nat.reduceMul, List.length_append, decide_eq_true_eq, zc, z7, Int.reduceToNat, Int.reduceLE, Int.reduceLT, Int.reduceBNe, Int.reduceBEq, hlw, c1, c2, h68, cfg_glob0]
           rfl
         · simp only [go_sem, Nat.reduceLT, Nat.reduceEqDiff]
           rfl
         · rfl
         first
         | (apply zg
            · simp only [z6, z5, Nat.reduceLT, decide_true, cond_true, ins]
              rfl
            · simp only [z6, z5, Nat.reduceLT, decide_true, cond_true, ins]
              rfl)
         | (apply zl
            · simp only [z6, z5, Nat.reduceLT, decide_true, cond_true, ins]
              rfl))
      | ((first | apply ze | apply zf)
         · rfl
         · simp only [z6, z5, Nat.reduceLT, decide_true, cond_true, ins]
           rfl)
      | (apply zd
         · simp only [go_sem, Nat.reduceEqDiff])
      | (apply z8
         · simp only [go_sem, Nat.reduceEqDiff])
      | (apply zk
         · kernel_rfl
         · kernel_rfl)
      | (simp only [bW, if_true, Nat.reduceEqDiff, if_false])
    refine w_loop (st1 := ⟨79, [(3, .fn (.func 92) [] []), (9, .sl false (es.map zP) 7 none), (10, .lref 0 0 3 0), (11, I (0)), (12, I (0)), (29, .sl nl (l.map encW) sz none), (30, I l.length), (31, I (0 : Nat))], [(0, ⟨[.agg [I ((⟨one1, []⟩ : Chn)).q.n, I ((⟨one1, []⟩ : Chn)).q.d, whyD ((⟨one1, []⟩ : Chn)).why]], 3, false⟩)], 1, 0⟩) lk93_6 (by
      simp only [go_sem, List.map_append, Nat.reduceEqDiff, Nat.reduceLT, Nat.reduceAdd, bI, bD, bI2]
      try rfl) (L93_6_92 es l nl sz _ _ hes hlen hnl hsz hl.2 (fun st h => by simp only [bW, if_true, Nat.reduceEqDiff, if_false]; exact hret false st h) l 0 ⟨one1, []⟩ 0 0 rfl (Nat.zero_le _) ⟨by decide, by decide, by decide, by decide, Nat.le_refl _⟩ (fun c s a h => ?_) (fun h => by
        have h : goG es lowM l true one1 0 0 = none := h
        rw [h]; rfl))
    have h : goG es lowM l true one1 0 0 = some (s, a, c.q) := h
    rw [h]
    obtain ⟨r1, r2, r3, r4, r5⟩ := hinv _ _ _ h
    have hask := t92 s a c.q r1.1 r4 r1.2.1 r5
    simp only [bW, if_true, Nat.reduceEqDiff, if_false]
    repeat' first
      | (intro hb; first | cases hb | skip)
      | ((first | apply z9 | apply zh)
         · rfl
         · simp (disch := assumption) only [go_sem, Nat.reduceEqDiff, Nat.reduceAdd, bP, zj, Nat.reduceLeDiff, Nat.reduceLT, Nat.reduceMul, List.length_append, decide_eq_true_eq, zc, z7, Int.reduceToNat, Int.reduceLE, Int.reduceLT, Int.reduceBNe, Int.reduceBEq, hask, whyD_one, pd_why]
           rfl
         · simp only [go_sem, Nat.reduceLT, Nat.reduceEqDiff]
           rfl
         · rfl
         first
         | (apply zg
            · simp only [z6, z5, Nat.reduceLT, decide_true, cond_true, ins]
              rfl
            · simp only [z6, z5, Nat.reduceLT, decide_true, cond_true, ins]
              rfl)
         | (apply zl
            · simp only [z6, z5, Nat.reduceLT, decide_true, cond_true, ins]
              rfl))
      | ((first | apply ze | apply zf)
         · rfl
         · simp only [z6, z5, Nat.reduceLT, decide_true, cond_true, ins]
           rfl)
      | (apply zd
         · simp only [go_sem, Nat.reduceEqDiff])
      | (apply z8
         · simp only [go_sem, Nat.reduceEqDiff])
      | (apply zk
         · kernel_rfl
         · kernel_rfl)
      | (simp only [bW, if_true, Nat.reduceEqDiff, if_false])
    all_goals (subst hF; simp only [go_sem, Nat.reduceEqDiff, bP, Nat.reduceAdd, Nat.reduceLeDiff, List.length_map, Tryd.f93, ans92])
    all_goals first | done | simp_all
  · have hfo : followO p ax l = none := by unfold followO; rw [if_neg hl]
    rw [hfo]
    by_cases h1 : l.length < 1
    · have c1 : decide ((l.length : Int) < 1) = true := by simp; omega
      refine zu (zn 93) cfn93 rfl (n := 79) rfl ?_
      simp only [bW, if_true, Nat.reduceEqDiff, if_false, zp]
      repeat' first
        | (intro hb; first | cases hb | skip)
        | ((first | apply z9 | apply zh)
           · rfl
           · simp (disch := assumption) only [go_sem, Nat.reduceEqDiff, Nat.reduceAdd, bP, zj, Nat.reduceLeDiff, Nat.reduceLT, Nat.reduceMul, List.length_append, decide_eq_true_eq, zc, z7, Int.reduceToNat, Int.reduceLE, Int.reduceLT, Int.reduceBNe, Int.reduceBEq, hlw, c1]
             rfl
           · simp only [go_sem, Nat.reduceLT, Nat.reduceEqDiff]
             rfl
           · rfl
           first
           | (apply zg
              · simp only [z6, z5, Nat.reduceLT, decide_true, cond_true, ins]
                rfl
              · simp only [z6, z5, Nat.reduceLT, decide_true, cond_true, ins]
                rfl)
           | (apply zl
              · simp only [z6, z5, Nat.reduceLT, decide_true, cond_true, ins]
                rfl))
        | ((first | apply ze | apply zf)
           · rfl
           · simp only [z6, z5, Nat.reduceLT, decide_true, cond_true, ins]
             rfl)
        | (apply zd
           · simp only [go_sem, Nat.reduceEqDiff])
        | (apply z8
           · simp only [go_sem, Nat.reduceEqDiff])
        | (apply zk
           · kernel_rfl
           · kernel_rfl)
        | (simp only [bW, if_true, Nat.reduceEqDiff, if_false])
      all_goals try simp only [go_sem, Nat.reduceEqDiff, bP, Nat.reduceAdd, Nat.reduceLeDiff, List.length_map, Tryd.f93, ans92]
      all_goals first | done | rfl | (simp_all []; done) | trace_state
    · have c1 : decide ((l.length : Int) < 1) = false := by simp; omega
      have c2 : decide ((l.length : Int) > 5) = true := by simp; omega
      refine zu (zn 93) cfn93 rfl (n := 79) rfl ?_
      simp only [bW, if_true, Nat.reduceEqDiff, if_false, zp]
      repeat' first
        | (intro hb; first | cases hb | skip)
        | ((first | apply z9 | apply zh)
           · rfl
           · simp (disch := assumption) only [go_sem, Nat.reduceEqDiff, Nat.reduceAdd, bP, zj, Nat.reduceLeDiff, Nat.reduceLT, Nat.reduceMul, List.length_append, decide_eq_true_eq, zc, z7, Int.reduceToNat, Int.reduceLE, Int.reduceLT, Int.reduceBNe, Int.reduceBEq, hlw, c1, c2]
             rfl
           · simp only [go_sem, Nat.reduceLT, Nat.reduceEqDiff]
             rfl
           · rfl
           first
           | (apply zg
              · simp only [z6, z5, Nat.reduceLT, decide_true, cond_true, ins]
                rfl
              · simp only [z6, z5, Nat.reduceLT, decide_true, cond_true, ins]
                rfl)
           | (apply zl
              · simp only [z6, z5, Nat.reduceLT, decide_true, cond_true, ins]
                rfl))
        | ((first | apply ze | apply zf)
           · rfl
           · simp only [z6, z5, Nat.reduceLT, decide_true, cond_true, ins]
             rfl)
        | (apply zd
           · simp only [go_sem, Nat.reduceEqDiff])
        | (apply z8
           · simp only [go_sem, Nat.reduceEqDiff])
        | (apply zk
           · kernel_rfl
           · kernel_rfl)
        | (simp only [bW, if_true, Nat.reduceEqDiff, if_false])
      all_goals try simp only [go_sem, Nat.reduceEqDiff, bP, Nat.reduceAdd, Nat.reduceLeDiff, List.length_map, Tryd.f93, ans92]
      all_goals first | done | rfl | (simp_all []; done) | trace_state

theorem L93_6_96 {F : Exit → St → Option D} (g : Bool) (sh : Int) (bd : Ratio) (es : List Edge) (l : List Reason) (nl : Bool) (sz : Nat) (k : List Kt) (x : D) (hes : ∀ e ∈ es, edgeB e) (hlen : es.length ≤ 1000) (hnl : nl = true → l = []) (hsz : nl = false → sz = 3) (hl5 : l.length ≤ 5) (hk : ∀ st, get st.tmps 8 = B false → zH cfg (lim cfg) 93 F k .ret st = some (B false)) : ∀ (rest : List Reason) (i : Nat) (c : Chn) (s a : Int), l.drop i = rest → i ≤ l.length → qB (2000 ^ i) i c →
    (∀ (c' : Chn) (s' a' : Int), goG es lowM rest (decide (i = 0)) c.q s a = some (s', a', c'.q) → zH cfg (lim cfg) 93 F k (.exit 0) ⟨79, [(32, B false), (3, .fn (.func 96) [] [.ptr (B g), .ptr (I sh), .ptr (.agg [I bd.n, I bd.d])]), (9, .sl false (es.map zP) 7 none), (10, .lref 0 0 3 0), (11, I (s')), (12, I (a')), (29, .sl nl (l.map encW) sz none), (30, I l.length), (31, I (l.length : Nat))], [(0, ⟨[.agg [I (c').q.n, I (c').q.d, whyD (c').why]], 3, false⟩)], 1, 0⟩ = some x) →
    (goG es lowM rest (decide (i = 0)) c.q s a = none → x = B false) →
    EvL cfg (lim cfg) 93 F lp93_6 k ⟨79, [(3, .fn (.func 96) [] [.ptr (B g), .ptr (I sh), .ptr (.agg [I bd.n, I bd.d])]), (9, .sl false (es.map zP) 7 none), (10, .lref 0 0 3 0), (11, I (s)), (12, I (a)), (29, .sl nl (l.map encW) sz none), (30, I l.length), (31, I (i : Nat))], [(0, ⟨[.agg [I (c).q.n, I (c).q.d, whyD (c).why]], 3, false⟩)], 1, 0⟩ = some x := by
  intro rest
  induction rest with
  | nil =>
    intro i c s a hd hi hq h h0
    have hi' : i = l.length := by
      have := List.drop_eq_nil_iff.1 hd
      omega
    subst hi'
    have h := h c s a rfl
    clear h0
    refine zq ?_
    try dsimp only [lp93_6, zM, zy, Tryd.f93]
    simp only [bW, if_true, Nat.reduceEqDiff, if_false]
    repeat' first
      | (intro hb; first | cases hb | skip)
      | ((first | apply z9 | apply zh)
         · rfl
         · simp (disch := assumption) only [go_sem, Nat.reduceEqDiff, Nat.reduceAdd, bP, zj, Nat.reduceLeDiff, Nat.reduceLT, Nat.reduceMul, List.length_append, decide_eq_true_eq, zc, z7, Int.reduceToNat, Int.reduceLE, Int.reduceLT, Int.reduceBNe, Int.reduceBEq, Int.lt_irrefl]
           rfl
         · simp only [go_sem, Nat.reduceLT, Nat.reduceEqDiff]
           rfl
         · rfl
         first
         | (apply zg
            · simp only [z6, z5, Nat.reduceLT, decide_true, cond_true, ins]
              rfl
            · simp only [z6, z5, Nat.reduceLT, decide_true, cond_true, ins]
              rfl)
         | (apply zl
            · simp only [z6, z5, Nat.reduceLT, decide_true, cond_true, ins]
              rfl))
      | ((first | apply ze | apply zf)
         · rfl
         · simp only [z6, z5, Nat.reduceLT, decide_true, cond_true, ins]
           rfl)
      | (apply zd
         · simp only [go_sem, Nat.reduceEqDiff])
      | (apply z8
         · simp only [go_sem, Nat.reduceEqDiff])
      | (apply zk
         · kernel_rfl
         · kernel_rfl)
      | (simp only [bW, if_true, Nat.reduceEqDiff, if_false])
    exact h
  | cons r rest ih =>
    intro i c s a hd hi hq h h0
    have hlt : i < l.length := by
      rcases Nat.lt_or_ge i l.length with h | h
      · exact h
      · rw [List.drop_eq_nil_of_le h] at hd; cases hd
    have hm : l[i]? = some r := by rw [← List.head?_drop, hd]; rfl
    have hx : (l.map encW)[i]? = some (.agg [B r.join, I r.at_, B r.back]) := by rw [List.getElem?_map, hm]; rfl
    have hnl' : nl = false := by
      cases h : nl with
      | false => rfl
      | true => rw [hnl h] at hlt; cases hlt
    have hs1 := hsz hnl'
    clear hsz
    subst hs1
    subst hnl'
    have hlt' : (i : Int) < (l.length : Int) := by omega
    have hw3 : IntKind.i64.wrap ((i : Int) + 1) = ((i + 1 : Nat) : Int) := by rw [wrap_i64 (by omega) (by omega)]; omega
    have h112 := t112 es r hlen
    obtain ⟨j1, j2⟩ := idxW_spec (es := es) (r := r) (rest := es) (i := 0) rfl
    simp only [goG] at h h0
    cases hf : findW es r with
    | none =>
      rw [j1 hf] at h112
      rw [hf] at h0
      rw [h0 rfl]
      clear h h0 ih
      refine zq ?_
      try dsimp only [lp93_6, zM, zy, Tryd.f93]
      simp only [bW, if_true, Nat.reduceEqDiff, if_false]
      repeat' first
        | (intro hb; first | cases hb | skip)
        | ((first | apply z9 | apply zh)
           · rfl
           · simp (disch := assumption) only [go_sem, Nat.reduceEqDiff, Nat.reduceAdd, bP, zj, Nat.reduceLeDiff, Nat.reduceLT, Nat.reduceMul, List.length_append, decide_eq_true_eq, zc, z7, Int.reduceToNat, Int.reduceLE, Int.reduceLT, Int.reduceBNe, Int.reduceBEq, hx, hlt', hw3, h112, whyD_one, pd_why, zJ, ids_fn]
             rfl
           · simp only [go_sem, Nat.reduceLT, Nat.reduceEqDiff]
             rfl
           · rfl
           first
           | (apply zg
              · simp only [z6, z5, Nat.reduceLT, decide_true, cond_true, ins]
                rfl
              · simp only [z6, z5, Nat.reduceLT, decide_true, cond_true, ins]
                rfl)
           | (apply zl
              · simp only [z6, z5, Nat.reduceLT, decide_true, cond_true, ins]
                rfl))
        | ((first | apply ze | apply zf)
           · rfl
           · simp only [z6, z5, Nat.reduceLT, decide_true, cond_true, ins]
             rfl)
        | (apply zd
           · simp only [go_sem, Nat.reduceEqDiff])
        | (apply z8
           · simp only [go_sem, Nat.reduceEqDiff])
        | (apply zk
           · kernel_rfl
           · kernel_rfl)
        | (simp only [bW, if_true, Nat.reduceEqDiff, if_false])
      exact hk _ rfl
    | some e =>
      obtain ⟨n, j3, j4⟩ := j2 e hf
      rw [j3] at h112
      rw [hf] at h h0
      simp only [] at h h0
      have hxe : (es.map zP)[n]? = some (.agg [I e.src, I e.dst, I e.q.n, I e.q.d, B e.why.join, I e.why.at_, B e.why.back]) := by rw [List.getElem?_map, j4]; rfl
      have heb := hes e (List.mem_of_getElem? j4)
      have hp1 : (1 : Int) ≤ 2000 ^ i := Int.pow_pos (by omega)
      have hp2 : (2000 : Int) ^ i * 2000 ≤ 32000000000000000 := by
        have : i = 0 ∨ i = 1 ∨ i = 2 ∨ i = 3 ∨ i = 4 := by omega
        rcases this with h | h | h | h | h <;> rw [h] <;> decide
      have h107 := t107' hq heb (by omega) hp1 (by omega)
      have hq' := with_qB hq heb hp1
      rw [← Int.pow_succ] at hq'
      have hn0 : decide ((n : Int) < 0) = false := by simp
      have hz1 : decide (i + 1 = 0) = false := by simp
      rw [← hz1] at h h0
      by_cases hi0 : i = 0
      · have hd0 : decide (i = 0) = true := by simp [hi0]
        have c1 : decide ((i : Int) > 0) = false := by simp; omega
        have c2 : ((i : Int) == 0) = true := by simp [hi0]
        rw [if_neg (by rw [hz1, hd0]; simp), if_pos hd0] at h h0
        have h : ∀ (c' : Chn) (s' a' : Int), goG es lowM rest (decide (i + 1 = 0)) (withC c e).q e.src e.dst = some (s', a', c'.q) → _ := h
        have h0 : goG es lowM rest (decide (i + 1 = 0)) (withC c e).q e.src e.dst = none → _ := h0
        refine zq ?_
        try dsimp only [lp93_6, zM, zy, Tryd.f93]
        simp only [bW, if_true, Nat.reduceEqDiff, if_false]
        repeat' first
          | (intro hb; first | cases hb | skip)
          | ((first | apply z9 | apply zh)
             · rfl
             · simp (disch := assumption) only [go_sem, Nat.reduceEqDiff, Nat.reduceAdd, bP, zj, Nat.reduceLeDiff, Nat.reduceLT, Nat.reduceMul, List.length_append, decide_eq_true_eq, zc, z7, Int.reduceToNat, Int.reduceLE, Int.reduceLT, Int.reduceBNe, Int.reduceBEq, hx, hlt', hw3, h112, whyD_one, pd_why, zJ, ids_fn, hxe, h107, hn0, c1, c2]
               rfl
             · simp only [go_sem, Nat.reduceLT, Nat.reduceEqDiff]
               rfl
             · rfl
             first
             | (apply zg
                · simp only [z6, z5, Nat.reduceLT, decide_true, cond_true, ins]
                  rfl
                · simp only [z6, z5, Nat.reduceLT, decide_true, cond_true, ins]
                  rfl)
             | (apply zl
                · simp only [z6, z5, Nat.reduceLT, decide_true, cond_true, ins]
                  rfl))
          | ((first | apply ze | apply zf)
             · rfl
             · simp only [z6, z5, Nat.reduceLT, decide_true, cond_true, ins]
               rfl)
          | (apply zd
             · simp only [go_sem, Nat.reduceEqDiff])
          | (apply z8
             · simp only [go_sem, Nat.reduceEqDiff])
          | (apply zk
             · kernel_rfl
             · kernel_rfl)
          | (simp only [bW, if_true, Nat.reduceEqDiff, if_false])
        refine zG (st1 := ⟨79, [(3, .fn (.func 96) [] [.ptr (B g), .ptr (I sh), .ptr (.agg [I bd.n, I bd.d])]), (9, .sl false (es.map zP) 7 none), (10, .lref 0 0 3 0), (11, I (e.src)), (12, I (e.dst)), (29, .sl false (l.map encW) 3 none), (30, I l.length), (31, I (i + 1 : Nat))], [(0, ⟨[.agg [I (withC c e).q.n, I (withC c e).q.d, whyD (withC c e).why]], 3, false⟩)], 1, 0⟩) lk93_6 (by
          simp only [go_sem, List.map_append, Nat.reduceEqDiff, Nat.reduceLT, Nat.reduceAdd, bI, bD, bI2, deep_net, deepI_net, ids_net, ren_net, deep_why, deepI_why, ids_why, ren_why, take_enc, drop_enc, catI_append, idsL_append, sn_lref, sn_agg, sn_val, zJ, List.append_assoc]
          try rfl) (ih (i + 1) (withC c e) (e.src) (e.dst) (by rw [← List.drop_drop, hd]; rfl) hlt hq' h h0)
      · have hd0 : decide (i = 0) = false := by simp [hi0]
        have c1 : decide ((i : Int) > 0) = true := by simp; omega
        have c2 : ((i : Int) == 0) = false := by simp [hi0]
        by_cases ha : e.src = a
        · have c3 : (e.src != a) = false := by simp [ha]
          rw [if_neg (fun h => h.2 ha), if_neg (by rw [hd0]; simp)] at h h0
          have h : ∀ (c' : Chn) (s' a' : Int), goG es lowM rest (decide (i + 1 = 0)) (withC c e).q s e.dst = some (s', a', c'.q) → _ := h
          have h0 : goG es lowM rest (decide (i + 1 = 0)) (withC c e).q s e.dst = none → _ := h0
          refine zq ?_
          try dsimp only [lp93_6, zM, zy, Tryd.f93]
          simp only [bW, if_true, Nat.reduceEqDiff, if_false]
          repeat' first
            | (intro hb; first | cases hb | skip)
            | ((first | apply z9 | apply zh)
               · rfl
               · simp (disch := assumption) only [go_sem, Nat.reduceEqDiff, Nat.reduceAdd, bP, zj, Nat.reduceLeDiff, Nat.reduceLT, Nat.reduceMul, List.length_append, decide_eq_true_eq, zc, z7, Int.reduceToNat, Int.reduceLE, Int.reduceLT, Int.reduceBNe, Int.reduceBEq, hx, hlt', hw3, h112, whyD_one, pd_why, zJ, ids_fn, hxe, h107, hn0, c1, c2, c3]
                 rfl
               · simp only [go_sem, Nat.reduceLT, Nat.reduceEqDiff]
                 rfl
               · rfl
               first
               | (apply zg
                  · simp only [z6, z5, Nat.reduceLT, decide_true, cond_true, ins]
                    rfl
                  · simp only [z6, z5, Nat.reduceLT, decide_true, cond_true, ins]
                    rfl)
               | (apply zl
                  · simp only [z6, z5, Nat.reduceLT, decide_true, cond_true, ins]
                    rfl))
            | ((first | apply ze | apply zf)
               · rfl
               · simp only [z6, z5, Nat.reduceLT, decide_true, cond_true, ins]
                 rfl)
            | (apply zd
               · simp only [go_sem, Nat.reduceEqDiff])
            | (apply z8
               · simp only [go_sem, Nat.reduceEqDiff])
            | (apply zk
               · kernel_rfl
               · kernel_rfl)
            | (simp only [bW, if_true, Nat.reduceEqDiff, if_false])
          refine zG (st1 := ⟨79, [(3, .fn (.func 96) [] [.ptr (B g), .ptr (I sh), .ptr (.agg [I bd.n, I bd.d])]), (9, .sl false (es.map zP) 7 none), (10, .lref 0 0 3 0), (11, I (s)), (12, I (e.dst)), (29, .sl false (l.map encW) 3 none), (30, I l.length), (31, I (i + 1 : Nat))], [(0, ⟨[.agg [I (withC c e).q.n, I (withC c e).q.d, whyD (withC c e).why]], 3, false⟩)], 1, 0⟩) lk93_6 (by
            simp only [go_sem, List.map_append, Nat.reduceEqDiff, Nat.reduceLT, Nat.reduceAdd, bI, bD, bI2, deep_net, deepI_net, ids_net, ren_net, deep_why, deepI_why, ids_why, ren_why, take_enc, drop_enc, catI_append, idsL_append, sn_lref, sn_agg, sn_val, zJ, List.append_assoc]
            try rfl) (ih (i + 1) (withC c e) (s) (e.dst) (by rw [← List.drop_drop, hd]; rfl) hlt hq' h h0)
        · have c3 : (e.src != a) = true := by simp [ha]
          rw [if_pos ⟨by rw [hz1, hd0], ha⟩] at h0
          rw [h0 rfl]
          clear h h0 ih
          refine zq ?_
          try dsimp only [lp93_6, zM, zy, Tryd.f93]
          simp only [bW, if_true, Nat.reduceEqDiff, if_false]
          repeat' first
            | (intro hb; first | cases hb | skip)
            | ((first | apply z9 | apply zh)
               · rfl
               · simp (disch := assumption) only [go_sem, Nat.reduceEqDiff, Nat.reduceAdd, bP, zj, Nat.reduceLeDiff, Nat.reduceLT, Nat.reduceMul, List.length_append, decide_eq_true_eq, zc, z7, Int.reduceToNat, Int.reduceLE, Int.reduceLT, Int.reduceBNe, Int.reduceBEq, hx, hlt', hw3, h112, whyD_one, pd_why, zJ, ids_fn, hxe, h107, hn0, c1, c2, c3]
                 rfl
               · simp only [go_sem, Nat.reduceLT, Nat.reduceEqDiff]
                 rfl
               · rfl
               first
               | (apply zg
                  · simp only [z6, z5, Nat.reduceLT, decide_true, cond_true, ins]
                    rfl
                  · simp only [z6, z5, Nat.reduceLT, decide_true, cond_true, ins]
                    rfl)
               | (apply zl
                  · simp only [z6, z5, Nat.reduceLT, decide_true, cond_true, ins]
                    rfl))
            | ((first | apply ze | apply zf)
               · rfl
               · simp only [z6, z5, Nat.reduceLT, decide_true, cond_true, ins]
                 rfl)
            | (apply zd
               · simp only [go_sem, Nat.reduceEqDiff])
            | (apply z8
               · simp only [go_sem, Nat.reduceEqDiff])
            | (apply zk
               · kernel_rfl
               · kernel_rfl)
            | (simp only [bW, if_true, Nat.reduceEqDiff, if_false])
          exact hk _ rfl
def ans96 (g : Bool) (sh : Int) (bd : Ratio) (o : Option (Int × Int × Ratio)) : Bool := match o with | none => false | some (s, a, q) => proves g sh bd s a q
theorem t93_96 (g : Bool) (sh : Int) (bd : Ratio) (p : Paper) (ax : Int) (l : List Reason) (nl : Bool) (sz : Nat) (hwf : p.wf) (hok : zr p = true) (hnl : nl = true → l = []) (hsz : nl = false → sz = 3) (hll : l.length ≤ 9223372036854775807) (hb : ratioOK bd = true) (hs1 : 0 ≤ sh) (hs2 : sh ≤ 4) : (lim cfg).pure 93 [zN p, I ax, .sl nl (l.map encW) sz none, .fn (.func 96) [] [.ptr (B g), .ptr (I sh), .ptr (.agg [I bd.n, I bd.d])]] = some (B (ans96 g sh bd (followO p ax l))) := by
  have h68 := t68 p ax hwf hok
  obtain ⟨hes, hlen⟩ := edgesB hok ax
  have hlw := len_if (f := encW) hnl
  by_cases hl : 1 ≤ l.length ∧ l.length ≤ 5
  · have c1 : decide ((l.length : Int) < 1) = false := by simp; omega
    have c2 : decide ((l.length : Int) > 5) = false := by simp; omega
    have hfo : followO p ax l = goG (zx p ax) lowM l true one1 0 0 := by unfold followO; rw [if_pos hl]
    have hinv := fun s a q => follow_inv (s := s) (a := a) (q := q) hok (ax := ax) (l := l)
    rw [hfo] at hinv ⊢
    generalize zx p ax = es at *
    refine zu (zn 93) cfn93 rfl (n := 79) rfl ?_
    generalize hF : finP cfg Tryd.f93 = F
    simp only [bW, if_true, Nat.reduceEqDiff, if_false, zp]
    have hret : ∀ (v : Bool) st, get st.tmps 8 = B v → F .ret st = some (B v) := by
      intro v st h
      subst hF
      simp only [go_sem, Nat.reduceEqDiff, bP, Nat.reduceAdd, Nat.reduceLeDiff, List.length_map, Tryd.f93, h]
    repeat' first
      | (intro hb; first | cases hb | skip)
      | ((first | apply z9 | apply zh)
         · rfl
         · simp (disch := assumption) only [go_sem, Nat.reduceEqDiff, Nat.reduceAdd, bP, zj, Nat.reduceLeDiff, Nat.reduceLT, Nat.reduceMul, List.length_append, decide_eq_true_eq, zc, z7, Int.reduceToNat, Int.reduceLE, Int.reduceLT, Int.reduceBNe, Int.reduceBEq, hlw, c1, c2, h68, cfg_glob0]
           rfl
         · simp only [go_sem, Nat.reduceLT, Nat.reduceEqDiff]
           rfl
         · rfl
         first
         | (apply zg
            · simp only [z6, z5, Nat.reduceLT, decide_true, cond_true, ins]
              rfl
            · simp only [z6, z5, Nat.reduceLT, decide_true, cond_true, ins]
              rfl)
         | (apply zl
            · simp only [z6, z5, Nat.reduceLT, decide_true, cond_true, ins]
              rfl))
      | ((first | apply ze | apply zf)
         · rfl
         · simp only [z6, z5, Nat.reduceLT, decide_true, cond_true, ins]
           rfl)
      | (apply zd
         · simp only [go_sem, Nat.reduceEqDiff])
      | (apply z8
         · simp only [go_sem, Nat.reduceEqDiff])
      | (apply zk
         · kernel_rfl
         · kernel_rfl)
      | (simp only [bW, if_true, Nat.reduceEqDiff, if_false])
    refine w_loop (st1 := ⟨79, [(3, .fn (.func 96) [] [.ptr (B g), .ptr (I sh), .ptr (.agg [I bd.n, I bd.d])]), (9, .sl false (es.map zP) 7 none), (10, .lref 0 0 3 0), (11, I (0)), (12, I (0)), (29, .sl nl (l.map encW) sz none), (30, I l.length), (31, I (0 : Nat))], [(0, ⟨[.agg [I ((⟨one1, []⟩ : Chn)).q.n, I ((⟨one1, []⟩ : Chn)).q.d, whyD ((⟨one1, []⟩ : Chn)).why]], 3, false⟩)], 1, 0⟩) lk93_6 (by
      simp only [go_sem, List.map_append, Nat.reduceEqDiff, Nat.reduceLT, Nat.reduceAdd, bI, bD, bI2]
      try rfl) (L93_6_96 g sh bd es l nl sz _ _ hes hlen hnl hsz hl.2 (fun st h => by simp only [bW, if_true, Nat.reduceEqDiff, if_false]; exact hret false st h) l 0 ⟨one1, []⟩ 0 0 rfl (Nat.zero_le _) ⟨by decide, by decide, by decide, by decide, Nat.le_refl _⟩ (fun c s a h => ?_) (fun h => by
        have h : goG es lowM l true one1 0 0 = none := h
        rw [h]; rfl))
    have h : goG es lowM l true one1 0 0 = some (s, a, c.q) := h
    rw [h]
    obtain ⟨r1, r2, r3, r4, r5⟩ := hinv _ _ _ h
    have hask := t96 g sh bd s a c.q r1.1 r4 r1.2.1 r5 hb hs1 hs2
    simp only [bW, if_true, Nat.reduceEqDiff, if_false]
    repeat' first
      | (intro hb; first | cases hb | skip)
      | ((first | apply z9 | apply zh)
         · rfl
         · simp (disch := assumption) only [go_sem, Nat.reduceEqDiff, Nat.reduceAdd, bP, zj, Nat.reduceLeDiff, Nat.reduceLT, Nat.reduceMul, List.length_append, decide_eq_true_eq, zc, z7, Int.reduceToNat, Int.reduceLE, Int.reduceLT, Int.reduceBNe, Int.reduceBEq, hask, whyD_one, pd_why]
           rfl
         · simp only [go_sem, Nat.reduceLT, Nat.reduceEqDiff]
           rfl
         · rfl
         first
         | (apply zg
            · simp only [z6, z5, Nat.reduceLT, decide_true, cond_true, ins]
              rfl
            · simp only [z6, z5, Nat.reduceLT, decide_true, cond_true, ins]
              rfl)
         | (apply zl
            · simp only [z6, z5, Nat.reduceLT, decide_true, cond_true, ins]
              rfl))
      | ((first | apply ze | apply zf)
         · rfl
         · simp only [z6, z5, Nat.reduceLT, decide_true, cond_true, ins]
           rfl)
      | (apply zd
         · simp only [go_sem, Nat.reduceEqDiff])
      | (apply z8
         · simp only [go_sem, Nat.reduceEqDiff])
      | (apply zk
         · kernel_rfl
         · kernel_rfl)
      | (simp only [bW, if_true, Nat.reduceEqDiff, if_false])
    all_goals (subst hF; simp only [go_sem, Nat.reduceEqDiff, bP, Nat.reduceAdd, Nat.reduceLeDiff, List.length_map, Tryd.f93, ans96])
    all_goals first | done | simp_all
  · have hfo : followO p ax l = none := by unfold followO; rw [if_neg hl]
    rw [hfo]
    by_cases h1 : l.length < 1
    · have c1 : decide ((l.length : Int) < 1) = true := by simp; omega
      refine zu (zn 93) cfn93 rfl (n := 79) rfl ?_
      simp only [bW, if_true, Nat.reduceEqDiff, if_false, zp]
      repeat' first
        | (intro hb; first | cases hb | skip)
        | ((first | apply z9 | apply zh)
           · rfl
           · simp (disch := assumption) only [go_sem, Nat.reduceEqDiff, Nat.reduceAdd, bP, zj, Nat.reduceLeDiff, Nat.reduceLT, Nat.reduceMul, List.length_append, decide_eq_true_eq, zc, z7, Int.reduceToNat, Int.reduceLE, Int.reduceLT, Int.reduceBNe, Int.reduceBEq, hlw, c1]
             rfl
           · simp only [go_sem, Nat.reduceLT, Nat.reduceEqDiff]
             rfl
           · rfl
           first
           | (apply zg
              · simp only [z6, z5, Nat.reduceLT, decide_true, cond_true, ins]
                rfl
              · simp only [z6, z5, Nat.reduceLT, decide_true, cond_true, ins]
                rfl)
           | (apply zl
              · simp only [z6, z5, Nat.reduceLT, decide_true, cond_true, ins]
                rfl))
        | ((first | apply ze | apply zf)
           · rfl
           · simp only [z6, z5, Nat.reduceLT, decide_true, cond_true, ins]
             rfl)
        | (apply zd
           · simp only [go_sem, Nat.reduceEqDiff])
        | (apply z8
           · simp only [go_sem, Nat.reduceEqDiff])
        | (apply zk
           · kernel_rfl
           · kernel_rfl)
        | (simp only [bW, if_true, Nat.reduceEqDiff, if_false])
      all_goals try simp only [go_sem, Nat.reduceEqDiff, bP, Nat.reduceAdd, Nat.reduceLeDiff, List.length_map, Tryd.f93, ans96]
      all_goals first | done | rfl | (simp_all []; done) | trace_state
    · have c1 : decide ((l.length : Int) < 1) = false := by simp; omega
      have c2 : decide ((l.length : Int) > 5) = true := by simp; omega
      refine zu (zn 93) cfn93 rfl (n := 79) rfl ?_
      simp only [bW, if_true, Nat.reduceEqDiff, if_false, zp]
      repeat' first
        | (intro hb; first | cases hb | skip)
        | ((first | apply z9 | apply zh)
           · rfl
           · simp (disch := assumption) only [go_sem, Nat.reduceEqDiff, Nat.reduceAdd, bP, zj, Nat.reduceLeDiff, Nat.reduceLT, Nat.reduceMul, List.length_append, decide_eq_true_eq, zc, z7, Int.reduceToNat, Int.reduceLE, Int.reduceLT, Int.reduceBNe, Int.reduceBEq, hlw, c1, c2]
             rfl
           · simp only [go_sem, Nat.reduceLT, Nat.reduceEqDiff]
             rfl
           · rfl
           first
           | (apply zg
              · simp only [z6, z5, Nat.reduceLT, decide_true, cond_true, ins]
                rfl
              · simp only [z6, z5, Nat.reduceLT, decide_true, cond_true, ins]
                rfl)
           | (apply zl
              · simp only [z6, z5, Nat.reduceLT, decide_true, cond_true, ins]
                rfl))
        | ((first | apply ze | apply zf)
           · rfl
           · simp only [z6, z5, Nat.reduceLT, decide_true, cond_true, ins]
             rfl)
        | (apply zd
           · simp only [go_sem, Nat.reduceEqDiff])
        | (apply z8
           · simp only [go_sem, Nat.reduceEqDiff])
        | (apply zk
           · kernel_rfl
           · kernel_rfl)
        | (simp only [bW, if_true, Nat.reduceEqDiff, if_false])
      all_goals try simp only [go_sem, Nat.reduceEqDiff, bP, Nat.reduceAdd, Nat.reduceLeDiff, List.length_map, Tryd.f93, ans96]
      all_goals first | done | rfl | (simp_all []; done) | trace_state

end Go.VS
namespace Go.VS
open Go Go.Proofs
set_option maxHeartbeats 0
set_option linter.unusedSimpArgs false

def clashOK (p : Paper) (l : List Reason) : Bool := ans92 (followO p 0 l) || ans92 (followO p 1 l)
def clashC (p : Paper) (l : List Reason) : Int := if zr p then (if clashOK p l then 0 else 32) else 30
theorem t44 (p : Paper) (l : List Reason) (nl : Bool) (sz : Nat) (hwf : p.wf) (hnl : nl = true → l = []) (hsz : nl = false → sz = 3) (hll : l.length ≤ 9223372036854775807) : (lim cfg).pure 44 [zN p, .sl nl (l.map encW) sz none] = some (I (clashC p l)) := by
  have h15 := t15 p hwf
  unfold check at h15
  unfold clashC clashOK
  cases hok : zr p with
  | false =>
    rw [hok] at h15
    simp only [Bool.false_eq_true, if_false] at h15 ⊢
    refine zu (zn 44) cfn44 rfl (n := 24) rfl ?_
    simp only [bW, if_true, Nat.reduceEqDiff, if_false, zp]
    repeat' first
      | (intro hb; first | cases hb | skip)
      | ((first | apply z9 | apply zh)
         · rfl
         · simp (disch := assumption) only [go_sem, Nat.reduceEqDiff, Nat.reduceAdd, bP, zj, Nat.reduceLeDiff, Nat.reduceLT, Nat.reduceMul, List.length_append, decide_eq_true_eq, zc, z7, Int.reduceToNat, Int.reduceLE, Int.reduceLT, Int.reduceBNe, Int.reduceBEq, h15]
           rfl
         · simp only [go_sem, Nat.reduceLT, Nat.reduceEqDiff]
           rfl
         · rfl
         first
         | (apply zg
            · simp only [z6, z5, Nat.reduceLT, decide_true, cond_true, ins]
              rfl
            · simp only [z6, z5, Nat.reduceLT, decide_true, cond_true, ins]
              rfl)
         | (apply zl
            · simp only [z6, z5, Nat.reduceLT, decide_true, cond_true, ins]
              rfl))
      | ((first | apply ze | apply zf)
         · rfl
         · simp only [z6, z5, Nat.reduceLT, decide_true, cond_true, ins]
           rfl)
      | (apply zd
         · simp only [go_sem, Nat.reduceEqDiff])
      | (apply z8
         · simp only [go_sem, Nat.reduceEqDiff])
      | (apply zk
         · kernel_rfl
         · kernel_rfl)
      | (simp only [bW, if_true, Nat.reduceEqDiff, if_false])
    all_goals try simp only [go_sem, Nat.reduceEqDiff, bP, Nat.reduceAdd, Nat.reduceLeDiff, List.length_map, Tryd.f44]
    all_goals first | done | rfl | (simp_all []; done) | trace_state
  | true =>
    rw [hok] at h15
    simp only [if_true] at h15 ⊢
    have e0 := t93_92 p 0 l nl sz hwf hok hnl hsz hll
    have e1 := t93_92 p 1 l nl sz hwf hok hnl hsz hll
    cases h0 : ans92 (followO p 0 l) <;> cases h1 : ans92 (followO p 1 l) <;> rw [h0] at e0 <;> rw [h1] at e1
    all_goals
      refine zu (zn 44) cfn44 rfl (n := 24) rfl ?_
      simp only [bW, if_true, Nat.reduceEqDiff, if_false, zp]
      repeat' first
        | (intro hb; first | cases hb | skip)
        | ((first | apply z9 | apply zh)
           · rfl
           · simp (disch := assumption) only [go_sem, Nat.reduceEqDiff, Nat.reduceAdd, bP, zj, Nat.reduceLeDiff, Nat.reduceLT, Nat.reduceMul, List.length_append, decide_eq_true_eq, zc, z7, Int.reduceToNat, Int.reduceLE, Int.reduceLT, Int.reduceBNe, Int.reduceBEq, h15, e0, e1]
             rfl
           · simp only [go_sem, Nat.reduceLT, Nat.reduceEqDiff]
             rfl
           · rfl
           first
           | (apply zg
              · simp only [z6, z5, Nat.reduceLT, decide_true, cond_true, ins]
                rfl
              · simp only [z6, z5, Nat.reduceLT, decide_true, cond_true, ins]
                rfl)
           | (apply zl
              · simp only [z6, z5, Nat.reduceLT, decide_true, cond_true, ins]
                rfl))
        | ((first | apply ze | apply zf)
           · rfl
           · simp only [z6, z5, Nat.reduceLT, decide_true, cond_true, ins]
             rfl)
        | (apply zd
           · simp only [go_sem, Nat.reduceEqDiff])
        | (apply z8
           · simp only [go_sem, Nat.reduceEqDiff])
        | (apply zk
           · kernel_rfl
           · kernel_rfl)
        | (simp only [bW, if_true, Nat.reduceEqDiff, if_false])
      all_goals try simp only [go_sem, Nat.reduceEqDiff, bP, Nat.reduceAdd, Nat.reduceLeDiff, List.length_map, Tryd.f44]
      all_goals first | done | rfl | (simp_all []; done) | trace_state

def proofC (p : Paper) (sh ax : Int) (g : Bool) (bd : Ratio) (l : List Reason) : Int := if zr p then (if zz p sh && zR ax && ratioOK bd then (if ans96 g sh bd (followO p ax l) then 0 else 32) else 1) else 30
theorem named_iff (p : Paper) (sh ax : Int) : (namedF p ax [sh] != 0) = !(zz p sh && zR ax) := by
  unfold namedF
  simp only [List.all_cons, List.all_nil, Bool.and_true]
  cases zz p sh && zR ax <;> rfl
theorem t46 (p : Paper) (sh ax : Int) (g : Bool) (bd : Ratio) (l : List Reason) (nl : Bool) (sz : Nat) (hwf : p.wf) (hnl : nl = true → l = []) (hsz : nl = false → sz = 3) (hll : l.length ≤ 9223372036854775807) : (lim cfg).pure 46 [zN p, I sh, I ax, B g, .agg [I bd.n, I bd.d], .sl nl (l.map encW) sz none] = some (I (proofC p sh ax g bd l)) := by
  have h15 := t15 p hwf
  have h95 := t95 p ax false [sh] 1 (by simp) (by simp) (by simp)
  have h66 := t66' bd
  simp only [List.map_cons, List.map_nil] at h95
  have hn := named_iff p sh ax
  unfold check at h15
  unfold proofC
  cases hok : zr p with
  | false =>
    rw [hok] at h15
    simp only [Bool.false_eq_true, if_false] at h15 ⊢
    refine zu (zn 46) cfn46 rfl (n := 40) rfl ?_
    simp only [bW, if_true, Nat.reduceEqDiff, if_false, zp]
    repeat' first
      | (intro hb; first | cases hb | skip)
      | ((first | apply z9 | apply zh)
         · rfl
         · simp (disch := assumption) only [go_sem, Nat.reduceEqDiff, Nat.reduceAdd, bP, zj, Nat.reduceLeDiff, Nat.reduceLT, Nat.reduceMul, List.length_append, decide_eq_true_eq, zc, z7, Int.reduceToNat, Int.reduceLE, Int.reduceLT, Int.reduceBNe, Int.reduceBEq, h15]
           rfl
         · simp only [go_sem, Nat.reduceLT, Nat.reduceEqDiff]
           rfl
         · rfl
         first
         | (apply zg
            · simp only [z6, z5, Nat.reduceLT, decide_true, cond_true, ins]
              rfl
            · simp only [z6, z5, Nat.reduceLT, decide_true, cond_true, ins]
              rfl)
         | (apply zl
            · simp only [z6, z5, Nat.reduceLT, decide_true, cond_true, ins]
              rfl))
      | ((first | apply ze | apply zf)
         · rfl
         · simp only [z6, z5, Nat.reduceLT, decide_true, cond_true, ins]
           rfl)
      | (apply zd
         · simp only [go_sem, Nat.reduceEqDiff])
      | (apply z8
         · simp only [go_sem, Nat.reduceEqDiff])
      | (apply zk
         · kernel_rfl
         · kernel_rfl)
      | (simp only [bW, if_true, Nat.reduceEqDiff, if_false])
    all_goals try simp only [go_sem, Nat.reduceEqDiff, bP, Nat.reduceAdd, Nat.reduceLeDiff, List.length_map, Tryd.f46]
    all_goals first | done | rfl | (simp_all []; done) | trace_state
  | true =>
    rw [hok] at h15
    simp only [if_true] at h15 ⊢
    cases h1 : zz p sh && zR ax with
    | false =>
      rw [h1] at hn
      simp only [Bool.false_and, Bool.false_eq_true, if_false, Bool.not_false] at hn ⊢
      refine zu (zn 46) cfn46 rfl (n := 40) rfl ?_
      simp only [bW, if_true, Nat.reduceEqDiff, if_false, zp]
      repeat' first
        | (intro hb; first | cases hb | skip)
        | ((first | apply z9 | apply zh)
           · rfl
           · simp (disch := assumption) only [go_sem, Nat.reduceEqDiff, Nat.reduceAdd, bP, zj, Nat.reduceLeDiff, Nat.reduceLT, Nat.reduceMul, List.length_append, decide_eq_true_eq, zc, z7, Int.reduceToNat, Int.reduceLE, Int.reduceLT, Int.reduceBNe, Int.reduceBEq, h15, h95, hn]
             rfl
           · simp only [go_sem, Nat.reduceLT, Nat.reduceEqDiff]
             rfl
           · rfl
           first
           | (apply zg
              · simp only [z6, z5, Nat.reduceLT, decide_true, cond_true, ins]
                rfl
              · simp only [z6, z5, Nat.reduceLT, decide_true, cond_true, ins]
                rfl)
           | (apply zl
              · simp only [z6, z5, Nat.reduceLT, decide_true, cond_true, ins]
                rfl))
        | ((first | apply ze | apply zf)
           · rfl
           · simp only [z6, z5, Nat.reduceLT, decide_true, cond_true, ins]
             rfl)
        | (apply zd
           · simp only [go_sem, Nat.reduceEqDiff])
        | (apply z8
           · simp only [go_sem, Nat.reduceEqDiff])
        | (apply zk
           · kernel_rfl
           · kernel_rfl)
        | (simp only [bW, if_true, Nat.reduceEqDiff, if_false])
      all_goals try simp only [go_sem, Nat.reduceEqDiff, bP, Nat.reduceAdd, Nat.reduceLeDiff, List.length_map, Tryd.f46]
      all_goals first | done | rfl | (simp_all []; done) | trace_state
    | true =>
      rw [h1] at hn
      simp only [Bool.true_and, Bool.not_true] at hn ⊢
      cases h2 : ratioOK bd with
      | false =>
        rw [h2] at h66
        simp only [Bool.false_eq_true, if_false]
        refine zu (zn 46) cfn46 rfl (n := 40) rfl ?_
        simp only [bW, if_true, Nat.reduceEqDiff, if_false, zp]
        repeat' first
          | (intro hb; first | cases hb | skip)
          | ((first | apply z9 | apply zh)
             · rfl
             · simp (disch := assumption) only [go_sem, Nat.reduceEqDiff, Nat.reduceAdd, bP, zj, Nat.reduceLeDiff, Nat.reduceLT, Nat.reduceMul, List.length_append, decide_eq_true_eq, zc, z7, Int.reduceToNat, Int.reduceLE, Int.reduceLT, Int.reduceBNe, Int.reduceBEq, h15, h95, hn, h66]
               rfl
             · simp only [go_sem, Nat.reduceLT, Nat.reduceEqDiff]
               rfl
             · rfl
             first
             | (apply zg
                · simp only [z6, z5, Nat.reduceLT, decide_true, cond_true, ins]
                  rfl
                · simp only [z6, z5, Nat.reduceLT, decide_true, cond_true, ins]
                  rfl)
             | (apply zl
                · simp only [z6, z5, Nat.reduceLT, decide_true, cond_true, ins]
                  rfl))
          | ((first | apply ze | apply zf)
             · rfl
             · simp only [z6, z5, Nat.reduceLT, decide_true, cond_true, ins]
               rfl)
          | (apply zd
             · simp only [go_sem, Nat.reduceEqDiff])
          | (apply z8
             · simp only [go_sem, Nat.reduceEqDiff])
          | (apply zk
             · kernel_rfl
             · kernel_rfl)
          | (simp only [bW, if_true, Nat.reduceEqDiff, if_false])
        all_goals try simp only [go_sem, Nat.reduceEqDiff, bP, Nat.reduceAdd, Nat.reduceLeDiff, List.length_map, Tryd.f46]
        all_goals first | done | rfl | (simp_all []; done) | trace_state
      | true =>
        rw [h2] at h66
        simp only [if_true]
        obtain ⟨o1, o2, -⟩ := zD hok
        have hsh : 0 ≤ sh ∧ sh < p.sheets := by simp [zz] at h1; exact h1.1
        have h93 := t93_96 g sh bd p ax l nl sz hwf hok hnl hsz hll h2 hsh.1 (by omega)
        cases h3 : ans96 g sh bd (followO p ax l) <;> rw [h3] at h93
        all_goals
          refine zu (zn 46) cfn46 rfl (n := 40) rfl ?_
          simp only [bW, if_true, Nat.reduceEqDiff, if_false, zp]
          repeat' first
            | (intro hb; first | cases hb | skip)
            | ((first | apply z9 | apply zh)
               · rfl
               · simp (disch := assumption) only [go_sem, Nat.reduceEqDiff, Nat.reduceAdd, bP, zj, Nat.reduceLeDiff, Nat.reduceLT, Nat.reduceMul, List.length_append, decide_eq_true_eq, zc, z7, Int.reduceToNat, Int.reduceLE, Int.reduceLT, Int.reduceBNe, Int.reduceBEq, h15, h95, hn, h66, h93]
                 rfl
               · simp only [go_sem, Nat.reduceLT, Nat.reduceEqDiff]
                 rfl
               · rfl
               first
               | (apply zg
                  · simp only [z6, z5, Nat.reduceLT, decide_true, cond_true, ins]
                    rfl
                  · simp only [z6, z5, Nat.reduceLT, decide_true, cond_true, ins]
                    rfl)
               | (apply zl
                  · simp only [z6, z5, Nat.reduceLT, decide_true, cond_true, ins]
                    rfl))
            | ((first | apply ze | apply zf)
               · rfl
               · simp only [z6, z5, Nat.reduceLT, decide_true, cond_true, ins]
                 rfl)
            | (apply zd
               · simp only [go_sem, Nat.reduceEqDiff])
            | (apply z8
               · simp only [go_sem, Nat.reduceEqDiff])
            | (apply zk
               · kernel_rfl
               · kernel_rfl)
            | (simp only [bW, if_true, Nat.reduceEqDiff, if_false])
          all_goals try simp only [go_sem, Nat.reduceEqDiff, bP, Nat.reduceAdd, Nat.reduceLeDiff, List.length_map, Tryd.f46]
          all_goals first | done | rfl | (simp_all []; done) | trace_state


end Go.VS
/-
  A contradiction is a closed walk. (A text of this claim's own; nothing of it is trusted.)
-/
namespace Go.VS
open Go Go.VS.Walks
theorem clash_some {es : List Edge} {c : Chn} : ∀ {j i : Nat}, clashFrom es j i = some c → ∃ k, i ≤ k ∧ k < i + j ∧ (zK es k 5)[k]? = some (some c) ∧ ltR c.q one1 = true
  | 0, _, h => by cases h
  | j + 1, i, h => by
    unfold clashFrom at h
    split at h
    · rename_i c' hc'
      split at h
      · rename_i hl
        cases h
        exact ⟨i, Nat.le_refl _, by omega, hc', hl⟩
      · obtain ⟨k, k1, k2, k3⟩ := clash_some h
        exact ⟨k, by omega, by omega, k3⟩
    · obtain ⟨k, k1, k2, k3⟩ := clash_some h
      exact ⟨k, by omega, by omega, k3⟩
end Go.VS
namespace Go.VS
open Go Go.Proofs
set_option maxHeartbeats 0
set_option linter.unusedSimpArgs false

theorem t44w (p : Paper) (ws : List Reason) (hwf : p.wf) (hl : ws.length ≤ 1000) : (lim cfg).pure 44 [zN p, whyD ws] = some (I (clashC p ws)) := by
  cases ws with
  | nil => exact t44 p [] true 0 hwf (fun _ => rfl) (by simp) (by simp)
  | cons w r => exact t44 p (w :: r) false 3 hwf (by simp) (fun _ => rfl) (by omega)
theorem t46w (p : Paper) (sh ax : Int) (g : Bool) (bd : Ratio) (ws : List Reason) (hwf : p.wf) (hl : ws.length ≤ 1000) : (lim cfg).pure 46 [zN p, I sh, I ax, B g, .agg [I bd.n, I bd.d], whyD ws] = some (I (proofC p sh ax g bd ws)) := by
  cases ws with
  | nil => exact t46 p sh ax g bd [] true 0 hwf (fun _ => rfl) (by simp) (by simp)
  | cons w r => exact t46 p sh ax g bd (w :: r) false 3 hwf (by simp) (fun _ => rfl) (by omega)
theorem real_follow {p : Paper} (hok : zr p = true) {ax : Int} {a b m : Nat} {c : Chn} (h1 : 1 ≤ m) (h5 : m ≤ 5) (h : RealC (zx p ax) a m b c) : followO p ax c.why = some ((a : Int), (b : Int), c.q) ∧ c.why.length = m := by
  obtain ⟨w, w1, w2, w3, w4, w5⟩ := h
  obtain ⟨q, f1, f2, f3⟩ := follow_walk hok (by omega) (by omega) w2
  rw [red_eq f2 w5 (f3.trans w3.symm)] at f1
  rw [w4]
  exact ⟨f1, by simp [w1]⟩
theorem clash_acc {p : Paper} (hok : zr p = true) {ax : Int} {c : Chn} (h : clashA p ax = some c) : ans92 (followO p ax c.why) = true ∧ c.why.length ≤ 5 := by
  obtain ⟨o1, o2, -⟩ := zD hok
  obtain ⟨k, k1, k2, k3, k4⟩ := clash_some h
  obtain ⟨m, m1, m2, hr⟩ := (chains_spec (fun e he => (edge_nodes hok he).1) (show k < 5 by omega) 5).2.1 k c k3
  obtain ⟨f1, f2⟩ := real_follow hok m1 m2 hr
  rw [f1]
  simp only [ans92, beq_self_eq_true, Bool.true_and]
  exact ⟨k4, by omega⟩
theorem ratio_good {r : Ratio} (h : goodQ r) : ratioOK r = true := by
  obtain ⟨⟨a, b, c⟩, d, e, f, g⟩ := h
  simp only [ratioOK, Bool.and_eq_true, decide_eq_true_eq]
  omega
theorem leR_self (q : Ratio) : leR q q = true := by unfold leR; simp
theorem proof_acc {p : Paper} {s ax : Int} (h : knownF p ax [s] = 0) : (proofC p s ax true (hiF p s ax) (downF p s ax).why = 0 ∧ (downF p s ax).why.length ≤ 5) ∧ (proofC p s ax false (loF p s ax) (upF p s ax).why = 0 ∧ (upF p s ax).why.length ≤ 5) := by
  obtain ⟨hok, hp, hs, hax⟩ := known_zero.1 h
  simp only [List.all_cons, List.all_nil, Bool.and_true] at hs
  obtain ⟨o1, o2, -⟩ := zD hok
  have hc := poss_none hp hax
  obtain ⟨i, hi, l1, l2⟩ := sheet_nat hs
  obtain ⟨-, d1⟩ := downO_some ax hok hs
  obtain ⟨-, d2⟩ := upO_some ax hok hs
  rw [l2] at d1 d2
  obtain ⟨m, m1, m2, hr⟩ := (chains_spec (fun e he => (edge_nodes hok he).1) (show 1 + i < 5 by omega) 4).2.1 0 _ d1
  obtain ⟨m', m1', m2', hr'⟩ := (chains_spec (fun e he => (edge_nodes hok he).1) (show 0 < 5 by omega) 4).2.1 (1 + i) _ d2
  obtain ⟨f1, f2⟩ := real_follow hok m1 (by omega) hr
  obtain ⟨f1', f2'⟩ := real_follow hok m1' (by omega) hr'
  have g1 := ratio_good (hi_good hok hc (i := i) (by omega))
  have g2 := ratio_good (lo_good hok hc (i := i) (by omega))
  rw [← hi] at g1 g2
  have hj : ((1 + i : Nat) : Int) = 1 + s := by omega
  refine ⟨⟨?_, by omega⟩, ⟨?_, by omega⟩⟩
  · unfold proofC
    rw [hok, hs, hax, g1, f1]
    simp only [if_true, Bool.and_self, ans96, proves, hj, beq_self_eq_true, Bool.true_and]
    rw [show leR (downF p s ax).q (hiF p s ax) = true from leR_self _]
    rfl
  · unfold proofC
    rw [hok, hs, hax, g2, f1']
    simp only [if_true, Bool.and_self, ans96, proves, hj, beq_self_eq_true, Bool.true_and, Bool.false_eq_true, if_false]
    rw [show leR (upF p s ax).q ⟨(loF p s ax).d, (loF p s ax).n⟩ = true from leR_self _]
    rfl

end Go.VS
/-
  The ends are allowed, and between them lies what is allowed. (A text of this claim's own; nothing of it is trusted.)
-/
namespace Go.VS
open Go Go.VS.Walks
theorem ends_at {p : Paper} (_ : zr p = true) {i : Nat} (hi : (i : Int) < p.sheets) : (endsF0 p)[i]? = some (endF0 p i) ∧ (endsF1 p)[i]? = some (endF1 p i) := by
  unfold endsF0 endsF1
  have h : i < p.sheets.toNat := by omega
  constructor <;> rw [List.getElem?_map, List.getElem?_range' h] <;> simp
theorem ends_length {p : Paper} (hok : zr p = true) : ((endsF0 p).length : Int) = p.sheets ∧ ((endsF1 p).length : Int) = p.sheets := by
  obtain ⟨o1, o2, -⟩ := zD hok
  unfold endsF0 endsF1
  simp
  omega
theorem axF_end {p : Paper} (_ : zr p = true) (i : Nat) {ax : Int} (hax : zR ax = true) : axF (endF0 p i) ax = loF p i ax ∧ axF (endF1 p i) ax = hiF p i ax := by
  simp [zR] at hax
  rcases hax with rfl | rfl <;> exact ⟨rfl, rfl⟩
theorem clash_ax {p : Paper} (_ : zr p = true) (hc0 : clashA p 0 = none) (hc1 : clashA p 1 = none) {ax : Int} (hax : zR ax = true) : clashA p ax = none := by
  simp [zR] at hax
  rcases hax with rfl | rfl <;> assumption
theorem fac_ends {p : Paper} (hok : zr p = true) (_ : clashA p 0 = none) (_ : clashA p 1 = none) {ax : Int} (hax : zR ax = true) {k : Nat} (hk : (k : Int) ≤ p.sheets) : zB (endsF0 p) ax k = invR (distF p ax 0 k) ∧ zB (endsF1 p) ax k = distF p ax k 0 := by
  rcases Nat.eq_zero_or_pos k with rfl | hk0
  · unfold zB distF
    rw [if_pos (by simp), if_pos rfl, if_pos (by simp)]
    exact ⟨rfl, rfl⟩
  · obtain ⟨i, rfl⟩ : ∃ i, k = 1 + i := ⟨k - 1, by omega⟩
    obtain ⟨e0, e1⟩ := ends_at hok (i := i) (by omega)
    obtain ⟨a0, a1⟩ := axF_end hok i hax
    unfold zB
    rw [if_neg (by omega), if_neg (by omega), show (((1 + i : Nat) : Int) - 1).toNat = i by omega, e0, e1]
    simp only []
    rw [a0, a1, lo_dist2, hi_dist]
    exact ⟨rfl, rfl⟩
section
variable {p : Paper} (hok : zr p = true) (hc0 : clashA p 0 = none) (hc1 : clashA p 1 = none)
include hok
include hc0 hc1
theorem ends_ok : (endsF0 p).all f4OK = true ∧ (endsF1 p).all f4OK = true := by
  have key : ∀ i : Nat, (i : Int) < p.sheets → f4OK (endF0 p i) = true ∧ f4OK (endF1 p i) = true := by
    intro i hi
    have a := ratio_good (lo_good hok hc0 (i := i) hi)
    have b := ratio_good (lo_good hok hc1 (i := i) hi)
    have c := ratio_good (hi_good hok hc0 (i := i) hi)
    have d := ratio_good (hi_good hok hc1 (i := i) hi)
    unfold f4OK endF0 endF1
    simp only [Bool.and_eq_true]
    exact ⟨⟨a, b⟩, ⟨c, d⟩⟩
  unfold endsF0 endsF1
  simp only [List.all_eq_true, List.mem_map, List.mem_range'_1]
  constructor
  · rintro f ⟨i, hi, rfl⟩; exact (key i (by omega)).1
  · rintro f ⟨i, hi, rfl⟩; exact (key i (by omega)).2
theorem ends_fine : Fine p (endsF0 p) ∧ Fine p (endsF1 p) := by
  obtain ⟨k0, k1⟩ := ends_ok hok hc0 hc1
  obtain ⟨l0, l1⟩ := ends_length hok
  have key : ∀ ax, zR ax = true → factorsFine p (endsF0 p) ax = true ∧ factorsFine p (endsF1 p) ax = true := by
    intro ax hax
    have hc := clash_ax hok hc0 hc1 hax
    unfold factorsFine
    rw [List.all_eq_true, List.all_eq_true]
    have each : ∀ e ∈ zx p ax, edgeFine (endsF0 p) ax e = true ∧ edgeFine (endsF1 p) ax e = true := by
      intro e he
      obtain ⟨hb, h1, h2⟩ := edge_in hok he
      obtain ⟨a, ha⟩ := Int.eq_ofNat_of_zero_le h1.1
      obtain ⟨b, hb'⟩ := Int.eq_ofNat_of_zero_le h2.1
      rw [fine_iff2 k0 hb, fine_iff2 k1 hb, ha, hb']
      obtain ⟨f1, f2⟩ := fac_ends hok hc0 hc1 hax (k := a) (by omega)
      obtain ⟨f3, f4⟩ := fac_ends hok hc0 hc1 hax (k := b) (by omega)
      rw [f1, f2, f3, f4]
      have z0 : ((0 : Nat) : Int) < 1 + p.sheets := by omega
      have za : ((a : Nat) : Int) < 1 + p.sheets := by omega
      have zb : ((b : Nat) : Int) < 1 + p.sheets := by omega
      have hone := wk_one he
      rw [ha, hb', Int.toNat_natCast, Int.toNat_natCast] at hone
      have hpe : prE [e] = vR e.q := by show vR e.q * 1 = _; rw [Rat.mul_one]
      constructor
      · obtain ⟨r, w, w1, _, w3⟩ := dist_real hok ax z0 za
        obtain ⟨r', -⟩ := dist_real hok ax z0 zb
        have h := dist_least hok hc z0 zb (wk_append w1 hone)
        rw [prE_append, ← w3, hpe] at h
        generalize distF p ax 0 a = A at *
        generalize distF p ax 0 b = Bq at *
        have ia := vR_inv r.1 r.2.1
        have ib := vR_inv r'.1 r'.2.1
        have pa : 0 < vR (invR A) := vq_pos (show 0 < A.d by have := r.2.1; omega) (show 0 < A.n by have := r.1; omega)
        have pb : 0 < vR (invR Bq) := vq_pos (show 0 < Bq.d by have := r'.2.1; omega) (show 0 < Bq.n by have := r'.1; omega)
        have h2 := Rat.mul_le_mul_of_nonneg_right h (Rat.le_of_lt pb)
        rw [ib] at h2
        have h3 := Rat.mul_le_mul_of_nonneg_left h2 (Rat.le_of_lt pa)
        rw [Rat.mul_one] at h3
        refine Rat.le_trans h3 ?_
        have : vR (invR A) * (vR A * vR e.q * vR (invR Bq)) = vR A * vR (invR A) * (vR e.q * vR (invR Bq)) := by
          rw [Rat.mul_assoc, ← Rat.mul_assoc, Rat.mul_comm (vR (invR A))]
        rw [this, ia, Rat.one_mul]; exact Rat.le_refl
      · obtain ⟨r, w, w1, _, w3⟩ := dist_real hok ax zb z0
        have h := dist_least hok hc za z0 (wk_append hone w1)
        rw [prE_append, ← w3, hpe] at h
        exact h
    exact ⟨fun e he => (each e he).1, fun e he => (each e he).2⟩
  exact ⟨⟨hok, l0, k0, (key 0 rfl).1, (key 1 rfl).1⟩, ⟨hok, l1, k1, (key 0 rfl).2, (key 1 rfl).2⟩⟩
end
/-! ### comparing -/
def orderF (a b : Ratio) : Int := if ratioOK a && ratioOK b then cmpR a b else 2
theorem ratio_pos {r : Ratio} (h : ratioOK r = true) : 1 ≤ r.n ∧ 1 ≤ r.d := by
  simp only [ratioOK, Bool.and_eq_true, decide_eq_true_eq] at h
  omega
theorem order_le {a b : Ratio} (ha : ratioOK a = true) (hb : ratioOK b = true) : (orderF a b = -1 ∨ orderF a b = 0) ↔ vR a ≤ vR b := by
  obtain ⟨a1, a2⟩ := ratio_pos ha
  obtain ⟨b1, b2⟩ := ratio_pos hb
  unfold orderF
  rw [ha, hb]
  simp only [Bool.and_self, if_true]
  unfold vR
  rw [vq_le (by omega) (by omega)]
  unfold cmpR cmpI
  split
  · simp; omega
  · split <;> simp <;> omega
theorem order_ge {a b : Ratio} (ha : ratioOK a = true) (hb : ratioOK b = true) (h : vR b ≤ vR a) : ¬ orderF a b < 0 := by
  obtain ⟨a1, a2⟩ := ratio_pos ha
  obtain ⟨b1, b2⟩ := ratio_pos hb
  unfold vR at h
  rw [vq_le (by omega) (by omega)] at h
  unfold orderF
  rw [ha, hb]
  simp only [Bool.and_self, if_true]
  unfold cmpR cmpI
  split
  · omega
  · split <;> omega
/-- Are both factors of one sheet at most those of another one? -/
def le4 (a b : F4) : Prop := (orderF ⟨a.xn, a.xd⟩ ⟨b.xn, b.xd⟩ = -1 ∨ orderF ⟨a.xn, a.xd⟩ ⟨b.xn, b.xd⟩ = 0) ∧ (orderF ⟨a.yn, a.yd⟩ ⟨b.yn, b.yd⟩ = -1 ∨ orderF ⟨a.yn, a.yd⟩ ⟨b.yn, b.yd⟩ = 0)
theorem f4_parts {f : F4} (h : f4OK f = true) : ratioOK ⟨f.xn, f.xd⟩ = true ∧ ratioOK ⟨f.yn, f.yd⟩ = true := by
  simpa [f4OK] using h
theorem sheet_lt {p : Paper} {fs : List F4} (hF : Fine p fs) {i : Nat} {f : F4} (hf : fs[i]? = some f) : (i : Int) < p.sheets := by
  have h1 := (List.getElem?_eq_some_iff.1 hf).1
  have h2 := hF.len
  omega
theorem below_ends {p : Paper} {fs : List F4} (hF : Fine p fs) (hc0 : clashA p 0 = none) (hc1 : clashA p 1 = none) : (∀ (i : Nat) a b, (endsF0 p)[i]? = some a → fs[i]? = some b → le4 a b) ∧ (∀ (i : Nat) a b, fs[i]? = some a → (endsF1 p)[i]? = some b → le4 a b) := by
  obtain ⟨k0, k1⟩ := ends_ok hF.ok hc0 hc1
  have hx := show zR 0 = true from rfl
  have hy := show zR 1 = true from rfl
  constructor
  · intro i a b ha hb
    have hi := (sheet_lt hF hb)
    obtain ⟨e0, -⟩ := ends_at hF.ok hi
    rw [e0] at ha; cases ha
    obtain ⟨q1, q2⟩ := f4_parts (List.all_eq_true.1 k0 _ (List.mem_of_getElem? e0))
    obtain ⟨r1, r2⟩ := f4_parts (List.all_eq_true.1 hF.all _ (List.mem_of_getElem? hb))
    exact ⟨(order_le q1 r1).2 (fine_between hF hx hb).2, (order_le q2 r2).2 (fine_between hF hy hb).2⟩
  · intro i a b ha hb
    have hi := (sheet_lt hF ha)
    obtain ⟨-, e1⟩ := ends_at hF.ok hi
    rw [e1] at hb; cases hb
    obtain ⟨q1, q2⟩ := f4_parts (List.all_eq_true.1 k1 _ (List.mem_of_getElem? e1))
    obtain ⟨r1, r2⟩ := f4_parts (List.all_eq_true.1 hF.all _ (List.mem_of_getElem? ha))
    exact ⟨(order_le r1 q1).2 (fine_between hF hx ha).1, (order_le r2 q2).2 (fine_between hF hy ha).1⟩
theorem accepted {p : Paper} {sh ax : Int} {g : Bool} {bd : Ratio} {l : List Reason} (h : proofC p sh ax g bd l = 0) (hp : possibleF p = true) : zr p = true ∧ zz p sh = true ∧ zR ax = true ∧ (g = true → ¬ orderF bd (hiF p sh ax) < 0) ∧ (g = false → orderF bd (loF p sh ax) = -1 ∨ orderF bd (loF p sh ax) = 0) := by
  unfold proofC at h
  split at h
  · rename_i hok
    split at h
    · rename_i h2
      split at h
      · rename_i h3
        simp only [Bool.and_eq_true] at h2
        obtain ⟨⟨hs, hax⟩, hb⟩ := h2
        have hc := poss_none hp hax
        obtain ⟨i, hi, l1, l2⟩ := sheet_nat hs
        have g1 := hi_good hok hc (i := i) (by omega)
        have g2 := lo_good hok hc (i := i) (by omega)
        refine ⟨hok, hs, hax, fun hg => ?_, fun hg => ?_⟩
        · subst hg
          cases hf : followO p ax l with
          | none => rw [hf] at h3; cases h3
          | some t =>
            obtain ⟨s, a, q⟩ := t
            rw [hf] at h3
            simp only [ans96, proves, if_true, Bool.and_eq_true, beq_iff_eq] at h3
            obtain ⟨e1, e2, e3⟩ := h3
            obtain ⟨r, _⟩ := follow_inv hok hf
            obtain ⟨w, _, w2, w3⟩ := follow_real hok hf
            rw [e1, e2, l2] at w2
            have h4 := dist_least hok hc l1 (show ((0 : Nat) : Int) < 1 + p.sheets by omega) w2
            rw [← w3] at h4
            have h5 : vR q ≤ vR bd := (vq_le (by have := r.2.1; omega) (by have := (ratio_pos hb).2; omega)).2 (by simpa [leR] using e3)
            rw [hi] at *
            exact order_ge hb (ratio_good g1) (by rw [hi_dist]; exact Rat.le_trans h4 h5)
        · subst hg
          cases hf : followO p ax l with
          | none => rw [hf] at h3; cases h3
          | some t =>
            obtain ⟨s, a, q⟩ := t
            rw [hf] at h3
            simp only [ans96, proves, Bool.false_eq_true, if_false, Bool.and_eq_true, beq_iff_eq] at h3
            obtain ⟨e1, e2, e3⟩ := h3
            obtain ⟨r, _⟩ := follow_inv hok hf
            obtain ⟨w, _, w2, w3⟩ := follow_real hok hf
            rw [e1, e2, l2] at w2
            have h4 := dist_least hok hc (show ((0 : Nat) : Int) < 1 + p.sheets by omega) l1 w2
            rw [← w3] at h4
            obtain ⟨b1, b2⟩ := ratio_pos hb
            have h5 : vR q ≤ vR (invR bd) := (vq_le (by have := r.2.1; omega) (show 0 < bd.n by omega)).2 (by simpa [leR, invR] using e3)
            have h6 := Rat.le_trans h4 h5
            rw [hi]
            refine (order_le hb (ratio_good g2)).2 ?_
            rw [lo_dist2]
            obtain ⟨rd, -⟩ := dist_real hok ax (show ((0 : Nat) : Int) < 1 + p.sheets by omega) l1
            have hb3 := vR_inv b1 b2
            have hd3 := vR_inv rd.1 rd.2.1
            have pb : 0 < vR bd := vq_pos (by omega) (by omega)
            have pd : 0 < vR (invR (distF p ax 0 (1 + i))) := vq_pos (show 0 < (distF p ax 0 (1 + i)).d by have := rd.2.1; omega) (show 0 < (distF p ax 0 (1 + i)).n by have := rd.1; omega)
            have h7 := Rat.mul_le_mul_of_nonneg_left h6 (Rat.le_of_lt pb)
            rw [hb3] at h7
            have h8 := Rat.mul_le_mul_of_nonneg_right h7 (Rat.le_of_lt pd)
            rw [Rat.mul_assoc, hd3, Rat.mul_one, Rat.one_mul] at h8
            exact h8
      · cases h
    · cases h
  · cases h
theorem fine_noclash2 {p : Paper} {fs : List F4} (hF : Fine p fs) (l : List Reason) : clashC p l = 32 := by
  have key : ∀ ax, zR ax = true → ans92 (followO p ax l) = false := by
    intro ax hax
    cases h : followO p ax l with
    | none => rfl
    | some t =>
      obtain ⟨s, a, q⟩ := t
      obtain ⟨r, h1, h2, -, -⟩ := follow_inv hF.ok h
      obtain ⟨w, w1, w2, w3⟩ := follow_real hF.ok h
      simp only [ans92]
      by_cases hsa : s = a
      · subst hsa
        have hone := fine_closed hF hax w2
        cases hlt : ltR q one1 with
        | false => simp
        | true =>
          rw [ltR_iff r.2.1 (by decide), one_vR, w3] at hlt
          exact absurd hlt (Rat.not_lt.2 hone)
      · simp [hsa]
  unfold clashC clashOK
  rw [hF.ok, key 0 rfl, key 1 rfl]
  rfl
end Go.VS
namespace Go.VS
open Go Go.Proofs
set_option maxHeartbeats 0
set_option linter.unusedSimpArgs false

set_option maxRecDepth 100000
theorem ckI {S : Sm} {objs : List (Nat × Ob)} {nxt : Nat} {args : List D} : zw cfg S objs nxt 62 args = callInl S objs nxt 62 args := by
  simp only [zw, cfg_fn, cfn62]
  rfl
theorem i62 : (lim cfg).inl 62 [] [] 0 = some (.agg [I 2, .lsl 1 0 1 5 (some 1), .lsl 2 0 1 7 (some 1)], [(0, ⟨[.agg [I 2, .lsl 1 0 1 5 (some 1), .lsl 2 0 1 7 (some 1)]], 3, false⟩), (1, ⟨[.agg [I 0, I 0, I 100, I 98, I 1]], 5, false⟩), (2, ⟨[.agg [I 0, I 1, I 0, I 50, I 1, I 100, I 2]], 7, false⟩)], 3) := inl_of (by kernel_rfl)
theorem wf1 : example1.wf := ⟨by simp [example1], by simp [example1], by simp [example1], by simp [example1]⟩
def example2 : Paper := ⟨2, false, [⟨0, 0, 100, 98, 1⟩, ⟨1, 0, 10, 10, 0⟩], false, [⟨0, 1, 0, 50, 1, 100, 2⟩]⟩
theorem wf2 : example2.wf := ⟨by simp [example2], by simp [example2], by simp [example2], by simp [example2]⟩
theorem f20a : (lim cfg).pure 20 [.agg [I 2, .sl false [.agg [I 0, I 0, I 100, I 98, I 1]] 5 none, .sl false [.agg [I 0, I 1, I 0, I 50, I 1, I 100, I 2]] 7 none], I 0, I 0] = some (.tup [.agg [I 97, I 100], .agg [I 99, I 100], I 0]) := (t20 example1 0 0 wf1).trans (by kernel_rfl)
theorem f20b : (lim cfg).pure 20 [.agg [I 2, .sl false [.agg [I 0, I 0, I 100, I 98, I 1]] 5 none, .sl false [.agg [I 0, I 1, I 0, I 50, I 1, I 100, I 2]] 7 none], I 1, I 0] = some (.tup [.agg [I 4753, I 2550], .agg [I 2, I 1], I 0]) := (t20 example1 1 0 wf1).trans (by kernel_rfl)
theorem f19 : (lim cfg).pure 19 [.agg [I 2, .sl false [.agg [I 0, I 0, I 100, I 98, I 1]] 5 none, .sl false [.agg [I 0, I 1, I 0, I 50, I 1, I 100, I 2]] 7 none], I 0, I 1, I 0] = some (.tup [.agg [I 51, I 98], I 0]) := (t19 example1 0 1 0 wf1).trans (by kernel_rfl)
theorem f49 : (lim cfg).pure 49 [.agg [I 2, .sl false [.agg [I 0, I 0, I 100, I 98, I 1]] 5 none, .sl false [.agg [I 0, I 1, I 0, I 50, I 1, I 100, I 2]] 7 none], I 1, I 0, B false] = some (.tup [.sl false [.agg [B false, I 0, B true], .agg [B true, I 0, B false]] 3 none, I 0]) := (t49 example1 1 0 false wf1).trans (by kernel_rfl)
theorem f57 : (lim cfg).pure 57 [.sl false [.agg [B false, I 0, B true], .agg [B true, I 0, B false]] 3 none, .sl false [.agg [B false, I 0, B true], .agg [B true, I 0, B false]] 3 none] = some (B true) :=
  (t57 false false 3 3 [⟨false, 0, true⟩, ⟨true, 0, false⟩] [⟨false, 0, true⟩, ⟨true, 0, false⟩] (by simp) (by simp) (by simp) (by simp) (by simp) (by simp)).trans (by kernel_rfl)
theorem f71 : (lim cfg).pure 71 [.agg [I 2, .sl false [.agg [I 0, I 0, I 100, I 98, I 1]] 5 none, .sl false [.agg [I 0, I 1, I 0, I 50, I 1, I 100, I 2]] 7 none], I 0, .sl false [I 0] 1 none] = some (I 0) := (t71 example1 0 false [0] wf1 1 (by simp) (by simp) (by simp)).trans (by kernel_rfl)
theorem f73 : (lim cfg).pure 73 [.agg [I 2, .sl false [.agg [I 0, I 0, I 100, I 98, I 1]] 5 none, .sl false [.agg [I 0, I 1, I 0, I 50, I 1, I 100, I 2]] 7 none], I 0, I 0] = some (.agg [I 97, I 100, I 99, I 100]) := (t73 example1 0 0 wf1 (by kernel_rfl) (by kernel_rfl)).trans (by kernel_rfl)
theorem f89 : (lim cfg).pure 89 [.agg [I 10, I 10], .agg [I 100, I 99], .agg [I 100, I 97]] = some (.agg [I 10, I 11]) := lim_pure.2 ⟨30, by kernel_rfl⟩
theorem f85 : (lim cfg).pure 85 [.agg [I 10, I 10]] = some (B true) := (t85 ⟨10, 10⟩).trans (by kernel_rfl)
theorem f86 : (lim cfg).pure 86 [.agg [I 2, .sl false [.agg [I 0, I 0, I 100, I 98, I 1]] 5 none, .sl false [.agg [I 0, I 1, I 0, I 50, I 1, I 100, I 2]] 7 none], I 0, I 0, .agg [I 10, I 10]] = some (.agg [I 10, I 11]) := by
  refine zu (zn 86) cfn86 rfl (n := 22) rfl ?_
  simp only [bW, if_true, Nat.reduceEqDiff, if_false, zp]
  repeat' first
    | (intro hb; first | cases hb | skip)
    | ((first | apply z9 | apply zh)
       · rfl
       · simp (disch := assumption) only [go_sem, Nat.reduceEqDiff, Nat.reduceAdd, bP, zj, Nat.reduceLeDiff, Nat.reduceLT, Nat.reduceMul, List.length_append, decide_eq_true_eq, zc, z7, Int.reduceToNat, Int.reduceLE, Int.reduceLT, Int.reduceBNe, Int.reduceBEq, f73, t97, f89]
         rfl
       · simp only [go_sem, Nat.reduceLT, Nat.reduceEqDiff]
         rfl
       · rfl
       first
       | (apply zg
          · simp only [z6, z5, Nat.reduceLT, decide_true, cond_true, ins]
            rfl
          · simp only [z6, z5, Nat.reduceLT, decide_true, cond_true, ins]
            rfl)
       | (apply zl
          · simp only [z6, z5, Nat.reduceLT, decide_true, cond_true, ins]
            rfl))
    | ((first | apply ze | apply zf)
       · rfl
       · simp only [z6, z5, Nat.reduceLT, decide_true, cond_true, ins]
         rfl)
    | (apply zd
       · simp only [go_sem, Nat.reduceEqDiff])
    | (apply z8
       · simp only [go_sem, Nat.reduceEqDiff])
    | (apply zk
       · kernel_rfl
       · kernel_rfl)
    | (simp only [bW, if_true, Nat.reduceEqDiff, if_false])
  all_goals try simp only [go_sem, Nat.reduceEqDiff, bP, Nat.reduceAdd, Nat.reduceLeDiff, List.length_map, Tryd.f86]
  all_goals first | done | rfl | (simp_all []; done) | trace_state

theorem f38 : (lim cfg).pure 38 [.agg [I 2, .sl false [.agg [I 0, I 0, I 100, I 98, I 1]] 5 none, .sl false [.agg [I 0, I 1, I 0, I 50, I 1, I 100, I 2]] 7 none], I 0, I 0, .agg [I 10, I 10]] = some (.tup [.agg [I 10, I 11], I 0]) := by
  refine zu (zn 38) cfn38 rfl (n := 29) rfl ?_
  simp only [bW, if_true, Nat.reduceEqDiff, if_false, zp]
  repeat' first
    | (intro hb; first | cases hb | skip)
    | ((first | apply z9 | apply zh)
       · rfl
       · simp (disch := assumption) only [go_sem, Nat.reduceEqDiff, Nat.reduceAdd, bP, zj, Nat.reduceLeDiff, Nat.reduceLT, Nat.reduceMul, List.length_append, decide_eq_true_eq, zc, z7, Int.reduceToNat, Int.reduceLE, Int.reduceLT, Int.reduceBNe, Int.reduceBEq, f71, f85, f86, show ((0 : Int) != 0) = false from rfl]
         rfl
       · simp only [go_sem, Nat.reduceLT, Nat.reduceEqDiff]
         rfl
       · rfl
       first
       | (apply zg
          · simp only [z6, z5, Nat.reduceLT, decide_true, cond_true, ins]
            rfl
          · simp only [z6, z5, Nat.reduceLT, decide_true, cond_true, ins]
            rfl)
       | (apply zl
          · simp only [z6, z5, Nat.reduceLT, decide_true, cond_true, ins]
            rfl))
    | ((first | apply ze | apply zf)
       · rfl
       · simp only [z6, z5, Nat.reduceLT, decide_true, cond_true, ins]
         rfl)
    | (apply zd
       · simp only [go_sem, Nat.reduceEqDiff])
    | (apply z8
       · simp only [go_sem, Nat.reduceEqDiff])
    | (apply zk
       · kernel_rfl
       · kernel_rfl)
    | (simp only [bW, if_true, Nat.reduceEqDiff, if_false])
  all_goals try simp only [go_sem, Nat.reduceEqDiff, bP, Nat.reduceAdd, Nat.reduceLeDiff, List.length_map, Tryd.f38]
  all_goals first | done | rfl | (simp_all []; done) | trace_state

theorem f18 : (lim cfg).pure 18 [.agg [I 2, .sl false [.agg [I 0, I 0, I 100, I 98, I 1]] 5 none, .sl false [.agg [I 0, I 1, I 0, I 50, I 1, I 100, I 2]] 7 none], .sl false [.agg [I 98, I 100, I 1, I 1], .agg [I 196, I 100, I 1, I 1]] 4 none] = some (I 0) := (t18 example1 [⟨98, 100, 1, 1⟩, ⟨196, 100, 1, 1⟩] false 4 wf1 (by simp) (by simp) (by simp)).trans (by kernel_rfl)
theorem f30 : (lim cfg).pure 30 [.agg [I 2, .sl false [.agg [I 0, I 0, I 100, I 98, I 1], .agg [I 1, I 0, I 10, I 10, I 0]] 5 none, .sl false [.agg [I 0, I 1, I 0, I 50, I 1, I 100, I 2]] 7 none]] = some (.tup [B false, I 0]) := (t30 example2 wf2).trans (by kernel_rfl)
theorem f48 : (lim cfg).pure 48 [.agg [I 2, .sl false [.agg [I 0, I 0, I 100, I 98, I 1], .agg [I 1, I 0, I 10, I 10, I 0]] 5 none, .sl false [.agg [I 0, I 1, I 0, I 50, I 1, I 100, I 2]] 7 none]] = some (clashD (clashR example2)) := (t48 example2 wf2).trans (by kernel_rfl)
theorem f48' : ∃ w r, (lim cfg).pure 48 [.agg [I 2, .sl false [.agg [I 0, I 0, I 100, I 98, I 1], .agg [I 1, I 0, I 10, I 10, I 0]] 5 none, .sl false [.agg [I 0, I 1, I 0, I 50, I 1, I 100, I 2]] 7 none]] = some (.tup [.sl false (List.map encW (w :: r)) 3 none, B true, I 0]) := by
  have h : ((clashR example2).map fun c => c.why.isEmpty) = some false := by kernel_rfl
  rw [f48]
  cases hc : clashR example2 with
  | none => rw [hc] at h; cases h
  | some c =>
    rw [hc] at h
    obtain ⟨q, ws⟩ := c
    cases ws with
    | nil => simp at h
    | cons w r => exact ⟨w, r, rfl⟩
theorem f15 : (lim cfg).pure 15 [.agg [I 0, .sl true [] 0 none, .sl true [] 0 none]] = some (I 30) := lim_pure.2 ⟨30, by kernel_rfl⟩

theorem t14 : (lim cfg).pure 14 [] = some (B true) := by
  obtain ⟨w, r, hf48⟩ := f48'
  refine zu (zn 14) cfn14 rfl (n := 153) rfl ?_
  simp only [bW, if_true, Nat.reduceEqDiff, if_false, zp]
  repeat' first
    | (intro hb; first | cases hb | skip)
    | ((first | apply z9 | apply zh)
       · rfl
       · simp (disch := assumption) only [go_sem, Nat.reduceEqDiff, Nat.reduceAdd, bP, zj, Nat.reduceLeDiff, Nat.reduceLT, Nat.reduceMul, List.length_append, decide_eq_true_eq, zc, z7, Int.reduceToNat, Int.reduceLE, Int.reduceLT, Int.reduceBNe, Int.reduceBEq, ckI, i62, callInl, allBelow, only, keysO, allUpd, f20a, f20b, f19, f49, f57, t21, encR, f38, f18, f30, hf48, f15, whyD_one, zJ, show ((0 : Int) != 0) = false from rfl]
         rfl
       · simp only [go_sem, Nat.reduceLT, Nat.reduceEqDiff]
         rfl
       · rfl
       first
       | (apply zg
          · simp only [z6, z5, Nat.reduceLT, decide_true, cond_true, ins]
            rfl
          · simp only [z6, z5, Nat.reduceLT, decide_true, cond_true, ins]
            rfl)
       | (apply zl
          · simp only [z6, z5, Nat.reduceLT, decide_true, cond_true, ins]
            rfl))
    | ((first | apply ze | apply zf)
       · rfl
       · simp only [z6, z5, Nat.reduceLT, decide_true, cond_true, ins]
         rfl)
    | (apply zd
       · simp only [go_sem, Nat.reduceEqDiff])
    | (apply z8
       · simp only [go_sem, Nat.reduceEqDiff])
    | (apply zk
       · kernel_rfl
       · kernel_rfl)
    | (simp only [bW, if_true, Nat.reduceEqDiff, if_false])
  all_goals try simp only [go_sem, Nat.reduceEqDiff, bP, Nat.reduceAdd, Nat.reduceLeDiff, List.length_map, Tryd.f14]
  all_goals first | done | rfl | (simp_all []; done) | trace_state

end Go.VS
namespace Go.VS
open Go Go.Proofs
set_option maxHeartbeats 0
set_option linter.unusedSimpArgs false

noncomputable def lp16_2 : Code := zM [1, 0, 1, 0, 0] (zy Tryd.f16)
theorem lk16_2 : cfg.keep 16 (zA lp16_2) = [1, 2, 9, 10, 11] := by kernel_rfl
noncomputable def lp16_5 : Code := zM [1, 0, 1, 0, 0, 1, 1, 0, 0, 1, 1, 0, 0] (zy Tryd.f16)
theorem lk16_5 : cfg.keep 16 (zA lp16_5) = [1, 2, 9, 10, 11, 15, 16] := by kernel_rfl

def smallR (n d : Int) : Bool := decide (1 ≤ n) && decide (1 ≤ d) && decide (n ≤ 100000) && decide (d ≤ 100000)
def small4 (f : F4) : Bool := smallR f.xn f.xd && smallR f.yn f.yd
def plainF (p : Paper) (fs : List F4) : Bool := fs.all small4 && decide ((fs.length : Int) = p.sheets)

theorem L16_2 {F : Exit → St → Option D} (p : Paper) (fs : List F4) (nf : Bool) (sf : Nat) (k : List Kt) (x : D) (hnf : nf = true → fs = []) (hsf : nf = false → sf = 4) (hl : fs.length ≤ 9223372036854775807) (hk : ∀ st, get st.tmps 4 = B false → zH cfg (lim cfg) 16 F k .ret st = some (B false)) : ∀ (rest : List F4) (i : Nat), fs.drop i = rest → i ≤ fs.length →
    (rest.all small4 = true → zH cfg (lim cfg) 16 F k (.exit 0) ⟨44, [(12, B false), (1, .sl nf (fs.map encF) sf none), (2, .lref 0 0 3 0), (9, .sl nf (fs.map encF) sf none), (10, I fs.length), (11, I (fs.length : Nat))], [(0, ⟨[zN p], 3, false⟩)], 1, 0⟩ = some x) →
    (rest.all small4 = false → x = B false) →
    EvL cfg (lim cfg) 16 F lp16_2 k ⟨44, [(1, .sl nf (fs.map encF) sf none), (2, .lref 0 0 3 0), (9, .sl nf (fs.map encF) sf none), (10, I fs.length), (11, I (i : Nat))], [(0, ⟨[zN p], 3, false⟩)], 1, 0⟩ = some x := by
  intro rest
  induction rest with
  | nil =>
    intro i hd hi h h'
    have hi' : i = fs.length := by
      have := List.drop_eq_nil_iff.1 hd
      omega
    subst hi'
    refine zq ?_
    try dsimp only [lp16_2, zM, zy, Tryd.f16]
    simp only [bW, if_true, Nat.reduceEqDiff, if_false]
    repeat' first
      | (intro hb; first | cases hb | skip)
      | ((first | apply z9 | apply zh)
         · rfl
         · simp (disch := assumption) only [go_sem, Nat.reduceEqDiff, Nat.reduceAdd, bP, zj, Nat.reduceLeDiff, Nat.reduceLT, Nat.reduceMul, List.length_append, decide_eq_true_eq, zc, z7, Int.reduceToNat, Int.reduceLE, Int.reduceLT, Int.reduceBNe, Int.reduceBEq, Int.lt_irrefl]
           rfl
         · simp only [go_sem, Nat.reduceLT, Nat.reduceEqDiff]
           rfl
         · rfl
         first
         | (apply zg
            · simp only [z6, z5, Nat.reduceLT, decide_true, cond_true, ins]
              rfl
            · simp only [z6, z5, Nat.reduceLT, decide_true, cond_true, ins]
              rfl)
         | (apply zl
            · simp only [z6, z5, Nat.reduceLT, decide_true, cond_true, ins]
              rfl))
      | ((first | apply ze | apply zf)
         · rfl
         · simp only [z6, z5, Nat.reduceLT, decide_true, cond_true, ins]
           rfl)
      | (apply zd
         · simp only [go_sem, Nat.reduceEqDiff])
      | (apply z8
         · simp only [go_sem, Nat.reduceEqDiff])
      | (apply zk
         · kernel_rfl
         · kernel_rfl)
      | (simp only [bW, if_true, Nat.reduceEqDiff, if_false])
    exact h rfl
  | cons f rest ih =>
    intro i hd hi h h'
    have hlt : i < fs.length := by
      rcases Nat.lt_or_ge i fs.length with h | h
      · exact h
      · rw [List.drop_eq_nil_of_le h] at hd; cases hd
    have hf : fs[i]? = some f := by rw [← List.head?_drop, hd]; rfl
    have hx : (fs.map encF)[i]? = some (.agg [I f.xn, I f.xd, I f.yn, I f.yd]) := by rw [List.getElem?_map, hf]; rfl
    have hnf' : nf = false := by
      cases h : nf with
      | false => rfl
      | true => rw [hnf h] at hlt; cases hlt
    have hs1 := hsf hnf'
    clear hsf
    subst hs1
    have hlt' : (i : Int) < (fs.length : Int) := by omega
    have hw3 : IntKind.i64.wrap ((i : Int) + 1) = ((i + 1 : Nat) : Int) := by rw [wrap_i64 (by omega) (by omega)]; omega
    cases h1 : smallR f.xn f.xd with
    | false =>
      rw [h' (by simp [small4, h1])]
      simp only [smallR, Bool.and_eq_false_iff, decide_eq_false_iff_not] at h1
      refine zq ?_
      try dsimp only [lp16_2, zM, zy, Tryd.f16]
      simp only [bW, if_true, Nat.reduceEqDiff, if_false]
      repeat' first
        | (intro hb; first | cases hb | skip)
        | ((first | apply z9 | apply zh)
           · rfl
           · simp (disch := assumption) only [go_sem, Nat.reduceEqDiff, Nat.reduceAdd, bP, zj, Nat.reduceLeDiff, Nat.reduceLT, Nat.reduceMul, List.length_append, decide_eq_true_eq, zc, z7, Int.reduceToNat, Int.reduceLE, Int.reduceLT, Int.reduceBNe, Int.reduceBEq, hx, hnf', hlt', hw3, show (0 : Nat) < 2 from by decide, show (1 : Nat) < 2 from by decide, show IntKind.i64.wrap (0 + 1) = 1 from by decide, show IntKind.i64.wrap (1 + 1) = 2 from by decide]
             rfl
           · simp only [go_sem, Nat.reduceLT, Nat.reduceEqDiff]
             rfl
           · rfl
           first
           | (apply zg
              · simp only [z6, z5, Nat.reduceLT, decide_true, cond_true, ins]
                rfl
              · simp only [z6, z5, Nat.reduceLT, decide_true, cond_true, ins]
                rfl)
           | (apply zl
              · simp only [z6, z5, Nat.reduceLT, decide_true, cond_true, ins]
                rfl))
        | ((first | apply ze | apply zf)
           · rfl
           · simp only [z6, z5, Nat.reduceLT, decide_true, cond_true, ins]
             rfl)
        | (apply zd
           · simp only [go_sem, Nat.reduceEqDiff])
        | (apply z8
           · simp only [go_sem, Nat.reduceEqDiff])
        | (apply zk
           · kernel_rfl
           · kernel_rfl)
        | (simp only [bW, if_true, Nat.reduceEqDiff, if_false])
      refine w_loop (st1 := ⟨44, [(1, .sl nf (fs.map encF) 4 none), (2, .lref 0 0 3 0), (9, .sl nf (fs.map encF) 4 none), (10, I fs.length), (11, I (i : Nat)), (15, .agg [I f.xn, I f.xd, I f.yn, I f.yd]), (16, I 0)], [(0, ⟨[zN p], 3, false⟩)], 1, 0⟩) lk16_5 (by kernel_rfl) ?_
      refine zq ?_
      try dsimp only [lp16_5, zM, zy, Tryd.f16]
      simp only [bW, if_true, Nat.reduceEqDiff, if_false]
      repeat' first
        | (intro hb; first | cases hb | skip)
        | ((first | apply z9 | apply zh)
           · rfl
           · simp (disch := assumption) only [go_sem, Nat.reduceEqDiff, Nat.reduceAdd, bP, zj, Nat.reduceLeDiff, Nat.reduceLT, Nat.reduceMul, List.length_append, decide_eq_true_eq, zc, z7, Int.reduceToNat, Int.reduceLE, Int.reduceLT, Int.reduceBNe, Int.reduceBEq, hx, hnf', hlt', hw3, show (0 : Nat) < 2 from by decide, show (1 : Nat) < 2 from by decide, show IntKind.i64.wrap (0 + 1) = 1 from by decide, show IntKind.i64.wrap (1 + 1) = 2 from by decide]
             rfl
           · simp only [go_sem, Nat.reduceLT, Nat.reduceEqDiff]
             rfl
           · rfl
           first
           | (apply zg
              · simp only [z6, z5, Nat.reduceLT, decide_true, cond_true, ins]
                rfl
              · simp only [z6, z5, Nat.reduceLT, decide_true, cond_true, ins]
                rfl)
           | (apply zl
              · simp only [z6, z5, Nat.reduceLT, decide_true, cond_true, ins]
                rfl))
        | ((first | apply ze | apply zf)
           · rfl
           · simp only [z6, z5, Nat.reduceLT, decide_true, cond_true, ins]
             rfl)
        | (apply zd
           · simp only [go_sem, Nat.reduceEqDiff])
        | (apply z8
           · simp only [go_sem, Nat.reduceEqDiff])
        | (apply zk
           · kernel_rfl
           · kernel_rfl)
        | (simp only [bW, if_true, Nat.reduceEqDiff, if_false])
      all_goals first | exact hk _ rfl | (exfalso; simp_all; omega)
    | true =>
      simp only [smallR, Bool.and_eq_true, decide_eq_true_eq] at h1
      have a1 : (f.xn < 1) = False := by simp; omega
      have a2 : (f.xd < 1) = False := by simp; omega
      have a3 : (f.xn > 100000) = False := by simp; omega
      have a4 : (f.xd > 100000) = False := by simp; omega
      cases h2 : smallR f.yn f.yd with
      | false =>
        rw [h' (by simp [small4, h2])]
        simp only [smallR, Bool.and_eq_false_iff, decide_eq_false_iff_not] at h2
        refine zq ?_
        try dsimp only [lp16_2, zM, zy, Tryd.f16]
        simp only [bW, if_true, Nat.reduceEqDiff, if_false]
        repeat' first
          | (intro hb; first | cases hb | skip)
          | ((first | apply z9 | apply zh)
             · rfl
             · simp (disch := assumption) only [go_sem, Nat.reduceEqDiff, Nat.reduceAdd, bP, zj, Nat.reduceLeDiff, Nat.reduceLT, Nat.reduceMul, List.length_append, decide_eq_true_eq, zc, z7, Int.reduceToNat, Int.reduceLE, Int.reduceLT, Int.reduceBNe, Int.reduceBEq, hx, hnf', hlt', hw3, show (0 : Nat) < 2 from by decide, show (1 : Nat) < 2 from by decide, show IntKind.i64.wrap (0 + 1) = 1 from by decide, show IntKind.i64.wrap (1 + 1) = 2 from by decide]
               rfl
             · simp only [go_sem, Nat.reduceLT, Nat.reduceEqDiff]
               rfl
             · rfl
             first
             | (apply zg
                · simp only [z6, z5, Nat.reduceLT, decide_true, cond_true, ins]
                  rfl
                · simp only [z6, z5, Nat.reduceLT, decide_true, cond_true, ins]
                  rfl)
             | (apply zl
                · simp only [z6, z5, Nat.reduceLT, decide_true, cond_true, ins]
                  rfl))
          | ((first | apply ze | apply zf)
             · rfl
             · simp only [z6, z5, Nat.reduceLT, decide_true, cond_true, ins]
               rfl)
          | (apply zd
             · simp only [go_sem, Nat.reduceEqDiff])
          | (apply z8
             · simp only [go_sem, Nat.reduceEqDiff])
          | (apply zk
             · kernel_rfl
             · kernel_rfl)
          | (simp only [bW, if_true, Nat.reduceEqDiff, if_false])
        refine w_loop (st1 := ⟨44, [(1, .sl nf (fs.map encF) 4 none), (2, .lref 0 0 3 0), (9, .sl nf (fs.map encF) 4 none), (10, I fs.length), (11, I (i : Nat)), (15, .agg [I f.xn, I f.xd, I f.yn, I f.yd]), (16, I 0)], [(0, ⟨[zN p], 3, false⟩)], 1, 0⟩) lk16_5 (by kernel_rfl) ?_
        refine zq ?_
        try dsimp only [lp16_5, zM, zy, Tryd.f16]
        simp only [bW, if_true, Nat.reduceEqDiff, if_false]
        repeat' first
          | (intro hb; first | cases hb | skip)
          | ((first | apply z9 | apply zh)
             · rfl
             · simp (disch := assumption) only [go_sem, Nat.reduceEqDiff, Nat.reduceAdd, bP, zj, Nat.reduceLeDiff, Nat.reduceLT, Nat.reduceMul, List.length_append, decide_eq_true_eq, zc, z7, Int.reduceToNat, Int.reduceLE, Int.reduceLT, Int.reduceBNe, Int.reduceBEq, hx, hnf', hlt', hw3, show (0 : Nat) < 2 from by decide, show (1 : Nat) < 2 from by decide, show IntKind.i64.wrap (0 + 1) = 1 from by decide, show IntKind.i64.wrap (1 + 1) = 2 from by decide, a1, a2, a3, a4]
               rfl
             · simp only [go_sem, Nat.reduceLT, Nat.reduceEqDiff]
               rfl
             · rfl
             first
             | (apply zg
                · simp only [z6, z5, Nat.reduceLT, decide_true, cond_true, ins]
                  rfl
                · simp only [z6, z5, Nat.reduceLT, decide_true, cond_true, ins]
                  rfl)
             | (apply zl
                · simp only [z6, z5, Nat.reduceLT, decide_true, cond_true, ins]
                  rfl))
          | ((first | apply ze | apply zf)
             · rfl
             · simp only [z6, z5, Nat.reduceLT, decide_true, cond_true, ins]
               rfl)
          | (apply zd
             · simp only [go_sem, Nat.reduceEqDiff])
          | (apply z8
             · simp only [go_sem, Nat.reduceEqDiff])
          | (apply zk
             · kernel_rfl
             · kernel_rfl)
          | (simp only [bW, if_true, Nat.reduceEqDiff, if_false])
        refine zG (st1 := ⟨44, [(1, .sl nf (fs.map encF) 4 none), (2, .lref 0 0 3 0), (9, .sl nf (fs.map encF) 4 none), (10, I fs.length), (11, I (i : Nat)), (15, .agg [I f.xn, I f.xd, I f.yn, I f.yd]), (16, I 1)], [(0, ⟨[zN p], 3, false⟩)], 1, 0⟩) lk16_5 (by kernel_rfl) ?_
        refine zq ?_
        try dsimp only [lp16_5, zM, zy, Tryd.f16]
        simp only [bW, if_true, Nat.reduceEqDiff, if_false]
        repeat' first
          | (intro hb; first | cases hb | skip)
          | ((first | apply z9 | apply zh)
             · rfl
             · simp (disch := assumption) only [go_sem, Nat.reduceEqDiff, Nat.reduceAdd, bP, zj, Nat.reduceLeDiff, Nat.reduceLT, Nat.reduceMul, List.length_append, decide_eq_true_eq, zc, z7, Int.reduceToNat, Int.reduceLE, Int.reduceLT, Int.reduceBNe, Int.reduceBEq, hx, hnf', hlt', hw3, show (0 : Nat) < 2 from by decide, show (1 : Nat) < 2 from by decide, show IntKind.i64.wrap (0 + 1) = 1 from by decide, show IntKind.i64.wrap (1 + 1) = 2 from by decide]
               rfl
             · simp only [go_sem, Nat.reduceLT, Nat.reduceEqDiff]
               rfl
             · rfl
             first
             | (apply zg
                · simp only [z6, z5, Nat.reduceLT, decide_true, cond_true, ins]
                  rfl
                · simp only [z6, z5, Nat.reduceLT, decide_true, cond_true, ins]
                  rfl)
             | (apply zl
                · simp only [z6, z5, Nat.reduceLT, decide_true, cond_true, ins]
                  rfl))
          | ((first | apply ze | apply zf)
             · rfl
             · simp only [z6, z5, Nat.reduceLT, decide_true, cond_true, ins]
               rfl)
          | (apply zd
             · simp only [go_sem, Nat.reduceEqDiff])
          | (apply z8
             · simp only [go_sem, Nat.reduceEqDiff])
          | (apply zk
             · kernel_rfl
             · kernel_rfl)
          | (simp only [bW, if_true, Nat.reduceEqDiff, if_false])
        all_goals first | exact hk _ rfl | (exfalso; simp_all; omega)
      | true =>
        have hs : small4 f = true := by simp [small4, smallR, h1, h2]; simp [smallR] at h2; omega
        simp only [List.all_cons, hs, Bool.true_and] at h h'
        simp only [smallR, Bool.and_eq_true, decide_eq_true_eq] at h2
        have b1 : (f.yn < 1) = False := by simp; omega
        have b2 : (f.yd < 1) = False := by simp; omega
        have b3 : (f.yn > 100000) = False := by simp; omega
        have b4 : (f.yd > 100000) = False := by simp; omega
        refine zq ?_
        try dsimp only [lp16_2, zM, zy, Tryd.f16]
        simp only [bW, if_true, Nat.reduceEqDiff, if_false]
        repeat' first
          | (intro hb; first | cases hb | skip)
          | ((first | apply z9 | apply zh)
             · rfl
             · simp (disch := assumption) only [go_sem, Nat.reduceEqDiff, Nat.reduceAdd, bP, zj, Nat.reduceLeDiff, Nat.reduceLT, Nat.reduceMul, List.length_append, decide_eq_true_eq, zc, z7, Int.reduceToNat, Int.reduceLE, Int.reduceLT, Int.reduceBNe, Int.reduceBEq, hx, hnf', hlt', hw3, show (0 : Nat) < 2 from by decide, show (1 : Nat) < 2 from by decide, show IntKind.i64.wrap (0 + 1) = 1 from by decide, show IntKind.i64.wrap (1 + 1) = 2 from by decide]
               rfl
             · simp only [go_sem, Nat.reduceLT, Nat.reduceEqDiff]
               rfl
             · rfl
             first
             | (apply zg
                · simp only [z6, z5, Nat.reduceLT, decide_true, cond_true, ins]
                  rfl
                · simp only [z6, z5, Nat.reduceLT, decide_true, cond_true, ins]
                  rfl)
             | (apply zl
                · simp only [z6, z5, Nat.reduceLT, decide_true, cond_true, ins]
                  rfl))
          | ((first | apply ze | apply zf)
             · rfl
             · simp only [z6, z5, Nat.reduceLT, decide_true, cond_true, ins]
               rfl)
          | (apply zd
             · simp only [go_sem, Nat.reduceEqDiff])
          | (apply z8
             · simp only [go_sem, Nat.reduceEqDiff])
          | (apply zk
             · kernel_rfl
             · kernel_rfl)
          | (simp only [bW, if_true, Nat.reduceEqDiff, if_false])
        refine w_loop (st1 := ⟨44, [(1, .sl nf (fs.map encF) 4 none), (2, .lref 0 0 3 0), (9, .sl nf (fs.map encF) 4 none), (10, I fs.length), (11, I (i : Nat)), (15, .agg [I f.xn, I f.xd, I f.yn, I f.yd]), (16, I 0)], [(0, ⟨[zN p], 3, false⟩)], 1, 0⟩) lk16_5 (by kernel_rfl) ?_
        refine zq ?_
        try dsimp only [lp16_5, zM, zy, Tryd.f16]
        simp only [bW, if_true, Nat.reduceEqDiff, if_false]
        repeat' first
          | (intro hb; first | cases hb | skip)
          | ((first | apply z9 | apply zh)
             · rfl
             · simp (disch := assumption) only [go_sem, Nat.reduceEqDiff, Nat.reduceAdd, bP, zj, Nat.reduceLeDiff, Nat.reduceLT, Nat.reduceMul, List.length_append, decide_eq_true_eq, zc, z7, Int.reduceToNat, Int.reduceLE, Int.reduceLT, Int.reduceBNe, Int.reduceBEq, hx, hnf', hlt', hw3, show (0 : Nat) < 2 from by decide, show (1 : Nat) < 2 from by decide, show IntKind.i64.wrap (0 + 1) = 1 from by decide, show IntKind.i64.wrap (1 + 1) = 2 from by decide, a1, a2, a3, a4]
               rfl
             · simp only [go_sem, Nat.reduceLT, Nat.reduceEqDiff]
               rfl
             · rfl
             first
             | (apply zg
                · simp only [z6, z5, Nat.reduceLT, decide_true, cond_true, ins]
                  rfl
                · simp only [z6, z5, Nat.reduceLT, decide_true, cond_true, ins]
                  rfl)
             | (apply zl
                · simp only [z6, z5, Nat.reduceLT, decide_true, cond_true, ins]
                  rfl))
          | ((first | apply ze | apply zf)
             · rfl
             · simp only [z6, z5, Nat.reduceLT, decide_true, cond_true, ins]
               rfl)
          | (apply zd
             · simp only [go_sem, Nat.reduceEqDiff])
          | (apply z8
             · simp only [go_sem, Nat.reduceEqDiff])
          | (apply zk
             · kernel_rfl
             · kernel_rfl)
          | (simp only [bW, if_true, Nat.reduceEqDiff, if_false])
        refine zG (st1 := ⟨44, [(1, .sl nf (fs.map encF) 4 none), (2, .lref 0 0 3 0), (9, .sl nf (fs.map encF) 4 none), (10, I fs.length), (11, I (i : Nat)), (15, .agg [I f.xn, I f.xd, I f.yn, I f.yd]), (16, I 1)], [(0, ⟨[zN p], 3, false⟩)], 1, 0⟩) lk16_5 (by kernel_rfl) ?_
        refine zq ?_
        try dsimp only [lp16_5, zM, zy, Tryd.f16]
        simp only [bW, if_true, Nat.reduceEqDiff, if_false]
        repeat' first
          | (intro hb; first | cases hb | skip)
          | ((first | apply z9 | apply zh)
             · rfl
             · simp (disch := assumption) only [go_sem, Nat.reduceEqDiff, Nat.reduceAdd, bP, zj, Nat.reduceLeDiff, Nat.reduceLT, Nat.reduceMul, List.length_append, decide_eq_true_eq, zc, z7, Int.reduceToNat, Int.reduceLE, Int.reduceLT, Int.reduceBNe, Int.reduceBEq, hx, hnf', hlt', hw3, show (0 : Nat) < 2 from by decide, show (1 : Nat) < 2 from by decide, show IntKind.i64.wrap (0 + 1) = 1 from by decide, show IntKind.i64.wrap (1 + 1) = 2 from by decide, b1, b2, b3, b4]
               rfl
             · simp only [go_sem, Nat.reduceLT, Nat.reduceEqDiff]
               rfl
             · rfl
             first
             | (apply zg
                · simp only [z6, z5, Nat.reduceLT, decide_true, cond_true, ins]
                  rfl
                · simp only [z6, z5, Nat.reduceLT, decide_true, cond_true, ins]
                  rfl)
             | (apply zl
                · simp only [z6, z5, Nat.reduceLT, decide_true, cond_true, ins]
                  rfl))
          | ((first | apply ze | apply zf)
             · rfl
             · simp only [z6, z5, Nat.reduceLT, decide_true, cond_true, ins]
               rfl)
          | (apply zd
             · simp only [go_sem, Nat.reduceEqDiff])
          | (apply z8
             · simp only [go_sem, Nat.reduceEqDiff])
          | (apply zk
             · kernel_rfl
             · kernel_rfl)
          | (simp only [bW, if_true, Nat.reduceEqDiff, if_false])
        refine zG (st1 := ⟨44, [(1, .sl nf (fs.map encF) 4 none), (2, .lref 0 0 3 0), (9, .sl nf (fs.map encF) 4 none), (10, I fs.length), (11, I (i : Nat)), (15, .agg [I f.xn, I f.xd, I f.yn, I f.yd]), (16, I 2)], [(0, ⟨[zN p], 3, false⟩)], 1, 0⟩) lk16_5 (by kernel_rfl) ?_
        refine zq ?_
        try dsimp only [lp16_5, zM, zy, Tryd.f16]
        simp only [bW, if_true, Nat.reduceEqDiff, if_false]
        repeat' first
          | (intro hb; first | cases hb | skip)
          | ((first | apply z9 | apply zh)
             · rfl
             · simp (disch := assumption) only [go_sem, Nat.reduceEqDiff, Nat.reduceAdd, bP, zj, Nat.reduceLeDiff, Nat.reduceLT, Nat.reduceMul, List.length_append, decide_eq_true_eq, zc, z7, Int.reduceToNat, Int.reduceLE, Int.reduceLT, Int.reduceBNe, Int.reduceBEq, hx, hnf', hlt', hw3, show (0 : Nat) < 2 from by decide, show (1 : Nat) < 2 from by decide, show IntKind.i64.wrap (0 + 1) = 1 from by decide, show IntKind.i64.wrap (1 + 1) = 2 from by decide]
               rfl
             · simp only [go_sem, Nat.reduceLT, Nat.reduceEqDiff]
               rfl
             · rfl
             first
             | (apply zg
                · simp only [z6, z5, Nat.reduceLT, decide_true, cond_true, ins]
                  rfl
                · simp only [z6, z5, Nat.reduceLT, decide_true, cond_true, ins]
                  rfl)
             | (apply zl
                · simp only [z6, z5, Nat.reduceLT, decide_true, cond_true, ins]
                  rfl))
          | ((first | apply ze | apply zf)
             · rfl
             · simp only [z6, z5, Nat.reduceLT, decide_true, cond_true, ins]
               rfl)
          | (apply zd
             · simp only [go_sem, Nat.reduceEqDiff])
          | (apply z8
             · simp only [go_sem, Nat.reduceEqDiff])
          | (apply zk
             · kernel_rfl
             · kernel_rfl)
          | (simp only [bW, if_true, Nat.reduceEqDiff, if_false])
        exact zG (st1 := ⟨44, [(1, .sl nf (fs.map encF) 4 none), (2, .lref 0 0 3 0), (9, .sl nf (fs.map encF) 4 none), (10, I fs.length), (11, I (i + 1 : Nat))], [(0, ⟨[zN p], 3, false⟩)], 1, 0⟩) lk16_2 (by kernel_rfl) (ih (i + 1) (by rw [← List.drop_drop, hd]; rfl) hlt h h')
theorem t16 (p : Paper) (fs : List F4) (nf : Bool) (sf : Nat) (hnf : nf = true → fs = []) (hsf : nf = false → sf = 4) (hl : fs.length ≤ 9223372036854775807) : (lim cfg).pure 16 [zN p, .sl nf (fs.map encF) sf none] = some (B (plainF p fs)) := by
  have hlf := len_if (f := encF) hnf
  refine zu (zn 16) cfn16 rfl (n := 44) rfl ?_
  generalize hF : finP cfg Tryd.f16 = F
  simp only [bW, if_true, Nat.reduceEqDiff, if_false, zp]
  repeat' first
    | (intro hb; first | cases hb | skip)
    | ((first | apply z9 | apply zh)
       · rfl
       · simp (disch := assumption) only [go_sem, Nat.reduceEqDiff, Nat.reduceAdd, bP, zj, Nat.reduceLeDiff, Nat.reduceLT, Nat.reduceMul, List.length_append, decide_eq_true_eq, zc, z7, Int.reduceToNat, Int.reduceLE, Int.reduceLT, Int.reduceBNe, Int.reduceBEq, hlf]
         rfl
       · simp only [go_sem, Nat.reduceLT, Nat.reduceEqDiff]
         rfl
       · rfl
       first
       | (apply zg
          · simp only [z6, z5, Nat.reduceLT, decide_true, cond_true, ins]
            rfl
          · simp only [z6, z5, Nat.reduceLT, decide_true, cond_true, ins]
            rfl)
       | (apply zl
          · simp only [z6, z5, Nat.reduceLT, decide_true, cond_true, ins]
            rfl))
    | ((first | apply ze | apply zf)
       · rfl
       · simp only [z6, z5, Nat.reduceLT, decide_true, cond_true, ins]
         rfl)
    | (apply zd
       · simp only [go_sem, Nat.reduceEqDiff])
    | (apply z8
       · simp only [go_sem, Nat.reduceEqDiff])
    | (apply zk
       · kernel_rfl
       · kernel_rfl)
    | (simp only [bW, if_true, Nat.reduceEqDiff, if_false])
  have hend : ∀ v st, get st.tmps 4 = B v → F .ret st = some (B v) := by
    intro v st hd
    subst hF
    simp only [go_sem, Nat.reduceEqDiff, bP, Nat.reduceAdd, Nat.reduceLeDiff, List.length_map, Tryd.f16, hd]
  refine w_loop (st1 := ⟨44, [(1, .sl nf (fs.map encF) sf none), (2, .lref 0 0 3 0), (9, .sl nf (fs.map encF) sf none), (10, I fs.length), (11, I (0 : Nat))], [(0, ⟨[zN p], 3, false⟩)], 1, 0⟩) lk16_2 (by kernel_rfl) (L16_2 p fs nf sf _ _ hnf hsf hl (fun st hd => ?_) fs 0 rfl (Nat.zero_le _) (fun ha => ?_) (fun ha => by simp [plainF, ha]))
  · simp only [bW, if_true, Nat.reduceEqDiff, if_false]
    exact hend false st hd
  · by_cases hlen : (fs.length : Int) = p.sheets
    · have hb : ((fs.length : Int) == p.sheets) = true := by simp [hlen]
      rw [show plainF p fs = true by simp [plainF, ha, hlen]]
      simp only [bW, if_true, Nat.reduceEqDiff, if_false]
      repeat' first
        | (intro hb; first | cases hb | skip)
        | ((first | apply z9 | apply zh)
           · rfl
           · simp (disch := assumption) only [go_sem, Nat.reduceEqDiff, Nat.reduceAdd, bP, zj, Nat.reduceLeDiff, Nat.reduceLT, Nat.reduceMul, List.length_append, decide_eq_true_eq, zc, z7, Int.reduceToNat, Int.reduceLE, Int.reduceLT, Int.reduceBNe, Int.reduceBEq, hlf, hb]
             rfl
           · simp only [go_sem, Nat.reduceLT, Nat.reduceEqDiff]
             rfl
           · rfl
           first
           | (apply zg
              · simp only [z6, z5, Nat.reduceLT, decide_true, cond_true, ins]
                rfl
              · simp only [z6, z5, Nat.reduceLT, decide_true, cond_true, ins]
                rfl)
           | (apply zl
              · simp only [z6, z5, Nat.reduceLT, decide_true, cond_true, ins]
                rfl))
        | ((first | apply ze | apply zf)
           · rfl
           · simp only [z6, z5, Nat.reduceLT, decide_true, cond_true, ins]
             rfl)
        | (apply zd
           · simp only [go_sem, Nat.reduceEqDiff])
        | (apply z8
           · simp only [go_sem, Nat.reduceEqDiff])
        | (apply zk
           · kernel_rfl
           · kernel_rfl)
        | (simp only [bW, if_true, Nat.reduceEqDiff, if_false])
      exact hend true _ rfl
    · have hb : ((fs.length : Int) == p.sheets) = false := by simp [hlen]
      rw [show plainF p fs = false by simp [plainF, hlen]]
      simp only [bW, if_true, Nat.reduceEqDiff, if_false]
      repeat' first
        | (intro hb; first | cases hb | skip)
        | ((first | apply z9 | apply zh)
           · rfl
           · simp (disch := assumption) only [go_sem, Nat.reduceEqDiff, Nat.reduceAdd, bP, zj, Nat.reduceLeDiff, Nat.reduceLT, Nat.reduceMul, List.length_append, decide_eq_true_eq, zc, z7, Int.reduceToNat, Int.reduceLE, Int.reduceLT, Int.reduceBNe, Int.reduceBEq, hlf, hb]
             rfl
           · simp only [go_sem, Nat.reduceLT, Nat.reduceEqDiff]
             rfl
           · rfl
           first
           | (apply zg
              · simp only [z6, z5, Nat.reduceLT, decide_true, cond_true, ins]
                rfl
              · simp only [z6, z5, Nat.reduceLT, decide_true, cond_true, ins]
                rfl)
           | (apply zl
              · simp only [z6, z5, Nat.reduceLT, decide_true, cond_true, ins]
                rfl))
        | ((first | apply ze | apply zf)
           · rfl
           · simp only [z6, z5, Nat.reduceLT, decide_true, cond_true, ins]
             rfl)
        | (apply zd
           · simp only [go_sem, Nat.reduceEqDiff])
        | (apply z8
           · simp only [go_sem, Nat.reduceEqDiff])
        | (apply zk
           · kernel_rfl
           · kernel_rfl)
        | (simp only [bW, if_true, Nat.reduceEqDiff, if_false])
      exact hend false _ rfl

end Go.VS
namespace Go.VS
open Go Go.Proofs
set_option maxHeartbeats 0
set_option linter.unusedSimpArgs false

set_option maxRecDepth 100000
noncomputable def lp50_4 : Code := zM [1, 1, 0, 1, 0, 0] (zy Tryd.f50)
theorem lk50_4 : cfg.keep 50 (zA lp50_4) = [0, 1, 14, 15] := by kernel_rfl
noncomputable def lp50_7 : Code := zM [1, 1, 0, 1, 0, 0, 1, 1, 0, 0, 1, 1, 0, 0] (zy Tryd.f50)
theorem lk50_7 : cfg.keep 50 (zA lp50_7) = [0, 1, 5, 14, 15, 18] := by kernel_rfl

theorem t51 (a b : Ratio) : (lim cfg).pure 51 [.agg [I a.n, I a.d], .agg [I b.n, I b.d]] = some (I (orderF a b)) := by
  have h26 := t26 a b
  simp only [encR] at h26
  unfold orderF
  cases h : ratioOK a && ratioOK b with
  | false =>
    rw [h] at h26
    simp only [Bool.false_eq_true, if_false] at h26 ⊢
    refine zu (zn 51) cfn51 rfl (n := 16) rfl ?_
    simp only [bW, if_true, Nat.reduceEqDiff, if_false, zp]
    repeat' first
      | (intro hb; first | cases hb | skip)
      | ((first | apply z9 | apply zh)
         · rfl
         · simp (disch := assumption) only [go_sem, Nat.reduceEqDiff, Nat.reduceAdd, bP, zj, Nat.reduceLeDiff, Nat.reduceLT, Nat.reduceMul, List.length_append, decide_eq_true_eq, zc, z7, Int.reduceToNat, Int.reduceLE, Int.reduceLT, Int.reduceBNe, Int.reduceBEq, h26]
           rfl
         · simp only [go_sem, Nat.reduceLT, Nat.reduceEqDiff]
           rfl
         · rfl
         first
         | (apply zg
            · simp only [z6, z5, Nat.reduceLT, decide_true, cond_true, ins]
              rfl
            · simp only [z6, z5, Nat.reduceLT, decide_true, cond_true, ins]
              rfl)
         | (apply zl
            · simp only [z6, z5, Nat.reduceLT, decide_true, cond_true, ins]
              rfl))
      | ((first | apply ze | apply zf)
         · rfl
         · simp only [z6, z5, Nat.reduceLT, decide_true, cond_true, ins]
           rfl)
      | (apply zd
         · simp only [go_sem, Nat.reduceEqDiff])
      | (apply z8
         · simp only [go_sem, Nat.reduceEqDiff])
      | (apply zk
         · kernel_rfl
         · kernel_rfl)
      | (simp only [bW, if_true, Nat.reduceEqDiff, if_false])
    all_goals try simp only [go_sem, Nat.reduceEqDiff, bP, Nat.reduceAdd, Nat.reduceLeDiff, List.length_map, Tryd.f51]
    all_goals first | done | rfl | (simp_all []; done) | trace_state
  | true =>
    rw [h] at h26
    simp only [if_true] at h26 ⊢
    refine zu (zn 51) cfn51 rfl (n := 16) rfl ?_
    simp only [bW, if_true, Nat.reduceEqDiff, if_false, zp]
    repeat' first
      | (intro hb; first | cases hb | skip)
      | ((first | apply z9 | apply zh)
         · rfl
         · simp (disch := assumption) only [go_sem, Nat.reduceEqDiff, Nat.reduceAdd, bP, zj, Nat.reduceLeDiff, Nat.reduceLT, Nat.reduceMul, List.length_append, decide_eq_true_eq, zc, z7, Int.reduceToNat, Int.reduceLE, Int.reduceLT, Int.reduceBNe, Int.reduceBEq, h26, bne_self_eq_false]
           rfl
         · simp only [go_sem, Nat.reduceLT, Nat.reduceEqDiff]
           rfl
         · rfl
         first
         | (apply zg
            · simp only [z6, z5, Nat.reduceLT, decide_true, cond_true, ins]
              rfl
            · simp only [z6, z5, Nat.reduceLT, decide_true, cond_true, ins]
              rfl)
         | (apply zl
            · simp only [z6, z5, Nat.reduceLT, decide_true, cond_true, ins]
              rfl))
      | ((first | apply ze | apply zf)
         · rfl
         · simp only [z6, z5, Nat.reduceLT, decide_true, cond_true, ins]
           rfl)
      | (apply zd
         · simp only [go_sem, Nat.reduceEqDiff])
      | (apply z8
         · simp only [go_sem, Nat.reduceEqDiff])
      | (apply zk
         · kernel_rfl
         · kernel_rfl)
      | (simp only [bW, if_true, Nat.reduceEqDiff, if_false])
    all_goals try simp only [go_sem, Nat.reduceEqDiff, bP, Nat.reduceAdd, Nat.reduceLeDiff, List.length_map, Tryd.f51]
    all_goals first | done | rfl | (simp_all []; done) | trace_state

theorem L50_4 {F : Exit → St → Option D} (A Bl : List F4) (k : List Kt) (x : D) (hl : A.length ≤ 1000) (hlen : A.length = Bl.length) (hle : ∀ (i : Nat) a b, A[i]? = some a → Bl[i]? = some b → le4 a b) (h : zH cfg (lim cfg) 50 F k (.exit 0) ⟨42, [(16, B false), (0, .sl false (A.map encF) 4 none), (1, .sl false (Bl.map encF) 4 none), (14, I A.length), (15, I (A.length : Nat))], [], 0, 0⟩ = some x) : ∀ (rest : List F4) (i : Nat), A.drop i = rest → i ≤ A.length → EvL cfg (lim cfg) 50 F lp50_4 k ⟨42, [(0, .sl false (A.map encF) 4 none), (1, .sl false (Bl.map encF) 4 none), (14, I A.length), (15, I (i : Nat))], [], 0, 0⟩ = some x := by
  intro rest
  induction rest with
  | nil =>
    intro i hd hi
    have hi' : i = A.length := by
      have := List.drop_eq_nil_iff.1 hd
      omega
    subst hi'
    refine zq ?_
    try dsimp only [lp50_4, zM, zy, Tryd.f50]
    simp only [bW, if_true, Nat.reduceEqDiff, if_false]
    repeat' first
      | (intro hb; first | cases hb | skip)
      | ((first | apply z9 | apply zh)
         · rfl
         · simp (disch := assumption) only [go_sem, Nat.reduceEqDiff, Nat.reduceAdd, bP, zj, Nat.reduceLeDiff, Nat.reduceLT, Nat.reduceMul, List.length_append, decide_eq_true_eq, zc, z7, Int.reduceToNat, Int.reduceLE, Int.reduceLT, Int.reduceBNe, Int.reduceBEq, Int.lt_irrefl]
           rfl
         · simp only [go_sem, Nat.reduceLT, Nat.reduceEqDiff]
           rfl
         · rfl
         first
         | (apply zg
            · simp only [z6, z5, Nat.reduceLT, decide_true, cond_true, ins]
              rfl
            · simp only [z6, z5, Nat.reduceLT, decide_true, cond_true, ins]
              rfl)
         | (apply zl
            · simp only [z6, z5, Nat.reduceLT, decide_true, cond_true, ins]
              rfl))
      | ((first | apply ze | apply zf)
         · rfl
         · simp only [z6, z5, Nat.reduceLT, decide_true, cond_true, ins]
           rfl)
      | (apply zd
         · simp only [go_sem, Nat.reduceEqDiff])
      | (apply z8
         · simp only [go_sem, Nat.reduceEqDiff])
      | (apply zk
         · kernel_rfl
         · kernel_rfl)
      | (simp only [bW, if_true, Nat.reduceEqDiff, if_false])
    exact h
  | cons a rest ih =>
    intro i hd hi
    have hlt : i < A.length := by
      rcases Nat.lt_or_ge i A.length with h | h
      · exact h
      · rw [List.drop_eq_nil_of_le h] at hd; cases hd
    have hm : A[i]? = some a := by rw [← List.head?_drop, hd]; rfl
    obtain ⟨b, hb⟩ : ∃ b, Bl[i]? = some b := ⟨_, List.getElem?_eq_getElem (by omega)⟩
    have hx : (A.map encF)[i]? = some (.agg [I a.xn, I a.xd, I a.yn, I a.yd]) := by rw [List.getElem?_map, hm]; rfl
    have hy : (Bl.map encF)[i]? = some (.agg [I b.xn, I b.xd, I b.yn, I b.yd]) := by rw [List.getElem?_map, hb]; rfl
    have hlt' : (i : Int) < (A.length : Int) := by omega
    have hw3 : IntKind.i64.wrap ((i : Int) + 1) = ((i + 1 : Nat) : Int) := by rw [wrap_i64 (by omega) (by omega)]; omega
    have e1 := t51 ⟨a.xn, a.xd⟩ ⟨b.xn, b.xd⟩
    have e2 := t51 ⟨a.yn, a.yd⟩ ⟨b.yn, b.yd⟩
    have ih := ih (i + 1) (by rw [← List.drop_drop, hd]; rfl) hlt
    obtain ⟨h1, h2⟩ := hle i a b hm hb
    rcases h1 with h1 | h1 <;> rcases h2 with h2 | h2 <;> rw [h1] at e1 <;> rw [h2] at e2
    all_goals
      refine zq ?_
      try dsimp only [lp50_4, zM, zy, Tryd.f50]
      simp only [bW, if_true, Nat.reduceEqDiff, if_false]
      repeat' first
        | (intro hb; first | cases hb | skip)
        | ((first | apply z9 | apply zh)
           · rfl
           · simp (disch := assumption) only [go_sem, Nat.reduceEqDiff, Nat.reduceAdd, bP, zj, Nat.reduceLeDiff, Nat.reduceLT, Nat.reduceMul, List.length_append, decide_eq_true_eq, zc, z7, Int.reduceToNat, Int.reduceLE, Int.reduceLT, Int.reduceBNe, Int.reduceBEq, hx, hy, hlt', show (0 : Nat) < 2 from by decide, show (1 : Nat) < 2 from by decide, show IntKind.i64.wrap (0 + 1) = 1 from by decide, show IntKind.i64.wrap (1 + 1) = 2 from by decide, bne_self_eq_false]
             rfl
           · simp only [go_sem, Nat.reduceLT, Nat.reduceEqDiff]
             rfl
           · rfl
           first
           | (apply zg
              · simp only [z6, z5, Nat.reduceLT, decide_true, cond_true, ins]
                rfl
              · simp only [z6, z5, Nat.reduceLT, decide_true, cond_true, ins]
                rfl)
           | (apply zl
              · simp only [z6, z5, Nat.reduceLT, decide_true, cond_true, ins]
                rfl))
        | ((first | apply ze | apply zf)
           · rfl
           · simp only [z6, z5, Nat.reduceLT, decide_true, cond_true, ins]
             rfl)
        | (apply zd
           · simp only [go_sem, Nat.reduceEqDiff])
        | (apply z8
           · simp only [go_sem, Nat.reduceEqDiff])
        | (apply zk
           · kernel_rfl
           · kernel_rfl)
        | (simp only [bW, if_true, Nat.reduceEqDiff, if_false])
      apply w_loop lk50_7
      · simp only [go_sem, List.map_append, Nat.reduceEqDiff, Nat.reduceLT, Nat.reduceAdd, bI, bD, bI2]
        rfl
      refine zq ?_
      try dsimp only [lp50_7, zM, zy, Tryd.f50]
      simp only [bW, if_true, Nat.reduceEqDiff, if_false]
      repeat' first
        | (intro hb; first | cases hb | skip)
        | ((first | apply z9 | apply zh)
           · rfl
           · simp (disch := assumption) only [go_sem, Nat.reduceEqDiff, Nat.reduceAdd, bP, zj, Nat.reduceLeDiff, Nat.reduceLT, Nat.reduceMul, List.length_append, decide_eq_true_eq, zc, z7, Int.reduceToNat, Int.reduceLE, Int.reduceLT, Int.reduceBNe, Int.reduceBEq, hx, hy, e1, show (0 : Nat) < 2 from by decide, show (1 : Nat) < 2 from by decide, show IntKind.i64.wrap (0 + 1) = 1 from by decide, show IntKind.i64.wrap (1 + 1) = 2 from by decide, bne_self_eq_false]
             rfl
           · simp only [go_sem, Nat.reduceLT, Nat.reduceEqDiff]
             rfl
           · rfl
           first
           | (apply zg
              · simp only [z6, z5, Nat.reduceLT, decide_true, cond_true, ins]
                rfl
              · simp only [z6, z5, Nat.reduceLT, decide_true, cond_true, ins]
                rfl)
           | (apply zl
              · simp only [z6, z5, Nat.reduceLT, decide_true, cond_true, ins]
                rfl))
        | ((first | apply ze | apply zf)
           · rfl
           · simp only [z6, z5, Nat.reduceLT, decide_true, cond_true, ins]
             rfl)
        | (apply zd
           · simp only [go_sem, Nat.reduceEqDiff])
        | (apply z8
           · simp only [go_sem, Nat.reduceEqDiff])
        | (apply zk
           · kernel_rfl
           · kernel_rfl)
        | (simp only [bW, if_true, Nat.reduceEqDiff, if_false])
      apply zG lk50_7
      · simp only [go_sem, List.map_append, Nat.reduceEqDiff, Nat.reduceLT, Nat.reduceAdd, bI, bD, bI2]
        rfl
      refine zq ?_
      try dsimp only [lp50_7, zM, zy, Tryd.f50]
      simp only [bW, if_true, Nat.reduceEqDiff, if_false]
      repeat' first
        | (intro hb; first | cases hb | skip)
        | ((first | apply z9 | apply zh)
           · rfl
           · simp (disch := assumption) only [go_sem, Nat.reduceEqDiff, Nat.reduceAdd, bP, zj, Nat.reduceLeDiff, Nat.reduceLT, Nat.reduceMul, List.length_append, decide_eq_true_eq, zc, z7, Int.reduceToNat, Int.reduceLE, Int.reduceLT, Int.reduceBNe, Int.reduceBEq, hx, hy, e2, show (0 : Nat) < 2 from by decide, show (1 : Nat) < 2 from by decide, show IntKind.i64.wrap (0 + 1) = 1 from by decide, show IntKind.i64.wrap (1 + 1) = 2 from by decide, bne_self_eq_false]
             rfl
           · simp only [go_sem, Nat.reduceLT, Nat.reduceEqDiff]
             rfl
           · rfl
           first
           | (apply zg
              · simp only [z6, z5, Nat.reduceLT, decide_true, cond_true, ins]
                rfl
              · simp only [z6, z5, Nat.reduceLT, decide_true, cond_true, ins]
                rfl)
           | (apply zl
              · simp only [z6, z5, Nat.reduceLT, decide_true, cond_true, ins]
                rfl))
        | ((first | apply ze | apply zf)
           · rfl
           · simp only [z6, z5, Nat.reduceLT, decide_true, cond_true, ins]
             rfl)
        | (apply zd
           · simp only [go_sem, Nat.reduceEqDiff])
        | (apply z8
           · simp only [go_sem, Nat.reduceEqDiff])
        | (apply zk
           · kernel_rfl
           · kernel_rfl)
        | (simp only [bW, if_true, Nat.reduceEqDiff, if_false])
      apply zG lk50_7
      · simp only [go_sem, List.map_append, Nat.reduceEqDiff, Nat.reduceLT, Nat.reduceAdd, bI, bD, bI2]
        rfl
      refine zq ?_
      try dsimp only [lp50_7, zM, zy, Tryd.f50]
      simp only [bW, if_true, Nat.reduceEqDiff, if_false]
      repeat' first
        | (intro hb; first | cases hb | skip)
        | ((first | apply z9 | apply zh)
           · rfl
           · simp (disch := assumption) only [go_sem, Nat.reduceEqDiff, Nat.reduceAdd, bP, zj, Nat.reduceLeDiff, Nat.reduceLT, Nat.reduceMul, List.length_append, decide_eq_true_eq, zc, z7, Int.reduceToNat, Int.reduceLE, Int.reduceLT, Int.reduceBNe, Int.reduceBEq, hw3, show (0 : Nat) < 2 from by decide, show (1 : Nat) < 2 from by decide, show IntKind.i64.wrap (0 + 1) = 1 from by decide, show IntKind.i64.wrap (1 + 1) = 2 from by decide, bne_self_eq_false]
             rfl
           · simp only [go_sem, Nat.reduceLT, Nat.reduceEqDiff]
             rfl
           · rfl
           first
           | (apply zg
              · simp only [z6, z5, Nat.reduceLT, decide_true, cond_true, ins]
                rfl
              · simp only [z6, z5, Nat.reduceLT, decide_true, cond_true, ins]
                rfl)
           | (apply zl
              · simp only [z6, z5, Nat.reduceLT, decide_true, cond_true, ins]
                rfl))
        | ((first | apply ze | apply zf)
           · rfl
           · simp only [z6, z5, Nat.reduceLT, decide_true, cond_true, ins]
             rfl)
        | (apply zd
           · simp only [go_sem, Nat.reduceEqDiff])
        | (apply z8
           · simp only [go_sem, Nat.reduceEqDiff])
        | (apply zk
           · kernel_rfl
           · kernel_rfl)
        | (simp only [bW, if_true, Nat.reduceEqDiff, if_false])
      exact zG (st1 := ⟨42, [(0, .sl false (A.map encF) 4 none), (1, .sl false (Bl.map encF) 4 none), (14, I A.length), (15, I (i + 1 : Nat))], [], 0, 0⟩) lk50_4 (by kernel_rfl) ih
theorem t50 (A Bl : List F4) (hl : A.length ≤ 1000) (hlen : A.length = Bl.length) (hle : ∀ (i : Nat) a b, A[i]? = some a → Bl[i]? = some b → le4 a b) : (lim cfg).pure 50 [.sl false (A.map encF) 4 none, .sl false (Bl.map encF) 4 none] = some (B true) := by
  have hb : ((A.length : Int) != (Bl.length : Int)) = false := by simp [hlen]
  refine zu (zn 50) cfn50 rfl (n := 42) rfl ?_
  generalize hF : finP cfg Tryd.f50 = F
  simp only [bW, if_true, Nat.reduceEqDiff, if_false, zp]
  repeat' first
    | (intro hb; first | cases hb | skip)
    | ((first | apply z9 | apply zh)
       · rfl
       · simp (disch := assumption) only [go_sem, Nat.reduceEqDiff, Nat.reduceAdd, bP, zj, Nat.reduceLeDiff, Nat.reduceLT, Nat.reduceMul, List.length_append, decide_eq_true_eq, zc, z7, Int.reduceToNat, Int.reduceLE, Int.reduceLT, Int.reduceBNe, Int.reduceBEq, List.length_map, hb]
         rfl
       · simp only [go_sem, Nat.reduceLT, Nat.reduceEqDiff]
         rfl
       · rfl
       first
       | (apply zg
          · simp only [z6, z5, Nat.reduceLT, decide_true, cond_true, ins]
            rfl
          · simp only [z6, z5, Nat.reduceLT, decide_true, cond_true, ins]
            rfl)
       | (apply zl
          · simp only [z6, z5, Nat.reduceLT, decide_true, cond_true, ins]
            rfl))
    | ((first | apply ze | apply zf)
       · rfl
       · simp only [z6, z5, Nat.reduceLT, decide_true, cond_true, ins]
         rfl)
    | (apply zd
       · simp only [go_sem, Nat.reduceEqDiff])
    | (apply z8
       · simp only [go_sem, Nat.reduceEqDiff])
    | (apply zk
       · kernel_rfl
       · kernel_rfl)
    | (simp only [bW, if_true, Nat.reduceEqDiff, if_false])
  refine w_loop (st1 := ⟨42, [(0, .sl false (A.map encF) 4 none), (1, .sl false (Bl.map encF) 4 none), (14, I A.length), (15, I (0 : Nat))], [], 0, 0⟩) lk50_4 (by kernel_rfl) (L50_4 A Bl _ _ hl hlen hle ?_ A 0 rfl (Nat.zero_le _))
  simp only [bW, if_true, Nat.reduceEqDiff, if_false]
  repeat' first
    | (intro hb; first | cases hb | skip)
    | ((first | apply z9 | apply zh)
       · rfl
       · simp (disch := assumption) only [go_sem, Nat.reduceEqDiff, Nat.reduceAdd, bP, zj, Nat.reduceLeDiff, Nat.reduceLT, Nat.reduceMul, List.length_append, decide_eq_true_eq, zc, z7, Int.reduceToNat, Int.reduceLE, Int.reduceLT, Int.reduceBNe, Int.reduceBEq]
         rfl
       · simp only [go_sem, Nat.reduceLT, Nat.reduceEqDiff]
         rfl
       · rfl
       first
       | (apply zg
          · simp only [z6, z5, Nat.reduceLT, decide_true, cond_true, ins]
            rfl
          · simp only [z6, z5, Nat.reduceLT, decide_true, cond_true, ins]
            rfl)
       | (apply zl
          · simp only [z6, z5, Nat.reduceLT, decide_true, cond_true, ins]
            rfl))
    | ((first | apply ze | apply zf)
       · rfl
       · simp only [z6, z5, Nat.reduceLT, decide_true, cond_true, ins]
         rfl)
    | (apply zd
       · simp only [go_sem, Nat.reduceEqDiff])
    | (apply z8
       · simp only [go_sem, Nat.reduceEqDiff])
    | (apply zk
       · kernel_rfl
       · kernel_rfl)
    | (simp only [bW, if_true, Nat.reduceEqDiff, if_false])
  subst hF
  simp only [go_sem, Nat.reduceEqDiff, bP, Nat.reduceAdd, Nat.reduceLeDiff, List.length_map, Tryd.f50]

end Go.VS
namespace Go.VS
open Go Go.Proofs
set_option maxHeartbeats 0
set_option linter.unusedSimpArgs false

set_option maxRecDepth 10000
def opsOf (c : Code) : Array Oper := match c with | .region _ ops _ => ops | _ => #[]
noncomputable def c17 : Code := zM [1, 1, 1, 1, 1, 1, 1, 1, 1, 1, 1] (zy Tryd.f11)
noncomputable def o17 : Array Oper := opsOf (zM [0] c17)
noncomputable def r17 : Code := zM [1] c17
theorem S17 {F : Exit → St → Option D} (p : Paper) (s ax : Int) (g : Bool) (bd : Ratio) (l : List Reason) (nl : Bool) (sz : Nat) (hwf : p.wf) (hnl : nl = true → l = []) (hsz : nl = false → sz = 3) (hll : l.length ≤ 9223372036854775807) (hok : zr p = true) (hposs : possibleF p = true) (hret : ∀ st, get st.tmps 14 = B true → F .ret st = some (B true)) (tms : List (Nat × D))
    (g2 : get tms 2 = I s) (g3 : get tms 3 = I ax) (g4 : get tms 4 = B g) (g6 : get tms 6 = .sl nl (l.map encW) sz none) (g7 : get tms 7 = .lref 0 0 3 0) (g12 : get tms 12 = .lref 1 0 2 0) (g23 : get tms 23 = .sl false ((endsF0 p).map encF) 4 none) (g24 : get tms 24 = .sl false ((endsF1 p).map encF) 4 none)
    (g165 : get tms 165 = .agg [I p.sheets, .sl p.nm (p.marks.map encM) (zs p.nm 5) none, .sl p.nj (p.joins.map encJ) (zs p.nj 7) none]) (g166 : get tms 166 = I s) (g167 : get tms 167 = I ax) (g168 : get tms 168 = B g) (g169 : get tms 169 = .agg [I bd.n, I bd.d]) (g170 : get tms 170 = .sl nl (l.map encW) sz none) :
    EvU cfg (lim cfg) 11 F o17 (o17.toList.drop 6) [.code r17] ⟨305, tms, [(0, ⟨[zN p], 3, false⟩), (1, ⟨[.agg [I bd.n, I bd.d]], 2, false⟩)], 2, 0⟩ = some (B true) := by
  have h46 := t46 p s ax g bd l nl sz hwf hnl hsz hll
  have hG := g2
  dsimp only [o17, r17, c17, opsOf, zM, zy, Tryd.f11, List.drop]
  cases hb : zz p s && zR ax with
  | false =>
    have hpc : (proofC p s ax g bd l == 0) = false := by
      unfold proofC; rw [hok, hb]; rfl
    cases d1 : decide (s < 0) with
    | true =>
      repeat' first
        | (intro hb; first | cases hb | skip)
        | ((first | apply z9 | apply zh)
           · rfl
           · simp (disch := assumption) only [go_sem, Nat.reduceEqDiff, Nat.reduceAdd, bP, zj, Nat.reduceLeDiff, Nat.reduceLT, Nat.reduceMul, List.length_append, decide_eq_true_eq, zc, z7, Int.reduceToNat, Int.reduceLE, Int.reduceLT, Int.reduceBNe, Int.reduceBEq, g2, g3, g4, g6, g7, g12, g23, g24, g165, g166, g167, g168, g169, g170, h46, hpc, d1]
             rfl
           · simp only [go_sem, Nat.reduceLT, Nat.reduceEqDiff]
             rfl
           · rfl
           first
           | (apply zg
              · simp only [z6, z5, Nat.reduceLT, decide_true, cond_true, ins]
                rfl
              · simp only [z6, z5, Nat.reduceLT, decide_true, cond_true, ins]
                rfl)
           | (apply zl
              · simp only [z6, z5, Nat.reduceLT, decide_true, cond_true, ins]
                rfl))
        | ((first | apply ze | apply zf)
           · rfl
           · simp only [z6, z5, Nat.reduceLT, decide_true, cond_true, ins]
             rfl)
        | (apply zd
           · simp only [go_sem, Nat.reduceEqDiff])
        | (apply z8
           · simp only [go_sem, Nat.reduceEqDiff])
        | (apply zk
           · kernel_rfl
           · kernel_rfl)
        | (simp only [bW, if_true, Nat.reduceEqDiff, if_false])
      all_goals exact hret _ rfl
    | false =>
    cases d2 : decide (s ≥ p.sheets) with
    | true =>
      repeat' first
        | (intro hb; first | cases hb | skip)
        | ((first | apply z9 | apply zh)
           · rfl
           · simp (disch := assumption) only [go_sem, Nat.reduceEqDiff, Nat.reduceAdd, bP, zj, Nat.reduceLeDiff, Nat.reduceLT, Nat.reduceMul, List.length_append, decide_eq_true_eq, zc, z7, Int.reduceToNat, Int.reduceLE, Int.reduceLT, Int.reduceBNe, Int.reduceBEq, g2, g3, g4, g6, g7, g12, g23, g24, g165, g166, g167, g168, g169, g170, h46, hpc, d1, d2]
             rfl
           · simp only [go_sem, Nat.reduceLT, Nat.reduceEqDiff]
             rfl
           · rfl
           first
           | (apply zg
              · simp only [z6, z5, Nat.reduceLT, decide_true, cond_true, ins]
                rfl
              · simp only [z6, z5, Nat.reduceLT, decide_true, cond_true, ins]
                rfl)
           | (apply zl
              · simp only [z6, z5, Nat.reduceLT, decide_true, cond_true, ins]
                rfl))
        | ((first | apply ze | apply zf)
           · rfl
           · simp only [z6, z5, Nat.reduceLT, decide_true, cond_true, ins]
             rfl)
        | (apply zd
           · simp only [go_sem, Nat.reduceEqDiff])
        | (apply z8
           · simp only [go_sem, Nat.reduceEqDiff])
        | (apply zk
           · kernel_rfl
           · kernel_rfl)
        | (simp only [bW, if_true, Nat.reduceEqDiff, if_false])
      all_goals exact hret _ rfl
    | false =>
    cases d3 : decide (ax < 0) with
    | true =>
      repeat' first
        | (intro hb; first | cases hb | skip)
        | ((first | apply z9 | apply zh)
           · rfl
           · simp (disch := assumption) only [go_sem, Nat.reduceEqDiff, Nat.reduceAdd, bP, zj, Nat.reduceLeDiff, Nat.reduceLT, Nat.reduceMul, List.length_append, decide_eq_true_eq, zc, z7, Int.reduceToNat, Int.reduceLE, Int.reduceLT, Int.reduceBNe, Int.reduceBEq, g2, g3, g4, g6, g7, g12, g23, g24, g165, g166, g167, g168, g169, g170, h46, hpc, d1, d2, d3]
             rfl
           · simp only [go_sem, Nat.reduceLT, Nat.reduceEqDiff]
             rfl
           · rfl
           first
           | (apply zg
              · simp only [z6, z5, Nat.reduceLT, decide_true, cond_true, ins]
                rfl
              · simp only [z6, z5, Nat.reduceLT, decide_true, cond_true, ins]
                rfl)
           | (apply zl
              · simp only [z6, z5, Nat.reduceLT, decide_true, cond_true, ins]
                rfl))
        | ((first | apply ze | apply zf)
           · rfl
           · simp only [z6, z5, Nat.reduceLT, decide_true, cond_true, ins]
             rfl)
        | (apply zd
           · simp only [go_sem, Nat.reduceEqDiff])
        | (apply z8
           · simp only [go_sem, Nat.reduceEqDiff])
        | (apply zk
           · kernel_rfl
           · kernel_rfl)
        | (simp only [bW, if_true, Nat.reduceEqDiff, if_false])
      all_goals exact hret _ rfl
    | false =>
    have d4 : decide (ax > 1) = true := by
      simp only [decide_eq_false_iff_not] at d1 d2 d3
      rw [decide_eq_true_eq]
      simp [zz, zR] at hb
      omega
    repeat' first
      | (intro hb; first | cases hb | skip)
      | ((first | apply z9 | apply zh)
         · rfl
         · simp (disch := assumption) only [go_sem, Nat.reduceEqDiff, Nat.reduceAdd, bP, zj, Nat.reduceLeDiff, Nat.reduceLT, Nat.reduceMul, List.length_append, decide_eq_true_eq, zc, z7, Int.reduceToNat, Int.reduceLE, Int.reduceLT, Int.reduceBNe, Int.reduceBEq, g2, g3, g4, g6, g7, g12, g23, g24, g165, g166, g167, g168, g169, g170, h46, hpc, d1, d2, d3, d4]
           rfl
         · simp only [go_sem, Nat.reduceLT, Nat.reduceEqDiff]
           rfl
         · rfl
         first
         | (apply zg
            · simp only [z6, z5, Nat.reduceLT, decide_true, cond_true, ins]
              rfl
            · simp only [z6, z5, Nat.reduceLT, decide_true, cond_true, ins]
              rfl)
         | (apply zl
            · simp only [z6, z5, Nat.reduceLT, decide_true, cond_true, ins]
              rfl))
      | ((first | apply ze | apply zf)
         · rfl
         · simp only [z6, z5, Nat.reduceLT, decide_true, cond_true, ins]
           rfl)
      | (apply zd
         · simp only [go_sem, Nat.reduceEqDiff])
      | (apply z8
         · simp only [go_sem, Nat.reduceEqDiff])
      | (apply zk
         · kernel_rfl
         · kernel_rfl)
      | (simp only [bW, if_true, Nat.reduceEqDiff, if_false])
    all_goals exact hret _ rfl
  | true =>
    simp only [Bool.and_eq_true] at hb
    obtain ⟨hs, hax⟩ := hb
    have hacc := fun h => (accepted (p := p) (sh := s) (ax := ax) (g := g) (bd := bd) (l := l) h hposs)
    have hkn : knownF p ax [s] = 0 := known_zero.2 ⟨hok, hposs, by simp only [List.all_cons, List.all_nil, Bool.and_true]; exact hs, hax⟩
    have h20 := t20 p s ax hwf
    have h49 := t49 p s ax true hwf
    have h49' := t49 p s ax false hwf
    rw [if_pos hkn] at h20 h49 h49'
    obtain ⟨⟨q1, q2⟩, ⟨q3, q4⟩⟩ := proof_acc hkn
    have e46 := t46w p s ax true (hiF p s ax) _ hwf (show (downF p s ax).why.length ≤ 1000 by omega)
    have e46' := t46w p s ax false (loF p s ax) _ hwf (show (upF p s ax).why.length ≤ 1000 by omega)
    rw [q1] at e46
    rw [q3] at e46'
    simp only [if_true] at h49
    simp only [Bool.false_eq_true, if_false] at h49'
    have e51 := t51 bd (hiF p s ax)
    have e51' := t51 bd (loF p s ax)
    have d1 : decide (s < 0) = false := by simp [zz] at hs; simp; omega
    have d2 : decide (s ≥ p.sheets) = false := by simp [zz] at hs; simp; omega
    have r1 : g = true → (proofC p s ax g bd l == 0) = true → decide (orderF bd (hiF p s ax) < 0) = false := fun h' h => decide_eq_false ((hacc (by simpa using h)).2.2.2.1 h')
    have r2 : g = false → (proofC p s ax g bd l == 0) = true → (orderF bd (loF p s ax) != -1) = true → (orderF bd (loF p s ax) != 0) = false := by
      intro h' h h''
      rcases (hacc (by simpa using h)).2.2.2.2 h' with h3 | h3
      · rw [h3] at h''; simp at h''
      · rw [h3]; rfl
    have hset0 : (endsF0 p)[s.toNat]? = some (endF0 p s.toNat) := (ends_at hok (by simp [zz] at hs; omega)).1
    have hset1 : (endsF1 p)[s.toNat]? = some (endF1 p s.toNat) := (ends_at hok (by simp [zz] at hs; omega)).2
    obtain ⟨i, rfl, hi, _⟩ := sheet_nat hs
    rw [Int.toNat_natCast] at hset0 hset1
    have hx0 : ((endsF0 p).map encF)[i]? = some (.agg [I (loF p i 0).n, I (loF p i 0).d, I (loF p i 1).n, I (loF p i 1).d]) := by rw [List.getElem?_map, hset0]; rfl
    have hx1 : ((endsF1 p).map encF)[i]? = some (.agg [I (hiF p i 0).n, I (hiF p i 0).d, I (hiF p i 1).n, I (hiF p i 1).d]) := by rw [List.getElem?_map, hset1]; rfl
    have hax' : ax = 0 ∨ ax = 1 := by simpa [zR] using hax
    clear hacc hkn q1 q2 q3 q4 hset0 hset1 hax hs
    cases g with
    | true =>
      have r1 := r1 rfl
      clear r2
      rcases hax' with rfl | rfl
      all_goals
        repeat' first
          | (intro hb; first | cases hb | skip)
          | ((first | apply z9 | apply zh)
             · rfl
             · simp (disch := assumption) only [go_sem, Nat.reduceEqDiff, Nat.reduceAdd, bP, zj, Nat.reduceLeDiff, Nat.reduceLT, Nat.reduceMul, List.length_append, decide_eq_true_eq, zc, z7, Int.reduceToNat, Int.reduceLE, Int.reduceLT, Int.reduceBNe, Int.reduceBEq, g2, g3, g4, g6, g7, g12, g23, g24, g165, g166, g167, g168, g169, g170, h46, d1, d2, h20, h49, h49', e46, e46', e51, e51', r1, hx0, hx1, beq_self_eq_true, bne_self_eq_false, whyD_one, zJ, pd_why, Int.lt_irrefl, okF.snapAll, List.length_map, show (0 : Nat) < 2 from by decide, show (1 : Nat) < 2 from by decide, show decide ((0 : Int) < 0) = false from rfl, show decide ((1 : Int) < 0) = false from rfl, show decide ((0 : Int) > 1) = false from rfl, show decide ((1 : Int) > 1) = false from rfl]
               rfl
             · simp only [go_sem, Nat.reduceLT, Nat.reduceEqDiff]
               rfl
             · rfl
             first
             | (apply zg
                · simp only [z6, z5, Nat.reduceLT, decide_true, cond_true, ins]
                  rfl
                · simp only [z6, z5, Nat.reduceLT, decide_true, cond_true, ins]
                  rfl)
             | (apply zl
                · simp only [z6, z5, Nat.reduceLT, decide_true, cond_true, ins]
                  rfl))
          | ((first | apply ze | apply zf)
             · rfl
             · simp only [z6, z5, Nat.reduceLT, decide_true, cond_true, ins]
               rfl)
          | (apply zd
             · simp only [go_sem, Nat.reduceEqDiff])
          | (apply z8
             · simp only [go_sem, Nat.reduceEqDiff])
          | (apply zk
             · kernel_rfl
             · kernel_rfl)
          | (simp only [bW, if_true, Nat.reduceEqDiff, if_false])
      all_goals exact hret _ rfl
    | false =>
      have r2 := r2 rfl
      clear r1
      rcases hax' with rfl | rfl
      all_goals
        repeat' first
          | (intro hb; first | cases hb | skip)
          | ((first | apply z9 | apply zh)
             · rfl
             · simp (disch := assumption) only [go_sem, Nat.reduceEqDiff, Nat.reduceAdd, bP, zj, Nat.reduceLeDiff, Nat.reduceLT, Nat.reduceMul, List.length_append, decide_eq_true_eq, zc, z7, Int.reduceToNat, Int.reduceLE, Int.reduceLT, Int.reduceBNe, Int.reduceBEq, g2, g3, g4, g6, g7, g12, g23, g24, g165, g166, g167, g168, g169, g170, h46, d1, d2, h20, h49, h49', e46, e46', e51, e51', r2, hx0, hx1, beq_self_eq_true, bne_self_eq_false, whyD_one, zJ, pd_why, Int.lt_irrefl, okF.snapAll, List.length_map, show (0 : Nat) < 2 from by decide, show (1 : Nat) < 2 from by decide, show decide ((0 : Int) < 0) = false from rfl, show decide ((1 : Int) < 0) = false from rfl, show decide ((0 : Int) > 1) = false from rfl, show decide ((1 : Int) > 1) = false from rfl]
               rfl
             · simp only [go_sem, Nat.reduceLT, Nat.reduceEqDiff]
               rfl
             · rfl
             first
             | (apply zg
                · simp only [z6, z5, Nat.reduceLT, decide_true, cond_true, ins]
                  rfl
                · simp only [z6, z5, Nat.reduceLT, decide_true, cond_true, ins]
                  rfl)
             | (apply zl
                · simp only [z6, z5, Nat.reduceLT, decide_true, cond_true, ins]
                  rfl))
          | ((first | apply ze | apply zf)
             · rfl
             · simp only [z6, z5, Nat.reduceLT, decide_true, cond_true, ins]
               rfl)
          | (apply zd
             · simp only [go_sem, Nat.reduceEqDiff])
          | (apply z8
             · simp only [go_sem, Nat.reduceEqDiff])
          | (apply zk
             · kernel_rfl
             · kernel_rfl)
          | (simp only [bW, if_true, Nat.reduceEqDiff, if_false])
      all_goals exact hret _ rfl

theorem bneB_false (b : Bool) : (b != !b) = true := by cases b <;> rfl
theorem t11 (p : Paper) (fs : List F4) (nf : Bool) (sf : Nat) (s ax : Int) (g : Bool) (bd : Ratio) (l : List Reason) (nl : Bool) (sz : Nat) (hwf : p.wf) (hnf : nf = true → fs = []) (hsf : nf = false → sf = 4) (hl : fs.length ≤ 9223372036854775807) (hnl : nl = true → l = []) (hsz : nl = false → sz = 3) (hll : l.length ≤ 9223372036854775807) : (lim cfg).pure 11 [zN p, .sl nf (fs.map encF) sf none, I s, I ax, B g, .agg [I bd.n, I bd.d], .sl nl (l.map encW) sz none] = some (B true) := by
  have h15 := t15 p hwf
  have h17 := t17 p hwf
  have h18 := t18 p fs nf sf hwf hnf hsf hl
  have h44 := t44 p l nl sz hwf hnl hsz hll
  have h46 := t46 p s ax g bd l nl sz hwf hnl hsz hll
  have h30 := t30 p hwf
  have h48 := t48 p hwf
  have h32 := t32 p hwf
  have h33 := t33 p hwf
  have hlw := len_if (f := encW) hnl
  unfold check at h15
  cases hfew : (decide (p.marks.length ≤ 26) && decide (p.joins.length ≤ 26)) with
  | false =>
    rw [hfew] at h17
    refine zu (zn 11) cfn11 rfl (n := 305) rfl ?_
    simp only [bW, if_true, Nat.reduceEqDiff, if_false, zp]
    repeat' first
      | (intro hb; first | cases hb | skip)
      | ((first | apply z9 | apply zh)
         · rfl
         · simp (disch := assumption) only [go_sem, Nat.reduceEqDiff, Nat.reduceAdd, bP, zj, Nat.reduceLeDiff, Nat.reduceLT, Nat.reduceMul, List.length_append, decide_eq_true_eq, zc, z7, Int.reduceToNat, Int.reduceLE, Int.reduceLT, Int.reduceBNe, Int.reduceBEq, t14, hlw, h17]
           rfl
         · simp only [go_sem, Nat.reduceLT, Nat.reduceEqDiff]
           rfl
         · rfl
         first
         | (apply zg
            · simp only [z6, z5, Nat.reduceLT, decide_true, cond_true, ins]
              rfl
            · simp only [z6, z5, Nat.reduceLT, decide_true, cond_true, ins]
              rfl)
         | (apply zl
            · simp only [z6, z5, Nat.reduceLT, decide_true, cond_true, ins]
              rfl))
      | ((first | apply ze | apply zf)
         · rfl
         · simp only [z6, z5, Nat.reduceLT, decide_true, cond_true, ins]
           rfl)
      | (apply zd
         · simp only [go_sem, Nat.reduceEqDiff])
      | (apply z8
         · simp only [go_sem, Nat.reduceEqDiff])
      | (apply zk
         · kernel_rfl
         · kernel_rfl)
      | (simp only [bW, if_true, Nat.reduceEqDiff, if_false])
    all_goals try simp only [go_sem, Nat.reduceEqDiff, bP, Nat.reduceAdd, Nat.reduceLeDiff, List.length_map, Tryd.f11]
    all_goals first | done | rfl | (simp_all []; done) | trace_state
  | true =>
  rw [hfew] at h17
  cases h40 : decide ((l.length : Int) > 40) with
  | true =>
    refine zu (zn 11) cfn11 rfl (n := 305) rfl ?_
    simp only [bW, if_true, Nat.reduceEqDiff, if_false, zp]
    repeat' first
      | (intro hb; first | cases hb | skip)
      | ((first | apply z9 | apply zh)
         · rfl
         · simp (disch := assumption) only [go_sem, Nat.reduceEqDiff, Nat.reduceAdd, bP, zj, Nat.reduceLeDiff, Nat.reduceLT, Nat.reduceMul, List.length_append, decide_eq_true_eq, zc, z7, Int.reduceToNat, Int.reduceLE, Int.reduceLT, Int.reduceBNe, Int.reduceBEq, t14, hlw, h17, h40]
           rfl
         · simp only [go_sem, Nat.reduceLT, Nat.reduceEqDiff]
           rfl
         · rfl
         first
         | (apply zg
            · simp only [z6, z5, Nat.reduceLT, decide_true, cond_true, ins]
              rfl
            · simp only [z6, z5, Nat.reduceLT, decide_true, cond_true, ins]
              rfl)
         | (apply zl
            · simp only [z6, z5, Nat.reduceLT, decide_true, cond_true, ins]
              rfl))
      | ((first | apply ze | apply zf)
         · rfl
         · simp only [z6, z5, Nat.reduceLT, decide_true, cond_true, ins]
           rfl)
      | (apply zd
         · simp only [go_sem, Nat.reduceEqDiff])
      | (apply z8
         · simp only [go_sem, Nat.reduceEqDiff])
      | (apply zk
         · kernel_rfl
         · kernel_rfl)
      | (simp only [bW, if_true, Nat.reduceEqDiff, if_false])
    all_goals try simp only [go_sem, Nat.reduceEqDiff, bP, Nat.reduceAdd, Nat.reduceLeDiff, List.length_map, Tryd.f11]
    all_goals first | done | rfl | (simp_all []; done) | trace_state
  | false =>
  cases hok : zr p with
  | false =>
    rw [hok] at h15
    simp only [Bool.false_eq_true, if_false] at h15
    refine zu (zn 11) cfn11 rfl (n := 305) rfl ?_
    simp only [bW, if_true, Nat.reduceEqDiff, if_false, zp]
    repeat' first
      | (intro hb; first | cases hb | skip)
      | ((first | apply z9 | apply zh)
         · rfl
         · simp (disch := assumption) only [go_sem, Nat.reduceEqDiff, Nat.reduceAdd, bP, zj, Nat.reduceLeDiff, Nat.reduceLT, Nat.reduceMul, List.length_append, decide_eq_true_eq, zc, z7, Int.reduceToNat, Int.reduceLE, Int.reduceLT, Int.reduceBNe, Int.reduceBEq, t14, hlw, h17, h40, h15]
           rfl
         · simp only [go_sem, Nat.reduceLT, Nat.reduceEqDiff]
           rfl
         · rfl
         first
         | (apply zg
            · simp only [z6, z5, Nat.reduceLT, decide_true, cond_true, ins]
              rfl
            · simp only [z6, z5, Nat.reduceLT, decide_true, cond_true, ins]
              rfl)
         | (apply zl
            · simp only [z6, z5, Nat.reduceLT, decide_true, cond_true, ins]
              rfl))
      | ((first | apply ze | apply zf)
         · rfl
         · simp only [z6, z5, Nat.reduceLT, decide_true, cond_true, ins]
           rfl)
      | (apply zd
         · simp only [go_sem, Nat.reduceEqDiff])
      | (apply z8
         · simp only [go_sem, Nat.reduceEqDiff])
      | (apply zk
         · kernel_rfl
         · kernel_rfl)
      | (simp only [bW, if_true, Nat.reduceEqDiff, if_false])
    all_goals try simp only [go_sem, Nat.reduceEqDiff, bP, Nat.reduceAdd, Nat.reduceLeDiff, List.length_map, Tryd.f11]
    all_goals first | done | rfl | (simp_all []; done) | trace_state
  | true =>
  rw [hok] at h15 h30 h48
  simp only [if_true] at h15 h30 h48
  cases hcl : clashR p with
  | some c =>
    rw [hcl] at h48
    simp only [clashD] at h48
    have hex : ∃ ax', (ax' = 0 ∨ ax' = 1) ∧ clashA p ax' = some c := by
      unfold clashR at hcl
      split at hcl
      · rename_i c' h; cases hcl; exact ⟨0, .inl rfl, h⟩
      · exact ⟨1, .inr rfl, hcl⟩
    obtain ⟨ax', hax', hca⟩ := hex
    obtain ⟨a1, a2⟩ := clash_acc hok hca
    have hposs : possibleF p = false := by
      unfold possibleF
      rcases hax' with rfl | rfl <;> rw [hca] <;> simp
    have hcc : clashC p c.why = 0 := by
      unfold clashC clashOK
      rw [hok]
      rcases hax' with rfl | rfl <;> rw [a1] <;> simp
    have h44w := t44w p c.why hwf (by omega)
    rw [hcc] at h44w
    rw [hposs] at h30
    have hk : knownF p 0 [] = 31 := by unfold knownF; rw [hok, hposs]; rfl
    rw [hk] at h32
    rw [if_neg (by decide)] at h32
    have hff : (checkFF p fs == 0) = false := by
      cases h : (checkFF p fs == 0) with
      | false => rfl
      | true =>
        have := fine_possible (fine_of.1 (by simpa using h))
        rw [hposs] at this; cases this
    refine zu (zn 11) cfn11 rfl (n := 305) rfl ?_
    simp only [bW, if_true, Nat.reduceEqDiff, if_false, zp]
    repeat' first
      | (intro hb; first | cases hb | skip)
      | ((first | apply z9 | apply zh)
         · rfl
         · simp (disch := assumption) only [go_sem, Nat.reduceEqDiff, Nat.reduceAdd, bP, zj, Nat.reduceLeDiff, Nat.reduceLT, Nat.reduceMul, List.length_append, decide_eq_true_eq, zc, z7, Int.reduceToNat, Int.reduceLE, Int.reduceLT, Int.reduceBNe, Int.reduceBEq, t14, h17, hlw, h40, h15, h18, h44, beq_self_eq_true, bne_self_eq_false, whyD_one, zJ, pd_why, Int.lt_irrefl, okF.snapAll, List.length_map, h30, h48, h32, h44w, hff]
           rfl
         · simp only [go_sem, Nat.reduceLT, Nat.reduceEqDiff]
           rfl
         · rfl
         first
         | (apply zg
            · simp only [z6, z5, Nat.reduceLT, decide_true, cond_true, ins]
              rfl
            · simp only [z6, z5, Nat.reduceLT, decide_true, cond_true, ins]
              rfl)
         | (apply zl
            · simp only [z6, z5, Nat.reduceLT, decide_true, cond_true, ins]
              rfl))
      | ((first | apply ze | apply zf)
         · rfl
         · simp only [z6, z5, Nat.reduceLT, decide_true, cond_true, ins]
           rfl)
      | (apply zd
         · simp only [go_sem, Nat.reduceEqDiff])
      | (apply z8
         · simp only [go_sem, Nat.reduceEqDiff])
      | (apply zk
         · kernel_rfl
         · kernel_rfl)
      | (simp only [bW, if_true, Nat.reduceEqDiff, if_false])
    all_goals try simp only [go_sem, Nat.reduceEqDiff, bP, Nat.reduceAdd, Nat.reduceLeDiff, List.length_map, Tryd.f11]
    all_goals first | done | rfl | (simp_all []; done) | trace_state
  | none =>
  rw [hcl] at h48
  simp only [clashD] at h48
  have hposs : possibleF p = true := by
    unfold clashR at hcl
    unfold possibleF
    split at hcl
    · cases hcl
    · rename_i h; rw [h, hcl]; rfl
  have hc0 := poss_none hposs (show zR 0 = true from rfl)
  have hc1 := poss_none hposs (show zR 1 = true from rfl)
  rw [hposs] at h30
  have hk : knownF p 0 [] = 0 := known_zero.2 ⟨hok, hposs, rfl, rfl⟩
  rw [if_pos hk] at h32 h33
  obtain ⟨F0, F1⟩ := ends_fine hok hc0 hc1
  rw [fine_noclash2 F0 l] at h44
  have k0 := t18 p (endsF0 p) false 4 hwf (by simp) (fun _ => rfl) (by have := F0.len; have := (zD hok).2.1; omega)
  have k1 := t18 p (endsF1 p) false 4 hwf (by simp) (fun _ => rfl) (by have := F1.len; have := (zD hok).2.1; omega)
  rw [fine_of.2 F0] at k0
  rw [fine_of.2 F1] at k1
  have n0 : (((endsF0 p).length : Int) != p.sheets) = false := by rw [F0.len]; exact bne_self_eq_false _
  have n1 : (((endsF1 p).length : Int) != p.sheets) = false := by rw [F1.len]; exact bne_self_eq_false _
  have hbel : (checkFF p fs == 0) = true → (lim cfg).pure 50 [.sl false ((endsF0 p).map encF) 4 none, .sl nf (fs.map encF) sf none] = some (B true) ∧ (lim cfg).pure 50 [.sl nf (fs.map encF) sf none, .sl false ((endsF1 p).map encF) 4 none] = some (B true) := by
    intro h
    have hF := fine_of.1 (show checkFF p fs = 0 by simpa using h)
    have l0 := F0.len
    have l1 := F1.len
    have l2 := hF.len
    have o2 := (zD hok).2.1
    have o1 := (zD hok).1
    have hnf' : nf = false := by
      cases h : nf with
      | false => rfl
      | true => rw [hnf h] at l2; simp at l2; omega
    have hs1 := hsf hnf'
    subst hnf'
    subst hs1
    obtain ⟨b0, b1⟩ := below_ends hF hc0 hc1
    exact ⟨t50 _ _ (by omega) (by omega) b0, t50 _ _ (by omega) (by omega) b1⟩
  have hbel0 := fun h => (hbel h).1
  have hbel1 := fun h => (hbel h).2
  clear hbel F0 F1 hcl hfew
  refine zu (zn 11) cfn11 rfl (n := 305) rfl ?_
  generalize hF : finP cfg Tryd.f11 = F
  simp only [bW, if_true, Nat.reduceEqDiff, if_false, zp]
  have hret : ∀ st, get st.tmps 14 = B true → F .ret st = some (B true) := by
    intro st h
    subst hF
    simp only [go_sem, Nat.reduceEqDiff, bP, Nat.reduceAdd, Nat.reduceLeDiff, List.length_map, Tryd.f11, h]
  repeat' first
    | (intro hb; first | cases hb | skip)
    | ((first | apply z9 | apply zh)
       · rfl
       · simp (disch := assumption) only [go_sem, Nat.reduceEqDiff, Nat.reduceAdd, bP, zj, Nat.reduceLeDiff, Nat.reduceLT, Nat.reduceMul, List.length_append, decide_eq_true_eq, zc, z7, Int.reduceToNat, Int.reduceLE, Int.reduceLT, Int.reduceBNe, Int.reduceBEq, t14, h17, hlw, h40, h15, h18, h44, beq_self_eq_true, bne_self_eq_false, whyD_one, zJ, pd_why, Int.lt_irrefl, okF.snapAll, List.length_map, h30, h48, h32, h33, k0, k1, n0, n1, hbel0, hbel1]
         rfl
       · simp only [go_sem, Nat.reduceLT, Nat.reduceEqDiff]
         rfl
       · rfl
       first
       | (apply zg
          · simp only [z6, z5, Nat.reduceLT, decide_true, cond_true, ins]
            rfl
          · simp only [z6, z5, Nat.reduceLT, decide_true, cond_true, ins]
            rfl)
       | (apply zl
          · simp only [z6, z5, Nat.reduceLT, decide_true, cond_true, ins]
            rfl))
    | ((first | apply ze | apply zf)
       · rfl
       · simp only [z6, z5, Nat.reduceLT, decide_true, cond_true, ins]
         rfl)
    | (apply zd
       · simp only [go_sem, Nat.reduceEqDiff])
    | (apply z8
       · simp only [go_sem, Nat.reduceEqDiff])
    | (apply zk
       · kernel_rfl
       · kernel_rfl)
    | (simp only [bW, if_true, Nat.reduceEqDiff, if_false])
  all_goals first
  | exact hret _ rfl
  | (refine S17 p s ax true bd l nl sz hwf hnl hsz hll hok hposs hret _ ?_ ?_ ?_ ?_ ?_ ?_ ?_ ?_ ?_ ?_ ?_ ?_ ?_ ?_ <;> rfl)
  | (refine S17 p s ax false bd l nl sz hwf hnl hsz hll hok hposs hret _ ?_ ?_ ?_ ?_ ?_ ?_ ?_ ?_ ?_ ?_ ?_ ?_ ?_ ?_ <;> rfl)
end Go.VS
/-
  VS, part P: what arguments that read as data stand for; what a law's call leaves. (A text of this claim's own; nothing of it is trusted.)
-/
namespace Go.VS
open Go Go.RowKit Go.ChangeShapes Go.WideShapes

def memOf (w : World) : Mem := fun b o => w.cell? ⟨b, o, none⟩
theorem memOf_ok (w : World) : MOK (memOf w) w := fun _ _ _ h => h

/-- Which cells a value of a type may have. -/
def Sh (C : Cfg) : Nat → TypeId → List D → Prop
  | 0, _, _ => False
  | f + 1, t, ds => match C.ty t with
    | some ty => match ty.kind with
      | .int k => ∃ n, ds = [.val (.int k n)] ∧ k.min ≤ n ∧ n ≤ k.max
      | .bool => ∃ b, ds = [B b]
      | .str => ∃ s : ByteArray, ds = [.val (.string s)] ∧ s.size ≤ maxLen
      | .struct fs => ds.length = ty.size ∧ ∀ p ∈ fs, ∃ tf, C.ty p.1 = some tf ∧ Sh C f p.1 ((ds.drop p.2).take tf.size)
      | .arr n e => ds.length = ty.size ∧ ∃ te, C.ty e = some te ∧ ∀ i, i < n → Sh C f e ((ds.drop (i * te.size)).take te.size)
      | .slice e => ds = [.sl true [] 0 none] ∨ ∃ els te, C.ty e = some te ∧ ds = [.sl false els te.size none] ∧ els.length ≤ maxLen ∧
          ∀ d ∈ els, Sh C f e d.cells ∧ (te.isAgg = true → d = .agg d.cells) ∧ (te.isAgg = false → d.cells = [d])
      | _ => False
    | none => False
/-- Types without slices. -/
def flatT (C : Cfg) : Nat → TypeId → Bool
  | 0, _ => false
  | f + 1, t => match C.ty t with
    | some ty => match ty.kind with
      | .int _ => true
      | .bool => true
      | .str => true
      | .struct fs => fs.all fun p => flatT C f p.1
      | .arr _ e => flatT C f e
      | _ => false
    | none => false
/-- Types with slices whose elements have none. -/
def topT (C : Cfg) : Nat → TypeId → Bool
  | 0, _ => false
  | f + 1, t => match C.ty t with
    | some ty => match ty.kind with
      | .int _ => true
      | .bool => true
      | .str => true
      | .struct fs => fs.all fun p => topT C f p.1
      | .arr _ e => topT C f e
      | .slice e => flatT C f e
      | _ => false
    | none => false
theorem flat_top {C : Cfg} : ∀ {f : Nat} {t : TypeId}, flatT C f t = true → topT C f t = true
  | 0, _, h => by cases h
  | f + 1, t, h => by
    unfold flatT at h; unfold topT
    split at h
    · rename_i ty ht
      try rw [ht]
      try simp only []
      cases hk : ty.kind <;> rw [hk] at h <;> simp only [] at h ⊢ <;> (try (cases h; done))
      · exact flat_top h
      · simp only [List.all_eq_true] at h ⊢
        exact fun p hp => flat_top (h p hp)
    · cases h

def plainCells (cs : List Value) : Prop := ∀ v ∈ cs, ∀ a l c, v = .slice (some a) l c → a.spot = none

theorem cellsOf_of {P : Program} {t : TypeId} {ty : Ty} (h : tyOf P t = some ty) : P.cellsOf t = ty.size := by
  obtain ⟨i, d, hi, hd, hz, hk, hs, hb⟩ := tyOf_spec h
  simp [Program.cellsOf, hi, hs]

theorem list_parts {α : Type} (l : List α) (n k : Nat) (h : l.length = n * k) : l = (List.range n).flatMap fun i => (l.drop (i * k)).take k := by
  induction n generalizing l with
  | zero => simp at h ⊢; exact h
  | succ n ih =>
    rw [List.range_succ_eq_map, List.flatMap_cons]
    simp only [Nat.zero_mul, List.drop_zero, List.flatMap_map]
    have hl : (l.drop k).length = n * k := by rw [List.length_drop, h, Nat.add_mul]; omega
    have e := ih (l.drop k) hl
    have : (List.range n).flatMap (fun i => ((l.drop k).drop (i * k)).take k) = (List.range n).flatMap (fun i => (l.drop ((i + 1) * k)).take k) := by
      congr 1; funext i; rw [List.drop_drop]; congr 2; rw [Nat.add_mul]; omega
    rw [this] at e
    calc l = l.take k ++ l.drop k := (List.take_append_drop k l).symm
      _ = _ := by rw [← e]

/-- Parts that stand for parts, put together. -/
theorem zC.join {M : Mem} {Q : Nat → List D → Prop} : ∀ (n : Nat) (F : Nat → List Value), (∀ i, i < n → ∃ ds, zC M noLoc ds (F i) ∧ Q i ds) →
    ∃ G : Nat → List D, zC M noLoc ((List.range n).flatMap G) ((List.range n).flatMap F) ∧ ∀ i, i < n → zC M noLoc (G i) (F i) ∧ Q i (G i) := by
  intro n F h
  obtain ⟨G, hG⟩ := Go.Deep.choose_lt (α := List D) (p := fun i ds => zC M noLoc ds (F i) ∧ Q i ds) h
  refine ⟨G, ?_, hG⟩
  have : ∀ l : List Nat, (∀ i ∈ l, i < n) → zC M noLoc (l.flatMap G) (l.flatMap F) := by
    intro l
    induction l with
    | nil => intro _; simp [zC]
    | cons a l ih =>
      intro hl
      simp only [List.flatMap_cons]
      exact zC.append (hG a (hl a (by simp))).1 (ih fun i hi => hl i (List.mem_cons_of_mem _ hi))
  exact this _ fun i hi => by simpa using hi
theorem flatMap_part {α : Type} (n : Nat) (G : Nat → List α) (k : Nat) (h : ∀ i, i < n → (G i).length = k) (i : Nat) (hi : i < n) : (((List.range n).flatMap G).drop (i * k)).take k = G i := by
  induction n generalizing i G with
  | zero => omega
  | succ n ih =>
    rw [List.range_succ_eq_map, List.flatMap_cons, List.flatMap_map]
    have h0 := h 0 (by omega)
    cases i with
    | zero => simp [← h0]
    | succ i =>
      rw [List.drop_append, List.drop_eq_nil_of_le (by rw [h0, Nat.add_mul]; omega), List.nil_append, h0]
      have : (i + 1) * k - k = i * k := by rw [Nat.add_mul]; omega
      rw [this]
      exact ih (fun i => G (i + 1)) (fun i hi => h (i + 1) (by omega)) i (by omega)

/-- The fields of a struct cover its cells, one behind the other. -/
def rowed : Nat → List (Nat × Nat) → Option Nat
  | o, [] => some o
  | o, (off, size) :: r => if off = o then rowed (o + size) r else none
def rowedT (C : Cfg) : Nat → TypeId → Bool
  | 0, _ => false
  | f + 1, t => match C.ty t with
    | some ty => match ty.kind with
      | .int _ => ty.size == 1
      | .bool => ty.size == 1
      | .str => ty.size == 1
      | .slice e => ty.size == 1 && (match C.ty e with | some te => rowedT C f e && decide (0 < te.size) | none => false)
      | .struct fs => (fs.all fun p => rowedT C f p.1) && (match placesOf C fs with | some pl => rowed 0 pl == some ty.size | none => false)
      | .arr n e => rowedT C f e && (match C.ty e with | some te => ty.size == n * te.size | none => false)
      | _ => false
    | none => false

theorem rowed_parts {M : Mem} {cs : List Value} : ∀ (l : List (Nat × Nat)) (o n : Nat), rowed o l = some n → n ≤ cs.length → ∀ {Q : Nat → List D → Prop},
    (∀ i p, l[i]? = some p → ∃ ds, zC M noLoc ds ((cs.drop p.1).take p.2) ∧ Q i ds) →
    ∃ ds, zC M noLoc ds ((cs.drop o).take (n - o)) ∧ ds.length = n - o ∧ o ≤ n ∧ ∀ i p, l[i]? = some p → o ≤ p.1 ∧ Q i ((ds.drop (p.1 - o)).take p.2)
  | [], o, n, h, hn, Q, _ => by
    simp only [rowed, Option.some.injEq] at h; subst h
    exact ⟨[], by simp [zC], by simp, Nat.le_refl _, by simp⟩
  | (off, size) :: r, o, n, h, hn, Q, hq => by
    simp only [rowed] at h
    split at h
    · rename_i ho; subst ho
      obtain ⟨d0, h1, h2⟩ := hq 0 (off, size) rfl
      obtain ⟨ds, k1, k2, k3, k4⟩ := rowed_parts r (off + size) n h hn (Q := fun i => Q (i + 1)) (fun i p hp => hq (i + 1) p (by simpa using hp))
      have hl : d0.length = size := by rw [← h1.length, List.length_take, List.length_drop]; omega
      refine ⟨d0 ++ ds, ?_, by simp [hl, k2]; omega, by omega, fun i p hp => ?_⟩
      · have e : (cs.drop off).take (n - off) = (cs.drop off).take size ++ (cs.drop (off + size)).take (n - (off + size)) := by
          rw [show n - off = size + (n - (off + size)) by omega, List.take_add, List.drop_drop]
        rw [e]; exact h1.append k1
      · cases i with
        | zero => simp at hp; subst hp; simp [← hl]; simpa [hl] using h2
        | succ i =>
          obtain ⟨q1, q2⟩ := k4 i p (by simpa using hp)
          refine ⟨by omega, ?_⟩
          rw [List.drop_append, List.drop_eq_nil_of_le (by omega), List.nil_append, hl, show p.1 - off - size = p.1 - (off + size) by omega]
          exact q2
    · cases h

section
variable {H : Type} {enc : TypeId × Value → H} {C : Cfg} {w : World} {base : Nat} {sp : Nat → Bool} {held : Bool}

theorem placesOf_get : ∀ {fs : List (TypeId × Nat)} {pl : List (Nat × Nat)}, placesOf C fs = some pl → fs.length = pl.length ∧ ∀ (i : Nat) (p : Nat × Nat), pl[i]? = some p → ∃ t ty, fs[i]? = some (t, p.1) ∧ C.ty t = some ty ∧ ty.size = p.2
  | [], pl, h => by simp [placesOf] at h; subst h; simp
  | (t, off) :: r, pl, h => by
    simp only [placesOf] at h
    split at h
    · rename_i ty l h1 h2
      cases h
      obtain ⟨k1, k2⟩ := placesOf_get h2
      refine ⟨by simp [k1], fun i p hp => ?_⟩
      cases i with
      | zero => simp at hp; subst hp; exact ⟨t, ty, by simp, h1, rfl⟩
      | succ i => obtain ⟨t', ty', a, b, c⟩ := k2 i p (by simpa using hp); exact ⟨t', ty', by simpa using a, b, c⟩
    · cases h

theorem fieldsOf_get {fs : Array Field} {i : Nat} {p : TypeId × Nat} (h : (fs.toList.map fun f => (f.type, f.offset))[i]? = some p) : ∃ f : Field, fs[i]? = some f ∧ f.type = p.1 ∧ f.offset = p.2 := by
  rw [List.getElem?_map] at h
  cases hf : fs.toList[i]? with
  | none => rw [hf] at h; cases h
  | some f => rw [hf] at h; cases h; exact ⟨f, by simpa using hf, rfl, rfl⟩

/-- What reads as data has a deep value. -/
theorem trod_rep (hC : ∀ t ty, C.ty t = some ty → tyOf C.P t = some ty) : ∀ (f n : Nat) (t : TypeId) (cs : List Value) (x : DataW H × List MemPlace),
    DataW.trod enc C.P w base sp held n t cs = some x → topT C f t = true → rowedT C f t = true → (plainCells cs ∨ flatT C f t = true) →
    ∃ ds, zC (memOf w) noLoc ds cs ∧ Sh C f t ds
  | 0, _, _, _, _, _, h, _, _ => by cases h
  | f + 1, n, t, cs, x, h, ht, hw, hp => by
    unfold topT at ht
    split at ht
    case h_2 => cases ht
    rename_i ty hty
    have hto := hC _ _ hty
    obtain ⟨i, d, hi, hd, hz, hk, hs, hb⟩ := tyOf_spec hto
    unfold rowedT at hw
    rw [hty] at hw; simp only [] at hw
    unfold Sh
    rw [hty]; simp only []
    have hp' : plainCells cs ∨ (match ty.kind with | .int _ => true | .bool => true | .str => true | .struct fs => fs.all (fun p => flatT C f p.1) | .arr _ e => flatT C f e | _ => false) = true := by
      rcases hp with hp | hp
      · exact .inl hp
      · unfold flatT at hp; rw [hty] at hp; exact .inr hp
    clear hp
    cases d <;> simp only [tkOf] at hk <;> rw [hk] at ht hw hp' ⊢ <;> simp only [] at ht hw hp' ⊢ <;> (try (cases ht; done))
    case bool =>
      obtain ⟨b, rfl, _⟩ := DataW.trod_bool hd h
      exact ⟨[B b], by simp [zC, Rep], b, rfl⟩
    case int k =>
      obtain ⟨m, rfl, _, hwf⟩ := DataW.trod_int hd h
      simp only [Lit.wf, Bool.and_eq_true, decide_eq_true_eq] at hwf
      exact ⟨[.val (.int k m)], by simp [zC, Rep], m, rfl, hwf⟩
    case string =>
      obtain ⟨s, rfl, _, hsz⟩ := DataW.trod_string hd h
      exact ⟨[.val (.string s)], by simp [zC, Rep], s, rfl, hsz⟩
    case struct fs =>
      obtain ⟨xs, m, rfl, _, hl, hxl, hf⟩ := DataW.trod_struct hd h
      rw [cellsOf_of hto] at hl
      simp only [Bool.and_eq_true] at hw
      obtain ⟨hw1, hw2⟩ := hw
      split at hw2
      case h_2 => cases hw2
      rename_i pl hpl
      have hrow : rowed 0 pl = some ty.size := by simpa using hw2
      obtain ⟨hlen, hget⟩ := placesOf_get hpl
      obtain ⟨ds, k1, k2, _, k4⟩ := rowed_parts (M := memOf w) (cs := cs) pl 0 ty.size hrow (by omega) (Q := fun i ds => ∃ p, (fs.toList.map fun f => (f.type, f.offset))[i]? = some p ∧ Sh C f p.1 ds) (fun i p hp0 => by
        obtain ⟨t', ty', a, b, c⟩ := hget i p hp0
        obtain ⟨fd, e1, e2, e3⟩ := fieldsOf_get a
        simp only [] at e2 e3
        have hmem := List.mem_of_getElem? a
        simp only [List.all_eq_true] at ht hw1
        have hx := hf i fd e1
        have hil : i < xs.length := by rw [hxl]; exact (Array.getElem?_eq_some_iff.1 e1).1
        rw [List.getElem?_eq_getElem hil, e2, e3, cellsOf_of (hC _ _ b), c] at hx
        obtain ⟨ds, q1, q2⟩ := trod_rep hC f m _ _ _ hx (ht _ hmem) (hw1 _ hmem) (by
          rcases hp' with hp | hp
          · exact .inl fun v hv => hp v (List.mem_of_mem_drop (List.mem_of_mem_take hv))
          · simp only [List.all_eq_true] at hp; exact .inr (hp _ hmem))
        exact ⟨ds, q1, _, a, q2⟩)
      simp only [List.drop_zero, Nat.sub_zero] at k1 k2 k4
      rw [← hl, List.take_length] at k1
      refine ⟨ds, k1, k2, fun p hpm => ?_⟩
      obtain ⟨i, hi'⟩ := List.mem_iff_getElem?.1 hpm
      have hil : i < pl.length := by rw [← hlen]; exact (List.getElem?_eq_some_iff.1 hi').1
      obtain ⟨t', ty', a, b, c⟩ := hget i pl[i] (List.getElem?_eq_getElem hil)
      rw [hi'] at a; cases a
      obtain ⟨_, p', q1, q2⟩ := k4 i pl[i] (List.getElem?_eq_getElem hil)
      rw [hi'] at q1; cases q1
      exact ⟨ty', b, by rw [c]; exact q2⟩
    case array m e =>
      obtain ⟨xs, m', rfl, _, hl, hxl, hf⟩ := DataW.trod_array hd h
      rw [cellsOf_of hto] at hl
      simp only [Bool.and_eq_true] at hw
      obtain ⟨hw1, hw2⟩ := hw
      split at hw2
      case h_2 => cases hw2
      rename_i te hte
      have hsz : ty.size = m * te.size := by simpa using hw2
      have hce := cellsOf_of (hC _ _ hte)
      have hpart := list_parts cs m te.size (by rw [hl, hsz])
      obtain ⟨G, g1, g2⟩ := zC.join (M := memOf w) (Q := fun _ ds => Sh C f e ds) m (fun i => (cs.drop (i * te.size)).take te.size) (fun i hi => by
        have hx := hf i hi
        rw [List.getElem?_eq_getElem (by omega), hce] at hx
        exact trod_rep hC f m' _ _ _ hx ht hw1 (by
          rcases hp' with hp | hp
          · exact .inl fun v hv => hp v (List.mem_of_mem_drop (List.mem_of_mem_take hv))
          · exact .inr hp))
      rw [← hpart] at g1
      have hGl : ∀ i, i < m → (G i).length = te.size := by
        intro i hi
        rw [← (g2 i hi).1.length, List.length_take, List.length_drop, hl, hsz]
        have : (i + 1) * te.size ≤ m * te.size := Nat.mul_le_mul_right _ hi
        rw [Nat.add_mul] at this; omega
      refine ⟨_, g1, by rw [← g1.length]; exact hl, te, hte, fun i hi => ?_⟩
      rw [flatMap_part m G te.size hGl i hi]
      exact (g2 i hi).2
    case slice e =>
      simp only [Bool.and_eq_true] at hw
      obtain ⟨_, hw2⟩ := hw
      split at hw2
      case h_2 => cases hw2
      rename_i te hte
      simp only [Bool.and_eq_true, decide_eq_true_eq] at hw2
      obtain ⟨hw2, hpos⟩ := hw2
      have hce := cellsOf_of (hC _ _ hte)
      rcases Go.Deep.open_slice hd h with ⟨rfl, _⟩ | ⟨a, len, cap, m, n', Dd, Pl, rfl, hb, hl, hm, hmm, _, hx⟩
      · exact ⟨[.sl true [] 0 none], by simp [zC, Rep], .inl rfl⟩
      · have hlm : len ≤ m := by rw [hmm]; split <;> omega
        have hsp : a.spot = none := by
          rcases hp' with hp | hp
          · exact hp _ (by simp) a len cap rfl
          · cases hp
        obtain ⟨b, o, s⟩ := a
        simp only [] at hsp; subst hsp
        obtain ⟨G, hG⟩ := Go.Deep.choose_lt (α := D) (p := fun i d => (∃ u, Rep (memOf w) noLoc d u ∧ u.cells.size = te.size ∧ MemAt (memOf w) b (o + i * te.size) u.cells) ∧ Sh C f e d.cells ∧ (te.isAgg = true → d = .agg d.cells) ∧ (te.isAgg = false → d.cells = [d])) (n := len) (fun i hi => by
          obtain ⟨cs', c1, c2⟩ := hx i (by omega)
          obtain ⟨_, c3, c4⟩ := World.cells?_some c1
          obtain ⟨ds, q1, q2⟩ := trod_rep hC f n' e cs' _ c2 (flat_top ht) hw2 (.inr ht)
          rw [hce] at c3 c4
          have hM : MemAt (memOf w) b (o + i * te.size) cs'.toArray := by
            intro j u hu
            have hj : j < te.size := by
              have := (Array.getElem?_eq_some_iff.1 hu).1; simpa [c3] using this
            have := c4 j hj
            rw [addr_add, addr_add] at this
            unfold memOf
            rw [this]; simpa using hu
          cases hag : te.isAgg with
          | true =>
            refine ⟨.agg ds, ⟨.agg cs'.toArray, ?_, by simpa [Value.cells] using c3, hM⟩, q2, fun _ => rfl, fun h => by simp at h⟩
            simp only [Rep]; exact ⟨_, rfl, by simpa using q1⟩
          | false =>
            -- one cell
            obtain ⟨i2, d2, _, hd2, _, hk2, _, _⟩ := tyOf_spec (hC _ _ hte)
            have h1 : te.size = 1 ∧ ∃ d v, ds = [d] ∧ d.cells = [d] ∧ cs' = [v] ∧ v.cells = #[v] := by
              cases f with
              | zero => cases ht
              | succ f =>
                unfold flatT at ht; unfold rowedT at hw2; unfold Sh at q2
                rw [hte] at ht hw2 q2; simp only [] at ht hw2 q2
                cases d2 <;> simp only [tkOf] at hk2 <;> rw [hk2] at ht hw2 q2 <;> simp only [] at ht hw2 q2 <;> (try (cases ht; done))
                · obtain ⟨b', rfl⟩ := q2
                  simp only [zC, Rep] at q1
                  obtain ⟨v, r, rfl, rfl, rfl⟩ := q1
                  exact ⟨by simpa using hw2, _, _, rfl, rfl, rfl, rfl⟩
                · obtain ⟨z, rfl, _⟩ := q2
                  simp only [zC, Rep] at q1
                  obtain ⟨v, r, rfl, rfl, rfl⟩ := q1
                  exact ⟨by simpa using hw2, _, _, rfl, rfl, rfl, rfl⟩
                · obtain ⟨z, rfl, _⟩ := q2
                  simp only [zC, Rep] at q1
                  obtain ⟨v, r, rfl, rfl, rfl⟩ := q1
                  exact ⟨by simpa using hw2, _, _, rfl, rfl, rfl, rfl⟩
                · simp [Ty.isAgg, hk2] at hag
                · simp [Ty.isAgg, hk2] at hag
            obtain ⟨hsz, dd, v, rfl, hdc, rfl, hvc⟩ := h1
            simp only [zC] at q1
            obtain ⟨v', r, e1, q1, rfl⟩ := q1
            cases e1
            refine ⟨dd, ⟨v, q1, by rw [hvc, hsz]; rfl, by rw [hvc]; exact hM⟩, by rw [hdc]; exact q2, fun h => by simp at h, fun _ => hdc⟩)
        refine ⟨[.sl false ((List.range len).map G) te.size none], ?_, .inr ⟨_, te, hte, rfl, by simp; omega, fun d hd' => ?_⟩⟩
        · simp only [zC, Rep]
          refine ⟨_, [], rfl, ⟨by simp, fun _ => ⟨b, o, cap, by simp, by simpa using hl, hm, by simp, RepE.ofGet fun i d hd' => ?_⟩⟩, rfl⟩
          rw [List.getElem?_map] at hd'
          have hi' : i < len := by
            rcases Nat.lt_or_ge i len with h | h
            · exact h
            · rw [List.getElem?_eq_none (by simpa using h)] at hd'; cases hd'
          rw [List.getElem?_range hi'] at hd'; cases hd'
          exact (hG i hi').1
        · obtain ⟨i, hi', rfl⟩ := List.mem_map.1 hd'
          exact (hG i (by simpa using hi')).2

/-- An argument. -/
theorem plain_arg {P : Program} {r : Reach} {base : Nat} {t : TypeId} {v : Value} (h : Value.okWide P w r base t v) : plainCells v.cells.toList := by
  have key : ∀ u x, Cell.okWide P w r base u x → ∀ a l c, x = .slice (some a) l c → a.spot = none := by
    rintro u x hx a l c rfl
    unfold Cell.okWide at hx
    split at hx <;> try (rename_i h1 h2; cases h2; done)
    unfold Cell.ok at hx
    split at hx <;> try (rename_i h1 h2; cases h2; done)
    · rename_i h1 h2
      cases h2
      exact hx.2.2.2.1
    · cases hx
  unfold Value.okWide at h
  split at h
  · obtain ⟨cs, rfl, _, ts, _, _, hc⟩ := h
    intro x hx
    obtain ⟨i, hi⟩ := List.mem_iff_getElem?.1 hx
    obtain ⟨u, _, hu⟩ := hc i x (by simpa [Value.cells] using hi)
    exact key u x hu
  · obtain ⟨cs, rfl, _, ts, _, _, hc⟩ := h
    intro x hx
    obtain ⟨i, hi⟩ := List.mem_iff_getElem?.1 hx
    obtain ⟨u, _, hu⟩ := hc i x (by simpa [Value.cells] using hi)
    exact key u x hu
  · intro x hx a l c e
    have hv : x = v ∨ ∃ cs, v = .agg cs := by
      cases v <;> first | exact .inr ⟨_, rfl⟩ | (left; simpa [Value.cells] using hx)
    rcases hv with rfl | ⟨cs, rfl⟩
    · exact key t x h a l c e
    · exfalso
      unfold Cell.okWide at h
      split at h <;> try (rename_i h1 h2; cases h2; done)
      unfold Cell.ok at h
      split at h <;> first | (rename_i h1 h2; cases h2; done) | cases h
end
end Go.VS
/-
  VS, part P2: what a law's call leaves, as its row says it. (A text of this claim's own; nothing of it is trusted.)
-/
namespace Go.VS
open Go Go.RowKit Go.ChangeShapes Go.WideShapes

section
variable {H : Type} {enc : TypeId × Value → H} {P : Program}
theorem trodAll_carry {w w' : World} {base : Nat} {sp : Nat → Bool} {held : Bool} : ∀ {ts : List TypeId} {vs : List Value} {ds : List (DataW H)} {ps : List MemPlace}, DataW.TrodAll enc P w base sp held ts vs ds ps → (∀ p ∈ ps, w.sameAt w' p) → DataW.TrodAll enc P w' base sp held ts vs ds ps
  | [], [], [], _, h, _ => h
  | _ :: _, _ :: _, _ :: _, _, ⟨p, q, ⟨n, h1⟩, h2, e⟩, hs => ⟨p, q, ⟨n, DataW.trod_carry n _ _ _ h1 (fun x hx => hs x (by rw [e]; exact List.mem_append_left _ hx))⟩, trodAll_carry h2 (fun x hx => hs x (by rw [e]; exact List.mem_append_right _ hx)), e⟩
theorem sameAt_of {w w' : World} (h : ∀ b, b < w.heap.size → w'.heap[b]? = w.heap[b]?) : ∀ p : MemPlace, p.block < w.heap.size → w.sameAt w' p
  | .cell b off, hp => by
    show w'.cell? ⟨b, off, none⟩ = w.cell? ⟨b, off, none⟩
    unfold World.cell?
    rw [h b hp]
  | .map b, hp => h b hp
theorem post_same {f : Func} {s : ChangeSpec} {apart fresh handsOn again : Bool} {W W' : World} {args : Array Value} {v : Value} {ds gs : List (DataW H)} {before pa pv : List MemPlace}
    (hW : DataW.Whole enc P f.params.toList s.vars apart W args.toList ds gs before)
    (hres : ∀ (b : Nat) (sp : Nat → Bool) (hd : Bool), DataW.TrodAll enc P W' b sp hd f.resultTypes.toList (v.resultList f.resultTypes.size) (s.fn H (ds ++ gs)).results [])
    (hargs : ∀ sp : Nat → Bool, (∀ p ∈ before, sp p.block = true) → DataW.TrodAll enc P W' 0 sp true f.params.toList args.toList (s.fn H (ds ++ gs)).args pa)
    (hvars : ∀ sp : Nat → Bool, (∀ p ∈ before, sp p.block = true) → DataW.TrodVars enc P W' sp s.vars (s.fn H (ds ++ gs)).vars pv)
    (hps : before = pa ++ pv) (hk : W.keptBut W' (· ∈ before)) (hfz : ∀ p ∈ before, ∀ b off, p = .cell b off → W'.frozen? ⟨b, off, none⟩ = W.frozen? ⟨b, off, none⟩)
    (hok : ∀ (j : Nat) (t : TypeId) (r : Value), f.resultTypes[j]? = some t → (v.resultList f.resultTypes.size)[j]? = some r → Value.okWide P W' .any 0 t r) :
    s.post enc P f apart fresh handsOn again W args v W' := by
  have hold : ∀ p ∈ before, (fun b => decide (b < W.heap.size)) p.block = true := fun p hp => by simpa using hW.lt p hp
  refine ⟨ds, gs, before, [], pa, pv, hW, hres _ _ _, hargs _ hold, hvars _ hold, World.keptBut_mono (fun p hp => ⟨hp, ?_⟩) hk, fun _ => ?_⟩
  · rw [hps, List.mem_append] at hp
    exact Or.inr hp
  · obtain ⟨_, _, _, _, _, hz, hn⟩ := hW
    refine ⟨hok, _, _, ([] ++ pa) ++ pv, ⟨[] ++ pa, pv, trodAll_append (hargs _ (fun _ _ => rfl)) (hres _ _ _), hvars _ (fun _ _ => rfl), rfl, ?_, ?_⟩, ?_⟩
    · intro b off hp
      have hp' : MemPlace.cell b off ∈ before := by rw [hps]; simpa using hp
      rw [hfz _ hp' b off rfl]
      exact hz b off hp'
    · intro ha
      have := hn ha
      rw [hps] at this
      simpa using this
    · intro p hp _
      rw [hps]
      simpa using hp

theorem law_post {C : Cfg} (hC : CfgOK C) (hX : ExtOK C) (hl : laidOutB C.P = true) (hm : mapsRowed C.P = true) (hz : ∀ t e, t < C.P.types.size → C.P.underlying t = some (.slice e) → 0 < C.P.cellsOf e)
    {K : FuncId} {dsD : List D} (hpure : (lim C).pure K dsD = some (B true)) {W : World} {args : Array Value} (hrep : zC (memOf W) noLoc dsD args.toList) (hG : GlobOK C (memOf W))
    {f : Func} {s : ChangeSpec} {apart fresh handsOn again : Bool} {ds gs : List (DataW H)} {before : List MemPlace}
    (hW : DataW.Whole enc C.P f.params.toList s.vars apart W args.toList ds gs before) (hv : s.vars = [])
    (hfn : s.fn H ds = { results := [.lit (.bool true)], args := ds }) {tb : TypeId} (hres : f.resultTypes = #[tb]) (htb : C.P.underlying tb = some .bool)
    (hts : ∀ t ∈ f.params.toList, t < C.P.types.size) :
    Calls C.P K args W fun e W' => ∃ v, e = .returned v ∧ s.post enc C.P f apart fresh handsOn again W args v W' := by
  refine (lim_sound hC hX hpure (memOf W) W args (memOf_ok W) hG hrep).mono ?_
  rintro e W' ⟨v, M', rfl, k1, k2, k3, k4, k5, k6, k7, k8, k9⟩
  simp only [Rep] at k3; subst k3
  have hW' := hW
  obtain ⟨p, q, hA, hVars, rfl, hnf, hnd⟩ := hW'
  rw [hv] at hVars
  obtain ⟨rfl, rfl⟩ : gs = [] ∧ q = [] := by
    cases gs with
    | nil => exact ⟨rfl, hVars⟩
    | cons g gs => cases hVars
  have hlt := hW.lt
  refine ⟨_, rfl, post_same (pa := p) (pv := []) hW ?_ ?_ ?_ rfl ?_ ?_ ?_⟩
  · intro b sp hd
    rw [List.append_nil, hfn, hres]
    refine ⟨[], [], ⟨1, ?_⟩, rfl, rfl⟩
    simp [DataW.trod, htb, Value.cells]
  · intro sp hsp
    rw [List.append_nil, hfn]
    refine trodAll_carry (DataW.TrodAll.respare (T := (· < C.P.types.size)) (kids_rows hl hm) hz hts hA (fun p hp => hsp p (by simpa using hp))) (fun p hp => sameAt_of k8 p (hlt p (by simpa using hp)))
  · intro sp hsp
    rw [List.append_nil, hfn, hv]; rfl
  · refine ⟨k4, k6, fun i hi => ?_⟩
    rw [k8 i hi]
    cases hh : W.heap[i]? with
    | none => trivial
    | some o => cases o <;> simp
  · rintro _ hp b off rfl
    unfold World.frozen?
    rw [k8 b (hlt _ hp)]
  · intro j t r h1 h2
    rw [hres] at h1 h2
    cases j with
    | zero =>
      simp at h1; subst h1
      simp [Value.resultList] at h2; subst h2
      simp [Value.okWide, htb, Cell.okWide, Cell.ok]
    | succ j => simp at h1
end
end Go.VS
/-
  The seat's program: its tables are right; its variable; what its arguments stand for. (A text of this claim's own; nothing of it is trusted.)
-/
namespace Go.VS
open Go Go.Proofs Go.RowKit Go.ChangeShapes Go.WideShapes

theorem cfgOK : CfgOK cfg where
  ty := fun _ _ h => tyTab_ok.find h
  fn := fun _ _ h => fnTab_ok.find h
  enter := fun _ _ h => enTab_ok.find h
  mixed := by kernel_rfl
  eqok := fun t h => by
    have h1 : (eqTab.find t).isSome = true := h
    cases hf : eqTab.find t with
    | none => rw [hf] at h1; cases h1
    | some u =>
      have := eqTab_ok.find hf
      unfold eqB at this
      simp only [Bool.and_eq_true, Bool.not_eq_true'] at this
      refine ⟨this.1.1, this.1.2, fun fs hfs f hm => ?_⟩
      have h2 := this.2
      have hfs' : Tryd.prog.underlying t = some (.struct fs) := hfs
      rw [hfs'] at h2
      simp only [List.all_eq_true, bne_iff_ne] at h2
      exact h2 f hm
theorem extOK : ExtOK cfg where
  pure := fun K g args d h => by rw [zn] at h; cases h
  inl := fun K g args objs nxt d objs' nxt' h => by rw [cfg_xinl] at h; cases h
theorem gOne : Tryd.prog.globalNamed "acreage/paper.one" = some 0 := by kernel_rfl
theorem gOneType : (Tryd.prog.globals[0]?).map (·.type) = some 34 := by kernel_rfl
theorem ty34f : ∃ f0 f1 : Field, Tryd.prog.underlying 34 = some (.struct #[f0, f1]) ∧ f0.type = 3 ∧ f1.type = 3 ∧ f0.offset = 0 ∧ f1.offset = 1 := ⟨_, _, Tryd.underlying34, rfl, rfl, rfl, rfl⟩
theorem globOK {W : World} (h : laidMetH Tryd.prog [("acreage/paper.one", YtbndhgnkgoggmaaDoor.Rows.laid_acreage_paper_one)] W) : GlobOK cfg (memOf W) := by
  obtain ⟨ps, ⟨g', t', cs, fuel, p, q, hg', ht', hvar, hd, _, _⟩, _⟩ := h
  obtain rfl := Option.some.inj (gOne.symm.trans hg')
  obtain rfl := Option.some.inj (gOneType.symm.trans ht')
  obtain ⟨f0, f1, hu, a0, a1, b0, b1⟩ := ty34f
  obtain ⟨xs, n, rfl, hx, hl, hxl, hf⟩ := DataW.trod_struct hu hd
  have hc34 : Tryd.prog.cellsOf 34 = 2 := by kernel_rfl
  have hc3 : Tryd.prog.cellsOf 3 = 1 := by kernel_rfl
  rw [hc34] at hl
  have h0 := hf 0 f0 rfl
  have h1 := hf 1 f1 rfl
  rw [a0, b0, hc3] at h0
  rw [a1, b1, hc3] at h1
  have hxs : xs.map (·.1) = [.lit (.int .i64 1), .lit (.int .i64 1)] := by
    have := congrArg Prod.fst hx
    simp [YtbndhgnkgoggmaaDoor.Rows.laid_acreage_paper_one] at this
    exact this.symm
  obtain ⟨x0, x1, rfl⟩ : ∃ x0 x1, xs = [x0, x1] := by
    match xs, hxl with
    | [x0, x1], _ => exact ⟨x0, x1, rfl⟩
  simp at hxs h0 h1
  obtain ⟨v0, v1, hcs⟩ : ∃ v0 v1, cs.toList = [v0, v1] := by
    match hc : cs.toList, (by simpa using hl : cs.toList.length = 2) with
    | [v0, v1], _ => exact ⟨v0, v1, rfl⟩
  rw [hcs] at h0 h1
  obtain ⟨n0, e0, q0, _⟩ := DataW.trod_int Tryd.underlying3 h0
  obtain ⟨n1, e1, q1, _⟩ := DataW.trod_int Tryd.underlying3 h1
  simp at e0 e1
  subst e0 e1
  rw [q0, q1] at hxs
  simp at hxs
  obtain ⟨rfl, rfl⟩ := hxs
  intro g d hgd
  have hgd' : (if g = 0 then some (.agg [I 1, I 1]) else none) = some d := hgd
  split at hgd'
  · rename_i hg; subst hg
    cases hgd'
    refine ⟨.agg cs, ?_, fun j u hu => ?_⟩
    · simp only [Rep]
      exact ⟨cs, rfl, by rw [hcs]; simp [zC, Rep]⟩
    · have := World.var?_cell gOne hvar j
      unfold memOf
      rw [Nat.zero_add, this]
      simpa [Value.cells] using hu
  · cases hgd'

/-! ### arguments -/
set_option maxRecDepth 100000
theorem laid_out : laidOutB Tryd.prog = true := by kernel_rfl
theorem maps_rowed : mapsRowed Tryd.prog = true := by kernel_rfl
theorem sl_full : ∀ t e, t < Tryd.prog.types.size → Tryd.prog.underlying t = some (.slice e) → 0 < Tryd.prog.cellsOf e := slices_full_of Tryd.prog (by kernel_rfl)
section
variable {H : Type} {enc : TypeId × Value → H} {w : World} {base base' : Nat} {sp : Nat → Bool} {held : Bool}
theorem arg_rep {t : TypeId} {v : Value} {d : DataW H} {p : List MemPlace} {r : Reach} (h : DataW.Trod enc Tryd.prog w base sp held t v d p) (hv : Value.okWide Tryd.prog w r base' t v) (ht : topT cfg 8 t = true) (hr : rowedT cfg 8 t = true) :
    ∃ ds, zC (memOf w) noLoc ds v.cells.toList ∧ Sh cfg 8 t ds := by
  obtain ⟨n, hn⟩ := h
  exact trod_rep (C := cfg) (fun t ty h => tyTab_ok.find h) 8 n t _ _ hn ht hr (.inl (plain_arg hv))
end
theorem i64_min : IntKind.i64.min = -9223372036854775808 := by rfl
theorem i64_max : IntKind.i64.max = 9223372036854775807 := by rfl
def R64 (n : Int) : Prop := -9223372036854775808 ≤ n ∧ n ≤ 9223372036854775807
theorem sh_int {f : Nat} {ds : List D} (h : Sh cfg (f + 1) 3 ds) : ∃ n, ds = [I n] ∧ R64 n := by
  simp only [Sh, cfg_ty, cty3, ty3] at h
  obtain ⟨n, h1, h2, h3⟩ := h
  rw [i64_min] at h2
  rw [i64_max] at h3
  exact ⟨n, h1, h2, h3⟩
theorem sh_bool {f : Nat} {ds : List D} (h : Sh cfg (f + 1) 4 ds) : ∃ b, ds = [B b] := by
  simp only [Sh, cfg_ty, cty4, ty4] at h
  exact h
theorem part_one {ds : List D} {k : Nat} {d : D} (h : (ds.drop k).take 1 = [d]) : ds[k]? = some d := by
  have := congrArg (fun l => l[0]?) h
  simpa [List.getElem?_take, List.getElem?_drop] using this
theorem field_int {f k : Nat} {fs : List (TypeId × Nat)} {ds : List D} (hf : ∀ p ∈ fs, ∃ tf, cfg.ty p.1 = some tf ∧ Sh cfg (f + 1) p.1 ((ds.drop p.2).take tf.size)) (hm : (3, k) ∈ fs) : ∃ n, ds[k]? = some (I n) ∧ R64 n := by
  obtain ⟨tf, h1, h2⟩ := hf _ hm
  have : tf = ty3 := by rw [cfg_ty] at h1; exact (Option.some.inj (cty3.symm.trans h1)).symm
  subst this
  obtain ⟨n, h3, h4⟩ := sh_int h2
  exact ⟨n, part_one h3, h4⟩
theorem field_bool {f k : Nat} {fs : List (TypeId × Nat)} {ds : List D} (hf : ∀ p ∈ fs, ∃ tf, cfg.ty p.1 = some tf ∧ Sh cfg (f + 1) p.1 ((ds.drop p.2).take tf.size)) (hm : (4, k) ∈ fs) : ∃ b, ds[k]? = some (B b) := by
  obtain ⟨tf, h1, h2⟩ := hf _ hm
  have : tf = ty4 := by rw [cfg_ty] at h1; exact (Option.some.inj (cty4.symm.trans h1)).symm
  subst this
  obtain ⟨n, h3⟩ := sh_bool h2
  exact ⟨n, part_one h3⟩
end Go.VS
