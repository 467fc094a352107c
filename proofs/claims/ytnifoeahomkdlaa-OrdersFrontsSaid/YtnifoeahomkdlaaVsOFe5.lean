/- Nothing of a statement is proved in this text alone: it is part 5 of the proof's own tools, an evaluator of the code over deep values, its soundness, and what it makes of this seat's functions. Conditions: none beyond the statement's own. -/
import Derived.Test.YtnifoeahomkdlaaVsOFe4
import Derived.Test.YtnifoeahomkdlaaRows
import Derived.WalkKit
import Derived.ProofKit
import Derived.Deep.DeepHandedRow
import Derived.Lib.LaidTab
set_option linter.unusedSimpArgs false
set_option linter.unusedVariables false
/-
  Orders: gains; the width that is left; what is needed. (A text of this claim's own; nothing of it is trusted.)
-/
namespace Go.VS
set_option maxHeartbeats 0
/-! ### gains -/
def gn (x : S_Item) : Int := max 0 (x.now.hi - x.now.lo - 2 * x.error)
theorem gain_eq {x : S_Item} (h : OkItem x) : zm x = gn x := by
  obtain ⟨a, b, c, d, e, f, g⟩ := h
  unfold zm gn
  rw [imax_eq, w64_eq (n := x.now.hi - x.now.lo) (by omega) (by omega), w64_eq (n := 2 * x.error) (by omega) (by omega), w64_eq (by omega) (by omega)]
theorem gn_bd {x : S_Item} (h : OkItem x) : 0 ≤ gn x ∧ gn x ≤ x.now.hi - x.now.lo := by
  obtain ⟨a, b, c, d, e, f, g⟩ := h
  unfold gn
  omega
/-- What items gain. -/
def gs (e : S_Estate) (l : List Int) : List Int := l.map (fun i => gn (e.items.at i))
/-! ### the width that is left behind a gain -/
/-! ### all items -/
/-! ### what is needed -/
/-! ### is it among them -/
end Go.VS

/-
  Fronts, plainly: what both ways to a front come to. (A text of this claim's own; nothing of it is trusted.)
-/
namespace Go.VS
open Go
/-- The front of pairs: strictly increasing in both; of them; each pair is had by one that costs no more and gains no less. -/
structure IsFr (L out : List Arr2_Int) : Prop where
  inc : out.Pairwise fun a b => a.x0 < b.x0 ∧ a.x1 < b.x1
  of : ∀ p ∈ out, p ∈ L
  dom : ∀ p ∈ L, ∃ q ∈ out, q.x0 ≤ p.x0 ∧ p.x1 ≤ q.x1
theorem pw_get {α : Type} {R : α → α → Prop} {l : List α} (h : l.Pairwise R) {a b : α} (ha : a ∈ l) (hb : b ∈ l) : a = b ∨ R a b ∨ R b a := by
  induction l with
  | nil => cases ha
  | cons x l ih =>
    have h1 := List.pairwise_cons.1 h
    rcases List.mem_cons.1 ha with ea | ha' <;> rcases List.mem_cons.1 hb with eb | hb'
    · exact .inl (ea.trans eb.symm)
    · exact .inr (.inl (ea ▸ h1.1 _ hb'))
    · exact .inr (.inr (eb ▸ h1.1 _ ha'))
    · exact ih h1.2 ha' hb'
theorem arr_ext {a b : Arr2_Int} (h0 : a.x0 = b.x0) (h1 : a.x1 = b.x1) : a = b := by cases a; cases b; simp_all
theorem IsFr.sub {L L' a b : List Arr2_Int} (ha : IsFr L a) (hb : IsFr L' b) (hL : ∀ p, p ∈ L ↔ p ∈ L') : ∀ p ∈ a, p ∈ b := by
  intro p hp
  obtain ⟨q, hq, q0, q1⟩ := hb.dom p ((hL p).1 (ha.of p hp))
  obtain ⟨r, hr, r0, r1⟩ := ha.dom q ((hL q).2 (hb.of q hq))
  rcases pw_get ha.inc hp hr with h | h | h
  · subst h
    have : q = p := arr_ext (by omega) (by omega)
    rw [← this]; exact hq
  · omega
  · omega
theorem inc_eq {a b : List Arr2_Int} (ha : a.Pairwise fun a b => a.x0 < b.x0 ∧ a.x1 < b.x1) (hb : b.Pairwise fun a b => a.x0 < b.x0 ∧ a.x1 < b.x1) (h : ∀ p, p ∈ a ↔ p ∈ b) : a = b := by
  induction a generalizing b with
  | nil =>
    cases b with
    | nil => rfl
    | cons y b => exact absurd ((h y).2 (by simp)) (by simp)
  | cons x a ih =>
    cases b with
    | nil => exact absurd ((h x).1 (by simp)) (by simp)
    | cons y b =>
      have ha' := List.pairwise_cons.1 ha
      have hb' := List.pairwise_cons.1 hb
      have hxy : x = y := by
        rcases List.mem_cons.1 ((h x).1 (by simp)) with e | hx
        · exact e
        · rcases List.mem_cons.1 ((h y).2 (by simp)) with e | hy
          · exact e.symm
          · have := ha'.1 _ hy; have := hb'.1 _ hx; omega
      subst hxy
      congr 1
      refine ih ha'.2 hb'.2 fun p => ⟨fun hp => ?_, fun hp => ?_⟩
      · rcases List.mem_cons.1 ((h p).1 (List.mem_cons_of_mem _ hp)) with e | h1
        · subst e; have := ha'.1 _ hp; omega
        · exact h1
      · rcases List.mem_cons.1 ((h p).2 (List.mem_cons_of_mem _ hp)) with e | h1
        · subst e; have := hb'.1 _ hp; omega
        · exact h1
theorem IsFr.uniq {L L' a b : List Arr2_Int} (ha : IsFr L a) (hb : IsFr L' b) (hL : ∀ p, p ∈ L ↔ p ∈ L') : a = b :=
  inc_eq ha.inc hb.inc fun p => ⟨ha.sub hb hL p, hb.sub ha (fun p => (hL p).symm) p⟩
/-- One more pair, behind all that are had. -/
theorem IsFr.skip {L i : List Arr2_Int} {y p : Arr2_Int} (h : IsFr L (i ++ [y])) (h0 : y.x0 ≤ p.x0) (h1 : p.x1 ≤ y.x1) : IsFr (L ++ [p]) (i ++ [y]) where
  inc := h.inc
  of := fun q hq => List.mem_append_left _ (h.of q hq)
  dom := fun q hq => by
    rcases List.mem_append.1 hq with hq | hq
    · exact h.dom q hq
    · rw [List.mem_singleton.1 hq]; exact ⟨y, by simp, h0, h1⟩
theorem IsFr.app {L i : List Arr2_Int} {y p : Arr2_Int} (h : IsFr L (i ++ [y])) (h0 : y.x0 < p.x0) (h1 : y.x1 < p.x1) : IsFr (L ++ [p]) (i ++ [y] ++ [p]) where
  inc := by
    refine List.pairwise_append.2 ⟨h.inc, by simp, fun a ha b hb => ?_⟩
    rw [List.mem_singleton.1 hb]
    rcases List.mem_append.1 ha with ha | ha
    · have := (List.pairwise_append.1 h.inc).2.2 a ha y (by simp); omega
    · rw [List.mem_singleton.1 ha]; omega
  of := fun q hq => by
    rcases List.mem_append.1 hq with hq | hq
    · exact List.mem_append_left _ (h.of q hq)
    · exact List.mem_append_right _ hq
  dom := fun q hq => by
    rcases List.mem_append.1 hq with hq | hq
    · obtain ⟨r, hr, h2⟩ := h.dom q hq; exact ⟨r, List.mem_append_left _ hr, h2⟩
    · rw [List.mem_singleton.1 hq]; exact ⟨p, by simp, Int.le_refl _, Int.le_refl _⟩
theorem IsFr.put {L i : List Arr2_Int} {y p : Arr2_Int} (h : IsFr L (i ++ [y])) (h0 : y.x0 = p.x0) (h1 : y.x1 < p.x1) : IsFr (L ++ [p]) (i ++ [p]) where
  inc := by
    have h2 := List.pairwise_append.1 h.inc
    refine List.pairwise_append.2 ⟨h2.1, by simp, fun a ha b hb => ?_⟩
    rw [List.mem_singleton.1 hb]
    have := h2.2.2 a ha y (by simp); omega
  of := fun q hq => by
    rcases List.mem_append.1 hq with hq | hq
    · exact List.mem_append_left _ (h.of q (List.mem_append_left _ hq))
    · exact List.mem_append_right _ hq
  dom := fun q hq => by
    rcases List.mem_append.1 hq with hq | hq
    · obtain ⟨r, hr, h2, h3⟩ := h.dom q hq
      rcases List.mem_append.1 hr with hr | hr
      · exact ⟨r, List.mem_append_left _ hr, h2, h3⟩
      · rw [List.mem_singleton.1 hr] at h2 h3
        exact ⟨p, by simp, by omega, by omega⟩
    · rw [List.mem_singleton.1 hq]; exact ⟨p, by simp, Int.le_refl _, Int.le_refl _⟩
theorem isFr_one (p : Arr2_Int) : IsFr [p] [p] where
  inc := by simp
  of := fun q hq => hq
  dom := fun q hq => ⟨q, hq, Int.le_refl _, Int.le_refl _⟩
theorem IsFr.ne {L out : List Arr2_Int} (h : IsFr L out) (hL : L ≠ []) : ∃ i y, out = i ++ [y] := by
  rcases List.eq_nil_or_concat out with rfl | ⟨i, y, rfl⟩
  · cases L with
    | nil => exact absurd rfl hL
    | cons p L => obtain ⟨q, hq, _⟩ := h.dom p (by simp); cases hq
  · exact ⟨i, y, by simp⟩
theorem last_at {i : List Arr2_Int} {y : Arr2_Int} (hl : (i ++ [y]).length ≤ 1099511627776) : (i ++ [y]).getD (w64 ((((i ++ [y]).length : Nat) : Int) - 1)).toNat default = y := by
  rw [w64_eq (by omega) (by omega)]
  have : ((((i ++ [y]).length : Nat) : Int) - 1).toNat = i.length := by simp
  rw [this, List.getD_eq_getElem?_getD, List.getElem?_append_right (Nat.le_refl _)]
  simp
/-- What is sorted: by cost, then the greater gain first. -/
def Bef (a b : Arr2_Int) : Prop := a.x0 < b.x0 ∨ a.x0 = b.x0 ∧ b.x1 ≤ a.x1
theorem front_walk : ∀ (l done v : List Arr2_Int), IsFr done v → done ≠ [] → (∀ d ∈ done, ∀ p ∈ l, Bef d p) → l.Pairwise Bef → v.length + l.length ≤ 1099511627776 →
    ∃ w, au70_2_3_4a l v = .x0 w ∧ IsFr (done ++ l) w
  | [], done, v, h, _, _, _, _ => ⟨v, rfl, by simpa using h⟩
  | x :: l, done, v, h, hd, hb, hp, hl => by
    obtain ⟨i, y, rfl⟩ := h.ne hd
    have hl' : (i ++ [y]).length ≤ 1099511627776 := by omega
    have hp' := List.pairwise_cons.1 hp
    have hy : Bef y x := hb y (h.of y (by simp)) x (by simp)
    have hb' : ∀ d ∈ done ++ [x], ∀ p ∈ l, Bef d p := fun d hd p hq => by
      rcases List.mem_append.1 hd with hd | hd
      · exact hb d hd p (List.mem_cons_of_mem _ hq)
      · rw [List.mem_singleton.1 hd]; exact hp'.1 p hq
    have hne : done ++ [x] ≠ [] := by simp
    unfold au70_2_3_4a
    rw [last_at hl', Bool.cond_eq_ite, if_neg (by simp; omega), Bool.cond_eq_ite]
    unfold Bef at hy
    simp only [List.length_cons] at hl
    split
    · rename_i hc
      simp only [decide_eq_true_eq] at hc
      obtain ⟨w, h1, h2⟩ := front_walk l (done ++ [x]) (i ++ [y] ++ [x]) (h.app (by omega) (by omega)) hne hb' hp'.2 (by simp at hl ⊢; omega)
      exact ⟨w, h1, by simpa using h2⟩
    · rename_i hc
      simp only [decide_eq_true_eq] at hc
      obtain ⟨w, h1, h2⟩ := front_walk l (done ++ [x]) (i ++ [y]) (h.skip (by omega) (by omega)) hne hb' hp'.2 (by simp at hl ⊢; omega)
      exact ⟨w, h1, by simpa using h2⟩
theorem srtA_mem {l : List Arr2_Int} {p : Arr2_Int} : p ∈ srtA l ↔ p ∈ l := by
  unfold srtA
  rw [List.mem_map]
  constructor
  · rintro ⟨q, hq, rfl⟩
    have := (srtP_perm pairCmp_swo (l.map fun x => (x.x0, x.x1))).mem_iff.1 hq
    obtain ⟨x, hx, rfl⟩ := List.mem_map.1 this
    exact hx
  · intro hp
    exact ⟨(p.x0, p.x1), (srtP_perm pairCmp_swo (l.map fun x => (x.x0, x.x1))).mem_iff.2 (List.mem_map.2 ⟨p, hp, rfl⟩), rfl⟩
theorem srtA_sorted (l : List Arr2_Int) : (srtA l).Pairwise Bef := by
  unfold srtA
  rw [List.pairwise_map]
  refine (srtP_sorted pairCmp_swo _).imp fun {a b} h => ?_
  have h1 : ¬ pairCmp b a < 0 := of_decide_eq_false h
  rw [pairCmp_neg] at h1
  unfold Bef
  show a.1 < b.1 ∨ a.1 = b.1 ∧ b.2 ≤ a.2
  omega
/-- What the program's front is. -/
theorem front_is {l : List Arr2_Int} (h : 1 ≤ l.length) (hl : l.length ≤ 1099511627776) : IsFr l (zI l) := by
  have hs := zh l
  have hp := srtA_sorted l
  have hm := fun p => srtA_mem (l := l) (p := p)
  unfold zI
  generalize srtA l = s at hs hp hm
  cases s with
  | nil => simp at hs; omega
  | cons x s =>
    have hp' := List.pairwise_cons.1 hp
    obtain ⟨w, h1, h2⟩ := front_walk s [x] [x] (isFr_one x) (by simp) (fun d hd p hq => by rw [List.mem_singleton.1 hd]; exact hp'.1 p hq) hp'.2 (by simp at hs ⊢; omega)
    have h3 : au70_2_3_4 (x :: s) = .x0 w := h1
    rw [h3]
    exact ⟨h2.inc, fun p hq => (hm p).1 (h2.of p hq), fun p hq => h2.dom p ((hm p).2 hq)⟩
end Go.VS

/-
  Fronts, plainly: the reference's way; all fronts. (A text of this claim's own; nothing of it is trusted.)
-/
namespace Go.VS
open Go
/-- What the reference does with the next pair. -/
def stp (v : List Arr2_Int) (p : Arr2_Int) : List Arr2_Int :=
  bif decide ((v.getD (w64 (((v.length : Nat) : Int) - 1)).toNat default).x1 ≥ p.x1) then v
  else bif ((v.getD (w64 (((v.length : Nat) : Int) - 1)).toNat default).x0 == p.x0) then v.set (w64 (((v.length : Nat) : Int) - 1)).toNat p
  else v ++ [p]
theorem stp_app {f : List Arr2_Int → LR_r_next_4} {v : List Arr2_Int} {p : Arr2_Int} : f (stp v p) = bif decide ((v.getD (w64 (((v.length : Nat) : Int) - 1)).toNat default).x1 ≥ p.x1) then f v
  else bif ((v.getD (w64 (((v.length : Nat) : Int) - 1)).toNat default).x0 == p.x0) then f (v.set (w64 (((v.length : Nat) : Int) - 1)).toNat p) else f (v ++ [p]) := by
  unfold stp
  cases decide ((v.getD (w64 (((v.length : Nat) : Int) - 1)).toNat default).x1 ≥ p.x1) with
  | true => rfl
  | false => cases ((v.getD (w64 (((v.length : Nat) : Int) - 1)).toNat default).x0 == p.x0) <;> rfl
def shf (x : S_Item) (p : Arr2_Int) : Arr2_Int := ⟨w64 (p.x0 + x.cost), w64 (p.x1 + zn x)⟩
theorem next_step {front : GS Arr2_Int} {x : S_Item} {n : Nat} {v : List Arr2_Int} {i k : Int} (hv : 1 ≤ v.length) : zz front x (n + 1) v i k =
    bif decide (i < ((front.l.length : Nat) : Int)) then
      bif (k == ((front.l.length : Nat) : Int)) then zz front x n (stp v (front.at i)) (w64 (i + 1)) k
      else bif decide ((front.at i).x0 ≤ w64 ((front.at k).x0 + x.cost)) then zz front x n (stp v (front.at i)) (w64 (i + 1)) k
      else zz front x n (stp v (shf x (front.at k))) i (w64 (k + 1))
    else bif decide (k < ((front.l.length : Nat) : Int)) then zz front x n (stp v (shf x (front.at k))) i (w64 (k + 1))
    else .x0 v i k := by
  have hlen : decide (((v.length : Nat) : Int) > 0) = true := decide_eq_true (by omega)
  rw [stp_app (f := fun z => zz front x n z (w64 (i + 1)) k), stp_app (f := fun z => zz front x n z i (w64 (k + 1)))]
  conv => lhs; unfold zz
  simp only [hlen, cond_true, shf]
  cases h1 : decide (i < ((front.l.length : Nat) : Int)) with
  | true => rfl
  | false =>
    simp only [cond_false]
    cases h2 : decide (k < ((front.l.length : Nat) : Int)) with
    | true =>
      have h3 : (k == ((front.l.length : Nat) : Int)) = false := by
        have := of_decide_eq_true h2
        exact beq_false_of_ne (by omega)
      simp only [h3, cond_true, cond_false]
      rfl
    | false => rfl
theorem IsFr.congr {L L' v : List Arr2_Int} (h : IsFr L v) (hL : ∀ p, p ∈ L ↔ p ∈ L') : IsFr L' v :=
  ⟨h.inc, fun p hp => (hL p).1 (h.of p hp), fun p hp => h.dom p ((hL p).2 hp)⟩
theorem last_set {i : List Arr2_Int} {y p : Arr2_Int} (hl : (i ++ [y]).length ≤ 1099511627776) : (i ++ [y]).set (w64 ((((i ++ [y]).length : Nat) : Int) - 1)).toNat p = i ++ [p] := by
  rw [w64_eq (by omega) (by omega)]
  have : ((((i ++ [y]).length : Nat) : Int) - 1).toNat = i.length := by simp
  rw [this, List.set_append_right _ _ (Nat.le_refl _)]
  simp
theorem stp_is {L v : List Arr2_Int} {p : Arr2_Int} (h : IsFr L v) (hL : L ≠ []) (hp : ∀ d ∈ L, d.x0 ≤ p.x0) (hl : v.length ≤ 1099511627776) : IsFr (L ++ [p]) (stp v p) ∧ 1 ≤ (stp v p).length ∧ (stp v p).length ≤ v.length + 1 := by
  obtain ⟨i, y, rfl⟩ := h.ne hL
  have hy := hp y (h.of y (by simp))
  unfold stp
  rw [last_at hl, last_set hl, Bool.cond_eq_ite]
  split
  · rename_i hc
    simp only [decide_eq_true_eq] at hc
    exact ⟨h.skip hy (by omega), by simp, by simp⟩
  · rename_i hc
    simp only [decide_eq_true_eq] at hc
    rw [Bool.cond_eq_ite]
    split
    · rename_i hd
      simp only [beq_iff_eq] at hd
      exact ⟨h.put hd (by omega), by simp, by simp⟩
    · rename_i hd
      simp only [beq_iff_eq] at hd
      exact ⟨h.app (by omega) (by omega), by simp, by simp⟩
/-- What has been taken. -/
def tk (q : List Arr2_Int) (x : S_Item) (i k : Nat) : List Arr2_Int := q.take i ++ (q.take k).map (shf x)
theorem tk_i {q : List Arr2_Int} {x : S_Item} {i k : Nat} (h : i < q.length) (p : Arr2_Int) : p ∈ tk q x i k ++ [q.getD i default] ↔ p ∈ tk q x (i + 1) k := by
  unfold tk
  rw [List.take_add_one, List.getElem?_eq_getElem h, List.getD_eq_getElem?_getD, List.getElem?_eq_getElem h]
  simp only [List.mem_append, Option.toList, Option.getD]
  constructor
  · rintro ((h | h) | h)
    · exact .inl (.inl h)
    · exact .inr h
    · exact .inl (.inr h)
  · rintro ((h | h) | h)
    · exact .inl (.inl h)
    · exact .inr h
    · exact .inl (.inr h)
theorem tk_k {q : List Arr2_Int} {x : S_Item} {i k : Nat} (h : k < q.length) (p : Arr2_Int) : p ∈ tk q x i k ++ [shf x (q.getD k default)] ↔ p ∈ tk q x i (k + 1) := by
  unfold tk
  rw [List.take_add_one, List.getElem?_eq_getElem h, List.getD_eq_getElem?_getD, List.getElem?_eq_getElem h]
  simp only [List.mem_append, Option.toList, Option.getD, List.map_append, List.map_cons, List.map_nil]
  constructor
  · rintro ((h | h) | h)
    · exact .inl h
    · exact .inr (.inl h)
    · exact .inr (.inr h)
  · rintro (h | (h | h))
    · exact .inl (.inl h)
    · exact .inl (.inr h)
    · exact .inr h
/-- Nothing that has been taken is behind what is left. -/
structure Ah (q : List Arr2_Int) (x : S_Item) (i k : Nat) : Prop where
  hi : ∀ d ∈ tk q x i k, ∀ j, i ≤ j → j < q.length → d.x0 ≤ (q.getD j default).x0
  hk : ∀ d ∈ tk q x i k, ∀ j, k ≤ j → j < q.length → d.x0 ≤ (shf x (q.getD j default)).x0
theorem next_walk {front : GS Arr2_Int} {x : S_Item} (hN : front.l.length ≤ 4096) (hi : ∀ a b, a ≤ b → b < front.l.length → (front.l.getD a default).x0 ≤ (front.l.getD b default).x0)
    (hs : ∀ a b, a ≤ b → b < front.l.length → (shf x (front.l.getD a default)).x0 ≤ (shf x (front.l.getD b default)).x0) :
    ∀ (n : Nat) (v : List Arr2_Int) (i k : Nat), i ≤ front.l.length → k ≤ front.l.length → 2 * front.l.length < n + i + k → IsFr (tk front.l x i k) v → 1 ≤ i + k → 1 ≤ v.length → v.length ≤ i + k → Ah front.l x i k →
      ∃ w, zz front x n v (i : Int) (k : Int) = .x0 w front.l.length front.l.length ∧ IsFr (tk front.l x front.l.length front.l.length) w
  | 0, v, i, k, h1, h2, h3, _, _, _, _, _ => by omega
  | n + 1, v, i, k, h1, h2, h3, hf, h4, h5, h6, ha => by
    rw [next_step h5]
    have hne : ∀ a b, a ≤ front.l.length → b ≤ front.l.length → 1 ≤ a + b → tk front.l x a b ≠ [] := fun a b ha hb hab => by
      intro h
      have := congrArg List.length h
      simp only [tk, List.length_append, List.length_map, List.length_take, List.length_nil] at this
      omega
    have goI : i < front.l.length → (∀ j, k ≤ j → j < front.l.length → (front.l.getD i default).x0 ≤ (shf x (front.l.getD j default)).x0) → ∃ w, zz front x n (stp v (front.at (i : Int))) (w64 ((i : Int) + 1)) (k : Int) = .x0 w front.l.length front.l.length ∧ IsFr (tk front.l x front.l.length front.l.length) w := fun hlt hk => by
      rw [w64_eq (by omega) (by omega), show ((i : Int) + 1) = ((i + 1 : Nat) : Int) from by omega]
      have e : front.at (i : Int) = front.l.getD i default := rfl
      rw [e]
      obtain ⟨q1, q2, q3⟩ := stp_is hf (hne i k h1 h2 h4) (p := front.l.getD i default) (fun d hd => ha.hi d hd i (Nat.le_refl _) hlt) (by omega)
      refine next_walk hN hi hs n _ (i + 1) k (by omega) h2 (by omega) (q1.congr (tk_i hlt)) (by omega) q2 (by omega) ⟨fun d hd j hj hjl => ?_, fun d hd j hj hjl => ?_⟩
      · rcases List.mem_append.1 ((tk_i hlt d).2 hd) with hd | hd
        · exact ha.hi d hd j (by omega) hjl
        · rw [List.mem_singleton.1 hd]; exact hi i j (by omega) hjl
      · rcases List.mem_append.1 ((tk_i hlt d).2 hd) with hd | hd
        · exact ha.hk d hd j hj hjl
        · rw [List.mem_singleton.1 hd]; exact hk j hj hjl
    have goK : k < front.l.length → (∀ j, i ≤ j → j < front.l.length → (shf x (front.l.getD k default)).x0 ≤ (front.l.getD j default).x0) → ∃ w, zz front x n (stp v (shf x (front.at (k : Int)))) (i : Int) (w64 ((k : Int) + 1)) = .x0 w front.l.length front.l.length ∧ IsFr (tk front.l x front.l.length front.l.length) w := fun hlt hk => by
      rw [w64_eq (by omega) (by omega), show ((k : Int) + 1) = ((k + 1 : Nat) : Int) from by omega]
      have e : front.at (k : Int) = front.l.getD k default := rfl
      rw [e]
      obtain ⟨q1, q2, q3⟩ := stp_is hf (hne i k h1 h2 h4) (p := shf x (front.l.getD k default)) (fun d hd => ha.hk d hd k (Nat.le_refl _) hlt) (by omega)
      refine next_walk hN hi hs n _ i (k + 1) h1 (by omega) (by omega) (q1.congr (tk_k hlt)) (by omega) q2 (by omega) ⟨fun d hd j hj hjl => ?_, fun d hd j hj hjl => ?_⟩
      · rcases List.mem_append.1 ((tk_k hlt d).2 hd) with hd | hd
        · exact ha.hi d hd j hj hjl
        · rw [List.mem_singleton.1 hd]; exact hk j hj hjl
      · rcases List.mem_append.1 ((tk_k hlt d).2 hd) with hd | hd
        · exact ha.hk d hd j (by omega) hjl
        · rw [List.mem_singleton.1 hd]; exact hs k j (by omega) hjl
    cases c1 : decide ((i : Int) < ((front.l.length : Nat) : Int)) with
    | true =>
      have d1 := of_decide_eq_true c1
      have hlt : i < front.l.length := by omega
      simp only [cond_true]
      cases c2 : ((k : Int) == ((front.l.length : Nat) : Int)) with
      | true =>
        have d2 := eq_of_beq c2
        simp only [cond_true]
        exact goI hlt fun j hj hjl => by omega
      | false =>
        have d2 := ne_of_beq_false c2
        simp only [cond_false]
        have hkl : k < front.l.length := by omega
        cases c3 : decide ((front.at (i : Int)).x0 ≤ w64 ((front.at (k : Int)).x0 + x.cost)) with
        | true =>
          have d3 : (front.l.getD i default).x0 ≤ (shf x (front.l.getD k default)).x0 := of_decide_eq_true c3
          simp only [cond_true]
          exact goI hlt fun j hj hjl => Int.le_trans d3 (hs k j hj hjl)
        | false =>
          have d3 : ¬ (front.l.getD i default).x0 ≤ (shf x (front.l.getD k default)).x0 := of_decide_eq_false c3
          simp only [cond_false]
          exact goK hkl fun j hj hjl => by
            have := hi i j hj hjl
            omega
    | false =>
      have d1 := of_decide_eq_false c1
      simp only [cond_false]
      cases c2 : decide ((k : Int) < ((front.l.length : Nat) : Int)) with
      | true =>
        have d2 := of_decide_eq_true c2
        simp only [cond_true]
        exact goK (by omega) fun j hj hjl => by omega
      | false =>
        have d2 := of_decide_eq_false c2
        simp only [cond_false]
        obtain rfl : i = front.l.length := by omega
        obtain rfl : k = front.l.length := by omega
        exact ⟨v, rfl, hf⟩
end Go.VS

/-
  Fronts, plainly: all fronts are the reference's. (A text of this claim's own; nothing of it is trusted.)
-/
namespace Go.VS
open Go
theorem getD_of_lt {α : Type} [Inhabited α] {l : List α} {i : Nat} (h : i < l.length) : l.getD i default = l[i] := by
  rw [List.getD_eq_getElem?_getD, List.getElem?_eq_getElem h]; rfl
theorem tk10 {q : List Arr2_Int} {x : S_Item} (h : 1 ≤ q.length) : tk q x 1 0 = [q.getD 0 default] := by
  cases q with
  | nil => simp at h
  | cons y l => rfl
theorem tk01 {q : List Arr2_Int} {x : S_Item} (h : 1 ≤ q.length) : tk q x 0 1 = [shf x (q.getD 0 default)] := by
  cases q with
  | nil => simp at h
  | cons y l => rfl
theorem next_is {front : GS Arr2_Int} {x : S_Item} (hN : front.l.length ≤ 4096) (hn : 1 ≤ front.l.length) (hi : ∀ a b, a ≤ b → b < front.l.length → (front.l.getD a default).x0 ≤ (front.l.getD b default).x0)
    (hs : ∀ a b, a ≤ b → b < front.l.length → (shf x (front.l.getD a default)).x0 ≤ (shf x (front.l.getD b default)).x0) :
    ∃ w, r_next front x = GS.some w ∧ IsFr (front.l ++ front.l.map (shf x)) w := by
  have key : ∃ w, r_next_4 front x (2 * front.l.length + 1) = .x0 w front.l.length front.l.length ∧ IsFr (tk front.l x front.l.length front.l.length) w := by
    have c1 : decide (0 < ((front.l.length : Nat) : Int)) = true := decide_eq_true (by omega)
    have c2 : (0 == ((front.l.length : Nat) : Int)) = false := beq_false_of_ne (by omega)
    have e0 : front.at 0 = front.l.getD 0 default := rfl
    simp only [r_next_4, c1, c2, cond_true, cond_false, e0]
    have t1 := tk10 (x := x) hn
    have t2 := tk01 (x := x) hn
    rw [Bool.cond_eq_ite]
    split
    · rename_i c3
      have c3 : (front.l.getD 0 default).x0 ≤ (shf x (front.l.getD 0 default)).x0 := of_decide_eq_true c3
      refine next_walk hN hi hs _ _ 1 0 (by omega) (by omega) (by omega) (by rw [t1]; exact isFr_one _) (by omega) (by simp) (by simp) ⟨fun d hd j hj hjl => ?_, fun d hd j hj hjl => ?_⟩
      · rw [t1] at hd; rw [List.mem_singleton.1 hd]; exact hi 0 j (by omega) hjl
      · rw [t1] at hd; rw [List.mem_singleton.1 hd]; exact Int.le_trans c3 (hs 0 j (by omega) hjl)
    · rename_i c3
      have c3 : ¬ (front.l.getD 0 default).x0 ≤ (shf x (front.l.getD 0 default)).x0 := fun h => c3 (decide_eq_true h)
      refine next_walk hN hi hs _ _ 0 1 (by omega) (by omega) (by omega) (by rw [t2]; exact isFr_one _) (by omega) (by simp) (by simp) ⟨fun d hd j hj hjl => ?_, fun d hd j hj hjl => ?_⟩
      · rw [t2] at hd; rw [List.mem_singleton.1 hd]
        have := hi 0 j (by omega) hjl
        omega
      · rw [t2] at hd; rw [List.mem_singleton.1 hd]; exact hs 0 j (by omega) hjl
  obtain ⟨w, h1, h2⟩ := key
  refine ⟨w, ?_, ?_⟩
  · unfold r_next; rw [h1]
  · unfold tk at h2
    rwa [List.take_length] at h2
theorem gain_same (x : S_Item) : zm x = zn x := by
  unfold zm zn
  rw [imax_eq, imax_eq, Int.max_comm]
/-- The next front. -/
def nf (q : List Arr2_Int) (x : S_Item) : List Arr2_Int := zI (q ++ q.map (shf x))
def frs : List S_Item → List Arr2_Int → List (List Arr2_Int)
  | [], _ => []
  | x :: l, q => nf q x :: frs l (nf q x)
theorem frs_len : ∀ (l : List S_Item) (q : List Arr2_Int), (frs l q).length = l.length
  | [], _ => rfl
  | x :: l, q => by simp [frs, frs_len l]
theorem fr7 (x : S_Item) : ∀ (l v : List Arr2_Int), orders_fronts_7 x l v = .x0 (v ++ l.map (shf x))
  | [], v => by simp [orders_fronts_7]
  | p :: l, v => by
    unfold orders_fronts_7
    rw [fr7 x l, gain_same]
    simp [shf]
theorem getD_snoc {α : Type} [Inhabited α] {l : List α} {x : α} {n : Nat} (h : l.length = n) : (l ++ [x]).getD n default = x := by
  subst h
  rw [List.getD_eq_getElem?_getD, List.getElem?_append_right (Nat.le_refl _)]; simp
theorem fr3a : ∀ (l : List S_Item) (i : Nat) (va : List (GS Arr2_Int)), va.length = i + 1 → orders_fronts_3a l i va = .x0 (va ++ (frs l (va.getD i default).l).map GS.some)
  | [], i, va, _ => by simp [orders_fronts_3a, frs]
  | x :: l, i, va, h => by
    unfold orders_fronts_3a
    rw [fr7]
    simp only []
    rw [fr3a l (i + 1) _ (by simp [h]), getD_snoc h]
    simp [frs, nf, GS.some_l]
/-- What a front is good for: how far its numbers go. -/
structure Good (i : Nat) (q : List Arr2_Int) : Prop where
  ne : 1 ≤ q.length
  le : q.length ≤ 2 ^ i
  inc : q.Pairwise fun a b => a.x0 < b.x0 ∧ a.x1 < b.x1
  bd : ∀ p ∈ q, 0 ≤ p.x0 ∧ p.x0 ≤ 10000 * (i : Int) ∧ 0 ≤ p.x1 ∧ p.x1 ≤ 1073741824 * (i : Int)
theorem good0 : Good 0 [⟨0, 0⟩] := ⟨by simp, by simp, by simp, fun p hp => by rw [List.mem_singleton.1 hp]; simp⟩
theorem rgain_bd {x : S_Item} (h : OkItem x) : 0 ≤ zn x ∧ zn x ≤ 1073741824 := by
  rw [← gain_same, gain_eq h]
  have := gn_bd h
  obtain ⟨a, b, c, _⟩ := h
  omega
theorem shf_eq {i : Nat} {q : List Arr2_Int} {x : S_Item} (h : Good i q) (hi : i ≤ 12) (hx : OkItem x) {p : Arr2_Int} (hp : p ∈ q) : shf x p = ⟨p.x0 + x.cost, p.x1 + zn x⟩ := by
  have hb := h.bd p hp
  have hg := rgain_bd hx
  obtain ⟨_, _, _, c0, c1, _⟩ := hx
  unfold shf
  rw [w64_eq (by omega) (by omega), w64_eq (by omega) (by omega)]
theorem Good.hi {i : Nat} {q : List Arr2_Int} (h : Good i q) : ∀ a b, a ≤ b → b < q.length → (q.getD a default).x0 ≤ (q.getD b default).x0 := by
  intro a b hab hb
  rw [getD_of_lt hb, getD_of_lt (Nat.lt_of_le_of_lt hab hb)]
  rcases Nat.lt_or_eq_of_le hab with hl | rfl
  · exact Int.le_of_lt (List.pairwise_iff_getElem.1 h.inc a b (Nat.lt_of_le_of_lt hab hb) hb hl).1
  · exact Int.le_refl _
theorem Good.hs {i : Nat} {q : List Arr2_Int} {x : S_Item} (h : Good i q) (hi : i ≤ 12) (hx : OkItem x) : ∀ a b, a ≤ b → b < q.length → (shf x (q.getD a default)).x0 ≤ (shf x (q.getD b default)).x0 := by
  intro a b hab hb
  have h1 := h.hi a b hab hb
  have ha := Nat.lt_of_le_of_lt hab hb
  rw [shf_eq h hi hx (p := q.getD a default) (by rw [getD_of_lt ha]; exact List.getElem_mem ha), shf_eq h hi hx (p := q.getD b default) (by rw [getD_of_lt hb]; exact List.getElem_mem hb)]
  show _ + _ ≤ _ + _
  omega
theorem nf_is {i : Nat} {q : List Arr2_Int} {x : S_Item} (h : Good i q) (hi : i < 12) : IsFr (q ++ q.map (shf x)) (nf q x) := by
  have h1 := h.ne
  have h2 := h.le
  have h3 : 2 ^ i ≤ 4096 := pow12 hi
  exact front_is (by simp; omega) (by simp; omega)
theorem nf_len {i : Nat} {q : List Arr2_Int} {x : S_Item} (h : Good i q) : 1 ≤ (nf q x).length ∧ (nf q x).length ≤ 2 ^ (i + 1) := by
  have h1 := h.ne
  have h2 := h.le
  have := z7 (l := q ++ q.map (shf x)) (by simp; omega)
  rw [Nat.pow_succ]
  unfold nf
  simp only [List.length_append, List.length_map] at this
  omega
theorem Good.next {i : Nat} {q : List Arr2_Int} {x : S_Item} (h : Good i q) (hi : i < 12) (hx : OkItem x) : Good (i + 1) (nf q x) where
  ne := (nf_len h).1
  le := (nf_len h).2
  inc := (nf_is h hi).inc
  bd := fun p hp => by
    have hg := rgain_bd hx
    rcases List.mem_append.1 ((nf_is h hi).of p hp) with hq | hq
    · have := h.bd p hq; omega
    · obtain ⟨r, hr, rfl⟩ := List.mem_map.1 hq
      have := h.bd r hr
      rw [shf_eq h (by omega) hx hr]
      obtain ⟨_, _, _, c0, c1, _⟩ := hx
      show 0 ≤ r.x0 + x.cost ∧ r.x0 + x.cost ≤ _ ∧ 0 ≤ r.x1 + zn x ∧ r.x1 + zn x ≤ _
      omega
theorem next_eq {i : Nat} {s : GS Arr2_Int} {x : S_Item} (h : Good i s.l) (hi : i < 12) (hx : OkItem x) : r_next s x = GS.some (nf s.l x) := by
  obtain ⟨w, h1, h2⟩ := next_is (front := s) (x := x) (Nat.le_trans h.le (pow12 hi)) h.ne h.hi (h.hs (by omega) hx)
  rw [h1, h2.uniq (nf_is h hi) fun p => Iff.rfl]
theorem rf5a : ∀ (l : List S_Item) (i : Nat) (va : List (GS Arr2_Int)), va.length = i + 1 → Good i (va.getD i default).l → i + l.length ≤ 12 → (∀ x ∈ l, OkItem x) → r_Fronts_5a l i va = .x0 (va ++ (frs l (va.getD i default).l).map GS.some)
  | [], i, va, _, _, _, _ => by simp [r_Fronts_5a, frs]
  | x :: l, i, va, h, hg, hl, ho => by
    simp only [List.length_cons] at hl
    unfold r_Fronts_5a
    rw [next_eq hg (by omega) (ho x (by simp))]
    rw [rf5a l (i + 1) _ (by simp [h]) (by rw [getD_snoc h]; exact hg.next (by omega) (ho x (by simp))) (by omega) (fun y hy => ho y (List.mem_cons_of_mem _ hy)), getD_snoc h]
    simp [frs, GS.some_l]
/-- All fronts of an estate. -/
def frAll (e : S_Estate) : List (List Arr2_Int) := [⟨0, 0⟩] :: frs e.items.l [⟨0, 0⟩]
theorem fronts_eq (e : S_Estate) : orders_fronts e = GS.some ((frAll e).map GS.some) := by
  unfold orders_fronts frAll
  cases hl : e.items.l with
  | nil => rfl
  | cons x l =>
    have h1 : orders_fronts_3 (x :: l) 0 = orders_fronts_3a l 1 [GS.some [⟨0, 0⟩], GS.some (nf [⟨0, 0⟩] x)] := by
      simp only [orders_fronts_3, gain_same]
      rfl
    rw [h1, fr3a l 1 _ rfl]
    rfl
theorem rfronts_eq {e : S_Estate} (h : V e) : zM e = (GS.some ((frAll e).map GS.some), 0) := by
  unfold zM frAll
  rw [valid_iff.2 h, cond_true]
  have hit := h.it
  have hn := h.n2
  cases hl : e.items.l with
  | nil => rfl
  | cons x l =>
    rw [hl] at hit hn
    simp only [List.length_cons] at hn
    have hx := hit x (by simp)
    have h1 : r_Fronts_5 (x :: l) 0 = r_Fronts_5a l 1 [GS.some [⟨0, 0⟩], GS.some (nf [⟨0, 0⟩] x)] := by
      simp only [r_Fronts_5]
      rw [next_eq (s := GS.some [⟨0, 0⟩]) (i := 0) good0 (by omega) hx]
      rfl
    have h2 := rf5a l 1 [GS.some [⟨0, 0⟩], GS.some (nf [⟨0, 0⟩] x)] rfl (good0.next (by omega) hx) (by omega) (fun y hy => hit y (List.mem_cons_of_mem _ hy))
    rw [h1, h2]
    rfl
theorem bothFronts (e : S_Estate) : zC e = zM e := by
  unfold zC
  rw [check_valid, fronts_eq]
  cases hv : r_Valid e with
  | true => rw [rfronts_eq (valid_iff.1 hv)]; rfl
  | false =>
    unfold zM
    rw [hv]; rfl
/-! ### comparing -/
theorem at_get {α : Type} [Inhabited α] {s : GS α} {i : Nat} : s.at (i : Int) = s.l.getD i default := rfl
theorem sp4_eq (b : GS Arr2_Int) : ∀ (l : List Arr2_Int) (i : Nat), (match r_SamePairs_4 b l i with | .x0 => true | .x1 _ _ => false) = (match eqPairs_4 b l i with | .x0 => true | .x1 _ _ => false)
  | [], i => rfl
  | x :: l, i => by
    unfold r_SamePairs_4 eqPairs_4
    cases (!((x.x0 == ((GS.at b ((i : Nat) : Int)).x0)) && ((x.x1 == ((GS.at b ((i : Nat) : Int)).x1)) && true))) with
    | true => rfl
    | false => exact sp4_eq b l (i + 1)
theorem sp_eq (a b : GS Arr2_Int) : r_SamePairs a b = eqPairs a b := by
  unfold r_SamePairs eqPairs
  rw [Bool.cond_eq_ite, Bool.cond_eq_ite]
  split
  · rfl
  · exact sp4_eq b a.l 0
theorem cf1_eq (a b : GS Arr2_Int) : orders_CheckFronts_1 a b = r_SamePairs a b := by
  unfold orders_CheckFronts_1
  rw [sp_eq]
  cases eqPairs a b <;> rfl
theorem sf4_eq (b : GS (GS Arr2_Int)) : ∀ (l : List (GS Arr2_Int)) (i : Nat), (match r_SameFronts_4 b l i with | .x0 => true | .x1 _ _ => false) = (match slices_EqualFunc_4 b l i with | .x0 => true | .x1 _ _ => false)
  | [], i => rfl
  | x :: l, i => by
    unfold r_SameFronts_4 slices_EqualFunc_4
    rw [cf1_eq]
    cases r_SamePairs x (b.at (i : Int)) with
    | true => exact sf4_eq b l (i + 1)
    | false => rfl
theorem sf_eq (a b : GS (GS Arr2_Int)) : r_SameFronts a b = slices_EqualFunc a b := by
  unfold r_SameFronts slices_EqualFunc
  rw [Bool.cond_eq_ite, Bool.cond_eq_ite]
  split
  · rfl
  · exact sf4_eq b a.l 0
theorem bothCheck (e : S_Estate) (l : GS (GS Arr2_Int)) : orders_CheckFronts e l = r_CheckFronts e l := by
  unfold orders_CheckFronts r_CheckFronts
  rw [check_valid, sf_eq, fronts_eq]
  cases hv : r_Valid e with
  | true => rw [rfronts_eq (valid_iff.1 hv)]; rfl
  | false =>
    have : zM e = (GS.nil, 80) := by unfold zM; rw [hv]; rfl
    rw [this]; rfl
theorem sp4_refl (s : GS Arr2_Int) : ∀ (l : List Arr2_Int) (i : Nat), s.l.drop i = l → r_SamePairs_4 s l i = .x0
  | [], i, _ => rfl
  | x :: l, i, h => by
    unfold r_SamePairs_4
    have hx : s.at (i : Int) = x := by
      rw [at_get, List.getD_eq_getElem?_getD, ← List.head?_drop, h]; rfl
    rw [hx]
    simp only [beq_self_eq_true, Bool.and_true, Bool.not_true, cond_false]
    exact sp4_refl s l (i + 1) (by rw [← List.drop_drop, h]; rfl)
theorem sp_refl (s : GS Arr2_Int) : r_SamePairs s s = true := by
  unfold r_SamePairs
  rw [sp4_refl s s.l 0 rfl]; simp
theorem sf4_refl (s : GS (GS Arr2_Int)) : ∀ (l : List (GS Arr2_Int)) (i : Nat), s.l.drop i = l → r_SameFronts_4 s l i = .x0
  | [], i, _ => rfl
  | x :: l, i, h => by
    unfold r_SameFronts_4
    have hx : s.at (i : Int) = x := by
      rw [at_get, List.getD_eq_getElem?_getD, ← List.head?_drop, h]; rfl
    rw [hx, sp_refl, cond_true]
    exact sf4_refl s l (i + 1) (by rw [← List.drop_drop, h]; rfl)
theorem sf_refl (s : GS (GS Arr2_Int)) : r_SameFronts s s = true := by
  unfold r_SameFronts
  rw [sf4_refl s s.l 0 rfl]; simp
theorem check_own {e : S_Estate} (h : (zC e).2 = 0) : orders_CheckFronts e (zC e).1 = 0 := by
  rw [bothCheck, bothFronts]
  rw [bothFronts] at h
  unfold r_CheckFronts
  rw [h, sf_refl]; rfl
theorem frs_good : ∀ (l : List S_Item) (i : Nat) (q : List Arr2_Int), Good i q → i + l.length ≤ 12 → (∀ x ∈ l, OkItem x) → ∀ r ∈ frs l q, r.length ≤ 4096
  | [], i, q, _, _, _, r, hr => by cases hr
  | x :: l, i, q, h, hl, ho, r, hr => by
    simp only [List.length_cons] at hl
    have hg := h.next (x := x) (by omega) (ho x (by simp))
    rcases List.mem_cons.1 hr with rfl | hr
    · exact Nat.le_trans hg.le (Nat.le_trans (Nat.pow_le_pow_right (by omega) (by omega : i + 1 ≤ 12)) (by decide))
    · exact frs_good l (i + 1) _ hg (by omega) (fun y hy => ho y (List.mem_cons_of_mem _ hy)) r hr
theorem fronts_bd (e : S_Estate) : (zC e).1.l.length ≤ 13 ∧ ∀ r ∈ (zC e).1.l, r.l.length ≤ 9223372036854775807 := by
  rw [bothFronts]
  cases hv : r_Valid e with
  | true =>
    have h := valid_iff.1 hv
    have hn := h.n2
    rw [rfronts_eq h]
    refine ⟨by simp [GS.some_l, frAll, frs_len]; omega, fun r hr => ?_⟩
    obtain ⟨q, hq, rfl⟩ := List.mem_map.1 hr
    rcases List.mem_cons.1 hq with rfl | hq
    · simp [GS.some_l]
    · have := frs_good e.items.l 0 _ good0 (by omega) h.it q hq
      rw [GS.some_l]; omega
  | false =>
    have : zM e = (GS.nil, 80) := by unfold zM; rw [hv]; rfl
    rw [this]; exact ⟨by simp [GS.nil], fun r hr => by simp [GS.nil] at hr⟩
end Go.VS

namespace Go.VS
open Go Go.Proofs
set_option maxHeartbeats 0
set_option linter.unusedSimpArgs false
set_option linter.unusedVariables false
noncomputable def lp13_2 : Code := subC [1, 0, 1, 0, 0] (bodyC Try.f13)

inductive LR_l_few_2 where
  | x0
  | x1 (i2 : Nat) (x2 : GS Int)
instance : Inhabited LR_l_few_2 := ⟨.x0⟩
def l_few_2 : List (GS Int) → Nat → LR_l_few_2
  | [], i2 => .x0
  | x2 :: rest2, i2 =>
    bif decide (((x2.l.length : Nat) : Int) > 40) then
      .x1 i2 x2
    else
      l_few_2 rest2 (i2 + 1)
def lr_l_few_2 (e : S_Estate) (l : GS (GS Int)) : LR_l_few_2 → Exit × St
  | .x0 => ((.exit 0), ⟨21, [(10, B false), (2, .lref 0 0 3 0), (7, .sl l.nl (l.l.map (GS.D I 1)) (zsl l.nl 1) none), (8, I ((l.l.length : Nat) : Int)), (9, I ((l.l.length : Nat) : Int))], [(0, ⟨[.agg [.sl e.items.nl (e.items.l.map S_Item.D) (zsl e.items.nl 4) none, I e.whole.lo, I e.whole.hi]], 3, false⟩)], 1, 0⟩)
  | .x1 i2 x2 => (.ret, ⟨21, [(4, B false), (15, B true), (14, I ((x2.l.length : Nat) : Int)), (13, .sl x2.nl (x2.l.map I) (zsl x2.nl 1) none), (6, .sl x2.nl (x2.l.map I) (zsl x2.nl 1) none), (12, .sl x2.nl (x2.l.map I) (zsl x2.nl 1) none), (11, .ptr (.sl x2.nl (x2.l.map I) (zsl x2.nl 1) none)), (10, B true), (2, .lref 0 0 3 0), (7, .sl l.nl (l.l.map (GS.D I 1)) (zsl l.nl 1) none), (8, I ((l.l.length : Nat) : Int)), (9, I ((i2 : Nat) : Int))], [(0, ⟨[.agg [.sl e.items.nl (e.items.l.map S_Item.D) (zsl e.items.nl 4) none, I e.whole.lo, I e.whole.hi]], 3, false⟩)], 1, 0⟩)
theorem lp_l_few_2 (e : S_Estate) (l : GS (GS Int)) : ∀ (rest2 : List (GS Int)) (i2 : Nat) (hd2 : l.l.drop i2 = rest2) (hi2 : i2 ≤ l.l.length) (hL2 : l.l.length ≤ 9223372036854775807), (lim cfg).loop 13 lp13_2 ⟨21, [(2, .lref 0 0 3 0), (7, .sl l.nl (l.l.map (GS.D I 1)) (zsl l.nl 1) none), (8, I ((l.l.length : Nat) : Int)), (9, I ((i2 : Nat) : Int))], [(0, ⟨[.agg [.sl e.items.nl (e.items.l.map S_Item.D) (zsl e.items.nl 4) none, I e.whole.lo, I e.whole.hi]], 3, false⟩)], 1, 0⟩ = some (lr_l_few_2 e l (l_few_2 rest2 i2)) := by
  intro rest2
  induction rest2 with
  | nil =>
    intro i2 hd2 hi2 hL2
    unfold l_few_2
    obtain rfl : i2 = l.l.length := nil_eq hd2 hi2
    exact po_last [.dec false] (And.intro (lt_no hd2) trivial) (by kernel_rfl)
  | cons x2 rest2 ih =>
    intro i2 hd2 hi2 hL2
    have hlt2 := zA hd2
    unfold l_few_2
    cases h2 : decide (((x2.l.length : Nat) : Int) > 40) with
    | true =>
      have g2 := of_decide_eq_true h2
      exact po_last [.dec true, .el (.sl x2.nl (x2.l.map I) (zsl x2.nl 1) none), .rw 14 (I ((x2.l.length : Nat) : Int)), .dec true] (And.intro h2 (And.intro (zk I x2) (And.intro (el_at (s := l) (f := (GS.D I 1)) (k := 1) hd2) (And.intro (lt_at hd2) trivial)))) (by kernel_rfl)
    | false =>
      have g2 := of_decide_eq_false h2
      exact po_turn [.dec true, .el (.sl x2.nl (x2.l.map I) (zsl x2.nl 1) none), .rw 14 (I ((x2.l.length : Nat) : Int)), .dec false, .rw 16 (I ((i2 + 1 : Nat) : Int))] (And.intro (inc_rw (i := i2) (by have := zA hd2; omega)) (And.intro h2 (And.intro (zk I x2) (And.intro (el_at (s := l) (f := (GS.D I 1)) (k := 1) hd2) (And.intro (lt_at hd2) trivial))))) (ih (i2 + 1) (zN hd2) (zA hd2) (by first | assumption | omega)) (by kernel_rfl)

def l_few (e : S_Estate) (l : GS (GS Int)) : Bool :=
  match l_few_2 l.l 0 with
  | .x0 =>
    bif decide (((e.items.l.length : Nat) : Int) ≤ 40) then
      true
    else
      false
  | .x1 i2 x2 =>
    false

def sd30162 (e : S_Estate) (l : GS (GS Int)) : St := ⟨21, [(10, B false), (2, .lref 0 0 3 0), (7, .sl l.nl (l.l.map (GS.D I 1)) (zsl l.nl 1) none), (8, I ((l.l.length : Nat) : Int)), (9, I ((l.l.length : Nat) : Int))], [(0, ⟨[.agg [.sl e.items.nl (e.items.l.map S_Item.D) (zsl e.items.nl 4) none, I e.whole.lo, I e.whole.hi]], 3, false⟩)], 1, 0⟩

def sd30163 (e : S_Estate) (l : GS (GS Int)) (i2 : Nat) (x2 : GS Int) : St := ⟨21, [(4, B false), (15, B true), (14, I ((x2.l.length : Nat) : Int)), (13, .sl x2.nl (x2.l.map I) (zsl x2.nl 1) none), (6, .sl x2.nl (x2.l.map I) (zsl x2.nl 1) none), (12, .sl x2.nl (x2.l.map I) (zsl x2.nl 1) none), (11, .ptr (.sl x2.nl (x2.l.map I) (zsl x2.nl 1) none)), (10, B true), (2, .lref 0 0 3 0), (7, .sl l.nl (l.l.map (GS.D I 1)) (zsl l.nl 1) none), (8, I ((l.l.length : Nat) : Int)), (9, I ((i2 : Nat) : Int))], [(0, ⟨[.agg [.sl e.items.nl (e.items.l.map S_Item.D) (zsl e.items.nl 4) none, I e.whole.lo, I e.whole.hi]], 3, false⟩)], 1, 0⟩

theorem T_l_few (e : S_Estate) (l : GS (GS Int)) (hL_l : l.l.length ≤ 9223372036854775807) : (lim cfg).pure 13 [S_Estate.D e, GS.D (GS.D I 1) 1 l] = some (B (l_few e l)) := by
  unfold l_few
  cases h3 : l_few_2 l.l 0 with
  | x0 =>
    try dsimp only
    have p1 := (po_lr (q := lr_l_few_2 e l) (lp_l_few_2 e l l.l 0 (List.drop_zero) (Nat.zero_le _) (by first | assumption | omega)) h3)
    cases h4 : decide (((e.items.l.length : Nat) : Int) ≤ 40) with
    | true =>
      have g4 := of_decide_eq_true h4
      exact zt [.rw 8 (I ((l.l.length : Nat) : Int)), .loop (.exit 0) (sd30162 e l), .rw 19 (I ((e.items.l.length : Nat) : Int)), .dec true] (And.intro h4 (And.intro (zk S_Item.D e.items) (And.intro p1 (And.intro (zk (GS.D I 1) l) trivial)))) (by kernel_rfl)
    | false =>
      have g4 := of_decide_eq_false h4
      exact zt [.rw 8 (I ((l.l.length : Nat) : Int)), .loop (.exit 0) (sd30162 e l), .rw 19 (I ((e.items.l.length : Nat) : Int)), .dec false] (And.intro h4 (And.intro (zk S_Item.D e.items) (And.intro p1 (And.intro (zk (GS.D I 1) l) trivial)))) (by kernel_rfl)
  | x1 i2 x2 =>
    try dsimp only
    exact zt [.rw 8 (I ((l.l.length : Nat) : Int)), .loop .ret (sd30163 e l i2 x2)] (And.intro (po_lr (q := lr_l_few_2 e l) (lp_l_few_2 e l l.l 0 (List.drop_zero) (Nat.zero_le _) (by first | assumption | omega)) h3) (And.intro (zk (GS.D I 1) l) trivial)) (by kernel_rfl)

theorem bf2 (e : S_Estate) : (zC e).2 = (zM e).2 := by rw [bothFronts]
theorem bf1 (e : S_Estate) : r_SameFronts (zC e).1 (zM e).1 = true := by rw [bothFronts]; exact sf_refl _

noncomputable def lp3_5 : Code := subC [1, 1, 1, 0, 1, 0, 0] (bodyC Try.f3)

inductive LR_l_OrdersFronts_5 where
  | x0 (v5_0 : Int)
instance : Inhabited LR_l_OrdersFronts_5 := ⟨.x0 default⟩
def l_OrdersFronts_5 : List (GS Arr2_Int) → Int → LR_l_OrdersFronts_5
  | [], v5_0 => .x0 v5_0
  | x5 :: rest5, v5_0 =>
    l_OrdersFronts_5 rest5 (w64 (v5_0 + ((x5.l.length : Nat) : Int)))
def lr_l_OrdersFronts_5 (e : S_Estate) (l : GS (GS Arr2_Int)) : LR_l_OrdersFronts_5 → Exit × St
  | .x0 v5_0 => ((.exit 0), ⟨70, [(19, B false), (1, .sl l.nl (l.l.map (GS.D Arr2_Int.D 2)) (zsl l.nl 1) none), (2, .lref 0 0 3 0), (5, I v5_0), (16, .sl l.nl (l.l.map (GS.D Arr2_Int.D 2)) (zsl l.nl 1) none), (17, I ((l.l.length : Nat) : Int)), (18, I ((l.l.length : Nat) : Int))], [(0, ⟨[.agg [.sl e.items.nl (e.items.l.map S_Item.D) (zsl e.items.nl 4) none, I e.whole.lo, I e.whole.hi]], 3, false⟩)], 1, 0⟩)
theorem lp_l_OrdersFronts_5 (e : S_Estate) (l : GS (GS Arr2_Int)) : ∀ (rest5 : List (GS Arr2_Int)) (i5 : Nat) (v5_0 : Int) (hd5 : l.l.drop i5 = rest5) (hi5 : i5 ≤ l.l.length) (hL5 : l.l.length ≤ 9223372036854775807), (lim cfg).loop 3 lp3_5 ⟨70, [(1, .sl l.nl (l.l.map (GS.D Arr2_Int.D 2)) (zsl l.nl 1) none), (2, .lref 0 0 3 0), (5, I v5_0), (16, .sl l.nl (l.l.map (GS.D Arr2_Int.D 2)) (zsl l.nl 1) none), (17, I ((l.l.length : Nat) : Int)), (18, I ((i5 : Nat) : Int))], [(0, ⟨[.agg [.sl e.items.nl (e.items.l.map S_Item.D) (zsl e.items.nl 4) none, I e.whole.lo, I e.whole.hi]], 3, false⟩)], 1, 0⟩ = some (lr_l_OrdersFronts_5 e l (l_OrdersFronts_5 rest5 v5_0)) := by
  intro rest5
  induction rest5 with
  | nil =>
    intro i5 v5_0 hd5 hi5 hL5
    unfold l_OrdersFronts_5
    obtain rfl : i5 = l.l.length := nil_eq hd5 hi5
    exact po_last [.dec false] (And.intro (lt_no hd5) trivial) (by kernel_rfl)
  | cons x5 rest5 ih =>
    intro i5 v5_0 hd5 hi5 hL5
    have hlt5 := zA hd5
    unfold l_OrdersFronts_5
    exact po_turn [.dec true, .el (.sl x5.nl (x5.l.map Arr2_Int.D) (zsl x5.nl 2) none), .rw 24 (I ((x5.l.length : Nat) : Int)), .rw 26 (I ((i5 + 1 : Nat) : Int))] (And.intro (inc_rw (i := i5) (by have := zA hd5; omega)) (And.intro (zk Arr2_Int.D x5) (And.intro (el_at (s := l) (f := (GS.D Arr2_Int.D 2)) (k := 1) hd5) (And.intro (lt_at hd5) trivial)))) (ih (i5 + 1) (w64 (v5_0 + ((x5.l.length : Nat) : Int))) (zN hd5) (zA hd5) (by first | assumption | omega)) (by kernel_rfl)

def l_OrdersFronts (e : S_Estate) (l : GS (GS Arr2_Int)) : Bool :=
  match l_OrdersFronts_5 l.l ((l.l.length : Nat) : Int) with
  | .x0 v5_0 =>
    bif (l_few e GS.nil) then
      bif decide (v5_0 > 10000) then
        true
      else
        bif (((zC e).2) != 0) then
          true
        else
          true
    else
      true

def sd30164 (e : S_Estate) (l : GS (GS Arr2_Int)) (v5_0 : Int) : St := ⟨70, [(19, B false), (1, .sl l.nl (l.l.map (GS.D Arr2_Int.D 2)) (zsl l.nl 1) none), (2, .lref 0 0 3 0), (5, I v5_0), (16, .sl l.nl (l.l.map (GS.D Arr2_Int.D 2)) (zsl l.nl 1) none), (17, I ((l.l.length : Nat) : Int)), (18, I ((l.l.length : Nat) : Int))], [(0, ⟨[.agg [.sl e.items.nl (e.items.l.map S_Item.D) (zsl e.items.nl 4) none, I e.whole.lo, I e.whole.hi]], 3, false⟩)], 1, 0⟩

def l_OrdersFronts_o1 (e : S_Estate) (l : GS (GS Arr2_Int)) (v5_0 : Int) : List Ora := [.pure (B true), .dec true, .rw 15 (I ((l.l.length : Nat) : Int)), .rw 17 (I ((l.l.length : Nat) : Int)), .loop (.exit 0) (sd30164 e l v5_0), .pure (B (l_few e GS.nil))]

def l_OrdersFronts_o2 (e : S_Estate) (l : GS (GS Arr2_Int)) : List Ora := [.dec true, .dec false, .pure (.tup [.sl (((zC e).1).nl) ((((zC e).1).l).map (GS.D Arr2_Int.D 2)) (zsl (((zC e).1).nl) 1) none, I ((zC e).2)]), .pure (.tup [.sl (((zM e).1).nl) ((((zM e).1).l).map (GS.D Arr2_Int.D 2)) (zsl (((zM e).1).nl) 1) none, I ((zM e).2)]), .dec false, .pure (B (r_SameFronts ((zC e).1) ((zM e).1))), .dec true, .pure (I (orders_CheckFronts e l)), .pure (I (r_CheckFronts e l)), .dec false]

theorem T_l_OrdersFronts (e : S_Estate) (l : GS (GS Arr2_Int)) (hB : ∀ r ∈ l.l, r.l.length ≤ 9223372036854775807) (hLl : l.l.length ≤ 9223372036854775807) (hLe : e.items.l.length ≤ 9223372036854775807) : (lim cfg).pure 3 [S_Estate.D e, GS.D (GS.D Arr2_Int.D 2) 1 l] = some (B (l_OrdersFronts e l)) := by
  unfold l_OrdersFronts
  cases h1 : l_OrdersFronts_5 l.l ((l.l.length : Nat) : Int) with
  | x0 v5_0 =>
    try dsimp only
    have p1 := (po_lr (q := lr_l_OrdersFronts_5 e l) (lp_l_OrdersFronts_5 e l l.l 0 ((l.l.length : Nat) : Int) (List.drop_zero) (Nat.zero_le _) (by first | assumption | omega)) h1)
    cases h2 : (l_few e GS.nil) with
    | true =>
      cases h3 : decide (v5_0 > 10000) with
      | true =>
        have g3 := of_decide_eq_true h3
        exact zt ((l_OrdersFronts_o1 e l v5_0) ++ [.dec true, .dec true]) (And.intro h3 (And.intro h2 (And.intro (T_l_few e GS.nil (Nat.zero_le _)) (And.intro p1 (And.intro (zk (GS.D Arr2_Int.D 2) l) (And.intro (zk (GS.D Arr2_Int.D 2) l) (And.intro (Eq.refl true) (And.intro sane_ok trivial)))))))) (by kernel_rfl)
      | false =>
        have g3 := of_decide_eq_false h3
        have p2 := (show (((zC e).2) != ((zM e).2)) = false from (by rw [bf2]; exact bne_self_eq_false _))
        have p3 := (T_r_SameFronts ((zC e).1) ((zM e).1) (fronts_bd e).2 (Nat.le_trans (fronts_bd e).1 (by decide)))
        have p4 := (show (r_SameFronts ((zC e).1) ((zM e).1)) = true from (bf1 e))
        have p5 := (T_orders_CheckFronts e l (by first | assumption | omega) (by first | assumption | omega))
        have p6 := (T_r_CheckFronts e l (by first | assumption | omega) (by first | assumption | omega))
        have p7 := (show ((orders_CheckFronts e l) != (r_CheckFronts e l)) = false from (by rw [bothCheck]; exact bne_self_eq_false _))
        cases h4 : (((zC e).2) != 0) with
        | true =>
          have g4 := bne_true h4
          exact zt ((l_OrdersFronts_o1 e l v5_0) ++ ((l_OrdersFronts_o2 e l) ++ [.dec true])) (And.intro h4 (And.intro p7 (And.intro p6 (And.intro p5 (And.intro p4 (And.intro p3 (And.intro p2 (And.intro (T_r_Fronts e) (And.intro (T_orders_Fronts e) (And.intro h3 (And.intro h2 (And.intro (T_l_few e GS.nil (Nat.zero_le _)) (And.intro p1 (And.intro (zk (GS.D Arr2_Int.D 2) l) (And.intro (zk (GS.D Arr2_Int.D 2) l) (And.intro (Eq.refl true) (And.intro sane_ok trivial))))))))))))))))) (by kernel_rfl)
        | false =>
          have g4 := bne_false h4
          exact zt ((l_OrdersFronts_o1 e l v5_0) ++ ((l_OrdersFronts_o2 e l) ++ [.dec false, .pure (I (orders_CheckFronts e ((zC e).1))), .dec true])) (And.intro (show ((orders_CheckFronts e ((zC e).1)) == 0) = true from (beq_iff_eq.2 (check_own (bne_false h4)))) (And.intro (T_orders_CheckFronts e ((zC e).1) (fronts_bd e).2 (Nat.le_trans (fronts_bd e).1 (by decide))) (And.intro h4 (And.intro p7 (And.intro p6 (And.intro p5 (And.intro p4 (And.intro p3 (And.intro p2 (And.intro (T_r_Fronts e) (And.intro (T_orders_Fronts e) (And.intro h3 (And.intro h2 (And.intro (T_l_few e GS.nil (Nat.zero_le _)) (And.intro p1 (And.intro (zk (GS.D Arr2_Int.D 2) l) (And.intro (zk (GS.D Arr2_Int.D 2) l) (And.intro (Eq.refl true) (And.intro sane_ok trivial))))))))))))))))))) (by kernel_rfl)
    | false =>
      exact zt ((l_OrdersFronts_o1 e l v5_0) ++ [.dec false]) (And.intro h2 (And.intro (T_l_few e GS.nil (Nat.zero_le _)) (And.intro p1 (And.intro (zk (GS.D Arr2_Int.D 2) l) (And.intro (zk (GS.D Arr2_Int.D 2) l) (And.intro (Eq.refl true) (And.intro sane_ok trivial))))))) (by kernel_rfl)
end Go.VS

/-
  Orders: OrdersFronts answers true. (A text of this claim's own; nothing of it is trusted.)
-/
namespace Go.VS
open Go
theorem ofronts_true (e : S_Estate) (l : GS (GS Arr2_Int)) : l_OrdersFronts e l = true := by
  unfold l_OrdersFronts
  cases l_OrdersFronts_5 l.l ((l.l.length : Nat) : Int)
  simp only [Bool.cond_self]
theorem law_fronts (e : S_Estate) (l : GS (GS Arr2_Int)) : e.items.l.length ≤ 9223372036854775807 → (l.l.length ≤ 9223372036854775807 ∧ ∀ r ∈ l.l, r.l.length ≤ 9223372036854775807) → (lim cfg).pure 3 [S_Estate.D e, GS.D (GS.D Arr2_Int.D 2) 1 l] = some (B true) := fun h1 h2 => by
  rw [T_l_OrdersFronts e l h2.2 h2.1 h1, ofronts_true]
end Go.VS

/-
  The seat's program: its tables are right; what its arguments stand for. (Printed by go/oq.py, a program of this claim's own; nothing of it is trusted.)
-/
namespace Go.VS
open Go Go.Proofs Go.RowKit Go.ChangeShapes Go.WideShapes
set_option maxRecDepth 100000
theorem laid_out : laidOutB Try.prog = true := by kernel_rfl
theorem maps_rowed : mapsRowed Try.prog = true := by kernel_rfl
theorem sl_full : ∀ t e, t < Try.prog.types.size → Try.prog.underlying t = some (.slice e) → 0 < Try.prog.cellsOf e := slices_full_of Try.prog (by kernel_rfl)
theorem i64_min : IntKind.i64.min = -9223372036854775808 := by rfl
theorem i64_max : IntKind.i64.max = 9223372036854775807 := by rfl
def R64 (n : Int) : Prop := -9223372036854775808 ≤ n ∧ n ≤ 9223372036854775807
section
variable {H : Type} {enc : TypeId × Value → H} {w : World} {base base' : Nat} {sp : Nat → Bool} {held : Bool} {t : TypeId} {v : Value} {d : DataW H} {p : List MemPlace} {r : Reach}
theorem arg_rep (h : DataW.Trod enc Try.prog w base sp held t v d p) (hv : Value.okWide Try.prog w r base' t v) (ht : topT cfg 8 t = true) (hr : rowedT cfg 8 t = true) :
    ∃ ds, zy (memOf w) noLoc ds v.cells.toList ∧ Sh cfg 8 t ds := by
  obtain ⟨n, hn⟩ := h
  exact trod_rep (C := cfg) (fun t ty h => tyTab_ok.find h) 8 n t _ _ hn ht hr (.inl (plain_arg hv))
theorem repL_one {M : Mem} {m : Loc} {d : D} {cs : List Value} (h : zy M m [d] cs) : ∃ v, cs = [v] ∧ Rep M m d v := by
  simp only [zy] at h
  obtain ⟨v, r, h1, h2, rfl⟩ := h
  exact ⟨v, h1, h2⟩
theorem one_cell {x u : Value} (h : x.cells.toList = [u]) (hp : ∀ cs, x ≠ .agg cs) : x = u := by
  cases x <;> simp [Value.cells] at h <;> first | exact h | exact absurd rfl (hp _)
theorem ok_notAgg (hv : Value.okWide Try.prog w r base' t v) (hs : ∀ fs, Try.prog.underlying t ≠ some (.struct fs)) (ha : ∀ n e, Try.prog.underlying t ≠ some (.array n e)) : ∀ cs, v ≠ .agg cs := by
  rintro cs rfl
  unfold Value.okWide at hv
  split at hv
  · rename_i h; exact hs _ h
  · rename_i h; exact ha _ _ h
  · unfold Cell.okWide at hv
    split at hv <;> try (rename_i h1 h2; cases h2; done)
    unfold Cell.ok at hv
    split at hv <;> first | (rename_i h1 h2; cases h2; done) | cases hv
theorem agg_of (hv : Value.okWide Try.prog w r base' t v) (hs : (∃ fs, Try.prog.underlying t = some (.struct fs)) ∨ (∃ n e, Try.prog.underlying t = some (.array n e))) : ∃ cs, v = .agg cs := by
  unfold Value.okWide at hv
  rcases hs with ⟨fs, hs⟩ | ⟨n, e, hs⟩ <;> rw [hs] at hv <;> simp only [] at hv <;> obtain ⟨cs, rfl, _⟩ := hv <;> exact ⟨cs, rfl⟩
end
theorem sh3 {f : Nat} {ds : List D} (h : Sh cfg (f + 1) 3 ds) : ∃ x : Int, ds = [I x] ∧ R64 x := by
  rw [Sh, cfg_ty, cty3] at h
  simp only [ty3] at h
  obtain ⟨n, h1, h2, h3⟩ := h
  rw [i64_min] at h2
  rw [i64_max] at h3
  exact ⟨n, h1, h2, h3⟩
theorem sh24 {f : Nat} {ds : List D} (h : Sh cfg (f + 2) 24 ds) : ∃ x : S_Span, ds = [I x.lo, I x.hi] ∧ True := by
  rw [Sh, cfg_ty, cty24] at h
  simp only [ty24] at h
  obtain ⟨hl, hf⟩ := h
  obtain ⟨t0, q0, z0⟩ := hf (3, 0) (by simp)
  obtain rfl : t0 = ty3 := (Option.some.inj (cty3.symm.trans q0)).symm
  obtain ⟨x0, e0, r0⟩ := sh3 (f := f + 0) z0
  obtain ⟨t1, q1, z1⟩ := hf (3, 1) (by simp)
  obtain rfl : t1 = ty3 := (Option.some.inj (cty3.symm.trans q1)).symm
  obtain ⟨x1, e1, r1⟩ := sh3 (f := f + 0) z1
  rcases ds with _ | ⟨c0, _ | ⟨c1, _ | ⟨y, r⟩⟩⟩
  all_goals simp at hl
  simp [ty3] at e0
  simp [ty3] at e1
  exact ⟨⟨x0, x1⟩, by simp [*], trivial⟩
theorem sh70 {f : Nat} {ds : List D} (h : Sh cfg (f + 3) 70 ds) : ∃ x : S_Item, ds = [I x.now.lo, I x.now.hi, I x.cost, I x.error] ∧ True := by
  rw [Sh, cfg_ty, cty70] at h
  simp only [ty70] at h
  obtain ⟨hl, hf⟩ := h
  obtain ⟨t0, q0, z0⟩ := hf (24, 0) (by simp)
  obtain rfl : t0 = ty24 := (Option.some.inj (cty24.symm.trans q0)).symm
  obtain ⟨x0, e0, r0⟩ := sh24 (f := f + 0) z0
  obtain ⟨t1, q1, z1⟩ := hf (3, 2) (by simp)
  obtain rfl : t1 = ty3 := (Option.some.inj (cty3.symm.trans q1)).symm
  obtain ⟨x1, e1, r1⟩ := sh3 (f := f + 1) z1
  obtain ⟨t2, q2, z2⟩ := hf (3, 3) (by simp)
  obtain rfl : t2 = ty3 := (Option.some.inj (cty3.symm.trans q2)).symm
  obtain ⟨x2, e2, r2⟩ := sh3 (f := f + 1) z2
  rcases ds with _ | ⟨c0, _ | ⟨c1, _ | ⟨c2, _ | ⟨c3, _ | ⟨y, r⟩⟩⟩⟩⟩
  all_goals simp at hl
  simp [ty24] at e0
  simp [ty3] at e1
  simp [ty3] at e2
  exact ⟨⟨x0, x1, x2⟩, by simp [*], trivial⟩
theorem sh22 {f : Nat} {ds : List D} (h : Sh cfg (f + 4) 22 ds) : ∃ x : GS S_Item, ds = [.sl x.nl (x.l.map S_Item.D) (zsl x.nl 4) none] ∧ x.l.length ≤ 9223372036854775807 := by
  rw [Sh, cfg_ty, cty22] at h
  simp only [ty22] at h
  rcases h with h | ⟨els, te, h1, h2, h3, h4⟩
  · exact ⟨GS.nil, h, by simp [GS.nil]⟩
  · obtain rfl : te = ty70 := (Option.some.inj (cty70.symm.trans h1)).symm
    have key : ∀ els : List D, (∀ d ∈ els, Sh cfg (f + 3) 70 d.cells ∧ (ty70.isAgg = true → d = .agg d.cells) ∧ (ty70.isAgg = false → d.cells = [d])) → ∃ l : List S_Item, els = l.map S_Item.D := by
      intro els
      induction els with
      | nil => intro _; exact ⟨[], rfl⟩
      | cons d els ih =>
        intro hd
        obtain ⟨l, hl⟩ := ih fun d' h' => hd d' (List.mem_cons_of_mem _ h')
        obtain ⟨q1, q2, q3⟩ := hd d (by simp)
        obtain ⟨a, e, _⟩ := sh70 (f := f + 0) q1
        have hx : d = S_Item.D a := by rw [q2 rfl, e]; rfl
        exact ⟨a :: l, by rw [List.map_cons, ← hx, ← hl]⟩
    obtain ⟨l, rfl⟩ := key els h4
    refine ⟨GS.some l, h2, ?_⟩
    simp only [List.length_map, maxLen] at h3
    simp only [GS.some]
    omega
theorem sh26 {f : Nat} {ds : List D} (h : Sh cfg (f + 5) 26 ds) : ∃ x : S_Estate, ds = [.sl x.items.nl (x.items.l.map S_Item.D) (zsl x.items.nl 4) none, I x.whole.lo, I x.whole.hi] ∧ x.items.l.length ≤ 9223372036854775807 := by
  rw [Sh, cfg_ty, cty26] at h
  simp only [ty26] at h
  obtain ⟨hl, hf⟩ := h
  obtain ⟨t0, q0, z0⟩ := hf (22, 0) (by simp)
  obtain rfl : t0 = ty22 := (Option.some.inj (cty22.symm.trans q0)).symm
  obtain ⟨x0, e0, r0⟩ := sh22 (f := f + 0) z0
  obtain ⟨t1, q1, z1⟩ := hf (24, 1) (by simp)
  obtain rfl : t1 = ty24 := (Option.some.inj (cty24.symm.trans q1)).symm
  obtain ⟨x1, e1, r1⟩ := sh24 (f := f + 2) z1
  rcases ds with _ | ⟨c0, _ | ⟨c1, _ | ⟨c2, _ | ⟨y, r⟩⟩⟩⟩
  all_goals simp at hl
  simp [ty22] at e0
  simp [ty24] at e1
  exact ⟨⟨x0, x1⟩, by simp [*], r0⟩
theorem sh47 {f : Nat} {ds : List D} (h : Sh cfg (f + 2) 47 ds) : ∃ x : Arr2_Int, ds = [I x.x0, I x.x1] ∧ True := by
  rw [Sh, cfg_ty, cty47] at h
  simp only [ty47] at h
  obtain ⟨hl, te, h1, h2⟩ := h
  obtain rfl : te = ty3 := (Option.some.inj (cty3.symm.trans h1)).symm
  obtain ⟨x0, e0, r0⟩ := sh3 (f := f + 0) (h2 0 (by omega))
  obtain ⟨x1, e1, r1⟩ := sh3 (f := f + 0) (h2 1 (by omega))
  rcases ds with _ | ⟨c0, _ | ⟨c1, _ | ⟨y, r⟩⟩⟩
  all_goals simp at hl
  simp [ty3] at e0 e1
  exact ⟨⟨x0, x1⟩, by simp [*], trivial⟩
theorem sh29 {f : Nat} {ds : List D} (h : Sh cfg (f + 3) 29 ds) : ∃ x : GS Arr2_Int, ds = [.sl x.nl (x.l.map Arr2_Int.D) (zsl x.nl 2) none] ∧ x.l.length ≤ 9223372036854775807 := by
  rw [Sh, cfg_ty, cty29] at h
  simp only [ty29] at h
  rcases h with h | ⟨els, te, h1, h2, h3, h4⟩
  · exact ⟨GS.nil, h, by simp [GS.nil]⟩
  · obtain rfl : te = ty47 := (Option.some.inj (cty47.symm.trans h1)).symm
    have key : ∀ els : List D, (∀ d ∈ els, Sh cfg (f + 2) 47 d.cells ∧ (ty47.isAgg = true → d = .agg d.cells) ∧ (ty47.isAgg = false → d.cells = [d])) → ∃ l : List Arr2_Int, els = l.map Arr2_Int.D := by
      intro els
      induction els with
      | nil => intro _; exact ⟨[], rfl⟩
      | cons d els ih =>
        intro hd
        obtain ⟨l, hl⟩ := ih fun d' h' => hd d' (List.mem_cons_of_mem _ h')
        obtain ⟨q1, q2, q3⟩ := hd d (by simp)
        obtain ⟨a, e, _⟩ := sh47 (f := f + 0) q1
        have hx : d = Arr2_Int.D a := by rw [q2 rfl, e]; rfl
        exact ⟨a :: l, by rw [List.map_cons, ← hx, ← hl]⟩
    obtain ⟨l, rfl⟩ := key els h4
    refine ⟨GS.some l, h2, ?_⟩
    simp only [List.length_map, maxLen] at h3
    simp only [GS.some]
    omega
theorem sh27 {f : Nat} {ds : List D} (h : Sh cfg (f + 4) 27 ds) : ∃ x : GS (GS Arr2_Int), ds = [.sl x.nl (x.l.map (GS.D Arr2_Int.D 2)) (zsl x.nl 1) none] ∧ x.l.length ≤ 9223372036854775807 ∧ ∀ r ∈ x.l, r.l.length ≤ 9223372036854775807 := by
  rw [Sh, cfg_ty, cty27] at h
  simp only [ty27] at h
  rcases h with h | ⟨els, te, h1, h2, h3, h4⟩
  · exact ⟨GS.nil, h, by simp [GS.nil], fun r hr => by simp [GS.nil] at hr⟩
  · obtain rfl : te = ty29 := (Option.some.inj (cty29.symm.trans h1)).symm
    have key : ∀ els : List D, (∀ d ∈ els, Sh cfg (f + 3) 29 d.cells ∧ (ty29.isAgg = true → d = .agg d.cells) ∧ (ty29.isAgg = false → d.cells = [d])) → ∃ l : List (GS Arr2_Int), els = l.map (GS.D Arr2_Int.D 2) ∧ ∀ r ∈ l, r.l.length ≤ 9223372036854775807 := by
      intro els
      induction els with
      | nil => intro _; exact ⟨[], rfl, fun r hr => by cases hr⟩
      | cons d els ih =>
        intro hd
        obtain ⟨l, hl, hb⟩ := ih fun d' h' => hd d' (List.mem_cons_of_mem _ h')
        obtain ⟨q1, q2, q3⟩ := hd d (by simp)
        obtain ⟨a, e, ha⟩ := sh29 (f := f + 0) q1
        have hx : d = (GS.D Arr2_Int.D 2) a := (List.cons.inj ((q3 rfl).symm.trans e)).1
        exact ⟨a :: l, by rw [List.map_cons, ← hx, ← hl], fun r hr => by
          rcases List.mem_cons.1 hr with rfl | hr
          · exact ha
          · exact hb r hr⟩
    obtain ⟨l, rfl, hb⟩ := key els h4
    refine ⟨GS.some l, h2, ?_, hb⟩
    simp only [List.length_map, maxLen] at h3
    simp only [GS.some]
    omega
theorem arg26 {H : Type} {enc : TypeId × Value → H} {w : World} {base base' : Nat} {sp : Nat → Bool} {held : Bool} {v : Value} {d : DataW H} {p : List MemPlace} {r : Reach} (h : DataW.Trod enc Try.prog w base sp held 26 v d p) (hv : Value.okWide Try.prog w r base' 26 v) : ∃ x : S_Estate, Rep (memOf w) noLoc (S_Estate.D x) v ∧ x.items.l.length ≤ 9223372036854775807 := by
  obtain ⟨ds, h1, h2⟩ := arg_rep h hv (by kernel_rfl) (by kernel_rfl)
  obtain ⟨x, rfl, hx⟩ := sh26 (f := 3) h2
  obtain ⟨cs, rfl⟩ := agg_of hv (.inl ⟨_, Try.underlying26⟩)
  refine ⟨x, ?_, hx⟩
  simp only [Rep, S_Estate.D]
  exact ⟨cs, rfl, by simpa [Value.cells] using h1⟩
theorem arg27 {H : Type} {enc : TypeId × Value → H} {w : World} {base base' : Nat} {sp : Nat → Bool} {held : Bool} {v : Value} {d : DataW H} {p : List MemPlace} {r : Reach} (h : DataW.Trod enc Try.prog w base sp held 27 v d p) (hv : Value.okWide Try.prog w r base' 27 v) : ∃ x : GS (GS Arr2_Int), Rep (memOf w) noLoc (GS.D (GS.D Arr2_Int.D 2) 1 x) v ∧ x.l.length ≤ 9223372036854775807 ∧ ∀ r ∈ x.l, r.l.length ≤ 9223372036854775807 := by
  obtain ⟨ds, h1, h2⟩ := arg_rep h hv (by kernel_rfl) (by kernel_rfl)
  obtain ⟨x, rfl, hx⟩ := sh27 (f := 4) h2
  obtain ⟨u, e, hu⟩ := repL_one h1
  exact ⟨x, by rw [one_cell e (ok_notAgg hv (by rw [Try.underlying27]; simp) (by rw [Try.underlying27]; simp))]; exact hu, hx⟩
end Go.VS

