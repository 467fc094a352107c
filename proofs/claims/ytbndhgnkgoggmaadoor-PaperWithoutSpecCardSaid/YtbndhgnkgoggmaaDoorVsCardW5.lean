/- Nothing of a statement is proved in this text alone: it is part 5 of the proof's own tools, an evaluator of the code over deep values, its soundness, and what it makes of this seat's functions. Conditions: none beyond the statement's own. -/
import Derived.Test.YtbndhgnkgoggmaaDoorVsCardW4
set_option linter.unusedSimpArgs false
set_option linter.unusedVariables false
/-
  What the reference's nets come to: the least quotients of walks of at most five zE, their nodes named otherwise. (A text of this claim's own; nothing of it is trusted.)
-/
namespace Go.VS
open Go Go.VS.Walks
def refOf (u : Int) (e : Edge) : Edge := ⟨if e.src = 0 then u else e.src - 1, if e.dst = 0 then u else e.dst - 1, lowR e.q.n e.q.d, e.why⟩
def refB (p : Paper) (ax : Int) : List Edge := marksE ax p.marks 0 ++ joinsE ax p.joins 0 ++ (List.range' 0 p.sheets.toNat).flatMap sheetE
def refE (p : Paper) (ax : Int) : List Edge := (refB p ax).map (refOf p.sheets)
theorem mem_refB {p : Paper} {ax : Int} {e : Edge} : e ∈ refB p ax ↔ e ∈ zE p ax := by
  unfold refB zE
  simp only [List.mem_append]
  constructor
  · rintro ((h | h) | h)
    · exact .inl (.inr h)
    · exact .inr h
    · exact .inl (.inl h)
  · rintro ((h | h) | h)
    · exact .inr h
    · exact .inl (.inl h)
    · exact .inl (.inr h)
abbrev NetF := Nat → Nat → Ratio
def putF (c : NetF) (i j : Nat) (r : Ratio) : NetF := fun a b => if a = i ∧ b = j then r else c a b
def stepF (c : NetF) (e : Edge) (out : NetF) (j : Nat) : NetF :=
  if (c e.dst.toNat j).n = 0 then out
  else if (out e.src.toNat j).n = 0 ∨ cmpR (zS e.q (c e.dst.toNat j)) (out e.src.toNat j) < 0 then putF out e.src.toNat j (zS e.q (c e.dst.toNat j)) else out
def innerF (c : NetF) (e : Edge) : Nat → Nat → NetF → NetF
  | 0, _, out => out
  | m + 1, j, out => innerF c e m (j + 1) (stepF c e out j)
def foldF (c : NetF) : List Edge → NetF → NetF
  | [], out => out
  | e :: es, out => foldF c es (innerF c e 5 0 out)
def startF : NetF := fun i j => if i = j ∧ i < 5 then ⟨1, 1⟩ else ⟨0, 0⟩
def iterF (es : List Edge) : Nat → NetF → NetF
  | 0, c => c
  | m + 1, c => iterF es m (foldF c es c)
def netR (p : Paper) (ax : Int) : NetF := iterF (refE p ax) 5 startF
/-! ### bounds -/
def entB (m : Int) (r : Ratio) : Prop := r.n = 0 ∨ (1 ≤ r.n ∧ r.n ≤ m ∧ 1 ≤ r.d ∧ r.d ≤ m)
def nB (m : Int) (c : NetF) : Prop := ∀ i j, entB m (c i j)
def eB (e : Edge) : Prop := 0 ≤ e.src ∧ e.src < 5 ∧ 0 ≤ e.dst ∧ e.dst < 5 ∧ 1 ≤ e.q.n ∧ e.q.n ≤ 2000 ∧ 1 ≤ e.q.d ∧ e.q.d ≤ 2000
theorem entB_mono {m m' : Int} {r : Ratio} (h : entB m r) (hm : m ≤ m') : entB m' r := by
  rcases h with h | ⟨a, b, c, d⟩
  · exact .inl h
  · exact .inr ⟨a, by omega, c, by omega⟩
theorem timesB {m : Int} {a b : Ratio} (ha : 1 ≤ a.n ∧ a.n ≤ 2000 ∧ 1 ≤ a.d ∧ a.d ≤ 2000) (hb : 1 ≤ b.n ∧ b.n ≤ m ∧ 1 ≤ b.d ∧ b.d ≤ m) : 1 ≤ (zS a b).n ∧ (zS a b).n ≤ 2000 * m ∧ 1 ≤ (zS a b).d ∧ (zS a b).d ≤ 2000 * m := by
  obtain ⟨a1, a2, a3, a4⟩ := ha
  obtain ⟨b1, b2, b3, b4⟩ := hb
  obtain ⟨l1, l2, l3, l4⟩ := low_le a1 b3
  obtain ⟨m1, m2, m3, m4⟩ := low_le b1 a3
  have p1 := Int.mul_le_mul l1 m1 (by omega) (by omega)
  have p2 := Int.mul_le_mul l3 m3 (by omega) (by omega)
  have p3 : (lowR a.n b.d).n * (lowR b.n a.d).n ≤ 2000 * m := Int.mul_le_mul (by omega) (by omega) (by omega) (by omega)
  have p4 : (lowR a.n b.d).d * (lowR b.n a.d).d ≤ m * 2000 := Int.mul_le_mul (by omega) (by omega) (by omega) (by omega)
  obtain ⟨q1, q2, q3, q4⟩ := low_le (n := (lowR a.n b.d).n * (lowR b.n a.d).n) (d := (lowR a.n b.d).d * (lowR b.n a.d).d) (by omega) (by omega)
  unfold zS
  omega
theorem stepB {m : Int} {c out : NetF} {e : Edge} {j : Nat} (hc : nB m c) (he : eB e) (ho : nB (2000 * m) out) : nB (2000 * m) (stepF c e out j) := by
  unfold stepF
  split
  · exact ho
  · rename_i h
    split
    · intro a b
      unfold putF
      split
      · exact .inr (timesB he.2.2.2.2 ((hc _ _).resolve_left h))
      · exact ho a b
    · exact ho
theorem innerB {m : Int} {c : NetF} {e : Edge} (hc : nB m c) (he : eB e) : ∀ (k j : Nat) {out : NetF}, nB (2000 * m) out → nB (2000 * m) (innerF c e k j out)
  | 0, _, _, h => h
  | k + 1, j, _, h => innerB hc he k (j + 1) (stepB hc he h)
theorem foldB {m : Int} {c : NetF} (hc : nB m c) : ∀ {es : List Edge}, (∀ e ∈ es, eB e) → ∀ {out : NetF}, nB (2000 * m) out → nB (2000 * m) (foldF c es out)
  | [], _, _, h => h
  | e :: _, he, _, h => foldB hc (fun e' h' => he e' (List.mem_cons_of_mem _ h')) (innerB hc (he e (by simp)) 5 0 h)
theorem longB {m : Int} {c : NetF} {es : List Edge} (hm : 1 ≤ m) (hc : nB m c) (he : ∀ e ∈ es, eB e) : nB (2000 * m) (foldF c es c) :=
  foldB hc he fun i j => entB_mono (hc i j) (by omega)
theorem startB : nB 1 startF := by
  intro i j
  unfold startF
  split
  · exact .inr ⟨by decide, by decide, by decide, by decide⟩
  · exact .inl rfl
theorem sheet_pos {p : Paper} (hok : zu p = true) : ∃ u : Nat, p.sheets = u ∧ 1 ≤ u ∧ u ≤ 4 := by
  obtain ⟨o1, o2, -⟩ := zA hok
  exact ⟨p.sheets.toNat, by omega, by omega, by omega⟩
theorem refE_B {p : Paper} (hok : zu p = true) (ax : Int) : ∀ e ∈ refE p ax, eB e := by
  intro e he
  obtain ⟨u, hu, u1, u2⟩ := sheet_pos hok
  obtain ⟨e', h1, rfl⟩ := List.mem_map.1 he
  obtain ⟨hb, hs, hd⟩ := edge_nodes hok (mem_refB.1 h1)
  obtain ⟨b1, b2, b3, b4, b5, b6, b7, b8⟩ := hb
  obtain ⟨l1, l2, l3, l4⟩ := low_le b5 b7
  unfold refOf eB
  simp only
  refine ⟨?_, ?_, ?_, ?_, l1, by omega, l3, by omega⟩ <;> split <;> omega
/-! ### what the nets are -/
/-- A zl that some walk of at most n zE comes to. -/
def RW (E : T → Prop) (n x y : Nat) (v : Rat) : Prop := ∃ l, l.length ≤ n ∧ Ch E x l y ∧ v = pr l
def Good (E : T → Prop) (n : Nat) (c : NetF) : Prop := ∀ x y, (c x y).n ≠ 0 → redR (c x y) ∧ RW E n x y (vR (c x y))
def Atm (c : NetF) (x y : Nat) (v : Rat) : Prop := (c x y).n ≠ 0 ∧ vR (c x y) ≤ v
def Exa (E : T → Prop) (n : Nat) (c : NetF) : Prop := Good E n c ∧ ∀ x y, x < 5 → y < 5 → ∀ l, l.length ≤ n → Ch E x l y → Atm c x y (pr l)
theorem good_mono {E : T → Prop} {n m : Nat} (h : n ≤ m) {c : NetF} (hg : Good E n c) : Good E m c := fun x y hn => by
  obtain ⟨r, l, l1, l2, l3⟩ := hg x y hn
  exact ⟨r, l, by omega, l2, l3⟩
section
variable {es : List Edge} {n : Nat} {c : NetF}
theorem step_all (hc : Good (inE es) n c) {e : Edge} (he : e ∈ es) (hb : eB e) {out : NetF} (ho : Good (inE es) (n + 1) out) (j : Nat) :
    Good (inE es) (n + 1) (stepF c e out j) ∧ (∀ x y v, Atm out x y v → Atm (stepF c e out j) x y v) ∧ ((c e.dst.toNat j).n ≠ 0 → Atm (stepF c e out j) e.src.toNat j (vR e.q * vR (c e.dst.toNat j))) := by
  unfold stepF
  split
  · rename_i h
    exact ⟨ho, fun _ _ _ h => h, fun h' => absurd h h'⟩
  · rename_i h
    obtain ⟨r1, l, l1, l2, l3⟩ := hc _ _ h
    obtain ⟨t1, t2⟩ := times_spec (a := e.q) (b := c e.dst.toNat j) hb.2.2.2.2.1 hb.2.2.2.2.2.2.1 r1.1 r1.2.1
    have hreal : RW (inE es) (n + 1) e.src.toNat j (vR (zS e.q (c e.dst.toNat j))) :=
      ⟨tE e :: l, by simp only [List.length_cons]; omega, ⟨⟨e, he, rfl⟩, rfl, l2⟩, by rw [t2, l3]; rfl⟩
    split
    · rename_i h2
      have hself : putF out e.src.toNat j (zS e.q (c e.dst.toNat j)) e.src.toNat j = zS e.q (c e.dst.toNat j) := by unfold putF; rw [if_pos ⟨rfl, rfl⟩]
      have hne : (zS e.q (c e.dst.toNat j)).n ≠ 0 := by have := t1.1; omega
      refine ⟨fun x y hxy => ?_, fun x y v hv => ?_, fun _ => ?_⟩
      · unfold putF at hxy ⊢
        split
        · rename_i hx; rw [hx.1, hx.2]; exact ⟨t1, hreal⟩
        · rename_i hx; rw [if_neg hx] at hxy; exact ho x y hxy
      · by_cases hx : x = e.src.toNat ∧ y = j
        · rw [hx.1, hx.2] at hv ⊢
          refine ⟨by rw [hself]; exact hne, ?_⟩
          rw [hself]
          rcases h2 with h2 | h2
          · exact absurd h2 hv.1
          · have : decide (cmpR (zS e.q (c e.dst.toNat j)) (out e.src.toNat j) < 0) = true := decide_eq_true h2
            rw [cmp_lt, ltR_iff t1.2.1 (ho _ _ hv.1).1.2.1] at this
            exact Rat.le_trans (Rat.le_of_lt this) hv.2
        · unfold Atm putF
          rw [if_neg hx]; exact hv
      · refine ⟨by rw [hself]; exact hne, ?_⟩
        rw [hself, t2]; exact Rat.le_refl
    · rename_i h2
      refine ⟨ho, fun _ _ _ h => h, fun _ => ?_⟩
      have h3 : (out e.src.toNat j).n ≠ 0 := fun h3 => h2 (.inl h3)
      refine ⟨h3, ?_⟩
      have h4 : decide (cmpR (zS e.q (c e.dst.toNat j)) (out e.src.toNat j) < 0) = false := decide_eq_false fun h4 => h2 (.inr h4)
      rw [cmp_lt] at h4
      have : ¬ vR (zS e.q (c e.dst.toNat j)) < vR (out e.src.toNat j) := fun h5 => by
        rw [(ltR_iff t1.2.1 (ho _ _ h3).1.2.1).2 h5] at h4; cases h4
      rw [Rat.not_lt, t2] at this
      exact this
theorem inner_all (hc : Good (inE es) n c) {e : Edge} (he : e ∈ es) (hb : eB e) : ∀ (m j : Nat) {out : NetF}, Good (inE es) (n + 1) out →
    Good (inE es) (n + 1) (innerF c e m j out) ∧ (∀ x y v, Atm out x y v → Atm (innerF c e m j out) x y v) ∧ (∀ i, j ≤ i → i < j + m → (c e.dst.toNat i).n ≠ 0 → Atm (innerF c e m j out) e.src.toNat i (vR e.q * vR (c e.dst.toNat i)))
  | 0, j, out, ho => ⟨ho, fun _ _ _ h => h, fun i h1 h2 => by omega⟩
  | m + 1, j, out, ho => by
    obtain ⟨s1, s2, s3⟩ := step_all hc he hb ho j
    obtain ⟨i1, i2, i3⟩ := inner_all hc he hb m (j + 1) s1
    refine ⟨i1, fun x y v h => i2 x y v (s2 x y v h), fun i h1 h2 h3 => ?_⟩
    by_cases hij : i = j
    · subst hij; exact i2 _ _ _ (s3 h3)
    · exact i3 i (by omega) (by omega) h3
theorem fold_all (hc : Good (inE es) n c) : ∀ {l : List Edge}, (∀ e ∈ l, e ∈ es ∧ eB e) → ∀ {out : NetF}, Good (inE es) (n + 1) out →
    Good (inE es) (n + 1) (foldF c l out) ∧ (∀ x y v, Atm out x y v → Atm (foldF c l out) x y v) ∧ (∀ e ∈ l, ∀ i, i < 5 → (c e.dst.toNat i).n ≠ 0 → Atm (foldF c l out) e.src.toNat i (vR e.q * vR (c e.dst.toNat i)))
  | [], _, out, ho => ⟨ho, fun _ _ _ h => h, fun e h => by cases h⟩
  | e :: l, hl, out, ho => by
    obtain ⟨s1, s2, s3⟩ := inner_all hc (hl e (by simp)).1 (hl e (by simp)).2 5 0 ho
    obtain ⟨i1, i2, i3⟩ := fold_all hc (l := l) (fun e' h' => hl e' (List.mem_cons_of_mem _ h')) s1
    refine ⟨i1, fun x y v h => i2 x y v (s2 x y v h), fun e' h' i hi h3 => ?_⟩
    rcases List.mem_cons.1 h' with rfl | h'
    · exact i2 _ _ _ (s3 i (by omega) (by omega) h3)
    · exact i3 e' h' i hi h3
theorem exa_step (hes : ∀ e ∈ es, eB e) (hc : Exa (inE es) n c) : Exa (inE es) (n + 1) (foldF c es c) := by
  obtain ⟨f1, f2, f3⟩ := fold_all hc.1 (l := es) (fun e he => ⟨he, hes e he⟩) (good_mono (Nat.le_succ n) hc.1)
  refine ⟨f1, fun x y hx hy l hl hch => ?_⟩
  cases l with
  | nil => exact f2 _ _ _ (hc.2 x y hx hy [] (Nat.zero_le _) hch)
  | cons t l =>
    obtain ⟨⟨e, he, rfl⟩, rfl, h3⟩ := hch
    have hb := hes e he
    have hd : (tE e).dst < 5 := by show e.dst.toNat < 5; have := hb.2.2.1; have := hb.2.2.2.1; omega
    have ha := hc.2 (tE e).dst y hd hy l (by simp only [List.length_cons] at hl; omega) h3
    obtain ⟨g1, g2⟩ := f3 e he y hy ha.1
    refine ⟨g1, Rat.le_trans g2 ?_⟩
    have hq : (0 : Rat) ≤ vR e.q := Rat.le_of_lt (vq_pos (by have := hb.2.2.2.2.1; omega) (by have := hb.2.2.2.2.2.2.1; omega))
    exact Rat.mul_le_mul_of_nonneg_left ha.2 hq
theorem exa_iter (hes : ∀ e ∈ es, eB e) : ∀ (m k : Nat) (c : NetF), Exa (inE es) k c → Exa (inE es) (k + m) (iterF es m c)
  | 0, _, _, h => h
  | m + 1, k, c, h => by
    have := exa_iter hes m (k + 1) _ (exa_step hes h)
    rw [show k + (m + 1) = k + 1 + m by omega]; exact this
end
theorem exa_start (E : T → Prop) : Exa E 0 startF := by
  refine ⟨fun x y h => ?_, fun x y hx hy l hl hch => ?_⟩
  · unfold startF at h ⊢
    split
    · rename_i hxy
      exact ⟨⟨by decide, by decide, by decide⟩, [], Nat.le_refl _, hxy.1, one_vR⟩
    · rename_i hxy; rw [if_neg hxy] at h; exact absurd rfl h
  · cases l with
    | nil =>
      obtain rfl : x = y := hch
      unfold Atm startF
      rw [if_pos ⟨rfl, hx⟩]
      exact ⟨by decide, by rw [show vR ⟨1, 1⟩ = 1 from one_vR]; exact Rat.le_refl⟩
    | cons t l => simp at hl
theorem net_exa {p : Paper} (hok : zu p = true) (ax : Int) : Exa (inE (refE p ax)) 5 (netR p ax) := by
  have := exa_iter (refE_B hok ax) 5 0 startF (exa_start _)
  exact this
/-! ### the nodes' other names -/
def sig (u k : Nat) : Nat := if k = 0 then u else k - 1
def sigT (u : Nat) (t : T) : T := ⟨sig u t.src, sig u t.dst, t.w⟩
theorem tE_ref {u : Nat} {e : Edge} (hb : edgeB e) : tE (refOf u e) = sigT u (tE e) := by
  obtain ⟨b1, b2, b3, b4, b5, b6, b7, b8⟩ := hb
  unfold tE refOf sigT sig
  simp only [T.mk.injEq]
  refine ⟨?_, ?_, (low_red b5 b7).2⟩
  · by_cases h : e.src = 0
    · rw [if_pos h, if_pos (by omega)]; omega
    · rw [if_neg h, if_neg (by omega)]; omega
  · by_cases h : e.dst = 0
    · rw [if_pos h, if_pos (by omega)]; omega
    · rw [if_neg h, if_neg (by omega)]; omega
theorem inE_ref {p : Paper} (hok : zu p = true) {ax : Int} {u : Nat} (hu : p.sheets = u) {t : T} : inE (refE p ax) t ↔ ∃ t', inE (zE p ax) t' ∧ sigT u t' = t := by
  unfold inE refE
  constructor
  · rintro ⟨e, he, rfl⟩
    obtain ⟨e', h1, rfl⟩ := List.mem_map.1 he
    have h2 := mem_refB.1 h1
    rw [hu, tE_ref (edge_nodes hok h2).1]
    exact ⟨_, ⟨e', h2, rfl⟩, rfl⟩
  · rintro ⟨t', ⟨e, he, rfl⟩, rfl⟩
    refine ⟨refOf p.sheets e, List.mem_map.2 ⟨e, mem_refB.2 he, rfl⟩, ?_⟩
    rw [hu, tE_ref (edge_nodes hok he).1]
theorem inE_le {p : Paper} (hok : zu p = true) {ax : Int} {u : Nat} (hu : p.sheets = u) {t : T} (h : inE (zE p ax) t) : t.src ≤ u ∧ t.dst ≤ u := by
  obtain ⟨e, he, rfl⟩ := h
  obtain ⟨b, h1, h2⟩ := edge_nodes hok he
  have := b.1; have := b.2.2.1
  constructor
  · show e.src.toNat ≤ u; omega
  · show e.dst.toNat ≤ u; omega
theorem sig_inj {u a b : Nat} (ha : a ≤ u) (hb : b ≤ u) (h : sig u a = sig u b) : a = b := by
  unfold sig at h
  split at h <;> split at h <;> omega
theorem ch_fwd {p : Paper} (hok : zu p = true) {ax : Int} {u : Nat} (hu : p.sheets = u) : ∀ {l : List T} {a b : Nat}, Ch (inE (zE p ax)) a l b → Ch (inE (refE p ax)) (sig u a) (l.map (sigT u)) (sig u b) ∧ pr (l.map (sigT u)) = pr l
  | [], _, _, h => ⟨by rw [show _ = _ from h]; rfl, rfl⟩
  | t :: l, _, _, h => by
    obtain ⟨i1, i2⟩ := ch_fwd hok hu h.2.2
    refine ⟨⟨(inE_ref hok hu).2 ⟨t, h.1, rfl⟩, by rw [← h.2.1]; rfl, i1⟩, ?_⟩
    show t.w * pr (l.map (sigT u)) = t.w * pr l
    rw [i2]
theorem ch_back {p : Paper} (hok : zu p = true) {ax : Int} {u : Nat} (hu : p.sheets = u) : ∀ {l : List T} {a y : Nat}, a ≤ u → Ch (inE (refE p ax)) (sig u a) l y → ∃ l' b, Ch (inE (zE p ax)) a l' b ∧ b ≤ u ∧ sig u b = y ∧ pr l = pr l' ∧ l'.length = l.length
  | [], a, _, ha, h => ⟨[], a, rfl, ha, h, rfl, rfl⟩
  | t :: l, a, y, ha, h => by
    obtain ⟨t', h1, rfl⟩ := (inE_ref hok hu).1 h.1
    obtain ⟨n1, n2⟩ := inE_le hok hu h1
    have hs : t'.src = a := sig_inj n1 ha h.2.1
    obtain ⟨l', b, i1, i2, i3, i4, i5⟩ := ch_back hok hu (l := l) n2 h.2.2
    refine ⟨t' :: l', b, ⟨h1, hs, i1⟩, i2, i3, ?_, by simp [i5]⟩
    show t'.w * pr l = t'.w * pr l'
    rw [i4]
/-- In a paper that allows factors the reference's nets are the least quotients. -/
theorem net_dist {p : Paper} (hok : zu p = true) {ax : Int} (hc : clashA p ax = none) {u : Nat} (hu : p.sheets = u) {a b : Nat} (ha : a ≤ u) (hb : b ≤ u) : netR p ax (sig u a) (sig u b) = distF p ax a b := by
  obtain ⟨u', hu', u1, u2⟩ := sheet_pos hok
  obtain rfl : u' = u := by omega
  have sl : ∀ k, k ≤ u' → sig u' k < 5 := by intro k hk; unfold sig; split <;> omega
  obtain ⟨x1, x2⟩ := net_exa hok ax
  obtain ⟨r1, w, w1, w2, w3⟩ := dist_real hok ax (show (a : Int) < 1 + p.sheets by omega) (show (b : Int) < 1 + p.sheets by omega)
  obtain ⟨f1, f2⟩ := ch_fwd hok hu w1.1
  obtain ⟨n1, n2⟩ := x2 (sig u' a) (sig u' b) (sl a ha) (sl b hb) _ (by rw [List.length_map, List.length_map]; omega) f1
  obtain ⟨r2, l, l1, l2, l3⟩ := x1 _ _ n1
  obtain ⟨l', b', i1, i2, i3, i4, _⟩ := ch_back hok hu ha l2
  obtain rfl : b' = b := sig_inj i2 hb i3
  obtain ⟨v, rfl, hv⟩ := inE_walk i1
  refine red_eq r2 r1 (Rat.le_antisymm ?_ ?_)
  · rw [w3]; rw [f2] at n2; exact n2
  · rw [l3, i4]; exact dist_least hok hc (by omega) (by omega) hv
def diagOK (c : NetF) (i : Nat) : Bool := !decide ((c i i).n < (c i i).d)
theorem can_iff {p : Paper} (hok : zu p = true) (ax : Int) : (∀ i, i < 5 → diagOK (netR p ax) i = true) ↔ clashA p ax = none := by
  obtain ⟨u, hu, u1, u2⟩ := sheet_pos hok
  obtain ⟨x1, x2⟩ := net_exa hok ax
  have sl : ∀ k, k ≤ u → sig u k < 5 := by intro k hk; unfold sig; split <;> omega
  constructor
  · intro h
    cases hc : clashA p ax with
    | none => rfl
    | some c =>
      exfalso
      obtain ⟨k, k1, k2, k3, k4⟩ := clash_some hc
      have hk : k ≤ u := by omega
      obtain ⟨m, m1, m2, w, w1, w2, w3, w4, w5⟩ := (chains_spec (fun e he => (edge_nodes hok he).1) (show k < 5 by omega) 5).2.1 k c k3
      obtain ⟨f1, f2⟩ := ch_fwd hok hu w2.1
      obtain ⟨n1, n2⟩ := x2 (sig u k) (sig u k) (sl k hk) (sl k hk) _ (by rw [List.length_map, List.length_map]; omega) f1
      have hd := h (sig u k) (sl k hk)
      unfold diagOK at hd
      simp only [Bool.not_eq_true', decide_eq_false_iff_not] at hd
      apply hd
      have r := (x1 _ _ n1).1
      rw [ltR_iff w5.2.1 (by decide), w3, one_vR] at k4
      have : vR (netR p ax (sig u k) (sig u k)) < vR one1 := by
        rw [one_vR]
        rw [f2] at n2
        exact Rat.not_le.1 fun h6 => Rat.not_le.2 k4 (Rat.le_trans h6 n2)
      have := (ltR_iff r.2.1 (by decide)).2 this
      simpa [ltR, one1] using this
  · intro hc i hi
    have h1 : redR (netR p ax i i) ∧ 1 ≤ vR (netR p ax i i) := by
      by_cases hiu : i ≤ u
      · obtain ⟨k, hk, rfl⟩ : ∃ k, k ≤ u ∧ sig u k = i := by
          by_cases h : i = u
          · exact ⟨0, by omega, by unfold sig; rw [if_pos rfl]; omega⟩
          · exact ⟨i + 1, by omega, by unfold sig; rw [if_neg (by omega)]; omega⟩
        rw [net_dist hok hc hu hk hk]
        unfold distF
        rw [if_pos rfl, one_vR]
        exact ⟨⟨by decide, by decide, by decide⟩, Rat.le_refl⟩
      · obtain ⟨n1, -⟩ := x2 i i hi hi [] (by simp) rfl
        obtain ⟨r, l, l1, l2, l3⟩ := x1 i i n1
        refine ⟨r, ?_⟩
        cases l with
        | nil => rw [l3]; exact Rat.le_refl
        | cons t l =>
          obtain ⟨t', h1, rfl⟩ := (inE_ref hok hu).1 l2.1
          obtain ⟨q1, _⟩ := inE_le hok hu h1
          have : sig u t'.src = i := l2.2.1
          unfold sig at this
          split at this <;> omega
    unfold diagOK
    simp only [Bool.not_eq_true', decide_eq_false_iff_not]
    intro hlt
    have : ltR (netR p ax i i) one1 = true := by simp [ltR, one1]; omega
    rw [ltR_iff h1.1.2.1 (by decide), one_vR] at this
    exact absurd this (Rat.not_lt.2 h1.2)
end Go.VS
namespace Go.VS
open Go Go.Proofs
set_option maxHeartbeats 0
set_option linter.unusedSimpArgs false

def encY (e : Edge) : D := .agg [B e.why.join, I e.why.at_, B e.why.back, I e.src, I e.dst, I e.q.n, I e.q.d]
theorem okY : EncOK 7 encY := ⟨fun _ _ _ => rfl, fun _ _ => rfl, fun _ _ _ => rfl, fun _ => ⟨rfl, rfl⟩⟩
def cN (c : NetF) : List D := [I (c 0 0).n, I (c 0 0).d, I (c 0 1).n, I (c 0 1).d, I (c 0 2).n, I (c 0 2).d, I (c 0 3).n, I (c 0 3).d, I (c 0 4).n, I (c 0 4).d, I (c 1 0).n, I (c 1 0).d, I (c 1 1).n, I (c 1 1).d, I (c 1 2).n, I (c 1 2).d, I (c 1 3).n, I (c 1 3).d, I (c 1 4).n, I (c 1 4).d, I (c 2 0).n, I (c 2 0).d, I (c 2 1).n, I (c 2 1).d, I (c 2 2).n, I (c 2 2).d, I (c 2 3).n, I (c 2 3).d, I (c 2 4).n, I (c 2 4).d, I (c 3 0).n, I (c 3 0).d, I (c 3 1).n, I (c 3 1).d, I (c 3 2).n, I (c 3 2).d, I (c 3 3).n, I (c 3 3).d, I (c 3 4).n, I (c 3 4).d, I (c 4 0).n, I (c 4 0).d, I (c 4 1).n, I (c 4 1).d, I (c 4 2).n, I (c 4 2).d, I (c 4 3).n, I (c 4 3).d, I (c 4 4).n, I (c 4 4).d]
def zN : List D := cN fun _ _ => ⟨0, 0⟩
theorem cN_len {c : NetF} : (cN c).length = 50 := rfl
theorem cN_one {c : NetF} : allOne (cN c) = true := rfl
theorem cN_ids {n : Nat} {c : NetF} : idsL (idsD (n + 1)) (cN c) = some [] := rfl
theorem cN_ren {ρ : Nat → Option Nat} {n : Nat} {c : NetF} : (cN c).map (renD ρ (n + 1)) = cN c := rfl
theorem cN_snap {g : Nat → Option Ob} {n : Nat} {c : NetF} : snapAll (snap g (n + 1)) (cN c) = some (cN c, []) := rfl
theorem cN_flat {n : Nat} {c : NetF} : flatL (flat (n + 1)) (cN c) = true := rfl
theorem cN_take {c : NetF} : (cN c).take 50 = cN c := rfl
theorem zN_len : zN.length = 50 := rfl
theorem zN_one : allOne zN = true := rfl
theorem zN_ids {n : Nat} : idsL (idsD (n + 1)) zN = some [] := rfl
theorem zN_ren {ρ : Nat → Option Nat} {n : Nat} : zN.map (renD ρ (n + 1)) = zN := rfl
theorem zN_drop : zN.drop 50 = [] := rfl
theorem five {i : Nat} (h : i < 5) : i = 0 ∨ i = 1 ∨ i = 2 ∨ i = 3 ∨ i = 4 := by omega
theorem cN_get {c : NetF} {i j : Nat} (hi : i < 5) (hj : j < 5) : (cN c)[i * 10 + j * 2]? = some (I (c i j).n) ∧ (cN c)[i * 10 + j * 2 + 1]? = some (I (c i j).d) ∧ ((cN c).drop (i * 10 + j * 2)).take 2 = [I (c i j).n, I (c i j).d] := by
  rcases five hi with rfl | rfl | rfl | rfl | rfl <;> rcases five hj with rfl | rfl | rfl | rfl | rfl <;> exact ⟨rfl, rfl, rfl⟩
theorem cN_put {c : NetF} {r : Ratio} {i j : Nat} (hi : i < 5) (hj : j < 5) : (cN c).take (i * 10 + j * 2) ++ [I r.n, I r.d] ++ (cN c).drop (i * 10 + j * 2 + 2) = cN (putF c i j r) := by
  rcases five hi with rfl | rfl | rfl | rfl | rfl <;> rcases five hj with rfl | rfl | rfl | rfl | rfl <;> rfl

theorem t22b (m : Int) (a b : Ratio) (hm : m ≤ 16000000000000) (ha : 1 ≤ a.n ∧ a.n ≤ 2000 ∧ 1 ≤ a.d ∧ a.d ≤ 2000) (hb : 1 ≤ b.n ∧ b.n ≤ m ∧ 1 ≤ b.d ∧ b.d ≤ m) : (lim cfg).pure 22 [.agg [I a.n, I a.d], .agg [I b.n, I b.d]] = some (.agg [I (zS a b).n, I (zS a b).d]) := by
  obtain ⟨a1, a2, a3, a4⟩ := ha
  obtain ⟨b1, b2, b3, b4⟩ := hb
  obtain ⟨l1, l2, l3, l4⟩ := low_le a1 b3
  obtain ⟨m1, m2, m3, m4⟩ := low_le b1 a3
  have q1 := Int.mul_le_mul l1 m1 (by omega) (by omega)
  have q3 := Int.mul_le_mul l3 m3 (by omega) (by omega)
  have q2 : (lowR a.n b.d).n * (lowR b.n a.d).n ≤ 2000 * m := Int.mul_le_mul (by omega) (by omega) (by omega) (by omega)
  have q4 : (lowR a.n b.d).d * (lowR b.n a.d).d ≤ m * 2000 := Int.mul_le_mul (by omega) (by omega) (by omega) (by omega)
  have w1 : IntKind.i64.wrap ((lowR a.n b.d).n * (lowR b.n a.d).n) = (lowR a.n b.d).n * (lowR b.n a.d).n := wrap_i64 (by omega) (by omega)
  have w2 : IntKind.i64.wrap ((lowR a.n b.d).d * (lowR b.n a.d).d) = (lowR a.n b.d).d * (lowR b.n a.d).d := wrap_i64 (by omega) (by omega)
  have e1 := t74 a.n b.d a1 (by omega) b3 (by omega)
  have e2 := t74 b.n a.d b1 (by omega) a3 (by omega)
  have e3 := t74 ((lowR a.n b.d).n * (lowR b.n a.d).n) ((lowR a.n b.d).d * (lowR b.n a.d).d) (by omega) (by omega) (by omega) (by omega)
  refine zo (zk 22) cfn22 rfl (n := 28) rfl ?_
  simp only [bW, if_true, Nat.reduceEqDiff, if_false, zl]
  repeat' first | (intro hb; first | cases hb | skip) | ((first | apply z8 | apply zd); (· rfl); (· simp (disch := assumption) only [go_sem, Nat.reduceEqDiff, Nat.reduceAdd, bP, ze, Nat.reduceLeDiff, Nat.reduceLT, Nat.reduceMul, List.length_append, decide_eq_true_eq, z6, z0, Int.reduceToNat, Int.reduceLE, Int.reduceLT, Int.reduceBNe, Int.reduceBEq, e1, e2, e3, w1, w2]; rfl); (· simp only [go_sem, Nat.reduceLT, Nat.reduceEqDiff]; rfl); (· rfl); first | (apply zc; (· simp only [go_sem, Nat.reduceLT]; rfl); (· simp only [go_sem, Nat.reduceLT]; rfl)) | (apply zg; (· simp only [go_sem, Nat.reduceLT]; rfl))) | ((first | apply za | apply zb); (· rfl); (· simp only [go_sem, Nat.reduceLT]; rfl)) | (apply z9; (· simp only [go_sem, Nat.reduceEqDiff])) | (apply z7; (· simp only [go_sem, Nat.reduceEqDiff])) | (apply zf; (· kernel_rfl); (· kernel_rfl)) | (simp only [bW, if_true, Nat.reduceEqDiff, if_false])
  all_goals simp only [go_sem, Nat.reduceEqDiff, bP, Nat.reduceAdd, Nat.reduceLeDiff, List.length_map, Tryd.f22]
  all_goals first | rfl | (simp_all []; done) | (simp_all []; intros; omega)

noncomputable def lp110_3 : Code := zv [1, 1, 0, 1, 0, 0] (zm Tryd.f110)
theorem lk110_3 : cfg.keep 110 (zq lp110_3) = [1, 2, 4, 5, 6] := by kernel_rfl
noncomputable def lp110_6 : Code := zv [1, 1, 0, 1, 0, 0, 1, 0, 0, 1, 0, 0] (zm Tryd.f110)
theorem lk110_6 : cfg.keep 110 (zq lp110_6) = [1, 2, 4, 5, 6, 7] := by kernel_rfl

theorem he_times {m : Int} (_ : m ≤ 16000000000000) {c : NetF} (hc : nB m c) {q : Ratio} {b j : Nat} (e5 : 1 ≤ q.n ∧ q.n ≤ 2000 ∧ 1 ≤ q.d ∧ q.d ≤ 2000) (h : (c b j).n ≠ 0) : 1 ≤ (zS q (c b j)).n ∧ (zS q (c b j)).n ≤ 2000 * m ∧ 1 ≤ (zS q (c b j)).d ∧ (zS q (c b j)).d ≤ 2000 * m := timesB e5 ((hc b j).resolve_left h)
theorem L110_6 {F : Exit → St → Option D} (es : List Edge) (c : NetF) (m : Int) (i : Nat) (e : Edge) (k : List Kt) (x : D) (hm1 : 1 ≤ m) (hm : m ≤ 16000000000000) (hc : nB m c) (he : eB e) (hi : es[i]? = some e) : ∀ (n j : Nat) (out : NetF), j + n = 5 → nB (2000 * m) out →
    (zB cfg (lim cfg) 110 F k (.exit 2) ⟨81, [(17, B false), (16, I (5 : Nat)), (1, .sl false (es.map encY) 7 none), (2, .lref 0 0 50 0), (4, .lref 1 0 50 0), (5, .lref 2 0 50 0), (6, I (i : Nat)), (7, I (5 : Nat))], [(0, ⟨[.agg (cN c)], 50, false⟩), (1, ⟨[.agg zN], 50, false⟩), (2, ⟨[.agg (cN (innerF c e n j out))], 50, false⟩)], 3, 0⟩ = some x) →
    EvL cfg (lim cfg) 110 F lp110_6 k ⟨81, [(1, .sl false (es.map encY) 7 none), (2, .lref 0 0 50 0), (4, .lref 1 0 50 0), (5, .lref 2 0 50 0), (6, I (i : Nat)), (7, I (j : Nat))], [(0, ⟨[.agg (cN c)], 50, false⟩), (1, ⟨[.agg zN], 50, false⟩), (2, ⟨[.agg (cN (out))], 50, false⟩)], 3, 0⟩ = some x := by
  obtain ⟨e1, e2, e3, e4, e5⟩ := he
  obtain ⟨a, ha⟩ := Int.eq_ofNat_of_zero_le e1
  obtain ⟨b, hb⟩ := Int.eq_ofNat_of_zero_le e3
  have hat : e.src.toNat = a := by omega
  have hbt : e.dst.toNat = b := by omega
  have hx : (es.map encY)[i]? = some (.agg [B e.why.join, I e.why.at_, B e.why.back, I (a : Nat), I (b : Nat), I e.q.n, I e.q.d]) := by rw [List.getElem?_map, hi]; show some (encY e) = _; unfold encY; rw [ha, hb]
  have ha5' : a < 5 := by omega
  have hb5' : b < 5 := by omega
  have ha5 : (a < 5) = True := by simp; omega
  have hb5 : (b < 5) = True := by simp; omega
  intro n
  induction n with
  | zero =>
    intro j out hj hob h
    obtain rfl : j = 5 := by omega
    simp only [innerF] at h
    refine zh ?_
    try dsimp only [lp110_6, zv, zm, Tryd.f110]
    simp only [bW, if_true, Nat.reduceEqDiff, if_false]
    repeat' first | (intro hb; first | cases hb | skip) | ((first | apply z8 | apply zd); (· rfl); (· simp (disch := assumption) only [go_sem, Nat.reduceEqDiff, Nat.reduceAdd, bP, ze, Nat.reduceLeDiff, Nat.reduceLT, Nat.reduceMul, List.length_append, decide_eq_true_eq, z6, z0, Int.reduceToNat, Int.reduceLE, Int.reduceLT, Int.reduceBNe, Int.reduceBEq, show (decide (((5 : Nat) : Int) < 5)) = false from rfl]; rfl); (· simp only [go_sem, Nat.reduceLT, Nat.reduceEqDiff]; rfl); (· rfl); first | (apply zc; (· simp only [go_sem, Nat.reduceLT]; rfl); (· simp only [go_sem, Nat.reduceLT]; rfl)) | (apply zg; (· simp only [go_sem, Nat.reduceLT]; rfl))) | ((first | apply za | apply zb); (· rfl); (· simp only [go_sem, Nat.reduceLT]; rfl)) | (apply z9; (· simp only [go_sem, Nat.reduceEqDiff])) | (apply z7; (· simp only [go_sem, Nat.reduceEqDiff])) | (apply zf; (· kernel_rfl); (· kernel_rfl)) | (simp only [bW, if_true, Nat.reduceEqDiff, if_false])
    exact h
  | succ n ih =>
    intro j out hj hob h
    have hj5n : j < 5 := by omega
    have hj5 : ((j : Int) < 5) = True := by simp; omega
    have hj5' : (j < 5) = True := by simp; omega
    have hwj : IntKind.i64.wrap ((j : Int) + 1) = ((j + 1 : Nat) : Int) := by rw [wrap_i64 (by omega) (by omega)]; omega
    obtain ⟨hN, hN2, hD⟩ := cN_get (c := c) hb5' hj5n
    obtain ⟨hO, hO2, hOD⟩ := cN_get (c := out) ha5' hj5n
    have hb50 : (b * 10 + j * 2 + 2 ≤ 50) = True := by simp; omega
    have ha50 : (a * 10 + j * 2 + 2 ≤ 50) = True := by simp; omega
    have hput := cN_put (c := out) (r := zS e.q (c b j)) ha5' hj5n
    have ht := he_times hm hc (b := b) (j := j) e5
    simp only [innerF] at h
    have hob' := stepB (e := e) (j := j) hc ⟨e1, e2, e3, e4, e5⟩ hob
    by_cases hz : (c b j).n = 0
    · have hz1 : ((c b j).n == 0) = true := by simp [hz]
      have hs : stepF c e out j = out := by unfold stepF; rw [hbt, if_pos hz]
      rw [hs] at h
      refine zh ?_
      try dsimp only [lp110_6, zv, zm, Tryd.f110]
      simp only [bW, if_true, Nat.reduceEqDiff, if_false]
      repeat' first | (intro hb; first | cases hb | skip) | ((first | apply z8 | apply zd); (· rfl); (· simp (disch := assumption) only [go_sem, Nat.reduceEqDiff, Nat.reduceAdd, bP, ze, Nat.reduceLeDiff, Nat.reduceLT, Nat.reduceMul, List.length_append, decide_eq_true_eq, z6, z0, Int.reduceToNat, Int.reduceLE, Int.reduceLT, Int.reduceBNe, Int.reduceBEq, hx, hj5, hj5', ha5, hb5, hN, hD, hO, hwj, hb50, ha50, cN_len, cN_one, cN_take, zN_len, zN_one, zN_drop, hz1]; rfl); (· simp only [go_sem, Nat.reduceLT, Nat.reduceEqDiff]; rfl); (· rfl); first | (apply zc; (· simp only [go_sem, Nat.reduceLT]; rfl); (· simp only [go_sem, Nat.reduceLT]; rfl)) | (apply zg; (· simp only [go_sem, Nat.reduceLT]; rfl))) | ((first | apply za | apply zb); (· rfl); (· simp only [go_sem, Nat.reduceLT]; rfl)) | (apply z9; (· simp only [go_sem, Nat.reduceEqDiff])) | (apply z7; (· simp only [go_sem, Nat.reduceEqDiff])) | (apply zf; (· kernel_rfl); (· kernel_rfl)) | (simp only [bW, if_true, Nat.reduceEqDiff, if_false])
      refine zn (st1 := ⟨81, [(1, .sl false (es.map encY) 7 none), (2, .lref 0 0 50 0), (4, .lref 1 0 50 0), (5, .lref 2 0 50 0), (6, I (i : Nat)), (7, I (j + 1 : Nat))], [(0, ⟨[.agg (cN c)], 50, false⟩), (1, ⟨[.agg zN], 50, false⟩), (2, ⟨[.agg (cN (out))], 50, false⟩)], 3, 0⟩) lk110_6 (by
        simp only [go_sem, List.map_append, Nat.reduceEqDiff, Nat.reduceLT, Nat.reduceAdd, bI, bD, bI2, cN_ids, cN_ren, zN_ids, zN_ren]
        try rfl) (ih (j + 1) _ (by omega) hob h)
    · have hz1 : ((c b j).n == 0) = false := by simp [hz]
      obtain ⟨q1, q2, q3, q4⟩ := ht hz
      have h22 := t22b m e.q (c b j) hm e5 ((hc b j).resolve_left hz)
      by_cases hy : (out a j).n = 0
      · have hy1 : ((out a j).n == 0) = true := by simp [hy]
        have hs : stepF c e out j = putF out a j (zS e.q (c b j)) := by unfold stepF; rw [hbt, hat, if_neg hz, if_pos (.inl hy)]
        rw [hs] at h hob'
        refine zh ?_
        try dsimp only [lp110_6, zv, zm, Tryd.f110]
        simp only [bW, if_true, Nat.reduceEqDiff, if_false]
        repeat' first | (intro hb; first | cases hb | skip) | ((first | apply z8 | apply zd); (· rfl); (· simp (disch := assumption) only [go_sem, Nat.reduceEqDiff, Nat.reduceAdd, bP, ze, Nat.reduceLeDiff, Nat.reduceLT, Nat.reduceMul, List.length_append, decide_eq_true_eq, z6, z0, Int.reduceToNat, Int.reduceLE, Int.reduceLT, Int.reduceBNe, Int.reduceBEq, hx, hj5, hj5', ha5, hb5, hN, hD, hO, hOD, hwj, hb50, ha50, hput, cN_len, cN_one, cN_take, zN_len, zN_one, zN_drop, hz1, hy1, h22]; rfl); (· simp only [go_sem, Nat.reduceLT, Nat.reduceEqDiff]; rfl); (· rfl); first | (apply zc; (· simp only [go_sem, Nat.reduceLT]; rfl); (· simp only [go_sem, Nat.reduceLT]; rfl)) | (apply zg; (· simp only [go_sem, Nat.reduceLT]; rfl))) | ((first | apply za | apply zb); (· rfl); (· simp only [go_sem, Nat.reduceLT]; rfl)) | (apply z9; (· simp only [go_sem, Nat.reduceEqDiff])) | (apply z7; (· simp only [go_sem, Nat.reduceEqDiff])) | (apply zf; (· kernel_rfl); (· kernel_rfl)) | (simp only [bW, if_true, Nat.reduceEqDiff, if_false])
        refine zn (st1 := ⟨81, [(1, .sl false (es.map encY) 7 none), (2, .lref 0 0 50 0), (4, .lref 1 0 50 0), (5, .lref 2 0 50 0), (6, I (i : Nat)), (7, I (j + 1 : Nat))], [(0, ⟨[.agg (cN c)], 50, false⟩), (1, ⟨[.agg zN], 50, false⟩), (2, ⟨[.agg (cN (putF out a j (zS e.q (c b j))))], 50, false⟩)], 3, 0⟩) lk110_6 (by
          simp only [go_sem, List.map_append, Nat.reduceEqDiff, Nat.reduceLT, Nat.reduceAdd, bI, bD, bI2, cN_ids, cN_ren, zN_ids, zN_ren]
          try rfl) (ih (j + 1) _ (by omega) hob' h)
      · have hy1 : ((out a j).n == 0) = false := by simp [hy]
        obtain ⟨y1, y2, y3, y4⟩ := (hob a j).resolve_left hy
        have h23 := t23i (zS e.q (c b j)).n (zS e.q (c b j)).d (out a j).n (out a j).d (by omega) (by omega) q3 (by omega) (by omega) (by omega) y3 (by omega)
        by_cases hl : cmpR (zS e.q (c b j)) (out a j) < 0
        · have hl1 : decide (cmpI ((zS e.q (c b j)).n * (out a j).d) ((out a j).n * (zS e.q (c b j)).d) < 0) = true := decide_eq_true hl
          have hs : stepF c e out j = putF out a j (zS e.q (c b j)) := by unfold stepF; rw [hbt, hat, if_neg hz, if_pos (.inr hl)]
          rw [hs] at h hob'
          refine zh ?_
          try dsimp only [lp110_6, zv, zm, Tryd.f110]
          simp only [bW, if_true, Nat.reduceEqDiff, if_false]
          repeat' first | (intro hb; first | cases hb | skip) | ((first | apply z8 | apply zd); (· rfl); (· simp (disch := assumption) only [go_sem, Nat.reduceEqDiff, Nat.reduceAdd, bP, ze, Nat.reduceLeDiff, Nat.reduceLT, Nat.reduceMul, List.length_append, decide_eq_true_eq, z6, z0, Int.reduceToNat, Int.reduceLE, Int.reduceLT, Int.reduceBNe, Int.reduceBEq, hx, hj5, hj5', ha5, hb5, hN, hD, hO, hOD, hwj, hb50, ha50, hput, cN_len, cN_one, cN_take, zN_len, zN_one, zN_drop, hz1, hy1, h22, h23, hl1]; rfl); (· simp only [go_sem, Nat.reduceLT, Nat.reduceEqDiff]; rfl); (· rfl); first | (apply zc; (· simp only [go_sem, Nat.reduceLT]; rfl); (· simp only [go_sem, Nat.reduceLT]; rfl)) | (apply zg; (· simp only [go_sem, Nat.reduceLT]; rfl))) | ((first | apply za | apply zb); (· rfl); (· simp only [go_sem, Nat.reduceLT]; rfl)) | (apply z9; (· simp only [go_sem, Nat.reduceEqDiff])) | (apply z7; (· simp only [go_sem, Nat.reduceEqDiff])) | (apply zf; (· kernel_rfl); (· kernel_rfl)) | (simp only [bW, if_true, Nat.reduceEqDiff, if_false])
          refine zn (st1 := ⟨81, [(1, .sl false (es.map encY) 7 none), (2, .lref 0 0 50 0), (4, .lref 1 0 50 0), (5, .lref 2 0 50 0), (6, I (i : Nat)), (7, I (j + 1 : Nat))], [(0, ⟨[.agg (cN c)], 50, false⟩), (1, ⟨[.agg zN], 50, false⟩), (2, ⟨[.agg (cN (putF out a j (zS e.q (c b j))))], 50, false⟩)], 3, 0⟩) lk110_6 (by
            simp only [go_sem, List.map_append, Nat.reduceEqDiff, Nat.reduceLT, Nat.reduceAdd, bI, bD, bI2, cN_ids, cN_ren, zN_ids, zN_ren]
            try rfl) (ih (j + 1) _ (by omega) hob' h)
        · have hl1 : decide (cmpI ((zS e.q (c b j)).n * (out a j).d) ((out a j).n * (zS e.q (c b j)).d) < 0) = false := decide_eq_false hl
          have hs : stepF c e out j = out := by unfold stepF; rw [hbt, hat, if_neg hz, if_neg (fun h => h.elim hy hl)]
          rw [hs] at h
          refine zh ?_
          try dsimp only [lp110_6, zv, zm, Tryd.f110]
          simp only [bW, if_true, Nat.reduceEqDiff, if_false]
          repeat' first | (intro hb; first | cases hb | skip) | ((first | apply z8 | apply zd); (· rfl); (· simp (disch := assumption) only [go_sem, Nat.reduceEqDiff, Nat.reduceAdd, bP, ze, Nat.reduceLeDiff, Nat.reduceLT, Nat.reduceMul, List.length_append, decide_eq_true_eq, z6, z0, Int.reduceToNat, Int.reduceLE, Int.reduceLT, Int.reduceBNe, Int.reduceBEq, hx, hj5, hj5', ha5, hb5, hN, hD, hO, hOD, hwj, hb50, ha50, cN_len, cN_one, cN_take, zN_len, zN_one, zN_drop, hz1, hy1, h22, h23, hl1]; rfl); (· simp only [go_sem, Nat.reduceLT, Nat.reduceEqDiff]; rfl); (· rfl); first | (apply zc; (· simp only [go_sem, Nat.reduceLT]; rfl); (· simp only [go_sem, Nat.reduceLT]; rfl)) | (apply zg; (· simp only [go_sem, Nat.reduceLT]; rfl))) | ((first | apply za | apply zb); (· rfl); (· simp only [go_sem, Nat.reduceLT]; rfl)) | (apply z9; (· simp only [go_sem, Nat.reduceEqDiff])) | (apply z7; (· simp only [go_sem, Nat.reduceEqDiff])) | (apply zf; (· kernel_rfl); (· kernel_rfl)) | (simp only [bW, if_true, Nat.reduceEqDiff, if_false])
          refine zn (st1 := ⟨81, [(1, .sl false (es.map encY) 7 none), (2, .lref 0 0 50 0), (4, .lref 1 0 50 0), (5, .lref 2 0 50 0), (6, I (i : Nat)), (7, I (j + 1 : Nat))], [(0, ⟨[.agg (cN c)], 50, false⟩), (1, ⟨[.agg zN], 50, false⟩), (2, ⟨[.agg (cN (out))], 50, false⟩)], 3, 0⟩) lk110_6 (by
            simp only [go_sem, List.map_append, Nat.reduceEqDiff, Nat.reduceLT, Nat.reduceAdd, bI, bD, bI2, cN_ids, cN_ren, zN_ids, zN_ren]
            try rfl) (ih (j + 1) _ (by omega) hob h)

theorem L110_3 {F : Exit → St → Option D} (es : List Edge) (c : NetF) (m : Int) (k : List Kt) (x : D) (hm1 : 1 ≤ m) (hm : m ≤ 16000000000000) (hc : nB m c) (hes : ∀ e ∈ es, eB e) (hlen : es.length ≤ 1000) : ∀ (rest : List Edge) (i : Nat) (out : NetF), es.drop i = rest → i ≤ es.length → nB (2000 * m) out →
    (zB cfg (lim cfg) 110 F k (.exit 0) ⟨81, [(13, B false), (12, I es.length), (11, .sl false (es.map encY) 7 none), (10, I (es.length : Nat)), (1, .sl false (es.map encY) 7 none), (2, .lref 0 0 50 0), (4, .lref 1 0 50 0), (5, .lref 2 0 50 0), (6, I (es.length : Nat))], [(0, ⟨[.agg (cN c)], 50, false⟩), (1, ⟨[.agg zN], 50, false⟩), (2, ⟨[.agg (cN (foldF c rest out))], 50, false⟩)], 3, 0⟩ = some x) →
    EvL cfg (lim cfg) 110 F lp110_3 k ⟨81, [(1, .sl false (es.map encY) 7 none), (2, .lref 0 0 50 0), (4, .lref 1 0 50 0), (5, .lref 2 0 50 0), (6, I (i : Nat))], [(0, ⟨[.agg (cN c)], 50, false⟩), (1, ⟨[.agg zN], 50, false⟩), (2, ⟨[.agg (cN (out))], 50, false⟩)], 3, 0⟩ = some x := by
  intro rest
  induction rest with
  | nil =>
    intro i out hd hi hob h
    have hi' : i = es.length := by
      have := List.drop_eq_nil_iff.1 hd
      omega
    subst hi'
    simp only [foldF] at h
    refine zh ?_
    try dsimp only [lp110_3, zv, zm, Tryd.f110]
    simp only [bW, if_true, Nat.reduceEqDiff, if_false]
    repeat' first | (intro hb; first | cases hb | skip) | ((first | apply z8 | apply zd); (· rfl); (· simp (disch := assumption) only [go_sem, Nat.reduceEqDiff, Nat.reduceAdd, bP, ze, Nat.reduceLeDiff, Nat.reduceLT, Nat.reduceMul, List.length_append, decide_eq_true_eq, z6, z0, Int.reduceToNat, Int.reduceLE, Int.reduceLT, Int.reduceBNe, Int.reduceBEq, Int.lt_irrefl, List.length_map]; rfl); (· simp only [go_sem, Nat.reduceLT, Nat.reduceEqDiff]; rfl); (· rfl); first | (apply zc; (· simp only [go_sem, Nat.reduceLT]; rfl); (· simp only [go_sem, Nat.reduceLT]; rfl)) | (apply zg; (· simp only [go_sem, Nat.reduceLT]; rfl))) | ((first | apply za | apply zb); (· rfl); (· simp only [go_sem, Nat.reduceLT]; rfl)) | (apply z9; (· simp only [go_sem, Nat.reduceEqDiff])) | (apply z7; (· simp only [go_sem, Nat.reduceEqDiff])) | (apply zf; (· kernel_rfl); (· kernel_rfl)) | (simp only [bW, if_true, Nat.reduceEqDiff, if_false])
    exact h
  | cons e rest ih =>
    intro i out hd hi hob h
    have hlt : i < es.length := by
      rcases Nat.lt_or_ge i es.length with h | h
      · exact h
      · rw [List.drop_eq_nil_of_le h] at hd; cases hd
    have hm' : es[i]? = some e := by rw [← List.head?_drop, hd]; rfl
    have hlt' : (i : Int) < (es.length : Int) := by omega
    have hw3 : IntKind.i64.wrap ((i : Int) + 1) = ((i + 1 : Nat) : Int) := by rw [wrap_i64 (by omega) (by omega)]; omega
    have heb := hes e (List.mem_of_getElem? hm')
    simp only [foldF] at h
    refine zh ?_
    try dsimp only [lp110_3, zv, zm, Tryd.f110]
    simp only [bW, if_true, Nat.reduceEqDiff, if_false]
    repeat' first | (intro hb; first | cases hb | skip) | ((first | apply z8 | apply zd); (· rfl); (· simp (disch := assumption) only [go_sem, Nat.reduceEqDiff, Nat.reduceAdd, bP, ze, Nat.reduceLeDiff, Nat.reduceLT, Nat.reduceMul, List.length_append, decide_eq_true_eq, z6, z0, Int.reduceToNat, Int.reduceLE, Int.reduceLT, Int.reduceBNe, Int.reduceBEq, List.length_map, hlt']; rfl); (· simp only [go_sem, Nat.reduceLT, Nat.reduceEqDiff]; rfl); (· rfl); first | (apply zc; (· simp only [go_sem, Nat.reduceLT]; rfl); (· simp only [go_sem, Nat.reduceLT]; rfl)) | (apply zg; (· simp only [go_sem, Nat.reduceLT]; rfl))) | ((first | apply za | apply zb); (· rfl); (· simp only [go_sem, Nat.reduceLT]; rfl)) | (apply z9; (· simp only [go_sem, Nat.reduceEqDiff])) | (apply z7; (· simp only [go_sem, Nat.reduceEqDiff])) | (apply zf; (· kernel_rfl); (· kernel_rfl)) | (simp only [bW, if_true, Nat.reduceEqDiff, if_false])
    refine zK (st1 := ⟨81, [(1, .sl false (es.map encY) 7 none), (2, .lref 0 0 50 0), (4, .lref 1 0 50 0), (5, .lref 2 0 50 0), (6, I (i : Nat)), (7, I (0 : Nat))], [(0, ⟨[.agg (cN c)], 50, false⟩), (1, ⟨[.agg zN], 50, false⟩), (2, ⟨[.agg (cN (out))], 50, false⟩)], 3, 0⟩) lk110_6 (by
      simp only [go_sem, List.map_append, Nat.reduceEqDiff, Nat.reduceLT, Nat.reduceAdd, bI, bD, bI2, cN_ids, cN_ren, zN_ids, zN_ren]
      try rfl) (L110_6 es c m i e _ _ hm1 hm hc heb hm' 5 0 out rfl hob ?_)
    have hob' := innerB hc heb 5 0 hob
    simp only [bW, if_true, Nat.reduceEqDiff, if_false]
    repeat' first | (intro hb; first | cases hb | skip) | ((first | apply z8 | apply zd); (· rfl); (· simp (disch := assumption) only [go_sem, Nat.reduceEqDiff, Nat.reduceAdd, bP, ze, Nat.reduceLeDiff, Nat.reduceLT, Nat.reduceMul, List.length_append, decide_eq_true_eq, z6, z0, Int.reduceToNat, Int.reduceLE, Int.reduceLT, Int.reduceBNe, Int.reduceBEq, hw3]; rfl); (· simp only [go_sem, Nat.reduceLT, Nat.reduceEqDiff]; rfl); (· rfl); first | (apply zc; (· simp only [go_sem, Nat.reduceLT]; rfl); (· simp only [go_sem, Nat.reduceLT]; rfl)) | (apply zg; (· simp only [go_sem, Nat.reduceLT]; rfl))) | ((first | apply za | apply zb); (· rfl); (· simp only [go_sem, Nat.reduceLT]; rfl)) | (apply z9; (· simp only [go_sem, Nat.reduceEqDiff])) | (apply z7; (· simp only [go_sem, Nat.reduceEqDiff])) | (apply zf; (· kernel_rfl); (· kernel_rfl)) | (simp only [bW, if_true, Nat.reduceEqDiff, if_false])
    refine zn (st1 := ⟨81, [(1, .sl false (es.map encY) 7 none), (2, .lref 0 0 50 0), (4, .lref 1 0 50 0), (5, .lref 2 0 50 0), (6, I (i + 1 : Nat))], [(0, ⟨[.agg (cN c)], 50, false⟩), (1, ⟨[.agg zN], 50, false⟩), (2, ⟨[.agg (cN (innerF c e 5 0 out))], 50, false⟩)], 3, 0⟩) lk110_3 (by
      simp only [go_sem, List.map_append, Nat.reduceEqDiff, Nat.reduceLT, Nat.reduceAdd, bI, bD, bI2, cN_ids, cN_ren, zN_ids, zN_ren]
      try rfl) (ih (i + 1) _ (by rw [← List.drop_drop, hd]; rfl) hlt hob' h)

theorem t110 (es : List Edge) (c : NetF) (m : Int) (hm1 : 1 ≤ m) (hm : m ≤ 16000000000000) (hc : nB m c) (hes : ∀ e ∈ es, eB e) (hlen : es.length ≤ 1000) : (lim cfg).pure 110 [.agg (cN c), .sl false (es.map encY) 7 none] = some (.agg (cN (foldF c es c))) := by
  refine zo (zk 110) cfn110 rfl (n := 81) rfl ?_
  generalize hF : finP cfg Tryd.f110 = F
  simp only [bW, if_true, Nat.reduceEqDiff, if_false, zl]
  repeat' first | (intro hb; first | cases hb | skip) | ((first | apply z8 | apply zd); (· rfl); (· simp (disch := assumption) only [go_sem, Nat.reduceEqDiff, Nat.reduceAdd, bP, ze, Nat.reduceLeDiff, Nat.reduceLT, Nat.reduceMul, List.length_append, decide_eq_true_eq, z6, z0, Int.reduceToNat, Int.reduceLE, Int.reduceLT, Int.reduceBNe, Int.reduceBEq, cN_len, cN_one, cN_take, zN_len, zN_one, zN_drop]; rfl); (· simp only [go_sem, Nat.reduceLT, Nat.reduceEqDiff]; rfl); (· rfl); first | (apply zc; (· simp only [go_sem, Nat.reduceLT]; rfl); (· simp only [go_sem, Nat.reduceLT]; rfl)) | (apply zg; (· simp only [go_sem, Nat.reduceLT]; rfl))) | ((first | apply za | apply zb); (· rfl); (· simp only [go_sem, Nat.reduceLT]; rfl)) | (apply z9; (· simp only [go_sem, Nat.reduceEqDiff])) | (apply z7; (· simp only [go_sem, Nat.reduceEqDiff])) | (apply zf; (· kernel_rfl); (· kernel_rfl)) | (simp only [bW, if_true, Nat.reduceEqDiff, if_false])
  refine zK (st1 := ⟨81, [(1, .sl false (es.map encY) 7 none), (2, .lref 0 0 50 0), (4, .lref 1 0 50 0), (5, .lref 2 0 50 0), (6, I (0 : Nat))], [(0, ⟨[.agg (cN c)], 50, false⟩), (1, ⟨[.agg zN], 50, false⟩), (2, ⟨[.agg (cN (c))], 50, false⟩)], 3, 0⟩) lk110_3 (by
    simp only [go_sem, List.map_append, Nat.reduceEqDiff, Nat.reduceLT, Nat.reduceAdd, bI, bD, bI2, cN_ids, cN_ren, zN_ids, zN_ren]
    try rfl) (L110_3 es c m _ _ hm1 hm hc hes hlen es 0 c rfl (Nat.zero_le _) (fun i j => entB_mono (hc i j) (by omega)) ?_)
  simp only [bW, if_true, Nat.reduceEqDiff, if_false]
  repeat' first | (intro hb; first | cases hb | skip) | ((first | apply z8 | apply zd); (· rfl); (· simp (disch := assumption) only [go_sem, Nat.reduceEqDiff, Nat.reduceAdd, bP, ze, Nat.reduceLeDiff, Nat.reduceLT, Nat.reduceMul, List.length_append, decide_eq_true_eq, z6, z0, Int.reduceToNat, Int.reduceLE, Int.reduceLT, Int.reduceBNe, Int.reduceBEq, cN_len, cN_one, cN_take, zN_len, zN_one, zN_drop]; rfl); (· simp only [go_sem, Nat.reduceLT, Nat.reduceEqDiff]; rfl); (· rfl); first | (apply zc; (· simp only [go_sem, Nat.reduceLT]; rfl); (· simp only [go_sem, Nat.reduceLT]; rfl)) | (apply zg; (· simp only [go_sem, Nat.reduceLT]; rfl))) | ((first | apply za | apply zb); (· rfl); (· simp only [go_sem, Nat.reduceLT]; rfl)) | (apply z9; (· simp only [go_sem, Nat.reduceEqDiff])) | (apply z7; (· simp only [go_sem, Nat.reduceEqDiff])) | (apply zf; (· kernel_rfl); (· kernel_rfl)) | (simp only [bW, if_true, Nat.reduceEqDiff, if_false])
  subst hF
  simp only [go_sem, Nat.reduceEqDiff, bP, Nat.reduceAdd, Nat.reduceLeDiff, List.length_map, Tryd.f110, cN_len, cN_one, cN_take, zN_len, zN_one, zN_drop, cN_snap]

end Go.VS
namespace Go.VS
open Go Go.Proofs
set_option maxHeartbeats 0
set_option linter.unusedSimpArgs false

noncomputable def lp109_4 : Code := zv [1, 1, 1, 0, 1, 0, 0] (zm Tryd.f109)
theorem lk109_4 : cfg.keep 109 (zq lp109_4) = [1, 2, 5, 6, 7] := by kernel_rfl
noncomputable def lp109_11 : Code := zv [1, 1, 1, 1, 0, 1, 0, 0] (zm Tryd.f109)
theorem lk109_11 : cfg.keep 109 (zq lp109_11) = [1, 2, 5, 6, 9] := by kernel_rfl
noncomputable def lp109_18 : Code := zv [1, 1, 1, 1, 1, 0, 1, 0, 0] (zm Tryd.f109)
theorem lk109_18 : cfg.keep 109 (zq lp109_18) = [2, 5, 6, 11] := by kernel_rfl

theorem L109_4 {F : Exit → St → Option D} (p : Paper) (ax : Int) (k : List Kt) (x : D) (hwf : p.wf) (hok : zu p = true) : ∀ (rest : List Mark) (i : Nat) (es : List Edge), p.marks.drop i = rest → i ≤ p.marks.length → es.length + 2 * rest.length ≤ 1000 →
    (zB cfg (lim cfg) 109 F k (.exit 0) ⟨149, [(18, B false), (17, I p.marks.length), (16, .sl p.nm (p.marks.map encM) (zs p.nm 5) none), (15, .lref 0 0 3 1), (14, I (p.marks.length : Nat)), (1, I ax), (2, .lref 0 0 3 0), (5, I p.sheets), (6, gD 1 7 (es ++ (marksE ax rest i).map (refOf p.sheets))), (7, I (p.marks.length : Nat))], (0, ⟨[zj p], 3, false⟩) :: gO 1 7 encY (es ++ (marksE ax rest i).map (refOf p.sheets)), gN 1 (es ++ (marksE ax rest i).map (refOf p.sheets)), 0⟩ = some x) →
    EvL cfg (lim cfg) 109 F lp109_4 k ⟨149, [(1, I ax), (2, .lref 0 0 3 0), (5, I p.sheets), (6, gD 1 7 (es)), (7, I (i : Nat))], (0, ⟨[zj p], 3, false⟩) :: gO 1 7 encY (es), gN 1 (es), 0⟩ = some x := by
  have hlm := len_if (f := encM) hwf.1
  obtain ⟨o1, o2, -, -, o5, o6⟩ := zA hok
  intro rest
  induction rest with
  | nil =>
    intro i es hd hi he h
    have hi' : i = p.marks.length := by
      have := List.drop_eq_nil_iff.1 hd
      omega
    subst hi'
    simp only [marksE, List.map_nil, List.append_nil] at h
    refine zh ?_
    try dsimp only [lp109_4, zv, zm, Tryd.f109]
    simp only [bW, if_true, Nat.reduceEqDiff, if_false]
    repeat' first | (intro hb; first | cases hb | skip) | ((first | apply z8 | apply zd); (· rfl); (· simp (disch := assumption) only [go_sem, Nat.reduceEqDiff, Nat.reduceAdd, bP, ze, Nat.reduceLeDiff, Nat.reduceLT, Nat.reduceMul, List.length_append, decide_eq_true_eq, z6, z0, Int.reduceToNat, Int.reduceLE, Int.reduceLT, Int.reduceBNe, Int.reduceBEq, hlm, Int.lt_irrefl]; rfl); (· simp only [go_sem, Nat.reduceLT, Nat.reduceEqDiff]; rfl); (· rfl); first | (apply zc; (· simp only [go_sem, Nat.reduceLT]; rfl); (· simp only [go_sem, Nat.reduceLT]; rfl)) | (apply zg; (· simp only [go_sem, Nat.reduceLT]; rfl))) | ((first | apply za | apply zb); (· rfl); (· simp only [go_sem, Nat.reduceLT]; rfl)) | (apply z9; (· simp only [go_sem, Nat.reduceEqDiff])) | (apply z7; (· simp only [go_sem, Nat.reduceEqDiff])) | (apply zf; (· kernel_rfl); (· kernel_rfl)) | (simp only [bW, if_true, Nat.reduceEqDiff, if_false])
    exact h
  | cons m rest ih =>
    intro i es hd hi he h
    have hlt : i < p.marks.length := by
      rcases Nat.lt_or_ge i p.marks.length with h | h
      · exact h
      · rw [List.drop_eq_nil_of_le h] at hd; cases hd
    have hm : p.marks[i]? = some m := by rw [← List.head?_drop, hd]; rfl
    have hx : (p.marks.map encM)[i]? = some (.agg [I m.sheet, I m.axis, I m.tru, I m.seen, I m.err]) := by rw [List.getElem?_map, hm]; rfl
    have hnm' : p.nm = false := by
      cases h : p.nm with
      | false => rfl
      | true => rw [hwf.1 h] at hlt; cases hlt
    have hlt' : (i : Int) < (p.marks.length : Int) := by omega
    have hlen := hwf.2.2.1
    have hw3 : IntKind.i64.wrap ((i : Int) + 1) = ((i + 1 : Nat) : Int) := by rw [wrap_i64 (by omega) (by omega)]; omega
    have hok' := o5 m (List.mem_of_getElem? hm)
    simp [markOK, zz, isAxis, isSeen] at hok'
    have hs2 : IntKind.i64.wrap (m.seen + m.err) = m.seen + m.err := wrap_i64 (by omega) (by omega)
    have hs3 : IntKind.i64.wrap (m.seen - m.err) = m.seen - m.err := wrap_i64 (by omega) (by omega)
    have e1 := t74 (m.seen + m.err) m.tru (by omega) (by omega) (by omega) (by omega)
    have e2 := t74 m.tru (m.seen - m.err) (by omega) (by omega) (by omega) (by omega)
    have hr1 : (1 + m.sheet = 0) = False := by simp; omega
    have hr2 : 1 + m.sheet - 1 = m.sheet := by omega
    have hlm' : ((p.marks.map encM).length : Int) = (p.marks.length : Int) := by simp
    cases es with
    | nil =>
      rw [List.nil_append] at h
      simp only [gD, gO, gN]
      by_cases hax : m.axis = ax
      · have hax1 : (m.axis == ax) = true := by simp [hax]
        refine zh ?_
        try dsimp only [lp109_4, zv, zm, Tryd.f109]
        simp only [bW, if_true, Nat.reduceEqDiff, if_false]
        repeat' first | (intro hb; first | cases hb | skip) | ((first | apply z8 | apply zd); (· rfl); (· simp (disch := assumption) only [go_sem, Nat.reduceEqDiff, Nat.reduceAdd, bP, ze, Nat.reduceLeDiff, Nat.reduceLT, Nat.reduceMul, List.length_append, decide_eq_true_eq, z6, z0, Int.reduceToNat, Int.reduceLE, Int.reduceLT, Int.reduceBNe, Int.reduceBEq, hlm', List.length_map, hx, hnm', hlt', hw3, hax1, Nat.zero_lt_succ, hs2, hs3, e1, e2]; rfl); (· simp only [go_sem, Nat.reduceLT, Nat.reduceEqDiff]; rfl); (· rfl); first | (apply zc; (· simp only [go_sem, Nat.reduceLT]; rfl); (· simp only [go_sem, Nat.reduceLT]; rfl)) | (apply zg; (· simp only [go_sem, Nat.reduceLT]; rfl))) | ((first | apply za | apply zb); (· rfl); (· simp only [go_sem, Nat.reduceLT]; rfl)) | (apply z9; (· simp only [go_sem, Nat.reduceEqDiff])) | (apply z7; (· simp only [go_sem, Nat.reduceEqDiff])) | (apply zf; (· kernel_rfl); (· kernel_rfl)) | (simp only [bW, if_true, Nat.reduceEqDiff, if_false])
        refine zn (st1 := ⟨149, [(1, I ax), (2, .lref 0 0 3 0), (5, I p.sheets), (6, gD 1 7 (([]) ++ (markE m i).map (refOf p.sheets))), (7, I (i + 1 : Nat))], (0, ⟨[zj p], 3, false⟩) :: gO 1 7 encY (([]) ++ (markE m i).map (refOf p.sheets)), gN 1 (([]) ++ (markE m i).map (refOf p.sheets)), 0⟩) lk109_4 (by
          simp only [go_sem, List.map_append, Nat.reduceEqDiff, Nat.reduceLT, Nat.reduceAdd, bI, bD, bI2, okY.renL, okY.idsL, okY.idsL_app, gD, gO, gN, zj, encY, markE, refOf, List.length_append, List.append_assoc, hr1, hr2]
          try rfl) (ih (i + 1) (([]) ++ (markE m i).map (refOf p.sheets)) (by rw [← List.drop_drop, hd]; rfl) hlt (by simp [markE] at he ⊢; omega) (by simp only [marksE, hax, if_true, if_false] at h; simpa using h))
      · have hax0 : (m.axis == ax) = false := by simp [hax]
        refine zh ?_
        try dsimp only [lp109_4, zv, zm, Tryd.f109]
        simp only [bW, if_true, Nat.reduceEqDiff, if_false]
        repeat' first | (intro hb; first | cases hb | skip) | ((first | apply z8 | apply zd); (· rfl); (· simp (disch := assumption) only [go_sem, Nat.reduceEqDiff, Nat.reduceAdd, bP, ze, Nat.reduceLeDiff, Nat.reduceLT, Nat.reduceMul, List.length_append, decide_eq_true_eq, z6, z0, Int.reduceToNat, Int.reduceLE, Int.reduceLT, Int.reduceBNe, Int.reduceBEq, hlm', List.length_map, hx, hnm', hlt', hw3, hax0, Nat.zero_lt_succ, hs2, hs3, e1, e2]; rfl); (· simp only [go_sem, Nat.reduceLT, Nat.reduceEqDiff]; rfl); (· rfl); first | (apply zc; (· simp only [go_sem, Nat.reduceLT]; rfl); (· simp only [go_sem, Nat.reduceLT]; rfl)) | (apply zg; (· simp only [go_sem, Nat.reduceLT]; rfl))) | ((first | apply za | apply zb); (· rfl); (· simp only [go_sem, Nat.reduceLT]; rfl)) | (apply z9; (· simp only [go_sem, Nat.reduceEqDiff])) | (apply z7; (· simp only [go_sem, Nat.reduceEqDiff])) | (apply zf; (· kernel_rfl); (· kernel_rfl)) | (simp only [bW, if_true, Nat.reduceEqDiff, if_false])
        refine zn (st1 := ⟨149, [(1, I ax), (2, .lref 0 0 3 0), (5, I p.sheets), (6, gD 1 7 ([])), (7, I (i + 1 : Nat))], (0, ⟨[zj p], 3, false⟩) :: gO 1 7 encY ([]), gN 1 ([]), 0⟩) lk109_4 (by
          simp only [go_sem, List.map_append, Nat.reduceEqDiff, Nat.reduceLT, Nat.reduceAdd, bI, bD, bI2, okY.renL, okY.idsL, okY.idsL_app, gD, gO, gN, zj, encY, markE, refOf, List.length_append, List.append_assoc, hr1, hr2]
          try rfl) (ih (i + 1) ([]) (by rw [← List.drop_drop, hd]; rfl) hlt (by simp [markE] at he ⊢; omega) (by simp only [marksE, hax, if_true, if_false] at h; exact h))
    | cons e r =>
      simp only [List.length_cons] at he
      have hle : (r.length + 1 + 1 ≤ r.length + 1) = False := by simp
      have hb1 : ((r.length + 1 + 1) * 56 ≤ big) = True := by simp [big]; omega
      have hb2 : (r.length + 1 + 1 ≤ big) = True := by simp [big]; omega
      have hle2 : (r.length + 1 + 1 + 1 ≤ r.length + 1 + 1) = False := by simp
      have hb12 : ((r.length + 1 + 1 + 1) * 56 ≤ big) = True := by simp [big]; omega
      have hb22 : (r.length + 1 + 1 + 1 ≤ big) = True := by simp [big]; omega
      have hao : allOk 7 (encY e :: List.map encY r) = true := okY.allOk (e :: r)
      have hao2 : ∀ d, allOk 7 (encY e :: (List.map encY r ++ [d])) = (d.okCells && (decide (d.cells.length = 7) && true)) := by
        intro d
        rw [← List.cons_append, ← List.map_cons, allOk_append, okY.allOk (e :: r)]
        simp [allOk]
      simp only [gD, gO, gN, List.map_cons]
      by_cases hax : m.axis = ax
      · have hax1 : (m.axis == ax) = true := by simp [hax]
        refine zh ?_
        try dsimp only [lp109_4, zv, zm, Tryd.f109]
        simp only [bW, if_true, Nat.reduceEqDiff, if_false]
        repeat' first | (intro hb; first | cases hb | skip) | ((first | apply z8 | apply zd); (· rfl); (· simp (disch := assumption) only [go_sem, Nat.reduceEqDiff, Nat.reduceAdd, bP, ze, Nat.reduceLeDiff, Nat.reduceLT, Nat.reduceMul, List.length_append, decide_eq_true_eq, z6, z0, Int.reduceToNat, Int.reduceLE, Int.reduceLT, Int.reduceBNe, Int.reduceBEq, hlm', List.length_map, hx, hnm', hlt', hw3, hax1, Nat.zero_lt_succ, hs2, hs3, e1, e2, hle, hb1, hb2, hao, hle2, hb12, hb22, hao2, okY.allOk]; rfl); (· simp only [go_sem, Nat.reduceLT, Nat.reduceEqDiff]; rfl); (· rfl); first | (apply zc; (· simp only [go_sem, Nat.reduceLT]; rfl); (· simp only [go_sem, Nat.reduceLT]; rfl)) | (apply zg; (· simp only [go_sem, Nat.reduceLT]; rfl))) | ((first | apply za | apply zb); (· rfl); (· simp only [go_sem, Nat.reduceLT]; rfl)) | (apply z9; (· simp only [go_sem, Nat.reduceEqDiff])) | (apply z7; (· simp only [go_sem, Nat.reduceEqDiff])) | (apply zf; (· kernel_rfl); (· kernel_rfl)) | (simp only [bW, if_true, Nat.reduceEqDiff, if_false])
        refine zn (st1 := ⟨149, [(1, I ax), (2, .lref 0 0 3 0), (5, I p.sheets), (6, gD 1 7 ((e :: r) ++ (markE m i).map (refOf p.sheets))), (7, I (i + 1 : Nat))], (0, ⟨[zj p], 3, false⟩) :: gO 1 7 encY ((e :: r) ++ (markE m i).map (refOf p.sheets)), gN 1 ((e :: r) ++ (markE m i).map (refOf p.sheets)), 0⟩) lk109_4 (by
          simp only [go_sem, List.map_append, Nat.reduceEqDiff, Nat.reduceLT, Nat.reduceAdd, bI, bD, bI2, okY.renL, okY.idsL, okY.idsL_app, gD, gO, gN, zj, encY, markE, refOf, List.length_append, List.append_assoc, hr1, hr2]
          try rfl) (ih (i + 1) ((e :: r) ++ (markE m i).map (refOf p.sheets)) (by rw [← List.drop_drop, hd]; rfl) hlt (by simp [markE] at he ⊢; omega) (by simp only [marksE, hax, if_true, if_false] at h; simpa using h))
      · have hax0 : (m.axis == ax) = false := by simp [hax]
        refine zh ?_
        try dsimp only [lp109_4, zv, zm, Tryd.f109]
        simp only [bW, if_true, Nat.reduceEqDiff, if_false]
        repeat' first | (intro hb; first | cases hb | skip) | ((first | apply z8 | apply zd); (· rfl); (· simp (disch := assumption) only [go_sem, Nat.reduceEqDiff, Nat.reduceAdd, bP, ze, Nat.reduceLeDiff, Nat.reduceLT, Nat.reduceMul, List.length_append, decide_eq_true_eq, z6, z0, Int.reduceToNat, Int.reduceLE, Int.reduceLT, Int.reduceBNe, Int.reduceBEq, hlm', List.length_map, hx, hnm', hlt', hw3, hax0, Nat.zero_lt_succ, hs2, hs3, e1, e2, hle, hb1, hb2, hao, hle2, hb12, hb22, hao2, okY.allOk]; rfl); (· simp only [go_sem, Nat.reduceLT, Nat.reduceEqDiff]; rfl); (· rfl); first | (apply zc; (· simp only [go_sem, Nat.reduceLT]; rfl); (· simp only [go_sem, Nat.reduceLT]; rfl)) | (apply zg; (· simp only [go_sem, Nat.reduceLT]; rfl))) | ((first | apply za | apply zb); (· rfl); (· simp only [go_sem, Nat.reduceLT]; rfl)) | (apply z9; (· simp only [go_sem, Nat.reduceEqDiff])) | (apply z7; (· simp only [go_sem, Nat.reduceEqDiff])) | (apply zf; (· kernel_rfl); (· kernel_rfl)) | (simp only [bW, if_true, Nat.reduceEqDiff, if_false])
        refine zn (st1 := ⟨149, [(1, I ax), (2, .lref 0 0 3 0), (5, I p.sheets), (6, gD 1 7 (e :: r)), (7, I (i + 1 : Nat))], (0, ⟨[zj p], 3, false⟩) :: gO 1 7 encY (e :: r), gN 1 (e :: r), 0⟩) lk109_4 (by
          simp only [go_sem, List.map_append, Nat.reduceEqDiff, Nat.reduceLT, Nat.reduceAdd, bI, bD, bI2, okY.renL, okY.idsL, okY.idsL_app, gD, gO, gN, zj, encY, markE, refOf, List.length_append, List.append_assoc, hr1, hr2]
          try rfl) (ih (i + 1) (e :: r) (by rw [← List.drop_drop, hd]; rfl) hlt (by simp [markE] at he ⊢; omega) (by simp only [marksE, hax, if_true, if_false] at h; exact h))

theorem L109_11 {F : Exit → St → Option D} (p : Paper) (ax : Int) (k : List Kt) (x : D) (hwf : p.wf) (hok : zu p = true) : ∀ (rest : List Join) (i : Nat) (es : List Edge), p.joins.drop i = rest → i ≤ p.joins.length → es.length + 2 * rest.length ≤ 1000 →
    (zB cfg (lim cfg) 109 F k (.exit 2) ⟨149, [(68, B false), (67, I p.joins.length), (66, .sl p.nj (p.joins.map zO) (zs p.nj 7) none), (65, .lref 0 0 3 2), (64, I (p.joins.length : Nat)), (1, I ax), (2, .lref 0 0 3 0), (5, I p.sheets), (6, gD 1 7 (es ++ (joinsE ax rest i).map (refOf p.sheets))), (9, I (p.joins.length : Nat))], (0, ⟨[zj p], 3, false⟩) :: gO 1 7 encY (es ++ (joinsE ax rest i).map (refOf p.sheets)), gN 1 (es ++ (joinsE ax rest i).map (refOf p.sheets)), 0⟩ = some x) →
    EvL cfg (lim cfg) 109 F lp109_11 k ⟨149, [(1, I ax), (2, .lref 0 0 3 0), (5, I p.sheets), (6, gD 1 7 (es)), (9, I (i : Nat))], (0, ⟨[zj p], 3, false⟩) :: gO 1 7 encY (es), gN 1 (es), 0⟩ = some x := by
  have hlm := len_if (f := zO) hwf.2.1
  obtain ⟨o1, o2, -, -, o5, o6⟩ := zA hok
  intro rest
  induction rest with
  | nil =>
    intro i es hd hi he h
    have hi' : i = p.joins.length := by
      have := List.drop_eq_nil_iff.1 hd
      omega
    subst hi'
    simp only [joinsE, List.map_nil, List.append_nil] at h
    refine zh ?_
    try dsimp only [lp109_11, zv, zm, Tryd.f109]
    simp only [bW, if_true, Nat.reduceEqDiff, if_false]
    repeat' first | (intro hb; first | cases hb | skip) | ((first | apply z8 | apply zd); (· rfl); (· simp (disch := assumption) only [go_sem, Nat.reduceEqDiff, Nat.reduceAdd, bP, ze, Nat.reduceLeDiff, Nat.reduceLT, Nat.reduceMul, List.length_append, decide_eq_true_eq, z6, z0, Int.reduceToNat, Int.reduceLE, Int.reduceLT, Int.reduceBNe, Int.reduceBEq, hlm, Int.lt_irrefl]; rfl); (· simp only [go_sem, Nat.reduceLT, Nat.reduceEqDiff]; rfl); (· rfl); first | (apply zc; (· simp only [go_sem, Nat.reduceLT]; rfl); (· simp only [go_sem, Nat.reduceLT]; rfl)) | (apply zg; (· simp only [go_sem, Nat.reduceLT]; rfl))) | ((first | apply za | apply zb); (· rfl); (· simp only [go_sem, Nat.reduceLT]; rfl)) | (apply z9; (· simp only [go_sem, Nat.reduceEqDiff])) | (apply z7; (· simp only [go_sem, Nat.reduceEqDiff])) | (apply zf; (· kernel_rfl); (· kernel_rfl)) | (simp only [bW, if_true, Nat.reduceEqDiff, if_false])
    exact h
  | cons m rest ih =>
    intro i es hd hi he h
    have hlt : i < p.joins.length := by
      rcases Nat.lt_or_ge i p.joins.length with h | h
      · exact h
      · rw [List.drop_eq_nil_of_le h] at hd; cases hd
    have hm : p.joins[i]? = some m := by rw [← List.head?_drop, hd]; rfl
    have hx : (p.joins.map zO)[i]? = some (.agg [I m.a, I m.b, I m.axis, I m.seenA, I m.errA, I m.seenB, I m.errB]) := by rw [List.getElem?_map, hm]; rfl
    have hnm' : p.nj = false := by
      cases h : p.nj with
      | false => rfl
      | true => rw [hwf.2.1 h] at hlt; cases hlt
    have hlt' : (i : Int) < (p.joins.length : Int) := by omega
    have hlen := hwf.2.2.2
    have hw3 : IntKind.i64.wrap ((i : Int) + 1) = ((i + 1 : Nat) : Int) := by rw [wrap_i64 (by omega) (by omega)]; omega
    have hok' := o6 m (List.mem_of_getElem? hm)
    simp [joinOK, zz, isAxis, isSeen] at hok'
    have hs2 : IntKind.i64.wrap (m.seenA + m.errA) = m.seenA + m.errA := wrap_i64 (by omega) (by omega)
    have hs3 : IntKind.i64.wrap (m.seenB - m.errB) = m.seenB - m.errB := wrap_i64 (by omega) (by omega)
    have hs4 : IntKind.i64.wrap (m.seenB + m.errB) = m.seenB + m.errB := wrap_i64 (by omega) (by omega)
    have hs5 : IntKind.i64.wrap (m.seenA - m.errA) = m.seenA - m.errA := wrap_i64 (by omega) (by omega)
    have e1 := t74 (m.seenA + m.errA) (m.seenB - m.errB) (by omega) (by omega) (by omega) (by omega)
    have e2 := t74 (m.seenB + m.errB) (m.seenA - m.errA) (by omega) (by omega) (by omega) (by omega)
    have hr1 : (1 + m.a = 0) = False := by simp; omega
    have hr2 : 1 + m.a - 1 = m.a := by omega
    have hr3 : (1 + m.b = 0) = False := by simp; omega
    have hr4 : 1 + m.b - 1 = m.b := by omega
    have hlm' : ((p.joins.map zO).length : Int) = (p.joins.length : Int) := by simp
    cases es with
    | nil =>
      rw [List.nil_append] at h
      simp only [gD, gO, gN]
      by_cases hax : m.axis = ax
      · have hax1 : (m.axis == ax) = true := by simp [hax]
        refine zh ?_
        try dsimp only [lp109_11, zv, zm, Tryd.f109]
        simp only [bW, if_true, Nat.reduceEqDiff, if_false]
        repeat' first | (intro hb; first | cases hb | skip) | ((first | apply z8 | apply zd); (· rfl); (· simp (disch := assumption) only [go_sem, Nat.reduceEqDiff, Nat.reduceAdd, bP, ze, Nat.reduceLeDiff, Nat.reduceLT, Nat.reduceMul, List.length_append, decide_eq_true_eq, z6, z0, Int.reduceToNat, Int.reduceLE, Int.reduceLT, Int.reduceBNe, Int.reduceBEq, hlm', List.length_map, hx, hnm', hlt', hw3, hax1, Nat.zero_lt_succ, hs2, hs3, hs4, hs5, e1, e2]; rfl); (· simp only [go_sem, Nat.reduceLT, Nat.reduceEqDiff]; rfl); (· rfl); first | (apply zc; (· simp only [go_sem, Nat.reduceLT]; rfl); (· simp only [go_sem, Nat.reduceLT]; rfl)) | (apply zg; (· simp only [go_sem, Nat.reduceLT]; rfl))) | ((first | apply za | apply zb); (· rfl); (· simp only [go_sem, Nat.reduceLT]; rfl)) | (apply z9; (· simp only [go_sem, Nat.reduceEqDiff])) | (apply z7; (· simp only [go_sem, Nat.reduceEqDiff])) | (apply zf; (· kernel_rfl); (· kernel_rfl)) | (simp only [bW, if_true, Nat.reduceEqDiff, if_false])
        refine zn (st1 := ⟨149, [(1, I ax), (2, .lref 0 0 3 0), (5, I p.sheets), (6, gD 1 7 (([]) ++ (joinE m i).map (refOf p.sheets))), (9, I (i + 1 : Nat))], (0, ⟨[zj p], 3, false⟩) :: gO 1 7 encY (([]) ++ (joinE m i).map (refOf p.sheets)), gN 1 (([]) ++ (joinE m i).map (refOf p.sheets)), 0⟩) lk109_11 (by
          simp only [go_sem, List.map_append, Nat.reduceEqDiff, Nat.reduceLT, Nat.reduceAdd, bI, bD, bI2, okY.renL, okY.idsL, okY.idsL_app, gD, gO, gN, zj, encY, joinE, refOf, List.length_append, List.append_assoc, hr1, hr2, hr3, hr4]
          try rfl) (ih (i + 1) (([]) ++ (joinE m i).map (refOf p.sheets)) (by rw [← List.drop_drop, hd]; rfl) hlt (by simp [joinE] at he ⊢; omega) (by simp only [joinsE, hax, if_true, if_false] at h; simpa using h))
      · have hax0 : (m.axis == ax) = false := by simp [hax]
        refine zh ?_
        try dsimp only [lp109_11, zv, zm, Tryd.f109]
        simp only [bW, if_true, Nat.reduceEqDiff, if_false]
        repeat' first | (intro hb; first | cases hb | skip) | ((first | apply z8 | apply zd); (· rfl); (· simp (disch := assumption) only [go_sem, Nat.reduceEqDiff, Nat.reduceAdd, bP, ze, Nat.reduceLeDiff, Nat.reduceLT, Nat.reduceMul, List.length_append, decide_eq_true_eq, z6, z0, Int.reduceToNat, Int.reduceLE, Int.reduceLT, Int.reduceBNe, Int.reduceBEq, hlm', List.length_map, hx, hnm', hlt', hw3, hax0, Nat.zero_lt_succ, hs2, hs3, hs4, hs5, e1, e2]; rfl); (· simp only [go_sem, Nat.reduceLT, Nat.reduceEqDiff]; rfl); (· rfl); first | (apply zc; (· simp only [go_sem, Nat.reduceLT]; rfl); (· simp only [go_sem, Nat.reduceLT]; rfl)) | (apply zg; (· simp only [go_sem, Nat.reduceLT]; rfl))) | ((first | apply za | apply zb); (· rfl); (· simp only [go_sem, Nat.reduceLT]; rfl)) | (apply z9; (· simp only [go_sem, Nat.reduceEqDiff])) | (apply z7; (· simp only [go_sem, Nat.reduceEqDiff])) | (apply zf; (· kernel_rfl); (· kernel_rfl)) | (simp only [bW, if_true, Nat.reduceEqDiff, if_false])
        refine zn (st1 := ⟨149, [(1, I ax), (2, .lref 0 0 3 0), (5, I p.sheets), (6, gD 1 7 ([])), (9, I (i + 1 : Nat))], (0, ⟨[zj p], 3, false⟩) :: gO 1 7 encY ([]), gN 1 ([]), 0⟩) lk109_11 (by
          simp only [go_sem, List.map_append, Nat.reduceEqDiff, Nat.reduceLT, Nat.reduceAdd, bI, bD, bI2, okY.renL, okY.idsL, okY.idsL_app, gD, gO, gN, zj, encY, joinE, refOf, List.length_append, List.append_assoc, hr1, hr2, hr3, hr4]
          try rfl) (ih (i + 1) ([]) (by rw [← List.drop_drop, hd]; rfl) hlt (by simp [joinE] at he ⊢; omega) (by simp only [joinsE, hax, if_true, if_false] at h; exact h))
    | cons e r =>
      simp only [List.length_cons] at he
      have hle : (r.length + 1 + 1 ≤ r.length + 1) = False := by simp
      have hb1 : ((r.length + 1 + 1) * 56 ≤ big) = True := by simp [big]; omega
      have hb2 : (r.length + 1 + 1 ≤ big) = True := by simp [big]; omega
      have hle2 : (r.length + 1 + 1 + 1 ≤ r.length + 1 + 1) = False := by simp
      have hb12 : ((r.length + 1 + 1 + 1) * 56 ≤ big) = True := by simp [big]; omega
      have hb22 : (r.length + 1 + 1 + 1 ≤ big) = True := by simp [big]; omega
      have hao : allOk 7 (encY e :: List.map encY r) = true := okY.allOk (e :: r)
      have hao2 : ∀ d, allOk 7 (encY e :: (List.map encY r ++ [d])) = (d.okCells && (decide (d.cells.length = 7) && true)) := by
        intro d
        rw [← List.cons_append, ← List.map_cons, allOk_append, okY.allOk (e :: r)]
        simp [allOk]
      simp only [gD, gO, gN, List.map_cons]
      by_cases hax : m.axis = ax
      · have hax1 : (m.axis == ax) = true := by simp [hax]
        refine zh ?_
        try dsimp only [lp109_11, zv, zm, Tryd.f109]
        simp only [bW, if_true, Nat.reduceEqDiff, if_false]
        repeat' first | (intro hb; first | cases hb | skip) | ((first | apply z8 | apply zd); (· rfl); (· simp (disch := assumption) only [go_sem, Nat.reduceEqDiff, Nat.reduceAdd, bP, ze, Nat.reduceLeDiff, Nat.reduceLT, Nat.reduceMul, List.length_append, decide_eq_true_eq, z6, z0, Int.reduceToNat, Int.reduceLE, Int.reduceLT, Int.reduceBNe, Int.reduceBEq, hlm', List.length_map, hx, hnm', hlt', hw3, hax1, Nat.zero_lt_succ, hs2, hs3, hs4, hs5, e1, e2, hle, hb1, hb2, hao, hle2, hb12, hb22, hao2, okY.allOk]; rfl); (· simp only [go_sem, Nat.reduceLT, Nat.reduceEqDiff]; rfl); (· rfl); first | (apply zc; (· simp only [go_sem, Nat.reduceLT]; rfl); (· simp only [go_sem, Nat.reduceLT]; rfl)) | (apply zg; (· simp only [go_sem, Nat.reduceLT]; rfl))) | ((first | apply za | apply zb); (· rfl); (· simp only [go_sem, Nat.reduceLT]; rfl)) | (apply z9; (· simp only [go_sem, Nat.reduceEqDiff])) | (apply z7; (· simp only [go_sem, Nat.reduceEqDiff])) | (apply zf; (· kernel_rfl); (· kernel_rfl)) | (simp only [bW, if_true, Nat.reduceEqDiff, if_false])
        refine zn (st1 := ⟨149, [(1, I ax), (2, .lref 0 0 3 0), (5, I p.sheets), (6, gD 1 7 ((e :: r) ++ (joinE m i).map (refOf p.sheets))), (9, I (i + 1 : Nat))], (0, ⟨[zj p], 3, false⟩) :: gO 1 7 encY ((e :: r) ++ (joinE m i).map (refOf p.sheets)), gN 1 ((e :: r) ++ (joinE m i).map (refOf p.sheets)), 0⟩) lk109_11 (by
          simp only [go_sem, List.map_append, Nat.reduceEqDiff, Nat.reduceLT, Nat.reduceAdd, bI, bD, bI2, okY.renL, okY.idsL, okY.idsL_app, gD, gO, gN, zj, encY, joinE, refOf, List.length_append, List.append_assoc, hr1, hr2, hr3, hr4]
          try rfl) (ih (i + 1) ((e :: r) ++ (joinE m i).map (refOf p.sheets)) (by rw [← List.drop_drop, hd]; rfl) hlt (by simp [joinE] at he ⊢; omega) (by simp only [joinsE, hax, if_true, if_false] at h; simpa using h))
      · have hax0 : (m.axis == ax) = false := by simp [hax]
        refine zh ?_
        try dsimp only [lp109_11, zv, zm, Tryd.f109]
        simp only [bW, if_true, Nat.reduceEqDiff, if_false]
        repeat' first | (intro hb; first | cases hb | skip) | ((first | apply z8 | apply zd); (· rfl); (· simp (disch := assumption) only [go_sem, Nat.reduceEqDiff, Nat.reduceAdd, bP, ze, Nat.reduceLeDiff, Nat.reduceLT, Nat.reduceMul, List.length_append, decide_eq_true_eq, z6, z0, Int.reduceToNat, Int.reduceLE, Int.reduceLT, Int.reduceBNe, Int.reduceBEq, hlm', List.length_map, hx, hnm', hlt', hw3, hax0, Nat.zero_lt_succ, hs2, hs3, hs4, hs5, e1, e2, hle, hb1, hb2, hao, hle2, hb12, hb22, hao2, okY.allOk]; rfl); (· simp only [go_sem, Nat.reduceLT, Nat.reduceEqDiff]; rfl); (· rfl); first | (apply zc; (· simp only [go_sem, Nat.reduceLT]; rfl); (· simp only [go_sem, Nat.reduceLT]; rfl)) | (apply zg; (· simp only [go_sem, Nat.reduceLT]; rfl))) | ((first | apply za | apply zb); (· rfl); (· simp only [go_sem, Nat.reduceLT]; rfl)) | (apply z9; (· simp only [go_sem, Nat.reduceEqDiff])) | (apply z7; (· simp only [go_sem, Nat.reduceEqDiff])) | (apply zf; (· kernel_rfl); (· kernel_rfl)) | (simp only [bW, if_true, Nat.reduceEqDiff, if_false])
        refine zn (st1 := ⟨149, [(1, I ax), (2, .lref 0 0 3 0), (5, I p.sheets), (6, gD 1 7 (e :: r)), (9, I (i + 1 : Nat))], (0, ⟨[zj p], 3, false⟩) :: gO 1 7 encY (e :: r), gN 1 (e :: r), 0⟩) lk109_11 (by
          simp only [go_sem, List.map_append, Nat.reduceEqDiff, Nat.reduceLT, Nat.reduceAdd, bI, bD, bI2, okY.renL, okY.idsL, okY.idsL_app, gD, gO, gN, zj, encY, joinE, refOf, List.length_append, List.append_assoc, hr1, hr2, hr3, hr4]
          try rfl) (ih (i + 1) (e :: r) (by rw [← List.drop_drop, hd]; rfl) hlt (by simp [joinE] at he ⊢; omega) (by simp only [joinsE, hax, if_true, if_false] at h; exact h))

theorem L109_18 {F : Exit → St → Option D} (p : Paper) (k : List Kt) (x : D) (hok : zu p = true) : ∀ (m i : Nat) (es : List Edge), (i : Int) + m = p.sheets → es.length + 2 * m ≤ 1000 →
    (zB cfg (lim cfg) 109 F k (.exit 4) ⟨149, [(125, B false), (124, I p.sheets), (123, .lref 0 0 3 0), (122, I (i + m : Nat)), (2, .lref 0 0 3 0), (5, I p.sheets), (6, gD 1 7 (es ++ ((List.range' i m).flatMap sheetE).map (refOf p.sheets))), (11, I (i + m : Nat))], (0, ⟨[zj p], 3, false⟩) :: gO 1 7 encY (es ++ ((List.range' i m).flatMap sheetE).map (refOf p.sheets)), gN 1 (es ++ ((List.range' i m).flatMap sheetE).map (refOf p.sheets)), 0⟩ = some x) →
    EvL cfg (lim cfg) 109 F lp109_18 k ⟨149, [(2, .lref 0 0 3 0), (5, I p.sheets), (6, gD 1 7 (es)), (11, I (i : Nat))], (0, ⟨[zj p], 3, false⟩) :: gO 1 7 encY (es), gN 1 (es), 0⟩ = some x := by
  obtain ⟨o1, o2, -⟩ := zA hok
  intro m
  induction m with
  | zero =>
    intro i es hi he h
    have hi' : ((i : Int) < p.sheets) = False := by simp; omega
    simp only [List.range'_zero, List.flatMap_nil, List.map_nil, List.append_nil, Nat.add_zero] at h
    refine zh ?_
    try dsimp only [lp109_18, zv, zm, Tryd.f109]
    simp only [bW, if_true, Nat.reduceEqDiff, if_false]
    repeat' first | (intro hb; first | cases hb | skip) | ((first | apply z8 | apply zd); (· rfl); (· simp (disch := assumption) only [go_sem, Nat.reduceEqDiff, Nat.reduceAdd, bP, ze, Nat.reduceLeDiff, Nat.reduceLT, Nat.reduceMul, List.length_append, decide_eq_true_eq, z6, z0, Int.reduceToNat, Int.reduceLE, Int.reduceLT, Int.reduceBNe, Int.reduceBEq, hi']; rfl); (· simp only [go_sem, Nat.reduceLT, Nat.reduceEqDiff]; rfl); (· rfl); first | (apply zc; (· simp only [go_sem, Nat.reduceLT]; rfl); (· simp only [go_sem, Nat.reduceLT]; rfl)) | (apply zg; (· simp only [go_sem, Nat.reduceLT]; rfl))) | ((first | apply za | apply zb); (· rfl); (· simp only [go_sem, Nat.reduceLT]; rfl)) | (apply z9; (· simp only [go_sem, Nat.reduceEqDiff])) | (apply z7; (· simp only [go_sem, Nat.reduceEqDiff])) | (apply zf; (· kernel_rfl); (· kernel_rfl)) | (simp only [bW, if_true, Nat.reduceEqDiff, if_false])
    exact h
  | succ m ih =>
    intro i es hi he h
    have hlt' : ((i : Int) < p.sheets) = True := by simp; omega
    have hw2 : IntKind.i64.wrap (-1 - (i : Int)) = -1 - (i : Int) := wrap_i64 (by omega) (by omega)
    have hw3 : IntKind.i64.wrap ((i : Int) + 1) = ((i + 1 : Nat) : Int) := by rw [wrap_i64 (by omega) (by omega)]; omega
    have hr1 : (1 + (i : Int) = 0) = False := by simp; omega
    have hr2 : 1 + (i : Int) - 1 = i := by omega
    have hr3 : lowR 2 1 = ⟨2, 1⟩ := rfl
    rw [show i + (m + 1) = i + 1 + m by omega] at h
    cases es with
    | nil =>
      rw [List.nil_append] at h
      simp only [gD, gO, gN]
      refine zh ?_
      try dsimp only [lp109_18, zv, zm, Tryd.f109]
      simp only [bW, if_true, Nat.reduceEqDiff, if_false]
      repeat' first | (intro hb; first | cases hb | skip) | ((first | apply z8 | apply zd); (· rfl); (· simp (disch := assumption) only [go_sem, Nat.reduceEqDiff, Nat.reduceAdd, bP, ze, Nat.reduceLeDiff, Nat.reduceLT, Nat.reduceMul, List.length_append, decide_eq_true_eq, z6, z0, Int.reduceToNat, Int.reduceLE, Int.reduceLT, Int.reduceBNe, Int.reduceBEq, hlt', hw2, hw3, Nat.zero_lt_succ]; rfl); (· simp only [go_sem, Nat.reduceLT, Nat.reduceEqDiff]; rfl); (· rfl); first | (apply zc; (· simp only [go_sem, Nat.reduceLT]; rfl); (· simp only [go_sem, Nat.reduceLT]; rfl)) | (apply zg; (· simp only [go_sem, Nat.reduceLT]; rfl))) | ((first | apply za | apply zb); (· rfl); (· simp only [go_sem, Nat.reduceLT]; rfl)) | (apply z9; (· simp only [go_sem, Nat.reduceEqDiff])) | (apply z7; (· simp only [go_sem, Nat.reduceEqDiff])) | (apply zf; (· kernel_rfl); (· kernel_rfl)) | (simp only [bW, if_true, Nat.reduceEqDiff, if_false])
      refine zn (st1 := ⟨149, [(2, .lref 0 0 3 0), (5, I p.sheets), (6, gD 1 7 (([]) ++ (sheetE i).map (refOf p.sheets))), (11, I (i + 1 : Nat))], (0, ⟨[zj p], 3, false⟩) :: gO 1 7 encY (([]) ++ (sheetE i).map (refOf p.sheets)), gN 1 (([]) ++ (sheetE i).map (refOf p.sheets)), 0⟩) lk109_18 (by
        simp only [go_sem, List.map_append, Nat.reduceEqDiff, Nat.reduceLT, Nat.reduceAdd, bI, bD, bI2, okY.renL, okY.idsL, okY.idsL_app, gD, gO, gN, zj, encY, sheetE, refOf, List.length_append, List.append_assoc, hr1, hr2, hr3]
        try rfl) (ih (i + 1) (([]) ++ (sheetE i).map (refOf p.sheets)) (by omega) (by simp [sheetE] at he ⊢; omega) (by rw [List.nil_append]; rw [List.range'_succ, List.flatMap_cons, List.map_append] at h; exact h))
    | cons e r =>
      simp only [List.length_cons] at he
      have hle : (r.length + 1 + 1 ≤ r.length + 1) = False := by simp
      have hb1 : ((r.length + 1 + 1) * 56 ≤ big) = True := by simp [big]; omega
      have hb2 : (r.length + 1 + 1 ≤ big) = True := by simp [big]; omega
      have hle2 : (r.length + 1 + 1 + 1 ≤ r.length + 1 + 1) = False := by simp
      have hb12 : ((r.length + 1 + 1 + 1) * 56 ≤ big) = True := by simp [big]; omega
      have hb22 : (r.length + 1 + 1 + 1 ≤ big) = True := by simp [big]; omega
      have hao : allOk 7 (encY e :: List.map encY r) = true := okY.allOk (e :: r)
      have hao2 : ∀ d, allOk 7 (encY e :: (List.map encY r ++ [d])) = (d.okCells && (decide (d.cells.length = 7) && true)) := by
        intro d
        rw [← List.cons_append, ← List.map_cons, allOk_append, okY.allOk (e :: r)]
        simp [allOk]
      simp only [gD, gO, gN, List.map_cons]
      refine zh ?_
      try dsimp only [lp109_18, zv, zm, Tryd.f109]
      simp only [bW, if_true, Nat.reduceEqDiff, if_false]
      repeat' first | (intro hb; first | cases hb | skip) | ((first | apply z8 | apply zd); (· rfl); (· simp (disch := assumption) only [go_sem, Nat.reduceEqDiff, Nat.reduceAdd, bP, ze, Nat.reduceLeDiff, Nat.reduceLT, Nat.reduceMul, List.length_append, decide_eq_true_eq, z6, z0, Int.reduceToNat, Int.reduceLE, Int.reduceLT, Int.reduceBNe, Int.reduceBEq, hlt', hw2, hw3, Nat.zero_lt_succ, hle, hb1, hb2, hao, hle2, hb12, hb22, hao2, okY.allOk, List.length_map]; rfl); (· simp only [go_sem, Nat.reduceLT, Nat.reduceEqDiff]; rfl); (· rfl); first | (apply zc; (· simp only [go_sem, Nat.reduceLT]; rfl); (· simp only [go_sem, Nat.reduceLT]; rfl)) | (apply zg; (· simp only [go_sem, Nat.reduceLT]; rfl))) | ((first | apply za | apply zb); (· rfl); (· simp only [go_sem, Nat.reduceLT]; rfl)) | (apply z9; (· simp only [go_sem, Nat.reduceEqDiff])) | (apply z7; (· simp only [go_sem, Nat.reduceEqDiff])) | (apply zf; (· kernel_rfl); (· kernel_rfl)) | (simp only [bW, if_true, Nat.reduceEqDiff, if_false])
      refine zn (st1 := ⟨149, [(2, .lref 0 0 3 0), (5, I p.sheets), (6, gD 1 7 ((e :: r) ++ (sheetE i).map (refOf p.sheets))), (11, I (i + 1 : Nat))], (0, ⟨[zj p], 3, false⟩) :: gO 1 7 encY ((e :: r) ++ (sheetE i).map (refOf p.sheets)), gN 1 ((e :: r) ++ (sheetE i).map (refOf p.sheets)), 0⟩) lk109_18 (by
        simp only [go_sem, List.map_append, Nat.reduceEqDiff, Nat.reduceLT, Nat.reduceAdd, bI, bD, bI2, okY.renL, okY.idsL, okY.idsL_app, gD, gO, gN, zj, encY, sheetE, refOf, List.length_append, List.append_assoc, hr1, hr2, hr3]
        try rfl) (ih (i + 1) ((e :: r) ++ (sheetE i).map (refOf p.sheets)) (by omega) (by simp [sheetE] at he ⊢; omega) (by rw [List.range'_succ, List.flatMap_cons, List.map_append, ← List.append_assoc] at h; exact h))

theorem refE_len {p : Paper} (hok : zu p = true) (ax : Int) : (refE p ax).length ≤ 1000 ∧ refE p ax ≠ [] := by
  obtain ⟨o1, o2, o3, o4, _⟩ := zA hok
  have h1 := marksE_len ax p.marks 0
  have h2 := joinsE_len ax p.joins 0
  have h3 := sheetsE_len p.sheets.toNat 0
  have hl : (refE p ax).length = (marksE ax p.marks 0).length + (joinsE ax p.joins 0).length + 2 * p.sheets.toNat := by
    unfold refE refB
    rw [List.length_map, List.length_append, List.length_append, h3]
  refine ⟨by omega, fun h => ?_⟩
  rw [h] at hl
  simp at hl
  omega
theorem t109 (p : Paper) (ax : Int) (hwf : p.wf) (hok : zu p = true) : (lim cfg).pure 109 [zj p, I ax] = some (.sl false ((refE p ax).map encY) 7 none) := by
  obtain ⟨o1, o2, o3, o4, _⟩ := zA hok
  obtain ⟨n, hn⟩ := Int.eq_ofNat_of_zero_le (show 0 ≤ p.sheets by omega)
  have h1 := marksE_len ax p.marks 0
  have h2 := joinsE_len ax p.joins 0
  refine zo (zk 109) cfn109 rfl (n := 149) rfl ?_
  generalize hF : finP cfg Tryd.f109 = F
  simp only [bW, if_true, Nat.reduceEqDiff, if_false, zl]
  repeat' first | (intro hb; first | cases hb | skip) | ((first | apply z8 | apply zd); (· rfl); (· simp (disch := assumption) only [go_sem, Nat.reduceEqDiff, Nat.reduceAdd, bP, ze, Nat.reduceLeDiff, Nat.reduceLT, Nat.reduceMul, List.length_append, decide_eq_true_eq, z6, z0, Int.reduceToNat, Int.reduceLE, Int.reduceLT, Int.reduceBNe, Int.reduceBEq]; rfl); (· simp only [go_sem, Nat.reduceLT, Nat.reduceEqDiff]; rfl); (· rfl); first | (apply zc; (· simp only [go_sem, Nat.reduceLT]; rfl); (· simp only [go_sem, Nat.reduceLT]; rfl)) | (apply zg; (· simp only [go_sem, Nat.reduceLT]; rfl))) | ((first | apply za | apply zb); (· rfl); (· simp only [go_sem, Nat.reduceLT]; rfl)) | (apply z9; (· simp only [go_sem, Nat.reduceEqDiff])) | (apply z7; (· simp only [go_sem, Nat.reduceEqDiff])) | (apply zf; (· kernel_rfl); (· kernel_rfl)) | (simp only [bW, if_true, Nat.reduceEqDiff, if_false])
  refine zK (st1 := ⟨149, [(1, I ax), (2, .lref 0 0 3 0), (5, I p.sheets), (6, gD 1 7 ([])), (7, I (0 : Nat))], (0, ⟨[zj p], 3, false⟩) :: gO 1 7 encY ([]), gN 1 ([]), 0⟩) lk109_4 (by
    simp only [go_sem, List.map_append, Nat.reduceEqDiff, Nat.reduceLT, Nat.reduceAdd, bI, bD, bI2, gD, gO, gN]
    try rfl) (L109_4 p ax _ _ hwf hok p.marks 0 [] rfl (Nat.zero_le _) (by simp; omega) ?_)
  rw [List.nil_append]
  generalize hA : (marksE ax p.marks 0).map (refOf p.sheets) = A
  simp only [bW, if_true, Nat.reduceEqDiff, if_false]
  repeat' first | (intro hb; first | cases hb | skip) | ((first | apply z8 | apply zd); (· rfl); (· simp (disch := assumption) only [go_sem, Nat.reduceEqDiff, Nat.reduceAdd, bP, ze, Nat.reduceLeDiff, Nat.reduceLT, Nat.reduceMul, List.length_append, decide_eq_true_eq, z6, z0, Int.reduceToNat, Int.reduceLE, Int.reduceLT, Int.reduceBNe, Int.reduceBEq]; rfl); (· simp only [go_sem, Nat.reduceLT, Nat.reduceEqDiff]; rfl); (· rfl); first | (apply zc; (· simp only [go_sem, Nat.reduceLT]; rfl); (· simp only [go_sem, Nat.reduceLT]; rfl)) | (apply zg; (· simp only [go_sem, Nat.reduceLT]; rfl))) | ((first | apply za | apply zb); (· rfl); (· simp only [go_sem, Nat.reduceLT]; rfl)) | (apply z9; (· simp only [go_sem, Nat.reduceEqDiff])) | (apply z7; (· simp only [go_sem, Nat.reduceEqDiff])) | (apply zf; (· kernel_rfl); (· kernel_rfl)) | (simp only [bW, if_true, Nat.reduceEqDiff, if_false])
  refine zK (st1 := ⟨149, [(1, I ax), (2, .lref 0 0 3 0), (5, I p.sheets), (6, gD 1 7 (A)), (9, I (0 : Nat))], (0, ⟨[zj p], 3, false⟩) :: gO 1 7 encY (A), gN 1 (A), 0⟩) lk109_11 (by
    cases A <;> simp only [go_sem, List.map_append, Nat.reduceEqDiff, Nat.reduceLT, Nat.reduceAdd, bI, bD, bI2, gD, gO, gN, okY.renL, okY.idsL, encY]
    all_goals try rfl) (L109_11 p ax _ _ hwf hok p.joins 0 A rfl (Nat.zero_le _) (by rw [← hA]; simp; omega) ?_)
  generalize hB : A ++ (joinsE ax p.joins 0).map (refOf p.sheets) = Bl
  simp only [bW, if_true, Nat.reduceEqDiff, if_false]
  repeat' first | (intro hb; first | cases hb | skip) | ((first | apply z8 | apply zd); (· rfl); (· simp (disch := assumption) only [go_sem, Nat.reduceEqDiff, Nat.reduceAdd, bP, ze, Nat.reduceLeDiff, Nat.reduceLT, Nat.reduceMul, List.length_append, decide_eq_true_eq, z6, z0, Int.reduceToNat, Int.reduceLE, Int.reduceLT, Int.reduceBNe, Int.reduceBEq]; rfl); (· simp only [go_sem, Nat.reduceLT, Nat.reduceEqDiff]; rfl); (· rfl); first | (apply zc; (· simp only [go_sem, Nat.reduceLT]; rfl); (· simp only [go_sem, Nat.reduceLT]; rfl)) | (apply zg; (· simp only [go_sem, Nat.reduceLT]; rfl))) | ((first | apply za | apply zb); (· rfl); (· simp only [go_sem, Nat.reduceLT]; rfl)) | (apply z9; (· simp only [go_sem, Nat.reduceEqDiff])) | (apply z7; (· simp only [go_sem, Nat.reduceEqDiff])) | (apply zf; (· kernel_rfl); (· kernel_rfl)) | (simp only [bW, if_true, Nat.reduceEqDiff, if_false])
  refine zK (st1 := ⟨149, [(2, .lref 0 0 3 0), (5, I p.sheets), (6, gD 1 7 (Bl)), (11, I (0 : Nat))], (0, ⟨[zj p], 3, false⟩) :: gO 1 7 encY (Bl), gN 1 (Bl), 0⟩) lk109_18 (by
    cases Bl <;> simp only [go_sem, List.map_append, Nat.reduceEqDiff, Nat.reduceLT, Nat.reduceAdd, bI, bD, bI2, gD, gO, gN, okY.renL, okY.idsL, encY]
    all_goals try rfl) (L109_18 p _ _ hok n 0 Bl (by omega) (by rw [← hB, ← hA]; simp; omega) ?_)
  have hE : Bl ++ ((List.range' 0 n).flatMap sheetE).map (refOf p.sheets) = refE p ax := by
    rw [← hB, ← hA]
    unfold refE refB
    rw [List.map_append, List.map_append, hn]; rfl
  rw [hE]
  obtain ⟨r1, r2⟩ := refE_len hok ax
  generalize refE p ax = E at *
  cases E with
  | nil => exact absurd rfl r2
  | cons e r =>
    simp only [gD, gO, gN]
    have htk : List.take (r.length + 1) (List.map encY (e :: r)) = List.map encY (e :: r) := by rw [List.take_of_length_le]; simp
    simp only [List.map_cons] at htk
    simp only [bW, if_true, Nat.reduceEqDiff, if_false]
    repeat' first | (intro hb; first | cases hb | skip) | ((first | apply z8 | apply zd); (· rfl); (· simp (disch := assumption) only [go_sem, Nat.reduceEqDiff, Nat.reduceAdd, bP, ze, Nat.reduceLeDiff, Nat.reduceLT, Nat.reduceMul, List.length_append, decide_eq_true_eq, z6, z0, Int.reduceToNat, Int.reduceLE, Int.reduceLT, Int.reduceBNe, Int.reduceBEq]; rfl); (· simp only [go_sem, Nat.reduceLT, Nat.reduceEqDiff]; rfl); (· rfl); first | (apply zc; (· simp only [go_sem, Nat.reduceLT]; rfl); (· simp only [go_sem, Nat.reduceLT]; rfl)) | (apply zg; (· simp only [go_sem, Nat.reduceLT]; rfl))) | ((first | apply za | apply zb); (· rfl); (· simp only [go_sem, Nat.reduceLT]; rfl)) | (apply z9; (· simp only [go_sem, Nat.reduceEqDiff])) | (apply z7; (· simp only [go_sem, Nat.reduceEqDiff])) | (apply zf; (· kernel_rfl); (· kernel_rfl)) | (simp only [bW, if_true, Nat.reduceEqDiff, if_false])
    subst hF
    simp only [go_sem, Nat.reduceEqDiff, bP, Nat.reduceAdd, Nat.reduceLeDiff, List.length_map, Tryd.f109, htk, okY.snapAll, okY.snap]

end Go.VS
/-
  The least factor in the words of least quotients. (A text of this claim's own; nothing of it is trusted.)
-/
namespace Go.VS
open Go Go.VS.Walks
theorem lo_dist2 (p : Paper) (ax : Int) (i : Nat) : loF p i ax = ⟨(distF p ax 0 (1 + i)).d, (distF p ax 0 (1 + i)).n⟩ := by
  unfold loF upF upO distF
  rw [show (1 + (i : Int)).toNat = 1 + i by omega, if_neg (by omega)]
end Go.VS
/-
  What the reference's functions answer is what the program's answer. (A text of this claim's own; nothing of it is trusted.)
-/
namespace Go.VS
open Go Go.VS.Walks
def diagAll (c : NetF) : Bool := diagOK c 0 && (diagOK c 1 && (diagOK c 2 && (diagOK c 3 && diagOK c 4)))
def canF (p : Paper) : Bool := diagAll (netR p 0) && diagAll (netR p 1)
theorem diagAll_iff {c : NetF} : diagAll c = true ↔ ∀ i, i < 5 → diagOK c i = true := by
  unfold diagAll
  simp only [Bool.and_eq_true]
  constructor
  · rintro ⟨h0, h1, h2, h3, h4⟩ i hi
    have : i = 0 ∨ i = 1 ∨ i = 2 ∨ i = 3 ∨ i = 4 := by omega
    rcases this with rfl | rfl | rfl | rfl | rfl <;> assumption
  · intro h; exact ⟨h 0 (by omega), h 1 (by omega), h 2 (by omega), h 3 (by omega), h 4 (by omega)⟩
theorem can_possible {p : Paper} (hok : zu p = true) : canF p = possibleF p := by
  have key : ∀ ax, diagAll (netR p ax) = (clashA p ax).isNone := by
    intro ax
    rw [Bool.eq_iff_iff, diagAll_iff, can_iff hok ax, Option.isNone_iff_eq_none]
  unfold canF possibleF
  rw [key, key]
section
variable {p : Paper} (hok : zu p = true) {ax : Int} (hc : clashA p ax = none) {u : Nat} (hu : p.sheets = u)
include hok hc hu
theorem net_lo {i : Nat} (hi : i < u) : loF p i ax = ⟨(netR p ax u i).d, (netR p ax u i).n⟩ := by
  have := net_dist hok hc hu (a := 0) (b := 1 + i) (by omega) (by omega)
  rw [show sig u 0 = u from rfl, show sig u (1 + i) = i by unfold sig; rw [if_neg (by omega)]; omega] at this
  rw [lo_dist2, this]
theorem net_hi {i : Nat} (hi : i < u) : hiF p i ax = netR p ax i u := by
  have := net_dist hok hc hu (a := 1 + i) (b := 0) (by omega) (by omega)
  rw [show sig u 0 = u from rfl, show sig u (1 + i) = i by unfold sig; rw [if_neg (by omega)]; omega] at this
  rw [hi_dist, this]
theorem net_betw {i j : Nat} (hi : i < u) (hj : j < u) : betwF p i j ax = netR p ax i j := by
  have := net_dist hok hc hu (a := 1 + i) (b := 1 + j) (by omega) (by omega)
  rw [show sig u (1 + j) = j by unfold sig; rw [if_neg (by omega)]; omega, show sig u (1 + i) = i by unfold sig; rw [if_neg (by omega)]; omega] at this
  rw [betw_dist, this]
end
end Go.VS
namespace Go.VS
open Go Go.Proofs
set_option maxHeartbeats 0
set_option linter.unusedSimpArgs false

theorem t23r (a b : Ratio) (ha : ratioOK a = true) (hb : ratioOK b = true) : (lim cfg).pure 23 [.agg [I a.n, I a.d], .agg [I b.n, I b.d]] = some (I (cmpR a b)) := by
  obtain ⟨an, ad⟩ := a
  obtain ⟨bn, bd⟩ := b
  simp only [ratioOK, Bool.and_eq_true, decide_eq_true_eq] at ha hb
  obtain ⟨x1, rfl⟩ := rat_nat (show 0 ≤ an by omega)
  obtain ⟨x2, rfl⟩ := rat_nat (show 0 ≤ ad by omega)
  obtain ⟨x3, rfl⟩ := rat_nat (show 0 ≤ bn by omega)
  obtain ⟨x4, rfl⟩ := rat_nat (show 0 ≤ bd by omega)
  exact t23 _ x1 x2 x3 x4 (Nat.le_refl _) (by omega) (by omega) (by omega) (by omega) (by omega) (by omega)

theorem t27 (a b : Ratio)  : (lim cfg).pure 27 [encR a, encR b] = some (.tup (if ratioOK a && ratioOK b then [I (cmpR a b), I 0] else [I 0, I 1])) := by
  have t76' := fun (r : Ratio) => t76 r
  simp only [encR] at t76'
  refine zo (zk 27) cfn27 rfl (n := 17) rfl ?_
  simp only [bW, if_true, Nat.reduceEqDiff, if_false, zl]
  repeat' first | (intro hb; first | cases hb | skip) | ((first | apply z8 | apply zd); (· rfl); (· simp (disch := assumption) only [go_sem, Nat.reduceEqDiff, Nat.reduceAdd, bP, ze, Nat.reduceLeDiff, Nat.reduceLT, Nat.reduceMul, List.length_append, decide_eq_true_eq, z6, z0, Int.reduceToNat, Int.reduceLE, Int.reduceLT, Int.reduceBNe, Int.reduceBEq, t76', encR, t23r]; rfl); (· simp only [go_sem, Nat.reduceLT, Nat.reduceEqDiff]; rfl); (· rfl); first | (apply zc; (· simp only [go_sem, Nat.reduceLT]; rfl); (· simp only [go_sem, Nat.reduceLT]; rfl)) | (apply zg; (· simp only [go_sem, Nat.reduceLT]; rfl))) | ((first | apply za | apply zb); (· rfl); (· simp only [go_sem, Nat.reduceLT]; rfl)) | (apply z9; (· simp only [go_sem, Nat.reduceEqDiff])) | (apply z7; (· simp only [go_sem, Nat.reduceEqDiff])) | (apply zf; (· kernel_rfl); (· kernel_rfl)) | (simp only [bW, if_true, Nat.reduceEqDiff, if_false])
  all_goals simp only [go_sem, Nat.reduceEqDiff, bP, Nat.reduceAdd, Nat.reduceLeDiff, List.length_map, Tryd.f27]
  all_goals first | rfl | (simp_all []; done) | (simp_all []; intros; omega)

noncomputable def lp28_4 : Code := zv [1, 1, 0, 1, 0, 0] (zm Tryd.f28)
theorem lk28_4 : cfg.keep 28 (zq lp28_4) = [1, 3] := by kernel_rfl
noncomputable def lp28_10 : Code := zv [1, 1, 1, 0, 1, 0, 0] (zm Tryd.f28)
theorem lk28_10 : cfg.keep 28 (zq lp28_10) = [1, 5] := by kernel_rfl

theorem L28_4 {F : Exit → St → Option D} (p : Paper) (k : List Kt) (x : D) (hwf : p.wf) (hsh : IntKind.i64.wrap (p.sheets - 1) = p.sheets - 1) (hk : ∀ st, get st.tmps 2 = I 30 → zB cfg (lim cfg) 28 F k .ret st = some (I 30)) : ∀ (rest : List Mark) (i : Nat), p.marks.drop i = rest → i ≤ p.marks.length →
    ((∀ m ∈ rest, markOK p m = true) → zB cfg (lim cfg) 28 F k (.exit 0) ⟨140, [(27, B false), (26, I p.marks.length), (25, .sl p.nm (p.marks.map encM) (zs p.nm 5) none), (24, .lref 0 0 3 1), (23, I (p.marks.length : Nat)), (1, .lref 0 0 3 0), (3, I (p.marks.length : Nat))], [(0, ⟨[zj p], 3, false⟩)], 1, 0⟩ = some x) →
    ((∃ m ∈ rest, markOK p m = false) → x = I 30) →
    EvL cfg (lim cfg) 28 F lp28_4 k ⟨140, [(1, .lref 0 0 3 0), (3, I (i : Nat))], [(0, ⟨[zj p], 3, false⟩)], 1, 0⟩ = some x := by
  have hl := len_if (f := encM) hwf.1
  intro rest
  induction rest with
  | nil =>
    intro i hd hi h1 h0
    have hi' : i = p.marks.length := by
      have := List.drop_eq_nil_iff.1 hd
      omega
    subst hi'
    refine zh ?_
    try dsimp only [lp28_4, zv, zm, Tryd.f28]
    simp only [bW, if_true, Nat.reduceEqDiff, if_false]
    repeat' first | (intro hb; first | cases hb | skip) | ((first | apply z8 | apply zd); (· rfl); (· simp (disch := assumption) only [go_sem, Nat.reduceEqDiff, Nat.reduceAdd, bP, ze, Nat.reduceLeDiff, Nat.reduceLT, Nat.reduceMul, List.length_append, decide_eq_true_eq, z6, z0, Int.reduceToNat, Int.reduceLE, Int.reduceLT, Int.reduceBNe, Int.reduceBEq, hl, Int.lt_irrefl]; rfl); (· simp only [go_sem, Nat.reduceLT, Nat.reduceEqDiff]; rfl); (· rfl); first | (apply zc; (· simp only [go_sem, Nat.reduceLT]; rfl); (· simp only [go_sem, Nat.reduceLT]; rfl)) | (apply zg; (· simp only [go_sem, Nat.reduceLT]; rfl))) | ((first | apply za | apply zb); (· rfl); (· simp only [go_sem, Nat.reduceLT]; rfl)) | (apply z9; (· simp only [go_sem, Nat.reduceEqDiff])) | (apply z7; (· simp only [go_sem, Nat.reduceEqDiff])) | (apply zf; (· kernel_rfl); (· kernel_rfl)) | (simp only [bW, if_true, Nat.reduceEqDiff, if_false])
    exact h1 (fun m hm => by cases hm)
  | cons m rest ih =>
    intro i hd hi h1 h0
    have hlt : i < p.marks.length := by
      rcases Nat.lt_or_ge i p.marks.length with h | h
      · exact h
      · rw [List.drop_eq_nil_of_le h] at hd; cases hd
    have hm : p.marks[i]? = some m := by rw [← List.head?_drop, hd]; rfl
    have hx : (p.marks.map encM)[i]? = some (.agg [I m.sheet, I m.axis, I m.tru, I m.seen, I m.err]) := by rw [List.getElem?_map, hm]; rfl
    have hnm : p.nm = false := by
      cases h : p.nm with
      | false => rfl
      | true => rw [hwf.1 h] at hlt; cases hlt
    have hlt' : (i : Int) < (p.marks.length : Int) := by omega
    have hlen := hwf.2.2.1
    have hwr : IntKind.i64.wrap ((i : Int) + 1) = ((i + 1 : Nat) : Int) := by rw [wrap_i64 (by omega) (by omega)]; omega
    have hlm : ((p.marks.map encM).length : Int) = (p.marks.length : Int) := by simp
    refine zh ?_
    try dsimp only [lp28_4, zv, zm, Tryd.f28]
    simp only [bW, if_true, Nat.reduceEqDiff, if_false]
    repeat' first | (intro hb; first | cases hb | skip) | ((first | apply z8 | apply zd); (· rfl); (· simp (disch := assumption) only [go_sem, Nat.reduceEqDiff, Nat.reduceAdd, bP, ze, Nat.reduceLeDiff, Nat.reduceLT, Nat.reduceMul, List.length_append, decide_eq_true_eq, z6, z0, Int.reduceToNat, Int.reduceLE, Int.reduceLT, Int.reduceBNe, Int.reduceBEq, hlm, t77, hx, hnm, hlt', hwr, hsh]; rfl); (· simp only [go_sem, Nat.reduceLT, Nat.reduceEqDiff]; rfl); (· rfl); first | (apply zc; (· simp only [go_sem, Nat.reduceLT]; rfl); (· simp only [go_sem, Nat.reduceLT]; rfl)) | (apply zg; (· simp only [go_sem, Nat.reduceLT]; rfl))) | ((first | apply za | apply zb); (· rfl); (· simp only [go_sem, Nat.reduceLT]; rfl)) | (apply z9; (· simp only [go_sem, Nat.reduceEqDiff])) | (apply z7; (· simp only [go_sem, Nat.reduceEqDiff])) | (apply zf; (· kernel_rfl); (· kernel_rfl)) | (simp only [bW, if_true, Nat.reduceEqDiff, if_false])
    all_goals first
    | (have hx0 : x = I 30 := h0 ⟨m, List.mem_cons_self, by
         clear ih h1 h0 hk hwf hlm hl
         first | (simp_all [markOK, zz, isAxis, isSeen]; done) | (simp_all [markOK, zz, isAxis, isSeen, IntKind.wrap_i64]; intros; omega)⟩
       subst hx0
       exact hk _ rfl)
    | (refine zn (st1 := ⟨140, [(1, .lref 0 0 3 0), (3, I (i + 1 : Nat))], [(0, ⟨[zj p], 3, false⟩)], 1, 0⟩) lk28_4 (by kernel_rfl) (ih (i + 1) ?_ hlt (fun ha => h1 ?_) (fun ⟨m', hm', hb'⟩ => h0 ⟨m', List.mem_cons_of_mem _ hm', hb'⟩))
       · rw [← List.drop_drop, hd]; rfl
       · intro m' hm'
         rcases List.mem_cons.1 hm' with rfl | hm'
         · clear ih h1 h0 hk hwf ha hlm hl
           first | (simp_all [markOK, zz, isAxis, isSeen]; done) | (simp_all [markOK, zz, isAxis, isSeen, IntKind.wrap_i64]; omega)
         · exact ha m' hm')

theorem L28_10 {F : Exit → St → Option D} (p : Paper) (k : List Kt) (x : D) (hwf : p.wf) (hsh : IntKind.i64.wrap (p.sheets - 1) = p.sheets - 1) (hk : ∀ st, get st.tmps 2 = I 30 → zB cfg (lim cfg) 28 F k .ret st = some (I 30)) : ∀ (rest : List Join) (i : Nat), p.joins.drop i = rest → i ≤ p.joins.length →
    ((∀ m ∈ rest, joinOK p m = true) → zB cfg (lim cfg) 28 F k (.exit 2) ⟨140, [(73, B false), (72, I p.joins.length), (71, .sl p.nj (p.joins.map zO) (zs p.nj 7) none), (70, .lref 0 0 3 2), (69, I (p.joins.length : Nat)), (1, .lref 0 0 3 0), (5, I (p.joins.length : Nat))], [(0, ⟨[zj p], 3, false⟩)], 1, 0⟩ = some x) →
    ((∃ m ∈ rest, joinOK p m = false) → x = I 30) →
    EvL cfg (lim cfg) 28 F lp28_10 k ⟨140, [(1, .lref 0 0 3 0), (5, I (i : Nat))], [(0, ⟨[zj p], 3, false⟩)], 1, 0⟩ = some x := by
  have hl := len_if (f := zO) hwf.2.1
  intro rest
  induction rest with
  | nil =>
    intro i hd hi h1 h0
    have hi' : i = p.joins.length := by
      have := List.drop_eq_nil_iff.1 hd
      omega
    subst hi'
    refine zh ?_
    try dsimp only [lp28_10, zv, zm, Tryd.f28]
    simp only [bW, if_true, Nat.reduceEqDiff, if_false]
    repeat' first | (intro hb; first | cases hb | skip) | ((first | apply z8 | apply zd); (· rfl); (· simp (disch := assumption) only [go_sem, Nat.reduceEqDiff, Nat.reduceAdd, bP, ze, Nat.reduceLeDiff, Nat.reduceLT, Nat.reduceMul, List.length_append, decide_eq_true_eq, z6, z0, Int.reduceToNat, Int.reduceLE, Int.reduceLT, Int.reduceBNe, Int.reduceBEq, hl, Int.lt_irrefl]; rfl); (· simp only [go_sem, Nat.reduceLT, Nat.reduceEqDiff]; rfl); (· rfl); first | (apply zc; (· simp only [go_sem, Nat.reduceLT]; rfl); (· simp only [go_sem, Nat.reduceLT]; rfl)) | (apply zg; (· simp only [go_sem, Nat.reduceLT]; rfl))) | ((first | apply za | apply zb); (· rfl); (· simp only [go_sem, Nat.reduceLT]; rfl)) | (apply z9; (· simp only [go_sem, Nat.reduceEqDiff])) | (apply z7; (· simp only [go_sem, Nat.reduceEqDiff])) | (apply zf; (· kernel_rfl); (· kernel_rfl)) | (simp only [bW, if_true, Nat.reduceEqDiff, if_false])
    exact h1 (fun m hm => by cases hm)
  | cons m rest ih =>
    intro i hd hi h1 h0
    have hlt : i < p.joins.length := by
      rcases Nat.lt_or_ge i p.joins.length with h | h
      · exact h
      · rw [List.drop_eq_nil_of_le h] at hd; cases hd
    have hm : p.joins[i]? = some m := by rw [← List.head?_drop, hd]; rfl
    have hx : (p.joins.map zO)[i]? = some (.agg [I m.a, I m.b, I m.axis, I m.seenA, I m.errA, I m.seenB, I m.errB]) := by rw [List.getElem?_map, hm]; rfl
    have hnm : p.nj = false := by
      cases h : p.nj with
      | false => rfl
      | true => rw [hwf.2.1 h] at hlt; cases hlt
    have hlt' : (i : Int) < (p.joins.length : Int) := by omega
    have hlen := hwf.2.2.2
    have hwr : IntKind.i64.wrap ((i : Int) + 1) = ((i + 1 : Nat) : Int) := by rw [wrap_i64 (by omega) (by omega)]; omega
    have hlm : ((p.joins.map zO).length : Int) = (p.joins.length : Int) := by simp
    refine zh ?_
    try dsimp only [lp28_10, zv, zm, Tryd.f28]
    simp only [bW, if_true, Nat.reduceEqDiff, if_false]
    repeat' first | (intro hb; first | cases hb | skip) | ((first | apply z8 | apply zd); (· rfl); (· simp (disch := assumption) only [go_sem, Nat.reduceEqDiff, Nat.reduceAdd, bP, ze, Nat.reduceLeDiff, Nat.reduceLT, Nat.reduceMul, List.length_append, decide_eq_true_eq, z6, z0, Int.reduceToNat, Int.reduceLE, Int.reduceLT, Int.reduceBNe, Int.reduceBEq, hlm, t77, hx, hnm, hlt', hwr, hsh]; rfl); (· simp only [go_sem, Nat.reduceLT, Nat.reduceEqDiff]; rfl); (· rfl); first | (apply zc; (· simp only [go_sem, Nat.reduceLT]; rfl); (· simp only [go_sem, Nat.reduceLT]; rfl)) | (apply zg; (· simp only [go_sem, Nat.reduceLT]; rfl))) | ((first | apply za | apply zb); (· rfl); (· simp only [go_sem, Nat.reduceLT]; rfl)) | (apply z9; (· simp only [go_sem, Nat.reduceEqDiff])) | (apply z7; (· simp only [go_sem, Nat.reduceEqDiff])) | (apply zf; (· kernel_rfl); (· kernel_rfl)) | (simp only [bW, if_true, Nat.reduceEqDiff, if_false])
    all_goals first
    | (have hx0 : x = I 30 := h0 ⟨m, List.mem_cons_self, by
         clear ih h1 h0 hk hwf hlm hl
         first | (simp_all [joinOK, zz, isAxis, isSeen]; done) | (simp_all [joinOK, zz, isAxis, isSeen, IntKind.wrap_i64]; intros; omega)⟩
       subst hx0
       exact hk _ rfl)
    | (refine zn (st1 := ⟨140, [(1, .lref 0 0 3 0), (5, I (i + 1 : Nat))], [(0, ⟨[zj p], 3, false⟩)], 1, 0⟩) lk28_10 (by kernel_rfl) (ih (i + 1) ?_ hlt (fun ha => h1 ?_) (fun ⟨m', hm', hb'⟩ => h0 ⟨m', List.mem_cons_of_mem _ hm', hb'⟩))
       · rw [← List.drop_drop, hd]; rfl
       · intro m' hm'
         rcases List.mem_cons.1 hm' with rfl | hm'
         · clear ih h1 h0 hk hwf ha hlm hl
           first | (simp_all [joinOK, zz, isAxis, isSeen]; done) | (simp_all [joinOK, zz, isAxis, isSeen, IntKind.wrap_i64]; omega)
         · exact ha m' hm')

theorem t28 (p : Paper) (hwf : p.wf) : (lim cfg).pure 28 [zj p] = some (I (check p)) := by
  have hlm := len_if (f := encM) hwf.1
  have hlj := len_if (f := zO) hwf.2.1
  refine zo (zk 28) cfn28 rfl (n := 140) rfl ?_
  generalize hF : finP cfg Tryd.f28 = F
  simp only [bW, if_true, Nat.reduceEqDiff, if_false, zl]
  have hret : ∀ (v : Int) st, get st.tmps 2 = I v → F .ret st = some (I v) := by
    intro v st h
    subst hF
    simp only [go_sem, Nat.reduceEqDiff, bP, Nat.reduceAdd, Nat.reduceLeDiff, List.length_map, Tryd.f28, h]
  cases hs : decide (1 ≤ p.sheets) && decide (p.sheets ≤ 4) with
  | false =>
    have hx0 : check p = 30 := by simp [check, zu, hs]
    rw [hx0]
    repeat' first | (intro hb; first | cases hb | skip) | ((first | apply z8 | apply zd); (· rfl); (· simp (disch := assumption) only [go_sem, Nat.reduceEqDiff, Nat.reduceAdd, bP, ze, Nat.reduceLeDiff, Nat.reduceLT, Nat.reduceMul, List.length_append, decide_eq_true_eq, z6, z0, Int.reduceToNat, Int.reduceLE, Int.reduceLT, Int.reduceBNe, Int.reduceBEq, t77, hs, hlm, hlj]; rfl); (· simp only [go_sem, Nat.reduceLT, Nat.reduceEqDiff]; rfl); (· rfl); first | (apply zc; (· simp only [go_sem, Nat.reduceLT]; rfl); (· simp only [go_sem, Nat.reduceLT]; rfl)) | (apply zg; (· simp only [go_sem, Nat.reduceLT]; rfl))) | ((first | apply za | apply zb); (· rfl); (· simp only [go_sem, Nat.reduceLT]; rfl)) | (apply z9; (· simp only [go_sem, Nat.reduceEqDiff])) | (apply z7; (· simp only [go_sem, Nat.reduceEqDiff])) | (apply zf; (· kernel_rfl); (· kernel_rfl)) | (simp only [bW, if_true, Nat.reduceEqDiff, if_false])
    all_goals exact hret 30 _ rfl
  | true =>
    have hsh : IntKind.i64.wrap (p.sheets - 1) = p.sheets - 1 := by simp at hs; rw [wrap_i64 (by omega) (by omega)]
    repeat' first | (intro hb; first | cases hb | skip) | ((first | apply z8 | apply zd); (· rfl); (· simp (disch := assumption) only [go_sem, Nat.reduceEqDiff, Nat.reduceAdd, bP, ze, Nat.reduceLeDiff, Nat.reduceLT, Nat.reduceMul, List.length_append, decide_eq_true_eq, z6, z0, Int.reduceToNat, Int.reduceLE, Int.reduceLT, Int.reduceBNe, Int.reduceBEq, t77, hs, hlm, hlj]; rfl); (· simp only [go_sem, Nat.reduceLT, Nat.reduceEqDiff]; rfl); (· rfl); first | (apply zc; (· simp only [go_sem, Nat.reduceLT]; rfl); (· simp only [go_sem, Nat.reduceLT]; rfl)) | (apply zg; (· simp only [go_sem, Nat.reduceLT]; rfl))) | ((first | apply za | apply zb); (· rfl); (· simp only [go_sem, Nat.reduceLT]; rfl)) | (apply z9; (· simp only [go_sem, Nat.reduceEqDiff])) | (apply z7; (· simp only [go_sem, Nat.reduceEqDiff])) | (apply zf; (· kernel_rfl); (· kernel_rfl)) | (simp only [bW, if_true, Nat.reduceEqDiff, if_false])
    all_goals try exact (by
      have hx0 : check p = 30 := by
        clear hret hF
        first | (simp_all [check, zu]; done) | (simp_all [check, zu]; intros; omega)
      rw [hx0]; exact hret 30 _ rfl)
    refine zK (st1 := ⟨140, [(1, .lref 0 0 3 0), (3, I (0 : Nat))], [(0, ⟨[zj p], 3, false⟩)], 1, 0⟩) lk28_4 (by kernel_rfl) (L28_4 p _ _ hwf hsh (fun st h => by simp only [bW, if_true, Nat.reduceEqDiff, if_false]; exact hret 30 st h) p.marks 0 rfl (Nat.zero_le _) (fun hm => ?_) (fun ⟨m, h1, h2⟩ => ?_))
    · simp only [bW, if_true, Nat.reduceEqDiff, if_false]
      repeat' first | (intro hb; first | cases hb | skip) | ((first | apply z8 | apply zd); (· rfl); (· simp (disch := assumption) only [go_sem, Nat.reduceEqDiff, Nat.reduceAdd, bP, ze, Nat.reduceLeDiff, Nat.reduceLT, Nat.reduceMul, List.length_append, decide_eq_true_eq, z6, z0, Int.reduceToNat, Int.reduceLE, Int.reduceLT, Int.reduceBNe, Int.reduceBEq, hlm, hlj]; rfl); (· simp only [go_sem, Nat.reduceLT, Nat.reduceEqDiff]; rfl); (· rfl); first | (apply zc; (· simp only [go_sem, Nat.reduceLT]; rfl); (· simp only [go_sem, Nat.reduceLT]; rfl)) | (apply zg; (· simp only [go_sem, Nat.reduceLT]; rfl))) | ((first | apply za | apply zb); (· rfl); (· simp only [go_sem, Nat.reduceLT]; rfl)) | (apply z9; (· simp only [go_sem, Nat.reduceEqDiff])) | (apply z7; (· simp only [go_sem, Nat.reduceEqDiff])) | (apply zf; (· kernel_rfl); (· kernel_rfl)) | (simp only [bW, if_true, Nat.reduceEqDiff, if_false])
      refine zK (st1 := ⟨140, [(1, .lref 0 0 3 0), (5, I (0 : Nat))], [(0, ⟨[zj p], 3, false⟩)], 1, 0⟩) lk28_10 (by kernel_rfl) (L28_10 p _ _ hwf hsh (fun st h => by simp only [bW, if_true, Nat.reduceEqDiff, if_false]; exact hret 30 st h) p.joins 0 rfl (Nat.zero_le _) (fun hj => ?_) (fun ⟨m, h1, h2⟩ => ?_))
      · simp only [bW, if_true, Nat.reduceEqDiff, if_false]
        have hx0 : check p = 0 := by
          clear hret hF
          simp_all [check, zu]
          try omega
        rw [hx0]
        repeat' first | (intro hb; first | cases hb | skip) | ((first | apply z8 | apply zd); (· rfl); (· simp (disch := assumption) only [go_sem, Nat.reduceEqDiff, Nat.reduceAdd, bP, ze, Nat.reduceLeDiff, Nat.reduceLT, Nat.reduceMul, List.length_append, decide_eq_true_eq, z6, z0, Int.reduceToNat, Int.reduceLE, Int.reduceLT, Int.reduceBNe, Int.reduceBEq, hlm, hlj]; rfl); (· simp only [go_sem, Nat.reduceLT, Nat.reduceEqDiff]; rfl); (· rfl); first | (apply zc; (· simp only [go_sem, Nat.reduceLT]; rfl); (· simp only [go_sem, Nat.reduceLT]; rfl)) | (apply zg; (· simp only [go_sem, Nat.reduceLT]; rfl))) | ((first | apply za | apply zb); (· rfl); (· simp only [go_sem, Nat.reduceLT]; rfl)) | (apply z9; (· simp only [go_sem, Nat.reduceEqDiff])) | (apply z7; (· simp only [go_sem, Nat.reduceEqDiff])) | (apply zf; (· kernel_rfl); (· kernel_rfl)) | (simp only [bW, if_true, Nat.reduceEqDiff, if_false])
        exact hret 0 _ rfl
      · clear hret hF
        have : p.joins.all (joinOK p) = false := by rw [List.all_eq_false]; exact ⟨m, h1, by simp [h2]⟩
        simp [check, zu, this]
    · clear hret hF
      have : p.marks.all (markOK p) = false := by rw [List.all_eq_false]; exact ⟨m, h1, by simp [h2]⟩
      simp [check, zu, this]

end Go.VS
namespace Go.VS
open Go Go.Proofs
set_option maxHeartbeats 0
set_option linter.unusedSimpArgs false

noncomputable def lp84_3 : Code := zv [1, 1, 0, 1, 0, 0] (zm Tryd.f84)
theorem lk84_3 : cfg.keep 84 (zq lp84_3) = [1, 2, 4, 5, 6] := by kernel_rfl
noncomputable def lp84_8 : Code := zv [1, 1, 1, 1, 0, 1, 0, 0] (zm Tryd.f84)
theorem lk84_8 : cfg.keep 84 (zq lp84_8) = [4, 5, 7, 8] := by kernel_rfl

noncomputable def lp80_2 : Code := zv [1, 0, 1, 0, 0] (zm Tryd.f80)
theorem lk80_2 : cfg.keep 80 (zq lp80_2) = [1, 3] := by kernel_rfl
noncomputable def lp80_6 : Code := zv [1, 0, 1, 0, 0, 1, 0, 0, 1, 1, 0, 0] (zm Tryd.f80)
theorem lk80_6 : cfg.keep 80 (zq lp80_6) = [1, 3, 4, 5] := by kernel_rfl

noncomputable def lp82_7 : Code := zv [1, 1, 1, 0, 1, 0, 0] (zm Tryd.f82)
theorem lk82_7 : cfg.keep 82 (zq lp82_7) = [1, 2, 3, 8] := by kernel_rfl

def diagF (k : Nat) : NetF := fun i j => if i = j ∧ i < k then ⟨1, 1⟩ else ⟨0, 0⟩
theorem cN_drop {c : NetF} : (cN c).drop 50 = [] := rfl
theorem diag_step {k : Nat} (hk : k < 5) : cN (putF (diagF k) k k ⟨1, 1⟩) = cN (diagF (k + 1)) := by
  rcases five hk with rfl | rfl | rfl | rfl | rfl <;> rfl
theorem L84_3 {F : Exit → St → Option D} (p : Paper) (ax : Int) (k : List Kt) (x : D) (h : zB cfg (lim cfg) 84 F k (.exit 0) ⟨29, [(10, B false), (9, I (5 : Nat)), (1, I ax), (2, .lref 0 0 3 0), (4, .lref 1 0 50 0), (5, .lref 2 0 50 0), (6, I (5 : Nat))], [(0, ⟨[zj p], 3, false⟩), (1, ⟨[.agg zN], 50, false⟩), (2, ⟨[.agg (cN (diagF 5))], 50, false⟩)], 3, 0⟩ = some x) : ∀ (n i : Nat), i + n = 5 → EvL cfg (lim cfg) 84 F lp84_3 k ⟨29, [(1, I ax), (2, .lref 0 0 3 0), (4, .lref 1 0 50 0), (5, .lref 2 0 50 0), (6, I (i : Nat))], [(0, ⟨[zj p], 3, false⟩), (1, ⟨[.agg zN], 50, false⟩), (2, ⟨[.agg (cN (diagF i))], 50, false⟩)], 3, 0⟩ = some x := by
  intro n
  induction n with
  | zero =>
    intro i hi
    obtain rfl : i = 5 := by omega
    refine zh ?_
    try dsimp only [lp84_3, zv, zm, Tryd.f84]
    simp only [bW, if_true, Nat.reduceEqDiff, if_false]
    repeat' first | (intro hb; first | cases hb | skip) | ((first | apply z8 | apply zd); (· rfl); (· simp (disch := assumption) only [go_sem, Nat.reduceEqDiff, Nat.reduceAdd, bP, ze, Nat.reduceLeDiff, Nat.reduceLT, Nat.reduceMul, List.length_append, decide_eq_true_eq, z6, z0, Int.reduceToNat, Int.reduceLE, Int.reduceLT, Int.reduceBNe, Int.reduceBEq, show (decide (((5 : Nat) : Int) < 5)) = false from rfl]; rfl); (· simp only [go_sem, Nat.reduceLT, Nat.reduceEqDiff]; rfl); (· rfl); first | (apply zc; (· simp only [go_sem, Nat.reduceLT]; rfl); (· simp only [go_sem, Nat.reduceLT]; rfl)) | (apply zg; (· simp only [go_sem, Nat.reduceLT]; rfl))) | ((first | apply za | apply zb); (· rfl); (· simp only [go_sem, Nat.reduceLT]; rfl)) | (apply z9; (· simp only [go_sem, Nat.reduceEqDiff])) | (apply z7; (· simp only [go_sem, Nat.reduceEqDiff])) | (apply zf; (· kernel_rfl); (· kernel_rfl)) | (simp only [bW, if_true, Nat.reduceEqDiff, if_false])
    exact h
  | succ n ih =>
    intro i hi
    have hi5 : i < 5 := by omega
    have hi1 : ((i : Int) < 5) = True := by simp; omega
    have hi2 : (i < 5) = True := by simp; omega
    have hw3 : IntKind.i64.wrap ((i : Int) + 1) = ((i + 1 : Nat) : Int) := by rw [wrap_i64 (by omega) (by omega)]; omega
    have ha50 : (i * 10 + i * 2 + 2 ≤ 50) = True := by simp; omega
    have hput := (cN_put (c := diagF i) (r := ⟨1, 1⟩) hi5 hi5).trans (diag_step hi5)
    simp only [] at hput
    refine zh ?_
    try dsimp only [lp84_3, zv, zm, Tryd.f84]
    simp only [bW, if_true, Nat.reduceEqDiff, if_false]
    repeat' first | (intro hb; first | cases hb | skip) | ((first | apply z8 | apply zd); (· rfl); (· simp (disch := assumption) only [go_sem, Nat.reduceEqDiff, Nat.reduceAdd, bP, ze, Nat.reduceLeDiff, Nat.reduceLT, Nat.reduceMul, List.length_append, decide_eq_true_eq, z6, z0, Int.reduceToNat, Int.reduceLE, Int.reduceLT, Int.reduceBNe, Int.reduceBEq, hi1, hi2, hw3, ha50, hput, cN_len, cN_one, cN_take, zN_len, zN_one, zN_drop]; rfl); (· simp only [go_sem, Nat.reduceLT, Nat.reduceEqDiff]; rfl); (· rfl); first | (apply zc; (· simp only [go_sem, Nat.reduceLT]; rfl); (· simp only [go_sem, Nat.reduceLT]; rfl)) | (apply zg; (· simp only [go_sem, Nat.reduceLT]; rfl))) | ((first | apply za | apply zb); (· rfl); (· simp only [go_sem, Nat.reduceLT]; rfl)) | (apply z9; (· simp only [go_sem, Nat.reduceEqDiff])) | (apply z7; (· simp only [go_sem, Nat.reduceEqDiff])) | (apply zf; (· kernel_rfl); (· kernel_rfl)) | (simp only [bW, if_true, Nat.reduceEqDiff, if_false])
    refine zn (st1 := ⟨29, [(1, I ax), (2, .lref 0 0 3 0), (4, .lref 1 0 50 0), (5, .lref 2 0 50 0), (6, I (i + 1 : Nat))], [(0, ⟨[zj p], 3, false⟩), (1, ⟨[.agg zN], 50, false⟩), (2, ⟨[.agg (cN (diagF (i + 1)))], 50, false⟩)], 3, 0⟩) lk84_3 (by
      simp only [go_sem, List.map_append, Nat.reduceEqDiff, Nat.reduceLT, Nat.reduceAdd, bI, bD, bI2, cN_ids, cN_ren, zN_ids, zN_ren]
      try rfl) (ih (i + 1) (by omega))

theorem L84_8 {F : Exit → St → Option D} (es : List Edge) (k : List Kt) (x : D) (hes : ∀ e ∈ es, eB e) (hlen : es.length ≤ 1000) : ∀ (n i : Nat) (c : NetF), i + n = 5 → nB (2000 ^ i) c →
    zB cfg (lim cfg) 84 F k (.exit 2) ⟨29, [(22, B false), (21, I (5 : Nat)), (4, .lref 0 0 50 0), (5, .lref 1 0 50 0), (7, .sl false (es.map encY) 7 none), (8, I (5 : Nat))], [(0, ⟨[.agg zN], 50, false⟩), (1, ⟨[.agg (cN (iterF es n c))], 50, false⟩)], 2, 0⟩ = some x →
    EvL cfg (lim cfg) 84 F lp84_8 k ⟨29, [(4, .lref 0 0 50 0), (5, .lref 1 0 50 0), (7, .sl false (es.map encY) 7 none), (8, I (i : Nat))], [(0, ⟨[.agg zN], 50, false⟩), (1, ⟨[.agg (cN (c))], 50, false⟩)], 2, 0⟩ = some x := by
  intro n
  induction n with
  | zero =>
    intro i c hi hc h
    obtain rfl : i = 5 := by omega
    simp only [iterF] at h
    refine zh ?_
    try dsimp only [lp84_8, zv, zm, Tryd.f84]
    simp only [bW, if_true, Nat.reduceEqDiff, if_false]
    repeat' first | (intro hb; first | cases hb | skip) | ((first | apply z8 | apply zd); (· rfl); (· simp (disch := assumption) only [go_sem, Nat.reduceEqDiff, Nat.reduceAdd, bP, ze, Nat.reduceLeDiff, Nat.reduceLT, Nat.reduceMul, List.length_append, decide_eq_true_eq, z6, z0, Int.reduceToNat, Int.reduceLE, Int.reduceLT, Int.reduceBNe, Int.reduceBEq, show (decide (((5 : Nat) : Int) < 5)) = false from rfl]; rfl); (· simp only [go_sem, Nat.reduceLT, Nat.reduceEqDiff]; rfl); (· rfl); first | (apply zc; (· simp only [go_sem, Nat.reduceLT]; rfl); (· simp only [go_sem, Nat.reduceLT]; rfl)) | (apply zg; (· simp only [go_sem, Nat.reduceLT]; rfl))) | ((first | apply za | apply zb); (· rfl); (· simp only [go_sem, Nat.reduceLT]; rfl)) | (apply z9; (· simp only [go_sem, Nat.reduceEqDiff])) | (apply z7; (· simp only [go_sem, Nat.reduceEqDiff])) | (apply zf; (· kernel_rfl); (· kernel_rfl)) | (simp only [bW, if_true, Nat.reduceEqDiff, if_false])
    exact h
  | succ n ih =>
    intro i c hi hc h
    have hi1 : ((i : Int) < 5) = True := by simp; omega
    have hw3 : IntKind.i64.wrap ((i : Int) + 1) = ((i + 1 : Nat) : Int) := by rw [wrap_i64 (by omega) (by omega)]; omega
    have hp1 : (1 : Int) ≤ 2000 ^ i := Int.pow_pos (by omega)
    have hp2 : (2000 : Int) ^ i ≤ 16000000000000 := by
      rcases five (show i < 5 by omega) with rfl | rfl | rfl | rfl | rfl <;> decide
    have h110 := t110 es c (2000 ^ i) hp1 hp2 hc hes hlen
    have hc' := longB hp1 hc hes
    rw [Int.mul_comm, ← Int.pow_succ] at hc'
    simp only [iterF] at h
    refine zh ?_
    try dsimp only [lp84_8, zv, zm, Tryd.f84]
    simp only [bW, if_true, Nat.reduceEqDiff, if_false]
    repeat' first | (intro hb; first | cases hb | skip) | ((first | apply z8 | apply zd); (· rfl); (· simp (disch := assumption) only [go_sem, Nat.reduceEqDiff, Nat.reduceAdd, bP, ze, Nat.reduceLeDiff, Nat.reduceLT, Nat.reduceMul, List.length_append, decide_eq_true_eq, z6, z0, Int.reduceToNat, Int.reduceLE, Int.reduceLT, Int.reduceBNe, Int.reduceBEq, hi1, hw3, h110, cN_snap, cN_flat, okY.snapAll, cN_drop, cN_len, cN_one, cN_take, zN_len, zN_one, zN_drop]; rfl); (· simp only [go_sem, Nat.reduceLT, Nat.reduceEqDiff]; rfl); (· rfl); first | (apply zc; (· simp only [go_sem, Nat.reduceLT]; rfl); (· simp only [go_sem, Nat.reduceLT]; rfl)) | (apply zg; (· simp only [go_sem, Nat.reduceLT]; rfl))) | ((first | apply za | apply zb); (· rfl); (· simp only [go_sem, Nat.reduceLT]; rfl)) | (apply z9; (· simp only [go_sem, Nat.reduceEqDiff])) | (apply z7; (· simp only [go_sem, Nat.reduceEqDiff])) | (apply zf; (· kernel_rfl); (· kernel_rfl)) | (simp only [bW, if_true, Nat.reduceEqDiff, if_false])
    refine zn (st1 := ⟨29, [(4, .lref 0 0 50 0), (5, .lref 1 0 50 0), (7, .sl false (es.map encY) 7 none), (8, I (i + 1 : Nat))], [(0, ⟨[.agg zN], 50, false⟩), (1, ⟨[.agg (cN (foldF c es c))], 50, false⟩)], 2, 0⟩) lk84_8 (by
      simp only [go_sem, List.map_append, Nat.reduceEqDiff, Nat.reduceLT, Nat.reduceAdd, bI, bD, bI2, cN_ids, cN_ren, zN_ids, zN_ren]
      try rfl) (ih (i + 1) _ (by omega) hc' h)

theorem t84 (p : Paper) (ax : Int) (hwf : p.wf) (hok : zu p = true) : (lim cfg).pure 84 [zj p, I ax] = some (.agg (cN (netR p ax))) := by
  have h109 := t109 p ax hwf hok
  obtain ⟨r1, r2⟩ := refE_len hok ax
  have hb := refE_B hok ax
  unfold netR
  rw [show startF = diagF 5 from rfl]
  generalize refE p ax = es at *
  refine zo (zk 84) cfn84 rfl (n := 29) rfl ?_
  generalize hF : finP cfg Tryd.f84 = F
  simp only [bW, if_true, Nat.reduceEqDiff, if_false, zl]
  repeat' first | (intro hb; first | cases hb | skip) | ((first | apply z8 | apply zd); (· rfl); (· simp (disch := assumption) only [go_sem, Nat.reduceEqDiff, Nat.reduceAdd, bP, ze, Nat.reduceLeDiff, Nat.reduceLT, Nat.reduceMul, List.length_append, decide_eq_true_eq, z6, z0, Int.reduceToNat, Int.reduceLE, Int.reduceLT, Int.reduceBNe, Int.reduceBEq, cN_len, cN_one, cN_take, zN_len, zN_one, zN_drop]; rfl); (· simp only [go_sem, Nat.reduceLT, Nat.reduceEqDiff]; rfl); (· rfl); first | (apply zc; (· simp only [go_sem, Nat.reduceLT]; rfl); (· simp only [go_sem, Nat.reduceLT]; rfl)) | (apply zg; (· simp only [go_sem, Nat.reduceLT]; rfl))) | ((first | apply za | apply zb); (· rfl); (· simp only [go_sem, Nat.reduceLT]; rfl)) | (apply z9; (· simp only [go_sem, Nat.reduceEqDiff])) | (apply z7; (· simp only [go_sem, Nat.reduceEqDiff])) | (apply zf; (· kernel_rfl); (· kernel_rfl)) | (simp only [bW, if_true, Nat.reduceEqDiff, if_false])
  refine zK (st1 := ⟨29, [(1, I ax), (2, .lref 0 0 3 0), (4, .lref 1 0 50 0), (5, .lref 2 0 50 0), (6, I (0 : Nat))], [(0, ⟨[zj p], 3, false⟩), (1, ⟨[.agg zN], 50, false⟩), (2, ⟨[.agg (cN (diagF 0))], 50, false⟩)], 3, 0⟩) lk84_3 (by
    simp only [go_sem, List.map_append, Nat.reduceEqDiff, Nat.reduceLT, Nat.reduceAdd, bI, bD, bI2, cN_ids, cN_ren, zN_ids, zN_ren]
    try rfl) (L84_3 p ax _ _ ?_ 5 0 rfl)
  simp only [bW, if_true, Nat.reduceEqDiff, if_false]
  repeat' first | (intro hb; first | cases hb | skip) | ((first | apply z8 | apply zd); (· rfl); (· simp (disch := assumption) only [go_sem, Nat.reduceEqDiff, Nat.reduceAdd, bP, ze, Nat.reduceLeDiff, Nat.reduceLT, Nat.reduceMul, List.length_append, decide_eq_true_eq, z6, z0, Int.reduceToNat, Int.reduceLE, Int.reduceLT, Int.reduceBNe, Int.reduceBEq, h109, cN_len, cN_one, cN_take, zN_len, zN_one, zN_drop]; rfl); (· simp only [go_sem, Nat.reduceLT, Nat.reduceEqDiff]; rfl); (· rfl); first | (apply zc; (· simp only [go_sem, Nat.reduceLT]; rfl); (· simp only [go_sem, Nat.reduceLT]; rfl)) | (apply zg; (· simp only [go_sem, Nat.reduceLT]; rfl))) | ((first | apply za | apply zb); (· rfl); (· simp only [go_sem, Nat.reduceLT]; rfl)) | (apply z9; (· simp only [go_sem, Nat.reduceEqDiff])) | (apply z7; (· simp only [go_sem, Nat.reduceEqDiff])) | (apply zf; (· kernel_rfl); (· kernel_rfl)) | (simp only [bW, if_true, Nat.reduceEqDiff, if_false])
  refine zK (st1 := ⟨29, [(4, .lref 0 0 50 0), (5, .lref 1 0 50 0), (7, .sl false (es.map encY) 7 none), (8, I (0 : Nat))], [(0, ⟨[.agg zN], 50, false⟩), (1, ⟨[.agg (cN (diagF 5))], 50, false⟩)], 2, 0⟩) lk84_8 (by
    simp only [go_sem, List.map_append, Nat.reduceEqDiff, Nat.reduceLT, Nat.reduceAdd, bI, bD, bI2, cN_ids, cN_ren, zN_ids, zN_ren]
    try rfl) (L84_8 es _ _ hb r1 5 0 _ rfl startB ?_)
  simp only [bW, if_true, Nat.reduceEqDiff, if_false]
  repeat' first | (intro hb; first | cases hb | skip) | ((first | apply z8 | apply zd); (· rfl); (· simp (disch := assumption) only [go_sem, Nat.reduceEqDiff, Nat.reduceAdd, bP, ze, Nat.reduceLeDiff, Nat.reduceLT, Nat.reduceMul, List.length_append, decide_eq_true_eq, z6, z0, Int.reduceToNat, Int.reduceLE, Int.reduceLT, Int.reduceBNe, Int.reduceBEq, cN_len, cN_one, cN_take, zN_len, zN_one, zN_drop]; rfl); (· simp only [go_sem, Nat.reduceLT, Nat.reduceEqDiff]; rfl); (· rfl); first | (apply zc; (· simp only [go_sem, Nat.reduceLT]; rfl); (· simp only [go_sem, Nat.reduceLT]; rfl)) | (apply zg; (· simp only [go_sem, Nat.reduceLT]; rfl))) | ((first | apply za | apply zb); (· rfl); (· simp only [go_sem, Nat.reduceLT]; rfl)) | (apply z9; (· simp only [go_sem, Nat.reduceEqDiff])) | (apply z7; (· simp only [go_sem, Nat.reduceEqDiff])) | (apply zf; (· kernel_rfl); (· kernel_rfl)) | (simp only [bW, if_true, Nat.reduceEqDiff, if_false])
  subst hF
  simp only [go_sem, Nat.reduceEqDiff, bP, Nat.reduceAdd, Nat.reduceLeDiff, List.length_map, Tryd.f84, cN_len, cN_one, cN_take, zN_len, zN_one, zN_drop, cN_snap]

theorem t98 (n d : Int) : (lim cfg).pure 98 [.agg [I n, I d]] = some (.agg [I d, I n]) := by
  refine zo (zk 98) cfn98 rfl (n := 8) rfl ?_
  simp only [bW, if_true, Nat.reduceEqDiff, if_false, zl]
  repeat' first | (intro hb; first | cases hb | skip) | ((first | apply z8 | apply zd); (· rfl); (· simp (disch := assumption) only [go_sem, Nat.reduceEqDiff, Nat.reduceAdd, bP, ze, Nat.reduceLeDiff, Nat.reduceLT, Nat.reduceMul, List.length_append, decide_eq_true_eq, z6, z0, Int.reduceToNat, Int.reduceLE, Int.reduceLT, Int.reduceBNe, Int.reduceBEq]; rfl); (· simp only [go_sem, Nat.reduceLT, Nat.reduceEqDiff]; rfl); (· rfl); first | (apply zc; (· simp only [go_sem, Nat.reduceLT]; rfl); (· simp only [go_sem, Nat.reduceLT]; rfl)) | (apply zg; (· simp only [go_sem, Nat.reduceLT]; rfl))) | ((first | apply za | apply zb); (· rfl); (· simp only [go_sem, Nat.reduceLT]; rfl)) | (apply z9; (· simp only [go_sem, Nat.reduceEqDiff])) | (apply z7; (· simp only [go_sem, Nat.reduceEqDiff])) | (apply zf; (· kernel_rfl); (· kernel_rfl)) | (simp only [bW, if_true, Nat.reduceEqDiff, if_false])
  all_goals simp only [go_sem, Nat.reduceEqDiff, bP, Nat.reduceAdd, Nat.reduceLeDiff, List.length_map, Tryd.f98]
  all_goals first | rfl | (simp_all []; done) | (simp_all []; intros; omega)

theorem L80_6 {F : Exit → St → Option D} (p : Paper) (c : NetF) (a : Int) (k : List Kt) (x : D) (hk : ∀ st, get st.tmps 2 = B false → zB cfg (lim cfg) 80 F k .ret st = some (B false)) : ∀ (n j : Nat), j + n = 5 →
    ((∀ i, j ≤ i → i < 5 → diagOK c i = true) → zB cfg (lim cfg) 80 F k (.exit 2) ⟨30, [(14, B false), (13, I (5 : Nat)), (1, .lref 0 0 3 0), (3, I a), (4, .lref 1 0 50 0), (5, I (5 : Nat))], [(0, ⟨[zj p], 3, false⟩), (1, ⟨[.agg (cN (c))], 50, false⟩)], 2, 0⟩ = some x) →
    ((∃ i, j ≤ i ∧ i < 5 ∧ diagOK c i = false) → x = B false) →
    EvL cfg (lim cfg) 80 F lp80_6 k ⟨30, [(1, .lref 0 0 3 0), (3, I a), (4, .lref 1 0 50 0), (5, I (j : Nat))], [(0, ⟨[zj p], 3, false⟩), (1, ⟨[.agg (cN (c))], 50, false⟩)], 2, 0⟩ = some x := by
  intro n
  induction n with
  | zero =>
    intro j hj h h'
    obtain rfl : j = 5 := by omega
    refine zh ?_
    try dsimp only [lp80_6, zv, zm, Tryd.f80]
    simp only [bW, if_true, Nat.reduceEqDiff, if_false]
    repeat' first | (intro hb; first | cases hb | skip) | ((first | apply z8 | apply zd); (· rfl); (· simp (disch := assumption) only [go_sem, Nat.reduceEqDiff, Nat.reduceAdd, bP, ze, Nat.reduceLeDiff, Nat.reduceLT, Nat.reduceMul, List.length_append, decide_eq_true_eq, z6, z0, Int.reduceToNat, Int.reduceLE, Int.reduceLT, Int.reduceBNe, Int.reduceBEq, show (decide (((5 : Nat) : Int) < 5)) = false from rfl]; rfl); (· simp only [go_sem, Nat.reduceLT, Nat.reduceEqDiff]; rfl); (· rfl); first | (apply zc; (· simp only [go_sem, Nat.reduceLT]; rfl); (· simp only [go_sem, Nat.reduceLT]; rfl)) | (apply zg; (· simp only [go_sem, Nat.reduceLT]; rfl))) | ((first | apply za | apply zb); (· rfl); (· simp only [go_sem, Nat.reduceLT]; rfl)) | (apply z9; (· simp only [go_sem, Nat.reduceEqDiff])) | (apply z7; (· simp only [go_sem, Nat.reduceEqDiff])) | (apply zf; (· kernel_rfl); (· kernel_rfl)) | (simp only [bW, if_true, Nat.reduceEqDiff, if_false])
    exact h fun i h1 h2 => by omega
  | succ n ih =>
    intro j hj h h'
    have hj5 : j < 5 := by omega
    have hi1 : ((j : Int) < 5) = True := by simp; omega
    have hi2 : (j < 5) = True := by simp; omega
    have hw3 : IntKind.i64.wrap ((j : Int) + 1) = ((j + 1 : Nat) : Int) := by rw [wrap_i64 (by omega) (by omega)]; omega
    obtain ⟨hN, hN2, hD⟩ := cN_get (c := c) hj5 hj5
    cases hd : diagOK c j with
    | true =>
      have hd1 : decide ((c j j).n < (c j j).d) = false := by simpa [diagOK] using hd
      refine zh ?_
      try dsimp only [lp80_6, zv, zm, Tryd.f80]
      simp only [bW, if_true, Nat.reduceEqDiff, if_false]
      repeat' first | (intro hb; first | cases hb | skip) | ((first | apply z8 | apply zd); (· rfl); (· simp (disch := assumption) only [go_sem, Nat.reduceEqDiff, Nat.reduceAdd, bP, ze, Nat.reduceLeDiff, Nat.reduceLT, Nat.reduceMul, List.length_append, decide_eq_true_eq, z6, z0, Int.reduceToNat, Int.reduceLE, Int.reduceLT, Int.reduceBNe, Int.reduceBEq, hi1, hi2, hw3, hN, hN2, hd1, cN_len, cN_one, cN_take, zN_len, zN_one, zN_drop]; rfl); (· simp only [go_sem, Nat.reduceLT, Nat.reduceEqDiff]; rfl); (· rfl); first | (apply zc; (· simp only [go_sem, Nat.reduceLT]; rfl); (· simp only [go_sem, Nat.reduceLT]; rfl)) | (apply zg; (· simp only [go_sem, Nat.reduceLT]; rfl))) | ((first | apply za | apply zb); (· rfl); (· simp only [go_sem, Nat.reduceLT]; rfl)) | (apply z9; (· simp only [go_sem, Nat.reduceEqDiff])) | (apply z7; (· simp only [go_sem, Nat.reduceEqDiff])) | (apply zf; (· kernel_rfl); (· kernel_rfl)) | (simp only [bW, if_true, Nat.reduceEqDiff, if_false])
      refine zn (st1 := ⟨30, [(1, .lref 0 0 3 0), (3, I a), (4, .lref 1 0 50 0), (5, I (j + 1 : Nat))], [(0, ⟨[zj p], 3, false⟩), (1, ⟨[.agg (cN (c))], 50, false⟩)], 2, 0⟩) lk80_6 (by
        simp only [go_sem, List.map_append, Nat.reduceEqDiff, Nat.reduceLT, Nat.reduceAdd, bI, bD, bI2, cN_ids, cN_ren, zN_ids, zN_ren, zj]
        try rfl) (ih (j + 1) (by omega) (fun ha => h fun i h1 h2 => ?_) (fun ⟨i, h1, h2, h3⟩ => h' ⟨i, by omega, h2, h3⟩))
      by_cases hij : i = j
      · rw [hij]; exact hd
      · exact ha i (by omega) h2
    | false =>
      have hd1 : decide ((c j j).n < (c j j).d) = true := by simpa [diagOK] using hd
      rw [h' ⟨j, Nat.le_refl _, hj5, hd⟩]
      refine zh ?_
      try dsimp only [lp80_6, zv, zm, Tryd.f80]
      simp only [bW, if_true, Nat.reduceEqDiff, if_false]
      repeat' first | (intro hb; first | cases hb | skip) | ((first | apply z8 | apply zd); (· rfl); (· simp (disch := assumption) only [go_sem, Nat.reduceEqDiff, Nat.reduceAdd, bP, ze, Nat.reduceLeDiff, Nat.reduceLT, Nat.reduceMul, List.length_append, decide_eq_true_eq, z6, z0, Int.reduceToNat, Int.reduceLE, Int.reduceLT, Int.reduceBNe, Int.reduceBEq, hi1, hi2, hw3, hN, hN2, hd1, cN_len, cN_one, cN_take, zN_len, zN_one, zN_drop]; rfl); (· simp only [go_sem, Nat.reduceLT, Nat.reduceEqDiff]; rfl); (· rfl); first | (apply zc; (· simp only [go_sem, Nat.reduceLT]; rfl); (· simp only [go_sem, Nat.reduceLT]; rfl)) | (apply zg; (· simp only [go_sem, Nat.reduceLT]; rfl))) | ((first | apply za | apply zb); (· rfl); (· simp only [go_sem, Nat.reduceLT]; rfl)) | (apply z9; (· simp only [go_sem, Nat.reduceEqDiff])) | (apply z7; (· simp only [go_sem, Nat.reduceEqDiff])) | (apply zf; (· kernel_rfl); (· kernel_rfl)) | (simp only [bW, if_true, Nat.reduceEqDiff, if_false])
      exact hk _ rfl
theorem t80' (p : Paper) (hwf : p.wf) (hok : zu p = true) : (lim cfg).pure 80 [zj p] = some (B (canF p)) := by
  have h840 := t84 p 0 hwf hok
  have h841 := t84 p 1 hwf hok
  have hneg : ∀ c : NetF, (∃ i, 0 ≤ i ∧ i < 5 ∧ diagOK c i = false) → diagAll c = false := by
    rintro c ⟨i, _, h2, h3⟩
    cases h : diagAll c with
    | false => rfl
    | true => rw [diagAll_iff.1 h i h2] at h3; cases h3
  unfold canF
  refine zo (zk 80) cfn80 rfl (n := 30) rfl ?_
  generalize hF : finP cfg Tryd.f80 = F
  simp only [bW, if_true, Nat.reduceEqDiff, if_false, zl]
  have hret : ∀ (v : Bool) st, get st.tmps 2 = B v → F .ret st = some (B v) := by
    intro v st h
    subst hF
    simp only [go_sem, Nat.reduceEqDiff, bP, Nat.reduceAdd, Nat.reduceLeDiff, List.length_map, Tryd.f80, h]
  repeat' first | (intro hb; first | cases hb | skip) | ((first | apply z8 | apply zd); (· rfl); (· simp (disch := assumption) only [go_sem, Nat.reduceEqDiff, Nat.reduceAdd, bP, ze, Nat.reduceLeDiff, Nat.reduceLT, Nat.reduceMul, List.length_append, decide_eq_true_eq, z6, z0, Int.reduceToNat, Int.reduceLE, Int.reduceLT, Int.reduceBNe, Int.reduceBEq]; rfl); (· simp only [go_sem, Nat.reduceLT, Nat.reduceEqDiff]; rfl); (· rfl); first | (apply zc; (· simp only [go_sem, Nat.reduceLT]; rfl); (· simp only [go_sem, Nat.reduceLT]; rfl)) | (apply zg; (· simp only [go_sem, Nat.reduceLT]; rfl))) | ((first | apply za | apply zb); (· rfl); (· simp only [go_sem, Nat.reduceLT]; rfl)) | (apply z9; (· simp only [go_sem, Nat.reduceEqDiff])) | (apply z7; (· simp only [go_sem, Nat.reduceEqDiff])) | (apply zf; (· kernel_rfl); (· kernel_rfl)) | (simp only [bW, if_true, Nat.reduceEqDiff, if_false])
  refine zK (st1 := ⟨30, [(1, .lref 0 0 3 0), (3, I 0)], [(0, ⟨[zj p], 3, false⟩)], 1, 0⟩) lk80_2 (by kernel_rfl) ?_
  refine zh ?_
  try dsimp only [lp80_2, zv, zm, Tryd.f80]
  simp only [bW, if_true, Nat.reduceEqDiff, if_false]
  repeat' first | (intro hb; first | cases hb | skip) | ((first | apply z8 | apply zd); (· rfl); (· simp (disch := assumption) only [go_sem, Nat.reduceEqDiff, Nat.reduceAdd, bP, ze, Nat.reduceLeDiff, Nat.reduceLT, Nat.reduceMul, List.length_append, decide_eq_true_eq, z6, z0, Int.reduceToNat, Int.reduceLE, Int.reduceLT, Int.reduceBNe, Int.reduceBEq, h840, cN_one, cN_len, zN_len, zN_drop, cN_flat]; rfl); (· simp only [go_sem, Nat.reduceLT, Nat.reduceEqDiff]; rfl); (· rfl); first | (apply zc; (· simp only [go_sem, Nat.reduceLT]; rfl); (· simp only [go_sem, Nat.reduceLT]; rfl)) | (apply zg; (· simp only [go_sem, Nat.reduceLT]; rfl))) | ((first | apply za | apply zb); (· rfl); (· simp only [go_sem, Nat.reduceLT]; rfl)) | (apply z9; (· simp only [go_sem, Nat.reduceEqDiff])) | (apply z7; (· simp only [go_sem, Nat.reduceEqDiff])) | (apply zf; (· kernel_rfl); (· kernel_rfl)) | (simp only [bW, if_true, Nat.reduceEqDiff, if_false])
  refine zK (st1 := ⟨30, [(1, .lref 0 0 3 0), (3, I 0), (4, .lref 1 0 50 0), (5, I (0 : Nat))], [(0, ⟨[zj p], 3, false⟩), (1, ⟨[.agg (cN (netR p 0))], 50, false⟩)], 2, 0⟩) lk80_6 (by
    simp only [go_sem, List.map_append, Nat.reduceEqDiff, Nat.reduceLT, Nat.reduceAdd, bI, bD, bI2, cN_ids, cN_ren, zN_ids, zN_ren, zj]
    try rfl) (L80_6 p _ 0 _ _ (fun st h => by simp only [bW, if_true, Nat.reduceEqDiff, if_false]; exact hret false st h) 5 0 rfl (fun h0 => ?_) (fun h => by rw [hneg _ h, Bool.false_and]))
  rw [diagAll_iff.2 fun i hi => h0 i (Nat.zero_le _) hi, Bool.true_and]
  simp only [bW, if_true, Nat.reduceEqDiff, if_false]
  repeat' first | (intro hb; first | cases hb | skip) | ((first | apply z8 | apply zd); (· rfl); (· simp (disch := assumption) only [go_sem, Nat.reduceEqDiff, Nat.reduceAdd, bP, ze, Nat.reduceLeDiff, Nat.reduceLT, Nat.reduceMul, List.length_append, decide_eq_true_eq, z6, z0, Int.reduceToNat, Int.reduceLE, Int.reduceLT, Int.reduceBNe, Int.reduceBEq, show IntKind.i64.wrap (0 + 1) = 1 from by decide]; rfl); (· simp only [go_sem, Nat.reduceLT, Nat.reduceEqDiff]; rfl); (· rfl); first | (apply zc; (· simp only [go_sem, Nat.reduceLT]; rfl); (· simp only [go_sem, Nat.reduceLT]; rfl)) | (apply zg; (· simp only [go_sem, Nat.reduceLT]; rfl))) | ((first | apply za | apply zb); (· rfl); (· simp only [go_sem, Nat.reduceLT]; rfl)) | (apply z9; (· simp only [go_sem, Nat.reduceEqDiff])) | (apply z7; (· simp only [go_sem, Nat.reduceEqDiff])) | (apply zf; (· kernel_rfl); (· kernel_rfl)) | (simp only [bW, if_true, Nat.reduceEqDiff, if_false])
  refine zn (st1 := ⟨30, [(1, .lref 0 0 3 0), (3, I 1)], [(0, ⟨[zj p], 3, false⟩)], 1, 0⟩) lk80_2 (by
    simp only [go_sem, List.map_append, Nat.reduceEqDiff, Nat.reduceLT, Nat.reduceAdd, bI, bD, bI2, cN_ids, cN_ren, zN_ids, zN_ren, zj]
    try rfl) ?_
  refine zh ?_
  try dsimp only [lp80_2, zv, zm, Tryd.f80]
  simp only [bW, if_true, Nat.reduceEqDiff, if_false]
  repeat' first | (intro hb; first | cases hb | skip) | ((first | apply z8 | apply zd); (· rfl); (· simp (disch := assumption) only [go_sem, Nat.reduceEqDiff, Nat.reduceAdd, bP, ze, Nat.reduceLeDiff, Nat.reduceLT, Nat.reduceMul, List.length_append, decide_eq_true_eq, z6, z0, Int.reduceToNat, Int.reduceLE, Int.reduceLT, Int.reduceBNe, Int.reduceBEq, h841, cN_one, cN_len, zN_len, zN_drop, cN_flat]; rfl); (· simp only [go_sem, Nat.reduceLT, Nat.reduceEqDiff]; rfl); (· rfl); first | (apply zc; (· simp only [go_sem, Nat.reduceLT]; rfl); (· simp only [go_sem, Nat.reduceLT]; rfl)) | (apply zg; (· simp only [go_sem, Nat.reduceLT]; rfl))) | ((first | apply za | apply zb); (· rfl); (· simp only [go_sem, Nat.reduceLT]; rfl)) | (apply z9; (· simp only [go_sem, Nat.reduceEqDiff])) | (apply z7; (· simp only [go_sem, Nat.reduceEqDiff])) | (apply zf; (· kernel_rfl); (· kernel_rfl)) | (simp only [bW, if_true, Nat.reduceEqDiff, if_false])
  refine zK (st1 := ⟨30, [(1, .lref 0 0 3 0), (3, I 1), (4, .lref 1 0 50 0), (5, I (0 : Nat))], [(0, ⟨[zj p], 3, false⟩), (1, ⟨[.agg (cN (netR p 1))], 50, false⟩)], 2, 0⟩) lk80_6 (by
    simp only [go_sem, List.map_append, Nat.reduceEqDiff, Nat.reduceLT, Nat.reduceAdd, bI, bD, bI2, cN_ids, cN_ren, zN_ids, zN_ren, zj]
    try rfl) (L80_6 p _ 1 _ _ (fun st h => by simp only [bW, if_true, Nat.reduceEqDiff, if_false]; exact hret false st h) 5 0 rfl (fun h1 => ?_) (fun h => by rw [hneg _ h]))
  rw [diagAll_iff.2 fun i hi => h1 i (Nat.zero_le _) hi]
  simp only [bW, if_true, Nat.reduceEqDiff, if_false]
  repeat' first | (intro hb; first | cases hb | skip) | ((first | apply z8 | apply zd); (· rfl); (· simp (disch := assumption) only [go_sem, Nat.reduceEqDiff, Nat.reduceAdd, bP, ze, Nat.reduceLeDiff, Nat.reduceLT, Nat.reduceMul, List.length_append, decide_eq_true_eq, z6, z0, Int.reduceToNat, Int.reduceLE, Int.reduceLT, Int.reduceBNe, Int.reduceBEq, show IntKind.i64.wrap (1 + 1) = 2 from by decide]; rfl); (· simp only [go_sem, Nat.reduceLT, Nat.reduceEqDiff]; rfl); (· rfl); first | (apply zc; (· simp only [go_sem, Nat.reduceLT]; rfl); (· simp only [go_sem, Nat.reduceLT]; rfl)) | (apply zg; (· simp only [go_sem, Nat.reduceLT]; rfl))) | ((first | apply za | apply zb); (· rfl); (· simp only [go_sem, Nat.reduceLT]; rfl)) | (apply z9; (· simp only [go_sem, Nat.reduceEqDiff])) | (apply z7; (· simp only [go_sem, Nat.reduceEqDiff])) | (apply zf; (· kernel_rfl); (· kernel_rfl)) | (simp only [bW, if_true, Nat.reduceEqDiff, if_false])
  refine zn (st1 := ⟨30, [(1, .lref 0 0 3 0), (3, I 2)], [(0, ⟨[zj p], 3, false⟩)], 1, 0⟩) lk80_2 (by
    simp only [go_sem, List.map_append, Nat.reduceEqDiff, Nat.reduceLT, Nat.reduceAdd, bI, bD, bI2, cN_ids, cN_ren, zN_ids, zN_ren, zj]
    try rfl) ?_
  refine zh ?_
  try dsimp only [lp80_2, zv, zm, Tryd.f80]
  simp only [bW, if_true, Nat.reduceEqDiff, if_false]
  repeat' first | (intro hb; first | cases hb | skip) | ((first | apply z8 | apply zd); (· rfl); (· simp (disch := assumption) only [go_sem, Nat.reduceEqDiff, Nat.reduceAdd, bP, ze, Nat.reduceLeDiff, Nat.reduceLT, Nat.reduceMul, List.length_append, decide_eq_true_eq, z6, z0, Int.reduceToNat, Int.reduceLE, Int.reduceLT, Int.reduceBNe, Int.reduceBEq]; rfl); (· simp only [go_sem, Nat.reduceLT, Nat.reduceEqDiff]; rfl); (· rfl); first | (apply zc; (· simp only [go_sem, Nat.reduceLT]; rfl); (· simp only [go_sem, Nat.reduceLT]; rfl)) | (apply zg; (· simp only [go_sem, Nat.reduceLT]; rfl))) | ((first | apply za | apply zb); (· rfl); (· simp only [go_sem, Nat.reduceLT]; rfl)) | (apply z9; (· simp only [go_sem, Nat.reduceEqDiff])) | (apply z7; (· simp only [go_sem, Nat.reduceEqDiff])) | (apply zf; (· kernel_rfl); (· kernel_rfl)) | (simp only [bW, if_true, Nat.reduceEqDiff, if_false])
  exact hret true _ rfl
theorem t80 (p : Paper) (hwf : p.wf) (hok : zu p = true) : (lim cfg).pure 80 [zj p] = some (B (possibleF p)) := by rw [← can_possible hok]; exact t80' p hwf hok

theorem L82_7 {F : Exit → St → Option D} (p : Paper) (ax : Int) (nl : Bool) (ss : List Int) (k : List Kt) (x : D) (sz : Nat) (hsz : nl = false → sz = 1) (hnl : nl = true → ss = []) (hlen : ss.length ≤ 9223372036854775807) (hsh : IntKind.i64.wrap (p.sheets - 1) = p.sheets - 1) (hk : ∀ st, get st.tmps 6 = I 1 → zB cfg (lim cfg) 82 F k .ret st = some (I 1)) : ∀ (rest : List Int) (i : Nat), ss.drop i = rest → i ≤ ss.length →
    (rest.all (zz p) = true → zB cfg (lim cfg) 82 F k (.exit 0) ⟨35, [(20, B false), (19, I ss.length), (18, .sl nl (ss.map I) sz none), (17, I (ss.length : Nat)), (1, I ax), (2, .sl nl (ss.map I) sz none), (3, .lref 0 0 3 0), (8, I (ss.length : Nat))], [(0, ⟨[zj p], 3, false⟩)], 1, 0⟩ = some x) →
    (rest.all (zz p) = false → x = I 1) →
    EvL cfg (lim cfg) 82 F lp82_7 k ⟨35, [(1, I ax), (2, .sl nl (ss.map I) sz none), (3, .lref 0 0 3 0), (8, I (i : Nat))], [(0, ⟨[zj p], 3, false⟩)], 1, 0⟩ = some x := by
  have hls := len_if (f := I) hnl
  intro rest
  induction rest with
  | nil =>
    intro i hd hi h h'
    have hi' : i = ss.length := by
      have := List.drop_eq_nil_iff.1 hd
      omega
    subst hi'
    refine zh ?_
    try dsimp only [lp82_7, zv, zm, Tryd.f82]
    simp only [bW, if_true, Nat.reduceEqDiff, if_false]
    repeat' first | (intro hb; first | cases hb | skip) | ((first | apply z8 | apply zd); (· rfl); (· simp (disch := assumption) only [go_sem, Nat.reduceEqDiff, Nat.reduceAdd, bP, ze, Nat.reduceLeDiff, Nat.reduceLT, Nat.reduceMul, List.length_append, decide_eq_true_eq, z6, z0, Int.reduceToNat, Int.reduceLE, Int.reduceLT, Int.reduceBNe, Int.reduceBEq, hls, Int.lt_irrefl]; rfl); (· simp only [go_sem, Nat.reduceLT, Nat.reduceEqDiff]; rfl); (· rfl); first | (apply zc; (· simp only [go_sem, Nat.reduceLT]; rfl); (· simp only [go_sem, Nat.reduceLT]; rfl)) | (apply zg; (· simp only [go_sem, Nat.reduceLT]; rfl))) | ((first | apply za | apply zb); (· rfl); (· simp only [go_sem, Nat.reduceLT]; rfl)) | (apply z9; (· simp only [go_sem, Nat.reduceEqDiff])) | (apply z7; (· simp only [go_sem, Nat.reduceEqDiff])) | (apply zf; (· kernel_rfl); (· kernel_rfl)) | (simp only [bW, if_true, Nat.reduceEqDiff, if_false])
    exact h rfl
  | cons m rest ih =>
    intro i hd hi h h'
    have hlt : i < ss.length := by
      rcases Nat.lt_or_ge i ss.length with h | h
      · exact h
      · rw [List.drop_eq_nil_of_le h] at hd; cases hd
    have hm : ss[i]? = some m := by rw [← List.head?_drop, hd]; rfl
    have hx : (ss.map I)[i]? = some (I m) := by rw [List.getElem?_map, hm]; rfl
    have hnm : nl = false := by
      cases h : nl with
      | false => rfl
      | true => rw [hnl h] at hlt; cases hlt
    have hsz1 := hsz hnm
    clear hsz
    subst hsz1
    have hlt' : (i : Int) < (ss.length : Int) := by omega
    have hw3 : IntKind.i64.wrap ((i : Int) + 1) = ((i + 1 : Nat) : Int) := by rw [wrap_i64 (by omega) (by omega)]; omega
    have hs77 : (lim cfg).pure 77 [I m, I 0, I (p.sheets - 1)] = some (B (zz p m)) := by
      rw [t77]; unfold zz; rw [show decide (m ≤ p.sheets - 1) = decide (m < p.sheets) by rw [decide_eq_decide]; omega]
    have hlm' : ((ss.map I).length : Int) = (ss.length : Int) := by simp
    cases hs : zz p m with
    | true =>
      rw [hs] at hs77
      simp only [List.all_cons, hs, Bool.true_and] at h h'
      refine zh ?_
      try dsimp only [lp82_7, zv, zm, Tryd.f82]
      simp only [bW, if_true, Nat.reduceEqDiff, if_false]
      repeat' first | (intro hb; first | cases hb | skip) | ((first | apply z8 | apply zd); (· rfl); (· simp (disch := assumption) only [go_sem, Nat.reduceEqDiff, Nat.reduceAdd, bP, ze, Nat.reduceLeDiff, Nat.reduceLT, Nat.reduceMul, List.length_append, decide_eq_true_eq, z6, z0, Int.reduceToNat, Int.reduceLE, Int.reduceLT, Int.reduceBNe, Int.reduceBEq, hlm', hx, hnm, hlt', hw3, hsh, hs77]; rfl); (· simp only [go_sem, Nat.reduceLT, Nat.reduceEqDiff]; rfl); (· rfl); first | (apply zc; (· simp only [go_sem, Nat.reduceLT]; rfl); (· simp only [go_sem, Nat.reduceLT]; rfl)) | (apply zg; (· simp only [go_sem, Nat.reduceLT]; rfl))) | ((first | apply za | apply zb); (· rfl); (· simp only [go_sem, Nat.reduceLT]; rfl)) | (apply z9; (· simp only [go_sem, Nat.reduceEqDiff])) | (apply z7; (· simp only [go_sem, Nat.reduceEqDiff])) | (apply zf; (· kernel_rfl); (· kernel_rfl)) | (simp only [bW, if_true, Nat.reduceEqDiff, if_false])
      exact zn (st1 := ⟨35, [(1, I ax), (2, .sl nl (ss.map I) 1 none), (3, .lref 0 0 3 0), (8, I (i + 1 : Nat))], [(0, ⟨[zj p], 3, false⟩)], 1, 0⟩) lk82_7 (by kernel_rfl) (ih (i + 1) (by rw [← List.drop_drop, hd]; rfl) hlt h h')
    | false =>
      rw [hs] at hs77
      rw [h' (by simp [hs])]
      refine zh ?_
      try dsimp only [lp82_7, zv, zm, Tryd.f82]
      simp only [bW, if_true, Nat.reduceEqDiff, if_false]
      repeat' first | (intro hb; first | cases hb | skip) | ((first | apply z8 | apply zd); (· rfl); (· simp (disch := assumption) only [go_sem, Nat.reduceEqDiff, Nat.reduceAdd, bP, ze, Nat.reduceLeDiff, Nat.reduceLT, Nat.reduceMul, List.length_append, decide_eq_true_eq, z6, z0, Int.reduceToNat, Int.reduceLE, Int.reduceLT, Int.reduceBNe, Int.reduceBEq, hlm', hx, hnm, hlt', hw3, hsh, hs77]; rfl); (· simp only [go_sem, Nat.reduceLT, Nat.reduceEqDiff]; rfl); (· rfl); first | (apply zc; (· simp only [go_sem, Nat.reduceLT]; rfl); (· simp only [go_sem, Nat.reduceLT]; rfl)) | (apply zg; (· simp only [go_sem, Nat.reduceLT]; rfl))) | ((first | apply za | apply zb); (· rfl); (· simp only [go_sem, Nat.reduceLT]; rfl)) | (apply z9; (· simp only [go_sem, Nat.reduceEqDiff])) | (apply z7; (· simp only [go_sem, Nat.reduceEqDiff])) | (apply zf; (· kernel_rfl); (· kernel_rfl)) | (simp only [bW, if_true, Nat.reduceEqDiff, if_false])
      exact hk _ rfl
theorem t82 (p : Paper) (ax : Int) (nl : Bool) (ss : List Int) (hwf : p.wf) (sz : Nat) (hsz : nl = false → sz = 1) (hnl : nl = true → ss = []) (hlen : ss.length ≤ 9223372036854775807) : (lim cfg).pure 82 [zj p, I ax, .sl nl (ss.map I) sz none] = some (I (zJ p ax ss)) := by
  have h28 := t28 p hwf
  unfold zJ
  unfold check at h28
  have h77 : (lim cfg).pure 77 [I ax, I 0, I 1] = some (B (isAxis ax)) := by
    rw [t77]; unfold isAxis; congr 3; rw [Bool.eq_iff_iff]; simp; omega
  cases hok : zu p with
  | false =>
    rw [hok] at h28
    simp only [Bool.false_eq_true, if_false] at h28 ⊢
    refine zo (zk 82) cfn82 rfl (n := 35) rfl ?_
    simp only [bW, if_true, Nat.reduceEqDiff, if_false, zl]
    repeat' first | (intro hb; first | cases hb | skip) | ((first | apply z8 | apply zd); (· rfl); (· simp (disch := assumption) only [go_sem, Nat.reduceEqDiff, Nat.reduceAdd, bP, ze, Nat.reduceLeDiff, Nat.reduceLT, Nat.reduceMul, List.length_append, decide_eq_true_eq, z6, z0, Int.reduceToNat, Int.reduceLE, Int.reduceLT, Int.reduceBNe, Int.reduceBEq, h28]; rfl); (· simp only [go_sem, Nat.reduceLT, Nat.reduceEqDiff]; rfl); (· rfl); first | (apply zc; (· simp only [go_sem, Nat.reduceLT]; rfl); (· simp only [go_sem, Nat.reduceLT]; rfl)) | (apply zg; (· simp only [go_sem, Nat.reduceLT]; rfl))) | ((first | apply za | apply zb); (· rfl); (· simp only [go_sem, Nat.reduceLT]; rfl)) | (apply z9; (· simp only [go_sem, Nat.reduceEqDiff])) | (apply z7; (· simp only [go_sem, Nat.reduceEqDiff])) | (apply zf; (· kernel_rfl); (· kernel_rfl)) | (simp only [bW, if_true, Nat.reduceEqDiff, if_false])
    all_goals try simp only [go_sem, Nat.reduceEqDiff, bP, Nat.reduceAdd, Nat.reduceLeDiff, List.length_map, Tryd.f82]
    all_goals first | done | rfl | (simp_all []; done) | trace_state
  | true =>
    rw [hok] at h28
    simp only [if_true] at h28 ⊢
    obtain ⟨o1, o2, -⟩ := zA hok
    have hsh : IntKind.i64.wrap (p.sheets - 1) = p.sheets - 1 := wrap_i64 (by omega) (by omega)
    have h80 := t80 p hwf hok
    cases hp : possibleF p with
    | false =>
      rw [hp] at h80
      simp only [Bool.false_eq_true, if_false]
      refine zo (zk 82) cfn82 rfl (n := 35) rfl ?_
      simp only [bW, if_true, Nat.reduceEqDiff, if_false, zl]
      repeat' first | (intro hb; first | cases hb | skip) | ((first | apply z8 | apply zd); (· rfl); (· simp (disch := assumption) only [go_sem, Nat.reduceEqDiff, Nat.reduceAdd, bP, ze, Nat.reduceLeDiff, Nat.reduceLT, Nat.reduceMul, List.length_append, decide_eq_true_eq, z6, z0, Int.reduceToNat, Int.reduceLE, Int.reduceLT, Int.reduceBNe, Int.reduceBEq, h28, h80]; rfl); (· simp only [go_sem, Nat.reduceLT, Nat.reduceEqDiff]; rfl); (· rfl); first | (apply zc; (· simp only [go_sem, Nat.reduceLT]; rfl); (· simp only [go_sem, Nat.reduceLT]; rfl)) | (apply zg; (· simp only [go_sem, Nat.reduceLT]; rfl))) | ((first | apply za | apply zb); (· rfl); (· simp only [go_sem, Nat.reduceLT]; rfl)) | (apply z9; (· simp only [go_sem, Nat.reduceEqDiff])) | (apply z7; (· simp only [go_sem, Nat.reduceEqDiff])) | (apply zf; (· kernel_rfl); (· kernel_rfl)) | (simp only [bW, if_true, Nat.reduceEqDiff, if_false])
      all_goals try simp only [go_sem, Nat.reduceEqDiff, bP, Nat.reduceAdd, Nat.reduceLeDiff, List.length_map, Tryd.f82]
      all_goals first | done | rfl | (simp_all []; done) | trace_state
    | true =>
      rw [hp] at h80
      simp only [if_true]
      refine zo (zk 82) cfn82 rfl (n := 35) rfl ?_
      generalize hF : finP cfg Tryd.f82 = F
      simp only [bW, if_true, Nat.reduceEqDiff, if_false, zl]
      have hend : ∀ (v : Int) st, get st.tmps 6 = I v → F .ret st = some (I v) := by
        intro v st hd
        subst hF
        simp only [go_sem, Nat.reduceEqDiff, bP, Nat.reduceAdd, Nat.reduceLeDiff, List.length_map, Tryd.f82, hd]
      repeat' first | (intro hb; first | cases hb | skip) | ((first | apply z8 | apply zd); (· rfl); (· simp (disch := assumption) only [go_sem, Nat.reduceEqDiff, Nat.reduceAdd, bP, ze, Nat.reduceLeDiff, Nat.reduceLT, Nat.reduceMul, List.length_append, decide_eq_true_eq, z6, z0, Int.reduceToNat, Int.reduceLE, Int.reduceLT, Int.reduceBNe, Int.reduceBEq, h28, h80]; rfl); (· simp only [go_sem, Nat.reduceLT, Nat.reduceEqDiff]; rfl); (· rfl); first | (apply zc; (· simp only [go_sem, Nat.reduceLT]; rfl); (· simp only [go_sem, Nat.reduceLT]; rfl)) | (apply zg; (· simp only [go_sem, Nat.reduceLT]; rfl))) | ((first | apply za | apply zb); (· rfl); (· simp only [go_sem, Nat.reduceLT]; rfl)) | (apply z9; (· simp only [go_sem, Nat.reduceEqDiff])) | (apply z7; (· simp only [go_sem, Nat.reduceEqDiff])) | (apply zf; (· kernel_rfl); (· kernel_rfl)) | (simp only [bW, if_true, Nat.reduceEqDiff, if_false])
      refine zK (st1 := ⟨35, [(1, I ax), (2, .sl nl (ss.map I) sz none), (3, .lref 0 0 3 0), (8, I (0 : Nat))], [(0, ⟨[zj p], 3, false⟩)], 1, 0⟩) lk82_7 (by kernel_rfl) (L82_7 p ax nl ss _ _ sz hsz hnl hlen hsh (fun st hd => ?_) ss 0 rfl (Nat.zero_le _) (fun ha => ?_) (fun ha => ?_))
      · simp only [bW, if_true, Nat.reduceEqDiff, if_false]
        exact hend 1 st hd
      · cases hax : isAxis ax with
        | true =>
          rw [hax] at h77
          rw [show namedF p ax ss = 0 by simp [namedF, ha, hax]]
          simp only [bW, if_true, Nat.reduceEqDiff, if_false]
          repeat' first | (intro hb; first | cases hb | skip) | ((first | apply z8 | apply zd); (· rfl); (· simp (disch := assumption) only [go_sem, Nat.reduceEqDiff, Nat.reduceAdd, bP, ze, Nat.reduceLeDiff, Nat.reduceLT, Nat.reduceMul, List.length_append, decide_eq_true_eq, z6, z0, Int.reduceToNat, Int.reduceLE, Int.reduceLT, Int.reduceBNe, Int.reduceBEq, h77]; rfl); (· simp only [go_sem, Nat.reduceLT, Nat.reduceEqDiff]; rfl); (· rfl); first | (apply zc; (· simp only [go_sem, Nat.reduceLT]; rfl); (· simp only [go_sem, Nat.reduceLT]; rfl)) | (apply zg; (· simp only [go_sem, Nat.reduceLT]; rfl))) | ((first | apply za | apply zb); (· rfl); (· simp only [go_sem, Nat.reduceLT]; rfl)) | (apply z9; (· simp only [go_sem, Nat.reduceEqDiff])) | (apply z7; (· simp only [go_sem, Nat.reduceEqDiff])) | (apply zf; (· kernel_rfl); (· kernel_rfl)) | (simp only [bW, if_true, Nat.reduceEqDiff, if_false])
          exact hend 0 _ rfl
        | false =>
          rw [hax] at h77
          rw [show namedF p ax ss = 1 by simp [namedF, ha, hax]]
          simp only [bW, if_true, Nat.reduceEqDiff, if_false]
          repeat' first | (intro hb; first | cases hb | skip) | ((first | apply z8 | apply zd); (· rfl); (· simp (disch := assumption) only [go_sem, Nat.reduceEqDiff, Nat.reduceAdd, bP, ze, Nat.reduceLeDiff, Nat.reduceLT, Nat.reduceMul, List.length_append, decide_eq_true_eq, z6, z0, Int.reduceToNat, Int.reduceLE, Int.reduceLT, Int.reduceBNe, Int.reduceBEq, h77]; rfl); (· simp only [go_sem, Nat.reduceLT, Nat.reduceEqDiff]; rfl); (· rfl); first | (apply zc; (· simp only [go_sem, Nat.reduceLT]; rfl); (· simp only [go_sem, Nat.reduceLT]; rfl)) | (apply zg; (· simp only [go_sem, Nat.reduceLT]; rfl))) | ((first | apply za | apply zb); (· rfl); (· simp only [go_sem, Nat.reduceLT]; rfl)) | (apply z9; (· simp only [go_sem, Nat.reduceEqDiff])) | (apply z7; (· simp only [go_sem, Nat.reduceEqDiff])) | (apply zf; (· kernel_rfl); (· kernel_rfl)) | (simp only [bW, if_true, Nat.reduceEqDiff, if_false])
          exact hend 1 _ rfl
      · rw [show namedF p ax ss = 1 by simp [namedF, ha]]

end Go.VS
namespace Go.VS
open Go Go.Proofs
set_option maxHeartbeats 0
set_option linter.unusedSimpArgs false

noncomputable def lp34_6 : Code := zv [1, 1, 1, 0, 1, 0, 0] (zm Tryd.f34)
theorem lk34_6 : cfg.keep 34 (zq lp34_6) = [1, 6, 7, 8] := by kernel_rfl

noncomputable def lp35_4 : Code := zv [1, 1, 0, 1, 0, 0] (zm Tryd.f35)
theorem lk35_4 : cfg.keep 35 (zq lp35_4) = [0, 1, 5] := by kernel_rfl

theorem t31 (p : Paper) (hwf : p.wf) : (lim cfg).pure 31 [zj p] = some (if zu p then .tup [B (possibleF p), I 0] else .tup [B false, I 30]) := by
  have h28 := t28 p hwf
  unfold check at h28
  cases hok : zu p with
  | false =>
    rw [hok] at h28
    simp only [Bool.false_eq_true, if_false] at h28 ⊢
    refine zo (zk 31) cfn31 rfl (n := 12) rfl ?_
    simp only [bW, if_true, Nat.reduceEqDiff, if_false, zl]
    repeat' first | (intro hb; first | cases hb | skip) | ((first | apply z8 | apply zd); (· rfl); (· simp (disch := assumption) only [go_sem, Nat.reduceEqDiff, Nat.reduceAdd, bP, ze, Nat.reduceLeDiff, Nat.reduceLT, Nat.reduceMul, List.length_append, decide_eq_true_eq, z6, z0, Int.reduceToNat, Int.reduceLE, Int.reduceLT, Int.reduceBNe, Int.reduceBEq, h28]; rfl); (· simp only [go_sem, Nat.reduceLT, Nat.reduceEqDiff]; rfl); (· rfl); first | (apply zc; (· simp only [go_sem, Nat.reduceLT]; rfl); (· simp only [go_sem, Nat.reduceLT]; rfl)) | (apply zg; (· simp only [go_sem, Nat.reduceLT]; rfl))) | ((first | apply za | apply zb); (· rfl); (· simp only [go_sem, Nat.reduceLT]; rfl)) | (apply z9; (· simp only [go_sem, Nat.reduceEqDiff])) | (apply z7; (· simp only [go_sem, Nat.reduceEqDiff])) | (apply zf; (· kernel_rfl); (· kernel_rfl)) | (simp only [bW, if_true, Nat.reduceEqDiff, if_false])
    all_goals try simp only [go_sem, Nat.reduceEqDiff, bP, Nat.reduceAdd, Nat.reduceLeDiff, List.length_map, Tryd.f31]
    all_goals first | done | rfl | (simp_all []; done) | trace_state
  | true =>
    rw [hok] at h28
    simp only [if_true] at h28 ⊢
    have h80 := t80 p hwf hok
    refine zo (zk 31) cfn31 rfl (n := 12) rfl ?_
    simp only [bW, if_true, Nat.reduceEqDiff, if_false, zl]
    repeat' first | (intro hb; first | cases hb | skip) | ((first | apply z8 | apply zd); (· rfl); (· simp (disch := assumption) only [go_sem, Nat.reduceEqDiff, Nat.reduceAdd, bP, ze, Nat.reduceLeDiff, Nat.reduceLT, Nat.reduceMul, List.length_append, decide_eq_true_eq, z6, z0, Int.reduceToNat, Int.reduceLE, Int.reduceLT, Int.reduceBNe, Int.reduceBEq, h28, h80]; rfl); (· simp only [go_sem, Nat.reduceLT, Nat.reduceEqDiff]; rfl); (· rfl); first | (apply zc; (· simp only [go_sem, Nat.reduceLT]; rfl); (· simp only [go_sem, Nat.reduceLT]; rfl)) | (apply zg; (· simp only [go_sem, Nat.reduceLT]; rfl))) | ((first | apply za | apply zb); (· rfl); (· simp only [go_sem, Nat.reduceLT]; rfl)) | (apply z9; (· simp only [go_sem, Nat.reduceEqDiff])) | (apply z7; (· simp only [go_sem, Nat.reduceEqDiff])) | (apply zf; (· kernel_rfl); (· kernel_rfl)) | (simp only [bW, if_true, Nat.reduceEqDiff, if_false])
    all_goals try simp only [go_sem, Nat.reduceEqDiff, bP, Nat.reduceAdd, Nat.reduceLeDiff, List.length_map, Tryd.f31]
    all_goals first | done | rfl | (simp_all []; done) | trace_state

theorem t83 (p : Paper) (s ax : Int) (hwf : p.wf) (hok : zu p = true) (hc : clashA p ax = none) (hs : zz p s = true) : (lim cfg).pure 83 [zj p, I s, I ax] = some (.tup [.agg [I (loF p s ax).n, I (loF p s ax).d], .agg [I (hiF p s ax).n, I (hiF p s ax).d]]) := by
  obtain ⟨u, hu, u1, u2⟩ := sheet_pos hok
  obtain ⟨i, rfl, hi, _⟩ := sheet_nat hs
  have hiu : i < u := by omega
  rw [net_lo hok hc hu hiu, net_hi hok hc hu hiu]
  have h84 := t84 p ax hwf hok
  generalize netR p ax = c at *
  have hi5 : i < 5 := by omega
  have hu5 : u < 5 := by omega
  obtain ⟨-, -, g1⟩ := cN_get (c := c) hu5 hi5
  obtain ⟨-, -, g2⟩ := cN_get (c := c) hi5 hu5
  have k1 : (u * 10 + i * 2 + 2 ≤ 50) = True := by simp; omega
  have k2 : (i * 10 + u * 2 + 2 ≤ 50) = True := by simp; omega
  have hi5' : (i < 5) = True := by simp [hi5]
  have hu5' : (u < 5) = True := by simp [hu5]
  simp only [zj, hu] at h84
  refine zo (zk 83) cfn83 rfl (n := 25) rfl ?_
  simp only [bW, if_true, Nat.reduceEqDiff, if_false, zl]
  repeat' first | (intro hb; first | cases hb | skip) | ((first | apply z8 | apply zd); (· rfl); (· simp (disch := assumption) only [go_sem, Nat.reduceEqDiff, Nat.reduceAdd, bP, ze, Nat.reduceLeDiff, Nat.reduceLT, Nat.reduceMul, List.length_append, decide_eq_true_eq, z6, z0, Int.reduceToNat, Int.reduceLE, Int.reduceLT, Int.reduceBNe, Int.reduceBEq, h84, hu, t98, g1, g2, k1, k2, hi5', hu5', zN_drop, cN_len, cN_one, cN_take, zN_len, zN_one]; rfl); (· simp only [go_sem, Nat.reduceLT, Nat.reduceEqDiff]; rfl); (· rfl); first | (apply zc; (· simp only [go_sem, Nat.reduceLT]; rfl); (· simp only [go_sem, Nat.reduceLT]; rfl)) | (apply zg; (· simp only [go_sem, Nat.reduceLT]; rfl))) | ((first | apply za | apply zb); (· rfl); (· simp only [go_sem, Nat.reduceLT]; rfl)) | (apply z9; (· simp only [go_sem, Nat.reduceEqDiff])) | (apply z7; (· simp only [go_sem, Nat.reduceEqDiff])) | (apply zf; (· kernel_rfl); (· kernel_rfl)) | (simp only [bW, if_true, Nat.reduceEqDiff, if_false])
  all_goals try simp only [go_sem, Nat.reduceEqDiff, bP, Nat.reduceAdd, Nat.reduceLeDiff, List.length_map, Tryd.f83]
  all_goals first | done | rfl | (simp_all []; done) | trace_state

theorem t36 (p : Paper) (s ax : Int) (hwf : p.wf) : (lim cfg).pure 36 [zj p, I s, I ax] = some (if zJ p ax [s] = 0 then .tup [.agg [I (loF p s ax).n, I (loF p s ax).d], .agg [I (hiF p s ax).n, I (hiF p s ax).d], I 0] else .tup [.agg [I 0, I 0], .agg [I 0, I 0], I (zJ p ax [s])]) := by
  have h82 := t82 p ax false [s] hwf 1 (by simp) (by simp) (by simp)
  simp only [List.map_cons, List.map_nil] at h82
  by_cases hk : zJ p ax [s] = 0
  · rw [if_pos hk]
    rw [hk] at h82
    obtain ⟨hok, hp, hs, hax⟩ := known_zero.1 hk
    simp at hs
    have h83 := t83 p s ax hwf hok (poss_none hp hax) hs
    refine zo (zk 36) cfn36 rfl (n := 31) rfl ?_
    simp only [bW, if_true, Nat.reduceEqDiff, if_false, zl]
    repeat' first | (intro hb; first | cases hb | skip) | ((first | apply z8 | apply zd); (· rfl); (· simp (disch := assumption) only [go_sem, Nat.reduceEqDiff, Nat.reduceAdd, bP, ze, Nat.reduceLeDiff, Nat.reduceLT, Nat.reduceMul, List.length_append, decide_eq_true_eq, z6, z0, Int.reduceToNat, Int.reduceLE, Int.reduceLT, Int.reduceBNe, Int.reduceBEq, h82, h83]; rfl); (· simp only [go_sem, Nat.reduceLT, Nat.reduceEqDiff]; rfl); (· rfl); first | (apply zc; (· simp only [go_sem, Nat.reduceLT]; rfl); (· simp only [go_sem, Nat.reduceLT]; rfl)) | (apply zg; (· simp only [go_sem, Nat.reduceLT]; rfl))) | ((first | apply za | apply zb); (· rfl); (· simp only [go_sem, Nat.reduceLT]; rfl)) | (apply z9; (· simp only [go_sem, Nat.reduceEqDiff])) | (apply z7; (· simp only [go_sem, Nat.reduceEqDiff])) | (apply zf; (· kernel_rfl); (· kernel_rfl)) | (simp only [bW, if_true, Nat.reduceEqDiff, if_false])
    all_goals try simp only [go_sem, Nat.reduceEqDiff, bP, Nat.reduceAdd, Nat.reduceLeDiff, List.length_map, Tryd.f36]
    all_goals first | done | rfl | (simp_all []; done) | trace_state
  · rw [if_neg hk]
    have hne : (zJ p ax [s] != 0) = true := by simp [hk]
    refine zo (zk 36) cfn36 rfl (n := 31) rfl ?_
    simp only [bW, if_true, Nat.reduceEqDiff, if_false, zl]
    repeat' first | (intro hb; first | cases hb | skip) | ((first | apply z8 | apply zd); (· rfl); (· simp (disch := assumption) only [go_sem, Nat.reduceEqDiff, Nat.reduceAdd, bP, ze, Nat.reduceLeDiff, Nat.reduceLT, Nat.reduceMul, List.length_append, decide_eq_true_eq, z6, z0, Int.reduceToNat, Int.reduceLE, Int.reduceLT, Int.reduceBNe, Int.reduceBEq, h82, hne]; rfl); (· simp only [go_sem, Nat.reduceLT, Nat.reduceEqDiff]; rfl); (· rfl); first | (apply zc; (· simp only [go_sem, Nat.reduceLT]; rfl); (· simp only [go_sem, Nat.reduceLT]; rfl)) | (apply zg; (· simp only [go_sem, Nat.reduceLT]; rfl))) | ((first | apply za | apply zb); (· rfl); (· simp only [go_sem, Nat.reduceLT]; rfl)) | (apply z9; (· simp only [go_sem, Nat.reduceEqDiff])) | (apply z7; (· simp only [go_sem, Nat.reduceEqDiff])) | (apply zf; (· kernel_rfl); (· kernel_rfl)) | (simp only [bW, if_true, Nat.reduceEqDiff, if_false])
    all_goals try simp only [go_sem, Nat.reduceEqDiff, bP, Nat.reduceAdd, Nat.reduceLeDiff, List.length_map, Tryd.f36]
    all_goals first | done | rfl | (simp_all []; done) | trace_state

theorem t37 (p : Paper) (a b ax : Int) (hwf : p.wf) : (lim cfg).pure 37 [zj p, I a, I b, I ax] = some (if zJ p ax [a, b] = 0 then .tup [.agg [I (betwF p a b ax).n, I (betwF p a b ax).d], I 0] else .tup [.agg [I 0, I 0], I (zJ p ax [a, b])]) := by
  have h82 := t82 p ax false [a, b] hwf 1 (by simp) (by simp) (by simp)
  simp only [List.map_cons, List.map_nil] at h82
  by_cases hk : zJ p ax [a, b] = 0
  · rw [if_pos hk]
    rw [hk] at h82
    obtain ⟨hok, hp, hs, hax⟩ := known_zero.1 hk
    simp only [List.all_cons, List.all_nil, Bool.and_true, Bool.and_eq_true] at hs
    have h84 := t84 p ax hwf hok
    obtain ⟨u, hu, u1, u2⟩ := sheet_pos hok
    obtain ⟨i, rfl, hi, _⟩ := sheet_nat hs.1
    obtain ⟨j, rfl, hj, _⟩ := sheet_nat hs.2
    rw [net_betw hok (poss_none hp hax) hu (show i < u by omega) (show j < u by omega)]
    generalize netR p ax = c at *
    have hi5 : i < 5 := by omega
    have hj5 : j < 5 := by omega
    obtain ⟨-, -, g1⟩ := cN_get (c := c) hi5 hj5
    have k1 : (i * 10 + 10 ≤ 50) = True := by simp; omega
    have k2 : (j * 2 + 2 ≤ 10) = True := by simp; omega
    have hi5' : (i < 5) = True := by simp [hi5]
    have hj5' : (j < 5) = True := by simp [hj5]
    have g3 : (List.take 10 (List.drop (i * 10) (cN c))).length = 10 := by simp [cN_len]; omega
    have g2 : List.take 2 (List.drop (j * 2) (List.take 10 (List.drop (i * 10) (cN c)))) = [I (c i j).n, I (c i j).d] := by
      rw [List.drop_take, List.take_take, List.drop_drop, show min 2 (10 - j * 2) = 2 by omega]; exact g1
    refine zo (zk 37) cfn37 rfl (n := 28) rfl ?_
    simp only [bW, if_true, Nat.reduceEqDiff, if_false, zl]
    repeat' first | (intro hb; first | cases hb | skip) | ((first | apply z8 | apply zd); (· rfl); (· simp (disch := assumption) only [go_sem, Nat.reduceEqDiff, Nat.reduceAdd, bP, ze, Nat.reduceLeDiff, Nat.reduceLT, Nat.reduceMul, List.length_append, decide_eq_true_eq, z6, z0, Int.reduceToNat, Int.reduceLE, Int.reduceLT, Int.reduceBNe, Int.reduceBEq, h82, h84, g2, g3, k1, k2, hi5', hj5', cN_len, cN_one, cN_take, zN_len, zN_one, zN_drop]; rfl); (· simp only [go_sem, Nat.reduceLT, Nat.reduceEqDiff]; rfl); (· rfl); first | (apply zc; (· simp only [go_sem, Nat.reduceLT]; rfl); (· simp only [go_sem, Nat.reduceLT]; rfl)) | (apply zg; (· simp only [go_sem, Nat.reduceLT]; rfl))) | ((first | apply za | apply zb); (· rfl); (· simp only [go_sem, Nat.reduceLT]; rfl)) | (apply z9; (· simp only [go_sem, Nat.reduceEqDiff])) | (apply z7; (· simp only [go_sem, Nat.reduceEqDiff])) | (apply zf; (· kernel_rfl); (· kernel_rfl)) | (simp only [bW, if_true, Nat.reduceEqDiff, if_false])
    all_goals try simp only [go_sem, Nat.reduceEqDiff, bP, Nat.reduceAdd, Nat.reduceLeDiff, List.length_map, Tryd.f37]
    all_goals first | done | rfl | (simp_all []; done) | trace_state
  · rw [if_neg hk]
    have hne : (zJ p ax [a, b] != 0) = true := by simp [hk]
    refine zo (zk 37) cfn37 rfl (n := 28) rfl ?_
    simp only [bW, if_true, Nat.reduceEqDiff, if_false, zl]
    repeat' first | (intro hb; first | cases hb | skip) | ((first | apply z8 | apply zd); (· rfl); (· simp (disch := assumption) only [go_sem, Nat.reduceEqDiff, Nat.reduceAdd, bP, ze, Nat.reduceLeDiff, Nat.reduceLT, Nat.reduceMul, List.length_append, decide_eq_true_eq, z6, z0, Int.reduceToNat, Int.reduceLE, Int.reduceLT, Int.reduceBNe, Int.reduceBEq, h82, hne]; rfl); (· simp only [go_sem, Nat.reduceLT, Nat.reduceEqDiff]; rfl); (· rfl); first | (apply zc; (· simp only [go_sem, Nat.reduceLT]; rfl); (· simp only [go_sem, Nat.reduceLT]; rfl)) | (apply zg; (· simp only [go_sem, Nat.reduceLT]; rfl))) | ((first | apply za | apply zb); (· rfl); (· simp only [go_sem, Nat.reduceLT]; rfl)) | (apply z9; (· simp only [go_sem, Nat.reduceEqDiff])) | (apply z7; (· simp only [go_sem, Nat.reduceEqDiff])) | (apply zf; (· kernel_rfl); (· kernel_rfl)) | (simp only [bW, if_true, Nat.reduceEqDiff, if_false])
    all_goals try simp only [go_sem, Nat.reduceEqDiff, bP, Nat.reduceAdd, Nat.reduceLeDiff, List.length_map, Tryd.f37]
    all_goals first | done | rfl | (simp_all []; done) | trace_state

theorem L35_4 {F : Exit → St → Option D} (l : List F4) (k : List Kt) (x : D) (hl : l.length ≤ 1000) (h : zB cfg (lim cfg) 35 F k (.exit 0) ⟨26, [(14, B false), (13, I l.length), (12, .sl false (l.map encF) 4 none), (11, I (l.length : Nat)), (0, .sl false (l.map encF) 4 none), (1, .sl false (l.map encF) 4 none), (5, I (l.length : Nat))], [], 0, 0⟩ = some x) : ∀ (rest : List F4) (i : Nat), l.drop i = rest → i ≤ l.length → EvL cfg (lim cfg) 35 F lp35_4 k ⟨26, [(0, .sl false (l.map encF) 4 none), (1, .sl false (l.map encF) 4 none), (5, I (i : Nat))], [], 0, 0⟩ = some x := by
  intro rest
  induction rest with
  | nil =>
    intro i hd hi
    have hi' : i = l.length := by
      have := List.drop_eq_nil_iff.1 hd
      omega
    subst hi'
    refine zh ?_
    try dsimp only [lp35_4, zv, zm, Tryd.f35]
    simp only [bW, if_true, Nat.reduceEqDiff, if_false]
    repeat' first | (intro hb; first | cases hb | skip) | ((first | apply z8 | apply zd); (· rfl); (· simp (disch := assumption) only [go_sem, Nat.reduceEqDiff, Nat.reduceAdd, bP, ze, Nat.reduceLeDiff, Nat.reduceLT, Nat.reduceMul, List.length_append, decide_eq_true_eq, z6, z0, Int.reduceToNat, Int.reduceLE, Int.reduceLT, Int.reduceBNe, Int.reduceBEq, List.length_map, Int.lt_irrefl]; rfl); (· simp only [go_sem, Nat.reduceLT, Nat.reduceEqDiff]; rfl); (· rfl); first | (apply zc; (· simp only [go_sem, Nat.reduceLT]; rfl); (· simp only [go_sem, Nat.reduceLT]; rfl)) | (apply zg; (· simp only [go_sem, Nat.reduceLT]; rfl))) | ((first | apply za | apply zb); (· rfl); (· simp only [go_sem, Nat.reduceLT]; rfl)) | (apply z9; (· simp only [go_sem, Nat.reduceEqDiff])) | (apply z7; (· simp only [go_sem, Nat.reduceEqDiff])) | (apply zf; (· kernel_rfl); (· kernel_rfl)) | (simp only [bW, if_true, Nat.reduceEqDiff, if_false])
    exact h
  | cons m rest ih =>
    intro i hd hi
    have hlt : i < l.length := by
      rcases Nat.lt_or_ge i l.length with h | h
      · exact h
      · rw [List.drop_eq_nil_of_le h] at hd; cases hd
    have hm : l[i]? = some m := by rw [← List.head?_drop, hd]; rfl
    have hx : (l.map encF)[i]? = some (.agg [I m.xn, I m.xd, I m.yn, I m.yd]) := by rw [List.getElem?_map, hm]; rfl
    have hlt' : (i : Int) < (l.length : Int) := by omega
    have hw3 : IntKind.i64.wrap ((i : Int) + 1) = ((i + 1 : Nat) : Int) := by rw [wrap_i64 (by omega) (by omega)]; omega
    refine zh ?_
    try dsimp only [lp35_4, zv, zm, Tryd.f35]
    simp only [bW, if_true, Nat.reduceEqDiff, if_false]
    repeat' first | (intro hb; first | cases hb | skip) | ((first | apply z8 | apply zd); (· rfl); (· simp (disch := assumption) only [go_sem, Nat.reduceEqDiff, Nat.reduceAdd, bP, ze, Nat.reduceLeDiff, Nat.reduceLT, Nat.reduceMul, List.length_append, decide_eq_true_eq, z6, z0, Int.reduceToNat, Int.reduceLE, Int.reduceLT, Int.reduceBNe, Int.reduceBEq, List.length_map, hx, hlt', hw3, eqElems, beq_self_eq_true]; rfl); (· simp only [go_sem, Nat.reduceLT, Nat.reduceEqDiff]; rfl); (· rfl); first | (apply zc; (· simp only [go_sem, Nat.reduceLT]; rfl); (· simp only [go_sem, Nat.reduceLT]; rfl)) | (apply zg; (· simp only [go_sem, Nat.reduceLT]; rfl))) | ((first | apply za | apply zb); (· rfl); (· simp only [go_sem, Nat.reduceLT]; rfl)) | (apply z9; (· simp only [go_sem, Nat.reduceEqDiff])) | (apply z7; (· simp only [go_sem, Nat.reduceEqDiff])) | (apply zf; (· kernel_rfl); (· kernel_rfl)) | (simp only [bW, if_true, Nat.reduceEqDiff, if_false])
    exact zn (st1 := ⟨26, [(0, .sl false (l.map encF) 4 none), (1, .sl false (l.map encF) 4 none), (5, I (i + 1 : Nat))], [], 0, 0⟩) lk35_4 (by kernel_rfl) (ih (i + 1) (by rw [← List.drop_drop, hd]; rfl) hlt)
theorem t35 (l : List F4) (hl : l.length ≤ 1000) : (lim cfg).pure 35 [.sl false (l.map encF) 4 none, .sl false (l.map encF) 4 none] = some (B true) := by
  refine zo (zk 35) cfn35 rfl (n := 26) rfl ?_
  generalize hF : finP cfg Tryd.f35 = F
  simp only [bW, if_true, Nat.reduceEqDiff, if_false, zl]
  repeat' first | (intro hb; first | cases hb | skip) | ((first | apply z8 | apply zd); (· rfl); (· simp (disch := assumption) only [go_sem, Nat.reduceEqDiff, Nat.reduceAdd, bP, ze, Nat.reduceLeDiff, Nat.reduceLT, Nat.reduceMul, List.length_append, decide_eq_true_eq, z6, z0, Int.reduceToNat, Int.reduceLE, Int.reduceLT, Int.reduceBNe, Int.reduceBEq, List.length_map, bne_self_eq_false]; rfl); (· simp only [go_sem, Nat.reduceLT, Nat.reduceEqDiff]; rfl); (· rfl); first | (apply zc; (· simp only [go_sem, Nat.reduceLT]; rfl); (· simp only [go_sem, Nat.reduceLT]; rfl)) | (apply zg; (· simp only [go_sem, Nat.reduceLT]; rfl))) | ((first | apply za | apply zb); (· rfl); (· simp only [go_sem, Nat.reduceLT]; rfl)) | (apply z9; (· simp only [go_sem, Nat.reduceEqDiff])) | (apply z7; (· simp only [go_sem, Nat.reduceEqDiff])) | (apply zf; (· kernel_rfl); (· kernel_rfl)) | (simp only [bW, if_true, Nat.reduceEqDiff, if_false])
  refine zK (st1 := ⟨26, [(0, .sl false (l.map encF) 4 none), (1, .sl false (l.map encF) 4 none), (5, I (0 : Nat))], [], 0, 0⟩) lk35_4 (by kernel_rfl) (L35_4 l _ _ hl ?_ l 0 rfl (Nat.zero_le _))
  simp only [bW, if_true, Nat.reduceEqDiff, if_false]
  repeat' first | (intro hb; first | cases hb | skip) | ((first | apply z8 | apply zd); (· rfl); (· simp (disch := assumption) only [go_sem, Nat.reduceEqDiff, Nat.reduceAdd, bP, ze, Nat.reduceLeDiff, Nat.reduceLT, Nat.reduceMul, List.length_append, decide_eq_true_eq, z6, z0, Int.reduceToNat, Int.reduceLE, Int.reduceLT, Int.reduceBNe, Int.reduceBEq]; rfl); (· simp only [go_sem, Nat.reduceLT, Nat.reduceEqDiff]; rfl); (· rfl); first | (apply zc; (· simp only [go_sem, Nat.reduceLT]; rfl); (· simp only [go_sem, Nat.reduceLT]; rfl)) | (apply zg; (· simp only [go_sem, Nat.reduceLT]; rfl))) | ((first | apply za | apply zb); (· rfl); (· simp only [go_sem, Nat.reduceLT]; rfl)) | (apply z9; (· simp only [go_sem, Nat.reduceEqDiff])) | (apply z7; (· simp only [go_sem, Nat.reduceEqDiff])) | (apply zf; (· kernel_rfl); (· kernel_rfl)) | (simp only [bW, if_true, Nat.reduceEqDiff, if_false])
  subst hF
  simp only [go_sem, Nat.reduceEqDiff, bP, Nat.reduceAdd, Nat.reduceLeDiff, List.length_map, Tryd.f35]
theorem t35n : (lim cfg).pure 35 [.sl true [] 0 none, .sl true [] 0 none] = some (B true) := lim_pure.2 ⟨30, by kernel_rfl⟩

theorem L34_6 {F : Exit → St → Option D} (p : Paper) (k : List Kt) (x : D) (hwf : p.wf) (hok : zu p = true) (hc0 : clashA p 0 = none) (hc1 : clashA p 1 = none) : ∀ (m i : Nat) (l h : List F4), (i : Int) + m = p.sheets → l.length + m ≤ 1000 → h.length = l.length →
    zB cfg (lim cfg) 34 F k (.exit 0) ⟨50, [(21, B false), (20, I p.sheets), (19, .lref 0 0 3 0), (18, I (i + m : Nat)), (1, .lref 0 0 3 0), (6, gD 1 4 (l ++ (List.range' i m).map (endF0 p))), (7, gD 2 4 (h ++ (List.range' i m).map (endF1 p))), (8, I (i + m : Nat))], (0, ⟨[zj p], 3, false⟩) :: (gO 1 4 encF (l ++ (List.range' i m).map (endF0 p)) ++ gO 2 4 encF (h ++ (List.range' i m).map (endF1 p))), gN (gN 1 (l ++ (List.range' i m).map (endF0 p))) (h ++ (List.range' i m).map (endF1 p)), 0⟩ = some x →
    EvL cfg (lim cfg) 34 F lp34_6 k ⟨50, [(1, .lref 0 0 3 0), (6, gD 1 4 (l)), (7, gD 2 4 (h)), (8, I (i : Nat))], (0, ⟨[zj p], 3, false⟩) :: (gO 1 4 encF (l) ++ gO 2 4 encF (h)), gN (gN 1 (l)) (h), 0⟩ = some x := by
  obtain ⟨o1, o2, _⟩ := zA hok
  intro m
  induction m with
  | zero =>
    intro i l h hi he hlh hh
    have hi' : ((i : Int) < p.sheets) = False := by simp; omega
    simp only [List.range'_zero, List.map_nil, List.append_nil, Nat.add_zero] at hh
    refine zh ?_
    try dsimp only [lp34_6, zv, zm, Tryd.f34]
    simp only [bW, if_true, Nat.reduceEqDiff, if_false]
    repeat' first | (intro hb; first | cases hb | skip) | ((first | apply z8 | apply zd); (· rfl); (· simp (disch := assumption) only [go_sem, Nat.reduceEqDiff, Nat.reduceAdd, bP, ze, Nat.reduceLeDiff, Nat.reduceLT, Nat.reduceMul, List.length_append, decide_eq_true_eq, z6, z0, Int.reduceToNat, Int.reduceLE, Int.reduceLT, Int.reduceBNe, Int.reduceBEq, hi']; rfl); (· simp only [go_sem, Nat.reduceLT, Nat.reduceEqDiff]; rfl); (· rfl); first | (apply zc; (· simp only [go_sem, Nat.reduceLT]; rfl); (· simp only [go_sem, Nat.reduceLT]; rfl)) | (apply zg; (· simp only [go_sem, Nat.reduceLT]; rfl))) | ((first | apply za | apply zb); (· rfl); (· simp only [go_sem, Nat.reduceLT]; rfl)) | (apply z9; (· simp only [go_sem, Nat.reduceEqDiff])) | (apply z7; (· simp only [go_sem, Nat.reduceEqDiff])) | (apply zf; (· kernel_rfl); (· kernel_rfl)) | (simp only [bW, if_true, Nat.reduceEqDiff, if_false])
    exact hh
  | succ m ih =>
    intro i l h hi he hlh hh
    have hlt' : ((i : Int) < p.sheets) = True := by simp; omega
    have hw3 : IntKind.i64.wrap ((i : Int) + 1) = ((i + 1 : Nat) : Int) := by rw [wrap_i64 (by omega) (by omega)]; omega
    have hs : zz p i = true := by simp [zz]; omega
    have h83a := t83 p i 0 hwf hok hc0 hs
    have h83b := t83 p i 1 hwf hok hc1 hs
    rw [show i + (m + 1) = i + 1 + m by omega] at hh
    cases l with
    | nil =>
      cases h with
      | cons e' r' => simp at hlh
      | nil =>
        simp only [gD, gO, gN, List.nil_append, List.append_nil]
        refine zh ?_
        try dsimp only [lp34_6, zv, zm, Tryd.f34]
        simp only [bW, if_true, Nat.reduceEqDiff, if_false]
        repeat' first | (intro hb; first | cases hb | skip) | ((first | apply z8 | apply zd); (· rfl); (· simp (disch := assumption) only [go_sem, Nat.reduceEqDiff, Nat.reduceAdd, bP, ze, Nat.reduceLeDiff, Nat.reduceLT, Nat.reduceMul, List.length_append, decide_eq_true_eq, z6, z0, Int.reduceToNat, Int.reduceLE, Int.reduceLT, Int.reduceBNe, Int.reduceBEq, okF.allOk, hlt', hw3, h83a, h83b, show (0 : Nat) < 2 from by decide, show (1 : Nat) < 2 from by decide]; rfl); (· simp only [go_sem, Nat.reduceLT, Nat.reduceEqDiff]; rfl); (· rfl); first | (apply zc; (· simp only [go_sem, Nat.reduceLT]; rfl); (· simp only [go_sem, Nat.reduceLT]; rfl)) | (apply zg; (· simp only [go_sem, Nat.reduceLT]; rfl))) | ((first | apply za | apply zb); (· rfl); (· simp only [go_sem, Nat.reduceLT]; rfl)) | (apply z9; (· simp only [go_sem, Nat.reduceEqDiff])) | (apply z7; (· simp only [go_sem, Nat.reduceEqDiff])) | (apply zf; (· kernel_rfl); (· kernel_rfl)) | (simp only [bW, if_true, Nat.reduceEqDiff, if_false])
        refine zn (st1 := ⟨50, [(1, .lref 0 0 3 0), (6, gD 1 4 (([]) ++ [endF0 p i])), (7, gD 2 4 (([]) ++ [endF1 p i])), (8, I (i + 1 : Nat))], (0, ⟨[zj p], 3, false⟩) :: (gO 1 4 encF (([]) ++ [endF0 p i]) ++ gO 2 4 encF (([]) ++ [endF1 p i])), gN (gN 1 (([]) ++ [endF0 p i])) (([]) ++ [endF1 p i]), 0⟩) lk34_6 (by
          simp only [go_sem, List.map_append, Nat.reduceEqDiff, Nat.reduceLT, Nat.reduceAdd, bI, bD, bI2, okF.renL, okF.idsL, okF.idsL_app, gD, gO, gN, endF0, endF1, encF, zj, List.length_append, List.length_map]
          try rfl) (ih (i + 1) ([] ++ [endF0 p i]) ([] ++ [endF1 p i]) (by omega) (by simp at he ⊢; omega) (by simp at hlh ⊢; try omega) (by rw [List.range'_succ, List.map_cons, List.map_cons] at hh; simpa using hh))
    | cons e r =>
      cases h with
      | nil => simp at hlh
      | cons e' r' =>
        simp only [List.length_cons] at he hlh
        have hlr : r'.length = r.length := by omega
        have hle : (r.length + 1 + 1 ≤ r.length + 1) = False := by simp
        have hb1 : ((r.length + 1 + 1) * 32 ≤ big) = True := by simp [big]; omega
        have hb2 : (r.length + 1 + 1 ≤ big) = True := by simp [big]; omega
        have hao : allOk 4 (encF e :: List.map encF r) = true := okF.allOk (e :: r)
        have hao' : allOk 4 (encF e' :: List.map encF r') = true := okF.allOk (e' :: r')
        have hle' : (r'.length + 1 + 1 ≤ r'.length + 1) = False := by simp
        have hb1' : ((r'.length + 1 + 1) * 32 ≤ big) = True := by simp [big]; omega
        have hb2' : (r'.length + 1 + 1 ≤ big) = True := by simp [big]; omega
        simp only [gD, gO, gN, List.map_cons, List.cons_append, List.nil_append]
        refine zh ?_
        try dsimp only [lp34_6, zv, zm, Tryd.f34]
        simp only [bW, if_true, Nat.reduceEqDiff, if_false]
        repeat' first | (intro hb; first | cases hb | skip) | ((first | apply z8 | apply zd); (· rfl); (· simp (disch := assumption) only [go_sem, Nat.reduceEqDiff, Nat.reduceAdd, bP, ze, Nat.reduceLeDiff, Nat.reduceLT, Nat.reduceMul, List.length_append, decide_eq_true_eq, z6, z0, Int.reduceToNat, Int.reduceLE, Int.reduceLT, Int.reduceBNe, Int.reduceBEq, okF.allOk, hlt', hw3, h83a, h83b, show (0 : Nat) < 2 from by decide, show (1 : Nat) < 2 from by decide, hle, hb1, hb2, hle', hb1', hb2', hao, hao', List.length_map]; rfl); (· simp only [go_sem, Nat.reduceLT, Nat.reduceEqDiff]; rfl); (· rfl); first | (apply zc; (· simp only [go_sem, Nat.reduceLT]; rfl); (· simp only [go_sem, Nat.reduceLT]; rfl)) | (apply zg; (· simp only [go_sem, Nat.reduceLT]; rfl))) | ((first | apply za | apply zb); (· rfl); (· simp only [go_sem, Nat.reduceLT]; rfl)) | (apply z9; (· simp only [go_sem, Nat.reduceEqDiff])) | (apply z7; (· simp only [go_sem, Nat.reduceEqDiff])) | (apply zf; (· kernel_rfl); (· kernel_rfl)) | (simp only [bW, if_true, Nat.reduceEqDiff, if_false])
        refine zn (st1 := ⟨50, [(1, .lref 0 0 3 0), (6, gD 1 4 ((e :: r) ++ [endF0 p i])), (7, gD 2 4 ((e' :: r') ++ [endF1 p i])), (8, I (i + 1 : Nat))], (0, ⟨[zj p], 3, false⟩) :: (gO 1 4 encF ((e :: r) ++ [endF0 p i]) ++ gO 2 4 encF ((e' :: r') ++ [endF1 p i])), gN (gN 1 ((e :: r) ++ [endF0 p i])) ((e' :: r') ++ [endF1 p i]), 0⟩) lk34_6 (by
          simp only [go_sem, List.map_append, Nat.reduceEqDiff, Nat.reduceLT, Nat.reduceAdd, bI, bD, bI2, okF.renL, okF.idsL, okF.idsL_app, gD, gO, gN, endF0, endF1, encF, zj, List.length_append, List.length_map]
          try rfl) (ih (i + 1) (e :: r ++ [endF0 p i]) (e' :: r' ++ [endF1 p i]) (by omega) (by simp at he ⊢; omega) (by simp at hlh ⊢; try omega) (by rw [List.range'_succ, List.map_cons, List.map_cons] at hh; simpa using hh))
theorem t34 (p : Paper) (hwf : p.wf) : (lim cfg).pure 34 [zj p] = some (if zJ p 0 [] = 0 then .tup [.sl false ((endsF0 p).map encF) 4 none, .sl false ((endsF1 p).map encF) 4 none, I 0] else .tup [.sl true [] 0 none, .sl true [] 0 none, I (zJ p 0 [])]) := by
  have h82 := t82 p 0 true [] hwf 0 (by simp) (by simp) (by simp)
  simp only [List.map_nil] at h82
  by_cases hk : zJ p 0 [] = 0
  · rw [if_pos hk]
    rw [hk] at h82
    obtain ⟨hok, hp, -, -⟩ := known_zero.1 hk
    obtain ⟨n, hn, n1, n2⟩ := sheet_pos hok
    have hE0 : endsF0 p = (List.range' 0 n).map (endF0 p) := by unfold endsF0; rw [hn]; rfl
    have hE1 : endsF1 p = (List.range' 0 n).map (endF1 p) := by unfold endsF1; rw [hn]; rfl
    rw [hE0, hE1]
    refine zo (zk 34) cfn34 rfl (n := 50) rfl ?_
    generalize hF : finP cfg Tryd.f34 = F
    simp only [bW, if_true, Nat.reduceEqDiff, if_false, zl]
    repeat' first | (intro hb; first | cases hb | skip) | ((first | apply z8 | apply zd); (· rfl); (· simp (disch := assumption) only [go_sem, Nat.reduceEqDiff, Nat.reduceAdd, bP, ze, Nat.reduceLeDiff, Nat.reduceLT, Nat.reduceMul, List.length_append, decide_eq_true_eq, z6, z0, Int.reduceToNat, Int.reduceLE, Int.reduceLT, Int.reduceBNe, Int.reduceBEq, h82]; rfl); (· simp only [go_sem, Nat.reduceLT, Nat.reduceEqDiff]; rfl); (· rfl); first | (apply zc; (· simp only [go_sem, Nat.reduceLT]; rfl); (· simp only [go_sem, Nat.reduceLT]; rfl)) | (apply zg; (· simp only [go_sem, Nat.reduceLT]; rfl))) | ((first | apply za | apply zb); (· rfl); (· simp only [go_sem, Nat.reduceLT]; rfl)) | (apply z9; (· simp only [go_sem, Nat.reduceEqDiff])) | (apply z7; (· simp only [go_sem, Nat.reduceEqDiff])) | (apply zf; (· kernel_rfl); (· kernel_rfl)) | (simp only [bW, if_true, Nat.reduceEqDiff, if_false])
    refine zK (st1 := ⟨50, [(1, .lref 0 0 3 0), (6, gD 1 4 ([])), (7, gD 2 4 ([])), (8, I (0 : Nat))], (0, ⟨[zj p], 3, false⟩) :: (gO 1 4 encF ([]) ++ gO 2 4 encF ([])), gN (gN 1 ([])) ([]), 0⟩) lk34_6 (by
      simp only [go_sem, List.map_append, Nat.reduceEqDiff, Nat.reduceLT, Nat.reduceAdd, bI, bD, bI2, gD, gO, gN]
      try rfl) (L34_6 p _ _ hwf hok (poss_none hp rfl) (poss_none hp rfl) n 0 [] [] (by omega) (by simp; omega) rfl ?_)
    rw [List.nil_append, List.nil_append]
    have hl0 : ((List.range' 0 n).map (endF0 p)).length = n := by simp
    have hl1 : ((List.range' 0 n).map (endF1 p)).length = n := by simp
    generalize (List.range' 0 n).map (endF0 p) = A at *
    generalize (List.range' 0 n).map (endF1 p) = A' at *
    clear hE0 hE1
    cases A with
    | nil => simp at hl0; omega
    | cons e r =>
      cases A' with
      | nil => simp at hl1; omega
      | cons e' r' =>
        simp only [gD, gO, gN, List.cons_append, List.nil_append]
        have htk : List.take (r.length + 1) (List.map encF (e :: r)) = List.map encF (e :: r) := by rw [List.take_of_length_le]; simp
        have htk' : List.take (r'.length + 1) (List.map encF (e' :: r')) = List.map encF (e' :: r') := by rw [List.take_of_length_le]; simp
        simp only [List.map_cons] at htk htk'
        simp only [bW, if_true, Nat.reduceEqDiff, if_false]
        repeat' first | (intro hb; first | cases hb | skip) | ((first | apply z8 | apply zd); (· rfl); (· simp (disch := assumption) only [go_sem, Nat.reduceEqDiff, Nat.reduceAdd, bP, ze, Nat.reduceLeDiff, Nat.reduceLT, Nat.reduceMul, List.length_append, decide_eq_true_eq, z6, z0, Int.reduceToNat, Int.reduceLE, Int.reduceLT, Int.reduceBNe, Int.reduceBEq]; rfl); (· simp only [go_sem, Nat.reduceLT, Nat.reduceEqDiff]; rfl); (· rfl); first | (apply zc; (· simp only [go_sem, Nat.reduceLT]; rfl); (· simp only [go_sem, Nat.reduceLT]; rfl)) | (apply zg; (· simp only [go_sem, Nat.reduceLT]; rfl))) | ((first | apply za | apply zb); (· rfl); (· simp only [go_sem, Nat.reduceLT]; rfl)) | (apply z9; (· simp only [go_sem, Nat.reduceEqDiff])) | (apply z7; (· simp only [go_sem, Nat.reduceEqDiff])) | (apply zf; (· kernel_rfl); (· kernel_rfl)) | (simp only [bW, if_true, Nat.reduceEqDiff, if_false])
        subst hF
        simp only [go_sem, Nat.reduceEqDiff, bP, Nat.reduceAdd, Nat.reduceLeDiff, List.length_map, Tryd.f34, htk, htk', okF.snapAll, okF.snap]
  · rw [if_neg hk]
    have hne : (zJ p 0 [] != 0) = true := by simp [hk]
    refine zo (zk 34) cfn34 rfl (n := 50) rfl ?_
    simp only [bW, if_true, Nat.reduceEqDiff, if_false, zl]
    repeat' first | (intro hb; first | cases hb | skip) | ((first | apply z8 | apply zd); (· rfl); (· simp (disch := assumption) only [go_sem, Nat.reduceEqDiff, Nat.reduceAdd, bP, ze, Nat.reduceLeDiff, Nat.reduceLT, Nat.reduceMul, List.length_append, decide_eq_true_eq, z6, z0, Int.reduceToNat, Int.reduceLE, Int.reduceLT, Int.reduceBNe, Int.reduceBEq, h82, hne]; rfl); (· simp only [go_sem, Nat.reduceLT, Nat.reduceEqDiff]; rfl); (· rfl); first | (apply zc; (· simp only [go_sem, Nat.reduceLT]; rfl); (· simp only [go_sem, Nat.reduceLT]; rfl)) | (apply zg; (· simp only [go_sem, Nat.reduceLT]; rfl))) | ((first | apply za | apply zb); (· rfl); (· simp only [go_sem, Nat.reduceLT]; rfl)) | (apply z9; (· simp only [go_sem, Nat.reduceEqDiff])) | (apply z7; (· simp only [go_sem, Nat.reduceEqDiff])) | (apply zf; (· kernel_rfl); (· kernel_rfl)) | (simp only [bW, if_true, Nat.reduceEqDiff, if_false])
    all_goals try simp only [go_sem, Nat.reduceEqDiff, bP, Nat.reduceAdd, Nat.reduceLeDiff, List.length_map, Tryd.f34]
    all_goals first | done | rfl | (simp_all []; done) | trace_state

end Go.VS
namespace Go.VS
open Go Go.Proofs
set_option maxHeartbeats 0
set_option linter.unusedSimpArgs false

def lessP (p : Paper) (r : Reason) : Paper := if withoutE p r = 0 then lessF p r else zeroP
def inside (a lo hi : Int) : Bool := decide (lo ≤ a) && decide (a ≤ hi)
theorem bad_any {p : Paper} {j b : Bool} {a : Int} : (reasF p).any (eqW ⟨j, a, b⟩) = (!b && (if j then inside a 0 (p.joins.length - 1) else inside a 0 (p.marks.length - 1))) := by
  rw [Bool.eq_iff_iff, Bool.and_eq_true]
  constructor
  · intro h
    obtain ⟨h1, ⟨h2, i, h3, h4⟩ | ⟨h2, i, h3, h4⟩⟩ := reas_any h
    all_goals
      simp only [] at h1 h2 h3
      subst h1 h2 h3
      simp [inside]
      omega
  · rintro ⟨h1, h2⟩
    refine any_reas (by simpa using h1) ?_
    cases j with
    | true =>
      simp [inside] at h2
      exact .inr ⟨rfl, a.toNat, by simp; omega, by omega⟩
    | false =>
      simp [inside] at h2
      exact .inl ⟨rfl, a.toNat, by simp; omega, by omega⟩

theorem t53 (p : Paper) (r : Reason) (hwf : p.wf) : (lim cfg).pure 53 [zj p, .agg [B r.join, I r.at_, B r.back]] = some (.tup [zj (lessP p r), I (withoutE p r)]) := by
  have h28 := t28 p hwf
  have hlm := len_if (f := encM) hwf.1
  have hlj := len_if (f := zO) hwf.2.1
  unfold lessP withoutE
  by_cases hc : check p = 0
  case neg =>
    have n1 : (check p != 0) = true := by simp [hc]
    rw [if_neg hc, if_neg hc]
    refine zo (zk 53) cfn53 rfl (n := 48) rfl ?_
    simp only [bW, if_true, Nat.reduceEqDiff, if_false, zl]
    repeat' first | (intro hb; first | cases hb | skip) | ((first | apply z8 | apply zd); (· rfl); (· simp (disch := assumption) only [go_sem, Nat.reduceEqDiff, Nat.reduceAdd, bP, ze, Nat.reduceLeDiff, Nat.reduceLT, Nat.reduceMul, List.length_append, decide_eq_true_eq, z6, z0, Int.reduceToNat, Int.reduceLE, Int.reduceLT, Int.reduceBNe, Int.reduceBEq, h28, n1]; rfl); (· simp only [go_sem, Nat.reduceLT, Nat.reduceEqDiff]; rfl); (· rfl); first | (apply zc; (· simp only [go_sem, Nat.reduceLT]; rfl); (· simp only [go_sem, Nat.reduceLT]; rfl)) | (apply zg; (· simp only [go_sem, Nat.reduceLT]; rfl))) | ((first | apply za | apply zb); (· rfl); (· simp only [go_sem, Nat.reduceLT]; rfl)) | (apply z9; (· simp only [go_sem, Nat.reduceEqDiff])) | (apply z7; (· simp only [go_sem, Nat.reduceEqDiff])) | (apply zf; (· kernel_rfl); (· kernel_rfl)) | (simp only [bW, if_true, Nat.reduceEqDiff, if_false])
    all_goals try simp only [go_sem, Nat.reduceEqDiff, bP, Nat.reduceAdd, Nat.reduceLeDiff, List.length_map, Tryd.f53, zeroP, zs_true]
    all_goals first | done | rfl | (simp_all []; done) | trace_state
  rw [hc] at h28
  obtain ⟨o1, o2, o5, o6, -, -⟩ := zA (check_zero.1 hc)
  rw [if_pos hc]
  have hw1 : IntKind.i64.wrap ((p.marks.length : Int) - 1) = (p.marks.length : Int) - 1 := wrap_i64 (by omega) (by omega)
  have hw2 : IntKind.i64.wrap ((p.joins.length : Int) - 1) = (p.joins.length : Int) - 1 := wrap_i64 (by omega) (by omega)
  have h104 := t104 p r hwf (by omega) (by omega)
  have hany := bad_any (p := p) (j := r.join) (a := r.at_) (b := r.back)
  obtain ⟨j, a, b⟩ := r
  simp only [] at h104 hany ⊢
  unfold inside at hany
  have q1 := t77 a 0 ((p.marks.length : Int) - 1)
  have q2 := t77 a 0 ((p.joins.length : Int) - 1)
  generalize (reasF p).any (eqW ⟨j, a, b⟩) = c at hany ⊢
  generalize (decide (0 ≤ a) && decide (a ≤ (p.marks.length : Int) - 1)) = X at q1 hany
  generalize (decide (0 ≤ a) && decide (a ≤ (p.joins.length : Int) - 1)) = Y at q2 hany
  generalize lessF p ⟨j, a, b⟩ = q at *
  cases j with
  | true =>
    cases b <;> cases Y <;> (simp at hany; subst hany)
    all_goals
      simp only [Bool.false_eq_true, if_true, if_false, Int.one_ne_zero]
      refine zo (zk 53) cfn53 rfl (n := 48) rfl ?_
      simp only [bW, if_true, Nat.reduceEqDiff, if_false, zl]
      repeat' first | (intro hb; first | cases hb | skip) | ((first | apply z8 | apply zd); (· rfl); (· simp (disch := assumption) only [go_sem, Nat.reduceEqDiff, Nat.reduceAdd, bP, ze, Nat.reduceLeDiff, Nat.reduceLT, Nat.reduceMul, List.length_append, decide_eq_true_eq, z6, z0, Int.reduceToNat, Int.reduceLE, Int.reduceLT, Int.reduceBNe, Int.reduceBEq, h28, hw1, hw2, q1, q2, hlm, hlj, h104, bne_self_eq_false]; rfl); (· simp only [go_sem, Nat.reduceLT, Nat.reduceEqDiff]; rfl); (· rfl); first | (apply zc; (· simp only [go_sem, Nat.reduceLT]; rfl); (· simp only [go_sem, Nat.reduceLT]; rfl)) | (apply zg; (· simp only [go_sem, Nat.reduceLT]; rfl))) | ((first | apply za | apply zb); (· rfl); (· simp only [go_sem, Nat.reduceLT]; rfl)) | (apply z9; (· simp only [go_sem, Nat.reduceEqDiff])) | (apply z7; (· simp only [go_sem, Nat.reduceEqDiff])) | (apply zf; (· kernel_rfl); (· kernel_rfl)) | (simp only [bW, if_true, Nat.reduceEqDiff, if_false])
      all_goals try simp only [go_sem, Nat.reduceEqDiff, bP, Nat.reduceAdd, Nat.reduceLeDiff, List.length_map, Tryd.f53, zeroP, zs_true]
      all_goals first | done | rfl | (simp_all []; done) | trace_state
  | false =>
    cases b <;> cases X <;> (simp at hany; subst hany)
    all_goals
      simp only [Bool.false_eq_true, if_true, if_false, Int.one_ne_zero]
      refine zo (zk 53) cfn53 rfl (n := 48) rfl ?_
      simp only [bW, if_true, Nat.reduceEqDiff, if_false, zl]
      repeat' first | (intro hb; first | cases hb | skip) | ((first | apply z8 | apply zd); (· rfl); (· simp (disch := assumption) only [go_sem, Nat.reduceEqDiff, Nat.reduceAdd, bP, ze, Nat.reduceLeDiff, Nat.reduceLT, Nat.reduceMul, List.length_append, decide_eq_true_eq, z6, z0, Int.reduceToNat, Int.reduceLE, Int.reduceLT, Int.reduceBNe, Int.reduceBEq, h28, hw1, hw2, q1, q2, hlm, hlj, h104, bne_self_eq_false]; rfl); (· simp only [go_sem, Nat.reduceLT, Nat.reduceEqDiff]; rfl); (· rfl); first | (apply zc; (· simp only [go_sem, Nat.reduceLT]; rfl); (· simp only [go_sem, Nat.reduceLT]; rfl)) | (apply zg; (· simp only [go_sem, Nat.reduceLT]; rfl))) | ((first | apply za | apply zb); (· rfl); (· simp only [go_sem, Nat.reduceLT]; rfl)) | (apply z9; (· simp only [go_sem, Nat.reduceEqDiff])) | (apply z7; (· simp only [go_sem, Nat.reduceEqDiff])) | (apply zf; (· kernel_rfl); (· kernel_rfl)) | (simp only [bW, if_true, Nat.reduceEqDiff, if_false])
      all_goals try simp only [go_sem, Nat.reduceEqDiff, bP, Nat.reduceAdd, Nat.reduceLeDiff, List.length_map, Tryd.f53, zeroP, zs_true]
      all_goals first | done | rfl | (simp_all []; done) | trace_state

end Go.VS
namespace Go.VS
open Go Go.Proofs
set_option maxHeartbeats 0
set_option linter.unusedSimpArgs false

noncomputable def lp56_4 : Code := zv [1, 1, 0, 1, 0, 0] (zm Tryd.f56)
theorem lk56_4 : cfg.keep 56 (zq lp56_4) = [2, 3, 5] := by kernel_rfl
noncomputable def lp56_9 : Code := zv [1, 1, 1, 0, 1, 0, 0] (zm Tryd.f56)
theorem lk56_9 : cfg.keep 56 (zq lp56_9) = [2, 3, 6] := by kernel_rfl

theorem L56_4 {F : Exit → St → Option D} (p : Paper) (nm nj : Bool) (k : List Kt) (x : D) (hwf : p.wf) (hwf' : (⟨p.sheets, nm, p.marks, nj, p.joins⟩ : Paper).wf) : ∀ (rest : List Mark) (i : Nat), p.marks.drop i = rest → i ≤ p.marks.length →
    (zB cfg (lim cfg) 56 F k (.exit 0) ⟨66, [(34, B false), (33, I p.marks.length), (32, .sl p.nm (p.marks.map encM) (zs p.nm 5) none), (31, .lref 0 0 3 1), (30, I p.marks.length), (2, .lref 0 0 3 0), (3, .lref 1 0 3 0), (5, I (p.marks.length : Nat))], [(0, ⟨[zj p], 3, false⟩), (1, ⟨[zj ⟨p.sheets, nm, p.marks, nj, p.joins⟩], 3, false⟩)], 2, 0⟩ = some x) →
    EvL cfg (lim cfg) 56 F lp56_4 k ⟨66, [(2, .lref 0 0 3 0), (3, .lref 1 0 3 0), (5, I (i : Nat))], [(0, ⟨[zj p], 3, false⟩), (1, ⟨[zj ⟨p.sheets, nm, p.marks, nj, p.joins⟩], 3, false⟩)], 2, 0⟩ = some x := by
  have hl0 := len_if (f := encM) hwf.1
  intro rest
  induction rest with
  | nil =>
    intro i hd hi h
    have hi' : i = p.marks.length := by
      have := List.drop_eq_nil_iff.1 hd
      omega
    subst hi'
    refine zh ?_
    try dsimp only [lp56_4, zv, zm, Tryd.f56]
    simp only [bW, if_true, Nat.reduceEqDiff, if_false]
    repeat' first | (intro hb; first | cases hb | skip) | ((first | apply z8 | apply zd); (· rfl); (· simp (disch := assumption) only [go_sem, Nat.reduceEqDiff, Nat.reduceAdd, bP, ze, Nat.reduceLeDiff, Nat.reduceLT, Nat.reduceMul, List.length_append, decide_eq_true_eq, z6, z0, Int.reduceToNat, Int.reduceLE, Int.reduceLT, Int.reduceBNe, Int.reduceBEq, hl0, Int.lt_irrefl]; rfl); (· simp only [go_sem, Nat.reduceLT, Nat.reduceEqDiff]; rfl); (· rfl); first | (apply zc; (· simp only [go_sem, Nat.reduceLT]; rfl); (· simp only [go_sem, Nat.reduceLT]; rfl)) | (apply zg; (· simp only [go_sem, Nat.reduceLT]; rfl))) | ((first | apply za | apply zb); (· rfl); (· simp only [go_sem, Nat.reduceLT]; rfl)) | (apply z9; (· simp only [go_sem, Nat.reduceEqDiff])) | (apply z7; (· simp only [go_sem, Nat.reduceEqDiff])) | (apply zf; (· kernel_rfl); (· kernel_rfl)) | (simp only [bW, if_true, Nat.reduceEqDiff, if_false])
    exact h
  | cons m rest ih =>
    intro i hd hi h
    have hlt : i < p.marks.length := by
      rcases Nat.lt_or_ge i p.marks.length with h | h
      · exact h
      · rw [List.drop_eq_nil_of_le h] at hd; cases hd
    have hm : p.marks[i]? = some m := by rw [← List.head?_drop, hd]; rfl
    have hx : (p.marks.map encM)[i]? = some (.agg [I m.sheet, I m.axis, I m.tru, I m.seen, I m.err]) := by rw [List.getElem?_map, hm]; rfl
    have hnm' : p.nm = false := by
      cases h : p.nm with
      | false => rfl
      | true => rw [hwf.1 h] at hlt; cases hlt
    have hnm2 : nm = false := by
      cases h : nm with
      | false => rfl
      | true => have hh := hwf'.1 h; simp only [] at hh; rw [hh] at hlt; cases hlt
    have hlt' : (i : Int) < (p.marks.length : Int) := by omega
    have hbd := hwf.2.2.1
    have hw3 : IntKind.i64.wrap ((i : Int) + 1) = ((i + 1 : Nat) : Int) := by rw [wrap_i64 (by omega) (by omega)]; omega
    clear hl0
    refine zh ?_
    try dsimp only [lp56_4, zv, zm, Tryd.f56]
    simp only [bW, if_true, Nat.reduceEqDiff, if_false]
    repeat' first | (intro hb; first | cases hb | skip) | ((first | apply z8 | apply zd); (· rfl); (· simp (disch := assumption) only [go_sem, Nat.reduceEqDiff, Nat.reduceAdd, bP, ze, Nat.reduceLeDiff, Nat.reduceLT, Nat.reduceMul, List.length_append, decide_eq_true_eq, z6, z0, Int.reduceToNat, Int.reduceLE, Int.reduceLT, Int.reduceBNe, Int.reduceBEq, List.length_map, hx, hnm', hnm2, hlt', hw3, beq_self_eq_true]; rfl); (· simp only [go_sem, Nat.reduceLT, Nat.reduceEqDiff]; rfl); (· rfl); first | (apply zc; (· simp only [go_sem, Nat.reduceLT]; rfl); (· simp only [go_sem, Nat.reduceLT]; rfl)) | (apply zg; (· simp only [go_sem, Nat.reduceLT]; rfl))) | ((first | apply za | apply zb); (· rfl); (· simp only [go_sem, Nat.reduceLT]; rfl)) | (apply z9; (· simp only [go_sem, Nat.reduceEqDiff])) | (apply z7; (· simp only [go_sem, Nat.reduceEqDiff])) | (apply zf; (· kernel_rfl); (· kernel_rfl)) | (simp only [bW, if_true, Nat.reduceEqDiff, if_false])
    exact zn (st1 := ⟨66, [(2, .lref 0 0 3 0), (3, .lref 1 0 3 0), (5, I (i + 1 : Nat))], [(0, ⟨[zj p], 3, false⟩), (1, ⟨[zj ⟨p.sheets, nm, p.marks, nj, p.joins⟩], 3, false⟩)], 2, 0⟩) lk56_4 (by kernel_rfl) (ih (i + 1) (by rw [← List.drop_drop, hd]; rfl) hlt h)

theorem L56_9 {F : Exit → St → Option D} (p : Paper) (nm nj : Bool) (k : List Kt) (x : D) (hwf : p.wf) (hwf' : (⟨p.sheets, nm, p.marks, nj, p.joins⟩ : Paper).wf) : ∀ (rest : List Join) (i : Nat), p.joins.drop i = rest → i ≤ p.joins.length →
    (zB cfg (lim cfg) 56 F k (.exit 2) ⟨66, [(52, B false), (51, I p.joins.length), (50, .sl p.nj (p.joins.map zO) (zs p.nj 7) none), (49, .lref 0 0 3 2), (48, I p.joins.length), (2, .lref 0 0 3 0), (3, .lref 1 0 3 0), (6, I (p.joins.length : Nat))], [(0, ⟨[zj p], 3, false⟩), (1, ⟨[zj ⟨p.sheets, nm, p.marks, nj, p.joins⟩], 3, false⟩)], 2, 0⟩ = some x) →
    EvL cfg (lim cfg) 56 F lp56_9 k ⟨66, [(2, .lref 0 0 3 0), (3, .lref 1 0 3 0), (6, I (i : Nat))], [(0, ⟨[zj p], 3, false⟩), (1, ⟨[zj ⟨p.sheets, nm, p.marks, nj, p.joins⟩], 3, false⟩)], 2, 0⟩ = some x := by
  have hl0 := len_if (f := zO) hwf.2.1
  intro rest
  induction rest with
  | nil =>
    intro i hd hi h
    have hi' : i = p.joins.length := by
      have := List.drop_eq_nil_iff.1 hd
      omega
    subst hi'
    refine zh ?_
    try dsimp only [lp56_9, zv, zm, Tryd.f56]
    simp only [bW, if_true, Nat.reduceEqDiff, if_false]
    repeat' first | (intro hb; first | cases hb | skip) | ((first | apply z8 | apply zd); (· rfl); (· simp (disch := assumption) only [go_sem, Nat.reduceEqDiff, Nat.reduceAdd, bP, ze, Nat.reduceLeDiff, Nat.reduceLT, Nat.reduceMul, List.length_append, decide_eq_true_eq, z6, z0, Int.reduceToNat, Int.reduceLE, Int.reduceLT, Int.reduceBNe, Int.reduceBEq, hl0, Int.lt_irrefl]; rfl); (· simp only [go_sem, Nat.reduceLT, Nat.reduceEqDiff]; rfl); (· rfl); first | (apply zc; (· simp only [go_sem, Nat.reduceLT]; rfl); (· simp only [go_sem, Nat.reduceLT]; rfl)) | (apply zg; (· simp only [go_sem, Nat.reduceLT]; rfl))) | ((first | apply za | apply zb); (· rfl); (· simp only [go_sem, Nat.reduceLT]; rfl)) | (apply z9; (· simp only [go_sem, Nat.reduceEqDiff])) | (apply z7; (· simp only [go_sem, Nat.reduceEqDiff])) | (apply zf; (· kernel_rfl); (· kernel_rfl)) | (simp only [bW, if_true, Nat.reduceEqDiff, if_false])
    exact h
  | cons m rest ih =>
    intro i hd hi h
    have hlt : i < p.joins.length := by
      rcases Nat.lt_or_ge i p.joins.length with h | h
      · exact h
      · rw [List.drop_eq_nil_of_le h] at hd; cases hd
    have hm : p.joins[i]? = some m := by rw [← List.head?_drop, hd]; rfl
    have hx : (p.joins.map zO)[i]? = some (.agg [I m.a, I m.b, I m.axis, I m.seenA, I m.errA, I m.seenB, I m.errB]) := by rw [List.getElem?_map, hm]; rfl
    have hnm' : p.nj = false := by
      cases h : p.nj with
      | false => rfl
      | true => rw [hwf.2.1 h] at hlt; cases hlt
    have hnm2 : nj = false := by
      cases h : nj with
      | false => rfl
      | true => have hh := hwf'.2.1 h; simp only [] at hh; rw [hh] at hlt; cases hlt
    have hlt' : (i : Int) < (p.joins.length : Int) := by omega
    have hbd := hwf.2.2.2
    have hw3 : IntKind.i64.wrap ((i : Int) + 1) = ((i + 1 : Nat) : Int) := by rw [wrap_i64 (by omega) (by omega)]; omega
    clear hl0
    refine zh ?_
    try dsimp only [lp56_9, zv, zm, Tryd.f56]
    simp only [bW, if_true, Nat.reduceEqDiff, if_false]
    repeat' first | (intro hb; first | cases hb | skip) | ((first | apply z8 | apply zd); (· rfl); (· simp (disch := assumption) only [go_sem, Nat.reduceEqDiff, Nat.reduceAdd, bP, ze, Nat.reduceLeDiff, Nat.reduceLT, Nat.reduceMul, List.length_append, decide_eq_true_eq, z6, z0, Int.reduceToNat, Int.reduceLE, Int.reduceLT, Int.reduceBNe, Int.reduceBEq, List.length_map, hx, hnm', hnm2, hlt', hw3, beq_self_eq_true]; rfl); (· simp only [go_sem, Nat.reduceLT, Nat.reduceEqDiff]; rfl); (· rfl); first | (apply zc; (· simp only [go_sem, Nat.reduceLT]; rfl); (· simp only [go_sem, Nat.reduceLT]; rfl)) | (apply zg; (· simp only [go_sem, Nat.reduceLT]; rfl))) | ((first | apply za | apply zb); (· rfl); (· simp only [go_sem, Nat.reduceLT]; rfl)) | (apply z9; (· simp only [go_sem, Nat.reduceEqDiff])) | (apply z7; (· simp only [go_sem, Nat.reduceEqDiff])) | (apply zf; (· kernel_rfl); (· kernel_rfl)) | (simp only [bW, if_true, Nat.reduceEqDiff, if_false])
    exact zn (st1 := ⟨66, [(2, .lref 0 0 3 0), (3, .lref 1 0 3 0), (6, I (i + 1 : Nat))], [(0, ⟨[zj p], 3, false⟩), (1, ⟨[zj ⟨p.sheets, nm, p.marks, nj, p.joins⟩], 3, false⟩)], 2, 0⟩) lk56_9 (by kernel_rfl) (ih (i + 1) (by rw [← List.drop_drop, hd]; rfl) hlt h)

theorem t56 (p : Paper) (nm nj : Bool) (hwf : p.wf) (hwf' : (⟨p.sheets, nm, p.marks, nj, p.joins⟩ : Paper).wf) : (lim cfg).pure 56 [zj p, zj ⟨p.sheets, nm, p.marks, nj, p.joins⟩] = some (B true) := by
  have hlm := len_if (f := encM) hwf.1
  have hlj := len_if (f := zO) hwf.2.1
  have hlm' := len_if (f := encM) hwf'.1
  have hlj' := len_if (f := zO) hwf'.2.1
  simp only [] at hlm' hlj'
  refine zo (zk 56) cfn56 rfl (n := 66) rfl ?_
  generalize hF : finP cfg Tryd.f56 = F
  simp only [bW, if_true, Nat.reduceEqDiff, if_false, zl]
  repeat' first | (intro hb; first | cases hb | skip) | ((first | apply z8 | apply zd); (· rfl); (· simp (disch := assumption) only [go_sem, Nat.reduceEqDiff, Nat.reduceAdd, bP, ze, Nat.reduceLeDiff, Nat.reduceLT, Nat.reduceMul, List.length_append, decide_eq_true_eq, z6, z0, Int.reduceToNat, Int.reduceLE, Int.reduceLT, Int.reduceBNe, Int.reduceBEq, hlm, hlj, hlm', hlj', bne_self_eq_false]; rfl); (· simp only [go_sem, Nat.reduceLT, Nat.reduceEqDiff]; rfl); (· rfl); first | (apply zc; (· simp only [go_sem, Nat.reduceLT]; rfl); (· simp only [go_sem, Nat.reduceLT]; rfl)) | (apply zg; (· simp only [go_sem, Nat.reduceLT]; rfl))) | ((first | apply za | apply zb); (· rfl); (· simp only [go_sem, Nat.reduceLT]; rfl)) | (apply z9; (· simp only [go_sem, Nat.reduceEqDiff])) | (apply z7; (· simp only [go_sem, Nat.reduceEqDiff])) | (apply zf; (· kernel_rfl); (· kernel_rfl)) | (simp only [bW, if_true, Nat.reduceEqDiff, if_false])
  refine zK (st1 := ⟨66, [(2, .lref 0 0 3 0), (3, .lref 1 0 3 0), (5, I (0 : Nat))], [(0, ⟨[zj p], 3, false⟩), (1, ⟨[zj ⟨p.sheets, nm, p.marks, nj, p.joins⟩], 3, false⟩)], 2, 0⟩) lk56_4 (by kernel_rfl) (L56_4 p nm nj _ _ hwf hwf' p.marks 0 rfl (Nat.zero_le _) ?_)
  simp only [bW, if_true, Nat.reduceEqDiff, if_false]
  repeat' first | (intro hb; first | cases hb | skip) | ((first | apply z8 | apply zd); (· rfl); (· simp (disch := assumption) only [go_sem, Nat.reduceEqDiff, Nat.reduceAdd, bP, ze, Nat.reduceLeDiff, Nat.reduceLT, Nat.reduceMul, List.length_append, decide_eq_true_eq, z6, z0, Int.reduceToNat, Int.reduceLE, Int.reduceLT, Int.reduceBNe, Int.reduceBEq, hlj, hlj']; rfl); (· simp only [go_sem, Nat.reduceLT, Nat.reduceEqDiff]; rfl); (· rfl); first | (apply zc; (· simp only [go_sem, Nat.reduceLT]; rfl); (· simp only [go_sem, Nat.reduceLT]; rfl)) | (apply zg; (· simp only [go_sem, Nat.reduceLT]; rfl))) | ((first | apply za | apply zb); (· rfl); (· simp only [go_sem, Nat.reduceLT]; rfl)) | (apply z9; (· simp only [go_sem, Nat.reduceEqDiff])) | (apply z7; (· simp only [go_sem, Nat.reduceEqDiff])) | (apply zf; (· kernel_rfl); (· kernel_rfl)) | (simp only [bW, if_true, Nat.reduceEqDiff, if_false])
  refine zK (st1 := ⟨66, [(2, .lref 0 0 3 0), (3, .lref 1 0 3 0), (6, I (0 : Nat))], [(0, ⟨[zj p], 3, false⟩), (1, ⟨[zj ⟨p.sheets, nm, p.marks, nj, p.joins⟩], 3, false⟩)], 2, 0⟩) lk56_9 (by kernel_rfl) (L56_9 p nm nj _ _ hwf hwf' p.joins 0 rfl (Nat.zero_le _) ?_)
  simp only [bW, if_true, Nat.reduceEqDiff, if_false]
  repeat' first | (intro hb; first | cases hb | skip) | ((first | apply z8 | apply zd); (· rfl); (· simp (disch := assumption) only [go_sem, Nat.reduceEqDiff, Nat.reduceAdd, bP, ze, Nat.reduceLeDiff, Nat.reduceLT, Nat.reduceMul, List.length_append, decide_eq_true_eq, z6, z0, Int.reduceToNat, Int.reduceLE, Int.reduceLT, Int.reduceBNe, Int.reduceBEq]; rfl); (· simp only [go_sem, Nat.reduceLT, Nat.reduceEqDiff]; rfl); (· rfl); first | (apply zc; (· simp only [go_sem, Nat.reduceLT]; rfl); (· simp only [go_sem, Nat.reduceLT]; rfl)) | (apply zg; (· simp only [go_sem, Nat.reduceLT]; rfl))) | ((first | apply za | apply zb); (· rfl); (· simp only [go_sem, Nat.reduceLT]; rfl)) | (apply z9; (· simp only [go_sem, Nat.reduceEqDiff])) | (apply z7; (· simp only [go_sem, Nat.reduceEqDiff])) | (apply zf; (· kernel_rfl); (· kernel_rfl)) | (simp only [bW, if_true, Nat.reduceEqDiff, if_false])
  subst hF
  all_goals simp only [go_sem, Nat.reduceEqDiff, bP, Nat.reduceAdd, Nat.reduceLeDiff, List.length_map, Tryd.f56]
end Go.VS
/-
  A paper with less said: what remains. (A text of this claim's own; nothing of it is trusted.)
-/
namespace Go.VS
open Go Go.VS.Walks
def SubP (q p : Paper) : Prop := q.sheets = p.sheets ∧ (∀ m ∈ q.marks, m ∈ p.marks) ∧ (∀ m ∈ q.joins, m ∈ p.joins) ∧ q.marks.length ≤ p.marks.length ∧ q.joins.length ≤ p.joins.length
theorem sub_ok {q p : Paper} (h : SubP q p) (hok : zu p = true) : zu q = true := by
  obtain ⟨o1, o2, o3, o4, o5, o6⟩ := zA hok
  obtain ⟨h1, h2, h3, h4, h5⟩ := h
  simp only [zu, Bool.and_eq_true, decide_eq_true_eq, List.all_eq_true]
  refine ⟨⟨⟨⟨⟨by omega, by omega⟩, by omega⟩, by omega⟩, fun m hm => ?_⟩, fun m hm => ?_⟩
  · have := o5 m (h2 m hm)
    unfold markOK zz at this ⊢
    rw [h1]; exact this
  · have := o6 m (h3 m hm)
    unfold joinOK zz at this ⊢
    rw [h1]; exact this
theorem sub_edges {q p : Paper} (h : SubP q p) {ax : Int} (t : T) : inE (zE q ax) t → inE (zE p ax) t := by
  obtain ⟨h1, h2, h3, -, -⟩ := h
  rw [inE_edges, inE_edges, h1]
  rintro (h | ⟨m, m1, m2, m3⟩ | ⟨m, m1, m2, m3⟩)
  · exact .inl h
  · exact .inr (.inl ⟨m, h2 m m1, m2, m3⟩)
  · exact .inr (.inr ⟨m, h3 m m1, m2, m3⟩)
theorem clash_sub {q p : Paper} (h : SubP q p) {ax : Int} (hok : zu p = true) (hc : clashA p ax = none) : clashA q ax = none := by
  obtain ⟨o1, o2, -⟩ := zA hok
  refine clash_of fun k h1 h2 c' hc' => ?_
  have hs := h.1
  obtain ⟨r1, c, c1, r2, l1⟩ := chains_le (sub_edges h) (fun e he => (edge_nodes (sub_ok h hok) he).1) (fun e he => (edge_nodes hok he).1) (show k < 5 by omega) hc'
  have hn := clash_none hc k h1 (by rw [← hs]; exact h2) c c1
  cases hlt : ltR c'.q one1 with
  | false => rfl
  | true =>
    rw [ltR_iff r1.2.1 (by decide), one_vR] at hlt
    have : ltR c.q one1 = true := by
      rw [ltR_iff r2.2.1 (by decide), one_vR]
      exact Std.lt_of_le_of_lt l1 hlt
    rw [this] at hn; cases hn
theorem poss_sub {q p : Paper} (h : SubP q p) (hok : zu p = true) (hp : possibleF p = true) : possibleF q = true := by
  simp only [possibleF, Bool.and_eq_true, Option.isNone_iff_eq_none] at hp ⊢
  exact ⟨clash_sub h hok hp.1, clash_sub h hok hp.2⟩
theorem without_sub (p : Paper) (r : Reason) : SubP (zr p r) p := by
  unfold zr
  split
  · exact ⟨rfl, fun _ h => h, fun _ h => List.mem_of_mem_eraseIdx h, Nat.le_refl _, List.length_eraseIdx_le _ _⟩
  · exact ⟨rfl, fun _ h => List.mem_of_mem_eraseIdx h, fun _ h => h, List.length_eraseIdx_le _ _, Nat.le_refl _⟩
theorem without_wf {p : Paper} (r : Reason) (hwf : p.wf) : (zr p r).wf := by
  obtain ⟨h1, h2, h3, h4⟩ := hwf
  obtain ⟨s1, s2, s3, s4, s5⟩ := without_sub p r
  refine ⟨?_, ?_, by omega, by omega⟩
  · unfold zr
    split
    · exact h1
    · intro h; simp only [] at h ⊢; rw [h1 h]; rfl
  · unfold zr
    split
    · intro h; simp only [] at h ⊢; rw [h2 h]; rfl
    · exact h2
theorem less_wf {p : Paper} (r : Reason) (hwf : p.wf) : (lessF p r).wf := by
  obtain ⟨h1, h2, h3, h4⟩ := hwf
  refine ⟨fun h => List.isEmpty_iff.1 h, fun h => List.isEmpty_iff.1 h, ?_, ?_⟩
  · exact Nat.le_trans lessL_len h3
  · exact Nat.le_trans lessL_len h4
theorem less_eq {p : Paper} {r : Reason} (h : (reasF p).any (eqW r) = true) : ∃ a b, lessF p r = ⟨(zr p r).sheets, a, (zr p r).marks, b, (zr p r).joins⟩ := by
  refine ⟨(lessF p r).nm, (lessF p r).nj, ?_⟩
  obtain ⟨j, a, b⟩ := r
  obtain ⟨-, ⟨rfl, i, rfl, hi⟩ | ⟨rfl, i, rfl, hi⟩⟩ := reas_any h
  · have := lessL_false (l := p.marks) (i := 0) (k := i)
    rw [Nat.zero_add] at this
    simp only [lessF, zr, Bool.not_false, lessL_true, this, Bool.false_eq_true, if_false, Int.toNat_natCast]
  · have := lessL_false (l := p.joins) (i := 0) (k := i)
    rw [Nat.zero_add] at this
    simp only [lessF, zr, Bool.not_true, lessL_true, this, if_true, Int.toNat_natCast]
theorem lo_flags {sh : Int} {ms : List Mark} {js : List Join} {a b c d : Bool} {s ax : Int} : loF ⟨sh, a, ms, b, js⟩ s ax = loF ⟨sh, c, ms, d, js⟩ s ax ∧ hiF ⟨sh, a, ms, b, js⟩ s ax = hiF ⟨sh, c, ms, d, js⟩ s ax := ⟨rfl, rfl⟩
theorem reas_mem {p : Paper} {r : Reason} (h : r ∈ reasF p) : (reasF p).any (eqW r) = true := by
  rw [List.any_eq_true]
  exact ⟨r, h, by simp [eqW]⟩
theorem idxs_get {b : Bool} : ∀ {m i k : Nat}, k < m → (idxs b i m)[k]? = some ⟨b, ((i + k : Nat) : Int), false⟩
  | 0, _, _, h => by omega
  | m + 1, i, 0, _ => by simp [idxs]
  | m + 1, i, k + 1, h => by
    rw [idxs, List.getElem?_cons_succ, idxs_get (by omega)]
    congr 3
    omega
theorem reas_get {p : Paper} {k : Nat} (h : k < p.marks.length + p.joins.length) : (reasF p)[k]? = some (if k < p.marks.length then ⟨false, (k : Int), false⟩ else ⟨true, ((k : Int) - p.marks.length), false⟩) := by
  unfold reasF
  by_cases h1 : k < p.marks.length
  · rw [if_pos h1, List.getElem?_append_left (by rw [idxs_len]; exact h1), idxs_get h1, Nat.zero_add]
  · rw [if_neg h1, List.getElem?_append_right (by rw [idxs_len]; omega), idxs_len, idxs_get (by omega)]
    congr 2
    omega
theorem reas_len (p : Paper) : (reasF p).length = p.marks.length + p.joins.length := by simp [reasF, idxs_len]
end Go.VS
namespace Go.VS
open Go Go.Proofs
set_option maxHeartbeats 0
set_option linter.unusedSimpArgs false

noncomputable def lp54_7 : Code := zv [1, 1, 1, 1, 0, 1, 0, 0] (zm Tryd.f54)
theorem lk54_7 : cfg.keep 54 (zq lp54_7) = [1, 2, 3, 9, 10, 26, 27, 28] := by kernel_rfl

def bdF (p : Paper) (s ax : Int) : Ratio × Ratio := (loF p s ax, hiF p s ax)
def chg (a b : Ratio × Ratio) : Bool := !(((b.1.n == a.1.n) && (b.1.d == a.1.d)) && ((b.2.n == a.2.n) && (b.2.d == a.2.d)))
theorem L54_7 {F : Exit → St → Option D} (p : Paper) (s ax : Int) (l qh : Ratio) (rs : List Reason) (k : List Kt) (x : D) (hl0 : rs.length ≤ 1000) (hcall : ∀ r ∈ rs, (lim cfg).pure 103 [zj p, .agg [B r.join, I r.at_, B r.back]] = some (zj (zr p r)) ∧ (lim cfg).pure 73 [zj (zr p r), I s, I ax] = some (.agg [I (loF (zr p r) s ax).n, I (loF (zr p r) s ax).d, I (hiF (zr p r) s ax).n, I (hiF (zr p r) s ax).d])) : ∀ (rest : List Reason) (i : Nat) (acc : List Reason), rs.drop i = rest → i ≤ rs.length → acc.length + rest.length ≤ 1000 →
    (zB cfg (lim cfg) 54 F k (.exit 0) ⟨46, [(29, B false), (1, I s), (2, I ax), (3, .lref 0 0 3 0), (9, .lref 1 0 4 0), (10, gD 2 3 (acc ++ rest.filter (fun r => chg (l, qh) (bdF (zr p r) s ax)))), (26, .sl false (rs.map zH) 3 none), (27, I rs.length), (28, I (rs.length : Nat))], (0, ⟨[zj p], 3, false⟩) :: (1, ⟨[.agg [I l.n, I l.d, I qh.n, I qh.d]], 4, false⟩) :: gO 2 3 zH (acc ++ rest.filter (fun r => chg (l, qh) (bdF (zr p r) s ax))), gN 2 (acc ++ rest.filter (fun r => chg (l, qh) (bdF (zr p r) s ax))), 0⟩ = some x) →
    EvL cfg (lim cfg) 54 F lp54_7 k ⟨46, [(1, I s), (2, I ax), (3, .lref 0 0 3 0), (9, .lref 1 0 4 0), (10, gD 2 3 (acc)), (26, .sl false (rs.map zH) 3 none), (27, I rs.length), (28, I (i : Nat))], (0, ⟨[zj p], 3, false⟩) :: (1, ⟨[.agg [I l.n, I l.d, I qh.n, I qh.d]], 4, false⟩) :: gO 2 3 zH (acc), gN 2 (acc), 0⟩ = some x := by
  intro rest
  induction rest with
  | nil =>
    intro i acc hd hi he h
    have hi' : i = rs.length := by
      have := List.drop_eq_nil_iff.1 hd
      omega
    subst hi'
    rw [List.filter_nil, List.append_nil] at h
    refine zh ?_
    try dsimp only [lp54_7, zv, zm, Tryd.f54]
    simp only [bW, if_true, Nat.reduceEqDiff, if_false]
    repeat' first | (intro hb; first | cases hb | skip) | ((first | apply z8 | apply zd); (· rfl); (· simp (disch := assumption) only [go_sem, Nat.reduceEqDiff, Nat.reduceAdd, bP, ze, Nat.reduceLeDiff, Nat.reduceLT, Nat.reduceMul, List.length_append, decide_eq_true_eq, z6, z0, Int.reduceToNat, Int.reduceLE, Int.reduceLT, Int.reduceBNe, Int.reduceBEq, Int.lt_irrefl]; rfl); (· simp only [go_sem, Nat.reduceLT, Nat.reduceEqDiff]; rfl); (· rfl); first | (apply zc; (· simp only [go_sem, Nat.reduceLT]; rfl); (· simp only [go_sem, Nat.reduceLT]; rfl)) | (apply zg; (· simp only [go_sem, Nat.reduceLT]; rfl))) | ((first | apply za | apply zb); (· rfl); (· simp only [go_sem, Nat.reduceLT]; rfl)) | (apply z9; (· simp only [go_sem, Nat.reduceEqDiff])) | (apply z7; (· simp only [go_sem, Nat.reduceEqDiff])) | (apply zf; (· kernel_rfl); (· kernel_rfl)) | (simp only [bW, if_true, Nat.reduceEqDiff, if_false])
    exact h
  | cons r rest ih =>
    intro i acc hd hi he h
    have hlt : i < rs.length := by
      rcases Nat.lt_or_ge i rs.length with h | h
      · exact h
      · rw [List.drop_eq_nil_of_le h] at hd; cases hd
    have hm : rs[i]? = some r := by rw [← List.head?_drop, hd]; rfl
    have hx : (rs.map zH)[i]? = some (.agg [B r.join, I r.at_, B r.back]) := by rw [List.getElem?_map, hm]; rfl
    have hlt' : (i : Int) < (rs.length : Int) := by omega
    have hw3 : IntKind.i64.wrap ((i : Int) + 1) = ((i + 1 : Nat) : Int) := by rw [wrap_i64 (by omega) (by omega)]; omega
    obtain ⟨k103, k73⟩ := hcall r (List.mem_of_getElem? hm)
    cases acc with
    | nil =>
      rw [List.nil_append] at h
      simp only [gD, gO, gN]
      refine zh ?_
      try dsimp only [lp54_7, zv, zm, Tryd.f54]
      simp only [bW, if_true, Nat.reduceEqDiff, if_false]
      repeat' first | (intro hb; first | cases hb | skip) | ((first | apply z8 | apply zd); (· rfl); (· simp (disch := assumption) only [go_sem, Nat.reduceEqDiff, Nat.reduceAdd, bP, ze, Nat.reduceLeDiff, Nat.reduceLT, Nat.reduceMul, List.length_append, decide_eq_true_eq, z6, z0, Int.reduceToNat, Int.reduceLE, Int.reduceLT, Int.reduceBNe, Int.reduceBEq, List.length_map, hx, hlt', hw3, k103, k73, okW.allOk, Nat.zero_lt_succ]; rfl); (· simp only [go_sem, Nat.reduceLT, Nat.reduceEqDiff]; rfl); (· rfl); first | (apply zc; (· simp only [go_sem, Nat.reduceLT]; rfl); (· simp only [go_sem, Nat.reduceLT]; rfl)) | (apply zg; (· simp only [go_sem, Nat.reduceLT]; rfl))) | ((first | apply za | apply zb); (· rfl); (· simp only [go_sem, Nat.reduceLT]; rfl)) | (apply z9; (· simp only [go_sem, Nat.reduceEqDiff])) | (apply z7; (· simp only [go_sem, Nat.reduceEqDiff])) | (apply zf; (· kernel_rfl); (· kernel_rfl)) | (simp only [bW, if_true, Nat.reduceEqDiff, if_false])
      · have hch : chg (l, qh) (bdF (zr p r) s ax) = true := by simpa [chg, bdF, Bool.and_true] using hb
        clear hb
        refine zn (st1 := ⟨46, [(1, I s), (2, I ax), (3, .lref 0 0 3 0), (9, .lref 1 0 4 0), (10, gD 2 3 (([]) ++ [r])), (26, .sl false (rs.map zH) 3 none), (27, I rs.length), (28, I (i + 1 : Nat))], (0, ⟨[zj p], 3, false⟩) :: (1, ⟨[.agg [I l.n, I l.d, I qh.n, I qh.d]], 4, false⟩) :: gO 2 3 zH (([]) ++ [r]), gN 2 (([]) ++ [r]), 0⟩) lk54_7 (by
          simp only [go_sem, List.map_append, Nat.reduceEqDiff, Nat.reduceLT, Nat.reduceAdd, bI, bD, bI2, okW.renL, okW.idsL, okW.idsL_app, okW.ids, okW.ren, gD, gO, gN, zj, zH, List.length_append]
          try rfl) (ih (i + 1) (([]) ++ [r]) (by rw [← List.drop_drop, hd]; rfl) hlt (by simp at he ⊢; omega) (by rw [List.filter_cons, hch] at h; simpa using h))
      · have hch : chg (l, qh) (bdF (zr p r) s ax) = false := by simpa [chg, bdF, Bool.and_true] using hb
        clear hb
        refine zn (st1 := ⟨46, [(1, I s), (2, I ax), (3, .lref 0 0 3 0), (9, .lref 1 0 4 0), (10, gD 2 3 ([])), (26, .sl false (rs.map zH) 3 none), (27, I rs.length), (28, I (i + 1 : Nat))], (0, ⟨[zj p], 3, false⟩) :: (1, ⟨[.agg [I l.n, I l.d, I qh.n, I qh.d]], 4, false⟩) :: gO 2 3 zH ([]), gN 2 ([]), 0⟩) lk54_7 (by
          simp only [go_sem, List.map_append, Nat.reduceEqDiff, Nat.reduceLT, Nat.reduceAdd, bI, bD, bI2, okW.renL, okW.idsL, okW.idsL_app, okW.ids, okW.ren, gD, gO, gN, zj, zH, List.length_append]
          try rfl) (ih (i + 1) ([]) (by rw [← List.drop_drop, hd]; rfl) hlt (by simp at he ⊢; omega) (by rw [List.filter_cons, hch] at h; simpa using h))
    | cons e ar =>
      simp only [List.length_cons] at he
      have hle : (ar.length + 1 + 1 ≤ ar.length + 1) = False := by simp
      have hb1 : ((ar.length + 1 + 1) * 24 ≤ big) = True := by simp [big]; omega
      have hb2 : (ar.length + 1 + 1 ≤ big) = True := by simp [big]; omega
      have hao : allOk 3 (zH e :: List.map zH ar) = true := okW.allOk (e :: ar)
      simp only [gD, gO, gN, List.map_cons]
      refine zh ?_
      try dsimp only [lp54_7, zv, zm, Tryd.f54]
      simp only [bW, if_true, Nat.reduceEqDiff, if_false]
      repeat' first | (intro hb; first | cases hb | skip) | ((first | apply z8 | apply zd); (· rfl); (· simp (disch := assumption) only [go_sem, Nat.reduceEqDiff, Nat.reduceAdd, bP, ze, Nat.reduceLeDiff, Nat.reduceLT, Nat.reduceMul, List.length_append, decide_eq_true_eq, z6, z0, Int.reduceToNat, Int.reduceLE, Int.reduceLT, Int.reduceBNe, Int.reduceBEq, List.length_map, hx, hlt', hw3, k103, k73, okW.allOk, Nat.zero_lt_succ, hle, hb1, hb2, hao]; rfl); (· simp only [go_sem, Nat.reduceLT, Nat.reduceEqDiff]; rfl); (· rfl); first | (apply zc; (· simp only [go_sem, Nat.reduceLT]; rfl); (· simp only [go_sem, Nat.reduceLT]; rfl)) | (apply zg; (· simp only [go_sem, Nat.reduceLT]; rfl))) | ((first | apply za | apply zb); (· rfl); (· simp only [go_sem, Nat.reduceLT]; rfl)) | (apply z9; (· simp only [go_sem, Nat.reduceEqDiff])) | (apply z7; (· simp only [go_sem, Nat.reduceEqDiff])) | (apply zf; (· kernel_rfl); (· kernel_rfl)) | (simp only [bW, if_true, Nat.reduceEqDiff, if_false])
      · have hch : chg (l, qh) (bdF (zr p r) s ax) = true := by simpa [chg, bdF, Bool.and_true] using hb
        clear hb
        refine zn (st1 := ⟨46, [(1, I s), (2, I ax), (3, .lref 0 0 3 0), (9, .lref 1 0 4 0), (10, gD 2 3 ((e :: ar) ++ [r])), (26, .sl false (rs.map zH) 3 none), (27, I rs.length), (28, I (i + 1 : Nat))], (0, ⟨[zj p], 3, false⟩) :: (1, ⟨[.agg [I l.n, I l.d, I qh.n, I qh.d]], 4, false⟩) :: gO 2 3 zH ((e :: ar) ++ [r]), gN 2 ((e :: ar) ++ [r]), 0⟩) lk54_7 (by
          simp only [go_sem, List.map_append, Nat.reduceEqDiff, Nat.reduceLT, Nat.reduceAdd, bI, bD, bI2, okW.renL, okW.idsL, okW.idsL_app, okW.ids, okW.ren, gD, gO, gN, zj, zH, List.length_append]
          try rfl) (ih (i + 1) ((e :: ar) ++ [r]) (by rw [← List.drop_drop, hd]; rfl) hlt (by simp at he ⊢; omega) (by rw [List.filter_cons, hch] at h; simpa using h))
      · have hch : chg (l, qh) (bdF (zr p r) s ax) = false := by simpa [chg, bdF, Bool.and_true] using hb
        clear hb
        refine zn (st1 := ⟨46, [(1, I s), (2, I ax), (3, .lref 0 0 3 0), (9, .lref 1 0 4 0), (10, gD 2 3 (e :: ar)), (26, .sl false (rs.map zH) 3 none), (27, I rs.length), (28, I (i + 1 : Nat))], (0, ⟨[zj p], 3, false⟩) :: (1, ⟨[.agg [I l.n, I l.d, I qh.n, I qh.d]], 4, false⟩) :: gO 2 3 zH (e :: ar), gN 2 (e :: ar), 0⟩) lk54_7 (by
          simp only [go_sem, List.map_append, Nat.reduceEqDiff, Nat.reduceLT, Nat.reduceAdd, bI, bD, bI2, okW.renL, okW.idsL, okW.idsL_app, okW.ids, okW.ren, gD, gO, gN, zj, zH, List.length_append]
          try rfl) (ih (i + 1) (e :: ar) (by rw [← List.drop_drop, hd]; rfl) hlt (by simp at he ⊢; omega) (by rw [List.filter_cons, hch] at h; simpa using h))

end Go.VS
namespace Go.VS
open Go Go.Proofs
set_option maxHeartbeats 0
set_option linter.unusedSimpArgs false

def restsP (p : Paper) (s ax : Int) : List Reason := if zJ p ax [s] = 0 then (reasF p).filter (fun r => chg (bdF p s ax) (bdF (zr p r) s ax)) else []
theorem t54 (p : Paper) (s ax : Int) (hwf : p.wf) : (lim cfg).pure 54 [zj p, I s, I ax] = some (.tup [gS 3 zH (restsP p s ax), I (zJ p ax [s])]) := by
  have h71 := t71 p ax false [s] hwf 1 (fun _ => rfl) (fun h => by cases h) (by simp)
  simp only [List.map_cons, List.map_nil] at h71
  by_cases hk : zJ p ax [s] = 0
  case neg =>
    unfold restsP
    rw [if_neg hk]
    have n1 : (zJ p ax [s] != 0) = true := by simp [hk]
    simp only [gS]
    refine zo (zk 54) cfn54 rfl (n := 46) rfl ?_
    simp only [bW, if_true, Nat.reduceEqDiff, if_false, zl]
    repeat' first | (intro hb; first | cases hb | skip) | ((first | apply z8 | apply zd); (· rfl); (· simp (disch := assumption) only [go_sem, Nat.reduceEqDiff, Nat.reduceAdd, bP, ze, Nat.reduceLeDiff, Nat.reduceLT, Nat.reduceMul, List.length_append, decide_eq_true_eq, z6, z0, Int.reduceToNat, Int.reduceLE, Int.reduceLT, Int.reduceBNe, Int.reduceBEq, h71, n1]; rfl); (· simp only [go_sem, Nat.reduceLT, Nat.reduceEqDiff]; rfl); (· rfl); first | (apply zc; (· simp only [go_sem, Nat.reduceLT]; rfl); (· simp only [go_sem, Nat.reduceLT]; rfl)) | (apply zg; (· simp only [go_sem, Nat.reduceLT]; rfl))) | ((first | apply za | apply zb); (· rfl); (· simp only [go_sem, Nat.reduceLT]; rfl)) | (apply z9; (· simp only [go_sem, Nat.reduceEqDiff])) | (apply z7; (· simp only [go_sem, Nat.reduceEqDiff])) | (apply zf; (· kernel_rfl); (· kernel_rfl)) | (simp only [bW, if_true, Nat.reduceEqDiff, if_false])
    all_goals try simp only [go_sem, Nat.reduceEqDiff, bP, Nat.reduceAdd, Nat.reduceLeDiff, List.length_map, Tryd.f54]
    all_goals first | done | rfl | (simp_all []; done) | trace_state
  obtain ⟨s1, s2, s3, s4⟩ := known_zero.1 hk
  simp only [List.all_cons, List.all_nil, Bool.and_true] at s3
  rw [hk] at h71
  obtain ⟨o1, o2, o5, o6, -, -⟩ := zA s1
  have h73 := t73 p s ax hwf s1 s3
  have h102 := t102 p hwf (by omega) (by omega)
  have hrl := reas_len p
  have hcall : ∀ r ∈ reasF p, (lim cfg).pure 103 [zj p, .agg [B r.join, I r.at_, B r.back]] = some (zj (zr p r)) ∧ (lim cfg).pure 73 [zj (zr p r), I s, I ax] = some (.agg [I (loF (zr p r) s ax).n, I (loF (zr p r) s ax).d, I (hiF (zr p r) s ax).n, I (hiF (zr p r) s ax).d]) := by
    intro r hr
    have hsub := without_sub p r
    refine ⟨t103 p r hwf (by omega) (by omega) (reas_mem hr), t73 _ s ax (without_wf r hwf) (sub_ok hsub s1) ?_⟩
    unfold zz at s3 ⊢
    rw [hsub.1]
    exact s3
  have hres : restsP p s ax = (reasF p).filter (fun r => chg (loF p s ax, hiF p s ax) (bdF (zr p r) s ax)) := by
    unfold restsP bdF
    rw [if_pos hk]
  rw [hres, hk]
  clear hres hk
  have hlen : (reasF p).length ≤ 1000 := by omega
  clear hrl
  generalize reasF p = rs at *
  generalize loF p s ax = l at *
  generalize hiF p s ax = qh at *
  cases rs with
  | nil =>
    rw [List.filter_nil]
    simp only [gS] at h102 ⊢
    refine zo (zk 54) cfn54 rfl (n := 46) rfl ?_
    generalize hF : finP cfg Tryd.f54 = F
    simp only [bW, if_true, Nat.reduceEqDiff, if_false, zl]
    repeat' first | (intro hb; first | cases hb | skip) | ((first | apply z8 | apply zd); (· rfl); (· simp (disch := assumption) only [go_sem, Nat.reduceEqDiff, Nat.reduceAdd, bP, ze, Nat.reduceLeDiff, Nat.reduceLT, Nat.reduceMul, List.length_append, decide_eq_true_eq, z6, z0, Int.reduceToNat, Int.reduceLE, Int.reduceLT, Int.reduceBNe, Int.reduceBEq, h71, h102, h73, bne_self_eq_false]; rfl); (· simp only [go_sem, Nat.reduceLT, Nat.reduceEqDiff]; rfl); (· rfl); first | (apply zc; (· simp only [go_sem, Nat.reduceLT]; rfl); (· simp only [go_sem, Nat.reduceLT]; rfl)) | (apply zg; (· simp only [go_sem, Nat.reduceLT]; rfl))) | ((first | apply za | apply zb); (· rfl); (· simp only [go_sem, Nat.reduceLT]; rfl)) | (apply z9; (· simp only [go_sem, Nat.reduceEqDiff])) | (apply z7; (· simp only [go_sem, Nat.reduceEqDiff])) | (apply zf; (· kernel_rfl); (· kernel_rfl)) | (simp only [bW, if_true, Nat.reduceEqDiff, if_false])
    apply zK lk54_7
    · simp only [go_sem, List.map_append, Nat.reduceEqDiff, Nat.reduceLT, Nat.reduceAdd, bI, bD, bI2, zj]
      rfl
    refine zh ?_
    try dsimp only [lp54_7, zv, zm, Tryd.f54]
    simp only [bW, if_true, Nat.reduceEqDiff, if_false]
    repeat' first | (intro hb; first | cases hb | skip) | ((first | apply z8 | apply zd); (· rfl); (· simp (disch := assumption) only [go_sem, Nat.reduceEqDiff, Nat.reduceAdd, bP, ze, Nat.reduceLeDiff, Nat.reduceLT, Nat.reduceMul, List.length_append, decide_eq_true_eq, z6, z0, Int.reduceToNat, Int.reduceLE, Int.reduceLT, Int.reduceBNe, Int.reduceBEq, Int.lt_irrefl]; rfl); (· simp only [go_sem, Nat.reduceLT, Nat.reduceEqDiff]; rfl); (· rfl); first | (apply zc; (· simp only [go_sem, Nat.reduceLT]; rfl); (· simp only [go_sem, Nat.reduceLT]; rfl)) | (apply zg; (· simp only [go_sem, Nat.reduceLT]; rfl))) | ((first | apply za | apply zb); (· rfl); (· simp only [go_sem, Nat.reduceLT]; rfl)) | (apply z9; (· simp only [go_sem, Nat.reduceEqDiff])) | (apply z7; (· simp only [go_sem, Nat.reduceEqDiff])) | (apply zf; (· kernel_rfl); (· kernel_rfl)) | (simp only [bW, if_true, Nat.reduceEqDiff, if_false])
    subst hF
    all_goals simp only [go_sem, Nat.reduceEqDiff, bP, Nat.reduceAdd, Nat.reduceLeDiff, List.length_map, Tryd.f54]
  | cons w0 l0 =>
    have hg : gS 3 zH (w0 :: l0) = .sl false ((w0 :: l0).map zH) 3 none := rfl
    rw [hg] at h102
    clear hg
    generalize w0 :: l0 = rs at *
    refine zo (zk 54) cfn54 rfl (n := 46) rfl ?_
    generalize hF : finP cfg Tryd.f54 = F
    simp only [bW, if_true, Nat.reduceEqDiff, if_false, zl]
    repeat' first | (intro hb; first | cases hb | skip) | ((first | apply z8 | apply zd); (· rfl); (· simp (disch := assumption) only [go_sem, Nat.reduceEqDiff, Nat.reduceAdd, bP, ze, Nat.reduceLeDiff, Nat.reduceLT, Nat.reduceMul, List.length_append, decide_eq_true_eq, z6, z0, Int.reduceToNat, Int.reduceLE, Int.reduceLT, Int.reduceBNe, Int.reduceBEq, h71, h102, h73, bne_self_eq_false, List.length_map]; rfl); (· simp only [go_sem, Nat.reduceLT, Nat.reduceEqDiff]; rfl); (· rfl); first | (apply zc; (· simp only [go_sem, Nat.reduceLT]; rfl); (· simp only [go_sem, Nat.reduceLT]; rfl)) | (apply zg; (· simp only [go_sem, Nat.reduceLT]; rfl))) | ((first | apply za | apply zb); (· rfl); (· simp only [go_sem, Nat.reduceLT]; rfl)) | (apply z9; (· simp only [go_sem, Nat.reduceEqDiff])) | (apply z7; (· simp only [go_sem, Nat.reduceEqDiff])) | (apply zf; (· kernel_rfl); (· kernel_rfl)) | (simp only [bW, if_true, Nat.reduceEqDiff, if_false])
    refine zK (st1 := ⟨46, [(1, I s), (2, I ax), (3, .lref 0 0 3 0), (9, .lref 1 0 4 0), (10, gD 2 3 (([] : List Reason))), (26, .sl false (rs.map zH) 3 none), (27, I rs.length), (28, I (0 : Nat))], (0, ⟨[zj p], 3, false⟩) :: (1, ⟨[.agg [I l.n, I l.d, I qh.n, I qh.d]], 4, false⟩) :: gO 2 3 zH (([] : List Reason)), gN 2 (([] : List Reason)), 0⟩) lk54_7 (by
      simp only [go_sem, List.map_append, Nat.reduceEqDiff, Nat.reduceLT, Nat.reduceAdd, bI, bD, bI2, zj, gD, gO, gN]
      try rfl) (L54_7 p s ax l qh rs _ _ hlen hcall rs 0 [] rfl (Nat.zero_le _) (by simp; omega) ?_)
    rw [List.nil_append]
    generalize rs.filter (fun r => chg (l, qh) (bdF (zr p r) s ax)) = R
    cases R with
    | nil =>
      simp only [gD, gO, gN, gS]
      simp only [bW, if_true, Nat.reduceEqDiff, if_false]
      repeat' first | (intro hb; first | cases hb | skip) | ((first | apply z8 | apply zd); (· rfl); (· simp (disch := assumption) only [go_sem, Nat.reduceEqDiff, Nat.reduceAdd, bP, ze, Nat.reduceLeDiff, Nat.reduceLT, Nat.reduceMul, List.length_append, decide_eq_true_eq, z6, z0, Int.reduceToNat, Int.reduceLE, Int.reduceLT, Int.reduceBNe, Int.reduceBEq]; rfl); (· simp only [go_sem, Nat.reduceLT, Nat.reduceEqDiff]; rfl); (· rfl); first | (apply zc; (· simp only [go_sem, Nat.reduceLT]; rfl); (· simp only [go_sem, Nat.reduceLT]; rfl)) | (apply zg; (· simp only [go_sem, Nat.reduceLT]; rfl))) | ((first | apply za | apply zb); (· rfl); (· simp only [go_sem, Nat.reduceLT]; rfl)) | (apply z9; (· simp only [go_sem, Nat.reduceEqDiff])) | (apply z7; (· simp only [go_sem, Nat.reduceEqDiff])) | (apply zf; (· kernel_rfl); (· kernel_rfl)) | (simp only [bW, if_true, Nat.reduceEqDiff, if_false])
      subst hF
      all_goals simp only [go_sem, Nat.reduceEqDiff, bP, Nat.reduceAdd, Nat.reduceLeDiff, List.length_map, Tryd.f54]
    | cons w r =>
      simp only [gD, gO, gN, gS]
      simp only [bW, if_true, Nat.reduceEqDiff, if_false]
      repeat' first | (intro hb; first | cases hb | skip) | ((first | apply z8 | apply zd); (· rfl); (· simp (disch := assumption) only [go_sem, Nat.reduceEqDiff, Nat.reduceAdd, bP, ze, Nat.reduceLeDiff, Nat.reduceLT, Nat.reduceMul, List.length_append, decide_eq_true_eq, z6, z0, Int.reduceToNat, Int.reduceLE, Int.reduceLT, Int.reduceBNe, Int.reduceBEq]; rfl); (· simp only [go_sem, Nat.reduceLT, Nat.reduceEqDiff]; rfl); (· rfl); first | (apply zc; (· simp only [go_sem, Nat.reduceLT]; rfl); (· simp only [go_sem, Nat.reduceLT]; rfl)) | (apply zg; (· simp only [go_sem, Nat.reduceLT]; rfl))) | ((first | apply za | apply zb); (· rfl); (· simp only [go_sem, Nat.reduceLT]; rfl)) | (apply z9; (· simp only [go_sem, Nat.reduceEqDiff])) | (apply z7; (· simp only [go_sem, Nat.reduceEqDiff])) | (apply zf; (· kernel_rfl); (· kernel_rfl)) | (simp only [bW, if_true, Nat.reduceEqDiff, if_false])
      subst hF
      all_goals simp only [go_sem, Nat.reduceEqDiff, bP, Nat.reduceAdd, Nat.reduceLeDiff, List.length_map, Tryd.f54, okW.snap, okW.snapAll, z6]
end Go.VS
