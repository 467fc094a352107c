/- Nothing of a statement is proved in this text alone: it is part 4 of the proof's own tools, an evaluator of the code over deep values, its soundness, and what it makes of this seat's functions. Conditions: none beyond the statement's own. -/
import Derived.Test.YtbndhgnkgoggmaaDoorVsCardQ3
import Derived.OpenShut
import Derived.Deep.Slices
import Derived.ChangeStays
import Derived.ReadAgain
import Derived.ChangeSame
import Derived.ChangeBears2
import Derived.Test.YtbndhgnkgoggmaaDoorCards
import Derived.Test.YtbndhgnkgoggmaaDoorTie
import Derived.WalkKit
import Derived.ProofKit
import Derived.Deep.DeepHandedRow
import Derived.Lib.LaidTab
set_option linter.unusedSimpArgs false
set_option linter.unusedVariables false
/-
  What the chains of a paper are: the least quotients of walks. (A text of this claim's own; nothing of it is trusted.)
-/
namespace Go.VS
open Go Go.VS.Walks
def vR (r : Ratio) : Rat := vq r.n r.d
def tE (e : Edge) : T := ⟨e.src.toNat, e.dst.toNat, vR e.q⟩
def inE (es : List Edge) (t : T) : Prop := ∃ e, e ∈ es ∧ tE e = t
def prE (w : List Edge) : Rat := pr (w.map tE)
/-- A walk along zK. -/
def Wk (es : List Edge) (a : Nat) (w : List Edge) (b : Nat) : Prop := Ch (inE es) a (w.map tE) b ∧ ∀ e ∈ w, e ∈ es
theorem wk_nil (es : List Edge) (a : Nat) : Wk es a [] a := ⟨rfl, fun _ h => by cases h⟩
theorem wk_append {es w v : List Edge} {a b c : Nat} (h1 : Wk es a w b) (h2 : Wk es b v c) : Wk es a (w ++ v) c := by
  refine ⟨by rw [List.map_append]; exact ch_append.2 ⟨b, h1.1, h2.1⟩, fun e he => ?_⟩
  rcases List.mem_append.1 he with he | he
  · exact h1.2 e he
  · exact h2.2 e he
theorem wk_one {es : List Edge} {e : Edge} (he : e ∈ es) : Wk es e.src.toNat [e] e.dst.toNat :=
  ⟨⟨⟨e, he, rfl⟩, rfl, rfl⟩, fun e' h => by rcases List.mem_singleton.1 h with rfl; exact he⟩
theorem wk_snoc {es w : List Edge} {a : Nat} {e : Edge} (h1 : Wk es a w e.src.toNat) (he : e ∈ es) : Wk es a (w ++ [e]) e.dst.toNat := wk_append h1 (wk_one he)
theorem wk_unsnoc {es w : List Edge} {a b : Nat} {e : Edge} (h : Wk es a (w ++ [e]) b) : Wk es a w e.src.toNat ∧ e ∈ es ∧ e.dst.toNat = b := by
  have hm := h.2 e (by simp)
  have h1 := h.1
  rw [List.map_append] at h1
  obtain ⟨c, h2, h3⟩ := ch_append.1 h1
  refine ⟨⟨?_, fun e' he => h.2 e' (by simp [he])⟩, hm, h3.2.2⟩
  rw [show e.src.toNat = c from h3.2.1]
  exact h2
theorem prE_append (w v : List Edge) : prE (w ++ v) = prE w * prE v := by unfold prE; rw [List.map_append, pr_append]
theorem prE_snoc (w : List Edge) (e : Edge) : prE (w ++ [e]) = prE w * vR e.q := by
  rw [prE_append]
  show _ * (vR e.q * 1) = _
  rw [Rat.mul_one]
theorem prE_nil : prE [] = 1 := rfl
/-- A ratio of positive numbers in its lowest terms. -/
def redR (r : Ratio) : Prop := 1 ≤ r.n ∧ 1 ≤ r.d ∧ Int.gcd r.d r.n = 1
theorem red_pos {r : Ratio} (h : redR r) : 0 < vR r := vq_pos (by have := h.1; omega) (by have := h.2.1; omega)
theorem red_eq {a b : Ratio} (ha : redR a) (hb : redR b) (h : vR a = vR b) : a = b := by
  obtain ⟨e1, e2⟩ := vq_eq (by have := ha.2.1; omega) (by have := hb.2.1; omega) ha.2.2 hb.2.2 h
  cases a; cases b; simp only at e1 e2; rw [e1, e2]
theorem ltR_iff {a b : Ratio} (ha : 1 ≤ a.d) (hb : 1 ≤ b.d) : ltR a b = true ↔ vR a < vR b := by
  unfold ltR vR
  rw [vq_lt (by omega) (by omega), decide_eq_true_eq]
theorem low_red {n d : Int} (hn : 1 ≤ n) (hd : 1 ≤ d) : redR (lowR n d) ∧ vR (lowR n d) = vq n d := by
  obtain ⟨a, rfl⟩ := Int.eq_ofNat_of_zero_le (show 0 ≤ n by omega)
  obtain ⟨b, rfl⟩ := Int.eq_ofNat_of_zero_le (show 0 ≤ d by omega)
  have hg : 0 < a.gcd b := Nat.gcd_pos_of_pos_left b (by omega)
  have e1 : (a : Int) / gcdI a b = ((a / a.gcd b : Nat) : Int) := by simp [gcdI]
  have e2 : (b : Int) / gcdI a b = ((b / a.gcd b : Nat) : Int) := by simp [gcdI]
  have p1 : 0 < a / a.gcd b := Nat.div_pos (Nat.le_of_dvd (by omega) (Nat.gcd_dvd_left a b)) hg
  have p2 : 0 < b / a.gcd b := Nat.div_pos (Nat.le_of_dvd (by omega) (Nat.gcd_dvd_right a b)) hg
  refine ⟨⟨?_, ?_, ?_⟩, ?_⟩
  · show 1 ≤ (a : Int) / gcdI a b
    rw [e1]; omega
  · show 1 ≤ (b : Int) / gcdI a b
    rw [e2]; omega
  · show Int.gcd ((b : Int) / gcdI a b) ((a : Int) / gcdI a b) = 1
    rw [e1, e2, Int.gcd_natCast_natCast, Nat.gcd_comm]
    exact Nat.coprime_div_gcd_div_gcd hg
  · unfold vR lowR
    refine vq_low (by simp only [gcdI, Int.toNat_natCast]; omega) ?_ ?_
    · simp only [gcdI, Int.toNat_natCast]; exact Int.natCast_dvd_natCast.2 (Nat.gcd_dvd_left a b)
    · simp only [gcdI, Int.toNat_natCast]; exact Int.natCast_dvd_natCast.2 (Nat.gcd_dvd_right a b)
/-- A chain is what a walk comes to. -/
def RealC (es : List Edge) (src n b : Nat) (c : Chn) : Prop := ∃ w, w.length = n ∧ Wk es src w b ∧ vR c.q = prE w ∧ c.why = w.map Edge.why ∧ redR c.q
theorem real_with {es : List Edge} {src n : Nat} {c : Chn} {e : Edge} (hb : edgeB e) (he : e ∈ es) (h : RealC es src n e.src.toNat c) : RealC es src (n + 1) e.dst.toNat (withC c e) ∧ vR (withC c e).q = vR c.q * vR e.q := by
  obtain ⟨w, h1, h2, h3, h4, h5⟩ := h
  have hn : 1 ≤ c.q.n * e.q.n := by have := Int.mul_le_mul h5.1 hb.2.2.2.2.1 (by omega) (by have := h5.1; omega); omega
  have hd : 1 ≤ c.q.d * e.q.d := by have := Int.mul_le_mul h5.2.1 hb.2.2.2.2.2.2.1 (by omega) (by have := h5.2.1; omega); omega
  obtain ⟨l1, l2⟩ := low_red hn hd
  have hv : vR (withC c e).q = vR c.q * vR e.q := by
    unfold vR withC
    simp only
    rw [show vq (lowR (c.q.n * e.q.n) (c.q.d * e.q.d)).n (lowR (c.q.n * e.q.n) (c.q.d * e.q.d)).d = vR (lowR (c.q.n * e.q.n) (c.q.d * e.q.d)) from rfl, l2, vq_mul]
  refine ⟨⟨w ++ [e], by simp [h1], wk_snoc h2 he, by rw [hv, prE_snoc, h3], by simp [withC, h4], l1⟩, hv⟩
def redN (net : Net) : Prop := ∀ (j : Nat) (c : Chn), net[j]? = some (some c) → redR c.q
theorem put_self {next : Net} {j : Nat} {c : Chn} (hj : j < next.length) (hr : redN next) (hc : redR c.q) :
    ∃ c', (putE next j c)[j]? = some (some c') ∧ vR c'.q ≤ vR c.q ∧ (c' = c ∨ next[j]? = some (some c')) ∧ ∀ b, next[j]? = some (some b) → vR c'.q ≤ vR b.q := by
  unfold putE
  split
  · rename_i b hb
    have hbr := hr j b hb
    split
    · rename_i hlt
      have := (ltR_iff hc.2.1 hbr.2.1).1 hlt
      refine ⟨c, by rw [List.getElem?_set]; simp [hj], Rat.le_refl, .inl rfl, fun b' hb' => ?_⟩
      rw [hb] at hb'; cases hb'
      exact Rat.le_of_lt this
    · rename_i hlt
      refine ⟨b, hb, ?_, .inr hb, fun b' hb' => by rw [hb] at hb'; cases hb'; exact Rat.le_refl⟩
      rw [← Rat.not_lt]
      exact fun h => hlt ((ltR_iff hc.2.1 hbr.2.1).2 h)
  · rename_i hno
    exact ⟨c, by rw [List.getElem?_set]; simp [hj], Rat.le_refl, .inl rfl, fun b hb => absurd hb (fun h => hno b h)⟩
theorem put_other {next : Net} {i j : Nat} {c : Chn} (h : i ≠ j) : (putE next j c)[i]? = next[i]? := by
  unfold putE
  split
  · split
    · rw [List.getElem?_set_ne (Ne.symm h)]
    · rfl
  · rw [List.getElem?_set_ne (Ne.symm h)]
theorem put_len {next : Net} {j : Nat} {c : Chn} : (putE next j c).length = next.length := by
  unfold putE; split <;> (try split) <;> simp
theorem put_red {next : Net} {j : Nat} {c : Chn} (hr : redN next) (hc : redR c.q) : redN (putE next j c) := by
  intro i c' hi
  by_cases h : i = j
  · subst h
    by_cases hl : i < next.length
    · obtain ⟨d, h1, _, h3, _⟩ := put_self hl hr hc
      rw [h1] at hi; cases hi
      rcases h3 with rfl | h3
      · exact hc
      · exact hr _ _ h3
    · have : (putE next i c).length ≤ i := by rw [put_len]; omega
      rw [List.getElem?_eq_none this] at hi; cases hi
  · rw [put_other h] at hi; exact hr _ _ hi
/-- All that a net says of walks of n zK. -/
def Exact (es : List Edge) (src n : Nat) (net : Net) : Prop := net.length = 5 ∧ (∀ b c, net[b]? = some (some c) → RealC es src n b c) ∧ ∀ b w, w.length = n → Wk es src w b → ∃ c, net[b]? = some (some c) ∧ vR c.q ≤ prE w
def Half (es : List Edge) (src n : Nat) (now : Net) (done : List Edge) (next : Net) : Prop :=
  next.length = 5 ∧ (∀ b c, next[b]? = some (some c) → RealC es src (n + 1) b c) ∧ ∀ e ∈ done, ∀ c', now[e.src.toNat]? = some (some c') → ∃ c, next[e.dst.toNat]? = some (some c) ∧ vR c.q ≤ vR c'.q * vR e.q
theorem real_red {es : List Edge} {src n b : Nat} {c : Chn} (h : RealC es src n b c) : redR c.q := h.choose_spec.2.2.2.2
theorem half_step {es : List Edge} {src n : Nat} {now next : Net} {done : List Edge} {e : Edge} (hnow : Exact es src n now) (hb : edgeB e) (he : e ∈ es) (h : Half es src n now done next) : Half es src n now (done ++ [e]) (stepE now next e) := by
  obtain ⟨h1, h2, h3⟩ := h
  have hr : redN next := fun j c hj => real_red (h2 j c hj)
  have hdst : e.dst.toNat < next.length := by have := hb.2.2.1; have := hb.2.2.2.1; omega
  unfold stepE
  split
  · rename_i c0 hc0
    obtain ⟨r1, r2⟩ := real_with hb he (hnow.2.1 _ _ hc0)
    obtain ⟨c', s1, s2, s3, s4⟩ := put_self hdst hr (real_red r1)
    refine ⟨by rw [put_len]; exact h1, fun b c hbc => ?_, fun e' he' c1 hc1 => ?_⟩
    · by_cases hbe : b = e.dst.toNat
      · subst hbe
        rw [s1] at hbc; cases hbc
        rcases s3 with rfl | s3
        · exact r1
        · exact h2 _ _ s3
      · rw [put_other hbe] at hbc; exact h2 _ _ hbc
    · rcases List.mem_append.1 he' with he' | he'
      · obtain ⟨c2, k1, k2⟩ := h3 e' he' c1 hc1
        by_cases hbe : e'.dst.toNat = e.dst.toNat
        · rw [hbe] at k1 ⊢
          exact ⟨c', s1, Rat.le_trans (s4 c2 k1) k2⟩
        · exact ⟨c2, by rw [put_other hbe]; exact k1, k2⟩
      · rcases List.mem_singleton.1 he' with rfl
        rw [hc0] at hc1; cases hc1
        exact ⟨c', s1, by rw [← r2]; exact s2⟩
  · rename_i hno
    refine ⟨h1, h2, fun e' he' c1 hc1 => ?_⟩
    rcases List.mem_append.1 he' with he' | he'
    · exact h3 e' he' c1 hc1
    · rcases List.mem_singleton.1 he' with rfl
      exact absurd hc1 (hno c1)
theorem half_fold {es : List Edge} {src n : Nat} {now : Net} (hnow : Exact es src n now) : ∀ (l done : List Edge) (next : Net), (∀ e ∈ l, edgeB e ∧ e ∈ es) → Half es src n now done next → Half es src n now (done ++ l) (l.foldl (stepE now) next)
  | [], done, next, _, h => by rw [List.append_nil]; exact h
  | e :: l, done, next, hl, h => by
    have := half_fold hnow l (done ++ [e]) (stepE now next e) (fun e' he' => hl e' (List.mem_cons_of_mem _ he')) (half_step hnow (hl e (by simp)).1 (hl e (by simp)).2 h)
    rw [List.append_assoc] at this
    exact this
theorem edge_pos {e : Edge} (h : edgeB e) : 0 < vR e.q := vq_pos (by have := h.2.2.2.2.1; omega) (by have := h.2.2.2.2.2.2.1; omega)
theorem snoc_of {w : List Edge} {n : Nat} (h : w.length = n + 1) : ∃ v e, w = v ++ [e] ∧ v.length = n := by
  have hne : w ≠ [] := by intro h'; rw [h'] at h; simp at h
  refine ⟨w.dropLast, w.getLast hne, (List.dropLast_concat_getLast hne).symm, ?_⟩
  rw [List.length_dropLast]; omega
theorem exact_step {es : List Edge} {src n : Nat} {now : Net} (hes : ∀ e ∈ es, edgeB e) (hnow : Exact es src n now) : Exact es src (n + 1) (es.foldl (stepE now) zJ) := by
  have h0 : Half es src n now [] zJ := ⟨rfl, fun b c h => by
    have hm := List.mem_of_getElem? h
    simp [zJ] at hm, fun e he => by cases he⟩
  obtain ⟨h1, h2, h3⟩ := half_fold hnow es [] zJ (fun e he => ⟨hes e he, he⟩) h0
  rw [List.nil_append] at h3
  refine ⟨h1, h2, fun b w hw hk => ?_⟩
  obtain ⟨v, e, rfl, hv⟩ := snoc_of hw
  obtain ⟨k1, k2, rfl⟩ := wk_unsnoc hk
  obtain ⟨c', g1, g2⟩ := hnow.2.2 _ v hv k1
  obtain ⟨c, f1, f2⟩ := h3 e k2 c' g1
  refine ⟨c, f1, Rat.le_trans f2 ?_⟩
  rw [prE_snoc]
  exact Rat.mul_le_mul_of_nonneg_right g2 (Rat.le_of_lt (edge_pos (hes e k2)))
theorem merge_spec : ∀ (l : List (Option Chn)) (i : Nat) (out : Net), i + l.length ≤ out.length → redN out → (∀ c, some c ∈ l → redR c.q) →
    (mergeL l i out).length = out.length ∧ redN (mergeL l i out) ∧ ∀ b,
      (∀ c, (mergeL l i out)[b]? = some (some c) → out[b]? = some (some c) ∨ (i ≤ b ∧ l[b - i]? = some (some c))) ∧
      (∀ c, out[b]? = some (some c) → ∃ c', (mergeL l i out)[b]? = some (some c') ∧ vR c'.q ≤ vR c.q) ∧
      (∀ c, i ≤ b → l[b - i]? = some (some c) → ∃ c', (mergeL l i out)[b]? = some (some c') ∧ vR c'.q ≤ vR c.q)
  | [], i, out, _, hr, _ => ⟨rfl, hr, fun b => ⟨fun c h => .inl h, fun c h => ⟨c, h, Rat.le_refl⟩, fun c _ h => by cases h⟩⟩
  | none :: r, i, out, hl, hr, hc => by
    obtain ⟨m1, m2, m3⟩ := merge_spec r (i + 1) out (by simp at hl; omega) hr (fun c h => hc c (List.mem_cons_of_mem _ h))
    refine ⟨m1, m2, fun b => ⟨fun c h => ?_, (m3 b).2.1, fun c hib h => ?_⟩⟩
    · rcases (m3 b).1 c h with h | ⟨h, h'⟩
      · exact .inl h
      · refine .inr ⟨by omega, ?_⟩
        rw [show b - i = (b - (i + 1)) + 1 by omega, List.getElem?_cons_succ]; exact h'
    · by_cases hb : b = i
      · subst hb; rw [Nat.sub_self, List.getElem?_cons_zero] at h; cases h
      · refine (m3 b).2.2 c (by omega) ?_
        rw [show b - i = (b - (i + 1)) + 1 by omega, List.getElem?_cons_succ] at h; exact h
  | some c0 :: r, i, out, hl, hr, hc => by
    have hc0 := hc c0 (by simp)
    have hi : i < out.length := by simp at hl; omega
    obtain ⟨m1, m2, m3⟩ := merge_spec r (i + 1) (putE out i c0) (by rw [put_len]; simp at hl; omega) (put_red hr hc0) (fun c h => hc c (List.mem_cons_of_mem _ h))
    obtain ⟨d, s1, s2, s3, s4⟩ := put_self hi hr hc0
    refine ⟨by rw [← put_len (next := out) (j := i) (c := c0)]; exact m1, m2, fun b => ⟨fun c h => ?_, fun c h => ?_, fun c hib h => ?_⟩⟩
    · rcases (m3 b).1 c h with h | ⟨h, h'⟩
      · by_cases hb : b = i
        · subst hb
          rw [s1] at h; cases h
          rcases s3 with rfl | s3
          · exact .inr ⟨Nat.le_refl _, by rw [Nat.sub_self]; rfl⟩
          · exact .inl s3
        · rw [put_other hb] at h; exact .inl h
      · refine .inr ⟨by omega, ?_⟩
        rw [show b - i = (b - (i + 1)) + 1 by omega, List.getElem?_cons_succ]; exact h'
    · by_cases hb : b = i
      · subst hb
        obtain ⟨c', k1, k2⟩ := (m3 b).2.1 d s1
        exact ⟨c', k1, Rat.le_trans k2 (s4 c h)⟩
      · exact (m3 b).2.1 c (by rw [put_other hb]; exact h)
    · by_cases hb : b = i
      · subst hb
        rw [Nat.sub_self, List.getElem?_cons_zero] at h; cases h
        obtain ⟨c', k1, k2⟩ := (m3 b).2.1 d s1
        exact ⟨c', k1, Rat.le_trans k2 s2⟩
      · refine (m3 b).2.2 c (by omega) ?_
        rw [show b - i = (b - (i + 1)) + 1 by omega, List.getElem?_cons_succ] at h; exact h
/-- All that a net says of walks of at most n zK. -/
def Upto (es : List Edge) (src n : Nat) (out : Net) : Prop := out.length = 5 ∧ (∀ b c, out[b]? = some (some c) → ∃ m, 1 ≤ m ∧ m ≤ n ∧ RealC es src m b c) ∧ ∀ b w, 1 ≤ w.length → w.length ≤ n → Wk es src w b → ∃ c, out[b]? = some (some c) ∧ vR c.q ≤ prE w
theorem rounds_spec {es : List Edge} {src : Nat} (hes : ∀ e ∈ es, edgeB e) : ∀ (j n : Nat) (now out : Net), Exact es src n now → Upto es src n out → Upto es src (n + j) (roundsN es j now out)
  | 0, _, _, _, _, h => h
  | j + 1, n, now, out, hnow, hout => by
    have hx := exact_step hes hnow
    have hro : redN out := fun b c h => by
      obtain ⟨m, _, _, h⟩ := hout.2.1 b c h
      exact real_red h
    have hrx : ∀ c, some c ∈ es.foldl (stepE now) zJ → redR c.q := fun c h => by
      obtain ⟨b, hb⟩ := List.mem_iff_getElem?.1 h
      exact real_red (hx.2.1 b c hb)
    obtain ⟨m1, m2, m3⟩ := merge_spec (es.foldl (stepE now) zJ) 0 out (by rw [hx.1, hout.1]; omega) hro hrx
    have hu : Upto es src (n + 1) (mergeL (es.foldl (stepE now) zJ) 0 out) := by
      refine ⟨by rw [m1]; exact hout.1, fun b c h => ?_, fun b w h1 h2 hk => ?_⟩
      · rcases (m3 b).1 c h with h | ⟨_, h⟩
        · obtain ⟨m, k1, k2, k3⟩ := hout.2.1 b c h
          exact ⟨m, k1, by omega, k3⟩
        · exact ⟨n + 1, by omega, Nat.le_refl _, hx.2.1 b c h⟩
      · by_cases hw : w.length = n + 1
        · obtain ⟨c, k1, k2⟩ := hx.2.2 b w hw hk
          obtain ⟨c', g1, g2⟩ := (m3 b).2.2 c (Nat.zero_le _) k1
          exact ⟨c', g1, Rat.le_trans g2 k2⟩
        · obtain ⟨c, k1, k2⟩ := hout.2.2 b w h1 (by omega) hk
          obtain ⟨c', g1, g2⟩ := (m3 b).2.1 c k1
          exact ⟨c', g1, Rat.le_trans g2 k2⟩
    have := rounds_spec hes j (n + 1) _ _ hx hu
    rw [show n + (j + 1) = n + 1 + j by omega]
    exact this
theorem chains_spec {es : List Edge} {src : Nat} (hes : ∀ e ∈ es, edgeB e) (hs : src < 5) (most : Nat) : Upto es src most (zG es src most) := by
  have h0 : Exact es src 0 (zJ.set src (some ⟨⟨1, 1⟩, []⟩)) := by
    refine ⟨by simp [zJ], fun b c h => ?_, fun b w hw hk => ?_⟩
    · by_cases hb : b = src
      · subst hb
        rw [List.getElem?_set] at h
        simp only [if_true] at h
        split at h
        · cases h
          exact ⟨[], rfl, wk_nil _ _, vq_one, rfl, by decide, by decide, by decide⟩
        · cases h
      · rw [List.getElem?_set_ne (Ne.symm hb)] at h
        have hm := List.mem_of_getElem? h
        simp [zJ] at hm
    · have : w = [] := List.length_eq_zero_iff.1 hw
      subst this
      have : src = b := hk.1
      subst this
      exact ⟨⟨⟨1, 1⟩, []⟩, by rw [List.getElem?_set]; simp [zJ, hs], by show vq 1 1 ≤ 1; rw [vq_one]; exact Rat.le_refl⟩
  have h1 : Upto es src 0 zJ := by
    refine ⟨rfl, fun b c h => ?_, fun b w h1 h2 => by omega⟩
    have hm := List.mem_of_getElem? h
    simp [zJ] at hm
  have := rounds_spec hes most 0 _ _ h0 h1
  rw [Nat.zero_add] at this
  exact this
end Go.VS
/-
  What a paper allows: least quotients between any two nodes. (A text of this claim's own; nothing of it is trusted.)
-/
namespace Go.VS
open Go Go.VS.Walks
theorem edge_nodes {p : Paper} (hok : zD p = true) {ax : Int} {e : Edge} (he : e ∈ zK p ax) : edgeB e ∧ e.src ≤ p.sheets ∧ e.dst ≤ p.sheets := by
  obtain ⟨o1, o2, o3, o4, o5, o6⟩ := paperOK_def hok
  simp only [zK, List.mem_append, List.mem_flatMap, List.mem_range'_1] at he
  rcases he with (⟨i, hi, he⟩ | he) | he
  · simp [sheetE] at he
    unfold edgeB
    rcases he with rfl | rfl <;> simp only [] <;> omega
  · obtain ⟨m, k, h1, h2, h3⟩ := marksE_mem ax he
    refine ⟨edge_of_mark (o5 m h1) o2 k e h3, ?_⟩
    have := o5 m h1
    simp [markOK, zB, isAxis, isSeen] at this
    simp [markE] at h3
    rcases h3 with rfl | rfl <;> simp only [] <;> omega
  · obtain ⟨m, k, h1, h2, h3⟩ := joinsE_mem ax he
    refine ⟨edge_of_join (o6 m h1) o2 k e h3, ?_⟩
    have := o6 m h1
    simp [joinOK, zB, isAxis, isSeen] at this
    simp [joinE] at h3
    rcases h3 with rfl | rfl <;> simp only [] <;> omega
theorem inE_walk {es : List Edge} {l : List T} : ∀ {a b : Nat}, Ch (inE es) a l b → ∃ w, w.map tE = l ∧ Wk es a w b := by
  induction l with
  | nil => intro a b h; exact ⟨[], rfl, h, fun _ h => by cases h⟩
  | cons t l ih =>
    intro a b h
    obtain ⟨⟨e, he, rfl⟩, h2, h3⟩ := h
    obtain ⟨w, rfl, hw⟩ := ih h3
    exact ⟨e :: w, rfl, ⟨⟨e, he, rfl⟩, h2, hw.1⟩, fun e' h' => by
      rcases List.mem_cons.1 h' with rfl | h'
      · exact he
      · exact hw.2 e' h'⟩
theorem clash_none {es : List Edge} : ∀ {j i : Nat}, clashFrom es j i = none → ∀ k, i ≤ k → k < i + j → ∀ c, (zG es k 5)[k]? = some (some c) → ltR c.q one1 = false
  | 0, i, _, k, h1, h2, _, _ => by omega
  | j + 1, i, h, k, h1, h2, c, hc => by
    unfold clashFrom at h
    by_cases hk : k = i
    · subst hk
      rw [hc] at h
      simp only at h
      split at h
      · cases h
      · rename_i hx; simpa using hx
    · refine clash_none (j := j) (i := i + 1) ?_ k (by omega) (by omega) c hc
      split at h
      · split at h
        · cases h
        · exact h
      · exact h
theorem in_pos {p : Paper} (hok : zD p = true) {ax : Int} {t : T} (h : inE (zK p ax) t) : 0 < t.w ∧ t.src < 5 ∧ t.dst < 5 := by
  obtain ⟨e, he, rfl⟩ := h
  have hb := (edge_nodes hok he).1
  refine ⟨edge_pos hb, ?_, ?_⟩
  · show e.src.toNat < 5
    have := hb.1; have := hb.2.1; omega
  · show e.dst.toNat < 5
    have := hb.2.2.1; have := hb.2.2.2.1; omega
theorem one_vR : vR one1 = 1 := vq_one
theorem fair {p : Paper} (hok : zD p = true) {ax : Int} (hc : clashA p ax = none) : Walks.Fair (inE (zK p ax)) 5 := by
  obtain ⟨o1, o2, -⟩ := paperOK_def hok
  intro a l hl hlen
  obtain ⟨w, rfl, hw⟩ := inE_walk hl
  cases w with
  | nil => exact Rat.le_refl
  | cons e w =>
    have hin : e ∈ zK p ax := hw.2 e (by simp)
    have hsrc : e.src.toNat = a := hl.2.1
    obtain ⟨hb, hs, _⟩ := edge_nodes hok hin
    have h5 : a < 5 := by have := hb.1; have := hb.2.1; omega
    obtain ⟨c, c1, c2⟩ := (chains_spec (fun e he => (edge_nodes hok he).1) h5 5).2.2 a (e :: w) (by simp) (by simpa using hlen) hw
    have hr : redR c.q := by
      obtain ⟨m, _, _, h⟩ := (chains_spec (fun e he => (edge_nodes hok he).1) h5 5).2.1 a c c1
      exact real_red h
    have hn := clash_none hc a (Nat.zero_le _) (by have := hb.1; omega) c c1
    have : ¬ vR c.q < vR one1 := fun h => by
      rw [← ltR_iff hr.2.1 (by decide)] at h
      rw [hn] at h; cases h
    rw [Rat.not_lt, one_vR] at this
    exact Rat.le_trans this c2
/-- The least quotient between two nodes. -/
def distF (p : Paper) (ax : Int) (s t : Nat) : Ratio := if s = t then one1 else (chnOr (((zG (zK p ax) s 4)[t]?).join)).q
def distC (p : Paper) (ax : Int) (s t : Nat) : Chn := chnOr (((zG (zK p ax) s 4)[t]?).join)
theorem walk_some {p : Paper} (_ : zD p = true) (ax : Int) {s t : Nat} (hs : s < 1 + p.sheets) (ht : t < 1 + p.sheets) (hst : s ≠ t) : ∃ w, 1 ≤ w.length ∧ w.length ≤ 2 ∧ Wk (zK p ax) s w t := by
  have hin : ∀ i : Nat, (i : Int) < p.sheets → ∀ e ∈ sheetE i, e ∈ zK p ax := by
    intro i hi e he
    simp only [zK, List.mem_append, List.mem_flatMap, List.mem_range'_1]
    exact .inl (.inl ⟨i, by omega, he⟩)
  have out : ∀ i : Nat, (i : Int) < p.sheets → Wk (zK p ax) (1 + i) [⟨1 + i, 0, ⟨2, 1⟩, ⟨false, -1 - i, false⟩⟩] 0 := by
    intro i hi
    have := wk_one (hin i hi ⟨1 + i, 0, ⟨2, 1⟩, ⟨false, -1 - i, false⟩⟩ (by simp [sheetE]))
    rwa [show ((1 + (i : Int)).toNat) = 1 + i by omega] at this
  have back : ∀ i : Nat, (i : Int) < p.sheets → Wk (zK p ax) 0 [⟨0, 1 + i, ⟨2, 1⟩, ⟨false, -1 - i, true⟩⟩] (1 + i) := by
    intro i hi
    have := wk_one (hin i hi ⟨0, 1 + i, ⟨2, 1⟩, ⟨false, -1 - i, true⟩⟩ (by simp [sheetE]))
    rwa [show ((1 + (i : Int)).toNat) = 1 + i by omega] at this
  rcases Nat.eq_zero_or_pos s with rfl | hs0
  · have := back (t - 1) (by omega)
    rw [show 1 + (t - 1) = t by omega] at this
    exact ⟨_, by simp, by simp, this⟩
  · have h1 := out (s - 1) (by omega)
    rw [show 1 + (s - 1) = s by omega] at h1
    rcases Nat.eq_zero_or_pos t with rfl | ht0
    · exact ⟨_, by simp, by simp, h1⟩
    · have h2 := back (t - 1) (by omega)
      rw [show 1 + (t - 1) = t by omega] at h2
      exact ⟨_, by simp, by simp, wk_append h1 h2⟩
theorem dist_some {p : Paper} (hok : zD p = true) (ax : Int) {s t : Nat} (hs : s < 1 + p.sheets) (ht : t < 1 + p.sheets) (hst : s ≠ t) : (zG (zK p ax) s 4)[t]? = some (some (distC p ax s t)) := by
  obtain ⟨o1, o2, -⟩ := paperOK_def hok
  obtain ⟨w, w1, w2, w3⟩ := walk_some hok ax hs ht hst
  obtain ⟨c, h, _⟩ := (chains_spec (fun e he => (edge_nodes hok he).1) (show s < 5 by omega) 4).2.2 t w w1 (by omega) w3
  unfold distC
  rw [h]; rfl
/-- What is known of a least quotient. -/
theorem dist_real {p : Paper} (hok : zD p = true) (ax : Int) {s t : Nat} (hs : s < 1 + p.sheets) (ht : t < 1 + p.sheets) : redR (distF p ax s t) ∧ ∃ w, Wk (zK p ax) s w t ∧ w.length ≤ 4 ∧ vR (distF p ax s t) = prE w := by
  obtain ⟨o1, o2, -⟩ := paperOK_def hok
  by_cases hst : s = t
  · subst hst
    unfold distF
    rw [if_pos rfl]
    exact ⟨⟨by decide, by decide, by decide⟩, [], wk_nil _ _, by simp, one_vR⟩
  · obtain ⟨m, m1, m2, w, w1, w2, w3, w4, w5⟩ := (chains_spec (fun e he => (edge_nodes hok he).1) (show s < 5 by omega) 4).2.1 t _ (dist_some hok ax hs ht hst)
    unfold distF
    rw [if_neg hst]
    exact ⟨w5, w, w2, by omega, w3⟩
theorem dist_least {p : Paper} (hok : zD p = true) {ax : Int} (hc : clashA p ax = none) {s t : Nat} (hs : s < 1 + p.sheets) (ht : t < 1 + p.sheets) {w : List Edge} (hw : Wk (zK p ax) s w t) : vR (distF p ax s t) ≤ prE w := by
  obtain ⟨o1, o2, -⟩ := paperOK_def hok
  have hp : ∀ t, inE (zK p ax) t → 0 < t.w := fun t h => (in_pos hok h).1
  have hn : ∀ t, inE (zK p ax) t → t.src < 5 ∧ t.dst < 5 := fun t h => (in_pos hok h).2
  by_cases hst : s = t
  · subst hst
    unfold distF
    rw [if_pos rfl, one_vR]
    exact closed_one hp hn (fair hok hc) hw.1
  · obtain ⟨r, r1, r2, r3, _⟩ := shorten hp hn (fair hok hc) _ _ (Nat.le_refl _) hw.1
    obtain ⟨v, rfl, hv⟩ := inE_walk r1
    have hne : v ≠ [] := by
      rintro rfl
      exact hst hv.1
    have hlen : 1 ≤ v.length ∧ v.length ≤ 4 := by
      constructor
      · cases v with
        | nil => exact absurd rfl hne
        | cons _ _ => simp
      · rcases r2 with r2 | r2
        · simp at r2; omega
        · simp at r2; exact absurd r2 hne
    obtain ⟨c, c1, c2⟩ := (chains_spec (fun e he => (edge_nodes hok he).1) (show s < 5 by omega) 4).2.2 t v hlen.1 hlen.2 hv
    rw [dist_some hok ax hs ht hst] at c1
    cases c1
    unfold distF
    rw [if_neg hst]
    exact Rat.le_trans c2 r3
end Go.VS
namespace Go.VS
open Go Go.Proofs
set_option maxHeartbeats 0
set_option linter.unusedSimpArgs false

noncomputable def lp108_1 : Code := subC [1, 0, 0, 0] (zv Tryd.f108)
theorem lk108_1 : cfg.keep 108 (zx lp108_1) = [0, 1] := by kernel_rfl

theorem L108_1 {F : Exit → St → Option D} (k : List Kt) (x : D) : ∀ (m : Nat) (a b : Nat), b ≤ m →
    zC cfg (lim cfg) 108 F k (.exit 0) ⟨14, [(7, B false), (6, I (0 : Nat)), (0, I ((a.gcd b : Nat) : Int)), (1, I (0 : Int))], [], 0, 0⟩ = some x →
    EvL cfg (lim cfg) 108 F lp108_1 k ⟨14, [(0, I a), (1, I b)], [], 0, 0⟩ = some x := by
  intro m
  induction m with
  | zero =>
    intro a b hb h
    obtain rfl : b = 0 := by omega
    refine zr ?_
    try dsimp only [lp108_1, subC, zv, Tryd.f108]
    simp only [bW, if_true, Nat.reduceEqDiff, if_false]
    repeat' first
      | (intro hb; first | cases hb | skip)
      | ((first | apply z9 | apply zf)
         · rfl
         · simp (disch := assumption) only [go_sem, Nat.reduceEqDiff, Nat.reduceAdd, bP, zh, Nat.reduceLeDiff, Nat.reduceLT, Nat.reduceMul, List.length_append, decide_eq_true_eq, zg, z7, Int.reduceToNat, Int.reduceLE, Int.reduceLT, Int.reduceBNe, Int.reduceBEq, bne_self_eq_false]
           rfl
         · simp only [go_sem, Nat.reduceLT, Nat.reduceEqDiff]
           rfl
         · rfl
         first
         | (apply ze
            · simp only [z6, z0, Nat.reduceLT, decide_true, cond_true, ins]
              rfl
            · simp only [z6, z0, Nat.reduceLT, decide_true, cond_true, ins]
              rfl)
         | (apply zj
            · simp only [z6, z0, Nat.reduceLT, decide_true, cond_true, ins]
              rfl))
      | ((first | apply zc | apply zd)
         · rfl
         · simp only [z6, z0, Nat.reduceLT, decide_true, cond_true, ins]
           rfl)
      | (apply zb
         · simp only [go_sem, Nat.reduceEqDiff])
      | (apply z8
         · simp only [go_sem, Nat.reduceEqDiff])
      | (apply zi
         · kernel_rfl
         · kernel_rfl)
      | (simp only [bW, if_true, Nat.reduceEqDiff, if_false])
    rw [Nat.gcd_zero_right] at h
    exact h
  | succ m ih =>
    intro a b hb h
    rcases Nat.eq_zero_or_pos b with h0 | h0
    · subst h0
      exact ih a 0 (Nat.zero_le _) h
    · have hbne : ((b : Int) != 0) = true := by simp; omega
      have hbne' : ((b : Int) = 0) = False := by simp; omega
      refine zr ?_
      try dsimp only [lp108_1, subC, zv, Tryd.f108]
      simp only [bW, if_true, Nat.reduceEqDiff, if_false]
      repeat' first
        | (intro hb; first | cases hb | skip)
        | ((first | apply z9 | apply zf)
           · rfl
           · simp (disch := assumption) only [go_sem, Nat.reduceEqDiff, Nat.reduceAdd, bP, zh, Nat.reduceLeDiff, Nat.reduceLT, Nat.reduceMul, List.length_append, decide_eq_true_eq, zg, z7, Int.reduceToNat, Int.reduceLE, Int.reduceLT, Int.reduceBNe, Int.reduceBEq, hbne, hbne']
             rfl
           · simp only [go_sem, Nat.reduceLT, Nat.reduceEqDiff]
             rfl
           · rfl
           first
           | (apply ze
              · simp only [z6, z0, Nat.reduceLT, decide_true, cond_true, ins]
                rfl
              · simp only [z6, z0, Nat.reduceLT, decide_true, cond_true, ins]
                rfl)
           | (apply zj
              · simp only [z6, z0, Nat.reduceLT, decide_true, cond_true, ins]
                rfl))
        | ((first | apply zc | apply zd)
           · rfl
           · simp only [z6, z0, Nat.reduceLT, decide_true, cond_true, ins]
             rfl)
        | (apply zb
           · simp only [go_sem, Nat.reduceEqDiff])
        | (apply z8
           · simp only [go_sem, Nat.reduceEqDiff])
        | (apply zi
           · kernel_rfl
           · kernel_rfl)
        | (simp only [bW, if_true, Nat.reduceEqDiff, if_false])
      have hm : (a : Int).tmod (b : Int) = ((a % b : Nat) : Int) := rfl
      refine zz lk108_1 (by kernel_rfl) (st1 := ⟨14, [(0, I b), (1, I ((a : Int).tmod b))], [], 0, 0⟩) ?_
      rw [hm]
      refine ih b (a % b) (by have := Nat.mod_lt a h0; omega) ?_
      have e : b.gcd (a % b) = a.gcd b := by rw [Nat.gcd_comm b (a % b), ← Nat.gcd_rec, Nat.gcd_comm]
      rw [e]; exact h
theorem t108 (a b : Nat) : (lim cfg).pure 108 [I a, I b] = some (I ((a.gcd b : Nat) : Int)) := by
  refine zt (zm 108) cfn108 rfl (n := 14) rfl ?_
  generalize hF : finP cfg Tryd.f108 = F
  simp only [bW, if_true, Nat.reduceEqDiff, if_false, zn]
  repeat' first
    | (intro hb; first | cases hb | skip)
    | ((first | apply z9 | apply zf)
       · rfl
       · simp (disch := assumption) only [go_sem, Nat.reduceEqDiff, Nat.reduceAdd, bP, zh, Nat.reduceLeDiff, Nat.reduceLT, Nat.reduceMul, List.length_append, decide_eq_true_eq, zg, z7, Int.reduceToNat, Int.reduceLE, Int.reduceLT, Int.reduceBNe, Int.reduceBEq]
         rfl
       · simp only [go_sem, Nat.reduceLT, Nat.reduceEqDiff]
         rfl
       · rfl
       first
       | (apply ze
          · simp only [z6, z0, Nat.reduceLT, decide_true, cond_true, ins]
            rfl
          · simp only [z6, z0, Nat.reduceLT, decide_true, cond_true, ins]
            rfl)
       | (apply zj
          · simp only [z6, z0, Nat.reduceLT, decide_true, cond_true, ins]
            rfl))
    | ((first | apply zc | apply zd)
       · rfl
       · simp only [z6, z0, Nat.reduceLT, decide_true, cond_true, ins]
         rfl)
    | (apply zb
       · simp only [go_sem, Nat.reduceEqDiff])
    | (apply z8
       · simp only [go_sem, Nat.reduceEqDiff])
    | (apply zi
       · kernel_rfl
       · kernel_rfl)
    | (simp only [bW, if_true, Nat.reduceEqDiff, if_false])
  refine w_loop (st1 := ⟨14, [(0, I a), (1, I b)], [], 0, 0⟩) lk108_1 (by kernel_rfl) (L108_1 _ _ b a b (Nat.le_refl _) ?_)
  simp only [bW, if_true, Nat.reduceEqDiff, if_false]
  repeat' first
    | (intro hb; first | cases hb | skip)
    | ((first | apply z9 | apply zf)
       · rfl
       · simp (disch := assumption) only [go_sem, Nat.reduceEqDiff, Nat.reduceAdd, bP, zh, Nat.reduceLeDiff, Nat.reduceLT, Nat.reduceMul, List.length_append, decide_eq_true_eq, zg, z7, Int.reduceToNat, Int.reduceLE, Int.reduceLT, Int.reduceBNe, Int.reduceBEq]
         rfl
       · simp only [go_sem, Nat.reduceLT, Nat.reduceEqDiff]
         rfl
       · rfl
       first
       | (apply ze
          · simp only [z6, z0, Nat.reduceLT, decide_true, cond_true, ins]
            rfl
          · simp only [z6, z0, Nat.reduceLT, decide_true, cond_true, ins]
            rfl)
       | (apply zj
          · simp only [z6, z0, Nat.reduceLT, decide_true, cond_true, ins]
            rfl))
    | ((first | apply zc | apply zd)
       · rfl
       · simp only [z6, z0, Nat.reduceLT, decide_true, cond_true, ins]
         rfl)
    | (apply zb
       · simp only [go_sem, Nat.reduceEqDiff])
    | (apply z8
       · simp only [go_sem, Nat.reduceEqDiff])
    | (apply zi
       · kernel_rfl
       · kernel_rfl)
    | (simp only [bW, if_true, Nat.reduceEqDiff, if_false])
  subst hF
  simp only [go_sem, Nat.reduceEqDiff, bP, Nat.reduceAdd, Nat.reduceLeDiff, List.length_map, Tryd.f108]
  all_goals rfl

theorem t74 (n d : Int) (hn : 1 ≤ n) (hn' : n < 9223372036854775808) (hd : 1 ≤ d) (hd' : d < 9223372036854775808) : (lim cfg).pure 74 [I n, I d] = some (.agg [I (lowR n d).n, I (lowR n d).d]) := by
  obtain ⟨a, rfl⟩ := Int.eq_ofNat_of_zero_le (show 0 ≤ n by omega)
  obtain ⟨b, rfl⟩ := Int.eq_ofNat_of_zero_le (show 0 ≤ d by omega)
  have hg := gcdI_pos (d := (b : Int)) hn
  have hg0 : (((a.gcd b : Nat) : Int) = 0) = False := by simp [gcdI] at hg; simp; omega
  have hq1 : IntKind.i64.wrap ((a : Int).tdiv ((a.gcd b : Nat) : Int)) = (lowR (a : Int) b).n := quo_wrap (by omega) hn' hg
  have hq2 : IntKind.i64.wrap ((b : Int).tdiv ((a.gcd b : Nat) : Int)) = (lowR (a : Int) b).d := quo_wrap (by omega) hd' hg
  refine zt (zm 74) cfn74 rfl (n := 16) rfl ?_
  simp only [bW, if_true, Nat.reduceEqDiff, if_false, zn]
  repeat' first
    | (intro hb; first | cases hb | skip)
    | ((first | apply z9 | apply zf)
       · rfl
       · simp (disch := assumption) only [go_sem, Nat.reduceEqDiff, Nat.reduceAdd, bP, zh, Nat.reduceLeDiff, Nat.reduceLT, Nat.reduceMul, List.length_append, decide_eq_true_eq, zg, z7, Int.reduceToNat, Int.reduceLE, Int.reduceLT, Int.reduceBNe, Int.reduceBEq, t108, hg0, hq1, hq2]
         rfl
       · simp only [go_sem, Nat.reduceLT, Nat.reduceEqDiff]
         rfl
       · rfl
       first
       | (apply ze
          · simp only [z6, z0, Nat.reduceLT, decide_true, cond_true, ins]
            rfl
          · simp only [z6, z0, Nat.reduceLT, decide_true, cond_true, ins]
            rfl)
       | (apply zj
          · simp only [z6, z0, Nat.reduceLT, decide_true, cond_true, ins]
            rfl))
    | ((first | apply zc | apply zd)
       · rfl
       · simp only [z6, z0, Nat.reduceLT, decide_true, cond_true, ins]
         rfl)
    | (apply zb
       · simp only [go_sem, Nat.reduceEqDiff])
    | (apply z8
       · simp only [go_sem, Nat.reduceEqDiff])
    | (apply zi
       · kernel_rfl
       · kernel_rfl)
    | (simp only [bW, if_true, Nat.reduceEqDiff, if_false])
  all_goals simp only [go_sem, Nat.reduceEqDiff, bP, Nat.reduceAdd, Nat.reduceLeDiff, List.length_map, Tryd.f74]
  all_goals first | rfl | (simp_all []; done) | (simp_all []; intros; omega)

def timesR (a b : Ratio) : Ratio := lowR ((lowR a.n b.d).n * (lowR b.n a.d).n) ((lowR a.n b.d).d * (lowR b.n a.d).d)
theorem times_spec {a b : Ratio} (h1 : 1 ≤ a.n) (h2 : 1 ≤ a.d) (h3 : 1 ≤ b.n) (h4 : 1 ≤ b.d) : redR (timesR a b) ∧ vR (timesR a b) = vR a * vR b := by
  obtain ⟨x1, x2⟩ := low_red h1 h4
  obtain ⟨y1, y2⟩ := low_red h3 h2
  have p1 := Int.mul_le_mul x1.1 y1.1 (by omega) (by have := x1.1; omega)
  have p2 := Int.mul_le_mul x1.2.1 y1.2.1 (by omega) (by have := x1.2.1; omega)
  obtain ⟨z1, z2⟩ := low_red (n := (lowR a.n b.d).n * (lowR b.n a.d).n) (d := (lowR a.n b.d).d * (lowR b.n a.d).d) (by omega) (by omega)
  refine ⟨z1, ?_⟩
  unfold timesR
  rw [z2, ← Walks.vq_mul]
  show vR (lowR a.n b.d) * vR (lowR b.n a.d) = _
  rw [x2, y2, Walks.vq_mul, Int.mul_comm b.d, ← Walks.vq_mul]
  rfl
theorem mul3 {a b : Int} (h1 : 1 ≤ a) (h2 : a ≤ 3000000000) (h3 : 1 ≤ b) (h4 : b ≤ 3000000000) : 1 ≤ a * b ∧ a * b ≤ 9000000000000000000 ∧ IntKind.i64.wrap (a * b) = a * b := by
  have h5 := Int.mul_le_mul h1 h3 (by omega) (by omega)
  have h6 : a * b ≤ 3000000000 * 3000000000 := Int.mul_le_mul h2 h4 (by omega) (by omega)
  exact ⟨by omega, by omega, wrap_i64 (by omega) (by omega)⟩

theorem t22 (a b : Ratio) (h1 : 1 ≤ a.n) (h2 : a.n ≤ 3000000000) (h3 : 1 ≤ a.d) (h4 : a.d ≤ 3000000000) (h5 : 1 ≤ b.n) (h6 : b.n ≤ 3000000000) (h7 : 1 ≤ b.d) (h8 : b.d ≤ 3000000000) : (lim cfg).pure 22 [.agg [I a.n, I a.d], .agg [I b.n, I b.d]] = some (.agg [I (timesR a b).n, I (timesR a b).d]) := by
  obtain ⟨l1, l2, l3, l4⟩ := low_le h1 h7
  obtain ⟨m1, m2, m3, m4⟩ := low_le h5 h3
  obtain ⟨q1, q2, w1⟩ := mul3 (a := (lowR a.n b.d).n) (b := (lowR b.n a.d).n) (by omega) (by omega) (by omega) (by omega)
  obtain ⟨q3, q4, w2⟩ := mul3 (a := (lowR a.n b.d).d) (b := (lowR b.n a.d).d) (by omega) (by omega) (by omega) (by omega)
  have e1 := t74 a.n b.d h1 (by omega) h7 (by omega)
  have e2 := t74 b.n a.d h5 (by omega) h3 (by omega)
  have e3 := t74 ((lowR a.n b.d).n * (lowR b.n a.d).n) ((lowR a.n b.d).d * (lowR b.n a.d).d) q1 (by omega) q3 (by omega)
  refine zt (zm 22) cfn22 rfl (n := 28) rfl ?_
  simp only [bW, if_true, Nat.reduceEqDiff, if_false, zn]
  repeat' first
    | (intro hb; first | cases hb | skip)
    | ((first | apply z9 | apply zf)
       · rfl
       · simp (disch := assumption) only [go_sem, Nat.reduceEqDiff, Nat.reduceAdd, bP, zh, Nat.reduceLeDiff, Nat.reduceLT, Nat.reduceMul, List.length_append, decide_eq_true_eq, zg, z7, Int.reduceToNat, Int.reduceLE, Int.reduceLT, Int.reduceBNe, Int.reduceBEq, e1, e2, e3, w1, w2]
         rfl
       · simp only [go_sem, Nat.reduceLT, Nat.reduceEqDiff]
         rfl
       · rfl
       first
       | (apply ze
          · simp only [z6, z0, Nat.reduceLT, decide_true, cond_true, ins]
            rfl
          · simp only [z6, z0, Nat.reduceLT, decide_true, cond_true, ins]
            rfl)
       | (apply zj
          · simp only [z6, z0, Nat.reduceLT, decide_true, cond_true, ins]
            rfl))
    | ((first | apply zc | apply zd)
       · rfl
       · simp only [z6, z0, Nat.reduceLT, decide_true, cond_true, ins]
         rfl)
    | (apply zb
       · simp only [go_sem, Nat.reduceEqDiff])
    | (apply z8
       · simp only [go_sem, Nat.reduceEqDiff])
    | (apply zi
       · kernel_rfl
       · kernel_rfl)
    | (simp only [bW, if_true, Nat.reduceEqDiff, if_false])
  all_goals simp only [go_sem, Nat.reduceEqDiff, bP, Nat.reduceAdd, Nat.reduceLeDiff, List.length_map, Tryd.f22]
  all_goals first | rfl | (simp_all []; done) | (simp_all []; intros; omega)

theorem times_le {a b : Ratio} (h1 : 1 ≤ a.n) (h2 : a.n ≤ 3000000000) (h3 : 1 ≤ a.d) (h4 : a.d ≤ 3000000000) (h5 : 1 ≤ b.n) (h6 : b.n ≤ 3000000000) (h7 : 1 ≤ b.d) (h8 : b.d ≤ 3000000000) : (timesR a b).n ≤ 9000000000000000000 ∧ (timesR a b).d ≤ 9000000000000000000 := by
  obtain ⟨l1, l2, l3, l4⟩ := low_le h1 h7
  obtain ⟨m1, m2, m3, m4⟩ := low_le h5 h3
  obtain ⟨q1, q2, w1⟩ := mul3 (a := (lowR a.n b.d).n) (b := (lowR b.n a.d).n) (by omega) (by omega) (by omega) (by omega)
  obtain ⟨q3, q4, w2⟩ := mul3 (a := (lowR a.n b.d).d) (b := (lowR b.n a.d).d) (by omega) (by omega) (by omega) (by omega)
  obtain ⟨r1, r2, r3, r4⟩ := low_le q1 q3
  exact ⟨Int.le_trans r2 q2, Int.le_trans r4 q4⟩
end Go.VS
/-
  What Factor and Between answer, in the words of least quotients. (A text of this claim's own; nothing of it is trusted.)
-/
namespace Go.VS
open Go Go.VS.Walks
theorem t19x (p : Paper) (a b ax : Int) (hwf : p.wf) : ∃ (r : Ratio) (k : Int), (lim cfg).pure 19 [zF p, I a, I b, I ax] = some (.tup [.agg [I r.n, I r.d], I k]) ∧ (k = 0 ↔ knownF p ax [a, b] = 0) ∧ (knownF p ax [a, b] = 0 → r = betwF p a b ax) := by
  have h := t19 p a b ax hwf
  by_cases hk : knownF p ax [a, b] = 0
  · rw [if_pos hk] at h
    exact ⟨betwF p a b ax, 0, h, by simp [hk], fun _ => rfl⟩
  · rw [if_neg hk] at h
    exact ⟨⟨0, 0⟩, _, h, Iff.rfl, fun h' => absurd h' hk⟩
theorem t20x (p : Paper) (s ax : Int) (hwf : p.wf) : ∃ (lo hi : Ratio) (k : Int), (lim cfg).pure 20 [zF p, I s, I ax] = some (.tup [.agg [I lo.n, I lo.d], .agg [I hi.n, I hi.d], I k]) ∧ (k = 0 ↔ knownF p ax [s] = 0) ∧ (knownF p ax [s] = 0 → lo = loF p s ax ∧ hi = hiF p s ax) := by
  have h := t20 p s ax hwf
  by_cases hk : knownF p ax [s] = 0
  · rw [if_pos hk] at h
    exact ⟨loF p s ax, hiF p s ax, 0, h, by simp [hk], fun _ => ⟨rfl, rfl⟩⟩
  · rw [if_neg hk] at h
    exact ⟨⟨0, 0⟩, ⟨0, 0⟩, _, h, Iff.rfl, fun h' => absurd h' hk⟩
theorem poss_none {p : Paper} (h : possibleF p = true) {ax : Int} (hax : isAxis ax = true) : clashA p ax = none := by
  simp [possibleF] at h
  simp [isAxis] at hax
  rcases hax with rfl | rfl
  · exact h.1
  · exact h.2
theorem sheet_nat {p : Paper} {s : Int} (h : zB p s = true) : ∃ i : Nat, s = i ∧ (1 + i : Nat) < 1 + p.sheets ∧ (1 + s).toNat = 1 + i := by
  simp [zB] at h
  exact ⟨s.toNat, by omega, by omega, by omega⟩
theorem betw_dist (p : Paper) (ax : Int) (i j : Nat) : betwF p i j ax = distF p ax (1 + i) (1 + j) := by
  unfold betwF distF
  rw [show (1 + (i : Int)).toNat = 1 + i by omega, show (1 + (j : Int)).toNat = 1 + j by omega]
  by_cases h : i = j
  · subst h; simp
  · rw [if_neg (by omega), if_neg (by omega)]
theorem hi_dist (p : Paper) (ax : Int) (i : Nat) : hiF p i ax = distF p ax (1 + i) 0 := by
  unfold hiF downF downO distF
  rw [show (1 + (i : Int)).toNat = 1 + i by omega, if_neg (by omega)]
theorem dist_tri {p : Paper} (hok : zD p = true) {ax : Int} (hc : clashA p ax = none) {a b c : Nat} (ha : a < 1 + p.sheets) (hb : b < 1 + p.sheets) (hcc : c < 1 + p.sheets) : vR (distF p ax a c) ≤ vR (distF p ax a b) * vR (distF p ax b c) := by
  obtain ⟨_, w, w1, _, w2⟩ := dist_real hok ax ha hb
  obtain ⟨_, v, v1, _, v2⟩ := dist_real hok ax hb hcc
  rw [w2, v2, ← prE_append]
  exact dist_least hok hc ha hcc (wk_append w1 v1)
end Go.VS
namespace Go.VS
open Go Go.Proofs
set_option maxHeartbeats 0
set_option linter.unusedSimpArgs false

noncomputable def lp4_15 : Code := subC [1, 1, 1, 1, 1, 1, 1, 1, 1, 1, 0, 1, 0, 0] (zv Tryd.f4)
theorem lk4_15 : cfg.keep 4 (zx lp4_15) = [11, 13, 15, 18, 21, 103, 104, 105] := by kernel_rfl

theorem cmp_ge_of {a b : Ratio} (ha : 1 ≤ a.d) (hb : 1 ≤ b.d) (h : vR b ≤ vR a) : (cmpI (a.n * b.d) (b.n * a.d) ≥ 0) = True := by
  rw [cmpI_ge0]
  exact eq_true ((Walks.vq_le (by omega) (by omega)).1 h)
theorem cmp_le_of {a b : Ratio} (ha : 1 ≤ a.d) (hb : 1 ≤ b.d) (h : vR a ≤ vR b) : (cmpI (a.n * b.d) (b.n * a.d) ≤ 0) = True := by
  rw [cmpI_le0]
  exact eq_true ((Walks.vq_le (by omega) (by omega)).1 h)

theorem t4 (p : Paper) (a b c ax : Int) (hwf : p.wf) : (lim cfg).pure 4 [zF p, I a, I b, I c, I ax] = some (B true) := by
  have h17 := t17 p hwf
  obtain ⟨x, k1, e1, f1, g1⟩ := t19x p a b ax hwf
  obtain ⟨y, k2, e2, f2, g2⟩ := t19x p b c ax hwf
  obtain ⟨z, k3, e3, f3, g3⟩ := t19x p a c ax hwf
  obtain ⟨lu, u, k4, e4, f4, g4⟩ := t20x p a ax hwf
  obtain ⟨lv, v, k5, e5, f5, g5⟩ := t20x p b ax hwf
  cases hfew : (decide (p.marks.length ≤ 26) && decide (p.joins.length ≤ 26)) with
  | false =>
    rw [hfew] at h17
    refine zt (zm 4) cfn4 rfl (n := 152) rfl ?_
    simp only [bW, if_true, Nat.reduceEqDiff, if_false, zn]
    repeat' first
      | (intro hb; first | cases hb | skip)
      | ((first | apply z9 | apply zf)
         · rfl
         · simp (disch := assumption) only [go_sem, Nat.reduceEqDiff, Nat.reduceAdd, bP, zh, Nat.reduceLeDiff, Nat.reduceLT, Nat.reduceMul, List.length_append, decide_eq_true_eq, zg, z7, Int.reduceToNat, Int.reduceLE, Int.reduceLT, Int.reduceBNe, Int.reduceBEq, t14, h17, e1, e2, e3, e4, e5]
           rfl
         · simp only [go_sem, Nat.reduceLT, Nat.reduceEqDiff]
           rfl
         · rfl
         first
         | (apply ze
            · simp only [z6, z0, Nat.reduceLT, decide_true, cond_true, ins]
              rfl
            · simp only [z6, z0, Nat.reduceLT, decide_true, cond_true, ins]
              rfl)
         | (apply zj
            · simp only [z6, z0, Nat.reduceLT, decide_true, cond_true, ins]
              rfl))
      | ((first | apply zc | apply zd)
         · rfl
         · simp only [z6, z0, Nat.reduceLT, decide_true, cond_true, ins]
           rfl)
      | (apply zb
         · simp only [go_sem, Nat.reduceEqDiff])
      | (apply z8
         · simp only [go_sem, Nat.reduceEqDiff])
      | (apply zi
         · kernel_rfl
         · kernel_rfl)
      | (simp only [bW, if_true, Nat.reduceEqDiff, if_false])
    all_goals try simp only [go_sem, Nat.reduceEqDiff, bP, Nat.reduceAdd, Nat.reduceLeDiff, List.length_map, Tryd.f4]
    all_goals first | done | rfl | (simp_all []; done) | trace_state
  | true =>
  rw [hfew] at h17
  by_cases hk1 : k1 = 0
  case neg =>
    have n1 : (k1 != 0) = true := by simp [hk1]
    refine zt (zm 4) cfn4 rfl (n := 152) rfl ?_
    simp only [bW, if_true, Nat.reduceEqDiff, if_false, zn]
    repeat' first
      | (intro hb; first | cases hb | skip)
      | ((first | apply z9 | apply zf)
         · rfl
         · simp (disch := assumption) only [go_sem, Nat.reduceEqDiff, Nat.reduceAdd, bP, zh, Nat.reduceLeDiff, Nat.reduceLT, Nat.reduceMul, List.length_append, decide_eq_true_eq, zg, z7, Int.reduceToNat, Int.reduceLE, Int.reduceLT, Int.reduceBNe, Int.reduceBEq, t14, h17, e1, e2, e3, e4, e5, n1]
           rfl
         · simp only [go_sem, Nat.reduceLT, Nat.reduceEqDiff]
           rfl
         · rfl
         first
         | (apply ze
            · simp only [z6, z0, Nat.reduceLT, decide_true, cond_true, ins]
              rfl
            · simp only [z6, z0, Nat.reduceLT, decide_true, cond_true, ins]
              rfl)
         | (apply zj
            · simp only [z6, z0, Nat.reduceLT, decide_true, cond_true, ins]
              rfl))
      | ((first | apply zc | apply zd)
         · rfl
         · simp only [z6, z0, Nat.reduceLT, decide_true, cond_true, ins]
           rfl)
      | (apply zb
         · simp only [go_sem, Nat.reduceEqDiff])
      | (apply z8
         · simp only [go_sem, Nat.reduceEqDiff])
      | (apply zi
         · kernel_rfl
         · kernel_rfl)
      | (simp only [bW, if_true, Nat.reduceEqDiff, if_false])
    all_goals try simp only [go_sem, Nat.reduceEqDiff, bP, Nat.reduceAdd, Nat.reduceLeDiff, List.length_map, Tryd.f4]
    all_goals first | done | rfl | (simp_all []; done) | trace_state
  by_cases hk2 : k2 = 0
  case neg =>
    have n1 : (k1 != 0) = false := by simp [hk1]
    have n2 : (k2 != 0) = true := by simp [hk2]
    refine zt (zm 4) cfn4 rfl (n := 152) rfl ?_
    simp only [bW, if_true, Nat.reduceEqDiff, if_false, zn]
    repeat' first
      | (intro hb; first | cases hb | skip)
      | ((first | apply z9 | apply zf)
         · rfl
         · simp (disch := assumption) only [go_sem, Nat.reduceEqDiff, Nat.reduceAdd, bP, zh, Nat.reduceLeDiff, Nat.reduceLT, Nat.reduceMul, List.length_append, decide_eq_true_eq, zg, z7, Int.reduceToNat, Int.reduceLE, Int.reduceLT, Int.reduceBNe, Int.reduceBEq, t14, h17, e1, e2, e3, e4, e5, n1, n2]
           rfl
         · simp only [go_sem, Nat.reduceLT, Nat.reduceEqDiff]
           rfl
         · rfl
         first
         | (apply ze
            · simp only [z6, z0, Nat.reduceLT, decide_true, cond_true, ins]
              rfl
            · simp only [z6, z0, Nat.reduceLT, decide_true, cond_true, ins]
              rfl)
         | (apply zj
            · simp only [z6, z0, Nat.reduceLT, decide_true, cond_true, ins]
              rfl))
      | ((first | apply zc | apply zd)
         · rfl
         · simp only [z6, z0, Nat.reduceLT, decide_true, cond_true, ins]
           rfl)
      | (apply zb
         · simp only [go_sem, Nat.reduceEqDiff])
      | (apply z8
         · simp only [go_sem, Nat.reduceEqDiff])
      | (apply zi
         · kernel_rfl
         · kernel_rfl)
      | (simp only [bW, if_true, Nat.reduceEqDiff, if_false])
    all_goals try simp only [go_sem, Nat.reduceEqDiff, bP, Nat.reduceAdd, Nat.reduceLeDiff, List.length_map, Tryd.f4]
    all_goals first | done | rfl | (simp_all []; done) | trace_state
  by_cases hk3 : k3 = 0
  case neg =>
    have n1 : (k1 != 0) = false := by simp [hk1]
    have n2 : (k2 != 0) = false := by simp [hk2]
    have n3 : (k3 != 0) = true := by simp [hk3]
    refine zt (zm 4) cfn4 rfl (n := 152) rfl ?_
    simp only [bW, if_true, Nat.reduceEqDiff, if_false, zn]
    repeat' first
      | (intro hb; first | cases hb | skip)
      | ((first | apply z9 | apply zf)
         · rfl
         · simp (disch := assumption) only [go_sem, Nat.reduceEqDiff, Nat.reduceAdd, bP, zh, Nat.reduceLeDiff, Nat.reduceLT, Nat.reduceMul, List.length_append, decide_eq_true_eq, zg, z7, Int.reduceToNat, Int.reduceLE, Int.reduceLT, Int.reduceBNe, Int.reduceBEq, t14, h17, e1, e2, e3, e4, e5, n1, n2, n3]
           rfl
         · simp only [go_sem, Nat.reduceLT, Nat.reduceEqDiff]
           rfl
         · rfl
         first
         | (apply ze
            · simp only [z6, z0, Nat.reduceLT, decide_true, cond_true, ins]
              rfl
            · simp only [z6, z0, Nat.reduceLT, decide_true, cond_true, ins]
              rfl)
         | (apply zj
            · simp only [z6, z0, Nat.reduceLT, decide_true, cond_true, ins]
              rfl))
      | ((first | apply zc | apply zd)
         · rfl
         · simp only [z6, z0, Nat.reduceLT, decide_true, cond_true, ins]
           rfl)
      | (apply zb
         · simp only [go_sem, Nat.reduceEqDiff])
      | (apply z8
         · simp only [go_sem, Nat.reduceEqDiff])
      | (apply zi
         · kernel_rfl
         · kernel_rfl)
      | (simp only [bW, if_true, Nat.reduceEqDiff, if_false])
    all_goals try simp only [go_sem, Nat.reduceEqDiff, bP, Nat.reduceAdd, Nat.reduceLeDiff, List.length_map, Tryd.f4]
    all_goals first | done | rfl | (simp_all []; done) | trace_state
  have z1 := f1.1 hk1
  have z2 := f2.1 hk2
  have z3 := f3.1 hk3
  obtain ⟨s1, s2, s3, s4⟩ := known_zero.1 z1
  obtain ⟨-, -, s5, -⟩ := known_zero.1 z2
  simp only [List.all_cons, List.all_nil, Bool.and_true, Bool.and_eq_true] at s3 s5
  have z4 : knownF p ax [a] = 0 := known_zero.2 ⟨s1, s2, by simp [s3.1], s4⟩
  have z5 : knownF p ax [b] = 0 := known_zero.2 ⟨s1, s2, by simp [s3.2], s4⟩
  have hk4 := f4.2 z4
  have hk5 := f5.2 z5
  have hcl := poss_none s2 s4
  obtain ⟨ia, rfl, la, _⟩ := sheet_nat s3.1
  obtain ⟨ib, rfl, lb, _⟩ := sheet_nat s3.2
  obtain ⟨ic, rfl, lc, _⟩ := sheet_nat s5.2
  have l0 : ((0 : Nat) : Int) < 1 + p.sheets := by omega
  have dx := g1 z1
  have dy := g2 z2
  have dz := g3 z3
  have du := (g4 z4).2
  have dv := (g5 z5).2
  rw [betw_dist] at dx dy dz
  rw [hi_dist] at du dv
  have rx : redR x := by rw [dx]; exact (dist_real s1 ax la lb).1
  have ry : redR y := by rw [dy]; exact (dist_real s1 ax lb lc).1
  have rz : redR z := by rw [dz]; exact (dist_real s1 ax la lc).1
  have ru : redR u := by rw [du]; exact (dist_real s1 ax la l0).1
  have rv : redR v := by rw [dv]; exact (dist_real s1 ax lb l0).1
  have t1 : vR z ≤ vR x * vR y := by rw [dx, dy, dz]; exact dist_tri s1 hcl la lb lc
  have t2 : vR u ≤ vR x * vR v := by rw [dx, du, dv]; exact dist_tri s1 hcl la lb l0
  have hxe : (ia : Int) = ib → x = ⟨1, 1⟩ := by
    intro h
    have : ia = ib := by omega
    rw [dx, this]
    unfold distF
    rw [if_pos rfl]; rfl
  clear dx dy dz du dv g1 g2 g3 g4 g5 f1 f2 f3 f4 f5
  subst hk1 hk2 hk3 hk4 hk5
  have t21' := t21 1 1
  simp only [encR] at t21'
  have cx1 : (x.n < 1) = False := by simp only [eq_iff_iff, iff_false]; have := rx.1; omega
  have cx2 : (x.d < 1) = False := by simp only [eq_iff_iff, iff_false]; have := rx.2.1; omega
  have cx3 : (x.n ≥ 1) = True := eq_true rx.1
  have cx4 : (x.d ≥ 1) = True := eq_true rx.2.1
  have cy1 : (y.n < 1) = False := by simp only [eq_iff_iff, iff_false]; have := ry.1; omega
  have cy2 : (y.d < 1) = False := by simp only [eq_iff_iff, iff_false]; have := ry.2.1; omega
  have cy3 : (y.n ≥ 1) = True := eq_true ry.1
  have cy4 : (y.d ≥ 1) = True := eq_true ry.2.1
  have cz1 : (z.n < 1) = False := by simp only [eq_iff_iff, iff_false]; have := rz.1; omega
  have cz2 : (z.d < 1) = False := by simp only [eq_iff_iff, iff_false]; have := rz.2.1; omega
  have cz3 : (z.n ≥ 1) = True := eq_true rz.1
  have cz4 : (z.d ≥ 1) = True := eq_true rz.2.1
  have cu1 : (u.n < 1) = False := by simp only [eq_iff_iff, iff_false]; have := ru.1; omega
  have cu2 : (u.d < 1) = False := by simp only [eq_iff_iff, iff_false]; have := ru.2.1; omega
  have cu3 : (u.n ≥ 1) = True := eq_true ru.1
  have cu4 : (u.d ≥ 1) = True := eq_true ru.2.1
  have cv1 : (v.n < 1) = False := by simp only [eq_iff_iff, iff_false]; have := rv.1; omega
  have cv2 : (v.d < 1) = False := by simp only [eq_iff_iff, iff_false]; have := rv.2.1; omega
  have cv3 : (v.n ≥ 1) = True := eq_true rv.1
  have cv4 : (v.d ≥ 1) = True := eq_true rv.2.1
  by_cases hab : (ia : Int) = ib
  · have hx1 := hxe hab
    have hab' : ((ia : Int) == (ib : Int)) = true := by simp [hab]
    have ex1 : (x.n == 1) = true := by rw [hx1]; rfl
    have ex2 : (x.d == 1) = true := by rw [hx1]; rfl
    have ex3 : (x.n != 1) = false := by rw [hx1]; rfl
    have ex4 : (x.d != 1) = false := by rw [hx1]; rfl
    refine zt (zm 4) cfn4 rfl (n := 152) rfl ?_
    simp only [bW, if_true, Nat.reduceEqDiff, if_false, zn]
    repeat' first
      | (intro hb; first | cases hb | skip)
      | ((first | apply z9 | apply zf)
         · rfl
         · simp (disch := assumption) only [go_sem, Nat.reduceEqDiff, Nat.reduceAdd, bP, zh, Nat.reduceLeDiff, Nat.reduceLT, Nat.reduceMul, List.length_append, decide_eq_true_eq, zg, z7, Int.reduceToNat, Int.reduceLE, Int.reduceLT, Int.reduceBNe, Int.reduceBEq, t14, h17, e1, e2, e3, e4, e5, hab', t21', bne_self_eq_false, Bool.or_self, ex1, ex2, ex3, ex4, cx1, cx2, cx3, cx4, cy1, cy2, cy3, cy4, cz1, cz2, cz3, cz4, cu1, cu2, cu3, cu4, cv1, cv2, cv3, cv4]
           rfl
         · simp only [go_sem, Nat.reduceLT, Nat.reduceEqDiff]
           rfl
         · rfl
         first
         | (apply ze
            · simp only [z6, z0, Nat.reduceLT, decide_true, cond_true, ins]
              rfl
            · simp only [z6, z0, Nat.reduceLT, decide_true, cond_true, ins]
              rfl)
         | (apply zj
            · simp only [z6, z0, Nat.reduceLT, decide_true, cond_true, ins]
              rfl))
      | ((first | apply zc | apply zd)
         · rfl
         · simp only [z6, z0, Nat.reduceLT, decide_true, cond_true, ins]
           rfl)
      | (apply zb
         · simp only [go_sem, Nat.reduceEqDiff])
      | (apply z8
         · simp only [go_sem, Nat.reduceEqDiff])
      | (apply zi
         · kernel_rfl
         · kernel_rfl)
      | (simp only [bW, if_true, Nat.reduceEqDiff, if_false])
    apply w_loop lk4_15
    · simp only [go_sem, List.map_append, Nat.reduceEqDiff, Nat.reduceLT, Nat.reduceAdd, bI, bD, bI2, zF]
      rfl
    refine zr ?_
    try dsimp only [lp4_15, subC, zv, Tryd.f4]
    simp only [bW, if_true, Nat.reduceEqDiff, if_false]
    repeat' first
      | (intro hb; first | cases hb | skip)
      | ((first | apply z9 | apply zf)
         · rfl
         · simp (disch := assumption) only [go_sem, Nat.reduceEqDiff, Nat.reduceAdd, bP, zh, Nat.reduceLeDiff, Nat.reduceLT, Nat.reduceMul, List.length_append, decide_eq_true_eq, zg, z7, Int.reduceToNat, Int.reduceLE, Int.reduceLT, Int.reduceBNe, Int.reduceBEq, show IntKind.i64.wrap (0 + 1) = 1 from by decide, show IntKind.i64.wrap (1 + 1) = 2 from by decide, show IntKind.i64.wrap (2 + 1) = 3 from by decide, show IntKind.i64.wrap (3 + 1) = 4 from by decide, show IntKind.i64.wrap (4 + 1) = 5 from by decide, show (0 : Int) < 5 from by decide, show (0 : Int).toNat = 0 from rfl, show (0 : Int) ≤ 0 from by decide, show (1 : Int) < 5 from by decide, show (1 : Int).toNat = 1 from rfl, show (0 : Int) ≤ 1 from by decide, show (2 : Int) < 5 from by decide, show (2 : Int).toNat = 2 from rfl, show (0 : Int) ≤ 2 from by decide, show (3 : Int) < 5 from by decide, show (3 : Int).toNat = 3 from rfl, show (0 : Int) ≤ 3 from by decide, show (4 : Int) < 5 from by decide, show (4 : Int).toNat = 4 from rfl, show (0 : Int) ≤ 4 from by decide, show ¬ ((5 : Int) < 5) from by decide, cx1, cx2, cx3, cx4, cy1, cy2, cy3, cy4, cz1, cz2, cz3, cz4, cu1, cu2, cu3, cu4, cv1, cv2, cv3, cv4]
           rfl
         · simp only [go_sem, Nat.reduceLT, Nat.reduceEqDiff]
           rfl
         · rfl
         first
         | (apply ze
            · simp only [z6, z0, Nat.reduceLT, decide_true, cond_true, ins]
              rfl
            · simp only [z6, z0, Nat.reduceLT, decide_true, cond_true, ins]
              rfl)
         | (apply zj
            · simp only [z6, z0, Nat.reduceLT, decide_true, cond_true, ins]
              rfl))
      | ((first | apply zc | apply zd)
         · rfl
         · simp only [z6, z0, Nat.reduceLT, decide_true, cond_true, ins]
           rfl)
      | (apply zb
         · simp only [go_sem, Nat.reduceEqDiff])
      | (apply z8
         · simp only [go_sem, Nat.reduceEqDiff])
      | (apply zi
         · kernel_rfl
         · kernel_rfl)
      | (simp only [bW, if_true, Nat.reduceEqDiff, if_false])
    all_goals try (simp only [go_sem, Nat.reduceEqDiff, bP, Nat.reduceAdd, Nat.reduceLeDiff, List.length_map, Tryd.f4]; done)
    have bx1 : x.n ≤ 3000000000 := by have := of_decide_eq_false (by assumption : decide (x.n > 3000000000) = false); omega
    have bx2 : x.d ≤ 3000000000 := by have := of_decide_eq_false (by assumption : decide (x.d > 3000000000) = false); omega
    apply zz lk4_15
    · simp only [go_sem, List.map_append, Nat.reduceEqDiff, Nat.reduceLT, Nat.reduceAdd, bI, bD, bI2, zF]
      rfl
    refine zr ?_
    try dsimp only [lp4_15, subC, zv, Tryd.f4]
    simp only [bW, if_true, Nat.reduceEqDiff, if_false]
    repeat' first
      | (intro hb; first | cases hb | skip)
      | ((first | apply z9 | apply zf)
         · rfl
         · simp (disch := assumption) only [go_sem, Nat.reduceEqDiff, Nat.reduceAdd, bP, zh, Nat.reduceLeDiff, Nat.reduceLT, Nat.reduceMul, List.length_append, decide_eq_true_eq, zg, z7, Int.reduceToNat, Int.reduceLE, Int.reduceLT, Int.reduceBNe, Int.reduceBEq, show IntKind.i64.wrap (0 + 1) = 1 from by decide, show IntKind.i64.wrap (1 + 1) = 2 from by decide, show IntKind.i64.wrap (2 + 1) = 3 from by decide, show IntKind.i64.wrap (3 + 1) = 4 from by decide, show IntKind.i64.wrap (4 + 1) = 5 from by decide, show (0 : Int) < 5 from by decide, show (0 : Int).toNat = 0 from rfl, show (0 : Int) ≤ 0 from by decide, show (1 : Int) < 5 from by decide, show (1 : Int).toNat = 1 from rfl, show (0 : Int) ≤ 1 from by decide, show (2 : Int) < 5 from by decide, show (2 : Int).toNat = 2 from rfl, show (0 : Int) ≤ 2 from by decide, show (3 : Int) < 5 from by decide, show (3 : Int).toNat = 3 from rfl, show (0 : Int) ≤ 3 from by decide, show (4 : Int) < 5 from by decide, show (4 : Int).toNat = 4 from rfl, show (0 : Int) ≤ 4 from by decide, show ¬ ((5 : Int) < 5) from by decide, cx1, cx2, cx3, cx4, cy1, cy2, cy3, cy4, cz1, cz2, cz3, cz4, cu1, cu2, cu3, cu4, cv1, cv2, cv3, cv4]
           rfl
         · simp only [go_sem, Nat.reduceLT, Nat.reduceEqDiff]
           rfl
         · rfl
         first
         | (apply ze
            · simp only [z6, z0, Nat.reduceLT, decide_true, cond_true, ins]
              rfl
            · simp only [z6, z0, Nat.reduceLT, decide_true, cond_true, ins]
              rfl)
         | (apply zj
            · simp only [z6, z0, Nat.reduceLT, decide_true, cond_true, ins]
              rfl))
      | ((first | apply zc | apply zd)
         · rfl
         · simp only [z6, z0, Nat.reduceLT, decide_true, cond_true, ins]
           rfl)
      | (apply zb
         · simp only [go_sem, Nat.reduceEqDiff])
      | (apply z8
         · simp only [go_sem, Nat.reduceEqDiff])
      | (apply zi
         · kernel_rfl
         · kernel_rfl)
      | (simp only [bW, if_true, Nat.reduceEqDiff, if_false])
    all_goals try (simp only [go_sem, Nat.reduceEqDiff, bP, Nat.reduceAdd, Nat.reduceLeDiff, List.length_map, Tryd.f4]; done)
    have by1 : y.n ≤ 3000000000 := by have := of_decide_eq_false (by assumption : decide (y.n > 3000000000) = false); omega
    have by2 : y.d ≤ 3000000000 := by have := of_decide_eq_false (by assumption : decide (y.d > 3000000000) = false); omega
    apply zz lk4_15
    · simp only [go_sem, List.map_append, Nat.reduceEqDiff, Nat.reduceLT, Nat.reduceAdd, bI, bD, bI2, zF]
      rfl
    refine zr ?_
    try dsimp only [lp4_15, subC, zv, Tryd.f4]
    simp only [bW, if_true, Nat.reduceEqDiff, if_false]
    repeat' first
      | (intro hb; first | cases hb | skip)
      | ((first | apply z9 | apply zf)
         · rfl
         · simp (disch := assumption) only [go_sem, Nat.reduceEqDiff, Nat.reduceAdd, bP, zh, Nat.reduceLeDiff, Nat.reduceLT, Nat.reduceMul, List.length_append, decide_eq_true_eq, zg, z7, Int.reduceToNat, Int.reduceLE, Int.reduceLT, Int.reduceBNe, Int.reduceBEq, show IntKind.i64.wrap (0 + 1) = 1 from by decide, show IntKind.i64.wrap (1 + 1) = 2 from by decide, show IntKind.i64.wrap (2 + 1) = 3 from by decide, show IntKind.i64.wrap (3 + 1) = 4 from by decide, show IntKind.i64.wrap (4 + 1) = 5 from by decide, show (0 : Int) < 5 from by decide, show (0 : Int).toNat = 0 from rfl, show (0 : Int) ≤ 0 from by decide, show (1 : Int) < 5 from by decide, show (1 : Int).toNat = 1 from rfl, show (0 : Int) ≤ 1 from by decide, show (2 : Int) < 5 from by decide, show (2 : Int).toNat = 2 from rfl, show (0 : Int) ≤ 2 from by decide, show (3 : Int) < 5 from by decide, show (3 : Int).toNat = 3 from rfl, show (0 : Int) ≤ 3 from by decide, show (4 : Int) < 5 from by decide, show (4 : Int).toNat = 4 from rfl, show (0 : Int) ≤ 4 from by decide, show ¬ ((5 : Int) < 5) from by decide, cx1, cx2, cx3, cx4, cy1, cy2, cy3, cy4, cz1, cz2, cz3, cz4, cu1, cu2, cu3, cu4, cv1, cv2, cv3, cv4]
           rfl
         · simp only [go_sem, Nat.reduceLT, Nat.reduceEqDiff]
           rfl
         · rfl
         first
         | (apply ze
            · simp only [z6, z0, Nat.reduceLT, decide_true, cond_true, ins]
              rfl
            · simp only [z6, z0, Nat.reduceLT, decide_true, cond_true, ins]
              rfl)
         | (apply zj
            · simp only [z6, z0, Nat.reduceLT, decide_true, cond_true, ins]
              rfl))
      | ((first | apply zc | apply zd)
         · rfl
         · simp only [z6, z0, Nat.reduceLT, decide_true, cond_true, ins]
           rfl)
      | (apply zb
         · simp only [go_sem, Nat.reduceEqDiff])
      | (apply z8
         · simp only [go_sem, Nat.reduceEqDiff])
      | (apply zi
         · kernel_rfl
         · kernel_rfl)
      | (simp only [bW, if_true, Nat.reduceEqDiff, if_false])
    all_goals try (simp only [go_sem, Nat.reduceEqDiff, bP, Nat.reduceAdd, Nat.reduceLeDiff, List.length_map, Tryd.f4]; done)
    have bz1 : z.n ≤ 3000000000 := by have := of_decide_eq_false (by assumption : decide (z.n > 3000000000) = false); omega
    have bz2 : z.d ≤ 3000000000 := by have := of_decide_eq_false (by assumption : decide (z.d > 3000000000) = false); omega
    apply zz lk4_15
    · simp only [go_sem, List.map_append, Nat.reduceEqDiff, Nat.reduceLT, Nat.reduceAdd, bI, bD, bI2, zF]
      rfl
    refine zr ?_
    try dsimp only [lp4_15, subC, zv, Tryd.f4]
    simp only [bW, if_true, Nat.reduceEqDiff, if_false]
    repeat' first
      | (intro hb; first | cases hb | skip)
      | ((first | apply z9 | apply zf)
         · rfl
         · simp (disch := assumption) only [go_sem, Nat.reduceEqDiff, Nat.reduceAdd, bP, zh, Nat.reduceLeDiff, Nat.reduceLT, Nat.reduceMul, List.length_append, decide_eq_true_eq, zg, z7, Int.reduceToNat, Int.reduceLE, Int.reduceLT, Int.reduceBNe, Int.reduceBEq, show IntKind.i64.wrap (0 + 1) = 1 from by decide, show IntKind.i64.wrap (1 + 1) = 2 from by decide, show IntKind.i64.wrap (2 + 1) = 3 from by decide, show IntKind.i64.wrap (3 + 1) = 4 from by decide, show IntKind.i64.wrap (4 + 1) = 5 from by decide, show (0 : Int) < 5 from by decide, show (0 : Int).toNat = 0 from rfl, show (0 : Int) ≤ 0 from by decide, show (1 : Int) < 5 from by decide, show (1 : Int).toNat = 1 from rfl, show (0 : Int) ≤ 1 from by decide, show (2 : Int) < 5 from by decide, show (2 : Int).toNat = 2 from rfl, show (0 : Int) ≤ 2 from by decide, show (3 : Int) < 5 from by decide, show (3 : Int).toNat = 3 from rfl, show (0 : Int) ≤ 3 from by decide, show (4 : Int) < 5 from by decide, show (4 : Int).toNat = 4 from rfl, show (0 : Int) ≤ 4 from by decide, show ¬ ((5 : Int) < 5) from by decide, cx1, cx2, cx3, cx4, cy1, cy2, cy3, cy4, cz1, cz2, cz3, cz4, cu1, cu2, cu3, cu4, cv1, cv2, cv3, cv4]
           rfl
         · simp only [go_sem, Nat.reduceLT, Nat.reduceEqDiff]
           rfl
         · rfl
         first
         | (apply ze
            · simp only [z6, z0, Nat.reduceLT, decide_true, cond_true, ins]
              rfl
            · simp only [z6, z0, Nat.reduceLT, decide_true, cond_true, ins]
              rfl)
         | (apply zj
            · simp only [z6, z0, Nat.reduceLT, decide_true, cond_true, ins]
              rfl))
      | ((first | apply zc | apply zd)
         · rfl
         · simp only [z6, z0, Nat.reduceLT, decide_true, cond_true, ins]
           rfl)
      | (apply zb
         · simp only [go_sem, Nat.reduceEqDiff])
      | (apply z8
         · simp only [go_sem, Nat.reduceEqDiff])
      | (apply zi
         · kernel_rfl
         · kernel_rfl)
      | (simp only [bW, if_true, Nat.reduceEqDiff, if_false])
    all_goals try (simp only [go_sem, Nat.reduceEqDiff, bP, Nat.reduceAdd, Nat.reduceLeDiff, List.length_map, Tryd.f4]; done)
    have bu1 : u.n ≤ 3000000000 := by have := of_decide_eq_false (by assumption : decide (u.n > 3000000000) = false); omega
    have bu2 : u.d ≤ 3000000000 := by have := of_decide_eq_false (by assumption : decide (u.d > 3000000000) = false); omega
    apply zz lk4_15
    · simp only [go_sem, List.map_append, Nat.reduceEqDiff, Nat.reduceLT, Nat.reduceAdd, bI, bD, bI2, zF]
      rfl
    refine zr ?_
    try dsimp only [lp4_15, subC, zv, Tryd.f4]
    simp only [bW, if_true, Nat.reduceEqDiff, if_false]
    repeat' first
      | (intro hb; first | cases hb | skip)
      | ((first | apply z9 | apply zf)
         · rfl
         · simp (disch := assumption) only [go_sem, Nat.reduceEqDiff, Nat.reduceAdd, bP, zh, Nat.reduceLeDiff, Nat.reduceLT, Nat.reduceMul, List.length_append, decide_eq_true_eq, zg, z7, Int.reduceToNat, Int.reduceLE, Int.reduceLT, Int.reduceBNe, Int.reduceBEq, show IntKind.i64.wrap (0 + 1) = 1 from by decide, show IntKind.i64.wrap (1 + 1) = 2 from by decide, show IntKind.i64.wrap (2 + 1) = 3 from by decide, show IntKind.i64.wrap (3 + 1) = 4 from by decide, show IntKind.i64.wrap (4 + 1) = 5 from by decide, show (0 : Int) < 5 from by decide, show (0 : Int).toNat = 0 from rfl, show (0 : Int) ≤ 0 from by decide, show (1 : Int) < 5 from by decide, show (1 : Int).toNat = 1 from rfl, show (0 : Int) ≤ 1 from by decide, show (2 : Int) < 5 from by decide, show (2 : Int).toNat = 2 from rfl, show (0 : Int) ≤ 2 from by decide, show (3 : Int) < 5 from by decide, show (3 : Int).toNat = 3 from rfl, show (0 : Int) ≤ 3 from by decide, show (4 : Int) < 5 from by decide, show (4 : Int).toNat = 4 from rfl, show (0 : Int) ≤ 4 from by decide, show ¬ ((5 : Int) < 5) from by decide, cx1, cx2, cx3, cx4, cy1, cy2, cy3, cy4, cz1, cz2, cz3, cz4, cu1, cu2, cu3, cu4, cv1, cv2, cv3, cv4]
           rfl
         · simp only [go_sem, Nat.reduceLT, Nat.reduceEqDiff]
           rfl
         · rfl
         first
         | (apply ze
            · simp only [z6, z0, Nat.reduceLT, decide_true, cond_true, ins]
              rfl
            · simp only [z6, z0, Nat.reduceLT, decide_true, cond_true, ins]
              rfl)
         | (apply zj
            · simp only [z6, z0, Nat.reduceLT, decide_true, cond_true, ins]
              rfl))
      | ((first | apply zc | apply zd)
         · rfl
         · simp only [z6, z0, Nat.reduceLT, decide_true, cond_true, ins]
           rfl)
      | (apply zb
         · simp only [go_sem, Nat.reduceEqDiff])
      | (apply z8
         · simp only [go_sem, Nat.reduceEqDiff])
      | (apply zi
         · kernel_rfl
         · kernel_rfl)
      | (simp only [bW, if_true, Nat.reduceEqDiff, if_false])
    all_goals try (simp only [go_sem, Nat.reduceEqDiff, bP, Nat.reduceAdd, Nat.reduceLeDiff, List.length_map, Tryd.f4]; done)
    have bv1 : v.n ≤ 3000000000 := by have := of_decide_eq_false (by assumption : decide (v.n > 3000000000) = false); omega
    have bv2 : v.d ≤ 3000000000 := by have := of_decide_eq_false (by assumption : decide (v.d > 3000000000) = false); omega
    apply zz lk4_15
    · simp only [go_sem, List.map_append, Nat.reduceEqDiff, Nat.reduceLT, Nat.reduceAdd, bI, bD, bI2, zF]
      rfl
    have hT1 := times_spec rx.1 rx.2.1 ry.1 ry.2.1
    have hT2 := times_spec rx.1 rx.2.1 rv.1 rv.2.1
    have hB1 := times_le rx.1 bx1 rx.2.1 bx2 ry.1 by1 ry.2.1 by2
    have hB2 := times_le rx.1 bx1 rx.2.1 bx2 rv.1 bv1 rv.2.1 bv2
    have q1 := t22 x y rx.1 bx1 rx.2.1 bx2 ry.1 by1 ry.2.1 by2
    have q2 := t22 x v rx.1 bx1 rx.2.1 bx2 rv.1 bv1 rv.2.1 bv2
    have q3 := t23i (timesR x y).n (timesR x y).d z.n z.d (by have := hT1.1.1; omega) (by omega) hT1.1.2.1 (by omega) (by have := rz.1; omega) (by omega) rz.2.1 (by omega)
    have q4 := t23i u.n u.d (timesR x v).n (timesR x v).d (by have := ru.1; omega) (by omega) ru.2.1 (by omega) (by have := hT2.1.1; omega) (by omega) hT2.1.2.1 (by omega)
    have w1 := cmp_ge_of (a := timesR x y) (b := z) hT1.1.2.1 rz.2.1 (by rw [hT1.2]; exact t1)
    have w2 := cmp_le_of (a := u) (b := timesR x v) ru.2.1 hT2.1.2.1 (by rw [hT2.2]; exact t2)
    refine zr ?_
    try dsimp only [lp4_15, subC, zv, Tryd.f4]
    simp only [bW, if_true, Nat.reduceEqDiff, if_false]
    repeat' first
      | (intro hb; first | cases hb | skip)
      | ((first | apply z9 | apply zf)
         · rfl
         · simp (disch := assumption) only [go_sem, Nat.reduceEqDiff, Nat.reduceAdd, bP, zh, Nat.reduceLeDiff, Nat.reduceLT, Nat.reduceMul, List.length_append, decide_eq_true_eq, zg, z7, Int.reduceToNat, Int.reduceLE, Int.reduceLT, Int.reduceBNe, Int.reduceBEq, show IntKind.i64.wrap (0 + 1) = 1 from by decide, show IntKind.i64.wrap (1 + 1) = 2 from by decide, show IntKind.i64.wrap (2 + 1) = 3 from by decide, show IntKind.i64.wrap (3 + 1) = 4 from by decide, show IntKind.i64.wrap (4 + 1) = 5 from by decide, show (0 : Int) < 5 from by decide, show (0 : Int).toNat = 0 from rfl, show (0 : Int) ≤ 0 from by decide, show (1 : Int) < 5 from by decide, show (1 : Int).toNat = 1 from rfl, show (0 : Int) ≤ 1 from by decide, show (2 : Int) < 5 from by decide, show (2 : Int).toNat = 2 from rfl, show (0 : Int) ≤ 2 from by decide, show (3 : Int) < 5 from by decide, show (3 : Int).toNat = 3 from rfl, show (0 : Int) ≤ 3 from by decide, show (4 : Int) < 5 from by decide, show (4 : Int).toNat = 4 from rfl, show (0 : Int) ≤ 4 from by decide, show ¬ ((5 : Int) < 5) from by decide, cx1, cx2, cx3, cx4, cy1, cy2, cy3, cy4, cz1, cz2, cz3, cz4, cu1, cu2, cu3, cu4, cv1, cv2, cv3, cv4, q1, q2, q3, q4, w1, w2]
           rfl
         · simp only [go_sem, Nat.reduceLT, Nat.reduceEqDiff]
           rfl
         · rfl
         first
         | (apply ze
            · simp only [z6, z0, Nat.reduceLT, decide_true, cond_true, ins]
              rfl
            · simp only [z6, z0, Nat.reduceLT, decide_true, cond_true, ins]
              rfl)
         | (apply zj
            · simp only [z6, z0, Nat.reduceLT, decide_true, cond_true, ins]
              rfl))
      | ((first | apply zc | apply zd)
         · rfl
         · simp only [z6, z0, Nat.reduceLT, decide_true, cond_true, ins]
           rfl)
      | (apply zb
         · simp only [go_sem, Nat.reduceEqDiff])
      | (apply z8
         · simp only [go_sem, Nat.reduceEqDiff])
      | (apply zi
         · kernel_rfl
         · kernel_rfl)
      | (simp only [bW, if_true, Nat.reduceEqDiff, if_false])
    all_goals try simp only [go_sem, Nat.reduceEqDiff, bP, Nat.reduceAdd, Nat.reduceLeDiff, List.length_map, Tryd.f4]
    all_goals first | done | rfl | (simp_all []; done) | trace_state
  · have hab' : ((ia : Int) == (ib : Int)) = false := by simp [hab]
    refine zt (zm 4) cfn4 rfl (n := 152) rfl ?_
    simp only [bW, if_true, Nat.reduceEqDiff, if_false, zn]
    repeat' first
      | (intro hb; first | cases hb | skip)
      | ((first | apply z9 | apply zf)
         · rfl
         · simp (disch := assumption) only [go_sem, Nat.reduceEqDiff, Nat.reduceAdd, bP, zh, Nat.reduceLeDiff, Nat.reduceLT, Nat.reduceMul, List.length_append, decide_eq_true_eq, zg, z7, Int.reduceToNat, Int.reduceLE, Int.reduceLT, Int.reduceBNe, Int.reduceBEq, t14, h17, e1, e2, e3, e4, e5, hab', t21', bne_self_eq_false, cx1, cx2, cx3, cx4, cy1, cy2, cy3, cy4, cz1, cz2, cz3, cz4, cu1, cu2, cu3, cu4, cv1, cv2, cv3, cv4]
           rfl
         · simp only [go_sem, Nat.reduceLT, Nat.reduceEqDiff]
           rfl
         · rfl
         first
         | (apply ze
            · simp only [z6, z0, Nat.reduceLT, decide_true, cond_true, ins]
              rfl
            · simp only [z6, z0, Nat.reduceLT, decide_true, cond_true, ins]
              rfl)
         | (apply zj
            · simp only [z6, z0, Nat.reduceLT, decide_true, cond_true, ins]
              rfl))
      | ((first | apply zc | apply zd)
         · rfl
         · simp only [z6, z0, Nat.reduceLT, decide_true, cond_true, ins]
           rfl)
      | (apply zb
         · simp only [go_sem, Nat.reduceEqDiff])
      | (apply z8
         · simp only [go_sem, Nat.reduceEqDiff])
      | (apply zi
         · kernel_rfl
         · kernel_rfl)
      | (simp only [bW, if_true, Nat.reduceEqDiff, if_false])
    apply w_loop lk4_15
    · simp only [go_sem, List.map_append, Nat.reduceEqDiff, Nat.reduceLT, Nat.reduceAdd, bI, bD, bI2, zF]
      rfl
    refine zr ?_
    try dsimp only [lp4_15, subC, zv, Tryd.f4]
    simp only [bW, if_true, Nat.reduceEqDiff, if_false]
    repeat' first
      | (intro hb; first | cases hb | skip)
      | ((first | apply z9 | apply zf)
         · rfl
         · simp (disch := assumption) only [go_sem, Nat.reduceEqDiff, Nat.reduceAdd, bP, zh, Nat.reduceLeDiff, Nat.reduceLT, Nat.reduceMul, List.length_append, decide_eq_true_eq, zg, z7, Int.reduceToNat, Int.reduceLE, Int.reduceLT, Int.reduceBNe, Int.reduceBEq, show IntKind.i64.wrap (0 + 1) = 1 from by decide, show IntKind.i64.wrap (1 + 1) = 2 from by decide, show IntKind.i64.wrap (2 + 1) = 3 from by decide, show IntKind.i64.wrap (3 + 1) = 4 from by decide, show IntKind.i64.wrap (4 + 1) = 5 from by decide, show (0 : Int) < 5 from by decide, show (0 : Int).toNat = 0 from rfl, show (0 : Int) ≤ 0 from by decide, show (1 : Int) < 5 from by decide, show (1 : Int).toNat = 1 from rfl, show (0 : Int) ≤ 1 from by decide, show (2 : Int) < 5 from by decide, show (2 : Int).toNat = 2 from rfl, show (0 : Int) ≤ 2 from by decide, show (3 : Int) < 5 from by decide, show (3 : Int).toNat = 3 from rfl, show (0 : Int) ≤ 3 from by decide, show (4 : Int) < 5 from by decide, show (4 : Int).toNat = 4 from rfl, show (0 : Int) ≤ 4 from by decide, show ¬ ((5 : Int) < 5) from by decide, cx1, cx2, cx3, cx4, cy1, cy2, cy3, cy4, cz1, cz2, cz3, cz4, cu1, cu2, cu3, cu4, cv1, cv2, cv3, cv4]
           rfl
         · simp only [go_sem, Nat.reduceLT, Nat.reduceEqDiff]
           rfl
         · rfl
         first
         | (apply ze
            · simp only [z6, z0, Nat.reduceLT, decide_true, cond_true, ins]
              rfl
            · simp only [z6, z0, Nat.reduceLT, decide_true, cond_true, ins]
              rfl)
         | (apply zj
            · simp only [z6, z0, Nat.reduceLT, decide_true, cond_true, ins]
              rfl))
      | ((first | apply zc | apply zd)
         · rfl
         · simp only [z6, z0, Nat.reduceLT, decide_true, cond_true, ins]
           rfl)
      | (apply zb
         · simp only [go_sem, Nat.reduceEqDiff])
      | (apply z8
         · simp only [go_sem, Nat.reduceEqDiff])
      | (apply zi
         · kernel_rfl
         · kernel_rfl)
      | (simp only [bW, if_true, Nat.reduceEqDiff, if_false])
    all_goals try (simp only [go_sem, Nat.reduceEqDiff, bP, Nat.reduceAdd, Nat.reduceLeDiff, List.length_map, Tryd.f4]; done)
    have bx1 : x.n ≤ 3000000000 := by have := of_decide_eq_false (by assumption : decide (x.n > 3000000000) = false); omega
    have bx2 : x.d ≤ 3000000000 := by have := of_decide_eq_false (by assumption : decide (x.d > 3000000000) = false); omega
    apply zz lk4_15
    · simp only [go_sem, List.map_append, Nat.reduceEqDiff, Nat.reduceLT, Nat.reduceAdd, bI, bD, bI2, zF]
      rfl
    refine zr ?_
    try dsimp only [lp4_15, subC, zv, Tryd.f4]
    simp only [bW, if_true, Nat.reduceEqDiff, if_false]
    repeat' first
      | (intro hb; first | cases hb | skip)
      | ((first | apply z9 | apply zf)
         · rfl
         · simp (disch := assumption) only [go_sem, Nat.reduceEqDiff, Nat.reduceAdd, bP, zh, Nat.reduceLeDiff, Nat.reduceLT, Nat.reduceMul, List.length_append, decide_eq_true_eq, zg, z7, Int.reduceToNat, Int.reduceLE, Int.reduceLT, Int.reduceBNe, Int.reduceBEq, show IntKind.i64.wrap (0 + 1) = 1 from by decide, show IntKind.i64.wrap (1 + 1) = 2 from by decide, show IntKind.i64.wrap (2 + 1) = 3 from by decide, show IntKind.i64.wrap (3 + 1) = 4 from by decide, show IntKind.i64.wrap (4 + 1) = 5 from by decide, show (0 : Int) < 5 from by decide, show (0 : Int).toNat = 0 from rfl, show (0 : Int) ≤ 0 from by decide, show (1 : Int) < 5 from by decide, show (1 : Int).toNat = 1 from rfl, show (0 : Int) ≤ 1 from by decide, show (2 : Int) < 5 from by decide, show (2 : Int).toNat = 2 from rfl, show (0 : Int) ≤ 2 from by decide, show (3 : Int) < 5 from by decide, show (3 : Int).toNat = 3 from rfl, show (0 : Int) ≤ 3 from by decide, show (4 : Int) < 5 from by decide, show (4 : Int).toNat = 4 from rfl, show (0 : Int) ≤ 4 from by decide, show ¬ ((5 : Int) < 5) from by decide, cx1, cx2, cx3, cx4, cy1, cy2, cy3, cy4, cz1, cz2, cz3, cz4, cu1, cu2, cu3, cu4, cv1, cv2, cv3, cv4]
           rfl
         · simp only [go_sem, Nat.reduceLT, Nat.reduceEqDiff]
           rfl
         · rfl
         first
         | (apply ze
            · simp only [z6, z0, Nat.reduceLT, decide_true, cond_true, ins]
              rfl
            · simp only [z6, z0, Nat.reduceLT, decide_true, cond_true, ins]
              rfl)
         | (apply zj
            · simp only [z6, z0, Nat.reduceLT, decide_true, cond_true, ins]
              rfl))
      | ((first | apply zc | apply zd)
         · rfl
         · simp only [z6, z0, Nat.reduceLT, decide_true, cond_true, ins]
           rfl)
      | (apply zb
         · simp only [go_sem, Nat.reduceEqDiff])
      | (apply z8
         · simp only [go_sem, Nat.reduceEqDiff])
      | (apply zi
         · kernel_rfl
         · kernel_rfl)
      | (simp only [bW, if_true, Nat.reduceEqDiff, if_false])
    all_goals try (simp only [go_sem, Nat.reduceEqDiff, bP, Nat.reduceAdd, Nat.reduceLeDiff, List.length_map, Tryd.f4]; done)
    have by1 : y.n ≤ 3000000000 := by have := of_decide_eq_false (by assumption : decide (y.n > 3000000000) = false); omega
    have by2 : y.d ≤ 3000000000 := by have := of_decide_eq_false (by assumption : decide (y.d > 3000000000) = false); omega
    apply zz lk4_15
    · simp only [go_sem, List.map_append, Nat.reduceEqDiff, Nat.reduceLT, Nat.reduceAdd, bI, bD, bI2, zF]
      rfl
    refine zr ?_
    try dsimp only [lp4_15, subC, zv, Tryd.f4]
    simp only [bW, if_true, Nat.reduceEqDiff, if_false]
    repeat' first
      | (intro hb; first | cases hb | skip)
      | ((first | apply z9 | apply zf)
         · rfl
         · simp (disch := assumption) only [go_sem, Nat.reduceEqDiff, Nat.reduceAdd, bP, zh, Nat.reduceLeDiff, Nat.reduceLT, Nat.reduceMul, List.length_append, decide_eq_true_eq, zg, z7, Int.reduceToNat, Int.reduceLE, Int.reduceLT, Int.reduceBNe, Int.reduceBEq, show IntKind.i64.wrap (0 + 1) = 1 from by decide, show IntKind.i64.wrap (1 + 1) = 2 from by decide, show IntKind.i64.wrap (2 + 1) = 3 from by decide, show IntKind.i64.wrap (3 + 1) = 4 from by decide, show IntKind.i64.wrap (4 + 1) = 5 from by decide, show (0 : Int) < 5 from by decide, show (0 : Int).toNat = 0 from rfl, show (0 : Int) ≤ 0 from by decide, show (1 : Int) < 5 from by decide, show (1 : Int).toNat = 1 from rfl, show (0 : Int) ≤ 1 from by decide, show (2 : Int) < 5 from by decide, show (2 : Int).toNat = 2 from rfl, show (0 : Int) ≤ 2 from by decide, show (3 : Int) < 5 from by decide, show (3 : Int).toNat = 3 from rfl, show (0 : Int) ≤ 3 from by decide, show (4 : Int) < 5 from by decide, show (4 : Int).toNat = 4 from rfl, show (0 : Int) ≤ 4 from by decide, show ¬ ((5 : Int) < 5) from by decide, cx1, cx2, cx3, cx4, cy1, cy2, cy3, cy4, cz1, cz2, cz3, cz4, cu1, cu2, cu3, cu4, cv1, cv2, cv3, cv4]
           rfl
         · simp only [go_sem, Nat.reduceLT, Nat.reduceEqDiff]
           rfl
         · rfl
         first
         | (apply ze
            · simp only [z6, z0, Nat.reduceLT, decide_true, cond_true, ins]
              rfl
            · simp only [z6, z0, Nat.reduceLT, decide_true, cond_true, ins]
              rfl)
         | (apply zj
            · simp only [z6, z0, Nat.reduceLT, decide_true, cond_true, ins]
              rfl))
      | ((first | apply zc | apply zd)
         · rfl
         · simp only [z6, z0, Nat.reduceLT, decide_true, cond_true, ins]
           rfl)
      | (apply zb
         · simp only [go_sem, Nat.reduceEqDiff])
      | (apply z8
         · simp only [go_sem, Nat.reduceEqDiff])
      | (apply zi
         · kernel_rfl
         · kernel_rfl)
      | (simp only [bW, if_true, Nat.reduceEqDiff, if_false])
    all_goals try (simp only [go_sem, Nat.reduceEqDiff, bP, Nat.reduceAdd, Nat.reduceLeDiff, List.length_map, Tryd.f4]; done)
    have bz1 : z.n ≤ 3000000000 := by have := of_decide_eq_false (by assumption : decide (z.n > 3000000000) = false); omega
    have bz2 : z.d ≤ 3000000000 := by have := of_decide_eq_false (by assumption : decide (z.d > 3000000000) = false); omega
    apply zz lk4_15
    · simp only [go_sem, List.map_append, Nat.reduceEqDiff, Nat.reduceLT, Nat.reduceAdd, bI, bD, bI2, zF]
      rfl
    refine zr ?_
    try dsimp only [lp4_15, subC, zv, Tryd.f4]
    simp only [bW, if_true, Nat.reduceEqDiff, if_false]
    repeat' first
      | (intro hb; first | cases hb | skip)
      | ((first | apply z9 | apply zf)
         · rfl
         · simp (disch := assumption) only [go_sem, Nat.reduceEqDiff, Nat.reduceAdd, bP, zh, Nat.reduceLeDiff, Nat.reduceLT, Nat.reduceMul, List.length_append, decide_eq_true_eq, zg, z7, Int.reduceToNat, Int.reduceLE, Int.reduceLT, Int.reduceBNe, Int.reduceBEq, show IntKind.i64.wrap (0 + 1) = 1 from by decide, show IntKind.i64.wrap (1 + 1) = 2 from by decide, show IntKind.i64.wrap (2 + 1) = 3 from by decide, show IntKind.i64.wrap (3 + 1) = 4 from by decide, show IntKind.i64.wrap (4 + 1) = 5 from by decide, show (0 : Int) < 5 from by decide, show (0 : Int).toNat = 0 from rfl, show (0 : Int) ≤ 0 from by decide, show (1 : Int) < 5 from by decide, show (1 : Int).toNat = 1 from rfl, show (0 : Int) ≤ 1 from by decide, show (2 : Int) < 5 from by decide, show (2 : Int).toNat = 2 from rfl, show (0 : Int) ≤ 2 from by decide, show (3 : Int) < 5 from by decide, show (3 : Int).toNat = 3 from rfl, show (0 : Int) ≤ 3 from by decide, show (4 : Int) < 5 from by decide, show (4 : Int).toNat = 4 from rfl, show (0 : Int) ≤ 4 from by decide, show ¬ ((5 : Int) < 5) from by decide, cx1, cx2, cx3, cx4, cy1, cy2, cy3, cy4, cz1, cz2, cz3, cz4, cu1, cu2, cu3, cu4, cv1, cv2, cv3, cv4]
           rfl
         · simp only [go_sem, Nat.reduceLT, Nat.reduceEqDiff]
           rfl
         · rfl
         first
         | (apply ze
            · simp only [z6, z0, Nat.reduceLT, decide_true, cond_true, ins]
              rfl
            · simp only [z6, z0, Nat.reduceLT, decide_true, cond_true, ins]
              rfl)
         | (apply zj
            · simp only [z6, z0, Nat.reduceLT, decide_true, cond_true, ins]
              rfl))
      | ((first | apply zc | apply zd)
         · rfl
         · simp only [z6, z0, Nat.reduceLT, decide_true, cond_true, ins]
           rfl)
      | (apply zb
         · simp only [go_sem, Nat.reduceEqDiff])
      | (apply z8
         · simp only [go_sem, Nat.reduceEqDiff])
      | (apply zi
         · kernel_rfl
         · kernel_rfl)
      | (simp only [bW, if_true, Nat.reduceEqDiff, if_false])
    all_goals try (simp only [go_sem, Nat.reduceEqDiff, bP, Nat.reduceAdd, Nat.reduceLeDiff, List.length_map, Tryd.f4]; done)
    have bu1 : u.n ≤ 3000000000 := by have := of_decide_eq_false (by assumption : decide (u.n > 3000000000) = false); omega
    have bu2 : u.d ≤ 3000000000 := by have := of_decide_eq_false (by assumption : decide (u.d > 3000000000) = false); omega
    apply zz lk4_15
    · simp only [go_sem, List.map_append, Nat.reduceEqDiff, Nat.reduceLT, Nat.reduceAdd, bI, bD, bI2, zF]
      rfl
    refine zr ?_
    try dsimp only [lp4_15, subC, zv, Tryd.f4]
    simp only [bW, if_true, Nat.reduceEqDiff, if_false]
    repeat' first
      | (intro hb; first | cases hb | skip)
      | ((first | apply z9 | apply zf)
         · rfl
         · simp (disch := assumption) only [go_sem, Nat.reduceEqDiff, Nat.reduceAdd, bP, zh, Nat.reduceLeDiff, Nat.reduceLT, Nat.reduceMul, List.length_append, decide_eq_true_eq, zg, z7, Int.reduceToNat, Int.reduceLE, Int.reduceLT, Int.reduceBNe, Int.reduceBEq, show IntKind.i64.wrap (0 + 1) = 1 from by decide, show IntKind.i64.wrap (1 + 1) = 2 from by decide, show IntKind.i64.wrap (2 + 1) = 3 from by decide, show IntKind.i64.wrap (3 + 1) = 4 from by decide, show IntKind.i64.wrap (4 + 1) = 5 from by decide, show (0 : Int) < 5 from by decide, show (0 : Int).toNat = 0 from rfl, show (0 : Int) ≤ 0 from by decide, show (1 : Int) < 5 from by decide, show (1 : Int).toNat = 1 from rfl, show (0 : Int) ≤ 1 from by decide, show (2 : Int) < 5 from by decide, show (2 : Int).toNat = 2 from rfl, show (0 : Int) ≤ 2 from by decide, show (3 : Int) < 5 from by decide, show (3 : Int).toNat = 3 from rfl, show (0 : Int) ≤ 3 from by decide, show (4 : Int) < 5 from by decide, show (4 : Int).toNat = 4 from rfl, show (0 : Int) ≤ 4 from by decide, show ¬ ((5 : Int) < 5) from by decide, cx1, cx2, cx3, cx4, cy1, cy2, cy3, cy4, cz1, cz2, cz3, cz4, cu1, cu2, cu3, cu4, cv1, cv2, cv3, cv4]
           rfl
         · simp only [go_sem, Nat.reduceLT, Nat.reduceEqDiff]
           rfl
         · rfl
         first
         | (apply ze
            · simp only [z6, z0, Nat.reduceLT, decide_true, cond_true, ins]
              rfl
            · simp only [z6, z0, Nat.reduceLT, decide_true, cond_true, ins]
              rfl)
         | (apply zj
            · simp only [z6, z0, Nat.reduceLT, decide_true, cond_true, ins]
              rfl))
      | ((first | apply zc | apply zd)
         · rfl
         · simp only [z6, z0, Nat.reduceLT, decide_true, cond_true, ins]
           rfl)
      | (apply zb
         · simp only [go_sem, Nat.reduceEqDiff])
      | (apply z8
         · simp only [go_sem, Nat.reduceEqDiff])
      | (apply zi
         · kernel_rfl
         · kernel_rfl)
      | (simp only [bW, if_true, Nat.reduceEqDiff, if_false])
    all_goals try (simp only [go_sem, Nat.reduceEqDiff, bP, Nat.reduceAdd, Nat.reduceLeDiff, List.length_map, Tryd.f4]; done)
    have bv1 : v.n ≤ 3000000000 := by have := of_decide_eq_false (by assumption : decide (v.n > 3000000000) = false); omega
    have bv2 : v.d ≤ 3000000000 := by have := of_decide_eq_false (by assumption : decide (v.d > 3000000000) = false); omega
    apply zz lk4_15
    · simp only [go_sem, List.map_append, Nat.reduceEqDiff, Nat.reduceLT, Nat.reduceAdd, bI, bD, bI2, zF]
      rfl
    have hT1 := times_spec rx.1 rx.2.1 ry.1 ry.2.1
    have hT2 := times_spec rx.1 rx.2.1 rv.1 rv.2.1
    have hB1 := times_le rx.1 bx1 rx.2.1 bx2 ry.1 by1 ry.2.1 by2
    have hB2 := times_le rx.1 bx1 rx.2.1 bx2 rv.1 bv1 rv.2.1 bv2
    have q1 := t22 x y rx.1 bx1 rx.2.1 bx2 ry.1 by1 ry.2.1 by2
    have q2 := t22 x v rx.1 bx1 rx.2.1 bx2 rv.1 bv1 rv.2.1 bv2
    have q3 := t23i (timesR x y).n (timesR x y).d z.n z.d (by have := hT1.1.1; omega) (by omega) hT1.1.2.1 (by omega) (by have := rz.1; omega) (by omega) rz.2.1 (by omega)
    have q4 := t23i u.n u.d (timesR x v).n (timesR x v).d (by have := ru.1; omega) (by omega) ru.2.1 (by omega) (by have := hT2.1.1; omega) (by omega) hT2.1.2.1 (by omega)
    have w1 := cmp_ge_of (a := timesR x y) (b := z) hT1.1.2.1 rz.2.1 (by rw [hT1.2]; exact t1)
    have w2 := cmp_le_of (a := u) (b := timesR x v) ru.2.1 hT2.1.2.1 (by rw [hT2.2]; exact t2)
    refine zr ?_
    try dsimp only [lp4_15, subC, zv, Tryd.f4]
    simp only [bW, if_true, Nat.reduceEqDiff, if_false]
    repeat' first
      | (intro hb; first | cases hb | skip)
      | ((first | apply z9 | apply zf)
         · rfl
         · simp (disch := assumption) only [go_sem, Nat.reduceEqDiff, Nat.reduceAdd, bP, zh, Nat.reduceLeDiff, Nat.reduceLT, Nat.reduceMul, List.length_append, decide_eq_true_eq, zg, z7, Int.reduceToNat, Int.reduceLE, Int.reduceLT, Int.reduceBNe, Int.reduceBEq, show IntKind.i64.wrap (0 + 1) = 1 from by decide, show IntKind.i64.wrap (1 + 1) = 2 from by decide, show IntKind.i64.wrap (2 + 1) = 3 from by decide, show IntKind.i64.wrap (3 + 1) = 4 from by decide, show IntKind.i64.wrap (4 + 1) = 5 from by decide, show (0 : Int) < 5 from by decide, show (0 : Int).toNat = 0 from rfl, show (0 : Int) ≤ 0 from by decide, show (1 : Int) < 5 from by decide, show (1 : Int).toNat = 1 from rfl, show (0 : Int) ≤ 1 from by decide, show (2 : Int) < 5 from by decide, show (2 : Int).toNat = 2 from rfl, show (0 : Int) ≤ 2 from by decide, show (3 : Int) < 5 from by decide, show (3 : Int).toNat = 3 from rfl, show (0 : Int) ≤ 3 from by decide, show (4 : Int) < 5 from by decide, show (4 : Int).toNat = 4 from rfl, show (0 : Int) ≤ 4 from by decide, show ¬ ((5 : Int) < 5) from by decide, cx1, cx2, cx3, cx4, cy1, cy2, cy3, cy4, cz1, cz2, cz3, cz4, cu1, cu2, cu3, cu4, cv1, cv2, cv3, cv4, q1, q2, q3, q4, w1, w2]
           rfl
         · simp only [go_sem, Nat.reduceLT, Nat.reduceEqDiff]
           rfl
         · rfl
         first
         | (apply ze
            · simp only [z6, z0, Nat.reduceLT, decide_true, cond_true, ins]
              rfl
            · simp only [z6, z0, Nat.reduceLT, decide_true, cond_true, ins]
              rfl)
         | (apply zj
            · simp only [z6, z0, Nat.reduceLT, decide_true, cond_true, ins]
              rfl))
      | ((first | apply zc | apply zd)
         · rfl
         · simp only [z6, z0, Nat.reduceLT, decide_true, cond_true, ins]
           rfl)
      | (apply zb
         · simp only [go_sem, Nat.reduceEqDiff])
      | (apply z8
         · simp only [go_sem, Nat.reduceEqDiff])
      | (apply zi
         · kernel_rfl
         · kernel_rfl)
      | (simp only [bW, if_true, Nat.reduceEqDiff, if_false])
    all_goals try simp only [go_sem, Nat.reduceEqDiff, bP, Nat.reduceAdd, Nat.reduceLeDiff, List.length_map, Tryd.f4]
    all_goals first | done | rfl | (simp_all []; done) | trace_state

end Go.VS
/-
  VS, part P: what arguments that read as data stand for; what a law's call leaves. (A text of this claim's own; nothing of it is trusted.)
-/
namespace Go.VS
open Go Go.RowKit Go.ChangeShapes Go.WideShapes

def memOf (w : World) : Mem := fun b o => w.cell? ⟨b, o, none⟩
theorem memOf_ok (w : World) : MOK (memOf w) w := fun _ _ _ h => h

/-- Which cells a value of a type may have. -/
def Sh (C : Cfg) : Nat → TypeId → List D → Prop
  | 0, _, _ => False
  | f + 1, t, ds => match C.ty t with
    | some ty => match ty.kind with
      | .int k => ∃ n, ds = [.val (.int k n)] ∧ k.min ≤ n ∧ n ≤ k.max
      | .bool => ∃ b, ds = [B b]
      | .str => ∃ s : ByteArray, ds = [.val (.string s)] ∧ s.size ≤ maxLen
      | .struct fs => ds.length = ty.size ∧ ∀ p ∈ fs, ∃ tf, C.ty p.1 = some tf ∧ Sh C f p.1 ((ds.drop p.2).take tf.size)
      | .arr n e => ds.length = ty.size ∧ ∃ te, C.ty e = some te ∧ ∀ i, i < n → Sh C f e ((ds.drop (i * te.size)).take te.size)
      | .slice e => ds = [.sl true [] 0 none] ∨ ∃ els te, C.ty e = some te ∧ ds = [.sl false els te.size none] ∧ els.length ≤ maxLen ∧
          ∀ d ∈ els, Sh C f e d.cells ∧ (te.isAgg = true → d = .agg d.cells) ∧ (te.isAgg = false → d.cells = [d])
      | _ => False
    | none => False
/-- Types without slices. -/
def flatT (C : Cfg) : Nat → TypeId → Bool
  | 0, _ => false
  | f + 1, t => match C.ty t with
    | some ty => match ty.kind with
      | .int _ => true
      | .bool => true
      | .str => true
      | .struct fs => fs.all fun p => flatT C f p.1
      | .arr _ e => flatT C f e
      | _ => false
    | none => false
/-- Types with slices whose elements have none. -/
def topT (C : Cfg) : Nat → TypeId → Bool
  | 0, _ => false
  | f + 1, t => match C.ty t with
    | some ty => match ty.kind with
      | .int _ => true
      | .bool => true
      | .str => true
      | .struct fs => fs.all fun p => topT C f p.1
      | .arr _ e => topT C f e
      | .slice e => flatT C f e
      | _ => false
    | none => false
theorem flat_top {C : Cfg} : ∀ {f : Nat} {t : TypeId}, flatT C f t = true → topT C f t = true
  | 0, _, h => by cases h
  | f + 1, t, h => by
    unfold flatT at h; unfold topT
    split at h
    · rename_i ty ht
      try rw [ht]
      try simp only []
      cases hk : ty.kind <;> rw [hk] at h <;> simp only [] at h ⊢ <;> (try (cases h; done))
      · exact flat_top h
      · simp only [List.all_eq_true] at h ⊢
        exact fun p hp => flat_top (h p hp)
    · cases h

def plainCells (cs : List Value) : Prop := ∀ v ∈ cs, ∀ a l c, v = .slice (some a) l c → a.spot = none

theorem cellsOf_of {P : Program} {t : TypeId} {ty : Ty} (h : tyOf P t = some ty) : P.cellsOf t = ty.size := by
  obtain ⟨i, d, hi, hd, hz, hk, hs, hb⟩ := tyOf_spec h
  simp [Program.cellsOf, hi, hs]

theorem list_parts {α : Type} (l : List α) (n k : Nat) (h : l.length = n * k) : l = (List.range n).flatMap fun i => (l.drop (i * k)).take k := by
  induction n generalizing l with
  | zero => simp at h ⊢; exact h
  | succ n ih =>
    rw [List.range_succ_eq_map, List.flatMap_cons]
    simp only [Nat.zero_mul, List.drop_zero, List.flatMap_map]
    have hl : (l.drop k).length = n * k := by rw [List.length_drop, h, Nat.add_mul]; omega
    have e := ih (l.drop k) hl
    have : (List.range n).flatMap (fun i => ((l.drop k).drop (i * k)).take k) = (List.range n).flatMap (fun i => (l.drop ((i + 1) * k)).take k) := by
      congr 1; funext i; rw [List.drop_drop]; congr 2; rw [Nat.add_mul]; omega
    rw [this] at e
    calc l = l.take k ++ l.drop k := (List.take_append_drop k l).symm
      _ = _ := by rw [← e]

/-- Parts that stand for parts, put together. -/
theorem zu.join {M : Mem} {Q : Nat → List D → Prop} : ∀ (n : Nat) (F : Nat → List Value), (∀ i, i < n → ∃ ds, zu M noLoc ds (F i) ∧ Q i ds) →
    ∃ G : Nat → List D, zu M noLoc ((List.range n).flatMap G) ((List.range n).flatMap F) ∧ ∀ i, i < n → zu M noLoc (G i) (F i) ∧ Q i (G i) := by
  intro n F h
  obtain ⟨G, hG⟩ := Go.Deep.choose_lt (α := List D) (p := fun i ds => zu M noLoc ds (F i) ∧ Q i ds) h
  refine ⟨G, ?_, hG⟩
  have : ∀ l : List Nat, (∀ i ∈ l, i < n) → zu M noLoc (l.flatMap G) (l.flatMap F) := by
    intro l
    induction l with
    | nil => intro _; simp [zu]
    | cons a l ih =>
      intro hl
      simp only [List.flatMap_cons]
      exact zu.append (hG a (hl a (by simp))).1 (ih fun i hi => hl i (List.mem_cons_of_mem _ hi))
  exact this _ fun i hi => by simpa using hi
theorem flatMap_part {α : Type} (n : Nat) (G : Nat → List α) (k : Nat) (h : ∀ i, i < n → (G i).length = k) (i : Nat) (hi : i < n) : (((List.range n).flatMap G).drop (i * k)).take k = G i := by
  induction n generalizing i G with
  | zero => omega
  | succ n ih =>
    rw [List.range_succ_eq_map, List.flatMap_cons, List.flatMap_map]
    have h0 := h 0 (by omega)
    cases i with
    | zero => simp [← h0]
    | succ i =>
      rw [List.drop_append, List.drop_eq_nil_of_le (by rw [h0, Nat.add_mul]; omega), List.nil_append, h0]
      have : (i + 1) * k - k = i * k := by rw [Nat.add_mul]; omega
      rw [this]
      exact ih (fun i => G (i + 1)) (fun i hi => h (i + 1) (by omega)) i (by omega)

/-- The fields of a struct cover its cells, one behind the other. -/
def rowed : Nat → List (Nat × Nat) → Option Nat
  | o, [] => some o
  | o, (off, size) :: r => if off = o then rowed (o + size) r else none
def rowedT (C : Cfg) : Nat → TypeId → Bool
  | 0, _ => false
  | f + 1, t => match C.ty t with
    | some ty => match ty.kind with
      | .int _ => ty.size == 1
      | .bool => ty.size == 1
      | .str => ty.size == 1
      | .slice e => ty.size == 1 && (match C.ty e with | some te => rowedT C f e && decide (0 < te.size) | none => false)
      | .struct fs => (fs.all fun p => rowedT C f p.1) && (match placesOf C fs with | some pl => rowed 0 pl == some ty.size | none => false)
      | .arr n e => rowedT C f e && (match C.ty e with | some te => ty.size == n * te.size | none => false)
      | _ => false
    | none => false

theorem rowed_parts {M : Mem} {cs : List Value} : ∀ (l : List (Nat × Nat)) (o n : Nat), rowed o l = some n → n ≤ cs.length → ∀ {Q : Nat → List D → Prop},
    (∀ i p, l[i]? = some p → ∃ ds, zu M noLoc ds ((cs.drop p.1).take p.2) ∧ Q i ds) →
    ∃ ds, zu M noLoc ds ((cs.drop o).take (n - o)) ∧ ds.length = n - o ∧ o ≤ n ∧ ∀ i p, l[i]? = some p → o ≤ p.1 ∧ Q i ((ds.drop (p.1 - o)).take p.2)
  | [], o, n, h, hn, Q, _ => by
    simp only [rowed, Option.some.injEq] at h; subst h
    exact ⟨[], by simp [zu], by simp, Nat.le_refl _, by simp⟩
  | (off, size) :: r, o, n, h, hn, Q, hq => by
    simp only [rowed] at h
    split at h
    · rename_i ho; subst ho
      obtain ⟨d0, h1, h2⟩ := hq 0 (off, size) rfl
      obtain ⟨ds, k1, k2, k3, k4⟩ := rowed_parts r (off + size) n h hn (Q := fun i => Q (i + 1)) (fun i p hp => hq (i + 1) p (by simpa using hp))
      have hl : d0.length = size := by rw [← h1.length, List.length_take, List.length_drop]; omega
      refine ⟨d0 ++ ds, ?_, by simp [hl, k2]; omega, by omega, fun i p hp => ?_⟩
      · have e : (cs.drop off).take (n - off) = (cs.drop off).take size ++ (cs.drop (off + size)).take (n - (off + size)) := by
          rw [show n - off = size + (n - (off + size)) by omega, List.take_add, List.drop_drop]
        rw [e]; exact h1.append k1
      · cases i with
        | zero => simp at hp; subst hp; simp [← hl]; simpa [hl] using h2
        | succ i =>
          obtain ⟨q1, q2⟩ := k4 i p (by simpa using hp)
          refine ⟨by omega, ?_⟩
          rw [List.drop_append, List.drop_eq_nil_of_le (by omega), List.nil_append, hl, show p.1 - off - size = p.1 - (off + size) by omega]
          exact q2
    · cases h

section
variable {H : Type} {enc : TypeId × Value → H} {C : Cfg} {w : World} {base : Nat} {sp : Nat → Bool} {held : Bool}

theorem placesOf_get : ∀ {fs : List (TypeId × Nat)} {pl : List (Nat × Nat)}, placesOf C fs = some pl → fs.length = pl.length ∧ ∀ (i : Nat) (p : Nat × Nat), pl[i]? = some p → ∃ t ty, fs[i]? = some (t, p.1) ∧ C.ty t = some ty ∧ ty.size = p.2
  | [], pl, h => by simp [placesOf] at h; subst h; simp
  | (t, off) :: r, pl, h => by
    simp only [placesOf] at h
    split at h
    · rename_i ty l h1 h2
      cases h
      obtain ⟨k1, k2⟩ := placesOf_get h2
      refine ⟨by simp [k1], fun i p hp => ?_⟩
      cases i with
      | zero => simp at hp; subst hp; exact ⟨t, ty, by simp, h1, rfl⟩
      | succ i => obtain ⟨t', ty', a, b, c⟩ := k2 i p (by simpa using hp); exact ⟨t', ty', by simpa using a, b, c⟩
    · cases h

theorem fieldsOf_get {fs : Array Field} {i : Nat} {p : TypeId × Nat} (h : (fs.toList.map fun f => (f.type, f.offset))[i]? = some p) : ∃ f : Field, fs[i]? = some f ∧ f.type = p.1 ∧ f.offset = p.2 := by
  rw [List.getElem?_map] at h
  cases hf : fs.toList[i]? with
  | none => rw [hf] at h; cases h
  | some f => rw [hf] at h; cases h; exact ⟨f, by simpa using hf, rfl, rfl⟩

/-- What reads as data has a deep value. -/
theorem trod_rep (hC : ∀ t ty, C.ty t = some ty → tyOf C.P t = some ty) : ∀ (f n : Nat) (t : TypeId) (cs : List Value) (x : DataW H × List MemPlace),
    DataW.trod enc C.P w base sp held n t cs = some x → topT C f t = true → rowedT C f t = true → (plainCells cs ∨ flatT C f t = true) →
    ∃ ds, zu (memOf w) noLoc ds cs ∧ Sh C f t ds
  | 0, _, _, _, _, _, h, _, _ => by cases h
  | f + 1, n, t, cs, x, h, ht, hw, hp => by
    unfold topT at ht
    split at ht
    case h_2 => cases ht
    rename_i ty hty
    have hto := hC _ _ hty
    obtain ⟨i, d, hi, hd, hz, hk, hs, hb⟩ := tyOf_spec hto
    unfold rowedT at hw
    rw [hty] at hw; simp only [] at hw
    unfold Sh
    rw [hty]; simp only []
    have hp' : plainCells cs ∨ (match ty.kind with | .int _ => true | .bool => true | .str => true | .struct fs => fs.all (fun p => flatT C f p.1) | .arr _ e => flatT C f e | _ => false) = true := by
      rcases hp with hp | hp
      · exact .inl hp
      · unfold flatT at hp; rw [hty] at hp; exact .inr hp
    clear hp
    cases d <;> simp only [tkOf] at hk <;> rw [hk] at ht hw hp' ⊢ <;> simp only [] at ht hw hp' ⊢ <;> (try (cases ht; done))
    case bool =>
      obtain ⟨b, rfl, _⟩ := DataW.trod_bool hd h
      exact ⟨[B b], by simp [zu, Rep], b, rfl⟩
    case int k =>
      obtain ⟨m, rfl, _, hwf⟩ := DataW.trod_int hd h
      simp only [Lit.wf, Bool.and_eq_true, decide_eq_true_eq] at hwf
      exact ⟨[.val (.int k m)], by simp [zu, Rep], m, rfl, hwf⟩
    case string =>
      obtain ⟨s, rfl, _, hsz⟩ := DataW.trod_string hd h
      exact ⟨[.val (.string s)], by simp [zu, Rep], s, rfl, hsz⟩
    case struct fs =>
      obtain ⟨xs, m, rfl, _, hl, hxl, hf⟩ := DataW.trod_struct hd h
      rw [cellsOf_of hto] at hl
      simp only [Bool.and_eq_true] at hw
      obtain ⟨hw1, hw2⟩ := hw
      split at hw2
      case h_2 => cases hw2
      rename_i pl hpl
      have hrow : rowed 0 pl = some ty.size := by simpa using hw2
      obtain ⟨hlen, hget⟩ := placesOf_get hpl
      obtain ⟨ds, k1, k2, _, k4⟩ := rowed_parts (M := memOf w) (cs := cs) pl 0 ty.size hrow (by omega) (Q := fun i ds => ∃ p, (fs.toList.map fun f => (f.type, f.offset))[i]? = some p ∧ Sh C f p.1 ds) (fun i p hp0 => by
        obtain ⟨t', ty', a, b, c⟩ := hget i p hp0
        obtain ⟨fd, e1, e2, e3⟩ := fieldsOf_get a
        simp only [] at e2 e3
        have hmem := List.mem_of_getElem? a
        simp only [List.all_eq_true] at ht hw1
        have hx := hf i fd e1
        have hil : i < xs.length := by rw [hxl]; exact (Array.getElem?_eq_some_iff.1 e1).1
        rw [List.getElem?_eq_getElem hil, e2, e3, cellsOf_of (hC _ _ b), c] at hx
        obtain ⟨ds, q1, q2⟩ := trod_rep hC f m _ _ _ hx (ht _ hmem) (hw1 _ hmem) (by
          rcases hp' with hp | hp
          · exact .inl fun v hv => hp v (List.mem_of_mem_drop (List.mem_of_mem_take hv))
          · simp only [List.all_eq_true] at hp; exact .inr (hp _ hmem))
        exact ⟨ds, q1, _, a, q2⟩)
      simp only [List.drop_zero, Nat.sub_zero] at k1 k2 k4
      rw [← hl, List.take_length] at k1
      refine ⟨ds, k1, k2, fun p hpm => ?_⟩
      obtain ⟨i, hi'⟩ := List.mem_iff_getElem?.1 hpm
      have hil : i < pl.length := by rw [← hlen]; exact (List.getElem?_eq_some_iff.1 hi').1
      obtain ⟨t', ty', a, b, c⟩ := hget i pl[i] (List.getElem?_eq_getElem hil)
      rw [hi'] at a; cases a
      obtain ⟨_, p', q1, q2⟩ := k4 i pl[i] (List.getElem?_eq_getElem hil)
      rw [hi'] at q1; cases q1
      exact ⟨ty', b, by rw [c]; exact q2⟩
    case array m e =>
      obtain ⟨xs, m', rfl, _, hl, hxl, hf⟩ := DataW.trod_array hd h
      rw [cellsOf_of hto] at hl
      simp only [Bool.and_eq_true] at hw
      obtain ⟨hw1, hw2⟩ := hw
      split at hw2
      case h_2 => cases hw2
      rename_i te hte
      have hsz : ty.size = m * te.size := by simpa using hw2
      have hce := cellsOf_of (hC _ _ hte)
      have hpart := list_parts cs m te.size (by rw [hl, hsz])
      obtain ⟨G, g1, g2⟩ := zu.join (M := memOf w) (Q := fun _ ds => Sh C f e ds) m (fun i => (cs.drop (i * te.size)).take te.size) (fun i hi => by
        have hx := hf i hi
        rw [List.getElem?_eq_getElem (by omega), hce] at hx
        exact trod_rep hC f m' _ _ _ hx ht hw1 (by
          rcases hp' with hp | hp
          · exact .inl fun v hv => hp v (List.mem_of_mem_drop (List.mem_of_mem_take hv))
          · exact .inr hp))
      rw [← hpart] at g1
      have hGl : ∀ i, i < m → (G i).length = te.size := by
        intro i hi
        rw [← (g2 i hi).1.length, List.length_take, List.length_drop, hl, hsz]
        have : (i + 1) * te.size ≤ m * te.size := Nat.mul_le_mul_right _ hi
        rw [Nat.add_mul] at this; omega
      refine ⟨_, g1, by rw [← g1.length]; exact hl, te, hte, fun i hi => ?_⟩
      rw [flatMap_part m G te.size hGl i hi]
      exact (g2 i hi).2
    case slice e =>
      simp only [Bool.and_eq_true] at hw
      obtain ⟨_, hw2⟩ := hw
      split at hw2
      case h_2 => cases hw2
      rename_i te hte
      simp only [Bool.and_eq_true, decide_eq_true_eq] at hw2
      obtain ⟨hw2, hpos⟩ := hw2
      have hce := cellsOf_of (hC _ _ hte)
      rcases Go.Deep.open_slice hd h with ⟨rfl, _⟩ | ⟨a, len, cap, m, n', Dd, Pl, rfl, hb, hl, hm, hmm, _, hx⟩
      · exact ⟨[.sl true [] 0 none], by simp [zu, Rep], .inl rfl⟩
      · have hlm : len ≤ m := by rw [hmm]; split <;> omega
        have hsp : a.spot = none := by
          rcases hp' with hp | hp
          · exact hp _ (by simp) a len cap rfl
          · cases hp
        obtain ⟨b, o, s⟩ := a
        simp only [] at hsp; subst hsp
        obtain ⟨G, hG⟩ := Go.Deep.choose_lt (α := D) (p := fun i d => (∃ u, Rep (memOf w) noLoc d u ∧ u.cells.size = te.size ∧ MemAt (memOf w) b (o + i * te.size) u.cells) ∧ Sh C f e d.cells ∧ (te.isAgg = true → d = .agg d.cells) ∧ (te.isAgg = false → d.cells = [d])) (n := len) (fun i hi => by
          obtain ⟨cs', c1, c2⟩ := hx i (by omega)
          obtain ⟨_, c3, c4⟩ := World.cells?_some c1
          obtain ⟨ds, q1, q2⟩ := trod_rep hC f n' e cs' _ c2 (flat_top ht) hw2 (.inr ht)
          rw [hce] at c3 c4
          have hM : MemAt (memOf w) b (o + i * te.size) cs'.toArray := by
            intro j u hu
            have hj : j < te.size := by
              have := (Array.getElem?_eq_some_iff.1 hu).1; simpa [c3] using this
            have := c4 j hj
            rw [addr_add, addr_add] at this
            unfold memOf
            rw [this]; simpa using hu
          cases hag : te.isAgg with
          | true =>
            refine ⟨.agg ds, ⟨.agg cs'.toArray, ?_, by simpa [Value.cells] using c3, hM⟩, q2, fun _ => rfl, fun h => by simp at h⟩
            simp only [Rep]; exact ⟨_, rfl, by simpa using q1⟩
          | false =>
            -- one cell
            obtain ⟨i2, d2, _, hd2, _, hk2, _, _⟩ := tyOf_spec (hC _ _ hte)
            have h1 : te.size = 1 ∧ ∃ d v, ds = [d] ∧ d.cells = [d] ∧ cs' = [v] ∧ v.cells = #[v] := by
              cases f with
              | zero => cases ht
              | succ f =>
                unfold flatT at ht; unfold rowedT at hw2; unfold Sh at q2
                rw [hte] at ht hw2 q2; simp only [] at ht hw2 q2
                cases d2 <;> simp only [tkOf] at hk2 <;> rw [hk2] at ht hw2 q2 <;> simp only [] at ht hw2 q2 <;> (try (cases ht; done))
                · obtain ⟨b', rfl⟩ := q2
                  simp only [zu, Rep] at q1
                  obtain ⟨v, r, rfl, rfl, rfl⟩ := q1
                  exact ⟨by simpa using hw2, _, _, rfl, rfl, rfl, rfl⟩
                · obtain ⟨z, rfl, _⟩ := q2
                  simp only [zu, Rep] at q1
                  obtain ⟨v, r, rfl, rfl, rfl⟩ := q1
                  exact ⟨by simpa using hw2, _, _, rfl, rfl, rfl, rfl⟩
                · obtain ⟨z, rfl, _⟩ := q2
                  simp only [zu, Rep] at q1
                  obtain ⟨v, r, rfl, rfl, rfl⟩ := q1
                  exact ⟨by simpa using hw2, _, _, rfl, rfl, rfl, rfl⟩
                · simp [Ty.isAgg, hk2] at hag
                · simp [Ty.isAgg, hk2] at hag
            obtain ⟨hsz, dd, v, rfl, hdc, rfl, hvc⟩ := h1
            simp only [zu] at q1
            obtain ⟨v', r, e1, q1, rfl⟩ := q1
            cases e1
            refine ⟨dd, ⟨v, q1, by rw [hvc, hsz]; rfl, by rw [hvc]; exact hM⟩, by rw [hdc]; exact q2, fun h => by simp at h, fun _ => hdc⟩)
        refine ⟨[.sl false ((List.range len).map G) te.size none], ?_, .inr ⟨_, te, hte, rfl, by simp; omega, fun d hd' => ?_⟩⟩
        · simp only [zu, Rep]
          refine ⟨_, [], rfl, ⟨by simp, fun _ => ⟨b, o, cap, by simp, by simpa using hl, hm, by simp, RepE.ofGet fun i d hd' => ?_⟩⟩, rfl⟩
          rw [List.getElem?_map] at hd'
          have hi' : i < len := by
            rcases Nat.lt_or_ge i len with h | h
            · exact h
            · rw [List.getElem?_eq_none (by simpa using h)] at hd'; cases hd'
          rw [List.getElem?_range hi'] at hd'; cases hd'
          exact (hG i hi').1
        · obtain ⟨i, hi', rfl⟩ := List.mem_map.1 hd'
          exact (hG i (by simpa using hi')).2

/-- An argument. -/
theorem plain_arg {P : Program} {r : Reach} {base : Nat} {t : TypeId} {v : Value} (h : Value.okWide P w r base t v) : plainCells v.cells.toList := by
  have key : ∀ u x, Cell.okWide P w r base u x → ∀ a l c, x = .slice (some a) l c → a.spot = none := by
    rintro u x hx a l c rfl
    unfold Cell.okWide at hx
    split at hx <;> try (rename_i h1 h2; cases h2; done)
    unfold Cell.ok at hx
    split at hx <;> try (rename_i h1 h2; cases h2; done)
    · rename_i h1 h2
      cases h2
      exact hx.2.2.2.1
    · cases hx
  unfold Value.okWide at h
  split at h
  · obtain ⟨cs, rfl, _, ts, _, _, hc⟩ := h
    intro x hx
    obtain ⟨i, hi⟩ := List.mem_iff_getElem?.1 hx
    obtain ⟨u, _, hu⟩ := hc i x (by simpa [Value.cells] using hi)
    exact key u x hu
  · obtain ⟨cs, rfl, _, ts, _, _, hc⟩ := h
    intro x hx
    obtain ⟨i, hi⟩ := List.mem_iff_getElem?.1 hx
    obtain ⟨u, _, hu⟩ := hc i x (by simpa [Value.cells] using hi)
    exact key u x hu
  · intro x hx a l c e
    have hv : x = v ∨ ∃ cs, v = .agg cs := by
      cases v <;> first | exact .inr ⟨_, rfl⟩ | (left; simpa [Value.cells] using hx)
    rcases hv with rfl | ⟨cs, rfl⟩
    · exact key t x h a l c e
    · exfalso
      unfold Cell.okWide at h
      split at h <;> try (rename_i h1 h2; cases h2; done)
      unfold Cell.ok at h
      split at h <;> first | (rename_i h1 h2; cases h2; done) | cases h
end
end Go.VS
/-
  VS, part P2: what a law's call leaves, as its row says it. (A text of this claim's own; nothing of it is trusted.)
-/
namespace Go.VS
open Go Go.RowKit Go.ChangeShapes Go.WideShapes

section
variable {H : Type} {enc : TypeId × Value → H} {P : Program}
theorem trodAll_carry {w w' : World} {base : Nat} {sp : Nat → Bool} {held : Bool} : ∀ {ts : List TypeId} {vs : List Value} {ds : List (DataW H)} {ps : List MemPlace}, DataW.TrodAll enc P w base sp held ts vs ds ps → (∀ p ∈ ps, w.sameAt w' p) → DataW.TrodAll enc P w' base sp held ts vs ds ps
  | [], [], [], _, h, _ => h
  | _ :: _, _ :: _, _ :: _, _, ⟨p, q, ⟨n, h1⟩, h2, e⟩, hs => ⟨p, q, ⟨n, DataW.trod_carry n _ _ _ h1 (fun x hx => hs x (by rw [e]; exact List.mem_append_left _ hx))⟩, trodAll_carry h2 (fun x hx => hs x (by rw [e]; exact List.mem_append_right _ hx)), e⟩
theorem sameAt_of {w w' : World} (h : ∀ b, b < w.heap.size → w'.heap[b]? = w.heap[b]?) : ∀ p : MemPlace, p.block < w.heap.size → w.sameAt w' p
  | .cell b off, hp => by
    show w'.cell? ⟨b, off, none⟩ = w.cell? ⟨b, off, none⟩
    unfold World.cell?
    rw [h b hp]
  | .map b, hp => h b hp
theorem post_same {f : Func} {s : ChangeSpec} {apart fresh handsOn again : Bool} {W W' : World} {args : Array Value} {v : Value} {ds gs : List (DataW H)} {before pa pv : List MemPlace}
    (hW : DataW.Whole enc P f.params.toList s.vars apart W args.toList ds gs before)
    (hres : ∀ (b : Nat) (sp : Nat → Bool) (hd : Bool), DataW.TrodAll enc P W' b sp hd f.resultTypes.toList (v.resultList f.resultTypes.size) (s.fn H (ds ++ gs)).results [])
    (hargs : ∀ sp : Nat → Bool, (∀ p ∈ before, sp p.block = true) → DataW.TrodAll enc P W' 0 sp true f.params.toList args.toList (s.fn H (ds ++ gs)).args pa)
    (hvars : ∀ sp : Nat → Bool, (∀ p ∈ before, sp p.block = true) → DataW.TrodVars enc P W' sp s.vars (s.fn H (ds ++ gs)).vars pv)
    (hps : before = pa ++ pv) (hk : W.keptBut W' (· ∈ before)) (hfz : ∀ p ∈ before, ∀ b off, p = .cell b off → W'.frozen? ⟨b, off, none⟩ = W.frozen? ⟨b, off, none⟩)
    (hok : ∀ (j : Nat) (t : TypeId) (r : Value), f.resultTypes[j]? = some t → (v.resultList f.resultTypes.size)[j]? = some r → Value.okWide P W' .any 0 t r) :
    s.post enc P f apart fresh handsOn again W args v W' := by
  have hold : ∀ p ∈ before, (fun b => decide (b < W.heap.size)) p.block = true := fun p hp => by simpa using hW.lt p hp
  refine ⟨ds, gs, before, [], pa, pv, hW, hres _ _ _, hargs _ hold, hvars _ hold, World.keptBut_mono (fun p hp => ⟨hp, ?_⟩) hk, fun _ => ?_⟩
  · rw [hps, List.mem_append] at hp
    exact Or.inr hp
  · obtain ⟨_, _, _, _, _, hz, hn⟩ := hW
    refine ⟨hok, _, _, ([] ++ pa) ++ pv, ⟨[] ++ pa, pv, trodAll_append (hargs _ (fun _ _ => rfl)) (hres _ _ _), hvars _ (fun _ _ => rfl), rfl, ?_, ?_⟩, ?_⟩
    · intro b off hp
      have hp' : MemPlace.cell b off ∈ before := by rw [hps]; simpa using hp
      rw [hfz _ hp' b off rfl]
      exact hz b off hp'
    · intro ha
      have := hn ha
      rw [hps] at this
      simpa using this
    · intro p hp _
      rw [hps]
      simpa using hp

theorem law_post {C : Cfg} (hC : CfgOK C) (hX : ExtOK C) (hl : laidOutB C.P = true) (hm : mapsRowed C.P = true) (hz : ∀ t e, t < C.P.types.size → C.P.underlying t = some (.slice e) → 0 < C.P.cellsOf e)
    {K : FuncId} {dsD : List D} (hpure : (lim C).pure K dsD = some (B true)) {W : World} {args : Array Value} (hrep : zu (memOf W) noLoc dsD args.toList) (hG : GlobOK C (memOf W))
    {f : Func} {s : ChangeSpec} {apart fresh handsOn again : Bool} {ds gs : List (DataW H)} {before : List MemPlace}
    (hW : DataW.Whole enc C.P f.params.toList s.vars apart W args.toList ds gs before) (hv : s.vars = [])
    (hfn : s.fn H ds = { results := [.lit (.bool true)], args := ds }) {tb : TypeId} (hres : f.resultTypes = #[tb]) (htb : C.P.underlying tb = some .bool)
    (hts : ∀ t ∈ f.params.toList, t < C.P.types.size) :
    Calls C.P K args W fun e W' => ∃ v, e = .returned v ∧ s.post enc C.P f apart fresh handsOn again W args v W' := by
  refine (lim_sound hC hX hpure (memOf W) W args (memOf_ok W) hG hrep).mono ?_
  rintro e W' ⟨v, M', rfl, k1, k2, k3, k4, k5, k6, k7, k8, k9⟩
  simp only [Rep] at k3; subst k3
  have hW' := hW
  obtain ⟨p, q, hA, hVars, rfl, hnf, hnd⟩ := hW'
  rw [hv] at hVars
  obtain ⟨rfl, rfl⟩ : gs = [] ∧ q = [] := by
    cases gs with
    | nil => exact ⟨rfl, hVars⟩
    | cons g gs => cases hVars
  have hlt := hW.lt
  refine ⟨_, rfl, post_same (pa := p) (pv := []) hW ?_ ?_ ?_ rfl ?_ ?_ ?_⟩
  · intro b sp hd
    rw [List.append_nil, hfn, hres]
    refine ⟨[], [], ⟨1, ?_⟩, rfl, rfl⟩
    simp [DataW.trod, htb, Value.cells]
  · intro sp hsp
    rw [List.append_nil, hfn]
    refine trodAll_carry (DataW.TrodAll.respare (T := (· < C.P.types.size)) (kids_rows hl hm) hz hts hA (fun p hp => hsp p (by simpa using hp))) (fun p hp => sameAt_of k8 p (hlt p (by simpa using hp)))
  · intro sp hsp
    rw [List.append_nil, hfn, hv]; rfl
  · refine ⟨k4, k6, fun i hi => ?_⟩
    rw [k8 i hi]
    cases hh : W.heap[i]? with
    | none => trivial
    | some o => cases o <;> simp
  · rintro _ hp b off rfl
    unfold World.frozen?
    rw [k8 b (hlt _ hp)]
  · intro j t r h1 h2
    rw [hres] at h1 h2
    cases j with
    | zero =>
      simp at h1; subst h1
      simp [Value.resultList] at h2; subst h2
      simp [Value.okWide, htb, Cell.okWide, Cell.ok]
    | succ j => simp at h1
end
end Go.VS
/-
  The seat's program: its tables are right; its variable; what its arguments stand for. (A text of this claim's own; nothing of it is trusted.)
-/
namespace Go.VS
open Go Go.Proofs Go.RowKit Go.ChangeShapes Go.WideShapes

theorem cfgOK : CfgOK cfg where
  ty := fun _ _ h => tyTab_ok.find h
  fn := fun _ _ h => fnTab_ok.find h
  enter := fun _ _ h => enTab_ok.find h
  mixed := by kernel_rfl
  eqok := fun t h => by
    have h1 : (eqTab.find t).isSome = true := h
    cases hf : eqTab.find t with
    | none => rw [hf] at h1; cases h1
    | some u =>
      have := eqTab_ok.find hf
      unfold eqB at this
      simp only [Bool.and_eq_true, Bool.not_eq_true'] at this
      refine ⟨this.1.1, this.1.2, fun fs hfs f hm => ?_⟩
      have h2 := this.2
      have hfs' : Tryd.prog.underlying t = some (.struct fs) := hfs
      rw [hfs'] at h2
      simp only [List.all_eq_true, bne_iff_ne] at h2
      exact h2 f hm
theorem extOK : ExtOK cfg where
  pure := fun K g args d h => by rw [zm] at h; cases h
  inl := fun K g args objs nxt d objs' nxt' h => by rw [cfg_xinl] at h; cases h
theorem gOne : Tryd.prog.globalNamed "acreage/paper.one" = some 0 := by kernel_rfl
theorem gOneType : (Tryd.prog.globals[0]?).map (·.type) = some 34 := by kernel_rfl
theorem ty34f : ∃ f0 f1 : Field, Tryd.prog.underlying 34 = some (.struct #[f0, f1]) ∧ f0.type = 3 ∧ f1.type = 3 ∧ f0.offset = 0 ∧ f1.offset = 1 := ⟨_, _, Tryd.underlying34, rfl, rfl, rfl, rfl⟩
theorem globOK {W : World} (h : laidMetH Tryd.prog [("acreage/paper.one", YtbndhgnkgoggmaaDoor.Rows.laid_acreage_paper_one)] W) : GlobOK cfg (memOf W) := by
  obtain ⟨ps, ⟨g', t', cs, fuel, p, q, hg', ht', hvar, hd, _, _⟩, _⟩ := h
  obtain rfl := Option.some.inj (gOne.symm.trans hg')
  obtain rfl := Option.some.inj (gOneType.symm.trans ht')
  obtain ⟨f0, f1, hu, a0, a1, b0, b1⟩ := ty34f
  obtain ⟨xs, n, rfl, hx, hl, hxl, hf⟩ := DataW.trod_struct hu hd
  have hc34 : Tryd.prog.cellsOf 34 = 2 := by kernel_rfl
  have hc3 : Tryd.prog.cellsOf 3 = 1 := by kernel_rfl
  rw [hc34] at hl
  have h0 := hf 0 f0 rfl
  have h1 := hf 1 f1 rfl
  rw [a0, b0, hc3] at h0
  rw [a1, b1, hc3] at h1
  have hxs : xs.map (·.1) = [.lit (.int .i64 1), .lit (.int .i64 1)] := by
    have := congrArg Prod.fst hx
    simp [YtbndhgnkgoggmaaDoor.Rows.laid_acreage_paper_one] at this
    exact this.symm
  obtain ⟨x0, x1, rfl⟩ : ∃ x0 x1, xs = [x0, x1] := by
    match xs, hxl with
    | [x0, x1], _ => exact ⟨x0, x1, rfl⟩
  simp at hxs h0 h1
  obtain ⟨v0, v1, hcs⟩ : ∃ v0 v1, cs.toList = [v0, v1] := by
    match hc : cs.toList, (by simpa using hl : cs.toList.length = 2) with
    | [v0, v1], _ => exact ⟨v0, v1, rfl⟩
  rw [hcs] at h0 h1
  obtain ⟨n0, e0, q0, _⟩ := DataW.trod_int Tryd.underlying3 h0
  obtain ⟨n1, e1, q1, _⟩ := DataW.trod_int Tryd.underlying3 h1
  simp at e0 e1
  subst e0 e1
  rw [q0, q1] at hxs
  simp at hxs
  obtain ⟨rfl, rfl⟩ := hxs
  intro g d hgd
  have hgd' : (if g = 0 then some (.agg [I 1, I 1]) else none) = some d := hgd
  split at hgd'
  · rename_i hg; subst hg
    cases hgd'
    refine ⟨.agg cs, ?_, fun j u hu => ?_⟩
    · simp only [Rep]
      exact ⟨cs, rfl, by rw [hcs]; simp [zu, Rep]⟩
    · have := World.var?_cell gOne hvar j
      unfold memOf
      rw [Nat.zero_add, this]
      simpa [Value.cells] using hu
  · cases hgd'

/-! ### arguments -/
set_option maxRecDepth 100000
theorem laid_out : laidOutB Tryd.prog = true := by kernel_rfl
theorem maps_rowed : mapsRowed Tryd.prog = true := by kernel_rfl
theorem sl_full : ∀ t e, t < Tryd.prog.types.size → Tryd.prog.underlying t = some (.slice e) → 0 < Tryd.prog.cellsOf e := slices_full_of Tryd.prog (by kernel_rfl)
section
variable {H : Type} {enc : TypeId × Value → H} {w : World} {base base' : Nat} {sp : Nat → Bool} {held : Bool}
theorem arg_rep {t : TypeId} {v : Value} {d : DataW H} {p : List MemPlace} {r : Reach} (h : DataW.Trod enc Tryd.prog w base sp held t v d p) (hv : Value.okWide Tryd.prog w r base' t v) (ht : topT cfg 8 t = true) (hr : rowedT cfg 8 t = true) :
    ∃ ds, zu (memOf w) noLoc ds v.cells.toList ∧ Sh cfg 8 t ds := by
  obtain ⟨n, hn⟩ := h
  exact trod_rep (C := cfg) (fun t ty h => tyTab_ok.find h) 8 n t _ _ hn ht hr (.inl (plain_arg hv))
end
theorem i64_min : IntKind.i64.min = -9223372036854775808 := by rfl
theorem i64_max : IntKind.i64.max = 9223372036854775807 := by rfl
def R64 (n : Int) : Prop := -9223372036854775808 ≤ n ∧ n ≤ 9223372036854775807
theorem sh_int {f : Nat} {ds : List D} (h : Sh cfg (f + 1) 3 ds) : ∃ n, ds = [I n] ∧ R64 n := by
  simp only [Sh, cfg_ty, cty3, ty3] at h
  obtain ⟨n, h1, h2, h3⟩ := h
  rw [i64_min] at h2
  rw [i64_max] at h3
  exact ⟨n, h1, h2, h3⟩
theorem sh_bool {f : Nat} {ds : List D} (h : Sh cfg (f + 1) 4 ds) : ∃ b, ds = [B b] := by
  simp only [Sh, cfg_ty, cty4, ty4] at h
  exact h
theorem part_one {ds : List D} {k : Nat} {d : D} (h : (ds.drop k).take 1 = [d]) : ds[k]? = some d := by
  have := congrArg (fun l => l[0]?) h
  simpa [List.getElem?_take, List.getElem?_drop] using this
theorem field_int {f k : Nat} {fs : List (TypeId × Nat)} {ds : List D} (hf : ∀ p ∈ fs, ∃ tf, cfg.ty p.1 = some tf ∧ Sh cfg (f + 1) p.1 ((ds.drop p.2).take tf.size)) (hm : (3, k) ∈ fs) : ∃ n, ds[k]? = some (I n) ∧ R64 n := by
  obtain ⟨tf, h1, h2⟩ := hf _ hm
  have : tf = ty3 := by rw [cfg_ty] at h1; exact (Option.some.inj (cty3.symm.trans h1)).symm
  subst this
  obtain ⟨n, h3, h4⟩ := sh_int h2
  exact ⟨n, part_one h3, h4⟩
theorem field_bool {f k : Nat} {fs : List (TypeId × Nat)} {ds : List D} (hf : ∀ p ∈ fs, ∃ tf, cfg.ty p.1 = some tf ∧ Sh cfg (f + 1) p.1 ((ds.drop p.2).take tf.size)) (hm : (4, k) ∈ fs) : ∃ b, ds[k]? = some (B b) := by
  obtain ⟨tf, h1, h2⟩ := hf _ hm
  have : tf = ty4 := by rw [cfg_ty] at h1; exact (Option.some.inj (cty4.symm.trans h1)).symm
  subst this
  obtain ⟨n, h3⟩ := sh_bool h2
  exact ⟨n, part_one h3⟩
end Go.VS
/-
  What the arguments of the laws stand for, type by type. (Printed by gen/q2.py, a program of this claim's own; nothing of it is trusted.)
-/
namespace Go.VS
open Go Go.Proofs
theorem list_eq {α : Type} {l l' : List α} (h : l = l') : l' = l := h.symm
def Mark.R (m : Mark) : Prop := R64 m.sheet ∧ R64 m.axis ∧ R64 m.tru ∧ R64 m.seen ∧ R64 m.err
def Join.R (m : Join) : Prop := R64 m.a ∧ R64 m.b ∧ R64 m.axis ∧ R64 m.seenA ∧ R64 m.errA ∧ R64 m.seenB ∧ R64 m.errB
def F4.R (m : F4) : Prop := R64 m.xn ∧ R64 m.xd ∧ R64 m.yn ∧ R64 m.yd
def Reason.R (m : Reason) : Prop := R64 m.at_
def Paper.R (p : Paper) : Prop := R64 p.sheets ∧ (∀ m ∈ p.marks, m.R) ∧ (∀ m ∈ p.joins, m.R)

theorem sh_mark {f : Nat} {ds : List D} (h : Sh cfg (f + 2) 37 ds) : ∃ a0 a1 a2 a3 a4, ds = [I a0, I a1, I a2, I a3, I a4] ∧ R64 a0 ∧ R64 a1 ∧ R64 a2 ∧ R64 a3 ∧ R64 a4 := by
  rw [Sh, cfg_ty, cty37] at h
  simp only [ty37] at h
  obtain ⟨hl, hf⟩ := h
  obtain ⟨a0, h0, b0⟩ := field_int (k := 0) hf (by simp)
  obtain ⟨a1, h1, b1⟩ := field_int (k := 1) hf (by simp)
  obtain ⟨a2, h2, b2⟩ := field_int (k := 2) hf (by simp)
  obtain ⟨a3, h3, b3⟩ := field_int (k := 3) hf (by simp)
  obtain ⟨a4, h4, b4⟩ := field_int (k := 4) hf (by simp)
  rcases ds with _ | ⟨x0, _ | ⟨x1, _ | ⟨x2, _ | ⟨x3, _ | ⟨x4, _ | ⟨y, r⟩⟩⟩⟩⟩⟩
  all_goals simp at hl
  simp at h0 h1 h2 h3 h4
  refine ⟨a0, a1, a2, a3, a4, by simp [*], b0, b1, b2, b3, b4⟩

theorem sh_join {f : Nat} {ds : List D} (h : Sh cfg (f + 2) 39 ds) : ∃ a0 a1 a2 a3 a4 a5 a6, ds = [I a0, I a1, I a2, I a3, I a4, I a5, I a6] ∧ R64 a0 ∧ R64 a1 ∧ R64 a2 ∧ R64 a3 ∧ R64 a4 ∧ R64 a5 ∧ R64 a6 := by
  rw [Sh, cfg_ty, cty39] at h
  simp only [ty39] at h
  obtain ⟨hl, hf⟩ := h
  obtain ⟨a0, h0, b0⟩ := field_int (k := 0) hf (by simp)
  obtain ⟨a1, h1, b1⟩ := field_int (k := 1) hf (by simp)
  obtain ⟨a2, h2, b2⟩ := field_int (k := 2) hf (by simp)
  obtain ⟨a3, h3, b3⟩ := field_int (k := 3) hf (by simp)
  obtain ⟨a4, h4, b4⟩ := field_int (k := 4) hf (by simp)
  obtain ⟨a5, h5, b5⟩ := field_int (k := 5) hf (by simp)
  obtain ⟨a6, h6, b6⟩ := field_int (k := 6) hf (by simp)
  rcases ds with _ | ⟨x0, _ | ⟨x1, _ | ⟨x2, _ | ⟨x3, _ | ⟨x4, _ | ⟨x5, _ | ⟨x6, _ | ⟨y, r⟩⟩⟩⟩⟩⟩⟩⟩
  all_goals simp at hl
  simp at h0 h1 h2 h3 h4 h5 h6
  refine ⟨a0, a1, a2, a3, a4, a5, a6, by simp [*], b0, b1, b2, b3, b4, b5, b6⟩

theorem sh_ratio {f : Nat} {ds : List D} (h : Sh cfg (f + 2) 34 ds) : ∃ a0 a1, ds = [I a0, I a1] ∧ R64 a0 ∧ R64 a1 := by
  rw [Sh, cfg_ty, cty34] at h
  simp only [ty34] at h
  obtain ⟨hl, hf⟩ := h
  obtain ⟨a0, h0, b0⟩ := field_int (k := 0) hf (by simp)
  obtain ⟨a1, h1, b1⟩ := field_int (k := 1) hf (by simp)
  rcases ds with _ | ⟨x0, _ | ⟨x1, _ | ⟨y, r⟩⟩⟩
  all_goals simp at hl
  simp at h0 h1
  refine ⟨a0, a1, by simp [*], b0, b1⟩

theorem sh_reason {f : Nat} {ds : List D} (h : Sh cfg (f + 2) 81 ds) : ∃ a0 a1 a2, ds = [B a0, I a1, B a2] ∧ R64 a1 := by
  rw [Sh, cfg_ty, cty81] at h
  simp only [ty81] at h
  obtain ⟨hl, hf⟩ := h
  obtain ⟨a0, h0⟩ := field_bool (k := 0) hf (by simp)
  obtain ⟨a1, h1, b1⟩ := field_int (k := 1) hf (by simp)
  obtain ⟨a2, h2⟩ := field_bool (k := 2) hf (by simp)
  rcases ds with _ | ⟨x0, _ | ⟨x1, _ | ⟨x2, _ | ⟨y, r⟩⟩⟩⟩
  all_goals simp at hl
  simp at h0 h1 h2
  refine ⟨a0, a1, a2, by simp [*], b1⟩

theorem sh_pair {f : Nat} {ds : List D} (h : Sh cfg (f + 3) 35 ds) : ∃ a0 a1 a2 a3, ds = [I a0, I a1, I a2, I a3] ∧ R64 a0 ∧ R64 a1 ∧ R64 a2 ∧ R64 a3 := by
  rw [Sh, cfg_ty, cty35] at h
  simp only [ty35] at h
  obtain ⟨hl, te, h1, h2⟩ := h
  have : te = ty34 := by exact (Option.some.inj (cty34.symm.trans h1)).symm
  subst this
  obtain ⟨a0, a1, e0, b0, b1⟩ := sh_ratio (h2 0 (by omega))
  obtain ⟨a2, a3, e1, b2, b3⟩ := sh_ratio (h2 1 (by omega))
  rcases ds with _ | ⟨x0, _ | ⟨x1, _ | ⟨x2, _ | ⟨x3, _ | ⟨y, r⟩⟩⟩⟩⟩
  all_goals simp at hl
  simp [ty34] at e0 e1
  exact ⟨a0, a1, a2, a3, by simp [*], b0, b1, b2, b3⟩

theorem sh_marks {f : Nat} {ds : List D} (h : Sh cfg (f + 4) 22 ds) : (∃ (nl : Bool) (l : List Mark), ds = [.sl nl (l.map encM) 5 none] ∧ (nl = true → l = []) ∧ l.length ≤ 9223372036854775807 ∧ (∀ x ∈ l, Mark.R x)) ∨ ds = [.sl true [] 0 none] := by
  rw [Sh, cfg_ty, cty22] at h
  simp only [ty22] at h
  rcases h with h | ⟨els, te, h1, h2, h3, h4⟩
  · exact .inr h
  · have : te = ty37 := by exact (Option.some.inj (cty37.symm.trans h1)).symm
    subst this
    have key : ∀ els : List D, (∀ d ∈ els, Sh cfg (f + 3) 37 d.cells ∧ (ty37.isAgg = true → d = .agg d.cells) ∧ (ty37.isAgg = false → d.cells = [d])) → ∃ l : List Mark, els = l.map encM ∧ ∀ x ∈ l, Mark.R x := by
      intro els
      induction els with
      | nil => intro _; exact ⟨[], rfl, fun x hx => by cases hx⟩
      | cons d els ih =>
        intro hd
        obtain ⟨l, hl, hR⟩ := ih fun d' h' => hd d' (List.mem_cons_of_mem _ h')
        obtain ⟨q1, q2, _⟩ := hd d (by simp)
        have q2 := q2 rfl
        obtain ⟨a0, a1, a2, a3, a4, e, hb⟩ := sh_mark q1
        have hx : d = encM (⟨a0, a1, a2, a3, a4⟩ : Mark) := by rw [q2, e]; rfl
        have hxR : Mark.R (⟨a0, a1, a2, a3, a4⟩ : Mark) := hb
        exact ⟨(⟨a0, a1, a2, a3, a4⟩ : Mark) :: l, by rw [List.map_cons, ← hx, ← hl], fun y hy => by
          rcases List.mem_cons.1 hy with rfl | hy
          · exact hxR
          · exact hR y hy⟩
    obtain ⟨l, rfl, hR⟩ := key els h4
    refine .inl ⟨false, l, h2, by simp, ?_, hR⟩
    simp only [List.length_map, maxLen] at h3
    omega

theorem sh_joins {f : Nat} {ds : List D} (h : Sh cfg (f + 4) 23 ds) : (∃ (nl : Bool) (l : List Join), ds = [.sl nl (l.map encJ) 7 none] ∧ (nl = true → l = []) ∧ l.length ≤ 9223372036854775807 ∧ (∀ x ∈ l, Join.R x)) ∨ ds = [.sl true [] 0 none] := by
  rw [Sh, cfg_ty, cty23] at h
  simp only [ty23] at h
  rcases h with h | ⟨els, te, h1, h2, h3, h4⟩
  · exact .inr h
  · have : te = ty39 := by exact (Option.some.inj (cty39.symm.trans h1)).symm
    subst this
    have key : ∀ els : List D, (∀ d ∈ els, Sh cfg (f + 3) 39 d.cells ∧ (ty39.isAgg = true → d = .agg d.cells) ∧ (ty39.isAgg = false → d.cells = [d])) → ∃ l : List Join, els = l.map encJ ∧ ∀ x ∈ l, Join.R x := by
      intro els
      induction els with
      | nil => intro _; exact ⟨[], rfl, fun x hx => by cases hx⟩
      | cons d els ih =>
        intro hd
        obtain ⟨l, hl, hR⟩ := ih fun d' h' => hd d' (List.mem_cons_of_mem _ h')
        obtain ⟨q1, q2, _⟩ := hd d (by simp)
        have q2 := q2 rfl
        obtain ⟨a0, a1, a2, a3, a4, a5, a6, e, hb⟩ := sh_join q1
        have hx : d = encJ (⟨a0, a1, a2, a3, a4, a5, a6⟩ : Join) := by rw [q2, e]; rfl
        have hxR : Join.R (⟨a0, a1, a2, a3, a4, a5, a6⟩ : Join) := hb
        exact ⟨(⟨a0, a1, a2, a3, a4, a5, a6⟩ : Join) :: l, by rw [List.map_cons, ← hx, ← hl], fun y hy => by
          rcases List.mem_cons.1 hy with rfl | hy
          · exact hxR
          · exact hR y hy⟩
    obtain ⟨l, rfl, hR⟩ := key els h4
    refine .inl ⟨false, l, h2, by simp, ?_, hR⟩
    simp only [List.length_map, maxLen] at h3
    omega

theorem sh_factors {f : Nat} {ds : List D} (h : Sh cfg (f + 4) 27 ds) : (∃ (nl : Bool) (l : List F4), ds = [.sl nl (l.map encF) 4 none] ∧ (nl = true → l = []) ∧ l.length ≤ 9223372036854775807 ∧ (∀ x ∈ l, F4.R x)) ∨ ds = [.sl true [] 0 none] := by
  rw [Sh, cfg_ty, cty27] at h
  simp only [ty27] at h
  rcases h with h | ⟨els, te, h1, h2, h3, h4⟩
  · exact .inr h
  · have : te = ty35 := by exact (Option.some.inj (cty35.symm.trans h1)).symm
    subst this
    have key : ∀ els : List D, (∀ d ∈ els, Sh cfg (f + 3) 35 d.cells ∧ (ty35.isAgg = true → d = .agg d.cells) ∧ (ty35.isAgg = false → d.cells = [d])) → ∃ l : List F4, els = l.map encF ∧ ∀ x ∈ l, F4.R x := by
      intro els
      induction els with
      | nil => intro _; exact ⟨[], rfl, fun x hx => by cases hx⟩
      | cons d els ih =>
        intro hd
        obtain ⟨l, hl, hR⟩ := ih fun d' h' => hd d' (List.mem_cons_of_mem _ h')
        obtain ⟨q1, q2, _⟩ := hd d (by simp)
        have q2 := q2 rfl
        obtain ⟨a0, a1, a2, a3, e, hb⟩ := sh_pair q1
        have hx : d = encF (⟨a0, a1, a2, a3⟩ : F4) := by rw [q2, e]; rfl
        have hxR : F4.R (⟨a0, a1, a2, a3⟩ : F4) := hb
        exact ⟨(⟨a0, a1, a2, a3⟩ : F4) :: l, by rw [List.map_cons, ← hx, ← hl], fun y hy => by
          rcases List.mem_cons.1 hy with rfl | hy
          · exact hxR
          · exact hR y hy⟩
    obtain ⟨l, rfl, hR⟩ := key els h4
    refine .inl ⟨false, l, h2, by simp, ?_, hR⟩
    simp only [List.length_map, maxLen] at h3
    omega

theorem sh_reasons {f : Nat} {ds : List D} (h : Sh cfg (f + 4) 70 ds) : (∃ (nl : Bool) (l : List Reason), ds = [.sl nl (l.map encW) 3 none] ∧ (nl = true → l = []) ∧ l.length ≤ 9223372036854775807 ∧ (∀ x ∈ l, Reason.R x)) ∨ ds = [.sl true [] 0 none] := by
  rw [Sh, cfg_ty, cty70] at h
  simp only [ty70] at h
  rcases h with h | ⟨els, te, h1, h2, h3, h4⟩
  · exact .inr h
  · have : te = ty81 := by exact (Option.some.inj (cty81.symm.trans h1)).symm
    subst this
    have key : ∀ els : List D, (∀ d ∈ els, Sh cfg (f + 3) 81 d.cells ∧ (ty81.isAgg = true → d = .agg d.cells) ∧ (ty81.isAgg = false → d.cells = [d])) → ∃ l : List Reason, els = l.map encW ∧ ∀ x ∈ l, Reason.R x := by
      intro els
      induction els with
      | nil => intro _; exact ⟨[], rfl, fun x hx => by cases hx⟩
      | cons d els ih =>
        intro hd
        obtain ⟨l, hl, hR⟩ := ih fun d' h' => hd d' (List.mem_cons_of_mem _ h')
        obtain ⟨q1, q2, _⟩ := hd d (by simp)
        have q2 := q2 rfl
        obtain ⟨a0, a1, a2, e, hb⟩ := sh_reason q1
        have hx : d = encW (⟨a0, a1, a2⟩ : Reason) := by rw [q2, e]; rfl
        have hxR : Reason.R (⟨a0, a1, a2⟩ : Reason) := hb
        exact ⟨(⟨a0, a1, a2⟩ : Reason) :: l, by rw [List.map_cons, ← hx, ← hl], fun y hy => by
          rcases List.mem_cons.1 hy with rfl | hy
          · exact hxR
          · exact hR y hy⟩
    obtain ⟨l, rfl, hR⟩ := key els h4
    refine .inl ⟨false, l, h2, by simp, ?_, hR⟩
    simp only [List.length_map, maxLen] at h3
    omega

set_option maxRecDepth 100000
/-- A nil slice of whatever size of element is the same value. -/
theorem rep_nil {M : Mem} {m : Loc} {sz : Nat} {v : Value} (h : Rep M m (.sl true [] 0 none) v) : Rep M m (.sl true [] sz none) v := by
  simp only [Rep] at h ⊢
  exact ⟨h.1, by simp⟩
theorem rep_zs {α : Type} {M : Mem} {m : Loc} {nl : Bool} {l : List α} {g : α → D} {k : Nat} {v : Value} (hn : nl = true → l = []) (h : Rep M m (.sl nl (l.map g) k none) v) : Rep M m (.sl nl (l.map g) (zs nl k) none) v := by
  cases nl with
  | false => exact h
  | true => rw [hn rfl] at h ⊢; exact rep_nil (by simp only [Rep] at h ⊢; exact ⟨fun _ => ⟨by simp, (h.1 trivial).2⟩, by simp⟩)
theorem repL_one {M : Mem} {m : Loc} {d : D} {cs : List Value} (h : zu M m [d] cs) : ∃ v, cs = [v] ∧ Rep M m d v := by
  simp only [zu] at h
  obtain ⟨v, r, h1, h2, rfl⟩ := h
  exact ⟨v, h1, h2⟩
section
variable {H : Type} {enc : TypeId × Value → H} {w : World} {base base' : Nat} {sp : Nat → Bool} {held : Bool} {v : Value} {d : DataW H} {p : List MemPlace} {r : Reach}
theorem one_cell {x u : Value} (h : x.cells.toList = [u]) (hp : ∀ cs, x ≠ .agg cs) : x = u := by
  cases x <;> simp [Value.cells] at h <;> first | exact h | exact absurd rfl (hp _)
theorem ok_notAgg {t : TypeId} (hv : Value.okWide Tryd.prog w r base' t v) (hs : ∀ fs, Tryd.prog.underlying t ≠ some (.struct fs)) (ha : ∀ n e, Tryd.prog.underlying t ≠ some (.array n e)) : ∀ cs, v ≠ .agg cs := by
  rintro cs rfl
  unfold Value.okWide at hv
  split at hv
  · rename_i h; exact hs _ h
  · rename_i h; exact ha _ _ h
  · unfold Cell.okWide at hv
    split at hv <;> try (rename_i h1 h2; cases h2; done)
    unfold Cell.ok at hv
    split at hv <;> first | (rename_i h1 h2; cases h2; done) | cases hv
theorem arg_int (h : DataW.Trod enc Tryd.prog w base sp held 3 v d p) (hv : Value.okWide Tryd.prog w r base' 3 v) : ∃ n, v = .int .i64 n ∧ R64 n := by
  obtain ⟨ds, h1, h2⟩ := arg_rep h hv (by kernel_rfl) (by kernel_rfl)
  obtain ⟨n, rfl, hn⟩ := sh_int h2
  obtain ⟨u, e, hu⟩ := repL_one h1
  simp only [Rep] at hu; subst hu
  exact ⟨n, one_cell e (ok_notAgg hv (by rw [Tryd.underlying3]; simp) (by rw [Tryd.underlying3]; simp)), hn⟩
theorem arg_bool (h : DataW.Trod enc Tryd.prog w base sp held 4 v d p) (hv : Value.okWide Tryd.prog w r base' 4 v) : ∃ b, v = .bool b := by
  obtain ⟨ds, h1, h2⟩ := arg_rep h hv (by kernel_rfl) (by kernel_rfl)
  obtain ⟨n, rfl⟩ := sh_bool h2
  obtain ⟨u, e, hu⟩ := repL_one h1
  simp only [Rep] at hu; subst hu
  exact ⟨n, one_cell e (ok_notAgg hv (by rw [Tryd.underlying4]; simp) (by rw [Tryd.underlying4]; simp))⟩
theorem agg_of {t : TypeId} (hv : Value.okWide Tryd.prog w r base' t v) (hs : (∃ fs, Tryd.prog.underlying t = some (.struct fs)) ∨ (∃ n e, Tryd.prog.underlying t = some (.array n e))) : ∃ cs, v = .agg cs := by
  unfold Value.okWide at hv
  rcases hs with ⟨fs, hs⟩ | ⟨n, e, hs⟩ <;> rw [hs] at hv <;> simp only [] at hv <;> obtain ⟨cs, rfl, _⟩ := hv <;> exact ⟨cs, rfl⟩
theorem arg_paper (h : DataW.Trod enc Tryd.prog w base sp held 25 v d p) (hv : Value.okWide Tryd.prog w r base' 25 v) : ∃ q : Paper, Rep (memOf w) noLoc (zF q) v ∧ q.wf ∧ q.R := by
  obtain ⟨ds, h1, h2⟩ := arg_rep h hv (by kernel_rfl) (by kernel_rfl)
  obtain ⟨cs, rfl⟩ := agg_of hv (.inl ⟨_, Tryd.underlying25⟩)
  rw [Sh, cfg_ty, cty25] at h2
  simp only [ty25] at h2
  obtain ⟨hl, hf⟩ := h2
  obtain ⟨n, hn, hR⟩ := field_int (k := 0) hf (by simp)
  obtain ⟨t1, e1, s1⟩ := hf (22, 1) (by simp)
  obtain ⟨t2, e2, s2⟩ := hf (23, 2) (by simp)
  have : t1 = ty22 := by exact (Option.some.inj (cty22.symm.trans e1)).symm
  subst this
  have : t2 = ty23 := by exact (Option.some.inj (cty23.symm.trans e2)).symm
  subst this
  rcases ds with _ | ⟨x0, _ | ⟨x1, _ | ⟨x2, _ | ⟨y, rr⟩⟩⟩⟩
  all_goals simp at hl
  simp at hn
  subst hn
  simp [ty22] at s1
  simp [ty23] at s2
  simp only [Value.cells, zu] at h1
  obtain ⟨v0, r0, hc0, q0, v1, r1, rfl, q1, v2, r2, rfl, q2, rfl⟩ := h1
  have m1 : ∃ (nl : Bool) (l : List Mark), Rep (memOf w) noLoc (.sl nl (l.map encM) (zs nl 5) none) v1 ∧ (nl = true → l = []) ∧ l.length ≤ 9223372036854775807 ∧ ∀ x ∈ l, x.R := by
    rcases sh_marks s1 with ⟨nl, l, e, a, b, c⟩ | e <;> simp at e <;> subst e
    · exact ⟨nl, l, rep_zs a q1, a, b, c⟩
    · exact ⟨true, [], rep_zs (by simp) (rep_nil q1), by simp, by simp, fun x hx => by cases hx⟩
  have m2 : ∃ (nl : Bool) (l : List Join), Rep (memOf w) noLoc (.sl nl (l.map encJ) (zs nl 7) none) v2 ∧ (nl = true → l = []) ∧ l.length ≤ 9223372036854775807 ∧ ∀ x ∈ l, x.R := by
    rcases sh_joins s2 with ⟨nl, l, e, a, b, c⟩ | e <;> simp at e <;> subst e
    · exact ⟨nl, l, rep_zs a q2, a, b, c⟩
    · exact ⟨true, [], rep_zs (by simp) (rep_nil q2), by simp, by simp, fun x hx => by cases hx⟩
  obtain ⟨nm, lm, a1, a2, a3, a4⟩ := m1
  obtain ⟨nj, lj, b1, b2, b3, b4⟩ := m2
  refine ⟨⟨n, nm, lm, nj, lj⟩, ?_, ⟨a2, b2, a3, b3⟩, hR, a4, b4⟩
  simp only [Rep, zF] at *
  exact ⟨cs, rfl, by rw [hc0]; simp only [zu]; exact ⟨_, _, rfl, by simpa [Rep] using q0, _, _, rfl, by simpa only [Rep] using a1, _, _, rfl, by simpa only [Rep] using b1, rfl⟩⟩
theorem arg_factors (h : DataW.Trod enc Tryd.prog w base sp held 27 v d p) (hv : Value.okWide Tryd.prog w r base' 27 v) : ∃ (nl : Bool) (l : List F4), Rep (memOf w) noLoc (.sl nl (l.map encF) 4 none) v ∧ (nl = true → l = []) ∧ l.length ≤ 9223372036854775807 ∧ ∀ x ∈ l, x.R := by
  obtain ⟨ds, h1, h2⟩ := arg_rep h hv (by kernel_rfl) (by kernel_rfl)
  have hna := ok_notAgg hv (by rw [Tryd.underlying27]; simp) (by rw [Tryd.underlying27]; simp)
  rcases sh_factors h2 with ⟨nl, l, e, a, b, c⟩ | e
  · subst e
    obtain ⟨u, e, hu⟩ := repL_one h1
    rw [one_cell e hna]; exact ⟨nl, l, hu, a, b, c⟩
  · subst e
    obtain ⟨u, e, hu⟩ := repL_one h1
    rw [one_cell e hna]; exact ⟨true, [], rep_nil hu, by simp, by simp, fun x hx => by cases hx⟩
theorem arg_reasons (h : DataW.Trod enc Tryd.prog w base sp held 70 v d p) (hv : Value.okWide Tryd.prog w r base' 70 v) : ∃ (nl : Bool) (l : List Reason), Rep (memOf w) noLoc (.sl nl (l.map encW) 3 none) v ∧ (nl = true → l = []) ∧ l.length ≤ 9223372036854775807 ∧ ∀ x ∈ l, x.R := by
  obtain ⟨ds, h1, h2⟩ := arg_rep h hv (by kernel_rfl) (by kernel_rfl)
  have hna := ok_notAgg hv (by rw [Tryd.underlying70]; simp) (by rw [Tryd.underlying70]; simp)
  rcases sh_reasons h2 with ⟨nl, l, e, a, b, c⟩ | e
  · subst e
    obtain ⟨u, e, hu⟩ := repL_one h1
    rw [one_cell e hna]; exact ⟨nl, l, hu, a, b, c⟩
  · subst e
    obtain ⟨u, e, hu⟩ := repL_one h1
    rw [one_cell e hna]; exact ⟨true, [], rep_nil hu, by simp, by simp, fun x hx => by cases hx⟩
theorem arg_ratio (h : DataW.Trod enc Tryd.prog w base sp held 34 v d p) (hv : Value.okWide Tryd.prog w r base' 34 v) : ∃ q : Ratio, Rep (memOf w) noLoc (encR q) v ∧ R64 q.n ∧ R64 q.d := by
  obtain ⟨ds, h1, h2⟩ := arg_rep h hv (by kernel_rfl) (by kernel_rfl)
  obtain ⟨cs, rfl⟩ := agg_of hv (.inl ⟨_, Tryd.underlying34⟩)
  obtain ⟨a, b, rfl, ha, hb⟩ := sh_ratio h2
  exact ⟨⟨a, b⟩, by simp only [Rep, encR]; exact ⟨cs, rfl, by simpa [Value.cells] using h1⟩, ha, hb⟩
theorem arg_reason (h : DataW.Trod enc Tryd.prog w base sp held 81 v d p) (hv : Value.okWide Tryd.prog w r base' 81 v) : ∃ q : Reason, Rep (memOf w) noLoc (encW q) v ∧ q.R := by
  obtain ⟨ds, h1, h2⟩ := arg_rep h hv (by kernel_rfl) (by kernel_rfl)
  obtain ⟨cs, rfl⟩ := agg_of hv (.inl ⟨_, Tryd.underlying81⟩)
  obtain ⟨a, b, c, rfl, hb⟩ := sh_reason h2
  exact ⟨⟨a, b, c⟩, by simp only [Rep, encW]; exact ⟨cs, rfl, by simpa [Value.cells] using h1⟩, hb⟩
theorem arg_mark (h : DataW.Trod enc Tryd.prog w base sp held 37 v d p) (hv : Value.okWide Tryd.prog w r base' 37 v) : ∃ q : Mark, Rep (memOf w) noLoc (encM q) v ∧ q.R := by
  obtain ⟨ds, h1, h2⟩ := arg_rep h hv (by kernel_rfl) (by kernel_rfl)
  obtain ⟨cs, rfl⟩ := agg_of hv (.inl ⟨_, Tryd.underlying37⟩)
  obtain ⟨a, b, c, d, e, rfl, hb⟩ := sh_mark h2
  exact ⟨⟨a, b, c, d, e⟩, by simp only [Rep, encM]; exact ⟨cs, rfl, by simpa [Value.cells] using h1⟩, hb⟩
theorem arg_join (h : DataW.Trod enc Tryd.prog w base sp held 39 v d p) (hv : Value.okWide Tryd.prog w r base' 39 v) : ∃ q : Join, Rep (memOf w) noLoc (encJ q) v ∧ q.R := by
  obtain ⟨ds, h1, h2⟩ := arg_rep h hv (by kernel_rfl) (by kernel_rfl)
  obtain ⟨cs, rfl⟩ := agg_of hv (.inl ⟨_, Tryd.underlying39⟩)
  obtain ⟨a, b, c, d, e, f, g, rfl, hb⟩ := sh_join h2
  exact ⟨⟨a, b, c, d, e, f, g⟩, by simp only [Rep, encJ]; exact ⟨cs, rfl, by simpa [Value.cells] using h1⟩, hb⟩
end
end Go.VS
