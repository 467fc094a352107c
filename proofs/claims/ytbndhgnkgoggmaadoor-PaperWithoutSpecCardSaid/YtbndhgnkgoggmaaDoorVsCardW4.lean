/- Nothing of a statement is proved in this text alone: it is part 4 of the proof's own tools, an evaluator of the code over deep values, its soundness, and what it makes of this seat's functions. Conditions: none beyond the statement's own. -/
import Derived.Test.YtbndhgnkgoggmaaDoorVsCardW3
set_option linter.unusedSimpArgs false
set_option linter.unusedVariables false
/-
  What the chains of a paper are: the least quotients of walks. (A text of this claim's own; nothing of it is trusted.)
-/
namespace Go.VS
open Go Go.VS.Walks
def vR (r : Ratio) : Rat := vq r.n r.d
def tE (e : Edge) : T := ⟨e.src.toNat, e.dst.toNat, vR e.q⟩
def inE (es : List Edge) (t : T) : Prop := ∃ e, e ∈ es ∧ tE e = t
def prE (w : List Edge) : Rat := pr (w.map tE)
/-- A walk along zE. -/
def Wk (es : List Edge) (a : Nat) (w : List Edge) (b : Nat) : Prop := Ch (inE es) a (w.map tE) b ∧ ∀ e ∈ w, e ∈ es
theorem wk_nil (es : List Edge) (a : Nat) : Wk es a [] a := ⟨rfl, fun _ h => by cases h⟩
theorem wk_append {es w v : List Edge} {a b c : Nat} (h1 : Wk es a w b) (h2 : Wk es b v c) : Wk es a (w ++ v) c := by
  refine ⟨by rw [List.map_append]; exact ch_append.2 ⟨b, h1.1, h2.1⟩, fun e he => ?_⟩
  rcases List.mem_append.1 he with he | he
  · exact h1.2 e he
  · exact h2.2 e he
theorem wk_one {es : List Edge} {e : Edge} (he : e ∈ es) : Wk es e.src.toNat [e] e.dst.toNat :=
  ⟨⟨⟨e, he, rfl⟩, rfl, rfl⟩, fun e' h => by rcases List.mem_singleton.1 h with rfl; exact he⟩
theorem wk_snoc {es w : List Edge} {a : Nat} {e : Edge} (h1 : Wk es a w e.src.toNat) (he : e ∈ es) : Wk es a (w ++ [e]) e.dst.toNat := wk_append h1 (wk_one he)
theorem wk_unsnoc {es w : List Edge} {a b : Nat} {e : Edge} (h : Wk es a (w ++ [e]) b) : Wk es a w e.src.toNat ∧ e ∈ es ∧ e.dst.toNat = b := by
  have hm := h.2 e (by simp)
  have h1 := h.1
  rw [List.map_append] at h1
  obtain ⟨c, h2, h3⟩ := ch_append.1 h1
  refine ⟨⟨?_, fun e' he => h.2 e' (by simp [he])⟩, hm, h3.2.2⟩
  rw [show e.src.toNat = c from h3.2.1]
  exact h2
theorem prE_append (w v : List Edge) : prE (w ++ v) = prE w * prE v := by unfold prE; rw [List.map_append, pr_append]
theorem prE_snoc (w : List Edge) (e : Edge) : prE (w ++ [e]) = prE w * vR e.q := by
  rw [prE_append]
  show _ * (vR e.q * 1) = _
  rw [Rat.mul_one]
theorem prE_nil : prE [] = 1 := rfl
/-- A ratio of positive numbers in its lowest terms. -/
def redR (r : Ratio) : Prop := 1 ≤ r.n ∧ 1 ≤ r.d ∧ Int.gcd r.d r.n = 1
theorem red_pos {r : Ratio} (h : redR r) : 0 < vR r := vq_pos (by have := h.1; omega) (by have := h.2.1; omega)
theorem red_eq {a b : Ratio} (ha : redR a) (hb : redR b) (h : vR a = vR b) : a = b := by
  obtain ⟨e1, e2⟩ := vq_eq (by have := ha.2.1; omega) (by have := hb.2.1; omega) ha.2.2 hb.2.2 h
  cases a; cases b; simp only at e1 e2; rw [e1, e2]
theorem ltR_iff {a b : Ratio} (ha : 1 ≤ a.d) (hb : 1 ≤ b.d) : ltR a b = true ↔ vR a < vR b := by
  unfold ltR vR
  rw [vq_lt (by omega) (by omega), decide_eq_true_eq]
theorem low_red {n d : Int} (hn : 1 ≤ n) (hd : 1 ≤ d) : redR (lowR n d) ∧ vR (lowR n d) = vq n d := by
  obtain ⟨a, rfl⟩ := Int.eq_ofNat_of_zero_le (show 0 ≤ n by omega)
  obtain ⟨b, rfl⟩ := Int.eq_ofNat_of_zero_le (show 0 ≤ d by omega)
  have hg : 0 < a.gcd b := Nat.gcd_pos_of_pos_left b (by omega)
  have e1 : (a : Int) / gcdI a b = ((a / a.gcd b : Nat) : Int) := by simp [gcdI]
  have e2 : (b : Int) / gcdI a b = ((b / a.gcd b : Nat) : Int) := by simp [gcdI]
  have p1 : 0 < a / a.gcd b := Nat.div_pos (Nat.le_of_dvd (by omega) (Nat.gcd_dvd_left a b)) hg
  have p2 : 0 < b / a.gcd b := Nat.div_pos (Nat.le_of_dvd (by omega) (Nat.gcd_dvd_right a b)) hg
  refine ⟨⟨?_, ?_, ?_⟩, ?_⟩
  · show 1 ≤ (a : Int) / gcdI a b
    rw [e1]; omega
  · show 1 ≤ (b : Int) / gcdI a b
    rw [e2]; omega
  · show Int.gcd ((b : Int) / gcdI a b) ((a : Int) / gcdI a b) = 1
    rw [e1, e2, Int.gcd_natCast_natCast, Nat.gcd_comm]
    exact Nat.coprime_div_gcd_div_gcd hg
  · unfold vR lowR
    refine vq_low (by simp only [gcdI, Int.toNat_natCast]; omega) ?_ ?_
    · simp only [gcdI, Int.toNat_natCast]; exact Int.natCast_dvd_natCast.2 (Nat.gcd_dvd_left a b)
    · simp only [gcdI, Int.toNat_natCast]; exact Int.natCast_dvd_natCast.2 (Nat.gcd_dvd_right a b)
/-- A chain is what a walk comes to. -/
def RealC (es : List Edge) (src n b : Nat) (c : Chn) : Prop := ∃ w, w.length = n ∧ Wk es src w b ∧ vR c.q = prE w ∧ c.why = w.map Edge.why ∧ redR c.q
theorem real_with {es : List Edge} {src n : Nat} {c : Chn} {e : Edge} (hb : edgeB e) (he : e ∈ es) (h : RealC es src n e.src.toNat c) : RealC es src (n + 1) e.dst.toNat (withC c e) ∧ vR (withC c e).q = vR c.q * vR e.q := by
  obtain ⟨w, h1, h2, h3, h4, h5⟩ := h
  have hn : 1 ≤ c.q.n * e.q.n := by have := Int.mul_le_mul h5.1 hb.2.2.2.2.1 (by omega) (by have := h5.1; omega); omega
  have hd : 1 ≤ c.q.d * e.q.d := by have := Int.mul_le_mul h5.2.1 hb.2.2.2.2.2.2.1 (by omega) (by have := h5.2.1; omega); omega
  obtain ⟨l1, l2⟩ := low_red hn hd
  have hv : vR (withC c e).q = vR c.q * vR e.q := by
    unfold vR withC
    simp only
    rw [show vq (lowR (c.q.n * e.q.n) (c.q.d * e.q.d)).n (lowR (c.q.n * e.q.n) (c.q.d * e.q.d)).d = vR (lowR (c.q.n * e.q.n) (c.q.d * e.q.d)) from rfl, l2, vq_mul]
  refine ⟨⟨w ++ [e], by simp [h1], wk_snoc h2 he, by rw [hv, prE_snoc, h3], by simp [withC, h4], l1⟩, hv⟩
def redN (net : Net) : Prop := ∀ (j : Nat) (c : Chn), net[j]? = some (some c) → redR c.q
theorem put_self {next : Net} {j : Nat} {c : Chn} (hj : j < next.length) (hr : redN next) (hc : redR c.q) :
    ∃ c', (putE next j c)[j]? = some (some c') ∧ vR c'.q ≤ vR c.q ∧ (c' = c ∨ next[j]? = some (some c')) ∧ ∀ b, next[j]? = some (some b) → vR c'.q ≤ vR b.q := by
  unfold putE
  split
  · rename_i b hb
    have hbr := hr j b hb
    split
    · rename_i hlt
      have := (ltR_iff hc.2.1 hbr.2.1).1 hlt
      refine ⟨c, by rw [List.getElem?_set]; simp [hj], Rat.le_refl, .inl rfl, fun b' hb' => ?_⟩
      rw [hb] at hb'; cases hb'
      exact Rat.le_of_lt this
    · rename_i hlt
      refine ⟨b, hb, ?_, .inr hb, fun b' hb' => by rw [hb] at hb'; cases hb'; exact Rat.le_refl⟩
      rw [← Rat.not_lt]
      exact fun h => hlt ((ltR_iff hc.2.1 hbr.2.1).2 h)
  · rename_i hno
    exact ⟨c, by rw [List.getElem?_set]; simp [hj], Rat.le_refl, .inl rfl, fun b hb => absurd hb (fun h => hno b h)⟩
theorem put_other {next : Net} {i j : Nat} {c : Chn} (h : i ≠ j) : (putE next j c)[i]? = next[i]? := by
  unfold putE
  split
  · split
    · rw [List.getElem?_set_ne (Ne.symm h)]
    · rfl
  · rw [List.getElem?_set_ne (Ne.symm h)]
theorem put_len {next : Net} {j : Nat} {c : Chn} : (putE next j c).length = next.length := by
  unfold putE; split <;> (try split) <;> simp
theorem put_red {next : Net} {j : Nat} {c : Chn} (hr : redN next) (hc : redR c.q) : redN (putE next j c) := by
  intro i c' hi
  by_cases h : i = j
  · subst h
    by_cases hl : i < next.length
    · obtain ⟨d, h1, _, h3, _⟩ := put_self hl hr hc
      rw [h1] at hi; cases hi
      rcases h3 with rfl | h3
      · exact hc
      · exact hr _ _ h3
    · have : (putE next i c).length ≤ i := by rw [put_len]; omega
      rw [List.getElem?_eq_none this] at hi; cases hi
  · rw [put_other h] at hi; exact hr _ _ hi
/-- All that a net says of walks of n zE. -/
def Exact (es : List Edge) (src n : Nat) (net : Net) : Prop := net.length = 5 ∧ (∀ b c, net[b]? = some (some c) → RealC es src n b c) ∧ ∀ b w, w.length = n → Wk es src w b → ∃ c, net[b]? = some (some c) ∧ vR c.q ≤ prE w
def Half (es : List Edge) (src n : Nat) (now : Net) (done : List Edge) (next : Net) : Prop :=
  next.length = 5 ∧ (∀ b c, next[b]? = some (some c) → RealC es src (n + 1) b c) ∧ ∀ e ∈ done, ∀ c', now[e.src.toNat]? = some (some c') → ∃ c, next[e.dst.toNat]? = some (some c) ∧ vR c.q ≤ vR c'.q * vR e.q
theorem real_red {es : List Edge} {src n b : Nat} {c : Chn} (h : RealC es src n b c) : redR c.q := h.choose_spec.2.2.2.2
theorem half_step {es : List Edge} {src n : Nat} {now next : Net} {done : List Edge} {e : Edge} (hnow : Exact es src n now) (hb : edgeB e) (he : e ∈ es) (h : Half es src n now done next) : Half es src n now (done ++ [e]) (stepE now next e) := by
  obtain ⟨h1, h2, h3⟩ := h
  have hr : redN next := fun j c hj => real_red (h2 j c hj)
  have hdst : e.dst.toNat < next.length := by have := hb.2.2.1; have := hb.2.2.2.1; omega
  unfold stepE
  split
  · rename_i c0 hc0
    obtain ⟨r1, r2⟩ := real_with hb he (hnow.2.1 _ _ hc0)
    obtain ⟨c', s1, s2, s3, s4⟩ := put_self hdst hr (real_red r1)
    refine ⟨by rw [put_len]; exact h1, fun b c hbc => ?_, fun e' he' c1 hc1 => ?_⟩
    · by_cases hbe : b = e.dst.toNat
      · subst hbe
        rw [s1] at hbc; cases hbc
        rcases s3 with rfl | s3
        · exact r1
        · exact h2 _ _ s3
      · rw [put_other hbe] at hbc; exact h2 _ _ hbc
    · rcases List.mem_append.1 he' with he' | he'
      · obtain ⟨c2, k1, k2⟩ := h3 e' he' c1 hc1
        by_cases hbe : e'.dst.toNat = e.dst.toNat
        · rw [hbe] at k1 ⊢
          exact ⟨c', s1, Rat.le_trans (s4 c2 k1) k2⟩
        · exact ⟨c2, by rw [put_other hbe]; exact k1, k2⟩
      · rcases List.mem_singleton.1 he' with rfl
        rw [hc0] at hc1; cases hc1
        exact ⟨c', s1, by rw [← r2]; exact s2⟩
  · rename_i hno
    refine ⟨h1, h2, fun e' he' c1 hc1 => ?_⟩
    rcases List.mem_append.1 he' with he' | he'
    · exact h3 e' he' c1 hc1
    · rcases List.mem_singleton.1 he' with rfl
      exact absurd hc1 (hno c1)
theorem half_fold {es : List Edge} {src n : Nat} {now : Net} (hnow : Exact es src n now) : ∀ (l done : List Edge) (next : Net), (∀ e ∈ l, edgeB e ∧ e ∈ es) → Half es src n now done next → Half es src n now (done ++ l) (l.foldl (stepE now) next)
  | [], done, next, _, h => by rw [List.append_nil]; exact h
  | e :: l, done, next, hl, h => by
    have := half_fold hnow l (done ++ [e]) (stepE now next e) (fun e' he' => hl e' (List.mem_cons_of_mem _ he')) (half_step hnow (hl e (by simp)).1 (hl e (by simp)).2 h)
    rw [List.append_assoc] at this
    exact this
theorem edge_pos {e : Edge} (h : edgeB e) : 0 < vR e.q := vq_pos (by have := h.2.2.2.2.1; omega) (by have := h.2.2.2.2.2.2.1; omega)
theorem snoc_of {w : List Edge} {n : Nat} (h : w.length = n + 1) : ∃ v e, w = v ++ [e] ∧ v.length = n := by
  have hne : w ≠ [] := by intro h'; rw [h'] at h; simp at h
  refine ⟨w.dropLast, w.getLast hne, (List.dropLast_concat_getLast hne).symm, ?_⟩
  rw [List.length_dropLast]; omega
theorem exact_step {es : List Edge} {src n : Nat} {now : Net} (hes : ∀ e ∈ es, edgeB e) (hnow : Exact es src n now) : Exact es src (n + 1) (es.foldl (stepE now) zT) := by
  have h0 : Half es src n now [] zT := ⟨rfl, fun b c h => by
    have hm := List.mem_of_getElem? h
    simp [zT] at hm, fun e he => by cases he⟩
  obtain ⟨h1, h2, h3⟩ := half_fold hnow es [] zT (fun e he => ⟨hes e he, he⟩) h0
  rw [List.nil_append] at h3
  refine ⟨h1, h2, fun b w hw hk => ?_⟩
  obtain ⟨v, e, rfl, hv⟩ := snoc_of hw
  obtain ⟨k1, k2, rfl⟩ := wk_unsnoc hk
  obtain ⟨c', g1, g2⟩ := hnow.2.2 _ v hv k1
  obtain ⟨c, f1, f2⟩ := h3 e k2 c' g1
  refine ⟨c, f1, Rat.le_trans f2 ?_⟩
  rw [prE_snoc]
  exact Rat.mul_le_mul_of_nonneg_right g2 (Rat.le_of_lt (edge_pos (hes e k2)))
theorem merge_spec : ∀ (l : List (Option Chn)) (i : Nat) (out : Net), i + l.length ≤ out.length → redN out → (∀ c, some c ∈ l → redR c.q) →
    (mergeL l i out).length = out.length ∧ redN (mergeL l i out) ∧ ∀ b,
      (∀ c, (mergeL l i out)[b]? = some (some c) → out[b]? = some (some c) ∨ (i ≤ b ∧ l[b - i]? = some (some c))) ∧
      (∀ c, out[b]? = some (some c) → ∃ c', (mergeL l i out)[b]? = some (some c') ∧ vR c'.q ≤ vR c.q) ∧
      (∀ c, i ≤ b → l[b - i]? = some (some c) → ∃ c', (mergeL l i out)[b]? = some (some c') ∧ vR c'.q ≤ vR c.q)
  | [], i, out, _, hr, _ => ⟨rfl, hr, fun b => ⟨fun c h => .inl h, fun c h => ⟨c, h, Rat.le_refl⟩, fun c _ h => by cases h⟩⟩
  | none :: r, i, out, hl, hr, hc => by
    obtain ⟨m1, m2, m3⟩ := merge_spec r (i + 1) out (by simp at hl; omega) hr (fun c h => hc c (List.mem_cons_of_mem _ h))
    refine ⟨m1, m2, fun b => ⟨fun c h => ?_, (m3 b).2.1, fun c hib h => ?_⟩⟩
    · rcases (m3 b).1 c h with h | ⟨h, h'⟩
      · exact .inl h
      · refine .inr ⟨by omega, ?_⟩
        rw [show b - i = (b - (i + 1)) + 1 by omega, List.getElem?_cons_succ]; exact h'
    · by_cases hb : b = i
      · subst hb; rw [Nat.sub_self, List.getElem?_cons_zero] at h; cases h
      · refine (m3 b).2.2 c (by omega) ?_
        rw [show b - i = (b - (i + 1)) + 1 by omega, List.getElem?_cons_succ] at h; exact h
  | some c0 :: r, i, out, hl, hr, hc => by
    have hc0 := hc c0 (by simp)
    have hi : i < out.length := by simp at hl; omega
    obtain ⟨m1, m2, m3⟩ := merge_spec r (i + 1) (putE out i c0) (by rw [put_len]; simp at hl; omega) (put_red hr hc0) (fun c h => hc c (List.mem_cons_of_mem _ h))
    obtain ⟨d, s1, s2, s3, s4⟩ := put_self hi hr hc0
    refine ⟨by rw [← put_len (next := out) (j := i) (c := c0)]; exact m1, m2, fun b => ⟨fun c h => ?_, fun c h => ?_, fun c hib h => ?_⟩⟩
    · rcases (m3 b).1 c h with h | ⟨h, h'⟩
      · by_cases hb : b = i
        · subst hb
          rw [s1] at h; cases h
          rcases s3 with rfl | s3
          · exact .inr ⟨Nat.le_refl _, by rw [Nat.sub_self]; rfl⟩
          · exact .inl s3
        · rw [put_other hb] at h; exact .inl h
      · refine .inr ⟨by omega, ?_⟩
        rw [show b - i = (b - (i + 1)) + 1 by omega, List.getElem?_cons_succ]; exact h'
    · by_cases hb : b = i
      · subst hb
        obtain ⟨c', k1, k2⟩ := (m3 b).2.1 d s1
        exact ⟨c', k1, Rat.le_trans k2 (s4 c h)⟩
      · exact (m3 b).2.1 c (by rw [put_other hb]; exact h)
    · by_cases hb : b = i
      · subst hb
        rw [Nat.sub_self, List.getElem?_cons_zero] at h; cases h
        obtain ⟨c', k1, k2⟩ := (m3 b).2.1 d s1
        exact ⟨c', k1, Rat.le_trans k2 s2⟩
      · refine (m3 b).2.2 c (by omega) ?_
        rw [show b - i = (b - (i + 1)) + 1 by omega, List.getElem?_cons_succ] at h; exact h
/-- All that a net says of walks of at most n zE. -/
def Upto (es : List Edge) (src n : Nat) (out : Net) : Prop := out.length = 5 ∧ (∀ b c, out[b]? = some (some c) → ∃ m, 1 ≤ m ∧ m ≤ n ∧ RealC es src m b c) ∧ ∀ b w, 1 ≤ w.length → w.length ≤ n → Wk es src w b → ∃ c, out[b]? = some (some c) ∧ vR c.q ≤ prE w
theorem rounds_spec {es : List Edge} {src : Nat} (hes : ∀ e ∈ es, edgeB e) : ∀ (j n : Nat) (now out : Net), Exact es src n now → Upto es src n out → Upto es src (n + j) (roundsN es j now out)
  | 0, _, _, _, _, h => h
  | j + 1, n, now, out, hnow, hout => by
    have hx := exact_step hes hnow
    have hro : redN out := fun b c h => by
      obtain ⟨m, _, _, h⟩ := hout.2.1 b c h
      exact real_red h
    have hrx : ∀ c, some c ∈ es.foldl (stepE now) zT → redR c.q := fun c h => by
      obtain ⟨b, hb⟩ := List.mem_iff_getElem?.1 h
      exact real_red (hx.2.1 b c hb)
    obtain ⟨m1, m2, m3⟩ := merge_spec (es.foldl (stepE now) zT) 0 out (by rw [hx.1, hout.1]; omega) hro hrx
    have hu : Upto es src (n + 1) (mergeL (es.foldl (stepE now) zT) 0 out) := by
      refine ⟨by rw [m1]; exact hout.1, fun b c h => ?_, fun b w h1 h2 hk => ?_⟩
      · rcases (m3 b).1 c h with h | ⟨_, h⟩
        · obtain ⟨m, k1, k2, k3⟩ := hout.2.1 b c h
          exact ⟨m, k1, by omega, k3⟩
        · exact ⟨n + 1, by omega, Nat.le_refl _, hx.2.1 b c h⟩
      · by_cases hw : w.length = n + 1
        · obtain ⟨c, k1, k2⟩ := hx.2.2 b w hw hk
          obtain ⟨c', g1, g2⟩ := (m3 b).2.2 c (Nat.zero_le _) k1
          exact ⟨c', g1, Rat.le_trans g2 k2⟩
        · obtain ⟨c, k1, k2⟩ := hout.2.2 b w h1 (by omega) hk
          obtain ⟨c', g1, g2⟩ := (m3 b).2.1 c k1
          exact ⟨c', g1, Rat.le_trans g2 k2⟩
    have := rounds_spec hes j (n + 1) _ _ hx hu
    rw [show n + (j + 1) = n + 1 + j by omega]
    exact this
theorem chains_spec {es : List Edge} {src : Nat} (hes : ∀ e ∈ es, edgeB e) (hs : src < 5) (most : Nat) : Upto es src most (zI es src most) := by
  have h0 : Exact es src 0 (zT.set src (some ⟨⟨1, 1⟩, []⟩)) := by
    refine ⟨by simp [zT], fun b c h => ?_, fun b w hw hk => ?_⟩
    · by_cases hb : b = src
      · subst hb
        rw [List.getElem?_set] at h
        simp only [if_true] at h
        split at h
        · cases h
          exact ⟨[], rfl, wk_nil _ _, vq_one, rfl, by decide, by decide, by decide⟩
        · cases h
      · rw [List.getElem?_set_ne (Ne.symm hb)] at h
        have hm := List.mem_of_getElem? h
        simp [zT] at hm
    · have : w = [] := List.length_eq_zero_iff.1 hw
      subst this
      have : src = b := hk.1
      subst this
      exact ⟨⟨⟨1, 1⟩, []⟩, by rw [List.getElem?_set]; simp [zT, hs], by show vq 1 1 ≤ 1; rw [vq_one]; exact Rat.le_refl⟩
  have h1 : Upto es src 0 zT := by
    refine ⟨rfl, fun b c h => ?_, fun b w h1 h2 => by omega⟩
    have hm := List.mem_of_getElem? h
    simp [zT] at hm
  have := rounds_spec hes most 0 _ _ h0 h1
  rw [Nat.zero_add] at this
  exact this
end Go.VS
/-
  What a paper allows: least quotients between any two nodes. (A text of this claim's own; nothing of it is trusted.)
-/
namespace Go.VS
open Go Go.VS.Walks
theorem edge_nodes {p : Paper} (hok : zu p = true) {ax : Int} {e : Edge} (he : e ∈ zE p ax) : edgeB e ∧ e.src ≤ p.sheets ∧ e.dst ≤ p.sheets := by
  obtain ⟨o1, o2, o3, o4, o5, o6⟩ := zA hok
  simp only [zE, List.mem_append, List.mem_flatMap, List.mem_range'_1] at he
  rcases he with (⟨i, hi, he⟩ | he) | he
  · simp [sheetE] at he
    unfold edgeB
    rcases he with rfl | rfl <;> simp only [] <;> omega
  · obtain ⟨m, k, h1, h2, h3⟩ := marksE_mem ax he
    refine ⟨edge_of_mark (o5 m h1) o2 k e h3, ?_⟩
    have := o5 m h1
    simp [markOK, zz, isAxis, isSeen] at this
    simp [markE] at h3
    rcases h3 with rfl | rfl <;> simp only [] <;> omega
  · obtain ⟨m, k, h1, h2, h3⟩ := joinsE_mem ax he
    refine ⟨edge_of_join (o6 m h1) o2 k e h3, ?_⟩
    have := o6 m h1
    simp [joinOK, zz, isAxis, isSeen] at this
    simp [joinE] at h3
    rcases h3 with rfl | rfl <;> simp only [] <;> omega
theorem inE_walk {es : List Edge} {l : List T} : ∀ {a b : Nat}, Ch (inE es) a l b → ∃ w, w.map tE = l ∧ Wk es a w b := by
  induction l with
  | nil => intro a b h; exact ⟨[], rfl, h, fun _ h => by cases h⟩
  | cons t l ih =>
    intro a b h
    obtain ⟨⟨e, he, rfl⟩, h2, h3⟩ := h
    obtain ⟨w, rfl, hw⟩ := ih h3
    exact ⟨e :: w, rfl, ⟨⟨e, he, rfl⟩, h2, hw.1⟩, fun e' h' => by
      rcases List.mem_cons.1 h' with rfl | h'
      · exact he
      · exact hw.2 e' h'⟩
theorem clash_none {es : List Edge} : ∀ {j i : Nat}, clashFrom es j i = none → ∀ k, i ≤ k → k < i + j → ∀ c, (zI es k 5)[k]? = some (some c) → ltR c.q one1 = false
  | 0, i, _, k, h1, h2, _, _ => by omega
  | j + 1, i, h, k, h1, h2, c, hc => by
    unfold clashFrom at h
    by_cases hk : k = i
    · subst hk
      rw [hc] at h
      simp only at h
      split at h
      · cases h
      · rename_i hx; simpa using hx
    · refine clash_none (j := j) (i := i + 1) ?_ k (by omega) (by omega) c hc
      split at h
      · split at h
        · cases h
        · exact h
      · exact h
theorem in_pos {p : Paper} (hok : zu p = true) {ax : Int} {t : T} (h : inE (zE p ax) t) : 0 < t.w ∧ t.src < 5 ∧ t.dst < 5 := by
  obtain ⟨e, he, rfl⟩ := h
  have hb := (edge_nodes hok he).1
  refine ⟨edge_pos hb, ?_, ?_⟩
  · show e.src.toNat < 5
    have := hb.1; have := hb.2.1; omega
  · show e.dst.toNat < 5
    have := hb.2.2.1; have := hb.2.2.2.1; omega
theorem one_vR : vR one1 = 1 := vq_one
theorem fair {p : Paper} (hok : zu p = true) {ax : Int} (hc : clashA p ax = none) : Walks.Fair (inE (zE p ax)) 5 := by
  obtain ⟨o1, o2, -⟩ := zA hok
  intro a l hl hlen
  obtain ⟨w, rfl, hw⟩ := inE_walk hl
  cases w with
  | nil => exact Rat.le_refl
  | cons e w =>
    have hin : e ∈ zE p ax := hw.2 e (by simp)
    have hsrc : e.src.toNat = a := hl.2.1
    obtain ⟨hb, hs, _⟩ := edge_nodes hok hin
    have h5 : a < 5 := by have := hb.1; have := hb.2.1; omega
    obtain ⟨c, c1, c2⟩ := (chains_spec (fun e he => (edge_nodes hok he).1) h5 5).2.2 a (e :: w) (by simp) (by simpa using hlen) hw
    have hr : redR c.q := by
      obtain ⟨m, _, _, h⟩ := (chains_spec (fun e he => (edge_nodes hok he).1) h5 5).2.1 a c c1
      exact real_red h
    have hn := clash_none hc a (Nat.zero_le _) (by have := hb.1; omega) c c1
    have : ¬ vR c.q < vR one1 := fun h => by
      rw [← ltR_iff hr.2.1 (by decide)] at h
      rw [hn] at h; cases h
    rw [Rat.not_lt, one_vR] at this
    exact Rat.le_trans this c2
/-- The least quotient between two nodes. -/
def distF (p : Paper) (ax : Int) (s t : Nat) : Ratio := if s = t then one1 else (chnOr (((zI (zE p ax) s 4)[t]?).join)).q
def distC (p : Paper) (ax : Int) (s t : Nat) : Chn := chnOr (((zI (zE p ax) s 4)[t]?).join)
theorem walk_some {p : Paper} (_ : zu p = true) (ax : Int) {s t : Nat} (hs : s < 1 + p.sheets) (ht : t < 1 + p.sheets) (hst : s ≠ t) : ∃ w, 1 ≤ w.length ∧ w.length ≤ 2 ∧ Wk (zE p ax) s w t := by
  have hin : ∀ i : Nat, (i : Int) < p.sheets → ∀ e ∈ sheetE i, e ∈ zE p ax := by
    intro i hi e he
    simp only [zE, List.mem_append, List.mem_flatMap, List.mem_range'_1]
    exact .inl (.inl ⟨i, by omega, he⟩)
  have out : ∀ i : Nat, (i : Int) < p.sheets → Wk (zE p ax) (1 + i) [⟨1 + i, 0, ⟨2, 1⟩, ⟨false, -1 - i, false⟩⟩] 0 := by
    intro i hi
    have := wk_one (hin i hi ⟨1 + i, 0, ⟨2, 1⟩, ⟨false, -1 - i, false⟩⟩ (by simp [sheetE]))
    rwa [show ((1 + (i : Int)).toNat) = 1 + i by omega] at this
  have back : ∀ i : Nat, (i : Int) < p.sheets → Wk (zE p ax) 0 [⟨0, 1 + i, ⟨2, 1⟩, ⟨false, -1 - i, true⟩⟩] (1 + i) := by
    intro i hi
    have := wk_one (hin i hi ⟨0, 1 + i, ⟨2, 1⟩, ⟨false, -1 - i, true⟩⟩ (by simp [sheetE]))
    rwa [show ((1 + (i : Int)).toNat) = 1 + i by omega] at this
  rcases Nat.eq_zero_or_pos s with rfl | hs0
  · have := back (t - 1) (by omega)
    rw [show 1 + (t - 1) = t by omega] at this
    exact ⟨_, by simp, by simp, this⟩
  · have h1 := out (s - 1) (by omega)
    rw [show 1 + (s - 1) = s by omega] at h1
    rcases Nat.eq_zero_or_pos t with rfl | ht0
    · exact ⟨_, by simp, by simp, h1⟩
    · have h2 := back (t - 1) (by omega)
      rw [show 1 + (t - 1) = t by omega] at h2
      exact ⟨_, by simp, by simp, wk_append h1 h2⟩
theorem dist_some {p : Paper} (hok : zu p = true) (ax : Int) {s t : Nat} (hs : s < 1 + p.sheets) (ht : t < 1 + p.sheets) (hst : s ≠ t) : (zI (zE p ax) s 4)[t]? = some (some (distC p ax s t)) := by
  obtain ⟨o1, o2, -⟩ := zA hok
  obtain ⟨w, w1, w2, w3⟩ := walk_some hok ax hs ht hst
  obtain ⟨c, h, _⟩ := (chains_spec (fun e he => (edge_nodes hok he).1) (show s < 5 by omega) 4).2.2 t w w1 (by omega) w3
  unfold distC
  rw [h]; rfl
/-- What is known of a least quotient. -/
theorem dist_real {p : Paper} (hok : zu p = true) (ax : Int) {s t : Nat} (hs : s < 1 + p.sheets) (ht : t < 1 + p.sheets) : redR (distF p ax s t) ∧ ∃ w, Wk (zE p ax) s w t ∧ w.length ≤ 4 ∧ vR (distF p ax s t) = prE w := by
  obtain ⟨o1, o2, -⟩ := zA hok
  by_cases hst : s = t
  · subst hst
    unfold distF
    rw [if_pos rfl]
    exact ⟨⟨by decide, by decide, by decide⟩, [], wk_nil _ _, by simp, one_vR⟩
  · obtain ⟨m, m1, m2, w, w1, w2, w3, w4, w5⟩ := (chains_spec (fun e he => (edge_nodes hok he).1) (show s < 5 by omega) 4).2.1 t _ (dist_some hok ax hs ht hst)
    unfold distF
    rw [if_neg hst]
    exact ⟨w5, w, w2, by omega, w3⟩
theorem dist_least {p : Paper} (hok : zu p = true) {ax : Int} (hc : clashA p ax = none) {s t : Nat} (hs : s < 1 + p.sheets) (ht : t < 1 + p.sheets) {w : List Edge} (hw : Wk (zE p ax) s w t) : vR (distF p ax s t) ≤ prE w := by
  obtain ⟨o1, o2, -⟩ := zA hok
  have hp : ∀ t, inE (zE p ax) t → 0 < t.w := fun t h => (in_pos hok h).1
  have hn : ∀ t, inE (zE p ax) t → t.src < 5 ∧ t.dst < 5 := fun t h => (in_pos hok h).2
  by_cases hst : s = t
  · subst hst
    unfold distF
    rw [if_pos rfl, one_vR]
    exact closed_one hp hn (fair hok hc) hw.1
  · obtain ⟨r, r1, r2, r3, _⟩ := shorten hp hn (fair hok hc) _ _ (Nat.le_refl _) hw.1
    obtain ⟨v, rfl, hv⟩ := inE_walk r1
    have hne : v ≠ [] := by
      rintro rfl
      exact hst hv.1
    have hlen : 1 ≤ v.length ∧ v.length ≤ 4 := by
      constructor
      · cases v with
        | nil => exact absurd rfl hne
        | cons _ _ => simp
      · rcases r2 with r2 | r2
        · simp at r2; omega
        · simp at r2; exact absurd r2 hne
    obtain ⟨c, c1, c2⟩ := (chains_spec (fun e he => (edge_nodes hok he).1) (show s < 5 by omega) 4).2.2 t v hlen.1 hlen.2 hv
    rw [dist_some hok ax hs ht hst] at c1
    cases c1
    unfold distF
    rw [if_neg hst]
    exact Rat.le_trans c2 r3
end Go.VS
namespace Go.VS
open Go Go.Proofs
set_option maxHeartbeats 0
set_option linter.unusedSimpArgs false

noncomputable def lp108_1 : Code := zv [1, 0, 0, 0] (zm Tryd.f108)
theorem lk108_1 : cfg.keep 108 (zq lp108_1) = [0, 1] := by kernel_rfl

theorem L108_1 {F : Exit → St → Option D} (k : List Kt) (x : D) : ∀ (m : Nat) (a b : Nat), b ≤ m →
    zB cfg (lim cfg) 108 F k (.exit 0) ⟨14, [(7, B false), (6, I (0 : Nat)), (0, I ((a.gcd b : Nat) : Int)), (1, I (0 : Int))], [], 0, 0⟩ = some x →
    EvL cfg (lim cfg) 108 F lp108_1 k ⟨14, [(0, I a), (1, I b)], [], 0, 0⟩ = some x := by
  intro m
  induction m with
  | zero =>
    intro a b hb h
    obtain rfl : b = 0 := by omega
    refine zh ?_
    try dsimp only [lp108_1, zv, zm, Tryd.f108]
    simp only [bW, if_true, Nat.reduceEqDiff, if_false]
    repeat' first | (intro hb; first | cases hb | skip) | ((first | apply z8 | apply zd); (· rfl); (· simp (disch := assumption) only [go_sem, Nat.reduceEqDiff, Nat.reduceAdd, bP, ze, Nat.reduceLeDiff, Nat.reduceLT, Nat.reduceMul, List.length_append, decide_eq_true_eq, z6, z0, Int.reduceToNat, Int.reduceLE, Int.reduceLT, Int.reduceBNe, Int.reduceBEq, bne_self_eq_false]; rfl); (· simp only [go_sem, Nat.reduceLT, Nat.reduceEqDiff]; rfl); (· rfl); first | (apply zc; (· simp only [go_sem, Nat.reduceLT]; rfl); (· simp only [go_sem, Nat.reduceLT]; rfl)) | (apply zg; (· simp only [go_sem, Nat.reduceLT]; rfl))) | ((first | apply za | apply zb); (· rfl); (· simp only [go_sem, Nat.reduceLT]; rfl)) | (apply z9; (· simp only [go_sem, Nat.reduceEqDiff])) | (apply z7; (· simp only [go_sem, Nat.reduceEqDiff])) | (apply zf; (· kernel_rfl); (· kernel_rfl)) | (simp only [bW, if_true, Nat.reduceEqDiff, if_false])
    rw [Nat.gcd_zero_right] at h
    exact h
  | succ m ih =>
    intro a b hb h
    rcases Nat.eq_zero_or_pos b with h0 | h0
    · subst h0
      exact ih a 0 (Nat.zero_le _) h
    · have hbne : ((b : Int) != 0) = true := by simp; omega
      have hbne' : ((b : Int) = 0) = False := by simp; omega
      refine zh ?_
      try dsimp only [lp108_1, zv, zm, Tryd.f108]
      simp only [bW, if_true, Nat.reduceEqDiff, if_false]
      repeat' first | (intro hb; first | cases hb | skip) | ((first | apply z8 | apply zd); (· rfl); (· simp (disch := assumption) only [go_sem, Nat.reduceEqDiff, Nat.reduceAdd, bP, ze, Nat.reduceLeDiff, Nat.reduceLT, Nat.reduceMul, List.length_append, decide_eq_true_eq, z6, z0, Int.reduceToNat, Int.reduceLE, Int.reduceLT, Int.reduceBNe, Int.reduceBEq, hbne, hbne']; rfl); (· simp only [go_sem, Nat.reduceLT, Nat.reduceEqDiff]; rfl); (· rfl); first | (apply zc; (· simp only [go_sem, Nat.reduceLT]; rfl); (· simp only [go_sem, Nat.reduceLT]; rfl)) | (apply zg; (· simp only [go_sem, Nat.reduceLT]; rfl))) | ((first | apply za | apply zb); (· rfl); (· simp only [go_sem, Nat.reduceLT]; rfl)) | (apply z9; (· simp only [go_sem, Nat.reduceEqDiff])) | (apply z7; (· simp only [go_sem, Nat.reduceEqDiff])) | (apply zf; (· kernel_rfl); (· kernel_rfl)) | (simp only [bW, if_true, Nat.reduceEqDiff, if_false])
      have hm : (a : Int).tmod (b : Int) = ((a % b : Nat) : Int) := rfl
      refine zn lk108_1 (by kernel_rfl) (st1 := ⟨14, [(0, I b), (1, I ((a : Int).tmod b))], [], 0, 0⟩) ?_
      rw [hm]
      refine ih b (a % b) (by have := Nat.mod_lt a h0; omega) ?_
      have e : b.gcd (a % b) = a.gcd b := by rw [Nat.gcd_comm b (a % b), ← Nat.gcd_rec, Nat.gcd_comm]
      rw [e]; exact h
theorem t108 (a b : Nat) : (lim cfg).pure 108 [I a, I b] = some (I ((a.gcd b : Nat) : Int)) := by
  refine zo (zk 108) cfn108 rfl (n := 14) rfl ?_
  generalize hF : finP cfg Tryd.f108 = F
  simp only [bW, if_true, Nat.reduceEqDiff, if_false, zl]
  repeat' first | (intro hb; first | cases hb | skip) | ((first | apply z8 | apply zd); (· rfl); (· simp (disch := assumption) only [go_sem, Nat.reduceEqDiff, Nat.reduceAdd, bP, ze, Nat.reduceLeDiff, Nat.reduceLT, Nat.reduceMul, List.length_append, decide_eq_true_eq, z6, z0, Int.reduceToNat, Int.reduceLE, Int.reduceLT, Int.reduceBNe, Int.reduceBEq]; rfl); (· simp only [go_sem, Nat.reduceLT, Nat.reduceEqDiff]; rfl); (· rfl); first | (apply zc; (· simp only [go_sem, Nat.reduceLT]; rfl); (· simp only [go_sem, Nat.reduceLT]; rfl)) | (apply zg; (· simp only [go_sem, Nat.reduceLT]; rfl))) | ((first | apply za | apply zb); (· rfl); (· simp only [go_sem, Nat.reduceLT]; rfl)) | (apply z9; (· simp only [go_sem, Nat.reduceEqDiff])) | (apply z7; (· simp only [go_sem, Nat.reduceEqDiff])) | (apply zf; (· kernel_rfl); (· kernel_rfl)) | (simp only [bW, if_true, Nat.reduceEqDiff, if_false])
  refine zK (st1 := ⟨14, [(0, I a), (1, I b)], [], 0, 0⟩) lk108_1 (by kernel_rfl) (L108_1 _ _ b a b (Nat.le_refl _) ?_)
  simp only [bW, if_true, Nat.reduceEqDiff, if_false]
  repeat' first | (intro hb; first | cases hb | skip) | ((first | apply z8 | apply zd); (· rfl); (· simp (disch := assumption) only [go_sem, Nat.reduceEqDiff, Nat.reduceAdd, bP, ze, Nat.reduceLeDiff, Nat.reduceLT, Nat.reduceMul, List.length_append, decide_eq_true_eq, z6, z0, Int.reduceToNat, Int.reduceLE, Int.reduceLT, Int.reduceBNe, Int.reduceBEq]; rfl); (· simp only [go_sem, Nat.reduceLT, Nat.reduceEqDiff]; rfl); (· rfl); first | (apply zc; (· simp only [go_sem, Nat.reduceLT]; rfl); (· simp only [go_sem, Nat.reduceLT]; rfl)) | (apply zg; (· simp only [go_sem, Nat.reduceLT]; rfl))) | ((first | apply za | apply zb); (· rfl); (· simp only [go_sem, Nat.reduceLT]; rfl)) | (apply z9; (· simp only [go_sem, Nat.reduceEqDiff])) | (apply z7; (· simp only [go_sem, Nat.reduceEqDiff])) | (apply zf; (· kernel_rfl); (· kernel_rfl)) | (simp only [bW, if_true, Nat.reduceEqDiff, if_false])
  subst hF
  simp only [go_sem, Nat.reduceEqDiff, bP, Nat.reduceAdd, Nat.reduceLeDiff, List.length_map, Tryd.f108]
  all_goals rfl

theorem t74 (n d : Int) (hn : 1 ≤ n) (hn' : n < 9223372036854775808) (hd : 1 ≤ d) (hd' : d < 9223372036854775808) : (lim cfg).pure 74 [I n, I d] = some (.agg [I (lowR n d).n, I (lowR n d).d]) := by
  obtain ⟨a, rfl⟩ := Int.eq_ofNat_of_zero_le (show 0 ≤ n by omega)
  obtain ⟨b, rfl⟩ := Int.eq_ofNat_of_zero_le (show 0 ≤ d by omega)
  have hg := gcdI_pos (d := (b : Int)) hn
  have hg0 : (((a.gcd b : Nat) : Int) = 0) = False := by simp [gcdI] at hg; simp; omega
  have hq1 : IntKind.i64.wrap ((a : Int).tdiv ((a.gcd b : Nat) : Int)) = (lowR (a : Int) b).n := quo_wrap (by omega) hn' hg
  have hq2 : IntKind.i64.wrap ((b : Int).tdiv ((a.gcd b : Nat) : Int)) = (lowR (a : Int) b).d := quo_wrap (by omega) hd' hg
  refine zo (zk 74) cfn74 rfl (n := 16) rfl ?_
  simp only [bW, if_true, Nat.reduceEqDiff, if_false, zl]
  repeat' first | (intro hb; first | cases hb | skip) | ((first | apply z8 | apply zd); (· rfl); (· simp (disch := assumption) only [go_sem, Nat.reduceEqDiff, Nat.reduceAdd, bP, ze, Nat.reduceLeDiff, Nat.reduceLT, Nat.reduceMul, List.length_append, decide_eq_true_eq, z6, z0, Int.reduceToNat, Int.reduceLE, Int.reduceLT, Int.reduceBNe, Int.reduceBEq, t108, hg0, hq1, hq2]; rfl); (· simp only [go_sem, Nat.reduceLT, Nat.reduceEqDiff]; rfl); (· rfl); first | (apply zc; (· simp only [go_sem, Nat.reduceLT]; rfl); (· simp only [go_sem, Nat.reduceLT]; rfl)) | (apply zg; (· simp only [go_sem, Nat.reduceLT]; rfl))) | ((first | apply za | apply zb); (· rfl); (· simp only [go_sem, Nat.reduceLT]; rfl)) | (apply z9; (· simp only [go_sem, Nat.reduceEqDiff])) | (apply z7; (· simp only [go_sem, Nat.reduceEqDiff])) | (apply zf; (· kernel_rfl); (· kernel_rfl)) | (simp only [bW, if_true, Nat.reduceEqDiff, if_false])
  all_goals simp only [go_sem, Nat.reduceEqDiff, bP, Nat.reduceAdd, Nat.reduceLeDiff, List.length_map, Tryd.f74]
  all_goals first | rfl | (simp_all []; done) | (simp_all []; intros; omega)

def zS (a b : Ratio) : Ratio := lowR ((lowR a.n b.d).n * (lowR b.n a.d).n) ((lowR a.n b.d).d * (lowR b.n a.d).d)
theorem times_spec {a b : Ratio} (h1 : 1 ≤ a.n) (h2 : 1 ≤ a.d) (h3 : 1 ≤ b.n) (h4 : 1 ≤ b.d) : redR (zS a b) ∧ vR (zS a b) = vR a * vR b := by
  obtain ⟨x1, x2⟩ := low_red h1 h4
  obtain ⟨y1, y2⟩ := low_red h3 h2
  have p1 := Int.mul_le_mul x1.1 y1.1 (by omega) (by have := x1.1; omega)
  have p2 := Int.mul_le_mul x1.2.1 y1.2.1 (by omega) (by have := x1.2.1; omega)
  obtain ⟨z1, z2⟩ := low_red (n := (lowR a.n b.d).n * (lowR b.n a.d).n) (d := (lowR a.n b.d).d * (lowR b.n a.d).d) (by omega) (by omega)
  refine ⟨z1, ?_⟩
  unfold zS
  rw [z2, ← Walks.vq_mul]
  show vR (lowR a.n b.d) * vR (lowR b.n a.d) = _
  rw [x2, y2, Walks.vq_mul, Int.mul_comm b.d, ← Walks.vq_mul]
  rfl
theorem mul3 {a b : Int} (h1 : 1 ≤ a) (h2 : a ≤ 3000000000) (h3 : 1 ≤ b) (h4 : b ≤ 3000000000) : 1 ≤ a * b ∧ a * b ≤ 9000000000000000000 ∧ IntKind.i64.wrap (a * b) = a * b := by
  have h5 := Int.mul_le_mul h1 h3 (by omega) (by omega)
  have h6 : a * b ≤ 3000000000 * 3000000000 := Int.mul_le_mul h2 h4 (by omega) (by omega)
  exact ⟨by omega, by omega, wrap_i64 (by omega) (by omega)⟩

theorem t22 (a b : Ratio) (h1 : 1 ≤ a.n) (h2 : a.n ≤ 3000000000) (h3 : 1 ≤ a.d) (h4 : a.d ≤ 3000000000) (h5 : 1 ≤ b.n) (h6 : b.n ≤ 3000000000) (h7 : 1 ≤ b.d) (h8 : b.d ≤ 3000000000) : (lim cfg).pure 22 [.agg [I a.n, I a.d], .agg [I b.n, I b.d]] = some (.agg [I (zS a b).n, I (zS a b).d]) := by
  obtain ⟨l1, l2, l3, l4⟩ := low_le h1 h7
  obtain ⟨m1, m2, m3, m4⟩ := low_le h5 h3
  obtain ⟨q1, q2, w1⟩ := mul3 (a := (lowR a.n b.d).n) (b := (lowR b.n a.d).n) (by omega) (by omega) (by omega) (by omega)
  obtain ⟨q3, q4, w2⟩ := mul3 (a := (lowR a.n b.d).d) (b := (lowR b.n a.d).d) (by omega) (by omega) (by omega) (by omega)
  have e1 := t74 a.n b.d h1 (by omega) h7 (by omega)
  have e2 := t74 b.n a.d h5 (by omega) h3 (by omega)
  have e3 := t74 ((lowR a.n b.d).n * (lowR b.n a.d).n) ((lowR a.n b.d).d * (lowR b.n a.d).d) q1 (by omega) q3 (by omega)
  refine zo (zk 22) cfn22 rfl (n := 28) rfl ?_
  simp only [bW, if_true, Nat.reduceEqDiff, if_false, zl]
  repeat' first | (intro hb; first | cases hb | skip) | ((first | apply z8 | apply zd); (· rfl); (· simp (disch := assumption) only [go_sem, Nat.reduceEqDiff, Nat.reduceAdd, bP, ze, Nat.reduceLeDiff, Nat.reduceLT, Nat.reduceMul, List.length_append, decide_eq_true_eq, z6, z0, Int.reduceToNat, Int.reduceLE, Int.reduceLT, Int.reduceBNe, Int.reduceBEq, e1, e2, e3, w1, w2]; rfl); (· simp only [go_sem, Nat.reduceLT, Nat.reduceEqDiff]; rfl); (· rfl); first | (apply zc; (· simp only [go_sem, Nat.reduceLT]; rfl); (· simp only [go_sem, Nat.reduceLT]; rfl)) | (apply zg; (· simp only [go_sem, Nat.reduceLT]; rfl))) | ((first | apply za | apply zb); (· rfl); (· simp only [go_sem, Nat.reduceLT]; rfl)) | (apply z9; (· simp only [go_sem, Nat.reduceEqDiff])) | (apply z7; (· simp only [go_sem, Nat.reduceEqDiff])) | (apply zf; (· kernel_rfl); (· kernel_rfl)) | (simp only [bW, if_true, Nat.reduceEqDiff, if_false])
  all_goals simp only [go_sem, Nat.reduceEqDiff, bP, Nat.reduceAdd, Nat.reduceLeDiff, List.length_map, Tryd.f22]
  all_goals first | rfl | (simp_all []; done) | (simp_all []; intros; omega)

theorem times_le {a b : Ratio} (h1 : 1 ≤ a.n) (h2 : a.n ≤ 3000000000) (h3 : 1 ≤ a.d) (h4 : a.d ≤ 3000000000) (h5 : 1 ≤ b.n) (h6 : b.n ≤ 3000000000) (h7 : 1 ≤ b.d) (h8 : b.d ≤ 3000000000) : (zS a b).n ≤ 9000000000000000000 ∧ (zS a b).d ≤ 9000000000000000000 := by
  obtain ⟨l1, l2, l3, l4⟩ := low_le h1 h7
  obtain ⟨m1, m2, m3, m4⟩ := low_le h5 h3
  obtain ⟨q1, q2, w1⟩ := mul3 (a := (lowR a.n b.d).n) (b := (lowR b.n a.d).n) (by omega) (by omega) (by omega) (by omega)
  obtain ⟨q3, q4, w2⟩ := mul3 (a := (lowR a.n b.d).d) (b := (lowR b.n a.d).d) (by omega) (by omega) (by omega) (by omega)
  obtain ⟨r1, r2, r3, r4⟩ := low_le q1 q3
  exact ⟨Int.le_trans r2 q2, Int.le_trans r4 q4⟩
end Go.VS
/-
  What Factor and Between answer, in the words of least quotients. (A text of this claim's own; nothing of it is trusted.)
-/
namespace Go.VS
open Go Go.VS.Walks
theorem t19x (p : Paper) (a b ax : Int) (hwf : p.wf) : ∃ (r : Ratio) (k : Int), (lim cfg).pure 19 [zj p, I a, I b, I ax] = some (.tup [.agg [I r.n, I r.d], I k]) ∧ (k = 0 ↔ zJ p ax [a, b] = 0) ∧ (zJ p ax [a, b] = 0 → r = betwF p a b ax) := by
  have h := t19 p a b ax hwf
  by_cases hk : zJ p ax [a, b] = 0
  · rw [if_pos hk] at h
    exact ⟨betwF p a b ax, 0, h, by simp [hk], fun _ => rfl⟩
  · rw [if_neg hk] at h
    exact ⟨⟨0, 0⟩, _, h, Iff.rfl, fun h' => absurd h' hk⟩
theorem t20x (p : Paper) (s ax : Int) (hwf : p.wf) : ∃ (lo hi : Ratio) (k : Int), (lim cfg).pure 20 [zj p, I s, I ax] = some (.tup [.agg [I lo.n, I lo.d], .agg [I hi.n, I hi.d], I k]) ∧ (k = 0 ↔ zJ p ax [s] = 0) ∧ (zJ p ax [s] = 0 → lo = loF p s ax ∧ hi = hiF p s ax) := by
  have h := t20 p s ax hwf
  by_cases hk : zJ p ax [s] = 0
  · rw [if_pos hk] at h
    exact ⟨loF p s ax, hiF p s ax, 0, h, by simp [hk], fun _ => ⟨rfl, rfl⟩⟩
  · rw [if_neg hk] at h
    exact ⟨⟨0, 0⟩, ⟨0, 0⟩, _, h, Iff.rfl, fun h' => absurd h' hk⟩
theorem poss_none {p : Paper} (h : possibleF p = true) {ax : Int} (hax : isAxis ax = true) : clashA p ax = none := by
  simp [possibleF] at h
  simp [isAxis] at hax
  rcases hax with rfl | rfl
  · exact h.1
  · exact h.2
theorem sheet_nat {p : Paper} {s : Int} (h : zz p s = true) : ∃ i : Nat, s = i ∧ (1 + i : Nat) < 1 + p.sheets ∧ (1 + s).toNat = 1 + i := by
  simp [zz] at h
  exact ⟨s.toNat, by omega, by omega, by omega⟩
theorem betw_dist (p : Paper) (ax : Int) (i j : Nat) : betwF p i j ax = distF p ax (1 + i) (1 + j) := by
  unfold betwF distF
  rw [show (1 + (i : Int)).toNat = 1 + i by omega, show (1 + (j : Int)).toNat = 1 + j by omega]
  by_cases h : i = j
  · subst h; simp
  · rw [if_neg (by omega), if_neg (by omega)]
theorem hi_dist (p : Paper) (ax : Int) (i : Nat) : hiF p i ax = distF p ax (1 + i) 0 := by
  unfold hiF downF downO distF
  rw [show (1 + (i : Int)).toNat = 1 + i by omega, if_neg (by omega)]
theorem dist_tri {p : Paper} (hok : zu p = true) {ax : Int} (hc : clashA p ax = none) {a b c : Nat} (ha : a < 1 + p.sheets) (hb : b < 1 + p.sheets) (hcc : c < 1 + p.sheets) : vR (distF p ax a c) ≤ vR (distF p ax a b) * vR (distF p ax b c) := by
  obtain ⟨_, w, w1, _, w2⟩ := dist_real hok ax ha hb
  obtain ⟨_, v, v1, _, v2⟩ := dist_real hok ax hb hcc
  rw [w2, v2, ← prE_append]
  exact dist_least hok hc ha hcc (wk_append w1 v1)
end Go.VS
namespace Go.VS
open Go Go.Proofs
set_option maxHeartbeats 0
set_option linter.unusedSimpArgs false

noncomputable def lp4_15 : Code := zv [1, 1, 1, 1, 1, 1, 1, 1, 1, 1, 0, 1, 0, 0] (zm Tryd.f4)
theorem lk4_15 : cfg.keep 4 (zq lp4_15) = [11, 13, 15, 18, 21, 103, 104, 105] := by kernel_rfl

theorem cmp_ge_of {a b : Ratio} (ha : 1 ≤ a.d) (hb : 1 ≤ b.d) (h : vR b ≤ vR a) : (cmpI (a.n * b.d) (b.n * a.d) ≥ 0) = True := by
  rw [cmpI_ge0]
  exact eq_true ((Walks.vq_le (by omega) (by omega)).1 h)
theorem cmp_le_of {a b : Ratio} (ha : 1 ≤ a.d) (hb : 1 ≤ b.d) (h : vR a ≤ vR b) : (cmpI (a.n * b.d) (b.n * a.d) ≤ 0) = True := by
  rw [cmpI_le0]
  exact eq_true ((Walks.vq_le (by omega) (by omega)).1 h)

theorem t4 (p : Paper) (a b c ax : Int) (hwf : p.wf) : (lim cfg).pure 4 [zj p, I a, I b, I c, I ax] = some (B true) := by
  have h17 := t17 p hwf
  obtain ⟨x, k1, e1, f1, g1⟩ := t19x p a b ax hwf
  obtain ⟨y, k2, e2, f2, g2⟩ := t19x p b c ax hwf
  obtain ⟨z, k3, e3, f3, g3⟩ := t19x p a c ax hwf
  obtain ⟨lu, u, k4, e4, f4, g4⟩ := t20x p a ax hwf
  obtain ⟨lv, v, k5, e5, f5, g5⟩ := t20x p b ax hwf
  cases hfew : (decide (p.marks.length ≤ 26) && decide (p.joins.length ≤ 26)) with
  | false =>
    rw [hfew] at h17
    refine zo (zk 4) cfn4 rfl (n := 152) rfl ?_
    simp only [bW, if_true, Nat.reduceEqDiff, if_false, zl]
    repeat' first | (intro hb; first | cases hb | skip) | ((first | apply z8 | apply zd); (· rfl); (· simp (disch := assumption) only [go_sem, Nat.reduceEqDiff, Nat.reduceAdd, bP, ze, Nat.reduceLeDiff, Nat.reduceLT, Nat.reduceMul, List.length_append, decide_eq_true_eq, z6, z0, Int.reduceToNat, Int.reduceLE, Int.reduceLT, Int.reduceBNe, Int.reduceBEq, t14, h17, e1, e2, e3, e4, e5]; rfl); (· simp only [go_sem, Nat.reduceLT, Nat.reduceEqDiff]; rfl); (· rfl); first | (apply zc; (· simp only [go_sem, Nat.reduceLT]; rfl); (· simp only [go_sem, Nat.reduceLT]; rfl)) | (apply zg; (· simp only [go_sem, Nat.reduceLT]; rfl))) | ((first | apply za | apply zb); (· rfl); (· simp only [go_sem, Nat.reduceLT]; rfl)) | (apply z9; (· simp only [go_sem, Nat.reduceEqDiff])) | (apply z7; (· simp only [go_sem, Nat.reduceEqDiff])) | (apply zf; (· kernel_rfl); (· kernel_rfl)) | (simp only [bW, if_true, Nat.reduceEqDiff, if_false])
    all_goals try simp only [go_sem, Nat.reduceEqDiff, bP, Nat.reduceAdd, Nat.reduceLeDiff, List.length_map, Tryd.f4]
    all_goals first | done | rfl | (simp_all []; done) | trace_state
  | true =>
  rw [hfew] at h17
  by_cases hk1 : k1 = 0
  case neg =>
    have n1 : (k1 != 0) = true := by simp [hk1]
    refine zo (zk 4) cfn4 rfl (n := 152) rfl ?_
    simp only [bW, if_true, Nat.reduceEqDiff, if_false, zl]
    repeat' first | (intro hb; first | cases hb | skip) | ((first | apply z8 | apply zd); (· rfl); (· simp (disch := assumption) only [go_sem, Nat.reduceEqDiff, Nat.reduceAdd, bP, ze, Nat.reduceLeDiff, Nat.reduceLT, Nat.reduceMul, List.length_append, decide_eq_true_eq, z6, z0, Int.reduceToNat, Int.reduceLE, Int.reduceLT, Int.reduceBNe, Int.reduceBEq, t14, h17, e1, e2, e3, e4, e5, n1]; rfl); (· simp only [go_sem, Nat.reduceLT, Nat.reduceEqDiff]; rfl); (· rfl); first | (apply zc; (· simp only [go_sem, Nat.reduceLT]; rfl); (· simp only [go_sem, Nat.reduceLT]; rfl)) | (apply zg; (· simp only [go_sem, Nat.reduceLT]; rfl))) | ((first | apply za | apply zb); (· rfl); (· simp only [go_sem, Nat.reduceLT]; rfl)) | (apply z9; (· simp only [go_sem, Nat.reduceEqDiff])) | (apply z7; (· simp only [go_sem, Nat.reduceEqDiff])) | (apply zf; (· kernel_rfl); (· kernel_rfl)) | (simp only [bW, if_true, Nat.reduceEqDiff, if_false])
    all_goals try simp only [go_sem, Nat.reduceEqDiff, bP, Nat.reduceAdd, Nat.reduceLeDiff, List.length_map, Tryd.f4]
    all_goals first | done | rfl | (simp_all []; done) | trace_state
  by_cases hk2 : k2 = 0
  case neg =>
    have n1 : (k1 != 0) = false := by simp [hk1]
    have n2 : (k2 != 0) = true := by simp [hk2]
    refine zo (zk 4) cfn4 rfl (n := 152) rfl ?_
    simp only [bW, if_true, Nat.reduceEqDiff, if_false, zl]
    repeat' first | (intro hb; first | cases hb | skip) | ((first | apply z8 | apply zd); (· rfl); (· simp (disch := assumption) only [go_sem, Nat.reduceEqDiff, Nat.reduceAdd, bP, ze, Nat.reduceLeDiff, Nat.reduceLT, Nat.reduceMul, List.length_append, decide_eq_true_eq, z6, z0, Int.reduceToNat, Int.reduceLE, Int.reduceLT, Int.reduceBNe, Int.reduceBEq, t14, h17, e1, e2, e3, e4, e5, n1, n2]; rfl); (· simp only [go_sem, Nat.reduceLT, Nat.reduceEqDiff]; rfl); (· rfl); first | (apply zc; (· simp only [go_sem, Nat.reduceLT]; rfl); (· simp only [go_sem, Nat.reduceLT]; rfl)) | (apply zg; (· simp only [go_sem, Nat.reduceLT]; rfl))) | ((first | apply za | apply zb); (· rfl); (· simp only [go_sem, Nat.reduceLT]; rfl)) | (apply z9; (· simp only [go_sem, Nat.reduceEqDiff])) | (apply z7; (· simp only [go_sem, Nat.reduceEqDiff])) | (apply zf; (· kernel_rfl); (· kernel_rfl)) | (simp only [bW, if_true, Nat.reduceEqDiff, if_false])
    all_goals try simp only [go_sem, Nat.reduceEqDiff, bP, Nat.reduceAdd, Nat.reduceLeDiff, List.length_map, Tryd.f4]
    all_goals first | done | rfl | (simp_all []; done) | trace_state
  by_cases hk3 : k3 = 0
  case neg =>
    have n1 : (k1 != 0) = false := by simp [hk1]
    have n2 : (k2 != 0) = false := by simp [hk2]
    have n3 : (k3 != 0) = true := by simp [hk3]
    refine zo (zk 4) cfn4 rfl (n := 152) rfl ?_
    simp only [bW, if_true, Nat.reduceEqDiff, if_false, zl]
    repeat' first | (intro hb; first | cases hb | skip) | ((first | apply z8 | apply zd); (· rfl); (· simp (disch := assumption) only [go_sem, Nat.reduceEqDiff, Nat.reduceAdd, bP, ze, Nat.reduceLeDiff, Nat.reduceLT, Nat.reduceMul, List.length_append, decide_eq_true_eq, z6, z0, Int.reduceToNat, Int.reduceLE, Int.reduceLT, Int.reduceBNe, Int.reduceBEq, t14, h17, e1, e2, e3, e4, e5, n1, n2, n3]; rfl); (· simp only [go_sem, Nat.reduceLT, Nat.reduceEqDiff]; rfl); (· rfl); first | (apply zc; (· simp only [go_sem, Nat.reduceLT]; rfl); (· simp only [go_sem, Nat.reduceLT]; rfl)) | (apply zg; (· simp only [go_sem, Nat.reduceLT]; rfl))) | ((first | apply za | apply zb); (· rfl); (· simp only [go_sem, Nat.reduceLT]; rfl)) | (apply z9; (· simp only [go_sem, Nat.reduceEqDiff])) | (apply z7; (· simp only [go_sem, Nat.reduceEqDiff])) | (apply zf; (· kernel_rfl); (· kernel_rfl)) | (simp only [bW, if_true, Nat.reduceEqDiff, if_false])
    all_goals try simp only [go_sem, Nat.reduceEqDiff, bP, Nat.reduceAdd, Nat.reduceLeDiff, List.length_map, Tryd.f4]
    all_goals first | done | rfl | (simp_all []; done) | trace_state
  have z1 := f1.1 hk1
  have z2 := f2.1 hk2
  have z3 := f3.1 hk3
  obtain ⟨s1, s2, s3, s4⟩ := known_zero.1 z1
  obtain ⟨-, -, s5, -⟩ := known_zero.1 z2
  simp only [List.all_cons, List.all_nil, Bool.and_true, Bool.and_eq_true] at s3 s5
  have z4 : zJ p ax [a] = 0 := known_zero.2 ⟨s1, s2, by simp [s3.1], s4⟩
  have z5 : zJ p ax [b] = 0 := known_zero.2 ⟨s1, s2, by simp [s3.2], s4⟩
  have hk4 := f4.2 z4
  have hk5 := f5.2 z5
  have hcl := poss_none s2 s4
  obtain ⟨ia, rfl, la, _⟩ := sheet_nat s3.1
  obtain ⟨ib, rfl, lb, _⟩ := sheet_nat s3.2
  obtain ⟨ic, rfl, lc, _⟩ := sheet_nat s5.2
  have l0 : ((0 : Nat) : Int) < 1 + p.sheets := by omega
  have dx := g1 z1
  have dy := g2 z2
  have dz := g3 z3
  have du := (g4 z4).2
  have dv := (g5 z5).2
  rw [betw_dist] at dx dy dz
  rw [hi_dist] at du dv
  have rx : redR x := by rw [dx]; exact (dist_real s1 ax la lb).1
  have ry : redR y := by rw [dy]; exact (dist_real s1 ax lb lc).1
  have rz : redR z := by rw [dz]; exact (dist_real s1 ax la lc).1
  have ru : redR u := by rw [du]; exact (dist_real s1 ax la l0).1
  have rv : redR v := by rw [dv]; exact (dist_real s1 ax lb l0).1
  have t1 : vR z ≤ vR x * vR y := by rw [dx, dy, dz]; exact dist_tri s1 hcl la lb lc
  have t2 : vR u ≤ vR x * vR v := by rw [dx, du, dv]; exact dist_tri s1 hcl la lb l0
  have hxe : (ia : Int) = ib → x = ⟨1, 1⟩ := by
    intro h
    have : ia = ib := by omega
    rw [dx, this]
    unfold distF
    rw [if_pos rfl]; rfl
  clear dx dy dz du dv g1 g2 g3 g4 g5 f1 f2 f3 f4 f5
  subst hk1 hk2 hk3 hk4 hk5
  have t21' := t21 1 1
  simp only [encR] at t21'
  have cx1 : (x.n < 1) = False := by simp only [eq_iff_iff, iff_false]; have := rx.1; omega
  have cx2 : (x.d < 1) = False := by simp only [eq_iff_iff, iff_false]; have := rx.2.1; omega
  have cx3 : (x.n ≥ 1) = True := eq_true rx.1
  have cx4 : (x.d ≥ 1) = True := eq_true rx.2.1
  have cy1 : (y.n < 1) = False := by simp only [eq_iff_iff, iff_false]; have := ry.1; omega
  have cy2 : (y.d < 1) = False := by simp only [eq_iff_iff, iff_false]; have := ry.2.1; omega
  have cy3 : (y.n ≥ 1) = True := eq_true ry.1
  have cy4 : (y.d ≥ 1) = True := eq_true ry.2.1
  have cz1 : (z.n < 1) = False := by simp only [eq_iff_iff, iff_false]; have := rz.1; omega
  have cz2 : (z.d < 1) = False := by simp only [eq_iff_iff, iff_false]; have := rz.2.1; omega
  have cz3 : (z.n ≥ 1) = True := eq_true rz.1
  have cz4 : (z.d ≥ 1) = True := eq_true rz.2.1
  have cu1 : (u.n < 1) = False := by simp only [eq_iff_iff, iff_false]; have := ru.1; omega
  have cu2 : (u.d < 1) = False := by simp only [eq_iff_iff, iff_false]; have := ru.2.1; omega
  have cu3 : (u.n ≥ 1) = True := eq_true ru.1
  have cu4 : (u.d ≥ 1) = True := eq_true ru.2.1
  have cv1 : (v.n < 1) = False := by simp only [eq_iff_iff, iff_false]; have := rv.1; omega
  have cv2 : (v.d < 1) = False := by simp only [eq_iff_iff, iff_false]; have := rv.2.1; omega
  have cv3 : (v.n ≥ 1) = True := eq_true rv.1
  have cv4 : (v.d ≥ 1) = True := eq_true rv.2.1
  by_cases hab : (ia : Int) = ib
  · have hx1 := hxe hab
    have hab' : ((ia : Int) == (ib : Int)) = true := by simp [hab]
    have ex1 : (x.n == 1) = true := by rw [hx1]; rfl
    have ex2 : (x.d == 1) = true := by rw [hx1]; rfl
    have ex3 : (x.n != 1) = false := by rw [hx1]; rfl
    have ex4 : (x.d != 1) = false := by rw [hx1]; rfl
    refine zo (zk 4) cfn4 rfl (n := 152) rfl ?_
    simp only [bW, if_true, Nat.reduceEqDiff, if_false, zl]
    repeat' first | (intro hb; first | cases hb | skip) | ((first | apply z8 | apply zd); (· rfl); (· simp (disch := assumption) only [go_sem, Nat.reduceEqDiff, Nat.reduceAdd, bP, ze, Nat.reduceLeDiff, Nat.reduceLT, Nat.reduceMul, List.length_append, decide_eq_true_eq, z6, z0, Int.reduceToNat, Int.reduceLE, Int.reduceLT, Int.reduceBNe, Int.reduceBEq, t14, h17, e1, e2, e3, e4, e5, hab', t21', bne_self_eq_false, Bool.or_self, ex1, ex2, ex3, ex4, cx1, cx2, cx3, cx4, cy1, cy2, cy3, cy4, cz1, cz2, cz3, cz4, cu1, cu2, cu3, cu4, cv1, cv2, cv3, cv4]; rfl); (· simp only [go_sem, Nat.reduceLT, Nat.reduceEqDiff]; rfl); (· rfl); first | (apply zc; (· simp only [go_sem, Nat.reduceLT]; rfl); (· simp only [go_sem, Nat.reduceLT]; rfl)) | (apply zg; (· simp only [go_sem, Nat.reduceLT]; rfl))) | ((first | apply za | apply zb); (· rfl); (· simp only [go_sem, Nat.reduceLT]; rfl)) | (apply z9; (· simp only [go_sem, Nat.reduceEqDiff])) | (apply z7; (· simp only [go_sem, Nat.reduceEqDiff])) | (apply zf; (· kernel_rfl); (· kernel_rfl)) | (simp only [bW, if_true, Nat.reduceEqDiff, if_false])
    apply zK lk4_15
    · simp only [go_sem, List.map_append, Nat.reduceEqDiff, Nat.reduceLT, Nat.reduceAdd, bI, bD, bI2, zj]
      rfl
    refine zh ?_
    try dsimp only [lp4_15, zv, zm, Tryd.f4]
    simp only [bW, if_true, Nat.reduceEqDiff, if_false]
    repeat' first | (intro hb; first | cases hb | skip) | ((first | apply z8 | apply zd); (· rfl); (· simp (disch := assumption) only [go_sem, Nat.reduceEqDiff, Nat.reduceAdd, bP, ze, Nat.reduceLeDiff, Nat.reduceLT, Nat.reduceMul, List.length_append, decide_eq_true_eq, z6, z0, Int.reduceToNat, Int.reduceLE, Int.reduceLT, Int.reduceBNe, Int.reduceBEq, show IntKind.i64.wrap (0 + 1) = 1 from by decide, show IntKind.i64.wrap (1 + 1) = 2 from by decide, show IntKind.i64.wrap (2 + 1) = 3 from by decide, show IntKind.i64.wrap (3 + 1) = 4 from by decide, show IntKind.i64.wrap (4 + 1) = 5 from by decide, show (0 : Int) < 5 from by decide, show (0 : Int).toNat = 0 from rfl, show (0 : Int) ≤ 0 from by decide, show (1 : Int) < 5 from by decide, show (1 : Int).toNat = 1 from rfl, show (0 : Int) ≤ 1 from by decide, show (2 : Int) < 5 from by decide, show (2 : Int).toNat = 2 from rfl, show (0 : Int) ≤ 2 from by decide, show (3 : Int) < 5 from by decide, show (3 : Int).toNat = 3 from rfl, show (0 : Int) ≤ 3 from by decide, show (4 : Int) < 5 from by decide, show (4 : Int).toNat = 4 from rfl, show (0 : Int) ≤ 4 from by decide, show ¬ ((5 : Int) < 5) from by decide, cx1, cx2, cx3, cx4, cy1, cy2, cy3, cy4, cz1, cz2, cz3, cz4, cu1, cu2, cu3, cu4, cv1, cv2, cv3, cv4]; rfl); (· simp only [go_sem, Nat.reduceLT, Nat.reduceEqDiff]; rfl); (· rfl); first | (apply zc; (· simp only [go_sem, Nat.reduceLT]; rfl); (· simp only [go_sem, Nat.reduceLT]; rfl)) | (apply zg; (· simp only [go_sem, Nat.reduceLT]; rfl))) | ((first | apply za | apply zb); (· rfl); (· simp only [go_sem, Nat.reduceLT]; rfl)) | (apply z9; (· simp only [go_sem, Nat.reduceEqDiff])) | (apply z7; (· simp only [go_sem, Nat.reduceEqDiff])) | (apply zf; (· kernel_rfl); (· kernel_rfl)) | (simp only [bW, if_true, Nat.reduceEqDiff, if_false])
    all_goals try (simp only [go_sem, Nat.reduceEqDiff, bP, Nat.reduceAdd, Nat.reduceLeDiff, List.length_map, Tryd.f4]; done)
    have bx1 : x.n ≤ 3000000000 := by have := of_decide_eq_false (by assumption : decide (x.n > 3000000000) = false); omega
    have bx2 : x.d ≤ 3000000000 := by have := of_decide_eq_false (by assumption : decide (x.d > 3000000000) = false); omega
    apply zn lk4_15
    · simp only [go_sem, List.map_append, Nat.reduceEqDiff, Nat.reduceLT, Nat.reduceAdd, bI, bD, bI2, zj]
      rfl
    refine zh ?_
    try dsimp only [lp4_15, zv, zm, Tryd.f4]
    simp only [bW, if_true, Nat.reduceEqDiff, if_false]
    repeat' first | (intro hb; first | cases hb | skip) | ((first | apply z8 | apply zd); (· rfl); (· simp (disch := assumption) only [go_sem, Nat.reduceEqDiff, Nat.reduceAdd, bP, ze, Nat.reduceLeDiff, Nat.reduceLT, Nat.reduceMul, List.length_append, decide_eq_true_eq, z6, z0, Int.reduceToNat, Int.reduceLE, Int.reduceLT, Int.reduceBNe, Int.reduceBEq, show IntKind.i64.wrap (0 + 1) = 1 from by decide, show IntKind.i64.wrap (1 + 1) = 2 from by decide, show IntKind.i64.wrap (2 + 1) = 3 from by decide, show IntKind.i64.wrap (3 + 1) = 4 from by decide, show IntKind.i64.wrap (4 + 1) = 5 from by decide, show (0 : Int) < 5 from by decide, show (0 : Int).toNat = 0 from rfl, show (0 : Int) ≤ 0 from by decide, show (1 : Int) < 5 from by decide, show (1 : Int).toNat = 1 from rfl, show (0 : Int) ≤ 1 from by decide, show (2 : Int) < 5 from by decide, show (2 : Int).toNat = 2 from rfl, show (0 : Int) ≤ 2 from by decide, show (3 : Int) < 5 from by decide, show (3 : Int).toNat = 3 from rfl, show (0 : Int) ≤ 3 from by decide, show (4 : Int) < 5 from by decide, show (4 : Int).toNat = 4 from rfl, show (0 : Int) ≤ 4 from by decide, show ¬ ((5 : Int) < 5) from by decide, cx1, cx2, cx3, cx4, cy1, cy2, cy3, cy4, cz1, cz2, cz3, cz4, cu1, cu2, cu3, cu4, cv1, cv2, cv3, cv4]; rfl); (· simp only [go_sem, Nat.reduceLT, Nat.reduceEqDiff]; rfl); (· rfl); first | (apply zc; (· simp only [go_sem, Nat.reduceLT]; rfl); (· simp only [go_sem, Nat.reduceLT]; rfl)) | (apply zg; (· simp only [go_sem, Nat.reduceLT]; rfl))) | ((first | apply za | apply zb); (· rfl); (· simp only [go_sem, Nat.reduceLT]; rfl)) | (apply z9; (· simp only [go_sem, Nat.reduceEqDiff])) | (apply z7; (· simp only [go_sem, Nat.reduceEqDiff])) | (apply zf; (· kernel_rfl); (· kernel_rfl)) | (simp only [bW, if_true, Nat.reduceEqDiff, if_false])
    all_goals try (simp only [go_sem, Nat.reduceEqDiff, bP, Nat.reduceAdd, Nat.reduceLeDiff, List.length_map, Tryd.f4]; done)
    have by1 : y.n ≤ 3000000000 := by have := of_decide_eq_false (by assumption : decide (y.n > 3000000000) = false); omega
    have by2 : y.d ≤ 3000000000 := by have := of_decide_eq_false (by assumption : decide (y.d > 3000000000) = false); omega
    apply zn lk4_15
    · simp only [go_sem, List.map_append, Nat.reduceEqDiff, Nat.reduceLT, Nat.reduceAdd, bI, bD, bI2, zj]
      rfl
    refine zh ?_
    try dsimp only [lp4_15, zv, zm, Tryd.f4]
    simp only [bW, if_true, Nat.reduceEqDiff, if_false]
    repeat' first | (intro hb; first | cases hb | skip) | ((first | apply z8 | apply zd); (· rfl); (· simp (disch := assumption) only [go_sem, Nat.reduceEqDiff, Nat.reduceAdd, bP, ze, Nat.reduceLeDiff, Nat.reduceLT, Nat.reduceMul, List.length_append, decide_eq_true_eq, z6, z0, Int.reduceToNat, Int.reduceLE, Int.reduceLT, Int.reduceBNe, Int.reduceBEq, show IntKind.i64.wrap (0 + 1) = 1 from by decide, show IntKind.i64.wrap (1 + 1) = 2 from by decide, show IntKind.i64.wrap (2 + 1) = 3 from by decide, show IntKind.i64.wrap (3 + 1) = 4 from by decide, show IntKind.i64.wrap (4 + 1) = 5 from by decide, show (0 : Int) < 5 from by decide, show (0 : Int).toNat = 0 from rfl, show (0 : Int) ≤ 0 from by decide, show (1 : Int) < 5 from by decide, show (1 : Int).toNat = 1 from rfl, show (0 : Int) ≤ 1 from by decide, show (2 : Int) < 5 from by decide, show (2 : Int).toNat = 2 from rfl, show (0 : Int) ≤ 2 from by decide, show (3 : Int) < 5 from by decide, show (3 : Int).toNat = 3 from rfl, show (0 : Int) ≤ 3 from by decide, show (4 : Int) < 5 from by decide, show (4 : Int).toNat = 4 from rfl, show (0 : Int) ≤ 4 from by decide, show ¬ ((5 : Int) < 5) from by decide, cx1, cx2, cx3, cx4, cy1, cy2, cy3, cy4, cz1, cz2, cz3, cz4, cu1, cu2, cu3, cu4, cv1, cv2, cv3, cv4]; rfl); (· simp only [go_sem, Nat.reduceLT, Nat.reduceEqDiff]; rfl); (· rfl); first | (apply zc; (· simp only [go_sem, Nat.reduceLT]; rfl); (· simp only [go_sem, Nat.reduceLT]; rfl)) | (apply zg; (· simp only [go_sem, Nat.reduceLT]; rfl))) | ((first | apply za | apply zb); (· rfl); (· simp only [go_sem, Nat.reduceLT]; rfl)) | (apply z9; (· simp only [go_sem, Nat.reduceEqDiff])) | (apply z7; (· simp only [go_sem, Nat.reduceEqDiff])) | (apply zf; (· kernel_rfl); (· kernel_rfl)) | (simp only [bW, if_true, Nat.reduceEqDiff, if_false])
    all_goals try (simp only [go_sem, Nat.reduceEqDiff, bP, Nat.reduceAdd, Nat.reduceLeDiff, List.length_map, Tryd.f4]; done)
    have bz1 : z.n ≤ 3000000000 := by have := of_decide_eq_false (by assumption : decide (z.n > 3000000000) = false); omega
    have bz2 : z.d ≤ 3000000000 := by have := of_decide_eq_false (by assumption : decide (z.d > 3000000000) = false); omega
    apply zn lk4_15
    · simp only [go_sem, List.map_append, Nat.reduceEqDiff, Nat.reduceLT, Nat.reduceAdd, bI, bD, bI2, zj]
      rfl
    refine zh ?_
    try dsimp only [lp4_15, zv, zm, Tryd.f4]
    simp only [bW, if_true, Nat.reduceEqDiff, if_false]
    repeat' first | (intro hb; first | cases hb | skip) | ((first | apply z8 | apply zd); (· rfl); (· simp (disch := assumption) only [go_sem, Nat.reduceEqDiff, Nat.reduceAdd, bP, ze, Nat.reduceLeDiff, Nat.reduceLT, Nat.reduceMul, List.length_append, decide_eq_true_eq, z6, z0, Int.reduceToNat, Int.reduceLE, Int.reduceLT, Int.reduceBNe, Int.reduceBEq, show IntKind.i64.wrap (0 + 1) = 1 from by decide, show IntKind.i64.wrap (1 + 1) = 2 from by decide, show IntKind.i64.wrap (2 + 1) = 3 from by decide, show IntKind.i64.wrap (3 + 1) = 4 from by decide, show IntKind.i64.wrap (4 + 1) = 5 from by decide, show (0 : Int) < 5 from by decide, show (0 : Int).toNat = 0 from rfl, show (0 : Int) ≤ 0 from by decide, show (1 : Int) < 5 from by decide, show (1 : Int).toNat = 1 from rfl, show (0 : Int) ≤ 1 from by decide, show (2 : Int) < 5 from by decide, show (2 : Int).toNat = 2 from rfl, show (0 : Int) ≤ 2 from by decide, show (3 : Int) < 5 from by decide, show (3 : Int).toNat = 3 from rfl, show (0 : Int) ≤ 3 from by decide, show (4 : Int) < 5 from by decide, show (4 : Int).toNat = 4 from rfl, show (0 : Int) ≤ 4 from by decide, show ¬ ((5 : Int) < 5) from by decide, cx1, cx2, cx3, cx4, cy1, cy2, cy3, cy4, cz1, cz2, cz3, cz4, cu1, cu2, cu3, cu4, cv1, cv2, cv3, cv4]; rfl); (· simp only [go_sem, Nat.reduceLT, Nat.reduceEqDiff]; rfl); (· rfl); first | (apply zc; (· simp only [go_sem, Nat.reduceLT]; rfl); (· simp only [go_sem, Nat.reduceLT]; rfl)) | (apply zg; (· simp only [go_sem, Nat.reduceLT]; rfl))) | ((first | apply za | apply zb); (· rfl); (· simp only [go_sem, Nat.reduceLT]; rfl)) | (apply z9; (· simp only [go_sem, Nat.reduceEqDiff])) | (apply z7; (· simp only [go_sem, Nat.reduceEqDiff])) | (apply zf; (· kernel_rfl); (· kernel_rfl)) | (simp only [bW, if_true, Nat.reduceEqDiff, if_false])
    all_goals try (simp only [go_sem, Nat.reduceEqDiff, bP, Nat.reduceAdd, Nat.reduceLeDiff, List.length_map, Tryd.f4]; done)
    have bu1 : u.n ≤ 3000000000 := by have := of_decide_eq_false (by assumption : decide (u.n > 3000000000) = false); omega
    have bu2 : u.d ≤ 3000000000 := by have := of_decide_eq_false (by assumption : decide (u.d > 3000000000) = false); omega
    apply zn lk4_15
    · simp only [go_sem, List.map_append, Nat.reduceEqDiff, Nat.reduceLT, Nat.reduceAdd, bI, bD, bI2, zj]
      rfl
    refine zh ?_
    try dsimp only [lp4_15, zv, zm, Tryd.f4]
    simp only [bW, if_true, Nat.reduceEqDiff, if_false]
    repeat' first | (intro hb; first | cases hb | skip) | ((first | apply z8 | apply zd); (· rfl); (· simp (disch := assumption) only [go_sem, Nat.reduceEqDiff, Nat.reduceAdd, bP, ze, Nat.reduceLeDiff, Nat.reduceLT, Nat.reduceMul, List.length_append, decide_eq_true_eq, z6, z0, Int.reduceToNat, Int.reduceLE, Int.reduceLT, Int.reduceBNe, Int.reduceBEq, show IntKind.i64.wrap (0 + 1) = 1 from by decide, show IntKind.i64.wrap (1 + 1) = 2 from by decide, show IntKind.i64.wrap (2 + 1) = 3 from by decide, show IntKind.i64.wrap (3 + 1) = 4 from by decide, show IntKind.i64.wrap (4 + 1) = 5 from by decide, show (0 : Int) < 5 from by decide, show (0 : Int).toNat = 0 from rfl, show (0 : Int) ≤ 0 from by decide, show (1 : Int) < 5 from by decide, show (1 : Int).toNat = 1 from rfl, show (0 : Int) ≤ 1 from by decide, show (2 : Int) < 5 from by decide, show (2 : Int).toNat = 2 from rfl, show (0 : Int) ≤ 2 from by decide, show (3 : Int) < 5 from by decide, show (3 : Int).toNat = 3 from rfl, show (0 : Int) ≤ 3 from by decide, show (4 : Int) < 5 from by decide, show (4 : Int).toNat = 4 from rfl, show (0 : Int) ≤ 4 from by decide, show ¬ ((5 : Int) < 5) from by decide, cx1, cx2, cx3, cx4, cy1, cy2, cy3, cy4, cz1, cz2, cz3, cz4, cu1, cu2, cu3, cu4, cv1, cv2, cv3, cv4]; rfl); (· simp only [go_sem, Nat.reduceLT, Nat.reduceEqDiff]; rfl); (· rfl); first | (apply zc; (· simp only [go_sem, Nat.reduceLT]; rfl); (· simp only [go_sem, Nat.reduceLT]; rfl)) | (apply zg; (· simp only [go_sem, Nat.reduceLT]; rfl))) | ((first | apply za | apply zb); (· rfl); (· simp only [go_sem, Nat.reduceLT]; rfl)) | (apply z9; (· simp only [go_sem, Nat.reduceEqDiff])) | (apply z7; (· simp only [go_sem, Nat.reduceEqDiff])) | (apply zf; (· kernel_rfl); (· kernel_rfl)) | (simp only [bW, if_true, Nat.reduceEqDiff, if_false])
    all_goals try (simp only [go_sem, Nat.reduceEqDiff, bP, Nat.reduceAdd, Nat.reduceLeDiff, List.length_map, Tryd.f4]; done)
    have bv1 : v.n ≤ 3000000000 := by have := of_decide_eq_false (by assumption : decide (v.n > 3000000000) = false); omega
    have bv2 : v.d ≤ 3000000000 := by have := of_decide_eq_false (by assumption : decide (v.d > 3000000000) = false); omega
    apply zn lk4_15
    · simp only [go_sem, List.map_append, Nat.reduceEqDiff, Nat.reduceLT, Nat.reduceAdd, bI, bD, bI2, zj]
      rfl
    have hT1 := times_spec rx.1 rx.2.1 ry.1 ry.2.1
    have hT2 := times_spec rx.1 rx.2.1 rv.1 rv.2.1
    have hB1 := times_le rx.1 bx1 rx.2.1 bx2 ry.1 by1 ry.2.1 by2
    have hB2 := times_le rx.1 bx1 rx.2.1 bx2 rv.1 bv1 rv.2.1 bv2
    have q1 := t22 x y rx.1 bx1 rx.2.1 bx2 ry.1 by1 ry.2.1 by2
    have q2 := t22 x v rx.1 bx1 rx.2.1 bx2 rv.1 bv1 rv.2.1 bv2
    have q3 := t23i (zS x y).n (zS x y).d z.n z.d (by have := hT1.1.1; omega) (by omega) hT1.1.2.1 (by omega) (by have := rz.1; omega) (by omega) rz.2.1 (by omega)
    have q4 := t23i u.n u.d (zS x v).n (zS x v).d (by have := ru.1; omega) (by omega) ru.2.1 (by omega) (by have := hT2.1.1; omega) (by omega) hT2.1.2.1 (by omega)
    have w1 := cmp_ge_of (a := zS x y) (b := z) hT1.1.2.1 rz.2.1 (by rw [hT1.2]; exact t1)
    have w2 := cmp_le_of (a := u) (b := zS x v) ru.2.1 hT2.1.2.1 (by rw [hT2.2]; exact t2)
    refine zh ?_
    try dsimp only [lp4_15, zv, zm, Tryd.f4]
    simp only [bW, if_true, Nat.reduceEqDiff, if_false]
    repeat' first | (intro hb; first | cases hb | skip) | ((first | apply z8 | apply zd); (· rfl); (· simp (disch := assumption) only [go_sem, Nat.reduceEqDiff, Nat.reduceAdd, bP, ze, Nat.reduceLeDiff, Nat.reduceLT, Nat.reduceMul, List.length_append, decide_eq_true_eq, z6, z0, Int.reduceToNat, Int.reduceLE, Int.reduceLT, Int.reduceBNe, Int.reduceBEq, show IntKind.i64.wrap (0 + 1) = 1 from by decide, show IntKind.i64.wrap (1 + 1) = 2 from by decide, show IntKind.i64.wrap (2 + 1) = 3 from by decide, show IntKind.i64.wrap (3 + 1) = 4 from by decide, show IntKind.i64.wrap (4 + 1) = 5 from by decide, show (0 : Int) < 5 from by decide, show (0 : Int).toNat = 0 from rfl, show (0 : Int) ≤ 0 from by decide, show (1 : Int) < 5 from by decide, show (1 : Int).toNat = 1 from rfl, show (0 : Int) ≤ 1 from by decide, show (2 : Int) < 5 from by decide, show (2 : Int).toNat = 2 from rfl, show (0 : Int) ≤ 2 from by decide, show (3 : Int) < 5 from by decide, show (3 : Int).toNat = 3 from rfl, show (0 : Int) ≤ 3 from by decide, show (4 : Int) < 5 from by decide, show (4 : Int).toNat = 4 from rfl, show (0 : Int) ≤ 4 from by decide, show ¬ ((5 : Int) < 5) from by decide, cx1, cx2, cx3, cx4, cy1, cy2, cy3, cy4, cz1, cz2, cz3, cz4, cu1, cu2, cu3, cu4, cv1, cv2, cv3, cv4, q1, q2, q3, q4, w1, w2]; rfl); (· simp only [go_sem, Nat.reduceLT, Nat.reduceEqDiff]; rfl); (· rfl); first | (apply zc; (· simp only [go_sem, Nat.reduceLT]; rfl); (· simp only [go_sem, Nat.reduceLT]; rfl)) | (apply zg; (· simp only [go_sem, Nat.reduceLT]; rfl))) | ((first | apply za | apply zb); (· rfl); (· simp only [go_sem, Nat.reduceLT]; rfl)) | (apply z9; (· simp only [go_sem, Nat.reduceEqDiff])) | (apply z7; (· simp only [go_sem, Nat.reduceEqDiff])) | (apply zf; (· kernel_rfl); (· kernel_rfl)) | (simp only [bW, if_true, Nat.reduceEqDiff, if_false])
    all_goals try simp only [go_sem, Nat.reduceEqDiff, bP, Nat.reduceAdd, Nat.reduceLeDiff, List.length_map, Tryd.f4]
    all_goals first | done | rfl | (simp_all []; done) | trace_state
  · have hab' : ((ia : Int) == (ib : Int)) = false := by simp [hab]
    refine zo (zk 4) cfn4 rfl (n := 152) rfl ?_
    simp only [bW, if_true, Nat.reduceEqDiff, if_false, zl]
    repeat' first | (intro hb; first | cases hb | skip) | ((first | apply z8 | apply zd); (· rfl); (· simp (disch := assumption) only [go_sem, Nat.reduceEqDiff, Nat.reduceAdd, bP, ze, Nat.reduceLeDiff, Nat.reduceLT, Nat.reduceMul, List.length_append, decide_eq_true_eq, z6, z0, Int.reduceToNat, Int.reduceLE, Int.reduceLT, Int.reduceBNe, Int.reduceBEq, t14, h17, e1, e2, e3, e4, e5, hab', t21', bne_self_eq_false, cx1, cx2, cx3, cx4, cy1, cy2, cy3, cy4, cz1, cz2, cz3, cz4, cu1, cu2, cu3, cu4, cv1, cv2, cv3, cv4]; rfl); (· simp only [go_sem, Nat.reduceLT, Nat.reduceEqDiff]; rfl); (· rfl); first | (apply zc; (· simp only [go_sem, Nat.reduceLT]; rfl); (· simp only [go_sem, Nat.reduceLT]; rfl)) | (apply zg; (· simp only [go_sem, Nat.reduceLT]; rfl))) | ((first | apply za | apply zb); (· rfl); (· simp only [go_sem, Nat.reduceLT]; rfl)) | (apply z9; (· simp only [go_sem, Nat.reduceEqDiff])) | (apply z7; (· simp only [go_sem, Nat.reduceEqDiff])) | (apply zf; (· kernel_rfl); (· kernel_rfl)) | (simp only [bW, if_true, Nat.reduceEqDiff, if_false])
    apply zK lk4_15
    · simp only [go_sem, List.map_append, Nat.reduceEqDiff, Nat.reduceLT, Nat.reduceAdd, bI, bD, bI2, zj]
      rfl
    refine zh ?_
    try dsimp only [lp4_15, zv, zm, Tryd.f4]
    simp only [bW, if_true, Nat.reduceEqDiff, if_false]
    repeat' first | (intro hb; first | cases hb | skip) | ((first | apply z8 | apply zd); (· rfl); (· simp (disch := assumption) only [go_sem, Nat.reduceEqDiff, Nat.reduceAdd, bP, ze, Nat.reduceLeDiff, Nat.reduceLT, Nat.reduceMul, List.length_append, decide_eq_true_eq, z6, z0, Int.reduceToNat, Int.reduceLE, Int.reduceLT, Int.reduceBNe, Int.reduceBEq, show IntKind.i64.wrap (0 + 1) = 1 from by decide, show IntKind.i64.wrap (1 + 1) = 2 from by decide, show IntKind.i64.wrap (2 + 1) = 3 from by decide, show IntKind.i64.wrap (3 + 1) = 4 from by decide, show IntKind.i64.wrap (4 + 1) = 5 from by decide, show (0 : Int) < 5 from by decide, show (0 : Int).toNat = 0 from rfl, show (0 : Int) ≤ 0 from by decide, show (1 : Int) < 5 from by decide, show (1 : Int).toNat = 1 from rfl, show (0 : Int) ≤ 1 from by decide, show (2 : Int) < 5 from by decide, show (2 : Int).toNat = 2 from rfl, show (0 : Int) ≤ 2 from by decide, show (3 : Int) < 5 from by decide, show (3 : Int).toNat = 3 from rfl, show (0 : Int) ≤ 3 from by decide, show (4 : Int) < 5 from by decide, show (4 : Int).toNat = 4 from rfl, show (0 : Int) ≤ 4 from by decide, show ¬ ((5 : Int) < 5) from by decide, cx1, cx2, cx3, cx4, cy1, cy2, cy3, cy4, cz1, cz2, cz3, cz4, cu1, cu2, cu3, cu4, cv1, cv2, cv3, cv4]; rfl); (· simp only [go_sem, Nat.reduceLT, Nat.reduceEqDiff]; rfl); (· rfl); first | (apply zc; (· simp only [go_sem, Nat.reduceLT]; rfl); (· simp only [go_sem, Nat.reduceLT]; rfl)) | (apply zg; (· simp only [go_sem, Nat.reduceLT]; rfl))) | ((first | apply za | apply zb); (· rfl); (· simp only [go_sem, Nat.reduceLT]; rfl)) | (apply z9; (· simp only [go_sem, Nat.reduceEqDiff])) | (apply z7; (· simp only [go_sem, Nat.reduceEqDiff])) | (apply zf; (· kernel_rfl); (· kernel_rfl)) | (simp only [bW, if_true, Nat.reduceEqDiff, if_false])
    all_goals try (simp only [go_sem, Nat.reduceEqDiff, bP, Nat.reduceAdd, Nat.reduceLeDiff, List.length_map, Tryd.f4]; done)
    have bx1 : x.n ≤ 3000000000 := by have := of_decide_eq_false (by assumption : decide (x.n > 3000000000) = false); omega
    have bx2 : x.d ≤ 3000000000 := by have := of_decide_eq_false (by assumption : decide (x.d > 3000000000) = false); omega
    apply zn lk4_15
    · simp only [go_sem, List.map_append, Nat.reduceEqDiff, Nat.reduceLT, Nat.reduceAdd, bI, bD, bI2, zj]
      rfl
    refine zh ?_
    try dsimp only [lp4_15, zv, zm, Tryd.f4]
    simp only [bW, if_true, Nat.reduceEqDiff, if_false]
    repeat' first | (intro hb; first | cases hb | skip) | ((first | apply z8 | apply zd); (· rfl); (· simp (disch := assumption) only [go_sem, Nat.reduceEqDiff, Nat.reduceAdd, bP, ze, Nat.reduceLeDiff, Nat.reduceLT, Nat.reduceMul, List.length_append, decide_eq_true_eq, z6, z0, Int.reduceToNat, Int.reduceLE, Int.reduceLT, Int.reduceBNe, Int.reduceBEq, show IntKind.i64.wrap (0 + 1) = 1 from by decide, show IntKind.i64.wrap (1 + 1) = 2 from by decide, show IntKind.i64.wrap (2 + 1) = 3 from by decide, show IntKind.i64.wrap (3 + 1) = 4 from by decide, show IntKind.i64.wrap (4 + 1) = 5 from by decide, show (0 : Int) < 5 from by decide, show (0 : Int).toNat = 0 from rfl, show (0 : Int) ≤ 0 from by decide, show (1 : Int) < 5 from by decide, show (1 : Int).toNat = 1 from rfl, show (0 : Int) ≤ 1 from by decide, show (2 : Int) < 5 from by decide, show (2 : Int).toNat = 2 from rfl, show (0 : Int) ≤ 2 from by decide, show (3 : Int) < 5 from by decide, show (3 : Int).toNat = 3 from rfl, show (0 : Int) ≤ 3 from by decide, show (4 : Int) < 5 from by decide, show (4 : Int).toNat = 4 from rfl, show (0 : Int) ≤ 4 from by decide, show ¬ ((5 : Int) < 5) from by decide, cx1, cx2, cx3, cx4, cy1, cy2, cy3, cy4, cz1, cz2, cz3, cz4, cu1, cu2, cu3, cu4, cv1, cv2, cv3, cv4]; rfl); (· simp only [go_sem, Nat.reduceLT, Nat.reduceEqDiff]; rfl); (· rfl); first | (apply zc; (· simp only [go_sem, Nat.reduceLT]; rfl); (· simp only [go_sem, Nat.reduceLT]; rfl)) | (apply zg; (· simp only [go_sem, Nat.reduceLT]; rfl))) | ((first | apply za | apply zb); (· rfl); (· simp only [go_sem, Nat.reduceLT]; rfl)) | (apply z9; (· simp only [go_sem, Nat.reduceEqDiff])) | (apply z7; (· simp only [go_sem, Nat.reduceEqDiff])) | (apply zf; (· kernel_rfl); (· kernel_rfl)) | (simp only [bW, if_true, Nat.reduceEqDiff, if_false])
    all_goals try (simp only [go_sem, Nat.reduceEqDiff, bP, Nat.reduceAdd, Nat.reduceLeDiff, List.length_map, Tryd.f4]; done)
    have by1 : y.n ≤ 3000000000 := by have := of_decide_eq_false (by assumption : decide (y.n > 3000000000) = false); omega
    have by2 : y.d ≤ 3000000000 := by have := of_decide_eq_false (by assumption : decide (y.d > 3000000000) = false); omega
    apply zn lk4_15
    · simp only [go_sem, List.map_append, Nat.reduceEqDiff, Nat.reduceLT, Nat.reduceAdd, bI, bD, bI2, zj]
      rfl
    refine zh ?_
    try dsimp only [lp4_15, zv, zm, Tryd.f4]
    simp only [bW, if_true, Nat.reduceEqDiff, if_false]
    repeat' first | (intro hb; first | cases hb | skip) | ((first | apply z8 | apply zd); (· rfl); (· simp (disch := assumption) only [go_sem, Nat.reduceEqDiff, Nat.reduceAdd, bP, ze, Nat.reduceLeDiff, Nat.reduceLT, Nat.reduceMul, List.length_append, decide_eq_true_eq, z6, z0, Int.reduceToNat, Int.reduceLE, Int.reduceLT, Int.reduceBNe, Int.reduceBEq, show IntKind.i64.wrap (0 + 1) = 1 from by decide, show IntKind.i64.wrap (1 + 1) = 2 from by decide, show IntKind.i64.wrap (2 + 1) = 3 from by decide, show IntKind.i64.wrap (3 + 1) = 4 from by decide, show IntKind.i64.wrap (4 + 1) = 5 from by decide, show (0 : Int) < 5 from by decide, show (0 : Int).toNat = 0 from rfl, show (0 : Int) ≤ 0 from by decide, show (1 : Int) < 5 from by decide, show (1 : Int).toNat = 1 from rfl, show (0 : Int) ≤ 1 from by decide, show (2 : Int) < 5 from by decide, show (2 : Int).toNat = 2 from rfl, show (0 : Int) ≤ 2 from by decide, show (3 : Int) < 5 from by decide, show (3 : Int).toNat = 3 from rfl, show (0 : Int) ≤ 3 from by decide, show (4 : Int) < 5 from by decide, show (4 : Int).toNat = 4 from rfl, show (0 : Int) ≤ 4 from by decide, show ¬ ((5 : Int) < 5) from by decide, cx1, cx2, cx3, cx4, cy1, cy2, cy3, cy4, cz1, cz2, cz3, cz4, cu1, cu2, cu3, cu4, cv1, cv2, cv3, cv4]; rfl); (· simp only [go_sem, Nat.reduceLT, Nat.reduceEqDiff]; rfl); (· rfl); first | (apply zc; (· simp only [go_sem, Nat.reduceLT]; rfl); (· simp only [go_sem, Nat.reduceLT]; rfl)) | (apply zg; (· simp only [go_sem, Nat.reduceLT]; rfl))) | ((first | apply za | apply zb); (· rfl); (· simp only [go_sem, Nat.reduceLT]; rfl)) | (apply z9; (· simp only [go_sem, Nat.reduceEqDiff])) | (apply z7; (· simp only [go_sem, Nat.reduceEqDiff])) | (apply zf; (· kernel_rfl); (· kernel_rfl)) | (simp only [bW, if_true, Nat.reduceEqDiff, if_false])
    all_goals try (simp only [go_sem, Nat.reduceEqDiff, bP, Nat.reduceAdd, Nat.reduceLeDiff, List.length_map, Tryd.f4]; done)
    have bz1 : z.n ≤ 3000000000 := by have := of_decide_eq_false (by assumption : decide (z.n > 3000000000) = false); omega
    have bz2 : z.d ≤ 3000000000 := by have := of_decide_eq_false (by assumption : decide (z.d > 3000000000) = false); omega
    apply zn lk4_15
    · simp only [go_sem, List.map_append, Nat.reduceEqDiff, Nat.reduceLT, Nat.reduceAdd, bI, bD, bI2, zj]
      rfl
    refine zh ?_
    try dsimp only [lp4_15, zv, zm, Tryd.f4]
    simp only [bW, if_true, Nat.reduceEqDiff, if_false]
    repeat' first | (intro hb; first | cases hb | skip) | ((first | apply z8 | apply zd); (· rfl); (· simp (disch := assumption) only [go_sem, Nat.reduceEqDiff, Nat.reduceAdd, bP, ze, Nat.reduceLeDiff, Nat.reduceLT, Nat.reduceMul, List.length_append, decide_eq_true_eq, z6, z0, Int.reduceToNat, Int.reduceLE, Int.reduceLT, Int.reduceBNe, Int.reduceBEq, show IntKind.i64.wrap (0 + 1) = 1 from by decide, show IntKind.i64.wrap (1 + 1) = 2 from by decide, show IntKind.i64.wrap (2 + 1) = 3 from by decide, show IntKind.i64.wrap (3 + 1) = 4 from by decide, show IntKind.i64.wrap (4 + 1) = 5 from by decide, show (0 : Int) < 5 from by decide, show (0 : Int).toNat = 0 from rfl, show (0 : Int) ≤ 0 from by decide, show (1 : Int) < 5 from by decide, show (1 : Int).toNat = 1 from rfl, show (0 : Int) ≤ 1 from by decide, show (2 : Int) < 5 from by decide, show (2 : Int).toNat = 2 from rfl, show (0 : Int) ≤ 2 from by decide, show (3 : Int) < 5 from by decide, show (3 : Int).toNat = 3 from rfl, show (0 : Int) ≤ 3 from by decide, show (4 : Int) < 5 from by decide, show (4 : Int).toNat = 4 from rfl, show (0 : Int) ≤ 4 from by decide, show ¬ ((5 : Int) < 5) from by decide, cx1, cx2, cx3, cx4, cy1, cy2, cy3, cy4, cz1, cz2, cz3, cz4, cu1, cu2, cu3, cu4, cv1, cv2, cv3, cv4]; rfl); (· simp only [go_sem, Nat.reduceLT, Nat.reduceEqDiff]; rfl); (· rfl); first | (apply zc; (· simp only [go_sem, Nat.reduceLT]; rfl); (· simp only [go_sem, Nat.reduceLT]; rfl)) | (apply zg; (· simp only [go_sem, Nat.reduceLT]; rfl))) | ((first | apply za | apply zb); (· rfl); (· simp only [go_sem, Nat.reduceLT]; rfl)) | (apply z9; (· simp only [go_sem, Nat.reduceEqDiff])) | (apply z7; (· simp only [go_sem, Nat.reduceEqDiff])) | (apply zf; (· kernel_rfl); (· kernel_rfl)) | (simp only [bW, if_true, Nat.reduceEqDiff, if_false])
    all_goals try (simp only [go_sem, Nat.reduceEqDiff, bP, Nat.reduceAdd, Nat.reduceLeDiff, List.length_map, Tryd.f4]; done)
    have bu1 : u.n ≤ 3000000000 := by have := of_decide_eq_false (by assumption : decide (u.n > 3000000000) = false); omega
    have bu2 : u.d ≤ 3000000000 := by have := of_decide_eq_false (by assumption : decide (u.d > 3000000000) = false); omega
    apply zn lk4_15
    · simp only [go_sem, List.map_append, Nat.reduceEqDiff, Nat.reduceLT, Nat.reduceAdd, bI, bD, bI2, zj]
      rfl
    refine zh ?_
    try dsimp only [lp4_15, zv, zm, Tryd.f4]
    simp only [bW, if_true, Nat.reduceEqDiff, if_false]
    repeat' first | (intro hb; first | cases hb | skip) | ((first | apply z8 | apply zd); (· rfl); (· simp (disch := assumption) only [go_sem, Nat.reduceEqDiff, Nat.reduceAdd, bP, ze, Nat.reduceLeDiff, Nat.reduceLT, Nat.reduceMul, List.length_append, decide_eq_true_eq, z6, z0, Int.reduceToNat, Int.reduceLE, Int.reduceLT, Int.reduceBNe, Int.reduceBEq, show IntKind.i64.wrap (0 + 1) = 1 from by decide, show IntKind.i64.wrap (1 + 1) = 2 from by decide, show IntKind.i64.wrap (2 + 1) = 3 from by decide, show IntKind.i64.wrap (3 + 1) = 4 from by decide, show IntKind.i64.wrap (4 + 1) = 5 from by decide, show (0 : Int) < 5 from by decide, show (0 : Int).toNat = 0 from rfl, show (0 : Int) ≤ 0 from by decide, show (1 : Int) < 5 from by decide, show (1 : Int).toNat = 1 from rfl, show (0 : Int) ≤ 1 from by decide, show (2 : Int) < 5 from by decide, show (2 : Int).toNat = 2 from rfl, show (0 : Int) ≤ 2 from by decide, show (3 : Int) < 5 from by decide, show (3 : Int).toNat = 3 from rfl, show (0 : Int) ≤ 3 from by decide, show (4 : Int) < 5 from by decide, show (4 : Int).toNat = 4 from rfl, show (0 : Int) ≤ 4 from by decide, show ¬ ((5 : Int) < 5) from by decide, cx1, cx2, cx3, cx4, cy1, cy2, cy3, cy4, cz1, cz2, cz3, cz4, cu1, cu2, cu3, cu4, cv1, cv2, cv3, cv4]; rfl); (· simp only [go_sem, Nat.reduceLT, Nat.reduceEqDiff]; rfl); (· rfl); first | (apply zc; (· simp only [go_sem, Nat.reduceLT]; rfl); (· simp only [go_sem, Nat.reduceLT]; rfl)) | (apply zg; (· simp only [go_sem, Nat.reduceLT]; rfl))) | ((first | apply za | apply zb); (· rfl); (· simp only [go_sem, Nat.reduceLT]; rfl)) | (apply z9; (· simp only [go_sem, Nat.reduceEqDiff])) | (apply z7; (· simp only [go_sem, Nat.reduceEqDiff])) | (apply zf; (· kernel_rfl); (· kernel_rfl)) | (simp only [bW, if_true, Nat.reduceEqDiff, if_false])
    all_goals try (simp only [go_sem, Nat.reduceEqDiff, bP, Nat.reduceAdd, Nat.reduceLeDiff, List.length_map, Tryd.f4]; done)
    have bv1 : v.n ≤ 3000000000 := by have := of_decide_eq_false (by assumption : decide (v.n > 3000000000) = false); omega
    have bv2 : v.d ≤ 3000000000 := by have := of_decide_eq_false (by assumption : decide (v.d > 3000000000) = false); omega
    apply zn lk4_15
    · simp only [go_sem, List.map_append, Nat.reduceEqDiff, Nat.reduceLT, Nat.reduceAdd, bI, bD, bI2, zj]
      rfl
    have hT1 := times_spec rx.1 rx.2.1 ry.1 ry.2.1
    have hT2 := times_spec rx.1 rx.2.1 rv.1 rv.2.1
    have hB1 := times_le rx.1 bx1 rx.2.1 bx2 ry.1 by1 ry.2.1 by2
    have hB2 := times_le rx.1 bx1 rx.2.1 bx2 rv.1 bv1 rv.2.1 bv2
    have q1 := t22 x y rx.1 bx1 rx.2.1 bx2 ry.1 by1 ry.2.1 by2
    have q2 := t22 x v rx.1 bx1 rx.2.1 bx2 rv.1 bv1 rv.2.1 bv2
    have q3 := t23i (zS x y).n (zS x y).d z.n z.d (by have := hT1.1.1; omega) (by omega) hT1.1.2.1 (by omega) (by have := rz.1; omega) (by omega) rz.2.1 (by omega)
    have q4 := t23i u.n u.d (zS x v).n (zS x v).d (by have := ru.1; omega) (by omega) ru.2.1 (by omega) (by have := hT2.1.1; omega) (by omega) hT2.1.2.1 (by omega)
    have w1 := cmp_ge_of (a := zS x y) (b := z) hT1.1.2.1 rz.2.1 (by rw [hT1.2]; exact t1)
    have w2 := cmp_le_of (a := u) (b := zS x v) ru.2.1 hT2.1.2.1 (by rw [hT2.2]; exact t2)
    refine zh ?_
    try dsimp only [lp4_15, zv, zm, Tryd.f4]
    simp only [bW, if_true, Nat.reduceEqDiff, if_false]
    repeat' first | (intro hb; first | cases hb | skip) | ((first | apply z8 | apply zd); (· rfl); (· simp (disch := assumption) only [go_sem, Nat.reduceEqDiff, Nat.reduceAdd, bP, ze, Nat.reduceLeDiff, Nat.reduceLT, Nat.reduceMul, List.length_append, decide_eq_true_eq, z6, z0, Int.reduceToNat, Int.reduceLE, Int.reduceLT, Int.reduceBNe, Int.reduceBEq, show IntKind.i64.wrap (0 + 1) = 1 from by decide, show IntKind.i64.wrap (1 + 1) = 2 from by decide, show IntKind.i64.wrap (2 + 1) = 3 from by decide, show IntKind.i64.wrap (3 + 1) = 4 from by decide, show IntKind.i64.wrap (4 + 1) = 5 from by decide, show (0 : Int) < 5 from by decide, show (0 : Int).toNat = 0 from rfl, show (0 : Int) ≤ 0 from by decide, show (1 : Int) < 5 from by decide, show (1 : Int).toNat = 1 from rfl, show (0 : Int) ≤ 1 from by decide, show (2 : Int) < 5 from by decide, show (2 : Int).toNat = 2 from rfl, show (0 : Int) ≤ 2 from by decide, show (3 : Int) < 5 from by decide, show (3 : Int).toNat = 3 from rfl, show (0 : Int) ≤ 3 from by decide, show (4 : Int) < 5 from by decide, show (4 : Int).toNat = 4 from rfl, show (0 : Int) ≤ 4 from by decide, show ¬ ((5 : Int) < 5) from by decide, cx1, cx2, cx3, cx4, cy1, cy2, cy3, cy4, cz1, cz2, cz3, cz4, cu1, cu2, cu3, cu4, cv1, cv2, cv3, cv4, q1, q2, q3, q4, w1, w2]; rfl); (· simp only [go_sem, Nat.reduceLT, Nat.reduceEqDiff]; rfl); (· rfl); first | (apply zc; (· simp only [go_sem, Nat.reduceLT]; rfl); (· simp only [go_sem, Nat.reduceLT]; rfl)) | (apply zg; (· simp only [go_sem, Nat.reduceLT]; rfl))) | ((first | apply za | apply zb); (· rfl); (· simp only [go_sem, Nat.reduceLT]; rfl)) | (apply z9; (· simp only [go_sem, Nat.reduceEqDiff])) | (apply z7; (· simp only [go_sem, Nat.reduceEqDiff])) | (apply zf; (· kernel_rfl); (· kernel_rfl)) | (simp only [bW, if_true, Nat.reduceEqDiff, if_false])
    all_goals try simp only [go_sem, Nat.reduceEqDiff, bP, Nat.reduceAdd, Nat.reduceLeDiff, List.length_map, Tryd.f4]
    all_goals first | done | rfl | (simp_all []; done) | trace_state

end Go.VS
namespace Go.VS
open Go Go.Proofs
set_option maxHeartbeats 0
set_option linter.unusedSimpArgs false

theorem ck58 {S : Sm} {objs : List (Nat × Ob)} {nxt : Nat} {args : List D} : zw cfg S objs nxt 58 args = callInl S objs nxt 58 args := by
  simp only [zw, cfg_fn, cfn58]
  rfl
theorem ck59 {S : Sm} {objs : List (Nat × Ob)} {nxt : Nat} {args : List D} : zw cfg S objs nxt 59 args = callInl S objs nxt 59 args := by
  simp only [zw, cfg_fn, cfn59]
  rfl
theorem ck115 {S : Sm} {objs : List (Nat × Ob)} {nxt : Nat} {args : List D} : zw cfg S objs nxt 115 args = callInl S objs nxt 115 args := by
  simp only [zw, cfg_fn, cfn115]
  rfl
theorem ck116 {S : Sm} {objs : List (Nat × Ob)} {nxt : Nat} {args : List D} : zw cfg S objs nxt 116 args = callInl S objs nxt 116 args := by
  simp only [zw, cfg_fn, cfn116]
  rfl
theorem n58_3 : (lim cfg).inl 58 [.sl true [] 0 none] [] 3 = some (.sl true [] 0 none, [], 3) ∧ (lim cfg).inl 58 [.sl false [] 5 none] [] 3 = some (.lsl 3 0 0 5 (some 0), [(3, ⟨[], 5, false⟩)], 4) := ⟨lim_inl.2 ⟨30, by kernel_rfl⟩, lim_inl.2 ⟨30, by kernel_rfl⟩⟩
theorem n59_3 : (lim cfg).inl 59 [.sl true [] 0 none] [] 3 = some (.sl true [] 0 none, [], 3) ∧ (lim cfg).inl 59 [.sl false [] 7 none] [] 3 = some (.lsl 3 0 0 7 (some 0), [(3, ⟨[], 7, false⟩)], 4) := ⟨lim_inl.2 ⟨30, by kernel_rfl⟩, lim_inl.2 ⟨30, by kernel_rfl⟩⟩
theorem n59_4 : (lim cfg).inl 59 [.sl true [] 0 none] [] 4 = some (.sl true [] 0 none, [], 4) ∧ (lim cfg).inl 59 [.sl false [] 7 none] [] 4 = some (.lsl 4 0 0 7 (some 0), [(4, ⟨[], 7, false⟩)], 5) := ⟨lim_inl.2 ⟨30, by kernel_rfl⟩, lim_inl.2 ⟨30, by kernel_rfl⟩⟩
theorem n59_5 : (lim cfg).inl 59 [.sl true [] 0 none] [] 5 = some (.sl true [] 0 none, [], 5) ∧ (lim cfg).inl 59 [.sl false [] 7 none] [] 5 = some (.lsl 5 0 0 7 (some 0), [(5, ⟨[], 7, false⟩)], 6) := ⟨lim_inl.2 ⟨30, by kernel_rfl⟩, lim_inl.2 ⟨30, by kernel_rfl⟩⟩
theorem sub_okM {ms : List Mark} : ∀ l : List D, l.Sublist (ms.map encM) → allOk 5 l = true := by
  intro l hl
  obtain ⟨ks, -, rfl⟩ := List.sublist_map_iff.1 hl
  exact zR.allOk ks
theorem sub_okJ {ms : List Join} : ∀ l : List D, l.Sublist (ms.map zO) → allOk 7 l = true := by
  intro l hl
  obtain ⟨ks, -, rfl⟩ := List.sublist_map_iff.1 hl
  exact okJ'.allOk ks
def zr (p : Paper) (r : Reason) : Paper := if r.join then ⟨p.sheets, p.nm, p.marks, p.nj, p.joins.eraseIdx r.at_.toNat⟩ else ⟨p.sheets, p.nm, p.marks.eraseIdx r.at_.toNat, p.nj, p.joins⟩
theorem erase_enc {α : Type} (f : α → D) (l : List α) (i : Nat) (z : D) (n : Nat) (hi : i < n) (hn : l.length = n) : List.take (n - 1) (List.take i (l.map f) ++ List.drop (i + 1) (l.map f) ++ [z]) = (l.eraseIdx i).map f := by
  rw [List.eraseIdx_eq_take_drop_succ, List.map_append, List.map_take, List.map_drop, List.take_left']
  simp; omega

theorem t103m (p : Paper) (i : Nat) (b : Bool) (hwf : p.wf) (h1 : p.marks.length ≤ 1000) (h2 : p.joins.length ≤ 1000) (hi : i < p.marks.length) : (lim cfg).pure 103 [zj p, .agg [B false, I (i : Nat), B b]] = some (zj (zr p ⟨false, (i : Nat), b⟩)) := by
  obtain ⟨sh, nm, M, nj, J⟩ := p
  have hw : IntKind.i64.wrap ((i : Int) + 1) = ((i + 1 : Nat) : Int) := by rw [wrap_i64 (by simp at h1 hi; omega) (by simp at h1 hi; omega)]; omega
  obtain ⟨w1, w2, -, -⟩ := hwf
  simp only [] at w1 w2 h1 h2 hi
  cases nm with
  | true => rw [w1 rfl] at hi; simp at hi
  | false =>
    clear w1
    cases M with
    | nil => simp at hi
    | cons m ms =>
      simp only [List.length_cons] at h1 hi
      cases nj with
      | true =>
        rw [w2 rfl]
        clear w2
        have q1 := i58_3 m ms (by omega)
        have q2 := n59_5.1
        have q3 := i116_4 ((m :: ms).map encM) (ms.length + 1) i 6 (by omega) (by simp) (by omega) (by omega) sub_okM
        have q4 := erase_enc encM (m :: ms) i (.agg [I 0, I 0, I 0, I 0, I 0]) (ms.length + 1) (by omega) rfl
        try simp only [List.map_cons, Nat.add_sub_cancel] at q1
        try simp only [List.map_cons, Nat.add_sub_cancel] at q2
        try simp only [List.map_cons, Nat.add_sub_cancel] at q3
        simp only [List.map_cons, List.drop, Nat.add_sub_cancel] at q4
        have q5 : (ms.length ≤ (List.take i (encM m :: List.map encM ms) ++ List.drop i (List.map encM ms) ++ [D.agg [I 0, I 0, I 0, I 0, I 0]]).length) = True := by simp; omega
        refine zo (zk 103) cfn103 rfl (n := 36) rfl ?_
        generalize hF : finP cfg Tryd.f103 = F
        simp only [bW, if_true, Nat.reduceEqDiff, if_false, zl]
        repeat' first | (intro hb; first | cases hb | skip) | ((first | apply z8 | apply zd); (· rfl); (· simp (disch := assumption) only [go_sem, Nat.reduceEqDiff, Nat.reduceAdd, bP, ze, Nat.reduceLeDiff, Nat.reduceLT, Nat.reduceMul, List.length_append, decide_eq_true_eq, z6, z0, Int.reduceToNat, Int.reduceLE, Int.reduceLT, Int.reduceBNe, Int.reduceBEq, callInl, allBelow, only, keysO, allUpd, bI, ck58, ck59, ck115, ck116, q1, q2, q3, hw, reaches, zR.ids, zR.idsL, okJ'.ids, okJ'.idsL, zR.snap, zR.snapAll, okJ'.snap, okJ'.snapAll, q4]; rfl); (· simp only [go_sem, Nat.reduceLT, Nat.reduceEqDiff]; rfl); (· rfl); first | (apply zc; (· simp only [go_sem, Nat.reduceLT]; rfl); (· simp only [go_sem, Nat.reduceLT]; rfl)) | (apply zg; (· simp only [go_sem, Nat.reduceLT]; rfl))) | ((first | apply za | apply zb); (· rfl); (· simp only [go_sem, Nat.reduceLT]; rfl)) | (apply z9; (· simp only [go_sem, Nat.reduceEqDiff])) | (apply z7; (· simp only [go_sem, Nat.reduceEqDiff])) | (apply zf; (· kernel_rfl); (· kernel_rfl)) | (simp only [bW, if_true, Nat.reduceEqDiff, if_false])
        subst hF
        all_goals simp only [go_sem, Nat.reduceEqDiff, bP, Nat.reduceAdd, Nat.reduceLeDiff, List.length_map, Tryd.f103, z6, q4, q5, zR.snapAll, okJ'.snapAll, zR.snap, okJ'.snap]
        all_goals first | rfl | trace_state
      | false =>
        clear w2
        cases J with
        | nil =>
          have q1 := i58_3 m ms (by omega)
          have q2 := n59_5.2
          have q3 := i116_4 ((m :: ms).map encM) (ms.length + 1) i 7 (by omega) (by simp) (by omega) (by omega) sub_okM
          have q4 := erase_enc encM (m :: ms) i (.agg [I 0, I 0, I 0, I 0, I 0]) (ms.length + 1) (by omega) rfl
          try simp only [List.map_cons, Nat.add_sub_cancel] at q1
          try simp only [List.map_cons, Nat.add_sub_cancel] at q2
          try simp only [List.map_cons, Nat.add_sub_cancel] at q3
          simp only [List.map_cons, List.drop, Nat.add_sub_cancel] at q4
          have q5 : (ms.length ≤ (List.take i (encM m :: List.map encM ms) ++ List.drop i (List.map encM ms) ++ [D.agg [I 0, I 0, I 0, I 0, I 0]]).length) = True := by simp; omega
          refine zo (zk 103) cfn103 rfl (n := 36) rfl ?_
          generalize hF : finP cfg Tryd.f103 = F
          simp only [bW, if_true, Nat.reduceEqDiff, if_false, zl]
          repeat' first | (intro hb; first | cases hb | skip) | ((first | apply z8 | apply zd); (· rfl); (· simp (disch := assumption) only [go_sem, Nat.reduceEqDiff, Nat.reduceAdd, bP, ze, Nat.reduceLeDiff, Nat.reduceLT, Nat.reduceMul, List.length_append, decide_eq_true_eq, z6, z0, Int.reduceToNat, Int.reduceLE, Int.reduceLT, Int.reduceBNe, Int.reduceBEq, callInl, allBelow, only, keysO, allUpd, bI, ck58, ck59, ck115, ck116, q1, q2, q3, hw, reaches, zR.ids, zR.idsL, okJ'.ids, okJ'.idsL, zR.snap, zR.snapAll, okJ'.snap, okJ'.snapAll, q4]; rfl); (· simp only [go_sem, Nat.reduceLT, Nat.reduceEqDiff]; rfl); (· rfl); first | (apply zc; (· simp only [go_sem, Nat.reduceLT]; rfl); (· simp only [go_sem, Nat.reduceLT]; rfl)) | (apply zg; (· simp only [go_sem, Nat.reduceLT]; rfl))) | ((first | apply za | apply zb); (· rfl); (· simp only [go_sem, Nat.reduceLT]; rfl)) | (apply z9; (· simp only [go_sem, Nat.reduceEqDiff])) | (apply z7; (· simp only [go_sem, Nat.reduceEqDiff])) | (apply zf; (· kernel_rfl); (· kernel_rfl)) | (simp only [bW, if_true, Nat.reduceEqDiff, if_false])
          subst hF
          all_goals simp only [go_sem, Nat.reduceEqDiff, bP, Nat.reduceAdd, Nat.reduceLeDiff, List.length_map, Tryd.f103, z6, q4, q5, zR.snapAll, okJ'.snapAll, zR.snap, okJ'.snap]
          all_goals first | rfl | trace_state
        | cons j js =>
          simp only [List.length_cons] at h2
          have q1 := i58_3 m ms (by omega)
          have q2 := i59_5 j js (by omega)
          have q3 := i116_4 ((m :: ms).map encM) (ms.length + 1) i 8 (by omega) (by simp) (by omega) (by omega) sub_okM
          have q4 := erase_enc encM (m :: ms) i (.agg [I 0, I 0, I 0, I 0, I 0]) (ms.length + 1) (by omega) rfl
          try simp only [List.map_cons, Nat.add_sub_cancel] at q1
          try simp only [List.map_cons, Nat.add_sub_cancel] at q2
          try simp only [List.map_cons, Nat.add_sub_cancel] at q3
          simp only [List.map_cons, List.drop, Nat.add_sub_cancel] at q4
          have q5 : (ms.length ≤ (List.take i (encM m :: List.map encM ms) ++ List.drop i (List.map encM ms) ++ [D.agg [I 0, I 0, I 0, I 0, I 0]]).length) = True := by simp; omega
          refine zo (zk 103) cfn103 rfl (n := 36) rfl ?_
          generalize hF : finP cfg Tryd.f103 = F
          simp only [bW, if_true, Nat.reduceEqDiff, if_false, zl]
          repeat' first | (intro hb; first | cases hb | skip) | ((first | apply z8 | apply zd); (· rfl); (· simp (disch := assumption) only [go_sem, Nat.reduceEqDiff, Nat.reduceAdd, bP, ze, Nat.reduceLeDiff, Nat.reduceLT, Nat.reduceMul, List.length_append, decide_eq_true_eq, z6, z0, Int.reduceToNat, Int.reduceLE, Int.reduceLT, Int.reduceBNe, Int.reduceBEq, callInl, allBelow, only, keysO, allUpd, bI, ck58, ck59, ck115, ck116, q1, q2, q3, hw, reaches, zR.ids, zR.idsL, okJ'.ids, okJ'.idsL, zR.snap, zR.snapAll, okJ'.snap, okJ'.snapAll, q4]; rfl); (· simp only [go_sem, Nat.reduceLT, Nat.reduceEqDiff]; rfl); (· rfl); first | (apply zc; (· simp only [go_sem, Nat.reduceLT]; rfl); (· simp only [go_sem, Nat.reduceLT]; rfl)) | (apply zg; (· simp only [go_sem, Nat.reduceLT]; rfl))) | ((first | apply za | apply zb); (· rfl); (· simp only [go_sem, Nat.reduceLT]; rfl)) | (apply z9; (· simp only [go_sem, Nat.reduceEqDiff])) | (apply z7; (· simp only [go_sem, Nat.reduceEqDiff])) | (apply zf; (· kernel_rfl); (· kernel_rfl)) | (simp only [bW, if_true, Nat.reduceEqDiff, if_false])
          subst hF
          all_goals simp only [go_sem, Nat.reduceEqDiff, bP, Nat.reduceAdd, Nat.reduceLeDiff, List.length_map, Tryd.f103, z6, q4, q5, zR.snapAll, okJ'.snapAll, zR.snap, okJ'.snap]
          all_goals first | rfl | trace_state

theorem t103j (p : Paper) (i : Nat) (b : Bool) (hwf : p.wf) (h1 : p.marks.length ≤ 1000) (h2 : p.joins.length ≤ 1000) (hi : i < p.joins.length) : (lim cfg).pure 103 [zj p, .agg [B true, I (i : Nat), B b]] = some (zj (zr p ⟨true, (i : Nat), b⟩)) := by
  obtain ⟨sh, nm, M, nj, J⟩ := p
  have hw : IntKind.i64.wrap ((i : Int) + 1) = ((i + 1 : Nat) : Int) := by rw [wrap_i64 (by simp at h2 hi; omega) (by simp at h2 hi; omega)]; omega
  obtain ⟨w1, w2, -, -⟩ := hwf
  simp only [] at w1 w2 h1 h2 hi
  cases nj with
  | true => rw [w2 rfl] at hi; simp at hi
  | false =>
    clear w2
    cases J with
    | nil => simp at hi
    | cons j js =>
      simp only [List.length_cons] at h2 hi
      cases nm with
      | true =>
        rw [w1 rfl]
        clear w1
        have q1 := n58_3.1
        have q2 := i59_3 j js (by omega)
        have q3 := i115_4 ((j :: js).map zO) (js.length + 1) i 6 (by omega) (by simp) (by omega) (by omega) sub_okJ
        have q4 := erase_enc zO (j :: js) i (.agg [I 0, I 0, I 0, I 0, I 0, I 0, I 0]) (js.length + 1) (by omega) rfl
        try simp only [List.map_cons, Nat.add_sub_cancel] at q1
        try simp only [List.map_cons, Nat.add_sub_cancel] at q2
        try simp only [List.map_cons, Nat.add_sub_cancel] at q3
        simp only [List.map_cons, List.drop, Nat.add_sub_cancel] at q4
        have q5 : (js.length ≤ (List.take i (zO j :: List.map zO js) ++ List.drop i (List.map zO js) ++ [D.agg [I 0, I 0, I 0, I 0, I 0, I 0, I 0]]).length) = True := by simp; omega
        refine zo (zk 103) cfn103 rfl (n := 36) rfl ?_
        generalize hF : finP cfg Tryd.f103 = F
        simp only [bW, if_true, Nat.reduceEqDiff, if_false, zl]
        repeat' first | (intro hb; first | cases hb | skip) | ((first | apply z8 | apply zd); (· rfl); (· simp (disch := assumption) only [go_sem, Nat.reduceEqDiff, Nat.reduceAdd, bP, ze, Nat.reduceLeDiff, Nat.reduceLT, Nat.reduceMul, List.length_append, decide_eq_true_eq, z6, z0, Int.reduceToNat, Int.reduceLE, Int.reduceLT, Int.reduceBNe, Int.reduceBEq, callInl, allBelow, only, keysO, allUpd, bI, ck58, ck59, ck115, ck116, q1, q2, q3, hw, reaches, zR.ids, zR.idsL, okJ'.ids, okJ'.idsL, zR.snap, zR.snapAll, okJ'.snap, okJ'.snapAll, q4]; rfl); (· simp only [go_sem, Nat.reduceLT, Nat.reduceEqDiff]; rfl); (· rfl); first | (apply zc; (· simp only [go_sem, Nat.reduceLT]; rfl); (· simp only [go_sem, Nat.reduceLT]; rfl)) | (apply zg; (· simp only [go_sem, Nat.reduceLT]; rfl))) | ((first | apply za | apply zb); (· rfl); (· simp only [go_sem, Nat.reduceLT]; rfl)) | (apply z9; (· simp only [go_sem, Nat.reduceEqDiff])) | (apply z7; (· simp only [go_sem, Nat.reduceEqDiff])) | (apply zf; (· kernel_rfl); (· kernel_rfl)) | (simp only [bW, if_true, Nat.reduceEqDiff, if_false])
        subst hF
        all_goals simp only [go_sem, Nat.reduceEqDiff, bP, Nat.reduceAdd, Nat.reduceLeDiff, List.length_map, Tryd.f103, z6, q4, q5, zR.snapAll, okJ'.snapAll, zR.snap, okJ'.snap]
        all_goals first | rfl | trace_state
      | false =>
        clear w1
        cases M with
        | nil =>
          have q1 := n58_3.2
          have q2 := i59_4 j js (by omega)
          have q3 := i115_5 ((j :: js).map zO) (js.length + 1) i 7 (by omega) (by simp) (by omega) (by omega) sub_okJ
          have q4 := erase_enc zO (j :: js) i (.agg [I 0, I 0, I 0, I 0, I 0, I 0, I 0]) (js.length + 1) (by omega) rfl
          try simp only [List.map_cons, Nat.add_sub_cancel] at q1
          try simp only [List.map_cons, Nat.add_sub_cancel] at q2
          try simp only [List.map_cons, Nat.add_sub_cancel] at q3
          simp only [List.map_cons, List.drop, Nat.add_sub_cancel] at q4
          have q5 : (js.length ≤ (List.take i (zO j :: List.map zO js) ++ List.drop i (List.map zO js) ++ [D.agg [I 0, I 0, I 0, I 0, I 0, I 0, I 0]]).length) = True := by simp; omega
          refine zo (zk 103) cfn103 rfl (n := 36) rfl ?_
          generalize hF : finP cfg Tryd.f103 = F
          simp only [bW, if_true, Nat.reduceEqDiff, if_false, zl]
          repeat' first | (intro hb; first | cases hb | skip) | ((first | apply z8 | apply zd); (· rfl); (· simp (disch := assumption) only [go_sem, Nat.reduceEqDiff, Nat.reduceAdd, bP, ze, Nat.reduceLeDiff, Nat.reduceLT, Nat.reduceMul, List.length_append, decide_eq_true_eq, z6, z0, Int.reduceToNat, Int.reduceLE, Int.reduceLT, Int.reduceBNe, Int.reduceBEq, callInl, allBelow, only, keysO, allUpd, bI, ck58, ck59, ck115, ck116, q1, q2, q3, hw, reaches, zR.ids, zR.idsL, okJ'.ids, okJ'.idsL, zR.snap, zR.snapAll, okJ'.snap, okJ'.snapAll, q4]; rfl); (· simp only [go_sem, Nat.reduceLT, Nat.reduceEqDiff]; rfl); (· rfl); first | (apply zc; (· simp only [go_sem, Nat.reduceLT]; rfl); (· simp only [go_sem, Nat.reduceLT]; rfl)) | (apply zg; (· simp only [go_sem, Nat.reduceLT]; rfl))) | ((first | apply za | apply zb); (· rfl); (· simp only [go_sem, Nat.reduceLT]; rfl)) | (apply z9; (· simp only [go_sem, Nat.reduceEqDiff])) | (apply z7; (· simp only [go_sem, Nat.reduceEqDiff])) | (apply zf; (· kernel_rfl); (· kernel_rfl)) | (simp only [bW, if_true, Nat.reduceEqDiff, if_false])
          subst hF
          all_goals simp only [go_sem, Nat.reduceEqDiff, bP, Nat.reduceAdd, Nat.reduceLeDiff, List.length_map, Tryd.f103, z6, q4, q5, zR.snapAll, okJ'.snapAll, zR.snap, okJ'.snap]
          all_goals first | rfl | trace_state
        | cons m ms =>
          simp only [List.length_cons] at h1
          have q1 := i58_3 m ms (by omega)
          have q2 := i59_5 j js (by omega)
          have q3 := i115_6 ((j :: js).map zO) (js.length + 1) i 8 (by omega) (by simp) (by omega) (by omega) sub_okJ
          have q4 := erase_enc zO (j :: js) i (.agg [I 0, I 0, I 0, I 0, I 0, I 0, I 0]) (js.length + 1) (by omega) rfl
          try simp only [List.map_cons, Nat.add_sub_cancel] at q1
          try simp only [List.map_cons, Nat.add_sub_cancel] at q2
          try simp only [List.map_cons, Nat.add_sub_cancel] at q3
          simp only [List.map_cons, List.drop, Nat.add_sub_cancel] at q4
          have q5 : (js.length ≤ (List.take i (zO j :: List.map zO js) ++ List.drop i (List.map zO js) ++ [D.agg [I 0, I 0, I 0, I 0, I 0, I 0, I 0]]).length) = True := by simp; omega
          refine zo (zk 103) cfn103 rfl (n := 36) rfl ?_
          generalize hF : finP cfg Tryd.f103 = F
          simp only [bW, if_true, Nat.reduceEqDiff, if_false, zl]
          repeat' first | (intro hb; first | cases hb | skip) | ((first | apply z8 | apply zd); (· rfl); (· simp (disch := assumption) only [go_sem, Nat.reduceEqDiff, Nat.reduceAdd, bP, ze, Nat.reduceLeDiff, Nat.reduceLT, Nat.reduceMul, List.length_append, decide_eq_true_eq, z6, z0, Int.reduceToNat, Int.reduceLE, Int.reduceLT, Int.reduceBNe, Int.reduceBEq, callInl, allBelow, only, keysO, allUpd, bI, ck58, ck59, ck115, ck116, q1, q2, q3, hw, reaches, zR.ids, zR.idsL, okJ'.ids, okJ'.idsL, zR.snap, zR.snapAll, okJ'.snap, okJ'.snapAll, q4]; rfl); (· simp only [go_sem, Nat.reduceLT, Nat.reduceEqDiff]; rfl); (· rfl); first | (apply zc; (· simp only [go_sem, Nat.reduceLT]; rfl); (· simp only [go_sem, Nat.reduceLT]; rfl)) | (apply zg; (· simp only [go_sem, Nat.reduceLT]; rfl))) | ((first | apply za | apply zb); (· rfl); (· simp only [go_sem, Nat.reduceLT]; rfl)) | (apply z9; (· simp only [go_sem, Nat.reduceEqDiff])) | (apply z7; (· simp only [go_sem, Nat.reduceEqDiff])) | (apply zf; (· kernel_rfl); (· kernel_rfl)) | (simp only [bW, if_true, Nat.reduceEqDiff, if_false])
          subst hF
          all_goals simp only [go_sem, Nat.reduceEqDiff, bP, Nat.reduceAdd, Nat.reduceLeDiff, List.length_map, Tryd.f103, z6, q4, q5, zR.snapAll, okJ'.snapAll, zR.snap, okJ'.snap]
          all_goals first | rfl | trace_state

end Go.VS
namespace Go.VS
open Go Go.Proofs
set_option maxHeartbeats 0
set_option linter.unusedSimpArgs false

theorem okW : EncOK 3 zH := ⟨fun _ _ _ => rfl, fun _ _ => rfl, fun _ _ _ => rfl, fun _ => ⟨rfl, rfl⟩⟩
def idxs (b : Bool) : Nat → Nat → List Reason
  | _, 0 => []
  | i, m + 1 => ⟨b, (i : Nat), false⟩ :: idxs b (i + 1) m
theorem idxs_succ (b : Bool) {i m : Nat} : idxs b i (m + 1) = ⟨b, (i : Nat), false⟩ :: idxs b (i + 1) m := rfl
theorem idxs_len {b : Bool} : ∀ {m i : Nat}, (idxs b i m).length = m
  | 0, _ => rfl
  | m + 1, i => by simp [idxs, idxs_len]
def reasF (p : Paper) : List Reason := idxs false 0 p.marks.length ++ idxs true 0 p.joins.length
/-- A slice of reasons, nil where there are none. -/
theorem gS_W (l : List Reason) : gS 3 zH l = .sl l.isEmpty (l.map zH) (zs l.isEmpty 3) none := by cases l <;> rfl
theorem len_gsW (l : List Reason) (hl : l.length ≤ 1000000) : lenT cfg #[70] (gS 3 zH l) = some (I l.length) := by
  cases l with
  | nil => rfl
  | cons _ _ =>
    simp only [go_sem, gS, List.length_map]

noncomputable def lp102_2 : Code := zv [1, 0, 1, 0, 0] (zm Tryd.f102)
theorem lk102_2 : cfg.keep 102 (zq lp102_2) = [1, 2, 7, 8] := by kernel_rfl
noncomputable def lp102_7 : Code := zv [1, 1, 0, 1, 0, 0] (zm Tryd.f102)
theorem lk102_7 : cfg.keep 102 (zq lp102_7) = [2, 19, 20] := by kernel_rfl

theorem L102_2 {F : Exit → St → Option D} (p : Paper) (k : List Kt) (x : D) (hle0 : p.marks.length ≤ 1000) : ∀ (m i : Nat) (acc : List Reason), i + m = p.marks.length → acc.length + m ≤ 3000 →
    (zB cfg (lim cfg) 102 F k (.exit 0) ⟨30, [(9, B false), (1, .lref 0 0 3 0), (2, gD 1 3 (acc ++ idxs false i m)), (7, I p.marks.length), (8, I (p.marks.length : Nat))], (0, ⟨[zj p], 3, false⟩) :: gO 1 3 zH (acc ++ idxs false i m), gN 1 (acc ++ idxs false i m), 0⟩ = some x) →
    EvL cfg (lim cfg) 102 F lp102_2 k ⟨30, [(1, .lref 0 0 3 0), (2, gD 1 3 (acc)), (7, I p.marks.length), (8, I (i : Nat))], (0, ⟨[zj p], 3, false⟩) :: gO 1 3 zH (acc), gN 1 (acc), 0⟩ = some x := by
  intro m
  induction m with
  | zero =>
    intro i acc hi he h
    have hi' : i = p.marks.length := by omega
    subst hi'
    rw [idxs, List.append_nil] at h
    refine zh ?_
    try dsimp only [lp102_2, zv, zm, Tryd.f102]
    simp only [bW, if_true, Nat.reduceEqDiff, if_false]
    repeat' first | (intro hb; first | cases hb | skip) | ((first | apply z8 | apply zd); (· rfl); (· simp (disch := assumption) only [go_sem, Nat.reduceEqDiff, Nat.reduceAdd, bP, ze, Nat.reduceLeDiff, Nat.reduceLT, Nat.reduceMul, List.length_append, decide_eq_true_eq, z6, z0, Int.reduceToNat, Int.reduceLE, Int.reduceLT, Int.reduceBNe, Int.reduceBEq, Int.lt_irrefl]; rfl); (· simp only [go_sem, Nat.reduceLT, Nat.reduceEqDiff]; rfl); (· rfl); first | (apply zc; (· simp only [go_sem, Nat.reduceLT]; rfl); (· simp only [go_sem, Nat.reduceLT]; rfl)) | (apply zg; (· simp only [go_sem, Nat.reduceLT]; rfl))) | ((first | apply za | apply zb); (· rfl); (· simp only [go_sem, Nat.reduceLT]; rfl)) | (apply z9; (· simp only [go_sem, Nat.reduceEqDiff])) | (apply z7; (· simp only [go_sem, Nat.reduceEqDiff])) | (apply zf; (· kernel_rfl); (· kernel_rfl)) | (simp only [bW, if_true, Nat.reduceEqDiff, if_false])
    exact h
  | succ m ih =>
    intro i acc hi he h
    have hlt' : (i : Int) < (p.marks.length : Int) := by omega
    have hw3 : IntKind.i64.wrap ((i : Int) + 1) = ((i + 1 : Nat) : Int) := by rw [wrap_i64 (by omega) (by omega)]; omega
    cases acc with
    | nil =>
      rw [List.nil_append] at h
      simp only [gD, gO, gN]
      refine zh ?_
      try dsimp only [lp102_2, zv, zm, Tryd.f102]
      simp only [bW, if_true, Nat.reduceEqDiff, if_false]
      repeat' first | (intro hb; first | cases hb | skip) | ((first | apply z8 | apply zd); (· rfl); (· simp (disch := assumption) only [go_sem, Nat.reduceEqDiff, Nat.reduceAdd, bP, ze, Nat.reduceLeDiff, Nat.reduceLT, Nat.reduceMul, List.length_append, decide_eq_true_eq, z6, z0, Int.reduceToNat, Int.reduceLE, Int.reduceLT, Int.reduceBNe, Int.reduceBEq, hlt', hw3, okW.allOk, Nat.zero_lt_succ, List.length_map]; rfl); (· simp only [go_sem, Nat.reduceLT, Nat.reduceEqDiff]; rfl); (· rfl); first | (apply zc; (· simp only [go_sem, Nat.reduceLT]; rfl); (· simp only [go_sem, Nat.reduceLT]; rfl)) | (apply zg; (· simp only [go_sem, Nat.reduceLT]; rfl))) | ((first | apply za | apply zb); (· rfl); (· simp only [go_sem, Nat.reduceLT]; rfl)) | (apply z9; (· simp only [go_sem, Nat.reduceEqDiff])) | (apply z7; (· simp only [go_sem, Nat.reduceEqDiff])) | (apply zf; (· kernel_rfl); (· kernel_rfl)) | (simp only [bW, if_true, Nat.reduceEqDiff, if_false])
      refine zn (st1 := ⟨30, [(1, .lref 0 0 3 0), (2, gD 1 3 (([]) ++ [Reason.mk false (i : Nat) false])), (7, I p.marks.length), (8, I (i + 1 : Nat))], (0, ⟨[zj p], 3, false⟩) :: gO 1 3 zH (([]) ++ [Reason.mk false (i : Nat) false]), gN 1 (([]) ++ [Reason.mk false (i : Nat) false]), 0⟩) lk102_2 (by
        simp only [go_sem, List.map_append, Nat.reduceEqDiff, Nat.reduceLT, Nat.reduceAdd, bI, bD, bI2, okW.renL, okW.idsL, okW.idsL_app, gD, gO, gN, zj, zH, List.length_append]
        try rfl) (ih (i + 1) (([]) ++ [Reason.mk false (i : Nat) false]) (by omega) (by simp at he ⊢; omega) (by rw [idxs_succ false] at h; simpa using h))
    | cons e r =>
      simp only [List.length_cons] at he
      have hle : (r.length + 1 + 1 ≤ r.length + 1) = False := by simp
      have hb1 : ((r.length + 1 + 1) * 24 ≤ big) = True := by simp [big]; omega
      have hb2 : (r.length + 1 + 1 ≤ big) = True := by simp [big]; omega
      have hao : allOk 3 (zH e :: List.map zH r) = true := okW.allOk (e :: r)
      simp only [gD, gO, gN, List.map_cons]
      refine zh ?_
      try dsimp only [lp102_2, zv, zm, Tryd.f102]
      simp only [bW, if_true, Nat.reduceEqDiff, if_false]
      repeat' first | (intro hb; first | cases hb | skip) | ((first | apply z8 | apply zd); (· rfl); (· simp (disch := assumption) only [go_sem, Nat.reduceEqDiff, Nat.reduceAdd, bP, ze, Nat.reduceLeDiff, Nat.reduceLT, Nat.reduceMul, List.length_append, decide_eq_true_eq, z6, z0, Int.reduceToNat, Int.reduceLE, Int.reduceLT, Int.reduceBNe, Int.reduceBEq, hlt', hw3, okW.allOk, Nat.zero_lt_succ, List.length_map, hle, hb1, hb2, hao]; rfl); (· simp only [go_sem, Nat.reduceLT, Nat.reduceEqDiff]; rfl); (· rfl); first | (apply zc; (· simp only [go_sem, Nat.reduceLT]; rfl); (· simp only [go_sem, Nat.reduceLT]; rfl)) | (apply zg; (· simp only [go_sem, Nat.reduceLT]; rfl))) | ((first | apply za | apply zb); (· rfl); (· simp only [go_sem, Nat.reduceLT]; rfl)) | (apply z9; (· simp only [go_sem, Nat.reduceEqDiff])) | (apply z7; (· simp only [go_sem, Nat.reduceEqDiff])) | (apply zf; (· kernel_rfl); (· kernel_rfl)) | (simp only [bW, if_true, Nat.reduceEqDiff, if_false])
      refine zn (st1 := ⟨30, [(1, .lref 0 0 3 0), (2, gD 1 3 ((e :: r) ++ [Reason.mk false (i : Nat) false])), (7, I p.marks.length), (8, I (i + 1 : Nat))], (0, ⟨[zj p], 3, false⟩) :: gO 1 3 zH ((e :: r) ++ [Reason.mk false (i : Nat) false]), gN 1 ((e :: r) ++ [Reason.mk false (i : Nat) false]), 0⟩) lk102_2 (by
        simp only [go_sem, List.map_append, Nat.reduceEqDiff, Nat.reduceLT, Nat.reduceAdd, bI, bD, bI2, okW.renL, okW.idsL, okW.idsL_app, gD, gO, gN, zj, zH, List.length_append]
        try rfl) (ih (i + 1) ((e :: r) ++ [Reason.mk false (i : Nat) false]) (by omega) (by simp at he ⊢; omega) (by rw [idxs_succ false] at h; simpa using h))

theorem L102_7 {F : Exit → St → Option D} (p : Paper) (k : List Kt) (x : D) (hle0 : p.joins.length ≤ 1000) : ∀ (m i : Nat) (acc : List Reason), i + m = p.joins.length → acc.length + m ≤ 3000 →
    (zB cfg (lim cfg) 102 F k (.exit 2) ⟨30, [(21, B false), (2, gD 0 3 (acc ++ idxs true i m)), (19, I p.joins.length), (20, I (p.joins.length : Nat))], gO 0 3 zH (acc ++ idxs true i m), gN 0 (acc ++ idxs true i m), 0⟩ = some x) →
    EvL cfg (lim cfg) 102 F lp102_7 k ⟨30, [(2, gD 0 3 (acc)), (19, I p.joins.length), (20, I (i : Nat))], gO 0 3 zH (acc), gN 0 (acc), 0⟩ = some x := by
  intro m
  induction m with
  | zero =>
    intro i acc hi he h
    have hi' : i = p.joins.length := by omega
    subst hi'
    rw [idxs, List.append_nil] at h
    refine zh ?_
    try dsimp only [lp102_7, zv, zm, Tryd.f102]
    simp only [bW, if_true, Nat.reduceEqDiff, if_false]
    repeat' first | (intro hb; first | cases hb | skip) | ((first | apply z8 | apply zd); (· rfl); (· simp (disch := assumption) only [go_sem, Nat.reduceEqDiff, Nat.reduceAdd, bP, ze, Nat.reduceLeDiff, Nat.reduceLT, Nat.reduceMul, List.length_append, decide_eq_true_eq, z6, z0, Int.reduceToNat, Int.reduceLE, Int.reduceLT, Int.reduceBNe, Int.reduceBEq, Int.lt_irrefl]; rfl); (· simp only [go_sem, Nat.reduceLT, Nat.reduceEqDiff]; rfl); (· rfl); first | (apply zc; (· simp only [go_sem, Nat.reduceLT]; rfl); (· simp only [go_sem, Nat.reduceLT]; rfl)) | (apply zg; (· simp only [go_sem, Nat.reduceLT]; rfl))) | ((first | apply za | apply zb); (· rfl); (· simp only [go_sem, Nat.reduceLT]; rfl)) | (apply z9; (· simp only [go_sem, Nat.reduceEqDiff])) | (apply z7; (· simp only [go_sem, Nat.reduceEqDiff])) | (apply zf; (· kernel_rfl); (· kernel_rfl)) | (simp only [bW, if_true, Nat.reduceEqDiff, if_false])
    exact h
  | succ m ih =>
    intro i acc hi he h
    have hlt' : (i : Int) < (p.joins.length : Int) := by omega
    have hw3 : IntKind.i64.wrap ((i : Int) + 1) = ((i + 1 : Nat) : Int) := by rw [wrap_i64 (by omega) (by omega)]; omega
    cases acc with
    | nil =>
      rw [List.nil_append] at h
      simp only [gD, gO, gN]
      refine zh ?_
      try dsimp only [lp102_7, zv, zm, Tryd.f102]
      simp only [bW, if_true, Nat.reduceEqDiff, if_false]
      repeat' first | (intro hb; first | cases hb | skip) | ((first | apply z8 | apply zd); (· rfl); (· simp (disch := assumption) only [go_sem, Nat.reduceEqDiff, Nat.reduceAdd, bP, ze, Nat.reduceLeDiff, Nat.reduceLT, Nat.reduceMul, List.length_append, decide_eq_true_eq, z6, z0, Int.reduceToNat, Int.reduceLE, Int.reduceLT, Int.reduceBNe, Int.reduceBEq, hlt', hw3, okW.allOk, Nat.zero_lt_succ, List.length_map]; rfl); (· simp only [go_sem, Nat.reduceLT, Nat.reduceEqDiff]; rfl); (· rfl); first | (apply zc; (· simp only [go_sem, Nat.reduceLT]; rfl); (· simp only [go_sem, Nat.reduceLT]; rfl)) | (apply zg; (· simp only [go_sem, Nat.reduceLT]; rfl))) | ((first | apply za | apply zb); (· rfl); (· simp only [go_sem, Nat.reduceLT]; rfl)) | (apply z9; (· simp only [go_sem, Nat.reduceEqDiff])) | (apply z7; (· simp only [go_sem, Nat.reduceEqDiff])) | (apply zf; (· kernel_rfl); (· kernel_rfl)) | (simp only [bW, if_true, Nat.reduceEqDiff, if_false])
      refine zn (st1 := ⟨30, [(2, gD 0 3 (([]) ++ [Reason.mk true (i : Nat) false])), (19, I p.joins.length), (20, I (i + 1 : Nat))], gO 0 3 zH (([]) ++ [Reason.mk true (i : Nat) false]), gN 0 (([]) ++ [Reason.mk true (i : Nat) false]), 0⟩) lk102_7 (by
        simp only [go_sem, List.map_append, Nat.reduceEqDiff, Nat.reduceLT, Nat.reduceAdd, bI, bD, bI2, okW.renL, okW.idsL, okW.idsL_app, gD, gO, gN, zj, zH, List.length_append]
        try rfl) (ih (i + 1) (([]) ++ [Reason.mk true (i : Nat) false]) (by omega) (by simp at he ⊢; omega) (by rw [idxs_succ true] at h; simpa using h))
    | cons e r =>
      simp only [List.length_cons] at he
      have hle : (r.length + 1 + 1 ≤ r.length + 1) = False := by simp
      have hb1 : ((r.length + 1 + 1) * 24 ≤ big) = True := by simp [big]; omega
      have hb2 : (r.length + 1 + 1 ≤ big) = True := by simp [big]; omega
      have hao : allOk 3 (zH e :: List.map zH r) = true := okW.allOk (e :: r)
      simp only [gD, gO, gN, List.map_cons]
      refine zh ?_
      try dsimp only [lp102_7, zv, zm, Tryd.f102]
      simp only [bW, if_true, Nat.reduceEqDiff, if_false]
      repeat' first | (intro hb; first | cases hb | skip) | ((first | apply z8 | apply zd); (· rfl); (· simp (disch := assumption) only [go_sem, Nat.reduceEqDiff, Nat.reduceAdd, bP, ze, Nat.reduceLeDiff, Nat.reduceLT, Nat.reduceMul, List.length_append, decide_eq_true_eq, z6, z0, Int.reduceToNat, Int.reduceLE, Int.reduceLT, Int.reduceBNe, Int.reduceBEq, hlt', hw3, okW.allOk, Nat.zero_lt_succ, List.length_map, hle, hb1, hb2, hao]; rfl); (· simp only [go_sem, Nat.reduceLT, Nat.reduceEqDiff]; rfl); (· rfl); first | (apply zc; (· simp only [go_sem, Nat.reduceLT]; rfl); (· simp only [go_sem, Nat.reduceLT]; rfl)) | (apply zg; (· simp only [go_sem, Nat.reduceLT]; rfl))) | ((first | apply za | apply zb); (· rfl); (· simp only [go_sem, Nat.reduceLT]; rfl)) | (apply z9; (· simp only [go_sem, Nat.reduceEqDiff])) | (apply z7; (· simp only [go_sem, Nat.reduceEqDiff])) | (apply zf; (· kernel_rfl); (· kernel_rfl)) | (simp only [bW, if_true, Nat.reduceEqDiff, if_false])
      refine zn (st1 := ⟨30, [(2, gD 0 3 ((e :: r) ++ [Reason.mk true (i : Nat) false])), (19, I p.joins.length), (20, I (i + 1 : Nat))], gO 0 3 zH ((e :: r) ++ [Reason.mk true (i : Nat) false]), gN 0 ((e :: r) ++ [Reason.mk true (i : Nat) false]), 0⟩) lk102_7 (by
        simp only [go_sem, List.map_append, Nat.reduceEqDiff, Nat.reduceLT, Nat.reduceAdd, bI, bD, bI2, okW.renL, okW.idsL, okW.idsL_app, gD, gO, gN, zj, zH, List.length_append]
        try rfl) (ih (i + 1) ((e :: r) ++ [Reason.mk true (i : Nat) false]) (by omega) (by simp at he ⊢; omega) (by rw [idxs_succ true] at h; simpa using h))

theorem t102 (p : Paper) (hwf : p.wf) (h1 : p.marks.length ≤ 1000) (h2 : p.joins.length ≤ 1000) : (lim cfg).pure 102 [zj p] = some (gS 3 zH (reasF p)) := by
  have hlm := len_if (f := encM) hwf.1
  have hlj := len_if (f := zO) hwf.2.1
  refine zo (zk 102) cfn102 rfl (n := 30) rfl ?_
  generalize hF : finP cfg Tryd.f102 = F
  simp only [bW, if_true, Nat.reduceEqDiff, if_false, zl]
  repeat' first | (intro hb; first | cases hb | skip) | ((first | apply z8 | apply zd); (· rfl); (· simp (disch := assumption) only [go_sem, Nat.reduceEqDiff, Nat.reduceAdd, bP, ze, Nat.reduceLeDiff, Nat.reduceLT, Nat.reduceMul, List.length_append, decide_eq_true_eq, z6, z0, Int.reduceToNat, Int.reduceLE, Int.reduceLT, Int.reduceBNe, Int.reduceBEq, hlm]; rfl); (· simp only [go_sem, Nat.reduceLT, Nat.reduceEqDiff]; rfl); (· rfl); first | (apply zc; (· simp only [go_sem, Nat.reduceLT]; rfl); (· simp only [go_sem, Nat.reduceLT]; rfl)) | (apply zg; (· simp only [go_sem, Nat.reduceLT]; rfl))) | ((first | apply za | apply zb); (· rfl); (· simp only [go_sem, Nat.reduceLT]; rfl)) | (apply z9; (· simp only [go_sem, Nat.reduceEqDiff])) | (apply z7; (· simp only [go_sem, Nat.reduceEqDiff])) | (apply zf; (· kernel_rfl); (· kernel_rfl)) | (simp only [bW, if_true, Nat.reduceEqDiff, if_false])
  refine zK (st1 := ⟨30, [(1, .lref 0 0 3 0), (2, gD 1 3 (([] : List Reason))), (7, I p.marks.length), (8, I (0 : Nat))], (0, ⟨[zj p], 3, false⟩) :: gO 1 3 zH (([] : List Reason)), gN 1 (([] : List Reason)), 0⟩) lk102_2 (by
    simp only [go_sem, List.map_append, Nat.reduceEqDiff, Nat.reduceLT, Nat.reduceAdd, bI, bD, bI2, zj]
    try rfl) (L102_2 p _ _ h1 p.marks.length 0 [] (by simp) (by simp; omega) ?_)
  rw [List.nil_append]
  have hl1 : (idxs false 0 p.marks.length).length = p.marks.length := idxs_len
  unfold reasF
  generalize idxs false 0 p.marks.length = A at *
  cases A with
  | nil =>
    simp only [gD, gO, gN]
    simp only [bW, if_true, Nat.reduceEqDiff, if_false]
    repeat' first | (intro hb; first | cases hb | skip) | ((first | apply z8 | apply zd); (· rfl); (· simp (disch := assumption) only [go_sem, Nat.reduceEqDiff, Nat.reduceAdd, bP, ze, Nat.reduceLeDiff, Nat.reduceLT, Nat.reduceMul, List.length_append, decide_eq_true_eq, z6, z0, Int.reduceToNat, Int.reduceLE, Int.reduceLT, Int.reduceBNe, Int.reduceBEq, hlj]; rfl); (· simp only [go_sem, Nat.reduceLT, Nat.reduceEqDiff]; rfl); (· rfl); first | (apply zc; (· simp only [go_sem, Nat.reduceLT]; rfl); (· simp only [go_sem, Nat.reduceLT]; rfl)) | (apply zg; (· simp only [go_sem, Nat.reduceLT]; rfl))) | ((first | apply za | apply zb); (· rfl); (· simp only [go_sem, Nat.reduceLT]; rfl)) | (apply z9; (· simp only [go_sem, Nat.reduceEqDiff])) | (apply z7; (· simp only [go_sem, Nat.reduceEqDiff])) | (apply zf; (· kernel_rfl); (· kernel_rfl)) | (simp only [bW, if_true, Nat.reduceEqDiff, if_false])
    refine zK (st1 := ⟨30, [(2, gD 0 3 (([] : List Reason))), (19, I p.joins.length), (20, I (0 : Nat))], gO 0 3 zH (([] : List Reason)), gN 0 (([] : List Reason)), 0⟩) lk102_7 (by
      simp only [go_sem, List.map_append, Nat.reduceEqDiff, Nat.reduceLT, Nat.reduceAdd, bI, bD, bI2, zj, okW.renL, okW.idsL, okW.ids, okW.ren, gD, gO, gN]
      try rfl) (L102_7 p _ _ h2 p.joins.length 0 (([] : List Reason)) (by simp) (by simp at hl1 ⊢; omega) ?_)
    generalize (([] : List Reason)) ++ idxs true 0 p.joins.length = R
    cases R with
    | nil =>
      simp only [gD, gO, gN, gS]
      simp only [bW, if_true, Nat.reduceEqDiff, if_false]
      repeat' first | (intro hb; first | cases hb | skip) | ((first | apply z8 | apply zd); (· rfl); (· simp (disch := assumption) only [go_sem, Nat.reduceEqDiff, Nat.reduceAdd, bP, ze, Nat.reduceLeDiff, Nat.reduceLT, Nat.reduceMul, List.length_append, decide_eq_true_eq, z6, z0, Int.reduceToNat, Int.reduceLE, Int.reduceLT, Int.reduceBNe, Int.reduceBEq]; rfl); (· simp only [go_sem, Nat.reduceLT, Nat.reduceEqDiff]; rfl); (· rfl); first | (apply zc; (· simp only [go_sem, Nat.reduceLT]; rfl); (· simp only [go_sem, Nat.reduceLT]; rfl)) | (apply zg; (· simp only [go_sem, Nat.reduceLT]; rfl))) | ((first | apply za | apply zb); (· rfl); (· simp only [go_sem, Nat.reduceLT]; rfl)) | (apply z9; (· simp only [go_sem, Nat.reduceEqDiff])) | (apply z7; (· simp only [go_sem, Nat.reduceEqDiff])) | (apply zf; (· kernel_rfl); (· kernel_rfl)) | (simp only [bW, if_true, Nat.reduceEqDiff, if_false])
      subst hF
      rfl
    | cons w r =>
      simp only [gD, gO, gN, gS]
      simp only [bW, if_true, Nat.reduceEqDiff, if_false]
      repeat' first | (intro hb; first | cases hb | skip) | ((first | apply z8 | apply zd); (· rfl); (· simp (disch := assumption) only [go_sem, Nat.reduceEqDiff, Nat.reduceAdd, bP, ze, Nat.reduceLeDiff, Nat.reduceLT, Nat.reduceMul, List.length_append, decide_eq_true_eq, z6, z0, Int.reduceToNat, Int.reduceLE, Int.reduceLT, Int.reduceBNe, Int.reduceBEq]; rfl); (· simp only [go_sem, Nat.reduceLT, Nat.reduceEqDiff]; rfl); (· rfl); first | (apply zc; (· simp only [go_sem, Nat.reduceLT]; rfl); (· simp only [go_sem, Nat.reduceLT]; rfl)) | (apply zg; (· simp only [go_sem, Nat.reduceLT]; rfl))) | ((first | apply za | apply zb); (· rfl); (· simp only [go_sem, Nat.reduceLT]; rfl)) | (apply z9; (· simp only [go_sem, Nat.reduceEqDiff])) | (apply z7; (· simp only [go_sem, Nat.reduceEqDiff])) | (apply zf; (· kernel_rfl); (· kernel_rfl)) | (simp only [bW, if_true, Nat.reduceEqDiff, if_false])
      subst hF
      simp only [go_sem, Nat.reduceEqDiff, bP, Nat.reduceAdd, Nat.reduceLeDiff, List.length_map, Tryd.f102, okW.snap, okW.snapAll, z6]
  | cons e r =>
    simp only [gD, gO, gN]
    simp only [bW, if_true, Nat.reduceEqDiff, if_false]
    repeat' first | (intro hb; first | cases hb | skip) | ((first | apply z8 | apply zd); (· rfl); (· simp (disch := assumption) only [go_sem, Nat.reduceEqDiff, Nat.reduceAdd, bP, ze, Nat.reduceLeDiff, Nat.reduceLT, Nat.reduceMul, List.length_append, decide_eq_true_eq, z6, z0, Int.reduceToNat, Int.reduceLE, Int.reduceLT, Int.reduceBNe, Int.reduceBEq, hlj]; rfl); (· simp only [go_sem, Nat.reduceLT, Nat.reduceEqDiff]; rfl); (· rfl); first | (apply zc; (· simp only [go_sem, Nat.reduceLT]; rfl); (· simp only [go_sem, Nat.reduceLT]; rfl)) | (apply zg; (· simp only [go_sem, Nat.reduceLT]; rfl))) | ((first | apply za | apply zb); (· rfl); (· simp only [go_sem, Nat.reduceLT]; rfl)) | (apply z9; (· simp only [go_sem, Nat.reduceEqDiff])) | (apply z7; (· simp only [go_sem, Nat.reduceEqDiff])) | (apply zf; (· kernel_rfl); (· kernel_rfl)) | (simp only [bW, if_true, Nat.reduceEqDiff, if_false])
    refine zK (st1 := ⟨30, [(2, gD 0 3 (e :: r)), (19, I p.joins.length), (20, I (0 : Nat))], gO 0 3 zH (e :: r), gN 0 (e :: r), 0⟩) lk102_7 (by
      simp only [go_sem, List.map_append, Nat.reduceEqDiff, Nat.reduceLT, Nat.reduceAdd, bI, bD, bI2, zj, okW.renL, okW.idsL, okW.ids, okW.ren, gD, gO, gN]
      try rfl) (L102_7 p _ _ h2 p.joins.length 0 (e :: r) (by simp) (by simp at hl1 ⊢; omega) ?_)
    generalize (e :: r) ++ idxs true 0 p.joins.length = R
    cases R with
    | nil =>
      simp only [gD, gO, gN, gS]
      simp only [bW, if_true, Nat.reduceEqDiff, if_false]
      repeat' first | (intro hb; first | cases hb | skip) | ((first | apply z8 | apply zd); (· rfl); (· simp (disch := assumption) only [go_sem, Nat.reduceEqDiff, Nat.reduceAdd, bP, ze, Nat.reduceLeDiff, Nat.reduceLT, Nat.reduceMul, List.length_append, decide_eq_true_eq, z6, z0, Int.reduceToNat, Int.reduceLE, Int.reduceLT, Int.reduceBNe, Int.reduceBEq]; rfl); (· simp only [go_sem, Nat.reduceLT, Nat.reduceEqDiff]; rfl); (· rfl); first | (apply zc; (· simp only [go_sem, Nat.reduceLT]; rfl); (· simp only [go_sem, Nat.reduceLT]; rfl)) | (apply zg; (· simp only [go_sem, Nat.reduceLT]; rfl))) | ((first | apply za | apply zb); (· rfl); (· simp only [go_sem, Nat.reduceLT]; rfl)) | (apply z9; (· simp only [go_sem, Nat.reduceEqDiff])) | (apply z7; (· simp only [go_sem, Nat.reduceEqDiff])) | (apply zf; (· kernel_rfl); (· kernel_rfl)) | (simp only [bW, if_true, Nat.reduceEqDiff, if_false])
      subst hF
      rfl
    | cons w r =>
      simp only [gD, gO, gN, gS]
      simp only [bW, if_true, Nat.reduceEqDiff, if_false]
      repeat' first | (intro hb; first | cases hb | skip) | ((first | apply z8 | apply zd); (· rfl); (· simp (disch := assumption) only [go_sem, Nat.reduceEqDiff, Nat.reduceAdd, bP, ze, Nat.reduceLeDiff, Nat.reduceLT, Nat.reduceMul, List.length_append, decide_eq_true_eq, z6, z0, Int.reduceToNat, Int.reduceLE, Int.reduceLT, Int.reduceBNe, Int.reduceBEq]; rfl); (· simp only [go_sem, Nat.reduceLT, Nat.reduceEqDiff]; rfl); (· rfl); first | (apply zc; (· simp only [go_sem, Nat.reduceLT]; rfl); (· simp only [go_sem, Nat.reduceLT]; rfl)) | (apply zg; (· simp only [go_sem, Nat.reduceLT]; rfl))) | ((first | apply za | apply zb); (· rfl); (· simp only [go_sem, Nat.reduceLT]; rfl)) | (apply z9; (· simp only [go_sem, Nat.reduceEqDiff])) | (apply z7; (· simp only [go_sem, Nat.reduceEqDiff])) | (apply zf; (· kernel_rfl); (· kernel_rfl)) | (simp only [bW, if_true, Nat.reduceEqDiff, if_false])
      subst hF
      simp only [go_sem, Nat.reduceEqDiff, bP, Nat.reduceAdd, Nat.reduceLeDiff, List.length_map, Tryd.f102, okW.snap, okW.snapAll, z6]

end Go.VS
namespace Go.VS
open Go Go.Proofs
set_option maxHeartbeats 0
set_option linter.unusedSimpArgs false

noncomputable def lp105_2 : Code := zv [1, 0, 1, 0, 0] (zm Tryd.f105)
theorem lk105_2 : cfg.keep 105 (zq lp105_2) = [0, 3, 7, 8] := by kernel_rfl

def idxR (r : Reason) : Nat → List Reason → Int
  | _, [] => -1
  | i, w :: l => if eqW r w then (i : Int) else idxR r (i + 1) l
theorem idxR_iff {r : Reason} : ∀ {l : List Reason} {i : Nat}, 0 ≤ idxR r i l ↔ l.any (eqW r) = true
  | [], i => by simp [idxR]
  | w :: l, i => by
    rw [List.any_cons, Bool.or_eq_true]
    have ih := idxR_iff (r := r) (l := l) (i := i + 1)
    show 0 ≤ (if eqW r w then (i : Int) else idxR r (i + 1) l) ↔ _
    by_cases h : eqW r w = true
    · rw [if_pos h]; simp [h]
    · rw [if_neg h, ih]; simp [h]
theorem idxR_any {r : Reason} {l : List Reason} {i : Nat} : decide (idxR r i l ≥ 0) = l.any (eqW r) := by
  rw [Bool.eq_iff_iff, decide_eq_true_iff]
  exact idxR_iff
theorem L105_2 {F : Exit → St → Option D} (r : Reason) (l : List Reason) (k : List Kt) (x : D) (hl : l.length ≤ 1000000) (hk : ∀ (v : Int) st, get st.tmps 4 = I v → zB cfg (lim cfg) 105 F k .ret st = some (I v)) : ∀ (rest : List Reason) (i : Nat), l.drop i = rest → i ≤ l.length →
    (idxR r i rest = -1 → zB cfg (lim cfg) 105 F k (.exit 0) ⟨19, [(9, B false), (0, .sl false (l.map zH) 3 none), (3, .lref 0 0 3 0), (7, I l.length), (8, I (l.length : Nat))], [(0, ⟨[.agg [B r.join, I r.at_, B r.back]], 3, false⟩)], 1, 0⟩ = some x) →
    (idxR r i rest ≠ -1 → x = I (idxR r i rest)) →
    EvL cfg (lim cfg) 105 F lp105_2 k ⟨19, [(0, .sl false (l.map zH) 3 none), (3, .lref 0 0 3 0), (7, I l.length), (8, I (i : Nat))], [(0, ⟨[.agg [B r.join, I r.at_, B r.back]], 3, false⟩)], 1, 0⟩ = some x := by
  intro rest
  induction rest with
  | nil =>
    intro i hd hi h h'
    have hi' : i = l.length := by
      have := List.drop_eq_nil_iff.1 hd
      omega
    subst hi'
    refine zh ?_
    try dsimp only [lp105_2, zv, zm, Tryd.f105]
    simp only [bW, if_true, Nat.reduceEqDiff, if_false]
    repeat' first | (intro hb; first | cases hb | skip) | ((first | apply z8 | apply zd); (· rfl); (· simp (disch := assumption) only [go_sem, Nat.reduceEqDiff, Nat.reduceAdd, bP, ze, Nat.reduceLeDiff, Nat.reduceLT, Nat.reduceMul, List.length_append, decide_eq_true_eq, z6, z0, Int.reduceToNat, Int.reduceLE, Int.reduceLT, Int.reduceBNe, Int.reduceBEq, Int.lt_irrefl]; rfl); (· simp only [go_sem, Nat.reduceLT, Nat.reduceEqDiff]; rfl); (· rfl); first | (apply zc; (· simp only [go_sem, Nat.reduceLT]; rfl); (· simp only [go_sem, Nat.reduceLT]; rfl)) | (apply zg; (· simp only [go_sem, Nat.reduceLT]; rfl))) | ((first | apply za | apply zb); (· rfl); (· simp only [go_sem, Nat.reduceLT]; rfl)) | (apply z9; (· simp only [go_sem, Nat.reduceEqDiff])) | (apply z7; (· simp only [go_sem, Nat.reduceEqDiff])) | (apply zf; (· kernel_rfl); (· kernel_rfl)) | (simp only [bW, if_true, Nat.reduceEqDiff, if_false])
    exact h rfl
  | cons w rest ih =>
    intro i hd hi h h'
    have hlt : i < l.length := by
      rcases Nat.lt_or_ge i l.length with h | h
      · exact h
      · rw [List.drop_eq_nil_of_le h] at hd; cases hd
    have hm : l[i]? = some w := by rw [← List.head?_drop, hd]; rfl
    have hx : (l.map zH)[i]? = some (.agg [B w.join, I w.at_, B w.back]) := by rw [List.getElem?_map, hm]; rfl
    have hlt' : (i : Int) < (l.length : Int) := by omega
    have hw3 : IntKind.i64.wrap ((i : Int) + 1) = ((i + 1 : Nat) : Int) := by rw [wrap_i64 (by omega) (by omega)]; omega
    refine zh ?_
    try dsimp only [lp105_2, zv, zm, Tryd.f105]
    simp only [bW, if_true, Nat.reduceEqDiff, if_false]
    repeat' first | (intro hb; first | cases hb | skip) | ((first | apply z8 | apply zd); (· rfl); (· simp (disch := assumption) only [go_sem, Nat.reduceEqDiff, Nat.reduceAdd, bP, ze, Nat.reduceLeDiff, Nat.reduceLT, Nat.reduceMul, List.length_append, decide_eq_true_eq, z6, z0, Int.reduceToNat, Int.reduceLE, Int.reduceLT, Int.reduceBNe, Int.reduceBEq, hx, hlt', hw3]; rfl); (· simp only [go_sem, Nat.reduceLT, Nat.reduceEqDiff]; rfl); (· rfl); first | (apply zc; (· simp only [go_sem, Nat.reduceLT]; rfl); (· simp only [go_sem, Nat.reduceLT]; rfl)) | (apply zg; (· simp only [go_sem, Nat.reduceLT]; rfl))) | ((first | apply za | apply zb); (· rfl); (· simp only [go_sem, Nat.reduceLT]; rfl)) | (apply z9; (· simp only [go_sem, Nat.reduceEqDiff])) | (apply z7; (· simp only [go_sem, Nat.reduceEqDiff])) | (apply zf; (· kernel_rfl); (· kernel_rfl)) | (simp only [bW, if_true, Nat.reduceEqDiff, if_false])
    · have he : eqW r w = true := by simpa [eqW] using hb
      simp only [idxR, he, if_true] at h'
      rw [h' (by omega)]
      exact hk _ _ rfl
    · have he : eqW r w = false := by simpa [eqW] using hb
      simp only [idxR, he, Bool.false_eq_true, if_false] at h h'
      exact zn (st1 := ⟨19, [(0, .sl false (l.map zH) 3 none), (3, .lref 0 0 3 0), (7, I l.length), (8, I (i + 1 : Nat))], [(0, ⟨[.agg [B r.join, I r.at_, B r.back]], 3, false⟩)], 1, 0⟩) lk105_2 (by kernel_rfl) (ih (i + 1) (by rw [← List.drop_drop, hd]; rfl) hlt h h')
theorem t105 (r : Reason) (l : List Reason) (hl : l.length ≤ 1000000) : (lim cfg).pure 105 [gS 3 zH l, .agg [B r.join, I r.at_, B r.back]] = some (I (idxR r 0 l)) := by
  cases l with
  | nil =>
    simp only [gS, idxR]
    refine zo (zk 105) cfn105 rfl (n := 19) rfl ?_
    generalize hF : finP cfg Tryd.f105 = F
    simp only [bW, if_true, Nat.reduceEqDiff, if_false, zl]
    repeat' first | (intro hb; first | cases hb | skip) | ((first | apply z8 | apply zd); (· rfl); (· simp (disch := assumption) only [go_sem, Nat.reduceEqDiff, Nat.reduceAdd, bP, ze, Nat.reduceLeDiff, Nat.reduceLT, Nat.reduceMul, List.length_append, decide_eq_true_eq, z6, z0, Int.reduceToNat, Int.reduceLE, Int.reduceLT, Int.reduceBNe, Int.reduceBEq]; rfl); (· simp only [go_sem, Nat.reduceLT, Nat.reduceEqDiff]; rfl); (· rfl); first | (apply zc; (· simp only [go_sem, Nat.reduceLT]; rfl); (· simp only [go_sem, Nat.reduceLT]; rfl)) | (apply zg; (· simp only [go_sem, Nat.reduceLT]; rfl))) | ((first | apply za | apply zb); (· rfl); (· simp only [go_sem, Nat.reduceLT]; rfl)) | (apply z9; (· simp only [go_sem, Nat.reduceEqDiff])) | (apply z7; (· simp only [go_sem, Nat.reduceEqDiff])) | (apply zf; (· kernel_rfl); (· kernel_rfl)) | (simp only [bW, if_true, Nat.reduceEqDiff, if_false])
    apply zK lk105_2
    · simp only [go_sem, List.map_append, Nat.reduceEqDiff, Nat.reduceLT, Nat.reduceAdd, bI, bD, bI2]
      rfl
    refine zh ?_
    try dsimp only [lp105_2, zv, zm, Tryd.f105]
    simp only [bW, if_true, Nat.reduceEqDiff, if_false]
    repeat' first | (intro hb; first | cases hb | skip) | ((first | apply z8 | apply zd); (· rfl); (· simp (disch := assumption) only [go_sem, Nat.reduceEqDiff, Nat.reduceAdd, bP, ze, Nat.reduceLeDiff, Nat.reduceLT, Nat.reduceMul, List.length_append, decide_eq_true_eq, z6, z0, Int.reduceToNat, Int.reduceLE, Int.reduceLT, Int.reduceBNe, Int.reduceBEq, Int.lt_irrefl]; rfl); (· simp only [go_sem, Nat.reduceLT, Nat.reduceEqDiff]; rfl); (· rfl); first | (apply zc; (· simp only [go_sem, Nat.reduceLT]; rfl); (· simp only [go_sem, Nat.reduceLT]; rfl)) | (apply zg; (· simp only [go_sem, Nat.reduceLT]; rfl))) | ((first | apply za | apply zb); (· rfl); (· simp only [go_sem, Nat.reduceLT]; rfl)) | (apply z9; (· simp only [go_sem, Nat.reduceEqDiff])) | (apply z7; (· simp only [go_sem, Nat.reduceEqDiff])) | (apply zf; (· kernel_rfl); (· kernel_rfl)) | (simp only [bW, if_true, Nat.reduceEqDiff, if_false])
    subst hF
    all_goals simp only [go_sem, Nat.reduceEqDiff, bP, Nat.reduceAdd, Nat.reduceLeDiff, List.length_map, Tryd.f105]
  | cons w0 l0 =>
    simp only [gS]
    generalize hL : w0 :: l0 = l at *
    refine zo (zk 105) cfn105 rfl (n := 19) rfl ?_
    generalize hF : finP cfg Tryd.f105 = F
    simp only [bW, if_true, Nat.reduceEqDiff, if_false, zl]
    have hret : ∀ (v : Int) st, get st.tmps 4 = I v → F .ret st = some (I v) := by
      intro v st h
      subst hF
      simp only [go_sem, Nat.reduceEqDiff, bP, Nat.reduceAdd, Nat.reduceLeDiff, List.length_map, Tryd.f105, h]
    repeat' first | (intro hb; first | cases hb | skip) | ((first | apply z8 | apply zd); (· rfl); (· simp (disch := assumption) only [go_sem, Nat.reduceEqDiff, Nat.reduceAdd, bP, ze, Nat.reduceLeDiff, Nat.reduceLT, Nat.reduceMul, List.length_append, decide_eq_true_eq, z6, z0, Int.reduceToNat, Int.reduceLE, Int.reduceLT, Int.reduceBNe, Int.reduceBEq, List.length_map]; rfl); (· simp only [go_sem, Nat.reduceLT, Nat.reduceEqDiff]; rfl); (· rfl); first | (apply zc; (· simp only [go_sem, Nat.reduceLT]; rfl); (· simp only [go_sem, Nat.reduceLT]; rfl)) | (apply zg; (· simp only [go_sem, Nat.reduceLT]; rfl))) | ((first | apply za | apply zb); (· rfl); (· simp only [go_sem, Nat.reduceLT]; rfl)) | (apply z9; (· simp only [go_sem, Nat.reduceEqDiff])) | (apply z7; (· simp only [go_sem, Nat.reduceEqDiff])) | (apply zf; (· kernel_rfl); (· kernel_rfl)) | (simp only [bW, if_true, Nat.reduceEqDiff, if_false])
    refine zK (st1 := ⟨19, [(0, .sl false (l.map zH) 3 none), (3, .lref 0 0 3 0), (7, I l.length), (8, I (0 : Nat))], [(0, ⟨[.agg [B r.join, I r.at_, B r.back]], 3, false⟩)], 1, 0⟩) lk105_2 (by kernel_rfl) (L105_2 r l _ _ hl (fun v st h => by simp only [bW, if_true, Nat.reduceEqDiff, if_false]; exact hret v st h) l 0 rfl (Nat.zero_le _) (fun h => ?_) (fun h => rfl))
    rw [h]
    simp only [bW, if_true, Nat.reduceEqDiff, if_false]
    repeat' first | (intro hb; first | cases hb | skip) | ((first | apply z8 | apply zd); (· rfl); (· simp (disch := assumption) only [go_sem, Nat.reduceEqDiff, Nat.reduceAdd, bP, ze, Nat.reduceLeDiff, Nat.reduceLT, Nat.reduceMul, List.length_append, decide_eq_true_eq, z6, z0, Int.reduceToNat, Int.reduceLE, Int.reduceLT, Int.reduceBNe, Int.reduceBEq]; rfl); (· simp only [go_sem, Nat.reduceLT, Nat.reduceEqDiff]; rfl); (· rfl); first | (apply zc; (· simp only [go_sem, Nat.reduceLT]; rfl); (· simp only [go_sem, Nat.reduceLT]; rfl)) | (apply zg; (· simp only [go_sem, Nat.reduceLT]; rfl))) | ((first | apply za | apply zb); (· rfl); (· simp only [go_sem, Nat.reduceLT]; rfl)) | (apply z9; (· simp only [go_sem, Nat.reduceEqDiff])) | (apply z7; (· simp only [go_sem, Nat.reduceEqDiff])) | (apply zf; (· kernel_rfl); (· kernel_rfl)) | (simp only [bW, if_true, Nat.reduceEqDiff, if_false])
    subst hF
    all_goals simp only [go_sem, Nat.reduceEqDiff, bP, Nat.reduceAdd, Nat.reduceLeDiff, List.length_map, Tryd.f105]
theorem t61 (r : Reason) (l : List Reason) (hl : l.length ≤ 1000000) : (lim cfg).pure 61 [gS 3 zH l, .agg [B r.join, I r.at_, B r.back]] = some (B (l.any (eqW r))) := by
  have h105 := t105 r l hl
  have he := idxR_any (r := r) (l := l) (i := 0)
  cases l with
  | nil =>
    simp only [gS] at h105 ⊢
    refine zo (zk 61) cfn61 rfl (n := 9) rfl ?_
    simp only [bW, if_true, Nat.reduceEqDiff, if_false, zl]
    repeat' first | (intro hb; first | cases hb | skip) | ((first | apply z8 | apply zd); (· rfl); (· simp (disch := assumption) only [go_sem, Nat.reduceEqDiff, Nat.reduceAdd, bP, ze, Nat.reduceLeDiff, Nat.reduceLT, Nat.reduceMul, List.length_append, decide_eq_true_eq, z6, z0, Int.reduceToNat, Int.reduceLE, Int.reduceLT, Int.reduceBNe, Int.reduceBEq, h105]; rfl); (· simp only [go_sem, Nat.reduceLT, Nat.reduceEqDiff]; rfl); (· rfl); first | (apply zc; (· simp only [go_sem, Nat.reduceLT]; rfl); (· simp only [go_sem, Nat.reduceLT]; rfl)) | (apply zg; (· simp only [go_sem, Nat.reduceLT]; rfl))) | ((first | apply za | apply zb); (· rfl); (· simp only [go_sem, Nat.reduceLT]; rfl)) | (apply z9; (· simp only [go_sem, Nat.reduceEqDiff])) | (apply z7; (· simp only [go_sem, Nat.reduceEqDiff])) | (apply zf; (· kernel_rfl); (· kernel_rfl)) | (simp only [bW, if_true, Nat.reduceEqDiff, if_false])
    all_goals try simp only [go_sem, Nat.reduceEqDiff, bP, Nat.reduceAdd, Nat.reduceLeDiff, List.length_map, Tryd.f61, idxR, List.any_nil]
    all_goals first | done | rfl | (simp_all []; done) | trace_state
  | cons w0 l0 =>
    simp only [gS] at h105 ⊢
    generalize w0 :: l0 = l at *
    refine zo (zk 61) cfn61 rfl (n := 9) rfl ?_
    simp only [bW, if_true, Nat.reduceEqDiff, if_false, zl]
    repeat' first | (intro hb; first | cases hb | skip) | ((first | apply z8 | apply zd); (· rfl); (· simp (disch := assumption) only [go_sem, Nat.reduceEqDiff, Nat.reduceAdd, bP, ze, Nat.reduceLeDiff, Nat.reduceLT, Nat.reduceMul, List.length_append, decide_eq_true_eq, z6, z0, Int.reduceToNat, Int.reduceLE, Int.reduceLT, Int.reduceBNe, Int.reduceBEq, h105, he]; rfl); (· simp only [go_sem, Nat.reduceLT, Nat.reduceEqDiff]; rfl); (· rfl); first | (apply zc; (· simp only [go_sem, Nat.reduceLT]; rfl); (· simp only [go_sem, Nat.reduceLT]; rfl)) | (apply zg; (· simp only [go_sem, Nat.reduceLT]; rfl))) | ((first | apply za | apply zb); (· rfl); (· simp only [go_sem, Nat.reduceLT]; rfl)) | (apply z9; (· simp only [go_sem, Nat.reduceEqDiff])) | (apply z7; (· simp only [go_sem, Nat.reduceEqDiff])) | (apply zf; (· kernel_rfl); (· kernel_rfl)) | (simp only [bW, if_true, Nat.reduceEqDiff, if_false])
    all_goals try simp only [go_sem, Nat.reduceEqDiff, bP, Nat.reduceAdd, Nat.reduceLeDiff, List.length_map, Tryd.f61]
    all_goals first | done | rfl | (simp_all []; done) | trace_state

def withoutE (p : Paper) (r : Reason) : Int := if check p = 0 then (if (reasF p).any (eqW r) then 0 else 1) else check p
def zeroP : Paper := ⟨0, true, [], true, []⟩
def withoutP (p : Paper) (r : Reason) : Paper := if withoutE p r = 0 then zr p r else zeroP
theorem reas_any {p : Paper} {r : Reason} (h : (reasF p).any (eqW r) = true) : r.back = false ∧ ((r.join = false ∧ ∃ i : Nat, r.at_ = i ∧ i < p.marks.length) ∨ (r.join = true ∧ ∃ i : Nat, r.at_ = i ∧ i < p.joins.length)) := by
  have key : ∀ (b : Bool) (m i : Nat), (idxs b i m).any (eqW r) = true → r.back = false ∧ r.join = b ∧ ∃ k : Nat, r.at_ = k ∧ k < i + m := by
    intro b m
    induction m with
    | zero => intro i h; simp [idxs] at h
    | succ m ih =>
      intro i h
      rw [idxs, List.any_cons, Bool.or_eq_true] at h
      rcases h with h | h
      · simp only [eqW, Bool.and_eq_true, beq_iff_eq] at h
        exact ⟨h.2.2, h.1, i, h.2.1, by omega⟩
      · obtain ⟨a, b, k, c, d⟩ := ih (i + 1) h
        exact ⟨a, b, k, c, by omega⟩
  rw [reasF, List.any_append, Bool.or_eq_true] at h
  rcases h with h | h
  · obtain ⟨a, b, k, c, d⟩ := key _ _ _ h
    exact ⟨a, .inl ⟨b, k, c, by omega⟩⟩
  · obtain ⟨a, b, k, c, d⟩ := key _ _ _ h
    exact ⟨a, .inr ⟨b, k, c, by omega⟩⟩
theorem any_reas {p : Paper} {r : Reason} (h1 : r.back = false) (h : (r.join = false ∧ ∃ i : Nat, r.at_ = i ∧ i < p.marks.length) ∨ (r.join = true ∧ ∃ i : Nat, r.at_ = i ∧ i < p.joins.length)) : (reasF p).any (eqW r) = true := by
  have key : ∀ (b : Bool) (m i k : Nat), r.join = b → r.at_ = k → i ≤ k → k < i + m → (idxs b i m).any (eqW r) = true := by
    intro b m
    induction m with
    | zero => intro i k _ _ _ _; omega
    | succ m ih =>
      intro i k hb hk h1' h2
      rw [idxs, List.any_cons, Bool.or_eq_true]
      by_cases he : i = k
      · left; simp [eqW, hb, hk, he, h1]
      · right; exact ih (i + 1) k hb hk (by omega) (by omega)
  rw [reasF, List.any_append, Bool.or_eq_true]
  rcases h with ⟨a, k, b, c⟩ | ⟨a, k, b, c⟩
  · exact .inl (key _ _ _ _ a b (by omega) (by omega))
  · exact .inr (key _ _ _ _ a b (by omega) (by omega))
theorem t103 (p : Paper) (r : Reason) (hwf : p.wf) (h1 : p.marks.length ≤ 1000) (h2 : p.joins.length ≤ 1000) (h : (reasF p).any (eqW r) = true) : (lim cfg).pure 103 [zj p, .agg [B r.join, I r.at_, B r.back]] = some (zj (zr p r)) := by
  obtain ⟨j, a, b⟩ := r
  obtain ⟨-, ⟨rfl, i, rfl, hi⟩ | ⟨rfl, i, rfl, hi⟩⟩ := reas_any h
  · exact t103m p i b hwf h1 h2 hi
  · exact t103j p i b hwf h1 h2 hi
theorem check_zero {p : Paper} : check p = 0 ↔ zu p = true := by
  unfold check
  cases zu p <;> simp
theorem t52 (p : Paper) (r : Reason) (hwf : p.wf) : (lim cfg).pure 52 [zj p, .agg [B r.join, I r.at_, B r.back]] = some (.tup [zj (withoutP p r), I (withoutE p r)]) := by
  have h15 := t15 p hwf
  unfold withoutP withoutE
  by_cases hc : check p = 0
  case neg =>
    have n1 : (check p != 0) = true := by simp [hc]
    rw [if_neg hc, if_neg hc]
    refine zo (zk 52) cfn52 rfl (n := 22) rfl ?_
    simp only [bW, if_true, Nat.reduceEqDiff, if_false, zl]
    repeat' first | (intro hb; first | cases hb | skip) | ((first | apply z8 | apply zd); (· rfl); (· simp (disch := assumption) only [go_sem, Nat.reduceEqDiff, Nat.reduceAdd, bP, ze, Nat.reduceLeDiff, Nat.reduceLT, Nat.reduceMul, List.length_append, decide_eq_true_eq, z6, z0, Int.reduceToNat, Int.reduceLE, Int.reduceLT, Int.reduceBNe, Int.reduceBEq, h15, n1]; rfl); (· simp only [go_sem, Nat.reduceLT, Nat.reduceEqDiff]; rfl); (· rfl); first | (apply zc; (· simp only [go_sem, Nat.reduceLT]; rfl); (· simp only [go_sem, Nat.reduceLT]; rfl)) | (apply zg; (· simp only [go_sem, Nat.reduceLT]; rfl))) | ((first | apply za | apply zb); (· rfl); (· simp only [go_sem, Nat.reduceLT]; rfl)) | (apply z9; (· simp only [go_sem, Nat.reduceEqDiff])) | (apply z7; (· simp only [go_sem, Nat.reduceEqDiff])) | (apply zf; (· kernel_rfl); (· kernel_rfl)) | (simp only [bW, if_true, Nat.reduceEqDiff, if_false])
    all_goals try simp only [go_sem, Nat.reduceEqDiff, bP, Nat.reduceAdd, Nat.reduceLeDiff, List.length_map, Tryd.f52, zeroP, zs_true]
    all_goals first | done | rfl | (simp_all []; done) | trace_state
  rw [hc] at h15
  obtain ⟨o1, o2, o5, o6, -, -⟩ := zA (check_zero.1 hc)
  have h102 := t102 p hwf (by omega) (by omega)
  have h61 := t61 r (reasF p) (by simp [reasF, idxs_len]; omega)
  rw [gS_W] at h102 h61
  generalize (reasF p).isEmpty = nE at h102 h61
  rw [if_pos hc]
  cases hr : (reasF p).any (eqW r) with
  | false =>
    rw [hr] at h61
    simp only [Bool.false_eq_true, if_false]
    rw [if_neg (by omega)]
    refine zo (zk 52) cfn52 rfl (n := 22) rfl ?_
    simp only [bW, if_true, Nat.reduceEqDiff, if_false, zl]
    repeat' first | (intro hb; first | cases hb | skip) | ((first | apply z8 | apply zd); (· rfl); (· simp (disch := assumption) only [go_sem, Nat.reduceEqDiff, Nat.reduceAdd, bP, ze, Nat.reduceLeDiff, Nat.reduceLT, Nat.reduceMul, List.length_append, decide_eq_true_eq, z6, z0, Int.reduceToNat, Int.reduceLE, Int.reduceLT, Int.reduceBNe, Int.reduceBEq, h15, h102, h61, bne_self_eq_false]; rfl); (· simp only [go_sem, Nat.reduceLT, Nat.reduceEqDiff]; rfl); (· rfl); first | (apply zc; (· simp only [go_sem, Nat.reduceLT]; rfl); (· simp only [go_sem, Nat.reduceLT]; rfl)) | (apply zg; (· simp only [go_sem, Nat.reduceLT]; rfl))) | ((first | apply za | apply zb); (· rfl); (· simp only [go_sem, Nat.reduceLT]; rfl)) | (apply z9; (· simp only [go_sem, Nat.reduceEqDiff])) | (apply z7; (· simp only [go_sem, Nat.reduceEqDiff])) | (apply zf; (· kernel_rfl); (· kernel_rfl)) | (simp only [bW, if_true, Nat.reduceEqDiff, if_false])
    all_goals try simp only [go_sem, Nat.reduceEqDiff, bP, Nat.reduceAdd, Nat.reduceLeDiff, List.length_map, Tryd.f52, zeroP, zs_true]
    all_goals first | done | rfl | (simp_all []; done) | trace_state
  | true =>
    have h103 := t103 p r hwf (by omega) (by omega) hr
    rw [hr] at h61
    simp only [if_true]
    generalize zr p r = q at *
    refine zo (zk 52) cfn52 rfl (n := 22) rfl ?_
    simp only [bW, if_true, Nat.reduceEqDiff, if_false, zl]
    repeat' first | (intro hb; first | cases hb | skip) | ((first | apply z8 | apply zd); (· rfl); (· simp (disch := assumption) only [go_sem, Nat.reduceEqDiff, Nat.reduceAdd, bP, ze, Nat.reduceLeDiff, Nat.reduceLT, Nat.reduceMul, List.length_append, decide_eq_true_eq, z6, z0, Int.reduceToNat, Int.reduceLE, Int.reduceLT, Int.reduceBNe, Int.reduceBEq, h15, h102, h61, h103, bne_self_eq_false]; rfl); (· simp only [go_sem, Nat.reduceLT, Nat.reduceEqDiff]; rfl); (· rfl); first | (apply zc; (· simp only [go_sem, Nat.reduceLT]; rfl); (· simp only [go_sem, Nat.reduceLT]; rfl)) | (apply zg; (· simp only [go_sem, Nat.reduceLT]; rfl))) | ((first | apply za | apply zb); (· rfl); (· simp only [go_sem, Nat.reduceLT]; rfl)) | (apply z9; (· simp only [go_sem, Nat.reduceEqDiff])) | (apply z7; (· simp only [go_sem, Nat.reduceEqDiff])) | (apply zf; (· kernel_rfl); (· kernel_rfl)) | (simp only [bW, if_true, Nat.reduceEqDiff, if_false])
    all_goals try simp only [go_sem, Nat.reduceEqDiff, bP, Nat.reduceAdd, Nat.reduceLeDiff, List.length_map, Tryd.f52]
    all_goals first | done | rfl | (simp_all []; done) | trace_state

end Go.VS
namespace Go.VS
open Go Go.Proofs
set_option maxHeartbeats 0
set_option linter.unusedSimpArgs false

noncomputable def lp104_3 : Code := zv [1, 1, 0, 1, 0, 0] (zm Tryd.f104)
theorem lk104_3 : cfg.keep 104 (zq lp104_3) = [2, 3, 4, 5, 6] := by kernel_rfl
noncomputable def lp104_8 : Code := zv [1, 1, 1, 0, 1, 0, 0] (zm Tryd.f104)
theorem lk104_8 : cfg.keep 104 (zq lp104_8) = [2, 3, 4, 5, 7] := by kernel_rfl

def lessL {α : Type} (b : Bool) (a : Int) : Nat → List α → List α
  | _, [] => []
  | i, x :: r => if b || decide (¬ (i : Int) = a) then x :: lessL b a (i + 1) r else lessL b a (i + 1) r
theorem lessL_len {α : Type} {b : Bool} {a : Int} : ∀ {l : List α} {i : Nat}, (lessL b a i l).length ≤ l.length
  | [], _ => Nat.le_refl _
  | x :: r, i => by
    have := lessL_len (b := b) (a := a) (l := r) (i := i + 1)
    unfold lessL
    split <;> simp <;> omega
theorem lessL_true {α : Type} {a : Int} : ∀ {l : List α} {i : Nat}, lessL true a i l = l
  | [], _ => rfl
  | x :: r, i => by
    unfold lessL
    simp [lessL_true]
theorem lessL_false {α : Type} : ∀ {l : List α} {i k : Nat}, lessL false ((i + k : Nat) : Int) i l = l.eraseIdx k
  | [], _, _ => by simp [lessL]
  | x :: r, i, 0 => by
    unfold lessL
    simp only [Nat.add_zero, not_true_eq_false, decide_false, Bool.or_false, Bool.false_eq_true, if_false, List.eraseIdx_zero, List.tail_cons]
    have key : ∀ (l : List α) (j : Nat), i < j → lessL false (i : Int) j l = l := by
      intro l
      induction l with
      | nil => intro j _; rfl
      | cons y l ih =>
        intro j hj
        unfold lessL
        rw [if_pos (by simp; omega), ih _ (by omega)]
    exact key r (i + 1) (by omega)
  | x :: r, i, k + 1 => by
    unfold lessL
    rw [if_pos (by simp; omega), List.eraseIdx_cons_succ, show i + (k + 1) = (i + 1) + k by omega, lessL_false]

theorem L104_3 {F : Exit → St → Option D} (p : Paper) (j : Bool) (a : Int) (b : Bool)  (k : List Kt) (x : D) (hwf : p.wf) (hle0 : p.marks.length ≤ 1000) : ∀ (rest : List Mark) (i : Nat) (acc : List Mark), p.marks.drop i = rest → i ≤ p.marks.length → acc.length + rest.length ≤ 1000 →
    (zB cfg (lim cfg) 104 F k (.exit 0) ⟨63, [(15, B false), (14, I p.marks.length), (13, .sl p.nm (p.marks.map encM) (zs p.nm 5) none), (12, .lref 0 0 3 1), (11, I p.marks.length), (2, .lref 0 0 3 0), (3, .lref 1 0 3 0), (4, .lref 2 0 3 0), (5, .lref 3 0 3 0), (6, I (p.marks.length : Nat))], (0, ⟨[zj p], 3, false⟩) :: (1, ⟨[.agg [B j, I a, B b]], 3, false⟩) :: (2, ⟨[.agg [I 0, .sl true [] 0 none, .sl true [] 0 none]], 3, false⟩) :: (3, ⟨[.agg [I p.sheets, gD 4 5 (acc ++ lessL j a i rest), .sl true [] 0 none]], 3, false⟩) :: gO 4 5 encM (acc ++ lessL j a i rest), gN 4 (acc ++ lessL j a i rest), 0⟩ = some x) →
    EvL cfg (lim cfg) 104 F lp104_3 k ⟨63, [(2, .lref 0 0 3 0), (3, .lref 1 0 3 0), (4, .lref 2 0 3 0), (5, .lref 3 0 3 0), (6, I (i : Nat))], (0, ⟨[zj p], 3, false⟩) :: (1, ⟨[.agg [B j, I a, B b]], 3, false⟩) :: (2, ⟨[.agg [I 0, .sl true [] 0 none, .sl true [] 0 none]], 3, false⟩) :: (3, ⟨[.agg [I p.sheets, gD 4 5 (acc), .sl true [] 0 none]], 3, false⟩) :: gO 4 5 encM (acc), gN 4 (acc), 0⟩ = some x := by
  have hl0 := len_if (f := encM) hwf.1
  intro rest
  induction rest with
  | nil =>
    intro i acc hd hi he h
    have hi' : i = p.marks.length := by
      have := List.drop_eq_nil_iff.1 hd
      omega
    subst hi'
    rw [lessL, List.append_nil] at h
    refine zh ?_
    try dsimp only [lp104_3, zv, zm, Tryd.f104]
    simp only [bW, if_true, Nat.reduceEqDiff, if_false]
    repeat' first | (intro hb; first | cases hb | skip) | ((first | apply z8 | apply zd); (· rfl); (· simp (disch := assumption) only [go_sem, Nat.reduceEqDiff, Nat.reduceAdd, bP, ze, Nat.reduceLeDiff, Nat.reduceLT, Nat.reduceMul, List.length_append, decide_eq_true_eq, z6, z0, Int.reduceToNat, Int.reduceLE, Int.reduceLT, Int.reduceBNe, Int.reduceBEq, hl0, Int.lt_irrefl]; rfl); (· simp only [go_sem, Nat.reduceLT, Nat.reduceEqDiff]; rfl); (· rfl); first | (apply zc; (· simp only [go_sem, Nat.reduceLT]; rfl); (· simp only [go_sem, Nat.reduceLT]; rfl)) | (apply zg; (· simp only [go_sem, Nat.reduceLT]; rfl))) | ((first | apply za | apply zb); (· rfl); (· simp only [go_sem, Nat.reduceLT]; rfl)) | (apply z9; (· simp only [go_sem, Nat.reduceEqDiff])) | (apply z7; (· simp only [go_sem, Nat.reduceEqDiff])) | (apply zf; (· kernel_rfl); (· kernel_rfl)) | (simp only [bW, if_true, Nat.reduceEqDiff, if_false])
    exact h
  | cons m rest ih =>
    intro i acc hd hi he h
    have hlt : i < p.marks.length := by
      rcases Nat.lt_or_ge i p.marks.length with h | h
      · exact h
      · rw [List.drop_eq_nil_of_le h] at hd; cases hd
    have hm : p.marks[i]? = some m := by rw [← List.head?_drop, hd]; rfl
    have hx : (p.marks.map encM)[i]? = some (.agg [I m.sheet, I m.axis, I m.tru, I m.seen, I m.err]) := by rw [List.getElem?_map, hm]; rfl
    have hnm' : p.nm = false := by
      cases h : p.nm with
      | false => rfl
      | true => rw [hwf.1 h] at hlt; cases hlt
    have hlt' : (i : Int) < (p.marks.length : Int) := by omega
    have hw3 : IntKind.i64.wrap ((i : Int) + 1) = ((i + 1 : Nat) : Int) := by rw [wrap_i64 (by omega) (by omega)]; omega
    have hl0' : ((p.marks.map encM).length : Int) = (p.marks.length : Int) := by simp
    rw [hnm'] at hl0
    simp only [Bool.false_eq_true, if_false] at hl0
    cases acc with
    | nil =>
      rw [List.nil_append] at h
      simp only [gD, gO, gN]
      cases j with
      | true =>
        have hd1 : True := trivial
        refine zh ?_
        try dsimp only [lp104_3, zv, zm, Tryd.f104]
        simp only [bW, if_true, Nat.reduceEqDiff, if_false]
        repeat' first | (intro hb; first | cases hb | skip) | ((first | apply z8 | apply zd); (· rfl); (· simp (disch := assumption) only [go_sem, Nat.reduceEqDiff, Nat.reduceAdd, bP, ze, Nat.reduceLeDiff, Nat.reduceLT, Nat.reduceMul, List.length_append, decide_eq_true_eq, z6, z0, Int.reduceToNat, Int.reduceLE, Int.reduceLT, Int.reduceBNe, Int.reduceBEq, List.length_map, hx, hnm', hlt', hw3, zR.allOk, Nat.zero_lt_succ]; rfl); (· simp only [go_sem, Nat.reduceLT, Nat.reduceEqDiff]; rfl); (· rfl); first | (apply zc; (· simp only [go_sem, Nat.reduceLT]; rfl); (· simp only [go_sem, Nat.reduceLT]; rfl)) | (apply zg; (· simp only [go_sem, Nat.reduceLT]; rfl))) | ((first | apply za | apply zb); (· rfl); (· simp only [go_sem, Nat.reduceLT]; rfl)) | (apply z9; (· simp only [go_sem, Nat.reduceEqDiff])) | (apply z7; (· simp only [go_sem, Nat.reduceEqDiff])) | (apply zf; (· kernel_rfl); (· kernel_rfl)) | (simp only [bW, if_true, Nat.reduceEqDiff, if_false])
        refine zn (st1 := ⟨63, [(2, .lref 0 0 3 0), (3, .lref 1 0 3 0), (4, .lref 2 0 3 0), (5, .lref 3 0 3 0), (6, I (i + 1 : Nat))], (0, ⟨[zj p], 3, false⟩) :: (1, ⟨[.agg [B true, I a, B b]], 3, false⟩) :: (2, ⟨[.agg [I 0, .sl true [] 0 none, .sl true [] 0 none]], 3, false⟩) :: (3, ⟨[.agg [I p.sheets, gD 4 5 (([]) ++ [m]), .sl true [] 0 none]], 3, false⟩) :: gO 4 5 encM (([]) ++ [m]), gN 4 (([]) ++ [m]), 0⟩) lk104_3 (by
          simp only [go_sem, List.map_append, Nat.reduceEqDiff, Nat.reduceLT, Nat.reduceAdd, bI, bD, bI2, zR.renL, zR.idsL, zR.idsL_app, gD, gO, gN, zj, encM, List.length_append]
          try rfl) (ih (i + 1) (([]) ++ [m]) (by rw [← List.drop_drop, hd]; rfl) hlt (by simp at he ⊢; omega) (by simp only [go_sem, lessL, hd1] at h; simpa using h))
      | false =>
        by_cases hia : (i : Int) = a
        · have hd0 : ((i : Int) != a) = false := by simp [hia]
          have hd1 : (decide (¬ (i : Int) = a)) = false := by simp [hia]
          refine zh ?_
          try dsimp only [lp104_3, zv, zm, Tryd.f104]
          simp only [bW, if_true, Nat.reduceEqDiff, if_false]
          repeat' first | (intro hb; first | cases hb | skip) | ((first | apply z8 | apply zd); (· rfl); (· simp (disch := assumption) only [go_sem, Nat.reduceEqDiff, Nat.reduceAdd, bP, ze, Nat.reduceLeDiff, Nat.reduceLT, Nat.reduceMul, List.length_append, decide_eq_true_eq, z6, z0, Int.reduceToNat, Int.reduceLE, Int.reduceLT, Int.reduceBNe, Int.reduceBEq, List.length_map, hx, hnm', hlt', hw3, zR.allOk, Nat.zero_lt_succ, hd0]; rfl); (· simp only [go_sem, Nat.reduceLT, Nat.reduceEqDiff]; rfl); (· rfl); first | (apply zc; (· simp only [go_sem, Nat.reduceLT]; rfl); (· simp only [go_sem, Nat.reduceLT]; rfl)) | (apply zg; (· simp only [go_sem, Nat.reduceLT]; rfl))) | ((first | apply za | apply zb); (· rfl); (· simp only [go_sem, Nat.reduceLT]; rfl)) | (apply z9; (· simp only [go_sem, Nat.reduceEqDiff])) | (apply z7; (· simp only [go_sem, Nat.reduceEqDiff])) | (apply zf; (· kernel_rfl); (· kernel_rfl)) | (simp only [bW, if_true, Nat.reduceEqDiff, if_false])
          refine zn (st1 := ⟨63, [(2, .lref 0 0 3 0), (3, .lref 1 0 3 0), (4, .lref 2 0 3 0), (5, .lref 3 0 3 0), (6, I (i + 1 : Nat))], (0, ⟨[zj p], 3, false⟩) :: (1, ⟨[.agg [B false, I a, B b]], 3, false⟩) :: (2, ⟨[.agg [I 0, .sl true [] 0 none, .sl true [] 0 none]], 3, false⟩) :: (3, ⟨[.agg [I p.sheets, gD 4 5 ([]), .sl true [] 0 none]], 3, false⟩) :: gO 4 5 encM ([]), gN 4 ([]), 0⟩) lk104_3 (by
            simp only [go_sem, List.map_append, Nat.reduceEqDiff, Nat.reduceLT, Nat.reduceAdd, bI, bD, bI2, zR.renL, zR.idsL, zR.idsL_app, gD, gO, gN, zj, encM, List.length_append]
            try rfl) (ih (i + 1) ([]) (by rw [← List.drop_drop, hd]; rfl) hlt (by simp at he ⊢; omega) (by simp only [go_sem, lessL, hd1] at h; exact h))
        · have hd0 : ((i : Int) != a) = true := by simp [hia]
          have hd1 : (decide (¬ (i : Int) = a)) = true := by simp [hia]
          refine zh ?_
          try dsimp only [lp104_3, zv, zm, Tryd.f104]
          simp only [bW, if_true, Nat.reduceEqDiff, if_false]
          repeat' first | (intro hb; first | cases hb | skip) | ((first | apply z8 | apply zd); (· rfl); (· simp (disch := assumption) only [go_sem, Nat.reduceEqDiff, Nat.reduceAdd, bP, ze, Nat.reduceLeDiff, Nat.reduceLT, Nat.reduceMul, List.length_append, decide_eq_true_eq, z6, z0, Int.reduceToNat, Int.reduceLE, Int.reduceLT, Int.reduceBNe, Int.reduceBEq, List.length_map, hx, hnm', hlt', hw3, zR.allOk, Nat.zero_lt_succ, hd0]; rfl); (· simp only [go_sem, Nat.reduceLT, Nat.reduceEqDiff]; rfl); (· rfl); first | (apply zc; (· simp only [go_sem, Nat.reduceLT]; rfl); (· simp only [go_sem, Nat.reduceLT]; rfl)) | (apply zg; (· simp only [go_sem, Nat.reduceLT]; rfl))) | ((first | apply za | apply zb); (· rfl); (· simp only [go_sem, Nat.reduceLT]; rfl)) | (apply z9; (· simp only [go_sem, Nat.reduceEqDiff])) | (apply z7; (· simp only [go_sem, Nat.reduceEqDiff])) | (apply zf; (· kernel_rfl); (· kernel_rfl)) | (simp only [bW, if_true, Nat.reduceEqDiff, if_false])
          refine zn (st1 := ⟨63, [(2, .lref 0 0 3 0), (3, .lref 1 0 3 0), (4, .lref 2 0 3 0), (5, .lref 3 0 3 0), (6, I (i + 1 : Nat))], (0, ⟨[zj p], 3, false⟩) :: (1, ⟨[.agg [B false, I a, B b]], 3, false⟩) :: (2, ⟨[.agg [I 0, .sl true [] 0 none, .sl true [] 0 none]], 3, false⟩) :: (3, ⟨[.agg [I p.sheets, gD 4 5 (([]) ++ [m]), .sl true [] 0 none]], 3, false⟩) :: gO 4 5 encM (([]) ++ [m]), gN 4 (([]) ++ [m]), 0⟩) lk104_3 (by
            simp only [go_sem, List.map_append, Nat.reduceEqDiff, Nat.reduceLT, Nat.reduceAdd, bI, bD, bI2, zR.renL, zR.idsL, zR.idsL_app, gD, gO, gN, zj, encM, List.length_append]
            try rfl) (ih (i + 1) (([]) ++ [m]) (by rw [← List.drop_drop, hd]; rfl) hlt (by simp at he ⊢; omega) (by simp only [go_sem, lessL, hd1] at h; simpa using h))
    | cons e r =>
      simp only [List.length_cons] at he
      have hle : (r.length + 1 + 1 ≤ r.length + 1) = False := by simp
      have hb1 : ((r.length + 1 + 1) * 40 ≤ big) = True := by simp [big]; omega
      have hb2 : (r.length + 1 + 1 ≤ big) = True := by simp [big]; omega
      have hao : allOk 5 (encM e :: List.map encM r) = true := zR.allOk (e :: r)
      simp only [gD, gO, gN, List.map_cons]
      cases j with
      | true =>
        have hd1 : True := trivial
        refine zh ?_
        try dsimp only [lp104_3, zv, zm, Tryd.f104]
        simp only [bW, if_true, Nat.reduceEqDiff, if_false]
        repeat' first | (intro hb; first | cases hb | skip) | ((first | apply z8 | apply zd); (· rfl); (· simp (disch := assumption) only [go_sem, Nat.reduceEqDiff, Nat.reduceAdd, bP, ze, Nat.reduceLeDiff, Nat.reduceLT, Nat.reduceMul, List.length_append, decide_eq_true_eq, z6, z0, Int.reduceToNat, Int.reduceLE, Int.reduceLT, Int.reduceBNe, Int.reduceBEq, List.length_map, hx, hnm', hlt', hw3, zR.allOk, Nat.zero_lt_succ, hle, hb1, hb2, hao]; rfl); (· simp only [go_sem, Nat.reduceLT, Nat.reduceEqDiff]; rfl); (· rfl); first | (apply zc; (· simp only [go_sem, Nat.reduceLT]; rfl); (· simp only [go_sem, Nat.reduceLT]; rfl)) | (apply zg; (· simp only [go_sem, Nat.reduceLT]; rfl))) | ((first | apply za | apply zb); (· rfl); (· simp only [go_sem, Nat.reduceLT]; rfl)) | (apply z9; (· simp only [go_sem, Nat.reduceEqDiff])) | (apply z7; (· simp only [go_sem, Nat.reduceEqDiff])) | (apply zf; (· kernel_rfl); (· kernel_rfl)) | (simp only [bW, if_true, Nat.reduceEqDiff, if_false])
        refine zn (st1 := ⟨63, [(2, .lref 0 0 3 0), (3, .lref 1 0 3 0), (4, .lref 2 0 3 0), (5, .lref 3 0 3 0), (6, I (i + 1 : Nat))], (0, ⟨[zj p], 3, false⟩) :: (1, ⟨[.agg [B true, I a, B b]], 3, false⟩) :: (2, ⟨[.agg [I 0, .sl true [] 0 none, .sl true [] 0 none]], 3, false⟩) :: (3, ⟨[.agg [I p.sheets, gD 4 5 ((e :: r) ++ [m]), .sl true [] 0 none]], 3, false⟩) :: gO 4 5 encM ((e :: r) ++ [m]), gN 4 ((e :: r) ++ [m]), 0⟩) lk104_3 (by
          simp only [go_sem, List.map_append, Nat.reduceEqDiff, Nat.reduceLT, Nat.reduceAdd, bI, bD, bI2, zR.renL, zR.idsL, zR.idsL_app, gD, gO, gN, zj, encM, List.length_append]
          try rfl) (ih (i + 1) ((e :: r) ++ [m]) (by rw [← List.drop_drop, hd]; rfl) hlt (by simp at he ⊢; omega) (by simp only [go_sem, lessL, hd1] at h; simpa using h))
      | false =>
        by_cases hia : (i : Int) = a
        · have hd0 : ((i : Int) != a) = false := by simp [hia]
          have hd1 : (decide (¬ (i : Int) = a)) = false := by simp [hia]
          refine zh ?_
          try dsimp only [lp104_3, zv, zm, Tryd.f104]
          simp only [bW, if_true, Nat.reduceEqDiff, if_false]
          repeat' first | (intro hb; first | cases hb | skip) | ((first | apply z8 | apply zd); (· rfl); (· simp (disch := assumption) only [go_sem, Nat.reduceEqDiff, Nat.reduceAdd, bP, ze, Nat.reduceLeDiff, Nat.reduceLT, Nat.reduceMul, List.length_append, decide_eq_true_eq, z6, z0, Int.reduceToNat, Int.reduceLE, Int.reduceLT, Int.reduceBNe, Int.reduceBEq, List.length_map, hx, hnm', hlt', hw3, zR.allOk, Nat.zero_lt_succ, hd0, hle, hb1, hb2, hao]; rfl); (· simp only [go_sem, Nat.reduceLT, Nat.reduceEqDiff]; rfl); (· rfl); first | (apply zc; (· simp only [go_sem, Nat.reduceLT]; rfl); (· simp only [go_sem, Nat.reduceLT]; rfl)) | (apply zg; (· simp only [go_sem, Nat.reduceLT]; rfl))) | ((first | apply za | apply zb); (· rfl); (· simp only [go_sem, Nat.reduceLT]; rfl)) | (apply z9; (· simp only [go_sem, Nat.reduceEqDiff])) | (apply z7; (· simp only [go_sem, Nat.reduceEqDiff])) | (apply zf; (· kernel_rfl); (· kernel_rfl)) | (simp only [bW, if_true, Nat.reduceEqDiff, if_false])
          refine zn (st1 := ⟨63, [(2, .lref 0 0 3 0), (3, .lref 1 0 3 0), (4, .lref 2 0 3 0), (5, .lref 3 0 3 0), (6, I (i + 1 : Nat))], (0, ⟨[zj p], 3, false⟩) :: (1, ⟨[.agg [B false, I a, B b]], 3, false⟩) :: (2, ⟨[.agg [I 0, .sl true [] 0 none, .sl true [] 0 none]], 3, false⟩) :: (3, ⟨[.agg [I p.sheets, gD 4 5 (e :: r), .sl true [] 0 none]], 3, false⟩) :: gO 4 5 encM (e :: r), gN 4 (e :: r), 0⟩) lk104_3 (by
            simp only [go_sem, List.map_append, Nat.reduceEqDiff, Nat.reduceLT, Nat.reduceAdd, bI, bD, bI2, zR.renL, zR.idsL, zR.idsL_app, gD, gO, gN, zj, encM, List.length_append]
            try rfl) (ih (i + 1) (e :: r) (by rw [← List.drop_drop, hd]; rfl) hlt (by simp at he ⊢; omega) (by simp only [go_sem, lessL, hd1] at h; exact h))
        · have hd0 : ((i : Int) != a) = true := by simp [hia]
          have hd1 : (decide (¬ (i : Int) = a)) = true := by simp [hia]
          refine zh ?_
          try dsimp only [lp104_3, zv, zm, Tryd.f104]
          simp only [bW, if_true, Nat.reduceEqDiff, if_false]
          repeat' first | (intro hb; first | cases hb | skip) | ((first | apply z8 | apply zd); (· rfl); (· simp (disch := assumption) only [go_sem, Nat.reduceEqDiff, Nat.reduceAdd, bP, ze, Nat.reduceLeDiff, Nat.reduceLT, Nat.reduceMul, List.length_append, decide_eq_true_eq, z6, z0, Int.reduceToNat, Int.reduceLE, Int.reduceLT, Int.reduceBNe, Int.reduceBEq, List.length_map, hx, hnm', hlt', hw3, zR.allOk, Nat.zero_lt_succ, hd0, hle, hb1, hb2, hao]; rfl); (· simp only [go_sem, Nat.reduceLT, Nat.reduceEqDiff]; rfl); (· rfl); first | (apply zc; (· simp only [go_sem, Nat.reduceLT]; rfl); (· simp only [go_sem, Nat.reduceLT]; rfl)) | (apply zg; (· simp only [go_sem, Nat.reduceLT]; rfl))) | ((first | apply za | apply zb); (· rfl); (· simp only [go_sem, Nat.reduceLT]; rfl)) | (apply z9; (· simp only [go_sem, Nat.reduceEqDiff])) | (apply z7; (· simp only [go_sem, Nat.reduceEqDiff])) | (apply zf; (· kernel_rfl); (· kernel_rfl)) | (simp only [bW, if_true, Nat.reduceEqDiff, if_false])
          refine zn (st1 := ⟨63, [(2, .lref 0 0 3 0), (3, .lref 1 0 3 0), (4, .lref 2 0 3 0), (5, .lref 3 0 3 0), (6, I (i + 1 : Nat))], (0, ⟨[zj p], 3, false⟩) :: (1, ⟨[.agg [B false, I a, B b]], 3, false⟩) :: (2, ⟨[.agg [I 0, .sl true [] 0 none, .sl true [] 0 none]], 3, false⟩) :: (3, ⟨[.agg [I p.sheets, gD 4 5 ((e :: r) ++ [m]), .sl true [] 0 none]], 3, false⟩) :: gO 4 5 encM ((e :: r) ++ [m]), gN 4 ((e :: r) ++ [m]), 0⟩) lk104_3 (by
            simp only [go_sem, List.map_append, Nat.reduceEqDiff, Nat.reduceLT, Nat.reduceAdd, bI, bD, bI2, zR.renL, zR.idsL, zR.idsL_app, gD, gO, gN, zj, encM, List.length_append]
            try rfl) (ih (i + 1) ((e :: r) ++ [m]) (by rw [← List.drop_drop, hd]; rfl) hlt (by simp at he ⊢; omega) (by simp only [go_sem, lessL, hd1] at h; simpa using h))

theorem L104_8n {F : Exit → St → Option D} (p : Paper) (j : Bool) (a : Int) (b : Bool)  (k : List Kt) (x : D) (hwf : p.wf) (hle0 : p.joins.length ≤ 1000) : ∀ (rest : List Join) (i : Nat) (acc : List Join), p.joins.drop i = rest → i ≤ p.joins.length → acc.length + rest.length ≤ 1000 →
    (zB cfg (lim cfg) 104 F k (.exit 2) ⟨63, [(40, B false), (39, I p.joins.length), (38, .sl p.nj (p.joins.map zO) (zs p.nj 7) none), (37, .lref 0 0 3 2), (36, I p.joins.length), (2, .lref 0 0 3 0), (3, .lref 1 0 3 0), (4, .lref 2 0 3 0), (5, .lref 3 0 3 0), (7, I (p.joins.length : Nat))], (0, ⟨[zj p], 3, false⟩) :: (1, ⟨[.agg [B j, I a, B b]], 3, false⟩) :: (2, ⟨[.agg [I 0, .sl true [] 0 none, .sl true [] 0 none]], 3, false⟩) :: (3, ⟨[.agg [I p.sheets, .sl true [] 0 none, gD 4 7 (acc ++ lessL (!j) a i rest)]], 3, false⟩) :: gO 4 7 zO (acc ++ lessL (!j) a i rest), gN 4 (acc ++ lessL (!j) a i rest), 0⟩ = some x) →
    EvL cfg (lim cfg) 104 F lp104_8 k ⟨63, [(2, .lref 0 0 3 0), (3, .lref 1 0 3 0), (4, .lref 2 0 3 0), (5, .lref 3 0 3 0), (7, I (i : Nat))], (0, ⟨[zj p], 3, false⟩) :: (1, ⟨[.agg [B j, I a, B b]], 3, false⟩) :: (2, ⟨[.agg [I 0, .sl true [] 0 none, .sl true [] 0 none]], 3, false⟩) :: (3, ⟨[.agg [I p.sheets, .sl true [] 0 none, gD 4 7 (acc)]], 3, false⟩) :: gO 4 7 zO (acc), gN 4 (acc), 0⟩ = some x := by
  have hl0 := len_if (f := zO) hwf.2.1
  intro rest
  induction rest with
  | nil =>
    intro i acc hd hi he h
    have hi' : i = p.joins.length := by
      have := List.drop_eq_nil_iff.1 hd
      omega
    subst hi'
    rw [lessL, List.append_nil] at h
    refine zh ?_
    try dsimp only [lp104_8, zv, zm, Tryd.f104]
    simp only [bW, if_true, Nat.reduceEqDiff, if_false]
    repeat' first | (intro hb; first | cases hb | skip) | ((first | apply z8 | apply zd); (· rfl); (· simp (disch := assumption) only [go_sem, Nat.reduceEqDiff, Nat.reduceAdd, bP, ze, Nat.reduceLeDiff, Nat.reduceLT, Nat.reduceMul, List.length_append, decide_eq_true_eq, z6, z0, Int.reduceToNat, Int.reduceLE, Int.reduceLT, Int.reduceBNe, Int.reduceBEq, hl0, Int.lt_irrefl]; rfl); (· simp only [go_sem, Nat.reduceLT, Nat.reduceEqDiff]; rfl); (· rfl); first | (apply zc; (· simp only [go_sem, Nat.reduceLT]; rfl); (· simp only [go_sem, Nat.reduceLT]; rfl)) | (apply zg; (· simp only [go_sem, Nat.reduceLT]; rfl))) | ((first | apply za | apply zb); (· rfl); (· simp only [go_sem, Nat.reduceLT]; rfl)) | (apply z9; (· simp only [go_sem, Nat.reduceEqDiff])) | (apply z7; (· simp only [go_sem, Nat.reduceEqDiff])) | (apply zf; (· kernel_rfl); (· kernel_rfl)) | (simp only [bW, if_true, Nat.reduceEqDiff, if_false])
    exact h
  | cons m rest ih =>
    intro i acc hd hi he h
    have hlt : i < p.joins.length := by
      rcases Nat.lt_or_ge i p.joins.length with h | h
      · exact h
      · rw [List.drop_eq_nil_of_le h] at hd; cases hd
    have hm : p.joins[i]? = some m := by rw [← List.head?_drop, hd]; rfl
    have hx : (p.joins.map zO)[i]? = some (.agg [I m.a, I m.b, I m.axis, I m.seenA, I m.errA, I m.seenB, I m.errB]) := by rw [List.getElem?_map, hm]; rfl
    have hnm' : p.nj = false := by
      cases h : p.nj with
      | false => rfl
      | true => rw [hwf.2.1 h] at hlt; cases hlt
    have hlt' : (i : Int) < (p.joins.length : Int) := by omega
    have hw3 : IntKind.i64.wrap ((i : Int) + 1) = ((i + 1 : Nat) : Int) := by rw [wrap_i64 (by omega) (by omega)]; omega
    have hl0' : ((p.joins.map zO).length : Int) = (p.joins.length : Int) := by simp
    rw [hnm'] at hl0
    simp only [Bool.false_eq_true, if_false] at hl0
    cases acc with
    | nil =>
      rw [List.nil_append] at h
      simp only [gD, gO, gN]
      cases j with
      | false =>
        have hd1 : True := trivial
        refine zh ?_
        try dsimp only [lp104_8, zv, zm, Tryd.f104]
        simp only [bW, if_true, Nat.reduceEqDiff, if_false]
        repeat' first | (intro hb; first | cases hb | skip) | ((first | apply z8 | apply zd); (· rfl); (· simp (disch := assumption) only [go_sem, Nat.reduceEqDiff, Nat.reduceAdd, bP, ze, Nat.reduceLeDiff, Nat.reduceLT, Nat.reduceMul, List.length_append, decide_eq_true_eq, z6, z0, Int.reduceToNat, Int.reduceLE, Int.reduceLT, Int.reduceBNe, Int.reduceBEq, List.length_map, hx, hnm', hlt', hw3, okJ'.allOk, Nat.zero_lt_succ]; rfl); (· simp only [go_sem, Nat.reduceLT, Nat.reduceEqDiff]; rfl); (· rfl); first | (apply zc; (· simp only [go_sem, Nat.reduceLT]; rfl); (· simp only [go_sem, Nat.reduceLT]; rfl)) | (apply zg; (· simp only [go_sem, Nat.reduceLT]; rfl))) | ((first | apply za | apply zb); (· rfl); (· simp only [go_sem, Nat.reduceLT]; rfl)) | (apply z9; (· simp only [go_sem, Nat.reduceEqDiff])) | (apply z7; (· simp only [go_sem, Nat.reduceEqDiff])) | (apply zf; (· kernel_rfl); (· kernel_rfl)) | (simp only [bW, if_true, Nat.reduceEqDiff, if_false])
        refine zn (st1 := ⟨63, [(2, .lref 0 0 3 0), (3, .lref 1 0 3 0), (4, .lref 2 0 3 0), (5, .lref 3 0 3 0), (7, I (i + 1 : Nat))], (0, ⟨[zj p], 3, false⟩) :: (1, ⟨[.agg [B false, I a, B b]], 3, false⟩) :: (2, ⟨[.agg [I 0, .sl true [] 0 none, .sl true [] 0 none]], 3, false⟩) :: (3, ⟨[.agg [I p.sheets, .sl true [] 0 none, gD 4 7 (([]) ++ [m])]], 3, false⟩) :: gO 4 7 zO (([]) ++ [m]), gN 4 (([]) ++ [m]), 0⟩) lk104_8 (by
          simp only [go_sem, List.map_append, Nat.reduceEqDiff, Nat.reduceLT, Nat.reduceAdd, bI, bD, bI2, okJ'.renL, okJ'.idsL, okJ'.idsL_app, gD, gO, gN, zj, zO, List.length_append]
          try rfl) (ih (i + 1) (([]) ++ [m]) (by rw [← List.drop_drop, hd]; rfl) hlt (by simp at he ⊢; omega) (by simp only [go_sem, lessL, hd1] at h; simpa using h))
      | true =>
        by_cases hia : (i : Int) = a
        · have hd0 : ((i : Int) != a) = false := by simp [hia]
          have hd1 : (decide (¬ (i : Int) = a)) = false := by simp [hia]
          refine zh ?_
          try dsimp only [lp104_8, zv, zm, Tryd.f104]
          simp only [bW, if_true, Nat.reduceEqDiff, if_false]
          repeat' first | (intro hb; first | cases hb | skip) | ((first | apply z8 | apply zd); (· rfl); (· simp (disch := assumption) only [go_sem, Nat.reduceEqDiff, Nat.reduceAdd, bP, ze, Nat.reduceLeDiff, Nat.reduceLT, Nat.reduceMul, List.length_append, decide_eq_true_eq, z6, z0, Int.reduceToNat, Int.reduceLE, Int.reduceLT, Int.reduceBNe, Int.reduceBEq, List.length_map, hx, hnm', hlt', hw3, okJ'.allOk, Nat.zero_lt_succ, hd0]; rfl); (· simp only [go_sem, Nat.reduceLT, Nat.reduceEqDiff]; rfl); (· rfl); first | (apply zc; (· simp only [go_sem, Nat.reduceLT]; rfl); (· simp only [go_sem, Nat.reduceLT]; rfl)) | (apply zg; (· simp only [go_sem, Nat.reduceLT]; rfl))) | ((first | apply za | apply zb); (· rfl); (· simp only [go_sem, Nat.reduceLT]; rfl)) | (apply z9; (· simp only [go_sem, Nat.reduceEqDiff])) | (apply z7; (· simp only [go_sem, Nat.reduceEqDiff])) | (apply zf; (· kernel_rfl); (· kernel_rfl)) | (simp only [bW, if_true, Nat.reduceEqDiff, if_false])
          refine zn (st1 := ⟨63, [(2, .lref 0 0 3 0), (3, .lref 1 0 3 0), (4, .lref 2 0 3 0), (5, .lref 3 0 3 0), (7, I (i + 1 : Nat))], (0, ⟨[zj p], 3, false⟩) :: (1, ⟨[.agg [B true, I a, B b]], 3, false⟩) :: (2, ⟨[.agg [I 0, .sl true [] 0 none, .sl true [] 0 none]], 3, false⟩) :: (3, ⟨[.agg [I p.sheets, .sl true [] 0 none, gD 4 7 ([])]], 3, false⟩) :: gO 4 7 zO ([]), gN 4 ([]), 0⟩) lk104_8 (by
            simp only [go_sem, List.map_append, Nat.reduceEqDiff, Nat.reduceLT, Nat.reduceAdd, bI, bD, bI2, okJ'.renL, okJ'.idsL, okJ'.idsL_app, gD, gO, gN, zj, zO, List.length_append]
            try rfl) (ih (i + 1) ([]) (by rw [← List.drop_drop, hd]; rfl) hlt (by simp at he ⊢; omega) (by simp only [go_sem, lessL, hd1] at h; exact h))
        · have hd0 : ((i : Int) != a) = true := by simp [hia]
          have hd1 : (decide (¬ (i : Int) = a)) = true := by simp [hia]
          refine zh ?_
          try dsimp only [lp104_8, zv, zm, Tryd.f104]
          simp only [bW, if_true, Nat.reduceEqDiff, if_false]
          repeat' first | (intro hb; first | cases hb | skip) | ((first | apply z8 | apply zd); (· rfl); (· simp (disch := assumption) only [go_sem, Nat.reduceEqDiff, Nat.reduceAdd, bP, ze, Nat.reduceLeDiff, Nat.reduceLT, Nat.reduceMul, List.length_append, decide_eq_true_eq, z6, z0, Int.reduceToNat, Int.reduceLE, Int.reduceLT, Int.reduceBNe, Int.reduceBEq, List.length_map, hx, hnm', hlt', hw3, okJ'.allOk, Nat.zero_lt_succ, hd0]; rfl); (· simp only [go_sem, Nat.reduceLT, Nat.reduceEqDiff]; rfl); (· rfl); first | (apply zc; (· simp only [go_sem, Nat.reduceLT]; rfl); (· simp only [go_sem, Nat.reduceLT]; rfl)) | (apply zg; (· simp only [go_sem, Nat.reduceLT]; rfl))) | ((first | apply za | apply zb); (· rfl); (· simp only [go_sem, Nat.reduceLT]; rfl)) | (apply z9; (· simp only [go_sem, Nat.reduceEqDiff])) | (apply z7; (· simp only [go_sem, Nat.reduceEqDiff])) | (apply zf; (· kernel_rfl); (· kernel_rfl)) | (simp only [bW, if_true, Nat.reduceEqDiff, if_false])
          refine zn (st1 := ⟨63, [(2, .lref 0 0 3 0), (3, .lref 1 0 3 0), (4, .lref 2 0 3 0), (5, .lref 3 0 3 0), (7, I (i + 1 : Nat))], (0, ⟨[zj p], 3, false⟩) :: (1, ⟨[.agg [B true, I a, B b]], 3, false⟩) :: (2, ⟨[.agg [I 0, .sl true [] 0 none, .sl true [] 0 none]], 3, false⟩) :: (3, ⟨[.agg [I p.sheets, .sl true [] 0 none, gD 4 7 (([]) ++ [m])]], 3, false⟩) :: gO 4 7 zO (([]) ++ [m]), gN 4 (([]) ++ [m]), 0⟩) lk104_8 (by
            simp only [go_sem, List.map_append, Nat.reduceEqDiff, Nat.reduceLT, Nat.reduceAdd, bI, bD, bI2, okJ'.renL, okJ'.idsL, okJ'.idsL_app, gD, gO, gN, zj, zO, List.length_append]
            try rfl) (ih (i + 1) (([]) ++ [m]) (by rw [← List.drop_drop, hd]; rfl) hlt (by simp at he ⊢; omega) (by simp only [go_sem, lessL, hd1] at h; simpa using h))
    | cons e r =>
      simp only [List.length_cons] at he
      have hle : (r.length + 1 + 1 ≤ r.length + 1) = False := by simp
      have hb1 : ((r.length + 1 + 1) * 56 ≤ big) = True := by simp [big]; omega
      have hb2 : (r.length + 1 + 1 ≤ big) = True := by simp [big]; omega
      have hao : allOk 7 (zO e :: List.map zO r) = true := okJ'.allOk (e :: r)
      simp only [gD, gO, gN, List.map_cons]
      cases j with
      | false =>
        have hd1 : True := trivial
        refine zh ?_
        try dsimp only [lp104_8, zv, zm, Tryd.f104]
        simp only [bW, if_true, Nat.reduceEqDiff, if_false]
        repeat' first | (intro hb; first | cases hb | skip) | ((first | apply z8 | apply zd); (· rfl); (· simp (disch := assumption) only [go_sem, Nat.reduceEqDiff, Nat.reduceAdd, bP, ze, Nat.reduceLeDiff, Nat.reduceLT, Nat.reduceMul, List.length_append, decide_eq_true_eq, z6, z0, Int.reduceToNat, Int.reduceLE, Int.reduceLT, Int.reduceBNe, Int.reduceBEq, List.length_map, hx, hnm', hlt', hw3, okJ'.allOk, Nat.zero_lt_succ, hle, hb1, hb2, hao]; rfl); (· simp only [go_sem, Nat.reduceLT, Nat.reduceEqDiff]; rfl); (· rfl); first | (apply zc; (· simp only [go_sem, Nat.reduceLT]; rfl); (· simp only [go_sem, Nat.reduceLT]; rfl)) | (apply zg; (· simp only [go_sem, Nat.reduceLT]; rfl))) | ((first | apply za | apply zb); (· rfl); (· simp only [go_sem, Nat.reduceLT]; rfl)) | (apply z9; (· simp only [go_sem, Nat.reduceEqDiff])) | (apply z7; (· simp only [go_sem, Nat.reduceEqDiff])) | (apply zf; (· kernel_rfl); (· kernel_rfl)) | (simp only [bW, if_true, Nat.reduceEqDiff, if_false])
        refine zn (st1 := ⟨63, [(2, .lref 0 0 3 0), (3, .lref 1 0 3 0), (4, .lref 2 0 3 0), (5, .lref 3 0 3 0), (7, I (i + 1 : Nat))], (0, ⟨[zj p], 3, false⟩) :: (1, ⟨[.agg [B false, I a, B b]], 3, false⟩) :: (2, ⟨[.agg [I 0, .sl true [] 0 none, .sl true [] 0 none]], 3, false⟩) :: (3, ⟨[.agg [I p.sheets, .sl true [] 0 none, gD 4 7 ((e :: r) ++ [m])]], 3, false⟩) :: gO 4 7 zO ((e :: r) ++ [m]), gN 4 ((e :: r) ++ [m]), 0⟩) lk104_8 (by
          simp only [go_sem, List.map_append, Nat.reduceEqDiff, Nat.reduceLT, Nat.reduceAdd, bI, bD, bI2, okJ'.renL, okJ'.idsL, okJ'.idsL_app, gD, gO, gN, zj, zO, List.length_append]
          try rfl) (ih (i + 1) ((e :: r) ++ [m]) (by rw [← List.drop_drop, hd]; rfl) hlt (by simp at he ⊢; omega) (by simp only [go_sem, lessL, hd1] at h; simpa using h))
      | true =>
        by_cases hia : (i : Int) = a
        · have hd0 : ((i : Int) != a) = false := by simp [hia]
          have hd1 : (decide (¬ (i : Int) = a)) = false := by simp [hia]
          refine zh ?_
          try dsimp only [lp104_8, zv, zm, Tryd.f104]
          simp only [bW, if_true, Nat.reduceEqDiff, if_false]
          repeat' first | (intro hb; first | cases hb | skip) | ((first | apply z8 | apply zd); (· rfl); (· simp (disch := assumption) only [go_sem, Nat.reduceEqDiff, Nat.reduceAdd, bP, ze, Nat.reduceLeDiff, Nat.reduceLT, Nat.reduceMul, List.length_append, decide_eq_true_eq, z6, z0, Int.reduceToNat, Int.reduceLE, Int.reduceLT, Int.reduceBNe, Int.reduceBEq, List.length_map, hx, hnm', hlt', hw3, okJ'.allOk, Nat.zero_lt_succ, hd0, hle, hb1, hb2, hao]; rfl); (· simp only [go_sem, Nat.reduceLT, Nat.reduceEqDiff]; rfl); (· rfl); first | (apply zc; (· simp only [go_sem, Nat.reduceLT]; rfl); (· simp only [go_sem, Nat.reduceLT]; rfl)) | (apply zg; (· simp only [go_sem, Nat.reduceLT]; rfl))) | ((first | apply za | apply zb); (· rfl); (· simp only [go_sem, Nat.reduceLT]; rfl)) | (apply z9; (· simp only [go_sem, Nat.reduceEqDiff])) | (apply z7; (· simp only [go_sem, Nat.reduceEqDiff])) | (apply zf; (· kernel_rfl); (· kernel_rfl)) | (simp only [bW, if_true, Nat.reduceEqDiff, if_false])
          refine zn (st1 := ⟨63, [(2, .lref 0 0 3 0), (3, .lref 1 0 3 0), (4, .lref 2 0 3 0), (5, .lref 3 0 3 0), (7, I (i + 1 : Nat))], (0, ⟨[zj p], 3, false⟩) :: (1, ⟨[.agg [B true, I a, B b]], 3, false⟩) :: (2, ⟨[.agg [I 0, .sl true [] 0 none, .sl true [] 0 none]], 3, false⟩) :: (3, ⟨[.agg [I p.sheets, .sl true [] 0 none, gD 4 7 (e :: r)]], 3, false⟩) :: gO 4 7 zO (e :: r), gN 4 (e :: r), 0⟩) lk104_8 (by
            simp only [go_sem, List.map_append, Nat.reduceEqDiff, Nat.reduceLT, Nat.reduceAdd, bI, bD, bI2, okJ'.renL, okJ'.idsL, okJ'.idsL_app, gD, gO, gN, zj, zO, List.length_append]
            try rfl) (ih (i + 1) (e :: r) (by rw [← List.drop_drop, hd]; rfl) hlt (by simp at he ⊢; omega) (by simp only [go_sem, lessL, hd1] at h; exact h))
        · have hd0 : ((i : Int) != a) = true := by simp [hia]
          have hd1 : (decide (¬ (i : Int) = a)) = true := by simp [hia]
          refine zh ?_
          try dsimp only [lp104_8, zv, zm, Tryd.f104]
          simp only [bW, if_true, Nat.reduceEqDiff, if_false]
          repeat' first | (intro hb; first | cases hb | skip) | ((first | apply z8 | apply zd); (· rfl); (· simp (disch := assumption) only [go_sem, Nat.reduceEqDiff, Nat.reduceAdd, bP, ze, Nat.reduceLeDiff, Nat.reduceLT, Nat.reduceMul, List.length_append, decide_eq_true_eq, z6, z0, Int.reduceToNat, Int.reduceLE, Int.reduceLT, Int.reduceBNe, Int.reduceBEq, List.length_map, hx, hnm', hlt', hw3, okJ'.allOk, Nat.zero_lt_succ, hd0, hle, hb1, hb2, hao]; rfl); (· simp only [go_sem, Nat.reduceLT, Nat.reduceEqDiff]; rfl); (· rfl); first | (apply zc; (· simp only [go_sem, Nat.reduceLT]; rfl); (· simp only [go_sem, Nat.reduceLT]; rfl)) | (apply zg; (· simp only [go_sem, Nat.reduceLT]; rfl))) | ((first | apply za | apply zb); (· rfl); (· simp only [go_sem, Nat.reduceLT]; rfl)) | (apply z9; (· simp only [go_sem, Nat.reduceEqDiff])) | (apply z7; (· simp only [go_sem, Nat.reduceEqDiff])) | (apply zf; (· kernel_rfl); (· kernel_rfl)) | (simp only [bW, if_true, Nat.reduceEqDiff, if_false])
          refine zn (st1 := ⟨63, [(2, .lref 0 0 3 0), (3, .lref 1 0 3 0), (4, .lref 2 0 3 0), (5, .lref 3 0 3 0), (7, I (i + 1 : Nat))], (0, ⟨[zj p], 3, false⟩) :: (1, ⟨[.agg [B true, I a, B b]], 3, false⟩) :: (2, ⟨[.agg [I 0, .sl true [] 0 none, .sl true [] 0 none]], 3, false⟩) :: (3, ⟨[.agg [I p.sheets, .sl true [] 0 none, gD 4 7 ((e :: r) ++ [m])]], 3, false⟩) :: gO 4 7 zO ((e :: r) ++ [m]), gN 4 ((e :: r) ++ [m]), 0⟩) lk104_8 (by
            simp only [go_sem, List.map_append, Nat.reduceEqDiff, Nat.reduceLT, Nat.reduceAdd, bI, bD, bI2, okJ'.renL, okJ'.idsL, okJ'.idsL_app, gD, gO, gN, zj, zO, List.length_append]
            try rfl) (ih (i + 1) ((e :: r) ++ [m]) (by rw [← List.drop_drop, hd]; rfl) hlt (by simp at he ⊢; omega) (by simp only [go_sem, lessL, hd1] at h; simpa using h))

theorem L104_8c {F : Exit → St → Option D} (p : Paper) (j : Bool) (a : Int) (b : Bool) (ml : List Mark) (mn : Nat) (k : List Kt) (x : D) (hwf : p.wf) (hle0 : p.joins.length ≤ 1000) : ∀ (rest : List Join) (i : Nat) (acc : List Join), p.joins.drop i = rest → i ≤ p.joins.length → acc.length + rest.length ≤ 1000 →
    (zB cfg (lim cfg) 104 F k (.exit 2) ⟨63, [(40, B false), (39, I p.joins.length), (38, .sl p.nj (p.joins.map zO) (zs p.nj 7) none), (37, .lref 0 0 3 2), (36, I p.joins.length), (2, .lref 0 0 3 0), (3, .lref 1 0 3 0), (4, .lref 2 0 3 0), (5, .lref 3 0 3 0), (7, I (p.joins.length : Nat))], (0, ⟨[zj p], 3, false⟩) :: (1, ⟨[.agg [B j, I a, B b]], 3, false⟩) :: (2, ⟨[.agg [I 0, .sl true [] 0 none, .sl true [] 0 none]], 3, false⟩) :: (3, ⟨[.agg [I p.sheets, .lsl 4 0 mn 5 none, gD 5 7 (acc ++ lessL (!j) a i rest)]], 3, false⟩) :: (4, ⟨ml.map encM, 5, false⟩) :: gO 5 7 zO (acc ++ lessL (!j) a i rest), gN 5 (acc ++ lessL (!j) a i rest), 0⟩ = some x) →
    EvL cfg (lim cfg) 104 F lp104_8 k ⟨63, [(2, .lref 0 0 3 0), (3, .lref 1 0 3 0), (4, .lref 2 0 3 0), (5, .lref 3 0 3 0), (7, I (i : Nat))], (0, ⟨[zj p], 3, false⟩) :: (1, ⟨[.agg [B j, I a, B b]], 3, false⟩) :: (2, ⟨[.agg [I 0, .sl true [] 0 none, .sl true [] 0 none]], 3, false⟩) :: (3, ⟨[.agg [I p.sheets, .lsl 4 0 mn 5 none, gD 5 7 (acc)]], 3, false⟩) :: (4, ⟨ml.map encM, 5, false⟩) :: gO 5 7 zO (acc), gN 5 (acc), 0⟩ = some x := by
  have hl0 := len_if (f := zO) hwf.2.1
  intro rest
  induction rest with
  | nil =>
    intro i acc hd hi he h
    have hi' : i = p.joins.length := by
      have := List.drop_eq_nil_iff.1 hd
      omega
    subst hi'
    rw [lessL, List.append_nil] at h
    refine zh ?_
    try dsimp only [lp104_8, zv, zm, Tryd.f104]
    simp only [bW, if_true, Nat.reduceEqDiff, if_false]
    repeat' first | (intro hb; first | cases hb | skip) | ((first | apply z8 | apply zd); (· rfl); (· simp (disch := assumption) only [go_sem, Nat.reduceEqDiff, Nat.reduceAdd, bP, ze, Nat.reduceLeDiff, Nat.reduceLT, Nat.reduceMul, List.length_append, decide_eq_true_eq, z6, z0, Int.reduceToNat, Int.reduceLE, Int.reduceLT, Int.reduceBNe, Int.reduceBEq, hl0, Int.lt_irrefl]; rfl); (· simp only [go_sem, Nat.reduceLT, Nat.reduceEqDiff]; rfl); (· rfl); first | (apply zc; (· simp only [go_sem, Nat.reduceLT]; rfl); (· simp only [go_sem, Nat.reduceLT]; rfl)) | (apply zg; (· simp only [go_sem, Nat.reduceLT]; rfl))) | ((first | apply za | apply zb); (· rfl); (· simp only [go_sem, Nat.reduceLT]; rfl)) | (apply z9; (· simp only [go_sem, Nat.reduceEqDiff])) | (apply z7; (· simp only [go_sem, Nat.reduceEqDiff])) | (apply zf; (· kernel_rfl); (· kernel_rfl)) | (simp only [bW, if_true, Nat.reduceEqDiff, if_false])
    exact h
  | cons m rest ih =>
    intro i acc hd hi he h
    have hlt : i < p.joins.length := by
      rcases Nat.lt_or_ge i p.joins.length with h | h
      · exact h
      · rw [List.drop_eq_nil_of_le h] at hd; cases hd
    have hm : p.joins[i]? = some m := by rw [← List.head?_drop, hd]; rfl
    have hx : (p.joins.map zO)[i]? = some (.agg [I m.a, I m.b, I m.axis, I m.seenA, I m.errA, I m.seenB, I m.errB]) := by rw [List.getElem?_map, hm]; rfl
    have hnm' : p.nj = false := by
      cases h : p.nj with
      | false => rfl
      | true => rw [hwf.2.1 h] at hlt; cases hlt
    have hlt' : (i : Int) < (p.joins.length : Int) := by omega
    have hw3 : IntKind.i64.wrap ((i : Int) + 1) = ((i + 1 : Nat) : Int) := by rw [wrap_i64 (by omega) (by omega)]; omega
    have hl0' : ((p.joins.map zO).length : Int) = (p.joins.length : Int) := by simp
    rw [hnm'] at hl0
    simp only [Bool.false_eq_true, if_false] at hl0
    cases acc with
    | nil =>
      rw [List.nil_append] at h
      simp only [gD, gO, gN]
      cases j with
      | false =>
        have hd1 : True := trivial
        refine zh ?_
        try dsimp only [lp104_8, zv, zm, Tryd.f104]
        simp only [bW, if_true, Nat.reduceEqDiff, if_false]
        repeat' first | (intro hb; first | cases hb | skip) | ((first | apply z8 | apply zd); (· rfl); (· simp (disch := assumption) only [go_sem, Nat.reduceEqDiff, Nat.reduceAdd, bP, ze, Nat.reduceLeDiff, Nat.reduceLT, Nat.reduceMul, List.length_append, decide_eq_true_eq, z6, z0, Int.reduceToNat, Int.reduceLE, Int.reduceLT, Int.reduceBNe, Int.reduceBEq, List.length_map, hx, hnm', hlt', hw3, okJ'.allOk, Nat.zero_lt_succ]; rfl); (· simp only [go_sem, Nat.reduceLT, Nat.reduceEqDiff]; rfl); (· rfl); first | (apply zc; (· simp only [go_sem, Nat.reduceLT]; rfl); (· simp only [go_sem, Nat.reduceLT]; rfl)) | (apply zg; (· simp only [go_sem, Nat.reduceLT]; rfl))) | ((first | apply za | apply zb); (· rfl); (· simp only [go_sem, Nat.reduceLT]; rfl)) | (apply z9; (· simp only [go_sem, Nat.reduceEqDiff])) | (apply z7; (· simp only [go_sem, Nat.reduceEqDiff])) | (apply zf; (· kernel_rfl); (· kernel_rfl)) | (simp only [bW, if_true, Nat.reduceEqDiff, if_false])
        refine zn (st1 := ⟨63, [(2, .lref 0 0 3 0), (3, .lref 1 0 3 0), (4, .lref 2 0 3 0), (5, .lref 3 0 3 0), (7, I (i + 1 : Nat))], (0, ⟨[zj p], 3, false⟩) :: (1, ⟨[.agg [B false, I a, B b]], 3, false⟩) :: (2, ⟨[.agg [I 0, .sl true [] 0 none, .sl true [] 0 none]], 3, false⟩) :: (3, ⟨[.agg [I p.sheets, .lsl 4 0 mn 5 none, gD 5 7 (([]) ++ [m])]], 3, false⟩) :: (4, ⟨ml.map encM, 5, false⟩) :: gO 5 7 zO (([]) ++ [m]), gN 5 (([]) ++ [m]), 0⟩) lk104_8 (by
          simp only [go_sem, List.map_append, Nat.reduceEqDiff, Nat.reduceLT, Nat.reduceAdd, bI, bD, bI2, okJ'.renL, okJ'.idsL, okJ'.idsL_app, gD, gO, gN, zj, zO, List.length_append, zR.renL, zR.idsL, zR.ids, zR.ren]
          try rfl) (ih (i + 1) (([]) ++ [m]) (by rw [← List.drop_drop, hd]; rfl) hlt (by simp at he ⊢; omega) (by simp only [go_sem, lessL, hd1] at h; simpa using h))
      | true =>
        by_cases hia : (i : Int) = a
        · have hd0 : ((i : Int) != a) = false := by simp [hia]
          have hd1 : (decide (¬ (i : Int) = a)) = false := by simp [hia]
          refine zh ?_
          try dsimp only [lp104_8, zv, zm, Tryd.f104]
          simp only [bW, if_true, Nat.reduceEqDiff, if_false]
          repeat' first | (intro hb; first | cases hb | skip) | ((first | apply z8 | apply zd); (· rfl); (· simp (disch := assumption) only [go_sem, Nat.reduceEqDiff, Nat.reduceAdd, bP, ze, Nat.reduceLeDiff, Nat.reduceLT, Nat.reduceMul, List.length_append, decide_eq_true_eq, z6, z0, Int.reduceToNat, Int.reduceLE, Int.reduceLT, Int.reduceBNe, Int.reduceBEq, List.length_map, hx, hnm', hlt', hw3, okJ'.allOk, Nat.zero_lt_succ, hd0]; rfl); (· simp only [go_sem, Nat.reduceLT, Nat.reduceEqDiff]; rfl); (· rfl); first | (apply zc; (· simp only [go_sem, Nat.reduceLT]; rfl); (· simp only [go_sem, Nat.reduceLT]; rfl)) | (apply zg; (· simp only [go_sem, Nat.reduceLT]; rfl))) | ((first | apply za | apply zb); (· rfl); (· simp only [go_sem, Nat.reduceLT]; rfl)) | (apply z9; (· simp only [go_sem, Nat.reduceEqDiff])) | (apply z7; (· simp only [go_sem, Nat.reduceEqDiff])) | (apply zf; (· kernel_rfl); (· kernel_rfl)) | (simp only [bW, if_true, Nat.reduceEqDiff, if_false])
          refine zn (st1 := ⟨63, [(2, .lref 0 0 3 0), (3, .lref 1 0 3 0), (4, .lref 2 0 3 0), (5, .lref 3 0 3 0), (7, I (i + 1 : Nat))], (0, ⟨[zj p], 3, false⟩) :: (1, ⟨[.agg [B true, I a, B b]], 3, false⟩) :: (2, ⟨[.agg [I 0, .sl true [] 0 none, .sl true [] 0 none]], 3, false⟩) :: (3, ⟨[.agg [I p.sheets, .lsl 4 0 mn 5 none, gD 5 7 ([])]], 3, false⟩) :: (4, ⟨ml.map encM, 5, false⟩) :: gO 5 7 zO ([]), gN 5 ([]), 0⟩) lk104_8 (by
            simp only [go_sem, List.map_append, Nat.reduceEqDiff, Nat.reduceLT, Nat.reduceAdd, bI, bD, bI2, okJ'.renL, okJ'.idsL, okJ'.idsL_app, gD, gO, gN, zj, zO, List.length_append, zR.renL, zR.idsL, zR.ids, zR.ren]
            try rfl) (ih (i + 1) ([]) (by rw [← List.drop_drop, hd]; rfl) hlt (by simp at he ⊢; omega) (by simp only [go_sem, lessL, hd1] at h; exact h))
        · have hd0 : ((i : Int) != a) = true := by simp [hia]
          have hd1 : (decide (¬ (i : Int) = a)) = true := by simp [hia]
          refine zh ?_
          try dsimp only [lp104_8, zv, zm, Tryd.f104]
          simp only [bW, if_true, Nat.reduceEqDiff, if_false]
          repeat' first | (intro hb; first | cases hb | skip) | ((first | apply z8 | apply zd); (· rfl); (· simp (disch := assumption) only [go_sem, Nat.reduceEqDiff, Nat.reduceAdd, bP, ze, Nat.reduceLeDiff, Nat.reduceLT, Nat.reduceMul, List.length_append, decide_eq_true_eq, z6, z0, Int.reduceToNat, Int.reduceLE, Int.reduceLT, Int.reduceBNe, Int.reduceBEq, List.length_map, hx, hnm', hlt', hw3, okJ'.allOk, Nat.zero_lt_succ, hd0]; rfl); (· simp only [go_sem, Nat.reduceLT, Nat.reduceEqDiff]; rfl); (· rfl); first | (apply zc; (· simp only [go_sem, Nat.reduceLT]; rfl); (· simp only [go_sem, Nat.reduceLT]; rfl)) | (apply zg; (· simp only [go_sem, Nat.reduceLT]; rfl))) | ((first | apply za | apply zb); (· rfl); (· simp only [go_sem, Nat.reduceLT]; rfl)) | (apply z9; (· simp only [go_sem, Nat.reduceEqDiff])) | (apply z7; (· simp only [go_sem, Nat.reduceEqDiff])) | (apply zf; (· kernel_rfl); (· kernel_rfl)) | (simp only [bW, if_true, Nat.reduceEqDiff, if_false])
          refine zn (st1 := ⟨63, [(2, .lref 0 0 3 0), (3, .lref 1 0 3 0), (4, .lref 2 0 3 0), (5, .lref 3 0 3 0), (7, I (i + 1 : Nat))], (0, ⟨[zj p], 3, false⟩) :: (1, ⟨[.agg [B true, I a, B b]], 3, false⟩) :: (2, ⟨[.agg [I 0, .sl true [] 0 none, .sl true [] 0 none]], 3, false⟩) :: (3, ⟨[.agg [I p.sheets, .lsl 4 0 mn 5 none, gD 5 7 (([]) ++ [m])]], 3, false⟩) :: (4, ⟨ml.map encM, 5, false⟩) :: gO 5 7 zO (([]) ++ [m]), gN 5 (([]) ++ [m]), 0⟩) lk104_8 (by
            simp only [go_sem, List.map_append, Nat.reduceEqDiff, Nat.reduceLT, Nat.reduceAdd, bI, bD, bI2, okJ'.renL, okJ'.idsL, okJ'.idsL_app, gD, gO, gN, zj, zO, List.length_append, zR.renL, zR.idsL, zR.ids, zR.ren]
            try rfl) (ih (i + 1) (([]) ++ [m]) (by rw [← List.drop_drop, hd]; rfl) hlt (by simp at he ⊢; omega) (by simp only [go_sem, lessL, hd1] at h; simpa using h))
    | cons e r =>
      simp only [List.length_cons] at he
      have hle : (r.length + 1 + 1 ≤ r.length + 1) = False := by simp
      have hb1 : ((r.length + 1 + 1) * 56 ≤ big) = True := by simp [big]; omega
      have hb2 : (r.length + 1 + 1 ≤ big) = True := by simp [big]; omega
      have hao : allOk 7 (zO e :: List.map zO r) = true := okJ'.allOk (e :: r)
      simp only [gD, gO, gN, List.map_cons]
      cases j with
      | false =>
        have hd1 : True := trivial
        refine zh ?_
        try dsimp only [lp104_8, zv, zm, Tryd.f104]
        simp only [bW, if_true, Nat.reduceEqDiff, if_false]
        repeat' first | (intro hb; first | cases hb | skip) | ((first | apply z8 | apply zd); (· rfl); (· simp (disch := assumption) only [go_sem, Nat.reduceEqDiff, Nat.reduceAdd, bP, ze, Nat.reduceLeDiff, Nat.reduceLT, Nat.reduceMul, List.length_append, decide_eq_true_eq, z6, z0, Int.reduceToNat, Int.reduceLE, Int.reduceLT, Int.reduceBNe, Int.reduceBEq, List.length_map, hx, hnm', hlt', hw3, okJ'.allOk, Nat.zero_lt_succ, hle, hb1, hb2, hao]; rfl); (· simp only [go_sem, Nat.reduceLT, Nat.reduceEqDiff]; rfl); (· rfl); first | (apply zc; (· simp only [go_sem, Nat.reduceLT]; rfl); (· simp only [go_sem, Nat.reduceLT]; rfl)) | (apply zg; (· simp only [go_sem, Nat.reduceLT]; rfl))) | ((first | apply za | apply zb); (· rfl); (· simp only [go_sem, Nat.reduceLT]; rfl)) | (apply z9; (· simp only [go_sem, Nat.reduceEqDiff])) | (apply z7; (· simp only [go_sem, Nat.reduceEqDiff])) | (apply zf; (· kernel_rfl); (· kernel_rfl)) | (simp only [bW, if_true, Nat.reduceEqDiff, if_false])
        refine zn (st1 := ⟨63, [(2, .lref 0 0 3 0), (3, .lref 1 0 3 0), (4, .lref 2 0 3 0), (5, .lref 3 0 3 0), (7, I (i + 1 : Nat))], (0, ⟨[zj p], 3, false⟩) :: (1, ⟨[.agg [B false, I a, B b]], 3, false⟩) :: (2, ⟨[.agg [I 0, .sl true [] 0 none, .sl true [] 0 none]], 3, false⟩) :: (3, ⟨[.agg [I p.sheets, .lsl 4 0 mn 5 none, gD 5 7 ((e :: r) ++ [m])]], 3, false⟩) :: (4, ⟨ml.map encM, 5, false⟩) :: gO 5 7 zO ((e :: r) ++ [m]), gN 5 ((e :: r) ++ [m]), 0⟩) lk104_8 (by
          simp only [go_sem, List.map_append, Nat.reduceEqDiff, Nat.reduceLT, Nat.reduceAdd, bI, bD, bI2, okJ'.renL, okJ'.idsL, okJ'.idsL_app, gD, gO, gN, zj, zO, List.length_append, zR.renL, zR.idsL, zR.ids, zR.ren]
          try rfl) (ih (i + 1) ((e :: r) ++ [m]) (by rw [← List.drop_drop, hd]; rfl) hlt (by simp at he ⊢; omega) (by simp only [go_sem, lessL, hd1] at h; simpa using h))
      | true =>
        by_cases hia : (i : Int) = a
        · have hd0 : ((i : Int) != a) = false := by simp [hia]
          have hd1 : (decide (¬ (i : Int) = a)) = false := by simp [hia]
          refine zh ?_
          try dsimp only [lp104_8, zv, zm, Tryd.f104]
          simp only [bW, if_true, Nat.reduceEqDiff, if_false]
          repeat' first | (intro hb; first | cases hb | skip) | ((first | apply z8 | apply zd); (· rfl); (· simp (disch := assumption) only [go_sem, Nat.reduceEqDiff, Nat.reduceAdd, bP, ze, Nat.reduceLeDiff, Nat.reduceLT, Nat.reduceMul, List.length_append, decide_eq_true_eq, z6, z0, Int.reduceToNat, Int.reduceLE, Int.reduceLT, Int.reduceBNe, Int.reduceBEq, List.length_map, hx, hnm', hlt', hw3, okJ'.allOk, Nat.zero_lt_succ, hd0, hle, hb1, hb2, hao]; rfl); (· simp only [go_sem, Nat.reduceLT, Nat.reduceEqDiff]; rfl); (· rfl); first | (apply zc; (· simp only [go_sem, Nat.reduceLT]; rfl); (· simp only [go_sem, Nat.reduceLT]; rfl)) | (apply zg; (· simp only [go_sem, Nat.reduceLT]; rfl))) | ((first | apply za | apply zb); (· rfl); (· simp only [go_sem, Nat.reduceLT]; rfl)) | (apply z9; (· simp only [go_sem, Nat.reduceEqDiff])) | (apply z7; (· simp only [go_sem, Nat.reduceEqDiff])) | (apply zf; (· kernel_rfl); (· kernel_rfl)) | (simp only [bW, if_true, Nat.reduceEqDiff, if_false])
          refine zn (st1 := ⟨63, [(2, .lref 0 0 3 0), (3, .lref 1 0 3 0), (4, .lref 2 0 3 0), (5, .lref 3 0 3 0), (7, I (i + 1 : Nat))], (0, ⟨[zj p], 3, false⟩) :: (1, ⟨[.agg [B true, I a, B b]], 3, false⟩) :: (2, ⟨[.agg [I 0, .sl true [] 0 none, .sl true [] 0 none]], 3, false⟩) :: (3, ⟨[.agg [I p.sheets, .lsl 4 0 mn 5 none, gD 5 7 (e :: r)]], 3, false⟩) :: (4, ⟨ml.map encM, 5, false⟩) :: gO 5 7 zO (e :: r), gN 5 (e :: r), 0⟩) lk104_8 (by
            simp only [go_sem, List.map_append, Nat.reduceEqDiff, Nat.reduceLT, Nat.reduceAdd, bI, bD, bI2, okJ'.renL, okJ'.idsL, okJ'.idsL_app, gD, gO, gN, zj, zO, List.length_append, zR.renL, zR.idsL, zR.ids, zR.ren]
            try rfl) (ih (i + 1) (e :: r) (by rw [← List.drop_drop, hd]; rfl) hlt (by simp at he ⊢; omega) (by simp only [go_sem, lessL, hd1] at h; exact h))
        · have hd0 : ((i : Int) != a) = true := by simp [hia]
          have hd1 : (decide (¬ (i : Int) = a)) = true := by simp [hia]
          refine zh ?_
          try dsimp only [lp104_8, zv, zm, Tryd.f104]
          simp only [bW, if_true, Nat.reduceEqDiff, if_false]
          repeat' first | (intro hb; first | cases hb | skip) | ((first | apply z8 | apply zd); (· rfl); (· simp (disch := assumption) only [go_sem, Nat.reduceEqDiff, Nat.reduceAdd, bP, ze, Nat.reduceLeDiff, Nat.reduceLT, Nat.reduceMul, List.length_append, decide_eq_true_eq, z6, z0, Int.reduceToNat, Int.reduceLE, Int.reduceLT, Int.reduceBNe, Int.reduceBEq, List.length_map, hx, hnm', hlt', hw3, okJ'.allOk, Nat.zero_lt_succ, hd0, hle, hb1, hb2, hao]; rfl); (· simp only [go_sem, Nat.reduceLT, Nat.reduceEqDiff]; rfl); (· rfl); first | (apply zc; (· simp only [go_sem, Nat.reduceLT]; rfl); (· simp only [go_sem, Nat.reduceLT]; rfl)) | (apply zg; (· simp only [go_sem, Nat.reduceLT]; rfl))) | ((first | apply za | apply zb); (· rfl); (· simp only [go_sem, Nat.reduceLT]; rfl)) | (apply z9; (· simp only [go_sem, Nat.reduceEqDiff])) | (apply z7; (· simp only [go_sem, Nat.reduceEqDiff])) | (apply zf; (· kernel_rfl); (· kernel_rfl)) | (simp only [bW, if_true, Nat.reduceEqDiff, if_false])
          refine zn (st1 := ⟨63, [(2, .lref 0 0 3 0), (3, .lref 1 0 3 0), (4, .lref 2 0 3 0), (5, .lref 3 0 3 0), (7, I (i + 1 : Nat))], (0, ⟨[zj p], 3, false⟩) :: (1, ⟨[.agg [B true, I a, B b]], 3, false⟩) :: (2, ⟨[.agg [I 0, .sl true [] 0 none, .sl true [] 0 none]], 3, false⟩) :: (3, ⟨[.agg [I p.sheets, .lsl 4 0 mn 5 none, gD 5 7 ((e :: r) ++ [m])]], 3, false⟩) :: (4, ⟨ml.map encM, 5, false⟩) :: gO 5 7 zO ((e :: r) ++ [m]), gN 5 ((e :: r) ++ [m]), 0⟩) lk104_8 (by
            simp only [go_sem, List.map_append, Nat.reduceEqDiff, Nat.reduceLT, Nat.reduceAdd, bI, bD, bI2, okJ'.renL, okJ'.idsL, okJ'.idsL_app, gD, gO, gN, zj, zO, List.length_append, zR.renL, zR.idsL, zR.ids, zR.ren]
            try rfl) (ih (i + 1) ((e :: r) ++ [m]) (by rw [← List.drop_drop, hd]; rfl) hlt (by simp at he ⊢; omega) (by simp only [go_sem, lessL, hd1] at h; simpa using h))

def lessF (p : Paper) (r : Reason) : Paper := ⟨p.sheets, (lessL r.join r.at_ 0 p.marks).isEmpty, lessL r.join r.at_ 0 p.marks, (lessL (!r.join) r.at_ 0 p.joins).isEmpty, lessL (!r.join) r.at_ 0 p.joins⟩
theorem enc_less (sh : Int) (ms : List Mark) (js : List Join) : zj ⟨sh, ms.isEmpty, ms, js.isEmpty, js⟩ = .agg [I sh, gS 5 encM ms, gS 7 zO js] := by
  cases ms <;> cases js <;> rfl

theorem t104 (p : Paper) (r : Reason) (hwf : p.wf) (h1 : p.marks.length ≤ 1000) (h2 : p.joins.length ≤ 1000) : (lim cfg).pure 104 [zj p, .agg [B r.join, I r.at_, B r.back]] = some (zj (lessF p r)) := by
  have hlm := len_if (f := encM) hwf.1
  have hlj := len_if (f := zO) hwf.2.1
  obtain ⟨j, a, b⟩ := r
  unfold lessF
  rw [enc_less]
  simp only []
  refine zo (zk 104) cfn104 rfl (n := 63) rfl ?_
  generalize hF : finP cfg Tryd.f104 = F
  simp only [bW, if_true, Nat.reduceEqDiff, if_false, zl]
  repeat' first | (intro hb; first | cases hb | skip) | ((first | apply z8 | apply zd); (· rfl); (· simp (disch := assumption) only [go_sem, Nat.reduceEqDiff, Nat.reduceAdd, bP, ze, Nat.reduceLeDiff, Nat.reduceLT, Nat.reduceMul, List.length_append, decide_eq_true_eq, z6, z0, Int.reduceToNat, Int.reduceLE, Int.reduceLT, Int.reduceBNe, Int.reduceBEq, hlm]; rfl); (· simp only [go_sem, Nat.reduceLT, Nat.reduceEqDiff]; rfl); (· rfl); first | (apply zc; (· simp only [go_sem, Nat.reduceLT]; rfl); (· simp only [go_sem, Nat.reduceLT]; rfl)) | (apply zg; (· simp only [go_sem, Nat.reduceLT]; rfl))) | ((first | apply za | apply zb); (· rfl); (· simp only [go_sem, Nat.reduceLT]; rfl)) | (apply z9; (· simp only [go_sem, Nat.reduceEqDiff])) | (apply z7; (· simp only [go_sem, Nat.reduceEqDiff])) | (apply zf; (· kernel_rfl); (· kernel_rfl)) | (simp only [bW, if_true, Nat.reduceEqDiff, if_false])
  refine zK (st1 := ⟨63, [(2, .lref 0 0 3 0), (3, .lref 1 0 3 0), (4, .lref 2 0 3 0), (5, .lref 3 0 3 0), (6, I (0 : Nat))], (0, ⟨[zj p], 3, false⟩) :: (1, ⟨[.agg [B j, I a, B b]], 3, false⟩) :: (2, ⟨[.agg [I 0, .sl true [] 0 none, .sl true [] 0 none]], 3, false⟩) :: (3, ⟨[.agg [I p.sheets, gD 4 5 (([] : List Mark)), .sl true [] 0 none]], 3, false⟩) :: gO 4 5 encM (([] : List Mark)), gN 4 (([] : List Mark)), 0⟩) lk104_3 (by
    simp only [go_sem, List.map_append, Nat.reduceEqDiff, Nat.reduceLT, Nat.reduceAdd, bI, bD, bI2, zj]
    try rfl) (L104_3 p j a b _ _ hwf h1 p.marks 0 [] rfl (Nat.zero_le _) (by simp; omega) ?_)
  rw [List.nil_append]
  generalize lessL j a 0 p.marks = ms
  cases ms with
  | nil =>
    simp only [gD, gO, gN]
    simp only [bW, if_true, Nat.reduceEqDiff, if_false]
    repeat' first | (intro hb; first | cases hb | skip) | ((first | apply z8 | apply zd); (· rfl); (· simp (disch := assumption) only [go_sem, Nat.reduceEqDiff, Nat.reduceAdd, bP, ze, Nat.reduceLeDiff, Nat.reduceLT, Nat.reduceMul, List.length_append, decide_eq_true_eq, z6, z0, Int.reduceToNat, Int.reduceLE, Int.reduceLT, Int.reduceBNe, Int.reduceBEq, hlj]; rfl); (· simp only [go_sem, Nat.reduceLT, Nat.reduceEqDiff]; rfl); (· rfl); first | (apply zc; (· simp only [go_sem, Nat.reduceLT]; rfl); (· simp only [go_sem, Nat.reduceLT]; rfl)) | (apply zg; (· simp only [go_sem, Nat.reduceLT]; rfl))) | ((first | apply za | apply zb); (· rfl); (· simp only [go_sem, Nat.reduceLT]; rfl)) | (apply z9; (· simp only [go_sem, Nat.reduceEqDiff])) | (apply z7; (· simp only [go_sem, Nat.reduceEqDiff])) | (apply zf; (· kernel_rfl); (· kernel_rfl)) | (simp only [bW, if_true, Nat.reduceEqDiff, if_false])
    refine zK (st1 := ⟨63, [(2, .lref 0 0 3 0), (3, .lref 1 0 3 0), (4, .lref 2 0 3 0), (5, .lref 3 0 3 0), (7, I (0 : Nat))], (0, ⟨[zj p], 3, false⟩) :: (1, ⟨[.agg [B j, I a, B b]], 3, false⟩) :: (2, ⟨[.agg [I 0, .sl true [] 0 none, .sl true [] 0 none]], 3, false⟩) :: (3, ⟨[.agg [I p.sheets, .sl true [] 0 none, gD 4 7 (([] : List Join))]], 3, false⟩) :: gO 4 7 zO (([] : List Join)), gN 4 (([] : List Join)), 0⟩) lk104_8 (by
      simp only [go_sem, List.map_append, Nat.reduceEqDiff, Nat.reduceLT, Nat.reduceAdd, bI, bD, bI2, zj, zR.renL, zR.idsL, zR.ids, zR.ren, gD, gO, gN]
      try rfl) (L104_8n p j a b _ _ hwf h2 p.joins 0 [] rfl (Nat.zero_le _) (by simp; omega) ?_)
    rw [List.nil_append]
    generalize lessL (!j) a 0 p.joins = js
    cases js with
    | nil =>
      simp only [gD, gO, gN, gS]
      simp only [bW, if_true, Nat.reduceEqDiff, if_false]
      repeat' first | (intro hb; first | cases hb | skip) | ((first | apply z8 | apply zd); (· rfl); (· simp (disch := assumption) only [go_sem, Nat.reduceEqDiff, Nat.reduceAdd, bP, ze, Nat.reduceLeDiff, Nat.reduceLT, Nat.reduceMul, List.length_append, decide_eq_true_eq, z6, z0, Int.reduceToNat, Int.reduceLE, Int.reduceLT, Int.reduceBNe, Int.reduceBEq]; rfl); (· simp only [go_sem, Nat.reduceLT, Nat.reduceEqDiff]; rfl); (· rfl); first | (apply zc; (· simp only [go_sem, Nat.reduceLT]; rfl); (· simp only [go_sem, Nat.reduceLT]; rfl)) | (apply zg; (· simp only [go_sem, Nat.reduceLT]; rfl))) | ((first | apply za | apply zb); (· rfl); (· simp only [go_sem, Nat.reduceLT]; rfl)) | (apply z9; (· simp only [go_sem, Nat.reduceEqDiff])) | (apply z7; (· simp only [go_sem, Nat.reduceEqDiff])) | (apply zf; (· kernel_rfl); (· kernel_rfl)) | (simp only [bW, if_true, Nat.reduceEqDiff, if_false])
      subst hF
      all_goals simp only [go_sem, Nat.reduceEqDiff, bP, Nat.reduceAdd, Nat.reduceLeDiff, List.length_map, Tryd.f104, z6, zR.snapAll, okJ'.snapAll, zR.snap, okJ'.snap]
      all_goals first | done | rfl | trace_state
    | cons e jl =>
      simp only [gD, gO, gN, gS]
      simp only [bW, if_true, Nat.reduceEqDiff, if_false]
      repeat' first | (intro hb; first | cases hb | skip) | ((first | apply z8 | apply zd); (· rfl); (· simp (disch := assumption) only [go_sem, Nat.reduceEqDiff, Nat.reduceAdd, bP, ze, Nat.reduceLeDiff, Nat.reduceLT, Nat.reduceMul, List.length_append, decide_eq_true_eq, z6, z0, Int.reduceToNat, Int.reduceLE, Int.reduceLT, Int.reduceBNe, Int.reduceBEq]; rfl); (· simp only [go_sem, Nat.reduceLT, Nat.reduceEqDiff]; rfl); (· rfl); first | (apply zc; (· simp only [go_sem, Nat.reduceLT]; rfl); (· simp only [go_sem, Nat.reduceLT]; rfl)) | (apply zg; (· simp only [go_sem, Nat.reduceLT]; rfl))) | ((first | apply za | apply zb); (· rfl); (· simp only [go_sem, Nat.reduceLT]; rfl)) | (apply z9; (· simp only [go_sem, Nat.reduceEqDiff])) | (apply z7; (· simp only [go_sem, Nat.reduceEqDiff])) | (apply zf; (· kernel_rfl); (· kernel_rfl)) | (simp only [bW, if_true, Nat.reduceEqDiff, if_false])
      subst hF
      all_goals simp only [go_sem, Nat.reduceEqDiff, bP, Nat.reduceAdd, Nat.reduceLeDiff, List.length_map, Tryd.f104, z6, zR.snapAll, okJ'.snapAll, zR.snap, okJ'.snap]
      all_goals first | done | rfl | trace_state
  | cons m ml =>
    simp only [gD, gO, gN]
    simp only [bW, if_true, Nat.reduceEqDiff, if_false]
    repeat' first | (intro hb; first | cases hb | skip) | ((first | apply z8 | apply zd); (· rfl); (· simp (disch := assumption) only [go_sem, Nat.reduceEqDiff, Nat.reduceAdd, bP, ze, Nat.reduceLeDiff, Nat.reduceLT, Nat.reduceMul, List.length_append, decide_eq_true_eq, z6, z0, Int.reduceToNat, Int.reduceLE, Int.reduceLT, Int.reduceBNe, Int.reduceBEq, hlj]; rfl); (· simp only [go_sem, Nat.reduceLT, Nat.reduceEqDiff]; rfl); (· rfl); first | (apply zc; (· simp only [go_sem, Nat.reduceLT]; rfl); (· simp only [go_sem, Nat.reduceLT]; rfl)) | (apply zg; (· simp only [go_sem, Nat.reduceLT]; rfl))) | ((first | apply za | apply zb); (· rfl); (· simp only [go_sem, Nat.reduceLT]; rfl)) | (apply z9; (· simp only [go_sem, Nat.reduceEqDiff])) | (apply z7; (· simp only [go_sem, Nat.reduceEqDiff])) | (apply zf; (· kernel_rfl); (· kernel_rfl)) | (simp only [bW, if_true, Nat.reduceEqDiff, if_false])
    refine zK (st1 := ⟨63, [(2, .lref 0 0 3 0), (3, .lref 1 0 3 0), (4, .lref 2 0 3 0), (5, .lref 3 0 3 0), (7, I (0 : Nat))], (0, ⟨[zj p], 3, false⟩) :: (1, ⟨[.agg [B j, I a, B b]], 3, false⟩) :: (2, ⟨[.agg [I 0, .sl true [] 0 none, .sl true [] 0 none]], 3, false⟩) :: (3, ⟨[.agg [I p.sheets, .lsl 4 0 (ml.length + 1) 5 none, gD 5 7 (([] : List Join))]], 3, false⟩) :: (4, ⟨(m :: ml).map encM, 5, false⟩) :: gO 5 7 zO (([] : List Join)), gN 5 (([] : List Join)), 0⟩) lk104_8 (by
      simp only [go_sem, List.map_append, Nat.reduceEqDiff, Nat.reduceLT, Nat.reduceAdd, bI, bD, bI2, zj, zR.renL, zR.idsL, zR.ids, zR.ren, gD, gO, gN]
      try rfl) (L104_8c p j a b (m :: ml) (ml.length + 1) _ _ hwf h2 p.joins 0 [] rfl (Nat.zero_le _) (by simp; omega) ?_)
    rw [List.nil_append]
    generalize lessL (!j) a 0 p.joins = js
    cases js with
    | nil =>
      simp only [gD, gO, gN, gS]
      simp only [bW, if_true, Nat.reduceEqDiff, if_false]
      repeat' first | (intro hb; first | cases hb | skip) | ((first | apply z8 | apply zd); (· rfl); (· simp (disch := assumption) only [go_sem, Nat.reduceEqDiff, Nat.reduceAdd, bP, ze, Nat.reduceLeDiff, Nat.reduceLT, Nat.reduceMul, List.length_append, decide_eq_true_eq, z6, z0, Int.reduceToNat, Int.reduceLE, Int.reduceLT, Int.reduceBNe, Int.reduceBEq]; rfl); (· simp only [go_sem, Nat.reduceLT, Nat.reduceEqDiff]; rfl); (· rfl); first | (apply zc; (· simp only [go_sem, Nat.reduceLT]; rfl); (· simp only [go_sem, Nat.reduceLT]; rfl)) | (apply zg; (· simp only [go_sem, Nat.reduceLT]; rfl))) | ((first | apply za | apply zb); (· rfl); (· simp only [go_sem, Nat.reduceLT]; rfl)) | (apply z9; (· simp only [go_sem, Nat.reduceEqDiff])) | (apply z7; (· simp only [go_sem, Nat.reduceEqDiff])) | (apply zf; (· kernel_rfl); (· kernel_rfl)) | (simp only [bW, if_true, Nat.reduceEqDiff, if_false])
      subst hF
      all_goals simp only [go_sem, Nat.reduceEqDiff, bP, Nat.reduceAdd, Nat.reduceLeDiff, List.length_map, Tryd.f104, z6, zR.snapAll, okJ'.snapAll, zR.snap, okJ'.snap]
      all_goals first | done | rfl | trace_state
    | cons e jl =>
      simp only [gD, gO, gN, gS]
      simp only [bW, if_true, Nat.reduceEqDiff, if_false]
      repeat' first | (intro hb; first | cases hb | skip) | ((first | apply z8 | apply zd); (· rfl); (· simp (disch := assumption) only [go_sem, Nat.reduceEqDiff, Nat.reduceAdd, bP, ze, Nat.reduceLeDiff, Nat.reduceLT, Nat.reduceMul, List.length_append, decide_eq_true_eq, z6, z0, Int.reduceToNat, Int.reduceLE, Int.reduceLT, Int.reduceBNe, Int.reduceBEq]; rfl); (· simp only [go_sem, Nat.reduceLT, Nat.reduceEqDiff]; rfl); (· rfl); first | (apply zc; (· simp only [go_sem, Nat.reduceLT]; rfl); (· simp only [go_sem, Nat.reduceLT]; rfl)) | (apply zg; (· simp only [go_sem, Nat.reduceLT]; rfl))) | ((first | apply za | apply zb); (· rfl); (· simp only [go_sem, Nat.reduceLT]; rfl)) | (apply z9; (· simp only [go_sem, Nat.reduceEqDiff])) | (apply z7; (· simp only [go_sem, Nat.reduceEqDiff])) | (apply zf; (· kernel_rfl); (· kernel_rfl)) | (simp only [bW, if_true, Nat.reduceEqDiff, if_false])
      subst hF
      all_goals simp only [go_sem, Nat.reduceEqDiff, bP, Nat.reduceAdd, Nat.reduceLeDiff, List.length_map, Tryd.f104, z6, zR.snapAll, okJ'.snapAll, zR.snap, okJ'.snap]
      all_goals first | done | rfl | trace_state

end Go.VS
/-
  What is known along one axis depends on what is said along it alone, in any order. (A text of this claim's own; nothing of it is trusted.)
-/
namespace Go.VS
open Go Go.VS.Walks
theorem ch_mono {E E' : T → Prop} (h : ∀ t, E t → E' t) : ∀ {l : List T} {a b : Nat}, Ch E a l b → Ch E' a l b
  | [], _, _, h' => h'
  | _ :: _, _, _, h' => ⟨h _ h'.1, h'.2.1, ch_mono h h'.2.2⟩
theorem chains_le {es es' : List Edge} (hsub : ∀ t, inE es t → inE es' t) (hb : ∀ e ∈ es, edgeB e) (hb' : ∀ e ∈ es', edgeB e) {s m b : Nat} (hs : s < 5) {c : Chn} (hc : (zI es s m)[b]? = some (some c)) :
    redR c.q ∧ ∃ c', (zI es' s m)[b]? = some (some c') ∧ redR c'.q ∧ vR c'.q ≤ vR c.q := by
  obtain ⟨k, k1, k2, w, w1, w2, w3, w4, w5⟩ := (chains_spec hb hs m).2.1 b c hc
  obtain ⟨v, v1, v2⟩ := inE_walk (ch_mono hsub w2.1)
  have hl : v.length = w.length := by have := congrArg List.length v1; simpa using this
  have hp : prE v = prE w := by unfold prE; rw [v1]
  obtain ⟨c', c1, c2⟩ := (chains_spec hb' hs m).2.2 b v (by omega) (by omega) v2
  refine ⟨w5, c', c1, ?_, by rw [w3, ← hp]; exact c2⟩
  obtain ⟨_, _, _, h⟩ := (chains_spec hb' hs m).2.1 b c' c1
  exact real_red h
theorem chains_same {es es' : List Edge} (h : ∀ t, inE es t ↔ inE es' t) (hb : ∀ e ∈ es, edgeB e) (hb' : ∀ e ∈ es', edgeB e) {s m b : Nat} (hs : s < 5) {c : Chn} (hc : (zI es s m)[b]? = some (some c)) :
    ∃ c', (zI es' s m)[b]? = some (some c') ∧ c'.q = c.q := by
  obtain ⟨r1, c', c1, r2, l1⟩ := chains_le (fun t => (h t).1) hb hb' hs hc
  obtain ⟨_, c'', c2, _, l2⟩ := chains_le (fun t => (h t).2) hb' hb hs c1
  rw [hc] at c2; cases c2
  exact ⟨c', c1, red_eq r2 r1 (Rat.le_antisymm l1 l2)⟩
theorem clash_of {es : List Edge} : ∀ {j i : Nat}, (∀ k, i ≤ k → k < i + j → ∀ c, (zI es k 5)[k]? = some (some c) → ltR c.q one1 = false) → clashFrom es j i = none
  | 0, _, _ => rfl
  | j + 1, i, h => by
    have ih := clash_of (es := es) (j := j) (i := i + 1) fun k h1 h2 c hc => h k (by omega) (by omega) c hc
    unfold clashFrom
    split
    · rename_i c hc
      rw [h i (Nat.le_refl _) (by omega) c hc]
      exact ih
    · exact ih
theorem clash_same {p p' : Paper} {ax ax' : Int} (hok : zu p = true) (hok' : zu p' = true) (hs : p'.sheets = p.sheets) (h : ∀ t, inE (zE p ax) t ↔ inE (zE p' ax') t) (hc : clashA p ax = none) : clashA p' ax' = none := by
  obtain ⟨o1, o2, -⟩ := zA hok
  refine clash_of fun k h1 h2 c' hc' => ?_
  obtain ⟨c, c1, c2⟩ := chains_same (fun t => (h t).symm) (fun e he => (edge_nodes hok' he).1) (fun e he => (edge_nodes hok he).1) (show k < 5 by omega) hc'
  rw [← c2]
  exact clash_none hc k h1 (by rw [← hs]; exact h2) c c1
theorem dist_same {p p' : Paper} {ax ax' : Int} (hok : zu p = true) (hok' : zu p' = true) (hs : p'.sheets = p.sheets) (h : ∀ t, inE (zE p ax) t ↔ inE (zE p' ax') t) {s t : Nat} (h1 : s < 1 + p.sheets) (h2 : t < 1 + p.sheets) : distF p' ax' s t = distF p ax s t := by
  obtain ⟨o1, o2, -⟩ := zA hok
  by_cases hst : s = t
  · subst hst; unfold distF; rw [if_pos rfl, if_pos rfl]
  · have e1 := dist_some hok ax h1 h2 hst
    have e2 := dist_some hok' ax' (show (s : Int) < 1 + p'.sheets by omega) (show (t : Int) < 1 + p'.sheets by omega) hst
    obtain ⟨c, c1, c2⟩ := chains_same h (fun e he => (edge_nodes hok he).1) (fun e he => (edge_nodes hok' he).1) (show s < 5 by omega) e1
    rw [e2] at c1; cases c1
    unfold distF
    rw [if_neg hst, if_neg hst]
    exact c2
/-! ### what is said along an axis -/
def mT (m : Mark) : List T := (markE m 0).map tE
def jT (j : Join) : List T := (joinE j 0).map tE
def sT (i : Nat) : List T := (sheetE i).map tE
theorem marksE_T (ax : Int) (t : T) : ∀ (l : List Mark) (i : Nat), (∃ e, e ∈ marksE ax l i ∧ tE e = t) ↔ ∃ m ∈ l, m.axis = ax ∧ t ∈ mT m
  | [], i => by simp [marksE]
  | m :: l, i => by
    have hm : ∀ k, t ∈ mT m ↔ ∃ e ∈ markE m k, tE e = t := by
      intro k; unfold mT; rw [show (markE m 0).map tE = (markE m k).map tE from rfl, List.mem_map]
    have ih := marksE_T ax t l (i + 1)
    constructor
    · rintro ⟨e, he, rfl⟩
      simp only [marksE, List.mem_append] at he
      rcases he with he | he
      · split at he
        · rename_i hax; exact ⟨m, by simp, hax, (hm i).2 ⟨e, he, rfl⟩⟩
        · cases he
      · obtain ⟨m', h1, h2, h3⟩ := ih.1 ⟨e, he, rfl⟩
        exact ⟨m', List.mem_cons_of_mem _ h1, h2, h3⟩
    · rintro ⟨m', h1, h2, h3⟩
      rcases List.mem_cons.1 h1 with rfl | h1
      · obtain ⟨e, he, h⟩ := (hm i).1 h3
        exact ⟨e, by simp only [marksE, List.mem_append, h2, if_true]; exact .inl he, h⟩
      · obtain ⟨e, he, h⟩ := ih.2 ⟨m', h1, h2, h3⟩
        exact ⟨e, by simp only [marksE, List.mem_append]; exact .inr he, h⟩
theorem joinsE_T (ax : Int) (t : T) : ∀ (l : List Join) (i : Nat), (∃ e, e ∈ joinsE ax l i ∧ tE e = t) ↔ ∃ m ∈ l, m.axis = ax ∧ t ∈ jT m
  | [], i => by simp [joinsE]
  | m :: l, i => by
    have hm : ∀ k, t ∈ jT m ↔ ∃ e ∈ joinE m k, tE e = t := by
      intro k; unfold jT; rw [show (joinE m 0).map tE = (joinE m k).map tE from rfl, List.mem_map]
    have ih := joinsE_T ax t l (i + 1)
    constructor
    · rintro ⟨e, he, rfl⟩
      simp only [joinsE, List.mem_append] at he
      rcases he with he | he
      · split at he
        · rename_i hax; exact ⟨m, by simp, hax, (hm i).2 ⟨e, he, rfl⟩⟩
        · cases he
      · obtain ⟨m', h1, h2, h3⟩ := ih.1 ⟨e, he, rfl⟩
        exact ⟨m', List.mem_cons_of_mem _ h1, h2, h3⟩
    · rintro ⟨m', h1, h2, h3⟩
      rcases List.mem_cons.1 h1 with rfl | h1
      · obtain ⟨e, he, h⟩ := (hm i).1 h3
        exact ⟨e, by simp only [joinsE, List.mem_append, h2, if_true]; exact .inl he, h⟩
      · obtain ⟨e, he, h⟩ := ih.2 ⟨m', h1, h2, h3⟩
        exact ⟨e, by simp only [joinsE, List.mem_append]; exact .inr he, h⟩
theorem inE_edges {p : Paper} {ax : Int} {t : T} : inE (zE p ax) t ↔ (∃ i, i < p.sheets.toNat ∧ t ∈ sT i) ∨ (∃ m ∈ p.marks, m.axis = ax ∧ t ∈ mT m) ∨ (∃ m ∈ p.joins, m.axis = ax ∧ t ∈ jT m) := by
  rw [← marksE_T ax t p.marks 0, ← joinsE_T ax t p.joins 0]
  unfold inE zE
  constructor
  · rintro ⟨e, he, rfl⟩
    simp only [List.mem_append, List.mem_flatMap, List.mem_range'_1] at he
    rcases he with (⟨i, hi, he⟩ | he) | he
    · exact .inl ⟨i, by omega, List.mem_map.2 ⟨e, he, rfl⟩⟩
    · exact .inr (.inl ⟨e, he, rfl⟩)
    · exact .inr (.inr ⟨e, he, rfl⟩)
  · rintro (⟨i, hi, h⟩ | ⟨e, he, rfl⟩ | ⟨e, he, rfl⟩)
    · obtain ⟨e, he, rfl⟩ := List.mem_map.1 h
      refine ⟨e, ?_, rfl⟩
      simp only [List.mem_append, List.mem_flatMap, List.mem_range'_1]
      exact .inl (.inl ⟨i, by omega, he⟩)
    · exact ⟨e, by simp only [List.mem_append]; exact .inl (.inr he), rfl⟩
    · exact ⟨e, by simp only [List.mem_append]; exact .inr he, rfl⟩
/-- The paper of what is said along one axis, the other way round. -/
def ownM (p : Paper) (ax : Int) : List Mark := (p.marks.filter fun m => decide (m.axis = ax)).reverse
def ownJ (p : Paper) (ax : Int) : List Join := (p.joins.filter fun m => decide (m.axis = ax)).reverse
def ownP (p : Paper) (ax : Int) : Paper := ⟨p.sheets, (ownM p ax).isEmpty, ownM p ax, (ownJ p ax).isEmpty, ownJ p ax⟩
theorem mem_ownM {p : Paper} {ax : Int} {m : Mark} : m ∈ ownM p ax ↔ m ∈ p.marks ∧ m.axis = ax := by simp [ownM]
theorem mem_ownJ {p : Paper} {ax : Int} {m : Join} : m ∈ ownJ p ax ↔ m ∈ p.joins ∧ m.axis = ax := by simp [ownJ]
theorem own_wf {p : Paper} {ax : Int} (hwf : p.wf) : (ownP p ax).wf := by
  refine ⟨fun h => List.isEmpty_iff.1 h, fun h => List.isEmpty_iff.1 h, ?_, ?_⟩
  · have := List.length_filter_le (fun m : Mark => decide (m.axis = ax)) p.marks
    have := hwf.2.2.1
    simp only [ownP, ownM, List.length_reverse]; omega
  · have := List.length_filter_le (fun m : Join => decide (m.axis = ax)) p.joins
    have := hwf.2.2.2
    simp only [ownP, ownJ, List.length_reverse]; omega
theorem own_ok {p : Paper} {ax : Int} (hok : zu p = true) : zu (ownP p ax) = true := by
  obtain ⟨o1, o2, o3, o4, o5, o6⟩ := zA hok
  have l1 := List.length_filter_le (fun m : Mark => decide (m.axis = ax)) p.marks
  have l2 := List.length_filter_le (fun m : Join => decide (m.axis = ax)) p.joins
  simp only [zu, Bool.and_eq_true, decide_eq_true_eq, List.all_eq_true]
  refine ⟨⟨⟨⟨⟨o1, o2⟩, ?_⟩, ?_⟩, fun m hm => ?_⟩, fun m hm => ?_⟩
  · show (ownM p ax).length ≤ 24
    simp only [ownM, List.length_reverse]; omega
  · show (ownJ p ax).length ≤ 24
    simp only [ownJ, List.length_reverse]; omega
  · exact o5 m (mem_ownM.1 hm).1
  · exact o6 m (mem_ownJ.1 hm).1
theorem own_edges {p : Paper} {ax : Int} (t : T) : inE (zE p ax) t ↔ inE (zE (ownP p ax) ax) t := by
  rw [inE_edges, inE_edges]
  refine or_congr Iff.rfl (or_congr ?_ ?_)
  · constructor
    · rintro ⟨m, h1, h2, h3⟩; exact ⟨m, mem_ownM.2 ⟨h1, h2⟩, h2, h3⟩
    · rintro ⟨m, h1, h2, h3⟩; exact ⟨m, (mem_ownM.1 h1).1, h2, h3⟩
  · constructor
    · rintro ⟨m, h1, h2, h3⟩; exact ⟨m, mem_ownJ.2 ⟨h1, h2⟩, h2, h3⟩
    · rintro ⟨m, h1, h2, h3⟩; exact ⟨m, (mem_ownJ.1 h1).1, h2, h3⟩
theorem own_other {p : Paper} {ax ax' : Int} (hne : ax' ≠ ax) {t : T} (h : inE (zE (ownP p ax) ax') t) : t.w = 2 := by
  rcases inE_edges.1 h with ⟨i, _, h⟩ | ⟨m, h1, h2, _⟩ | ⟨m, h1, h2, _⟩
  · simp only [sT, sheetE, List.map_cons, List.map_nil, List.mem_cons, List.not_mem_nil, or_false] at h
    have h2 : vR ⟨2, 1⟩ = 2 := by decide
    rcases h with rfl | rfl <;> (simp only [tE]; exact h2)
  · exact absurd (h2.symm.trans (mem_ownM.1 h1).2) hne
  · exact absurd (h2.symm.trans (mem_ownJ.1 h1).2) hne
theorem pr_two {E : T → Prop} (hE : ∀ t, E t → t.w = 2) : ∀ {l : List T} {a b : Nat}, Ch E a l b → 1 ≤ pr l ∧ (l ≠ [] → 2 ≤ pr l)
  | [], _, _, _ => ⟨Rat.le_refl, fun h => absurd rfl h⟩
  | t :: l, _, _, h => by
    have ih := (pr_two hE h.2.2).1
    have h2 : (2 : Rat) ≤ pr (t :: l) := by
      show (2 : Rat) ≤ t.w * pr l
      rw [hE t h.1]
      have := Rat.mul_le_mul_of_nonneg_left ih (show (0 : Rat) ≤ 2 by decide)
      rwa [Rat.mul_one] at this
    exact ⟨Rat.le_trans (by decide) h2, fun _ => h2⟩
theorem own_clash {p : Paper} {ax ax' : Int} (hok : zu p = true) (hne : ax' ≠ ax) : clashA (ownP p ax) ax' = none := by
  obtain ⟨o1, o2, -⟩ := zA hok
  refine clash_of fun k h1 h2 c hc => ?_
  have h5 : k < 5 := by
    have : k < 0 + (1 + p.sheets).toNat := h2
    omega
  obtain ⟨n, n1, n2, w, w1, w2, w3, w4, w5⟩ := (chains_spec (fun e he => (edge_nodes (own_ok hok) he).1) h5 5).2.1 k c hc
  have hp := (pr_two (fun t ht => own_other hne ht) w2.1).1
  cases hlt : ltR c.q one1 with
  | false => rfl
  | true =>
    rw [ltR_iff w5.2.1 (by decide), one_vR, w3] at hlt
    exact absurd hlt (Rat.not_lt.2 hp)
theorem own_dist {p : Paper} {ax ax' : Int} (hok : zu p = true) (hne : ax' ≠ ax) {i : Nat} (hi : (i : Int) < p.sheets) : distF (ownP p ax) ax' (1 + i) 0 = ⟨2, 1⟩ ∧ distF (ownP p ax) ax' 0 (1 + i) = ⟨2, 1⟩ := by
  have hok' := own_ok (ax := ax) hok
  have hc := own_clash hok hne
  have hr2 : redR ⟨2, 1⟩ := ⟨by decide, by decide, by decide⟩
  have h2 : vR ⟨2, 1⟩ = 2 := by decide
  have b1 : ((1 + i : Nat) : Int) < 1 + (ownP p ax).sheets := by show _ < 1 + p.sheets; omega
  have b0 : ((0 : Nat) : Int) < 1 + (ownP p ax).sheets := by show _ < 1 + p.sheets; omega
  have key : ∀ (s t : Nat) (w : List Edge), s ≠ t → (s : Int) < 1 + (ownP p ax).sheets → (t : Int) < 1 + (ownP p ax).sheets → Wk (zE (ownP p ax) ax') s w t → prE w = 2 → distF (ownP p ax) ax' s t = ⟨2, 1⟩ := by
    intro s t w hst hs ht hw hpr
    obtain ⟨r1, v, v1, _, v3⟩ := dist_real hok' ax' hs ht
    refine red_eq r1 hr2 (Rat.le_antisymm ?_ ?_)
    · rw [h2, ← hpr]; exact dist_least hok' hc hs ht hw
    · rw [h2, v3]
      refine (pr_two (fun t ht => own_other hne ht) v1.1).2 fun hn => hst ?_
      have h1 := v1.1
      rw [hn] at h1
      exact h1
  have hin : ∀ e ∈ sheetE i, e ∈ zE (ownP p ax) ax' := by
    intro e he
    simp only [zE, List.mem_append, List.mem_flatMap, List.mem_range'_1]
    exact .inl (.inl ⟨i, by show 0 ≤ i ∧ i < 0 + p.sheets.toNat; omega, he⟩)
  have hp1 : ∀ e ∈ sheetE i, prE [e] = 2 := by
    intro e he
    simp [sheetE] at he
    rcases he with rfl | rfl <;> (simp only [prE, pr, tE, List.map_cons, List.map_nil]; rw [h2, Rat.mul_one])
  constructor
  · have hw := wk_one (hin ⟨1 + i, 0, ⟨2, 1⟩, ⟨false, -1 - i, false⟩⟩ (by simp [sheetE]))
    rw [show ((1 + (i : Int)).toNat) = 1 + i by omega] at hw
    exact key _ _ _ (by omega) b1 b0 hw (hp1 _ (by simp [sheetE]))
  · have hw := wk_one (hin ⟨0, 1 + i, ⟨2, 1⟩, ⟨false, -1 - i, true⟩⟩ (by simp [sheetE]))
    rw [show ((1 + (i : Int)).toNat) = 1 + i by omega] at hw
    exact key _ _ _ (by omega) b0 b1 hw (hp1 _ (by simp [sheetE]))
end Go.VS
/-
  A contradiction is a closed walk. (A text of this claim's own; nothing of it is trusted.)
-/
namespace Go.VS
open Go Go.VS.Walks
theorem clash_some {es : List Edge} {c : Chn} : ∀ {j i : Nat}, clashFrom es j i = some c → ∃ k, i ≤ k ∧ k < i + j ∧ (zI es k 5)[k]? = some (some c) ∧ ltR c.q one1 = true
  | 0, _, h => by cases h
  | j + 1, i, h => by
    unfold clashFrom at h
    split at h
    · rename_i c' hc'
      split at h
      · rename_i hl
        cases h
        exact ⟨i, Nat.le_refl _, by omega, hc', hl⟩
      · obtain ⟨k, k1, k2, k3⟩ := clash_some h
        exact ⟨k, by omega, by omega, k3⟩
    · obtain ⟨k, k1, k2, k3⟩ := clash_some h
      exact ⟨k, by omega, by omega, k3⟩
end Go.VS
