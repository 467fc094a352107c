/- Nothing of a statement is proved in this text alone: it is part 4 of the proof's own tools, an evaluator of the code over deep values, its soundness, and what it makes of this seat's functions. Conditions: none beyond the statement's own. -/
import Derived.Test.YtbndhgnkgoggmaaDoorVsCardB3
set_option linter.unusedSimpArgs false
set_option linter.unusedVariables false
/-
  What the chains of a paper are: the least quotients of walks. (A text of this claim's own; nothing of it is trusted.)
-/
namespace Go.VS
open Go Go.VS.Walks
def vR (r : Ratio) : Rat := vq r.n r.d
def tE (e : Edge) : T := ⟨e.src.toNat, e.dst.toNat, vR e.q⟩
def inE (es : List Edge) (t : T) : Prop := ∃ e, e ∈ es ∧ tE e = t
def prE (w : List Edge) : Rat := pr (w.map tE)
/-- A walk along zD. -/
def Wk (es : List Edge) (a : Nat) (w : List Edge) (b : Nat) : Prop := Ch (inE es) a (w.map tE) b ∧ ∀ e ∈ w, e ∈ es
theorem wk_nil (es : List Edge) (a : Nat) : Wk es a [] a := ⟨rfl, fun _ h => by cases h⟩
theorem wk_append {es w v : List Edge} {a b c : Nat} (h1 : Wk es a w b) (h2 : Wk es b v c) : Wk es a (w ++ v) c := by
  refine ⟨by rw [List.map_append]; exact ch_append.2 ⟨b, h1.1, h2.1⟩, fun e he => ?_⟩
  rcases List.mem_append.1 he with he | he
  · exact h1.2 e he
  · exact h2.2 e he
theorem wk_one {es : List Edge} {e : Edge} (he : e ∈ es) : Wk es e.src.toNat [e] e.dst.toNat :=
  ⟨⟨⟨e, he, rfl⟩, rfl, rfl⟩, fun e' h => by rcases List.mem_singleton.1 h with rfl; exact he⟩
theorem wk_snoc {es w : List Edge} {a : Nat} {e : Edge} (h1 : Wk es a w e.src.toNat) (he : e ∈ es) : Wk es a (w ++ [e]) e.dst.toNat := wk_append h1 (wk_one he)
theorem wk_unsnoc {es w : List Edge} {a b : Nat} {e : Edge} (h : Wk es a (w ++ [e]) b) : Wk es a w e.src.toNat ∧ e ∈ es ∧ e.dst.toNat = b := by
  have hm := h.2 e (by simp)
  have h1 := h.1
  rw [List.map_append] at h1
  obtain ⟨c, h2, h3⟩ := ch_append.1 h1
  refine ⟨⟨?_, fun e' he => h.2 e' (by simp [he])⟩, hm, h3.2.2⟩
  rw [show e.src.toNat = c from h3.2.1]
  exact h2
theorem prE_append (w v : List Edge) : prE (w ++ v) = prE w * prE v := by unfold prE; rw [List.map_append, pr_append]
theorem prE_snoc (w : List Edge) (e : Edge) : prE (w ++ [e]) = prE w * vR e.q := by
  rw [prE_append]
  show _ * (vR e.q * 1) = _
  rw [Rat.mul_one]
theorem prE_nil : prE [] = 1 := rfl
/-- A ratio of positive numbers in its lowest terms. -/
def redR (r : Ratio) : Prop := 1 ≤ r.n ∧ 1 ≤ r.d ∧ Int.gcd r.d r.n = 1
theorem red_pos {r : Ratio} (h : redR r) : 0 < vR r := vq_pos (by have := h.1; omega) (by have := h.2.1; omega)
theorem red_eq {a b : Ratio} (ha : redR a) (hb : redR b) (h : vR a = vR b) : a = b := by
  obtain ⟨e1, e2⟩ := vq_eq (by have := ha.2.1; omega) (by have := hb.2.1; omega) ha.2.2 hb.2.2 h
  cases a; cases b; simp only at e1 e2; rw [e1, e2]
theorem ltR_iff {a b : Ratio} (ha : 1 ≤ a.d) (hb : 1 ≤ b.d) : ltR a b = true ↔ vR a < vR b := by
  unfold ltR vR
  rw [vq_lt (by omega) (by omega), decide_eq_true_eq]
theorem low_red {n d : Int} (hn : 1 ≤ n) (hd : 1 ≤ d) : redR (lowR n d) ∧ vR (lowR n d) = vq n d := by
  obtain ⟨a, rfl⟩ := Int.eq_ofNat_of_zero_le (show 0 ≤ n by omega)
  obtain ⟨b, rfl⟩ := Int.eq_ofNat_of_zero_le (show 0 ≤ d by omega)
  have hg : 0 < a.gcd b := Nat.gcd_pos_of_pos_left b (by omega)
  have e1 : (a : Int) / gcdI a b = ((a / a.gcd b : Nat) : Int) := by simp [gcdI]
  have e2 : (b : Int) / gcdI a b = ((b / a.gcd b : Nat) : Int) := by simp [gcdI]
  have p1 : 0 < a / a.gcd b := Nat.div_pos (Nat.le_of_dvd (by omega) (Nat.gcd_dvd_left a b)) hg
  have p2 : 0 < b / a.gcd b := Nat.div_pos (Nat.le_of_dvd (by omega) (Nat.gcd_dvd_right a b)) hg
  refine ⟨⟨?_, ?_, ?_⟩, ?_⟩
  · show 1 ≤ (a : Int) / gcdI a b
    rw [e1]; omega
  · show 1 ≤ (b : Int) / gcdI a b
    rw [e2]; omega
  · show Int.gcd ((b : Int) / gcdI a b) ((a : Int) / gcdI a b) = 1
    rw [e1, e2, Int.gcd_natCast_natCast, Nat.gcd_comm]
    exact Nat.coprime_div_gcd_div_gcd hg
  · unfold vR lowR
    refine vq_low (by simp only [gcdI, Int.toNat_natCast]; omega) ?_ ?_
    · simp only [gcdI, Int.toNat_natCast]; exact Int.natCast_dvd_natCast.2 (Nat.gcd_dvd_left a b)
    · simp only [gcdI, Int.toNat_natCast]; exact Int.natCast_dvd_natCast.2 (Nat.gcd_dvd_right a b)
/-- A chain is what a walk comes to. -/
def RealC (es : List Edge) (src n b : Nat) (c : Chn) : Prop := ∃ w, w.length = n ∧ Wk es src w b ∧ vR c.q = prE w ∧ c.why = w.map Edge.why ∧ redR c.q
theorem real_with {es : List Edge} {src n : Nat} {c : Chn} {e : Edge} (hb : edgeB e) (he : e ∈ es) (h : RealC es src n e.src.toNat c) : RealC es src (n + 1) e.dst.toNat (withC c e) ∧ vR (withC c e).q = vR c.q * vR e.q := by
  obtain ⟨w, h1, h2, h3, h4, h5⟩ := h
  have hn : 1 ≤ c.q.n * e.q.n := by have := Int.mul_le_mul h5.1 hb.2.2.2.2.1 (by omega) (by have := h5.1; omega); omega
  have hd : 1 ≤ c.q.d * e.q.d := by have := Int.mul_le_mul h5.2.1 hb.2.2.2.2.2.2.1 (by omega) (by have := h5.2.1; omega); omega
  obtain ⟨l1, l2⟩ := low_red hn hd
  have hv : vR (withC c e).q = vR c.q * vR e.q := by
    unfold vR withC
    simp only
    rw [show vq (lowR (c.q.n * e.q.n) (c.q.d * e.q.d)).n (lowR (c.q.n * e.q.n) (c.q.d * e.q.d)).d = vR (lowR (c.q.n * e.q.n) (c.q.d * e.q.d)) from rfl, l2, vq_mul]
  refine ⟨⟨w ++ [e], by simp [h1], wk_snoc h2 he, by rw [hv, prE_snoc, h3], by simp [withC, h4], l1⟩, hv⟩
def redN (net : Net) : Prop := ∀ (j : Nat) (c : Chn), net[j]? = some (some c) → redR c.q
theorem put_self {next : Net} {j : Nat} {c : Chn} (hj : j < next.length) (hr : redN next) (hc : redR c.q) :
    ∃ c', (putE next j c)[j]? = some (some c') ∧ vR c'.q ≤ vR c.q ∧ (c' = c ∨ next[j]? = some (some c')) ∧ ∀ b, next[j]? = some (some b) → vR c'.q ≤ vR b.q := by
  unfold putE
  split
  · rename_i b hb
    have hbr := hr j b hb
    split
    · rename_i hlt
      have := (ltR_iff hc.2.1 hbr.2.1).1 hlt
      refine ⟨c, by rw [List.getElem?_set]; simp [hj], Rat.le_refl, .inl rfl, fun b' hb' => ?_⟩
      rw [hb] at hb'; cases hb'
      exact Rat.le_of_lt this
    · rename_i hlt
      refine ⟨b, hb, ?_, .inr hb, fun b' hb' => by rw [hb] at hb'; cases hb'; exact Rat.le_refl⟩
      rw [← Rat.not_lt]
      exact fun h => hlt ((ltR_iff hc.2.1 hbr.2.1).2 h)
  · rename_i hno
    exact ⟨c, by rw [List.getElem?_set]; simp [hj], Rat.le_refl, .inl rfl, fun b hb => absurd hb (fun h => hno b h)⟩
theorem put_other {next : Net} {i j : Nat} {c : Chn} (h : i ≠ j) : (putE next j c)[i]? = next[i]? := by
  unfold putE
  split
  · split
    · rw [List.getElem?_set_ne (Ne.symm h)]
    · rfl
  · rw [List.getElem?_set_ne (Ne.symm h)]
theorem put_len {next : Net} {j : Nat} {c : Chn} : (putE next j c).length = next.length := by
  unfold putE; split <;> (try split) <;> simp
theorem put_red {next : Net} {j : Nat} {c : Chn} (hr : redN next) (hc : redR c.q) : redN (putE next j c) := by
  intro i c' hi
  by_cases h : i = j
  · subst h
    by_cases hl : i < next.length
    · obtain ⟨d, h1, _, h3, _⟩ := put_self hl hr hc
      rw [h1] at hi; cases hi
      rcases h3 with rfl | h3
      · exact hc
      · exact hr _ _ h3
    · have : (putE next i c).length ≤ i := by rw [put_len]; omega
      rw [List.getElem?_eq_none this] at hi; cases hi
  · rw [put_other h] at hi; exact hr _ _ hi
/-- All that a net says of walks of n zD. -/
def Exact (es : List Edge) (src n : Nat) (net : Net) : Prop := net.length = 5 ∧ (∀ b c, net[b]? = some (some c) → RealC es src n b c) ∧ ∀ b w, w.length = n → Wk es src w b → ∃ c, net[b]? = some (some c) ∧ vR c.q ≤ prE w
def Half (es : List Edge) (src n : Nat) (now : Net) (done : List Edge) (next : Net) : Prop :=
  next.length = 5 ∧ (∀ b c, next[b]? = some (some c) → RealC es src (n + 1) b c) ∧ ∀ e ∈ done, ∀ c', now[e.src.toNat]? = some (some c') → ∃ c, next[e.dst.toNat]? = some (some c) ∧ vR c.q ≤ vR c'.q * vR e.q
theorem real_red {es : List Edge} {src n b : Nat} {c : Chn} (h : RealC es src n b c) : redR c.q := h.choose_spec.2.2.2.2
theorem half_step {es : List Edge} {src n : Nat} {now next : Net} {done : List Edge} {e : Edge} (hnow : Exact es src n now) (hb : edgeB e) (he : e ∈ es) (h : Half es src n now done next) : Half es src n now (done ++ [e]) (stepE now next e) := by
  obtain ⟨h1, h2, h3⟩ := h
  have hr : redN next := fun j c hj => real_red (h2 j c hj)
  have hdst : e.dst.toNat < next.length := by have := hb.2.2.1; have := hb.2.2.2.1; omega
  unfold stepE
  split
  · rename_i c0 hc0
    obtain ⟨r1, r2⟩ := real_with hb he (hnow.2.1 _ _ hc0)
    obtain ⟨c', s1, s2, s3, s4⟩ := put_self hdst hr (real_red r1)
    refine ⟨by rw [put_len]; exact h1, fun b c hbc => ?_, fun e' he' c1 hc1 => ?_⟩
    · by_cases hbe : b = e.dst.toNat
      · subst hbe
        rw [s1] at hbc; cases hbc
        rcases s3 with rfl | s3
        · exact r1
        · exact h2 _ _ s3
      · rw [put_other hbe] at hbc; exact h2 _ _ hbc
    · rcases List.mem_append.1 he' with he' | he'
      · obtain ⟨c2, k1, k2⟩ := h3 e' he' c1 hc1
        by_cases hbe : e'.dst.toNat = e.dst.toNat
        · rw [hbe] at k1 ⊢
          exact ⟨c', s1, Rat.le_trans (s4 c2 k1) k2⟩
        · exact ⟨c2, by rw [put_other hbe]; exact k1, k2⟩
      · rcases List.mem_singleton.1 he' with rfl
        rw [hc0] at hc1; cases hc1
        exact ⟨c', s1, by rw [← r2]; exact s2⟩
  · rename_i hno
    refine ⟨h1, h2, fun e' he' c1 hc1 => ?_⟩
    rcases List.mem_append.1 he' with he' | he'
    · exact h3 e' he' c1 hc1
    · rcases List.mem_singleton.1 he' with rfl
      exact absurd hc1 (hno c1)
theorem half_fold {es : List Edge} {src n : Nat} {now : Net} (hnow : Exact es src n now) : ∀ (l done : List Edge) (next : Net), (∀ e ∈ l, edgeB e ∧ e ∈ es) → Half es src n now done next → Half es src n now (done ++ l) (l.foldl (stepE now) next)
  | [], done, next, _, h => by rw [List.append_nil]; exact h
  | e :: l, done, next, hl, h => by
    have := half_fold hnow l (done ++ [e]) (stepE now next e) (fun e' he' => hl e' (List.mem_cons_of_mem _ he')) (half_step hnow (hl e (by simp)).1 (hl e (by simp)).2 h)
    rw [List.append_assoc] at this
    exact this
theorem edge_pos {e : Edge} (h : edgeB e) : 0 < vR e.q := vq_pos (by have := h.2.2.2.2.1; omega) (by have := h.2.2.2.2.2.2.1; omega)
theorem snoc_of {w : List Edge} {n : Nat} (h : w.length = n + 1) : ∃ v e, w = v ++ [e] ∧ v.length = n := by
  have hne : w ≠ [] := by intro h'; rw [h'] at h; simp at h
  refine ⟨w.dropLast, w.getLast hne, (List.dropLast_concat_getLast hne).symm, ?_⟩
  rw [List.length_dropLast]; omega
theorem exact_step {es : List Edge} {src n : Nat} {now : Net} (hes : ∀ e ∈ es, edgeB e) (hnow : Exact es src n now) : Exact es src (n + 1) (es.foldl (stepE now) zP) := by
  have h0 : Half es src n now [] zP := ⟨rfl, fun b c h => by
    have hm := List.mem_of_getElem? h
    simp [zP] at hm, fun e he => by cases he⟩
  obtain ⟨h1, h2, h3⟩ := half_fold hnow es [] zP (fun e he => ⟨hes e he, he⟩) h0
  rw [List.nil_append] at h3
  refine ⟨h1, h2, fun b w hw hk => ?_⟩
  obtain ⟨v, e, rfl, hv⟩ := snoc_of hw
  obtain ⟨k1, k2, rfl⟩ := wk_unsnoc hk
  obtain ⟨c', g1, g2⟩ := hnow.2.2 _ v hv k1
  obtain ⟨c, f1, f2⟩ := h3 e k2 c' g1
  refine ⟨c, f1, Rat.le_trans f2 ?_⟩
  rw [prE_snoc]
  exact Rat.mul_le_mul_of_nonneg_right g2 (Rat.le_of_lt (edge_pos (hes e k2)))
theorem merge_spec : ∀ (l : List (Option Chn)) (i : Nat) (out : Net), i + l.length ≤ out.length → redN out → (∀ c, some c ∈ l → redR c.q) →
    (mergeL l i out).length = out.length ∧ redN (mergeL l i out) ∧ ∀ b,
      (∀ c, (mergeL l i out)[b]? = some (some c) → out[b]? = some (some c) ∨ (i ≤ b ∧ l[b - i]? = some (some c))) ∧
      (∀ c, out[b]? = some (some c) → ∃ c', (mergeL l i out)[b]? = some (some c') ∧ vR c'.q ≤ vR c.q) ∧
      (∀ c, i ≤ b → l[b - i]? = some (some c) → ∃ c', (mergeL l i out)[b]? = some (some c') ∧ vR c'.q ≤ vR c.q)
  | [], i, out, _, hr, _ => ⟨rfl, hr, fun b => ⟨fun c h => .inl h, fun c h => ⟨c, h, Rat.le_refl⟩, fun c _ h => by cases h⟩⟩
  | none :: r, i, out, hl, hr, hc => by
    obtain ⟨m1, m2, m3⟩ := merge_spec r (i + 1) out (by simp at hl; omega) hr (fun c h => hc c (List.mem_cons_of_mem _ h))
    refine ⟨m1, m2, fun b => ⟨fun c h => ?_, (m3 b).2.1, fun c hib h => ?_⟩⟩
    · rcases (m3 b).1 c h with h | ⟨h, h'⟩
      · exact .inl h
      · refine .inr ⟨by omega, ?_⟩
        rw [show b - i = (b - (i + 1)) + 1 by omega, List.getElem?_cons_succ]; exact h'
    · by_cases hb : b = i
      · subst hb; rw [Nat.sub_self, List.getElem?_cons_zero] at h; cases h
      · refine (m3 b).2.2 c (by omega) ?_
        rw [show b - i = (b - (i + 1)) + 1 by omega, List.getElem?_cons_succ] at h; exact h
  | some c0 :: r, i, out, hl, hr, hc => by
    have hc0 := hc c0 (by simp)
    have hi : i < out.length := by simp at hl; omega
    obtain ⟨m1, m2, m3⟩ := merge_spec r (i + 1) (putE out i c0) (by rw [put_len]; simp at hl; omega) (put_red hr hc0) (fun c h => hc c (List.mem_cons_of_mem _ h))
    obtain ⟨d, s1, s2, s3, s4⟩ := put_self hi hr hc0
    refine ⟨by rw [← put_len (next := out) (j := i) (c := c0)]; exact m1, m2, fun b => ⟨fun c h => ?_, fun c h => ?_, fun c hib h => ?_⟩⟩
    · rcases (m3 b).1 c h with h | ⟨h, h'⟩
      · by_cases hb : b = i
        · subst hb
          rw [s1] at h; cases h
          rcases s3 with rfl | s3
          · exact .inr ⟨Nat.le_refl _, by rw [Nat.sub_self]; rfl⟩
          · exact .inl s3
        · rw [put_other hb] at h; exact .inl h
      · refine .inr ⟨by omega, ?_⟩
        rw [show b - i = (b - (i + 1)) + 1 by omega, List.getElem?_cons_succ]; exact h'
    · by_cases hb : b = i
      · subst hb
        obtain ⟨c', k1, k2⟩ := (m3 b).2.1 d s1
        exact ⟨c', k1, Rat.le_trans k2 (s4 c h)⟩
      · exact (m3 b).2.1 c (by rw [put_other hb]; exact h)
    · by_cases hb : b = i
      · subst hb
        rw [Nat.sub_self, List.getElem?_cons_zero] at h; cases h
        obtain ⟨c', k1, k2⟩ := (m3 b).2.1 d s1
        exact ⟨c', k1, Rat.le_trans k2 s2⟩
      · refine (m3 b).2.2 c (by omega) ?_
        rw [show b - i = (b - (i + 1)) + 1 by omega, List.getElem?_cons_succ] at h; exact h
/-- All that a net says of walks of at most n zD. -/
def Upto (es : List Edge) (src n : Nat) (out : Net) : Prop := out.length = 5 ∧ (∀ b c, out[b]? = some (some c) → ∃ m, 1 ≤ m ∧ m ≤ n ∧ RealC es src m b c) ∧ ∀ b w, 1 ≤ w.length → w.length ≤ n → Wk es src w b → ∃ c, out[b]? = some (some c) ∧ vR c.q ≤ prE w
theorem rounds_spec {es : List Edge} {src : Nat} (hes : ∀ e ∈ es, edgeB e) : ∀ (j n : Nat) (now out : Net), Exact es src n now → Upto es src n out → Upto es src (n + j) (roundsN es j now out)
  | 0, _, _, _, _, h => h
  | j + 1, n, now, out, hnow, hout => by
    have hx := exact_step hes hnow
    have hro : redN out := fun b c h => by
      obtain ⟨m, _, _, h⟩ := hout.2.1 b c h
      exact real_red h
    have hrx : ∀ c, some c ∈ es.foldl (stepE now) zP → redR c.q := fun c h => by
      obtain ⟨b, hb⟩ := List.mem_iff_getElem?.1 h
      exact real_red (hx.2.1 b c hb)
    obtain ⟨m1, m2, m3⟩ := merge_spec (es.foldl (stepE now) zP) 0 out (by rw [hx.1, hout.1]; omega) hro hrx
    have hu : Upto es src (n + 1) (mergeL (es.foldl (stepE now) zP) 0 out) := by
      refine ⟨by rw [m1]; exact hout.1, fun b c h => ?_, fun b w h1 h2 hk => ?_⟩
      · rcases (m3 b).1 c h with h | ⟨_, h⟩
        · obtain ⟨m, k1, k2, k3⟩ := hout.2.1 b c h
          exact ⟨m, k1, by omega, k3⟩
        · exact ⟨n + 1, by omega, Nat.le_refl _, hx.2.1 b c h⟩
      · by_cases hw : w.length = n + 1
        · obtain ⟨c, k1, k2⟩ := hx.2.2 b w hw hk
          obtain ⟨c', g1, g2⟩ := (m3 b).2.2 c (Nat.zero_le _) k1
          exact ⟨c', g1, Rat.le_trans g2 k2⟩
        · obtain ⟨c, k1, k2⟩ := hout.2.2 b w h1 (by omega) hk
          obtain ⟨c', g1, g2⟩ := (m3 b).2.1 c k1
          exact ⟨c', g1, Rat.le_trans g2 k2⟩
    have := rounds_spec hes j (n + 1) _ _ hx hu
    rw [show n + (j + 1) = n + 1 + j by omega]
    exact this
theorem chains_spec {es : List Edge} {src : Nat} (hes : ∀ e ∈ es, edgeB e) (hs : src < 5) (most : Nat) : Upto es src most (zH es src most) := by
  have h0 : Exact es src 0 (zP.set src (some ⟨⟨1, 1⟩, []⟩)) := by
    refine ⟨by simp [zP], fun b c h => ?_, fun b w hw hk => ?_⟩
    · by_cases hb : b = src
      · subst hb
        rw [List.getElem?_set] at h
        simp only [if_true] at h
        split at h
        · cases h
          exact ⟨[], rfl, wk_nil _ _, vq_one, rfl, by decide, by decide, by decide⟩
        · cases h
      · rw [List.getElem?_set_ne (Ne.symm hb)] at h
        have hm := List.mem_of_getElem? h
        simp [zP] at hm
    · have : w = [] := List.length_eq_zero_iff.1 hw
      subst this
      have : src = b := hk.1
      subst this
      exact ⟨⟨⟨1, 1⟩, []⟩, by rw [List.getElem?_set]; simp [zP, hs], by show vq 1 1 ≤ 1; rw [vq_one]; exact Rat.le_refl⟩
  have h1 : Upto es src 0 zP := by
    refine ⟨rfl, fun b c h => ?_, fun b w h1 h2 => by omega⟩
    have hm := List.mem_of_getElem? h
    simp [zP] at hm
  have := rounds_spec hes most 0 _ _ h0 h1
  rw [Nat.zero_add] at this
  exact this
end Go.VS
/-
  What a paper allows: least quotients between any two nodes. (A text of this claim's own; nothing of it is trusted.)
-/
namespace Go.VS
open Go Go.VS.Walks
theorem edge_nodes {p : Paper} (hok : zp p = true) {ax : Int} {e : Edge} (he : e ∈ zD p ax) : edgeB e ∧ e.src ≤ p.sheets ∧ e.dst ≤ p.sheets := by
  obtain ⟨o1, o2, o3, o4, o5, o6⟩ := zE hok
  simp only [zD, List.mem_append, List.mem_flatMap, List.mem_range'_1] at he
  rcases he with (⟨i, hi, he⟩ | he) | he
  · simp [sheetE] at he
    unfold edgeB
    rcases he with rfl | rfl <;> simp only [] <;> omega
  · obtain ⟨m, k, h1, h2, h3⟩ := marksE_mem ax he
    refine ⟨edge_of_mark (o5 m h1) o2 k e h3, ?_⟩
    have := o5 m h1
    simp [markOK, zy, isAxis, isSeen] at this
    simp [markE] at h3
    rcases h3 with rfl | rfl <;> simp only [] <;> omega
  · obtain ⟨m, k, h1, h2, h3⟩ := joinsE_mem ax he
    refine ⟨edge_of_join (o6 m h1) o2 k e h3, ?_⟩
    have := o6 m h1
    simp [joinOK, zy, isAxis, isSeen] at this
    simp [joinE] at h3
    rcases h3 with rfl | rfl <;> simp only [] <;> omega
theorem inE_walk {es : List Edge} {l : List T} : ∀ {a b : Nat}, Ch (inE es) a l b → ∃ w, w.map tE = l ∧ Wk es a w b := by
  induction l with
  | nil => intro a b h; exact ⟨[], rfl, h, fun _ h => by cases h⟩
  | cons t l ih =>
    intro a b h
    obtain ⟨⟨e, he, rfl⟩, h2, h3⟩ := h
    obtain ⟨w, rfl, hw⟩ := ih h3
    exact ⟨e :: w, rfl, ⟨⟨e, he, rfl⟩, h2, hw.1⟩, fun e' h' => by
      rcases List.mem_cons.1 h' with rfl | h'
      · exact he
      · exact hw.2 e' h'⟩
theorem clash_none {es : List Edge} : ∀ {j i : Nat}, clashFrom es j i = none → ∀ k, i ≤ k → k < i + j → ∀ c, (zH es k 5)[k]? = some (some c) → ltR c.q one1 = false
  | 0, i, _, k, h1, h2, _, _ => by omega
  | j + 1, i, h, k, h1, h2, c, hc => by
    unfold clashFrom at h
    by_cases hk : k = i
    · subst hk
      rw [hc] at h
      simp only at h
      split at h
      · cases h
      · rename_i hx; simpa using hx
    · refine clash_none (j := j) (i := i + 1) ?_ k (by omega) (by omega) c hc
      split at h
      · split at h
        · cases h
        · exact h
      · exact h
theorem in_pos {p : Paper} (hok : zp p = true) {ax : Int} {t : T} (h : inE (zD p ax) t) : 0 < t.w ∧ t.src < 5 ∧ t.dst < 5 := by
  obtain ⟨e, he, rfl⟩ := h
  have hb := (edge_nodes hok he).1
  refine ⟨edge_pos hb, ?_, ?_⟩
  · show e.src.toNat < 5
    have := hb.1; have := hb.2.1; omega
  · show e.dst.toNat < 5
    have := hb.2.2.1; have := hb.2.2.2.1; omega
theorem one_vR : vR one1 = 1 := vq_one
theorem fair {p : Paper} (hok : zp p = true) {ax : Int} (hc : clashA p ax = none) : Walks.Fair (inE (zD p ax)) 5 := by
  obtain ⟨o1, o2, -⟩ := zE hok
  intro a l hl hlen
  obtain ⟨w, rfl, hw⟩ := inE_walk hl
  cases w with
  | nil => exact Rat.le_refl
  | cons e w =>
    have hin : e ∈ zD p ax := hw.2 e (by simp)
    have hsrc : e.src.toNat = a := hl.2.1
    obtain ⟨hb, hs, _⟩ := edge_nodes hok hin
    have h5 : a < 5 := by have := hb.1; have := hb.2.1; omega
    obtain ⟨c, c1, c2⟩ := (chains_spec (fun e he => (edge_nodes hok he).1) h5 5).2.2 a (e :: w) (by simp) (by simpa using hlen) hw
    have hr : redR c.q := by
      obtain ⟨m, _, _, h⟩ := (chains_spec (fun e he => (edge_nodes hok he).1) h5 5).2.1 a c c1
      exact real_red h
    have hn := clash_none hc a (Nat.zero_le _) (by have := hb.1; omega) c c1
    have : ¬ vR c.q < vR one1 := fun h => by
      rw [← ltR_iff hr.2.1 (by decide)] at h
      rw [hn] at h; cases h
    rw [Rat.not_lt, one_vR] at this
    exact Rat.le_trans this c2
/-- The least quotient between two nodes. -/
def distF (p : Paper) (ax : Int) (s t : Nat) : Ratio := if s = t then one1 else (chnOr (((zH (zD p ax) s 4)[t]?).join)).q
def distC (p : Paper) (ax : Int) (s t : Nat) : Chn := chnOr (((zH (zD p ax) s 4)[t]?).join)
theorem walk_some {p : Paper} (_ : zp p = true) (ax : Int) {s t : Nat} (hs : s < 1 + p.sheets) (ht : t < 1 + p.sheets) (hst : s ≠ t) : ∃ w, 1 ≤ w.length ∧ w.length ≤ 2 ∧ Wk (zD p ax) s w t := by
  have hin : ∀ i : Nat, (i : Int) < p.sheets → ∀ e ∈ sheetE i, e ∈ zD p ax := by
    intro i hi e he
    simp only [zD, List.mem_append, List.mem_flatMap, List.mem_range'_1]
    exact .inl (.inl ⟨i, by omega, he⟩)
  have out : ∀ i : Nat, (i : Int) < p.sheets → Wk (zD p ax) (1 + i) [⟨1 + i, 0, ⟨2, 1⟩, ⟨false, -1 - i, false⟩⟩] 0 := by
    intro i hi
    have := wk_one (hin i hi ⟨1 + i, 0, ⟨2, 1⟩, ⟨false, -1 - i, false⟩⟩ (by simp [sheetE]))
    rwa [show ((1 + (i : Int)).toNat) = 1 + i by omega] at this
  have back : ∀ i : Nat, (i : Int) < p.sheets → Wk (zD p ax) 0 [⟨0, 1 + i, ⟨2, 1⟩, ⟨false, -1 - i, true⟩⟩] (1 + i) := by
    intro i hi
    have := wk_one (hin i hi ⟨0, 1 + i, ⟨2, 1⟩, ⟨false, -1 - i, true⟩⟩ (by simp [sheetE]))
    rwa [show ((1 + (i : Int)).toNat) = 1 + i by omega] at this
  rcases Nat.eq_zero_or_pos s with rfl | hs0
  · have := back (t - 1) (by omega)
    rw [show 1 + (t - 1) = t by omega] at this
    exact ⟨_, by simp, by simp, this⟩
  · have h1 := out (s - 1) (by omega)
    rw [show 1 + (s - 1) = s by omega] at h1
    rcases Nat.eq_zero_or_pos t with rfl | ht0
    · exact ⟨_, by simp, by simp, h1⟩
    · have h2 := back (t - 1) (by omega)
      rw [show 1 + (t - 1) = t by omega] at h2
      exact ⟨_, by simp, by simp, wk_append h1 h2⟩
theorem dist_some {p : Paper} (hok : zp p = true) (ax : Int) {s t : Nat} (hs : s < 1 + p.sheets) (ht : t < 1 + p.sheets) (hst : s ≠ t) : (zH (zD p ax) s 4)[t]? = some (some (distC p ax s t)) := by
  obtain ⟨o1, o2, -⟩ := zE hok
  obtain ⟨w, w1, w2, w3⟩ := walk_some hok ax hs ht hst
  obtain ⟨c, h, _⟩ := (chains_spec (fun e he => (edge_nodes hok he).1) (show s < 5 by omega) 4).2.2 t w w1 (by omega) w3
  unfold distC
  rw [h]; rfl
/-- What is known of a least quotient. -/
theorem dist_real {p : Paper} (hok : zp p = true) (ax : Int) {s t : Nat} (hs : s < 1 + p.sheets) (ht : t < 1 + p.sheets) : redR (distF p ax s t) ∧ ∃ w, Wk (zD p ax) s w t ∧ w.length ≤ 4 ∧ vR (distF p ax s t) = prE w := by
  obtain ⟨o1, o2, -⟩ := zE hok
  by_cases hst : s = t
  · subst hst
    unfold distF
    rw [if_pos rfl]
    exact ⟨⟨by decide, by decide, by decide⟩, [], wk_nil _ _, by simp, one_vR⟩
  · obtain ⟨m, m1, m2, w, w1, w2, w3, w4, w5⟩ := (chains_spec (fun e he => (edge_nodes hok he).1) (show s < 5 by omega) 4).2.1 t _ (dist_some hok ax hs ht hst)
    unfold distF
    rw [if_neg hst]
    exact ⟨w5, w, w2, by omega, w3⟩
theorem dist_least {p : Paper} (hok : zp p = true) {ax : Int} (hc : clashA p ax = none) {s t : Nat} (hs : s < 1 + p.sheets) (ht : t < 1 + p.sheets) {w : List Edge} (hw : Wk (zD p ax) s w t) : vR (distF p ax s t) ≤ prE w := by
  obtain ⟨o1, o2, -⟩ := zE hok
  have hp : ∀ t, inE (zD p ax) t → 0 < t.w := fun t h => (in_pos hok h).1
  have hn : ∀ t, inE (zD p ax) t → t.src < 5 ∧ t.dst < 5 := fun t h => (in_pos hok h).2
  by_cases hst : s = t
  · subst hst
    unfold distF
    rw [if_pos rfl, one_vR]
    exact closed_one hp hn (fair hok hc) hw.1
  · obtain ⟨r, r1, r2, r3, _⟩ := shorten hp hn (fair hok hc) _ _ (Nat.le_refl _) hw.1
    obtain ⟨v, rfl, hv⟩ := inE_walk r1
    have hne : v ≠ [] := by
      rintro rfl
      exact hst hv.1
    have hlen : 1 ≤ v.length ∧ v.length ≤ 4 := by
      constructor
      · cases v with
        | nil => exact absurd rfl hne
        | cons _ _ => simp
      · rcases r2 with r2 | r2
        · simp at r2; omega
        · simp at r2; exact absurd r2 hne
    obtain ⟨c, c1, c2⟩ := (chains_spec (fun e he => (edge_nodes hok he).1) (show s < 5 by omega) 4).2.2 t v hlen.1 hlen.2 hv
    rw [dist_some hok ax hs ht hst] at c1
    cases c1
    unfold distF
    rw [if_neg hst]
    exact Rat.le_trans c2 r3
end Go.VS
namespace Go.VS
open Go Go.Proofs
set_option maxHeartbeats 0
set_option linter.unusedSimpArgs false

noncomputable def lp108_1 : Code := zz [1, 0, 0, 0] (zo Tryd.f108)
theorem lk108_1 : cfg.keep 108 (zr lp108_1) = [0, 1] := by kernel_rfl

theorem L108_1 {F : Exit → St → Option D} (k : List Kt) (x : D) : ∀ (m : Nat) (a b : Nat), b ≤ m →
    zB cfg (lim cfg) 108 F k (.exit 0) ⟨14, [(7, B false), (6, I (0 : Nat)), (0, I ((a.gcd b : Nat) : Int)), (1, I (0 : Int))], [], 0, 0⟩ = some x →
    EvL cfg (lim cfg) 108 F lp108_1 k ⟨14, [(0, I a), (1, I b)], [], 0, 0⟩ = some x := by
  intro m
  induction m with
  | zero =>
    intro a b hb h
    obtain rfl : b = 0 := by omega
    refine zj ?_
    try dsimp only [lp108_1, zz, zo, Tryd.f108]
    simp only [bW, if_true, Nat.reduceEqDiff, if_false]
    repeat' first
      | (intro hb; first | cases hb | skip)
      | ((first | apply z8 | apply ze)
         · rfl
         · simp (disch := assumption) only [go_sem, Nat.reduceEqDiff, Nat.reduceAdd, bP, zf, Nat.reduceLeDiff, Nat.reduceLT, Nat.reduceMul, List.length_append, decide_eq_true_eq, z9, z6, Int.reduceToNat, Int.reduceLE, Int.reduceLT, Int.reduceBNe, Int.reduceBEq, bne_self_eq_false]
           rfl
         · simp only [go_sem, Nat.reduceLT, Nat.reduceEqDiff]
           rfl
         · rfl
         first
         | (apply zd
            · simp only [z5, z0, Nat.reduceLT, decide_true, cond_true, ins]
              rfl
            · simp only [z5, z0, Nat.reduceLT, decide_true, cond_true, ins]
              rfl)
         | (apply zh
            · simp only [z5, z0, Nat.reduceLT, decide_true, cond_true, ins]
              rfl))
      | ((first | apply zb | apply zc)
         · rfl
         · simp only [z5, z0, Nat.reduceLT, decide_true, cond_true, ins]
           rfl)
      | (apply za
         · simp only [go_sem, Nat.reduceEqDiff])
      | (apply z7
         · simp only [go_sem, Nat.reduceEqDiff])
      | (apply zg
         · kernel_rfl
         · kernel_rfl)
      | (simp only [bW, if_true, Nat.reduceEqDiff, if_false])
    rw [Nat.gcd_zero_right] at h
    exact h
  | succ m ih =>
    intro a b hb h
    rcases Nat.eq_zero_or_pos b with h0 | h0
    · subst h0
      exact ih a 0 (Nat.zero_le _) h
    · have hbne : ((b : Int) != 0) = true := by simp; omega
      have hbne' : ((b : Int) = 0) = False := by simp; omega
      refine zj ?_
      try dsimp only [lp108_1, zz, zo, Tryd.f108]
      simp only [bW, if_true, Nat.reduceEqDiff, if_false]
      repeat' first
        | (intro hb; first | cases hb | skip)
        | ((first | apply z8 | apply ze)
           · rfl
           · simp (disch := assumption) only [go_sem, Nat.reduceEqDiff, Nat.reduceAdd, bP, zf, Nat.reduceLeDiff, Nat.reduceLT, Nat.reduceMul, List.length_append, decide_eq_true_eq, z9, z6, Int.reduceToNat, Int.reduceLE, Int.reduceLT, Int.reduceBNe, Int.reduceBEq, hbne, hbne']
             rfl
           · simp only [go_sem, Nat.reduceLT, Nat.reduceEqDiff]
             rfl
           · rfl
           first
           | (apply zd
              · simp only [z5, z0, Nat.reduceLT, decide_true, cond_true, ins]
                rfl
              · simp only [z5, z0, Nat.reduceLT, decide_true, cond_true, ins]
                rfl)
           | (apply zh
              · simp only [z5, z0, Nat.reduceLT, decide_true, cond_true, ins]
                rfl))
        | ((first | apply zb | apply zc)
           · rfl
           · simp only [z5, z0, Nat.reduceLT, decide_true, cond_true, ins]
             rfl)
        | (apply za
           · simp only [go_sem, Nat.reduceEqDiff])
        | (apply z7
           · simp only [go_sem, Nat.reduceEqDiff])
        | (apply zg
           · kernel_rfl
           · kernel_rfl)
        | (simp only [bW, if_true, Nat.reduceEqDiff, if_false])
      have hm : (a : Int).tmod (b : Int) = ((a % b : Nat) : Int) := rfl
      refine zx lk108_1 (by kernel_rfl) (st1 := ⟨14, [(0, I b), (1, I ((a : Int).tmod b))], [], 0, 0⟩) ?_
      rw [hm]
      refine ih b (a % b) (by have := Nat.mod_lt a h0; omega) ?_
      have e : b.gcd (a % b) = a.gcd b := by rw [Nat.gcd_comm b (a % b), ← Nat.gcd_rec, Nat.gcd_comm]
      rw [e]; exact h
theorem t108 (a b : Nat) : (lim cfg).pure 108 [I a, I b] = some (I ((a.gcd b : Nat) : Int)) := by
  refine zq (zk 108) cfn108 rfl (n := 14) rfl ?_
  generalize hF : finP cfg Tryd.f108 = F
  simp only [bW, if_true, Nat.reduceEqDiff, if_false, zm]
  repeat' first
    | (intro hb; first | cases hb | skip)
    | ((first | apply z8 | apply ze)
       · rfl
       · simp (disch := assumption) only [go_sem, Nat.reduceEqDiff, Nat.reduceAdd, bP, zf, Nat.reduceLeDiff, Nat.reduceLT, Nat.reduceMul, List.length_append, decide_eq_true_eq, z9, z6, Int.reduceToNat, Int.reduceLE, Int.reduceLT, Int.reduceBNe, Int.reduceBEq]
         rfl
       · simp only [go_sem, Nat.reduceLT, Nat.reduceEqDiff]
         rfl
       · rfl
       first
       | (apply zd
          · simp only [z5, z0, Nat.reduceLT, decide_true, cond_true, ins]
            rfl
          · simp only [z5, z0, Nat.reduceLT, decide_true, cond_true, ins]
            rfl)
       | (apply zh
          · simp only [z5, z0, Nat.reduceLT, decide_true, cond_true, ins]
            rfl))
    | ((first | apply zb | apply zc)
       · rfl
       · simp only [z5, z0, Nat.reduceLT, decide_true, cond_true, ins]
         rfl)
    | (apply za
       · simp only [go_sem, Nat.reduceEqDiff])
    | (apply z7
       · simp only [go_sem, Nat.reduceEqDiff])
    | (apply zg
       · kernel_rfl
       · kernel_rfl)
    | (simp only [bW, if_true, Nat.reduceEqDiff, if_false])
  refine w_loop (st1 := ⟨14, [(0, I a), (1, I b)], [], 0, 0⟩) lk108_1 (by kernel_rfl) (L108_1 _ _ b a b (Nat.le_refl _) ?_)
  simp only [bW, if_true, Nat.reduceEqDiff, if_false]
  repeat' first
    | (intro hb; first | cases hb | skip)
    | ((first | apply z8 | apply ze)
       · rfl
       · simp (disch := assumption) only [go_sem, Nat.reduceEqDiff, Nat.reduceAdd, bP, zf, Nat.reduceLeDiff, Nat.reduceLT, Nat.reduceMul, List.length_append, decide_eq_true_eq, z9, z6, Int.reduceToNat, Int.reduceLE, Int.reduceLT, Int.reduceBNe, Int.reduceBEq]
         rfl
       · simp only [go_sem, Nat.reduceLT, Nat.reduceEqDiff]
         rfl
       · rfl
       first
       | (apply zd
          · simp only [z5, z0, Nat.reduceLT, decide_true, cond_true, ins]
            rfl
          · simp only [z5, z0, Nat.reduceLT, decide_true, cond_true, ins]
            rfl)
       | (apply zh
          · simp only [z5, z0, Nat.reduceLT, decide_true, cond_true, ins]
            rfl))
    | ((first | apply zb | apply zc)
       · rfl
       · simp only [z5, z0, Nat.reduceLT, decide_true, cond_true, ins]
         rfl)
    | (apply za
       · simp only [go_sem, Nat.reduceEqDiff])
    | (apply z7
       · simp only [go_sem, Nat.reduceEqDiff])
    | (apply zg
       · kernel_rfl
       · kernel_rfl)
    | (simp only [bW, if_true, Nat.reduceEqDiff, if_false])
  subst hF
  simp only [go_sem, Nat.reduceEqDiff, bP, Nat.reduceAdd, Nat.reduceLeDiff, List.length_map, Tryd.f108]
  all_goals rfl

theorem t74 (n d : Int) (hn : 1 ≤ n) (hn' : n < 9223372036854775808) (hd : 1 ≤ d) (hd' : d < 9223372036854775808) : (lim cfg).pure 74 [I n, I d] = some (.agg [I (lowR n d).n, I (lowR n d).d]) := by
  obtain ⟨a, rfl⟩ := Int.eq_ofNat_of_zero_le (show 0 ≤ n by omega)
  obtain ⟨b, rfl⟩ := Int.eq_ofNat_of_zero_le (show 0 ≤ d by omega)
  have hg := gcdI_pos (d := (b : Int)) hn
  have hg0 : (((a.gcd b : Nat) : Int) = 0) = False := by simp [gcdI] at hg; simp; omega
  have hq1 : IntKind.i64.wrap ((a : Int).tdiv ((a.gcd b : Nat) : Int)) = (lowR (a : Int) b).n := quo_wrap (by omega) hn' hg
  have hq2 : IntKind.i64.wrap ((b : Int).tdiv ((a.gcd b : Nat) : Int)) = (lowR (a : Int) b).d := quo_wrap (by omega) hd' hg
  refine zq (zk 74) cfn74 rfl (n := 16) rfl ?_
  simp only [bW, if_true, Nat.reduceEqDiff, if_false, zm]
  repeat' first
    | (intro hb; first | cases hb | skip)
    | ((first | apply z8 | apply ze)
       · rfl
       · simp (disch := assumption) only [go_sem, Nat.reduceEqDiff, Nat.reduceAdd, bP, zf, Nat.reduceLeDiff, Nat.reduceLT, Nat.reduceMul, List.length_append, decide_eq_true_eq, z9, z6, Int.reduceToNat, Int.reduceLE, Int.reduceLT, Int.reduceBNe, Int.reduceBEq, t108, hg0, hq1, hq2]
         rfl
       · simp only [go_sem, Nat.reduceLT, Nat.reduceEqDiff]
         rfl
       · rfl
       first
       | (apply zd
          · simp only [z5, z0, Nat.reduceLT, decide_true, cond_true, ins]
            rfl
          · simp only [z5, z0, Nat.reduceLT, decide_true, cond_true, ins]
            rfl)
       | (apply zh
          · simp only [z5, z0, Nat.reduceLT, decide_true, cond_true, ins]
            rfl))
    | ((first | apply zb | apply zc)
       · rfl
       · simp only [z5, z0, Nat.reduceLT, decide_true, cond_true, ins]
         rfl)
    | (apply za
       · simp only [go_sem, Nat.reduceEqDiff])
    | (apply z7
       · simp only [go_sem, Nat.reduceEqDiff])
    | (apply zg
       · kernel_rfl
       · kernel_rfl)
    | (simp only [bW, if_true, Nat.reduceEqDiff, if_false])
  all_goals simp only [go_sem, Nat.reduceEqDiff, bP, Nat.reduceAdd, Nat.reduceLeDiff, List.length_map, Tryd.f74]
  all_goals first | rfl | (simp_all []; done) | (simp_all []; intros; omega)

def timesR (a b : Ratio) : Ratio := lowR ((lowR a.n b.d).n * (lowR b.n a.d).n) ((lowR a.n b.d).d * (lowR b.n a.d).d)
theorem times_spec {a b : Ratio} (h1 : 1 ≤ a.n) (h2 : 1 ≤ a.d) (h3 : 1 ≤ b.n) (h4 : 1 ≤ b.d) : redR (timesR a b) ∧ vR (timesR a b) = vR a * vR b := by
  obtain ⟨x1, x2⟩ := low_red h1 h4
  obtain ⟨y1, y2⟩ := low_red h3 h2
  have p1 := Int.mul_le_mul x1.1 y1.1 (by omega) (by have := x1.1; omega)
  have p2 := Int.mul_le_mul x1.2.1 y1.2.1 (by omega) (by have := x1.2.1; omega)
  obtain ⟨z1, z2⟩ := low_red (n := (lowR a.n b.d).n * (lowR b.n a.d).n) (d := (lowR a.n b.d).d * (lowR b.n a.d).d) (by omega) (by omega)
  refine ⟨z1, ?_⟩
  unfold timesR
  rw [z2, ← Walks.vq_mul]
  show vR (lowR a.n b.d) * vR (lowR b.n a.d) = _
  rw [x2, y2, Walks.vq_mul, Int.mul_comm b.d, ← Walks.vq_mul]
  rfl
theorem mul3 {a b : Int} (h1 : 1 ≤ a) (h2 : a ≤ 3000000000) (h3 : 1 ≤ b) (h4 : b ≤ 3000000000) : 1 ≤ a * b ∧ a * b ≤ 9000000000000000000 ∧ IntKind.i64.wrap (a * b) = a * b := by
  have h5 := Int.mul_le_mul h1 h3 (by omega) (by omega)
  have h6 : a * b ≤ 3000000000 * 3000000000 := Int.mul_le_mul h2 h4 (by omega) (by omega)
  exact ⟨by omega, by omega, wrap_i64 (by omega) (by omega)⟩

theorem t22 (a b : Ratio) (h1 : 1 ≤ a.n) (h2 : a.n ≤ 3000000000) (h3 : 1 ≤ a.d) (h4 : a.d ≤ 3000000000) (h5 : 1 ≤ b.n) (h6 : b.n ≤ 3000000000) (h7 : 1 ≤ b.d) (h8 : b.d ≤ 3000000000) : (lim cfg).pure 22 [.agg [I a.n, I a.d], .agg [I b.n, I b.d]] = some (.agg [I (timesR a b).n, I (timesR a b).d]) := by
  obtain ⟨l1, l2, l3, l4⟩ := low_le h1 h7
  obtain ⟨m1, m2, m3, m4⟩ := low_le h5 h3
  obtain ⟨q1, q2, w1⟩ := mul3 (a := (lowR a.n b.d).n) (b := (lowR b.n a.d).n) (by omega) (by omega) (by omega) (by omega)
  obtain ⟨q3, q4, w2⟩ := mul3 (a := (lowR a.n b.d).d) (b := (lowR b.n a.d).d) (by omega) (by omega) (by omega) (by omega)
  have e1 := t74 a.n b.d h1 (by omega) h7 (by omega)
  have e2 := t74 b.n a.d h5 (by omega) h3 (by omega)
  have e3 := t74 ((lowR a.n b.d).n * (lowR b.n a.d).n) ((lowR a.n b.d).d * (lowR b.n a.d).d) q1 (by omega) q3 (by omega)
  refine zq (zk 22) cfn22 rfl (n := 28) rfl ?_
  simp only [bW, if_true, Nat.reduceEqDiff, if_false, zm]
  repeat' first
    | (intro hb; first | cases hb | skip)
    | ((first | apply z8 | apply ze)
       · rfl
       · simp (disch := assumption) only [go_sem, Nat.reduceEqDiff, Nat.reduceAdd, bP, zf, Nat.reduceLeDiff, Nat.reduceLT, Nat.reduceMul, List.length_append, decide_eq_true_eq, z9, z6, Int.reduceToNat, Int.reduceLE, Int.reduceLT, Int.reduceBNe, Int.reduceBEq, e1, e2, e3, w1, w2]
         rfl
       · simp only [go_sem, Nat.reduceLT, Nat.reduceEqDiff]
         rfl
       · rfl
       first
       | (apply zd
          · simp only [z5, z0, Nat.reduceLT, decide_true, cond_true, ins]
            rfl
          · simp only [z5, z0, Nat.reduceLT, decide_true, cond_true, ins]
            rfl)
       | (apply zh
          · simp only [z5, z0, Nat.reduceLT, decide_true, cond_true, ins]
            rfl))
    | ((first | apply zb | apply zc)
       · rfl
       · simp only [z5, z0, Nat.reduceLT, decide_true, cond_true, ins]
         rfl)
    | (apply za
       · simp only [go_sem, Nat.reduceEqDiff])
    | (apply z7
       · simp only [go_sem, Nat.reduceEqDiff])
    | (apply zg
       · kernel_rfl
       · kernel_rfl)
    | (simp only [bW, if_true, Nat.reduceEqDiff, if_false])
  all_goals simp only [go_sem, Nat.reduceEqDiff, bP, Nat.reduceAdd, Nat.reduceLeDiff, List.length_map, Tryd.f22]
  all_goals first | rfl | (simp_all []; done) | (simp_all []; intros; omega)

theorem times_le {a b : Ratio} (h1 : 1 ≤ a.n) (h2 : a.n ≤ 3000000000) (h3 : 1 ≤ a.d) (h4 : a.d ≤ 3000000000) (h5 : 1 ≤ b.n) (h6 : b.n ≤ 3000000000) (h7 : 1 ≤ b.d) (h8 : b.d ≤ 3000000000) : (timesR a b).n ≤ 9000000000000000000 ∧ (timesR a b).d ≤ 9000000000000000000 := by
  obtain ⟨l1, l2, l3, l4⟩ := low_le h1 h7
  obtain ⟨m1, m2, m3, m4⟩ := low_le h5 h3
  obtain ⟨q1, q2, w1⟩ := mul3 (a := (lowR a.n b.d).n) (b := (lowR b.n a.d).n) (by omega) (by omega) (by omega) (by omega)
  obtain ⟨q3, q4, w2⟩ := mul3 (a := (lowR a.n b.d).d) (b := (lowR b.n a.d).d) (by omega) (by omega) (by omega) (by omega)
  obtain ⟨r1, r2, r3, r4⟩ := low_le q1 q3
  exact ⟨Int.le_trans r2 q2, Int.le_trans r4 q4⟩
end Go.VS
/-
  What is known along one axis depends on what is said along it alone, in any order. (A text of this claim's own; nothing of it is trusted.)
-/
namespace Go.VS
open Go Go.VS.Walks
theorem ch_mono {E E' : T → Prop} (h : ∀ t, E t → E' t) : ∀ {l : List T} {a b : Nat}, Ch E a l b → Ch E' a l b
  | [], _, _, h' => h'
  | _ :: _, _, _, h' => ⟨h _ h'.1, h'.2.1, ch_mono h h'.2.2⟩
theorem chains_le {es es' : List Edge} (hsub : ∀ t, inE es t → inE es' t) (hb : ∀ e ∈ es, edgeB e) (hb' : ∀ e ∈ es', edgeB e) {s m b : Nat} (hs : s < 5) {c : Chn} (hc : (zH es s m)[b]? = some (some c)) :
    redR c.q ∧ ∃ c', (zH es' s m)[b]? = some (some c') ∧ redR c'.q ∧ vR c'.q ≤ vR c.q := by
  obtain ⟨k, k1, k2, w, w1, w2, w3, w4, w5⟩ := (chains_spec hb hs m).2.1 b c hc
  obtain ⟨v, v1, v2⟩ := inE_walk (ch_mono hsub w2.1)
  have hl : v.length = w.length := by have := congrArg List.length v1; simpa using this
  have hp : prE v = prE w := by unfold prE; rw [v1]
  obtain ⟨c', c1, c2⟩ := (chains_spec hb' hs m).2.2 b v (by omega) (by omega) v2
  refine ⟨w5, c', c1, ?_, by rw [w3, ← hp]; exact c2⟩
  obtain ⟨_, _, _, h⟩ := (chains_spec hb' hs m).2.1 b c' c1
  exact real_red h
theorem chains_same {es es' : List Edge} (h : ∀ t, inE es t ↔ inE es' t) (hb : ∀ e ∈ es, edgeB e) (hb' : ∀ e ∈ es', edgeB e) {s m b : Nat} (hs : s < 5) {c : Chn} (hc : (zH es s m)[b]? = some (some c)) :
    ∃ c', (zH es' s m)[b]? = some (some c') ∧ c'.q = c.q := by
  obtain ⟨r1, c', c1, r2, l1⟩ := chains_le (fun t => (h t).1) hb hb' hs hc
  obtain ⟨_, c'', c2, _, l2⟩ := chains_le (fun t => (h t).2) hb' hb hs c1
  rw [hc] at c2; cases c2
  exact ⟨c', c1, red_eq r2 r1 (Rat.le_antisymm l1 l2)⟩
theorem clash_of {es : List Edge} : ∀ {j i : Nat}, (∀ k, i ≤ k → k < i + j → ∀ c, (zH es k 5)[k]? = some (some c) → ltR c.q one1 = false) → clashFrom es j i = none
  | 0, _, _ => rfl
  | j + 1, i, h => by
    have ih := clash_of (es := es) (j := j) (i := i + 1) fun k h1 h2 c hc => h k (by omega) (by omega) c hc
    unfold clashFrom
    split
    · rename_i c hc
      rw [h i (Nat.le_refl _) (by omega) c hc]
      exact ih
    · exact ih
theorem clash_same {p p' : Paper} {ax ax' : Int} (hok : zp p = true) (hok' : zp p' = true) (hs : p'.sheets = p.sheets) (h : ∀ t, inE (zD p ax) t ↔ inE (zD p' ax') t) (hc : clashA p ax = none) : clashA p' ax' = none := by
  obtain ⟨o1, o2, -⟩ := zE hok
  refine clash_of fun k h1 h2 c' hc' => ?_
  obtain ⟨c, c1, c2⟩ := chains_same (fun t => (h t).symm) (fun e he => (edge_nodes hok' he).1) (fun e he => (edge_nodes hok he).1) (show k < 5 by omega) hc'
  rw [← c2]
  exact clash_none hc k h1 (by rw [← hs]; exact h2) c c1
theorem dist_same {p p' : Paper} {ax ax' : Int} (hok : zp p = true) (hok' : zp p' = true) (hs : p'.sheets = p.sheets) (h : ∀ t, inE (zD p ax) t ↔ inE (zD p' ax') t) {s t : Nat} (h1 : s < 1 + p.sheets) (h2 : t < 1 + p.sheets) : distF p' ax' s t = distF p ax s t := by
  obtain ⟨o1, o2, -⟩ := zE hok
  by_cases hst : s = t
  · subst hst; unfold distF; rw [if_pos rfl, if_pos rfl]
  · have e1 := dist_some hok ax h1 h2 hst
    have e2 := dist_some hok' ax' (show (s : Int) < 1 + p'.sheets by omega) (show (t : Int) < 1 + p'.sheets by omega) hst
    obtain ⟨c, c1, c2⟩ := chains_same h (fun e he => (edge_nodes hok he).1) (fun e he => (edge_nodes hok' he).1) (show s < 5 by omega) e1
    rw [e2] at c1; cases c1
    unfold distF
    rw [if_neg hst, if_neg hst]
    exact c2
/-! ### what is said along an axis -/
def mT (m : Mark) : List T := (markE m 0).map tE
def jT (j : Join) : List T := (joinE j 0).map tE
def sT (i : Nat) : List T := (sheetE i).map tE
theorem marksE_T (ax : Int) (t : T) : ∀ (l : List Mark) (i : Nat), (∃ e, e ∈ marksE ax l i ∧ tE e = t) ↔ ∃ m ∈ l, m.axis = ax ∧ t ∈ mT m
  | [], i => by simp [marksE]
  | m :: l, i => by
    have hm : ∀ k, t ∈ mT m ↔ ∃ e ∈ markE m k, tE e = t := by
      intro k; unfold mT; rw [show (markE m 0).map tE = (markE m k).map tE from rfl, List.mem_map]
    have ih := marksE_T ax t l (i + 1)
    constructor
    · rintro ⟨e, he, rfl⟩
      simp only [marksE, List.mem_append] at he
      rcases he with he | he
      · split at he
        · rename_i hax; exact ⟨m, by simp, hax, (hm i).2 ⟨e, he, rfl⟩⟩
        · cases he
      · obtain ⟨m', h1, h2, h3⟩ := ih.1 ⟨e, he, rfl⟩
        exact ⟨m', List.mem_cons_of_mem _ h1, h2, h3⟩
    · rintro ⟨m', h1, h2, h3⟩
      rcases List.mem_cons.1 h1 with rfl | h1
      · obtain ⟨e, he, h⟩ := (hm i).1 h3
        exact ⟨e, by simp only [marksE, List.mem_append, h2, if_true]; exact .inl he, h⟩
      · obtain ⟨e, he, h⟩ := ih.2 ⟨m', h1, h2, h3⟩
        exact ⟨e, by simp only [marksE, List.mem_append]; exact .inr he, h⟩
theorem joinsE_T (ax : Int) (t : T) : ∀ (l : List Join) (i : Nat), (∃ e, e ∈ joinsE ax l i ∧ tE e = t) ↔ ∃ m ∈ l, m.axis = ax ∧ t ∈ jT m
  | [], i => by simp [joinsE]
  | m :: l, i => by
    have hm : ∀ k, t ∈ jT m ↔ ∃ e ∈ joinE m k, tE e = t := by
      intro k; unfold jT; rw [show (joinE m 0).map tE = (joinE m k).map tE from rfl, List.mem_map]
    have ih := joinsE_T ax t l (i + 1)
    constructor
    · rintro ⟨e, he, rfl⟩
      simp only [joinsE, List.mem_append] at he
      rcases he with he | he
      · split at he
        · rename_i hax; exact ⟨m, by simp, hax, (hm i).2 ⟨e, he, rfl⟩⟩
        · cases he
      · obtain ⟨m', h1, h2, h3⟩ := ih.1 ⟨e, he, rfl⟩
        exact ⟨m', List.mem_cons_of_mem _ h1, h2, h3⟩
    · rintro ⟨m', h1, h2, h3⟩
      rcases List.mem_cons.1 h1 with rfl | h1
      · obtain ⟨e, he, h⟩ := (hm i).1 h3
        exact ⟨e, by simp only [joinsE, List.mem_append, h2, if_true]; exact .inl he, h⟩
      · obtain ⟨e, he, h⟩ := ih.2 ⟨m', h1, h2, h3⟩
        exact ⟨e, by simp only [joinsE, List.mem_append]; exact .inr he, h⟩
theorem inE_edges {p : Paper} {ax : Int} {t : T} : inE (zD p ax) t ↔ (∃ i, i < p.sheets.toNat ∧ t ∈ sT i) ∨ (∃ m ∈ p.marks, m.axis = ax ∧ t ∈ mT m) ∨ (∃ m ∈ p.joins, m.axis = ax ∧ t ∈ jT m) := by
  rw [← marksE_T ax t p.marks 0, ← joinsE_T ax t p.joins 0]
  unfold inE zD
  constructor
  · rintro ⟨e, he, rfl⟩
    simp only [List.mem_append, List.mem_flatMap, List.mem_range'_1] at he
    rcases he with (⟨i, hi, he⟩ | he) | he
    · exact .inl ⟨i, by omega, List.mem_map.2 ⟨e, he, rfl⟩⟩
    · exact .inr (.inl ⟨e, he, rfl⟩)
    · exact .inr (.inr ⟨e, he, rfl⟩)
  · rintro (⟨i, hi, h⟩ | ⟨e, he, rfl⟩ | ⟨e, he, rfl⟩)
    · obtain ⟨e, he, rfl⟩ := List.mem_map.1 h
      refine ⟨e, ?_, rfl⟩
      simp only [List.mem_append, List.mem_flatMap, List.mem_range'_1]
      exact .inl (.inl ⟨i, by omega, he⟩)
    · exact ⟨e, by simp only [List.mem_append]; exact .inl (.inr he), rfl⟩
    · exact ⟨e, by simp only [List.mem_append]; exact .inr he, rfl⟩
/-- The paper of what is said along one axis, the other way round. -/
def ownM (p : Paper) (ax : Int) : List Mark := (p.marks.filter fun m => decide (m.axis = ax)).reverse
def ownJ (p : Paper) (ax : Int) : List Join := (p.joins.filter fun m => decide (m.axis = ax)).reverse
def ownP (p : Paper) (ax : Int) : Paper := ⟨p.sheets, (ownM p ax).isEmpty, ownM p ax, (ownJ p ax).isEmpty, ownJ p ax⟩
theorem mem_ownM {p : Paper} {ax : Int} {m : Mark} : m ∈ ownM p ax ↔ m ∈ p.marks ∧ m.axis = ax := by simp [ownM]
theorem mem_ownJ {p : Paper} {ax : Int} {m : Join} : m ∈ ownJ p ax ↔ m ∈ p.joins ∧ m.axis = ax := by simp [ownJ]
theorem own_wf {p : Paper} {ax : Int} (hwf : p.wf) : (ownP p ax).wf := by
  refine ⟨fun h => List.isEmpty_iff.1 h, fun h => List.isEmpty_iff.1 h, ?_, ?_⟩
  · have := List.length_filter_le (fun m : Mark => decide (m.axis = ax)) p.marks
    have := hwf.2.2.1
    simp only [ownP, ownM, List.length_reverse]; omega
  · have := List.length_filter_le (fun m : Join => decide (m.axis = ax)) p.joins
    have := hwf.2.2.2
    simp only [ownP, ownJ, List.length_reverse]; omega
theorem own_ok {p : Paper} {ax : Int} (hok : zp p = true) : zp (ownP p ax) = true := by
  obtain ⟨o1, o2, o3, o4, o5, o6⟩ := zE hok
  have l1 := List.length_filter_le (fun m : Mark => decide (m.axis = ax)) p.marks
  have l2 := List.length_filter_le (fun m : Join => decide (m.axis = ax)) p.joins
  simp only [zp, Bool.and_eq_true, decide_eq_true_eq, List.all_eq_true]
  refine ⟨⟨⟨⟨⟨o1, o2⟩, ?_⟩, ?_⟩, fun m hm => ?_⟩, fun m hm => ?_⟩
  · show (ownM p ax).length ≤ 24
    simp only [ownM, List.length_reverse]; omega
  · show (ownJ p ax).length ≤ 24
    simp only [ownJ, List.length_reverse]; omega
  · exact o5 m (mem_ownM.1 hm).1
  · exact o6 m (mem_ownJ.1 hm).1
theorem own_edges {p : Paper} {ax : Int} (t : T) : inE (zD p ax) t ↔ inE (zD (ownP p ax) ax) t := by
  rw [inE_edges, inE_edges]
  refine or_congr Iff.rfl (or_congr ?_ ?_)
  · constructor
    · rintro ⟨m, h1, h2, h3⟩; exact ⟨m, mem_ownM.2 ⟨h1, h2⟩, h2, h3⟩
    · rintro ⟨m, h1, h2, h3⟩; exact ⟨m, (mem_ownM.1 h1).1, h2, h3⟩
  · constructor
    · rintro ⟨m, h1, h2, h3⟩; exact ⟨m, mem_ownJ.2 ⟨h1, h2⟩, h2, h3⟩
    · rintro ⟨m, h1, h2, h3⟩; exact ⟨m, (mem_ownJ.1 h1).1, h2, h3⟩
theorem own_other {p : Paper} {ax ax' : Int} (hne : ax' ≠ ax) {t : T} (h : inE (zD (ownP p ax) ax') t) : t.w = 2 := by
  rcases inE_edges.1 h with ⟨i, _, h⟩ | ⟨m, h1, h2, _⟩ | ⟨m, h1, h2, _⟩
  · simp only [sT, sheetE, List.map_cons, List.map_nil, List.mem_cons, List.not_mem_nil, or_false] at h
    have h2 : vR ⟨2, 1⟩ = 2 := by decide
    rcases h with rfl | rfl <;> (simp only [tE]; exact h2)
  · exact absurd (h2.symm.trans (mem_ownM.1 h1).2) hne
  · exact absurd (h2.symm.trans (mem_ownJ.1 h1).2) hne
theorem pr_two {E : T → Prop} (hE : ∀ t, E t → t.w = 2) : ∀ {l : List T} {a b : Nat}, Ch E a l b → 1 ≤ pr l ∧ (l ≠ [] → 2 ≤ pr l)
  | [], _, _, _ => ⟨Rat.le_refl, fun h => absurd rfl h⟩
  | t :: l, _, _, h => by
    have ih := (pr_two hE h.2.2).1
    have h2 : (2 : Rat) ≤ pr (t :: l) := by
      show (2 : Rat) ≤ t.w * pr l
      rw [hE t h.1]
      have := Rat.mul_le_mul_of_nonneg_left ih (show (0 : Rat) ≤ 2 by decide)
      rwa [Rat.mul_one] at this
    exact ⟨Rat.le_trans (by decide) h2, fun _ => h2⟩
theorem own_clash {p : Paper} {ax ax' : Int} (hok : zp p = true) (hne : ax' ≠ ax) : clashA (ownP p ax) ax' = none := by
  obtain ⟨o1, o2, -⟩ := zE hok
  refine clash_of fun k h1 h2 c hc => ?_
  have h5 : k < 5 := by
    have : k < 0 + (1 + p.sheets).toNat := h2
    omega
  obtain ⟨n, n1, n2, w, w1, w2, w3, w4, w5⟩ := (chains_spec (fun e he => (edge_nodes (own_ok hok) he).1) h5 5).2.1 k c hc
  have hp := (pr_two (fun t ht => own_other hne ht) w2.1).1
  cases hlt : ltR c.q one1 with
  | false => rfl
  | true =>
    rw [ltR_iff w5.2.1 (by decide), one_vR, w3] at hlt
    exact absurd hlt (Rat.not_lt.2 hp)
theorem own_dist {p : Paper} {ax ax' : Int} (hok : zp p = true) (hne : ax' ≠ ax) {i : Nat} (hi : (i : Int) < p.sheets) : distF (ownP p ax) ax' (1 + i) 0 = ⟨2, 1⟩ ∧ distF (ownP p ax) ax' 0 (1 + i) = ⟨2, 1⟩ := by
  have hok' := own_ok (ax := ax) hok
  have hc := own_clash hok hne
  have hr2 : redR ⟨2, 1⟩ := ⟨by decide, by decide, by decide⟩
  have h2 : vR ⟨2, 1⟩ = 2 := by decide
  have b1 : ((1 + i : Nat) : Int) < 1 + (ownP p ax).sheets := by show _ < 1 + p.sheets; omega
  have b0 : ((0 : Nat) : Int) < 1 + (ownP p ax).sheets := by show _ < 1 + p.sheets; omega
  have key : ∀ (s t : Nat) (w : List Edge), s ≠ t → (s : Int) < 1 + (ownP p ax).sheets → (t : Int) < 1 + (ownP p ax).sheets → Wk (zD (ownP p ax) ax') s w t → prE w = 2 → distF (ownP p ax) ax' s t = ⟨2, 1⟩ := by
    intro s t w hst hs ht hw hpr
    obtain ⟨r1, v, v1, _, v3⟩ := dist_real hok' ax' hs ht
    refine red_eq r1 hr2 (Rat.le_antisymm ?_ ?_)
    · rw [h2, ← hpr]; exact dist_least hok' hc hs ht hw
    · rw [h2, v3]
      refine (pr_two (fun t ht => own_other hne ht) v1.1).2 fun hn => hst ?_
      have h1 := v1.1
      rw [hn] at h1
      exact h1
  have hin : ∀ e ∈ sheetE i, e ∈ zD (ownP p ax) ax' := by
    intro e he
    simp only [zD, List.mem_append, List.mem_flatMap, List.mem_range'_1]
    exact .inl (.inl ⟨i, by show 0 ≤ i ∧ i < 0 + p.sheets.toNat; omega, he⟩)
  have hp1 : ∀ e ∈ sheetE i, prE [e] = 2 := by
    intro e he
    simp [sheetE] at he
    rcases he with rfl | rfl <;> (simp only [prE, pr, tE, List.map_cons, List.map_nil]; rw [h2, Rat.mul_one])
  constructor
  · have hw := wk_one (hin ⟨1 + i, 0, ⟨2, 1⟩, ⟨false, -1 - i, false⟩⟩ (by simp [sheetE]))
    rw [show ((1 + (i : Int)).toNat) = 1 + i by omega] at hw
    exact key _ _ _ (by omega) b1 b0 hw (hp1 _ (by simp [sheetE]))
  · have hw := wk_one (hin ⟨0, 1 + i, ⟨2, 1⟩, ⟨false, -1 - i, true⟩⟩ (by simp [sheetE]))
    rw [show ((1 + (i : Int)).toNat) = 1 + i by omega] at hw
    exact key _ _ _ (by omega) b0 b1 hw (hp1 _ (by simp [sheetE]))
end Go.VS
/-
  What the reference's nets come to: the least quotients of walks of at most five zD, their nodes named otherwise. (A text of this claim's own; nothing of it is trusted.)
-/
namespace Go.VS
open Go Go.VS.Walks
def refOf (u : Int) (e : Edge) : Edge := ⟨if e.src = 0 then u else e.src - 1, if e.dst = 0 then u else e.dst - 1, lowR e.q.n e.q.d, e.why⟩
def refB (p : Paper) (ax : Int) : List Edge := marksE ax p.marks 0 ++ joinsE ax p.joins 0 ++ (List.range' 0 p.sheets.toNat).flatMap sheetE
def refE (p : Paper) (ax : Int) : List Edge := (refB p ax).map (refOf p.sheets)
theorem mem_refB {p : Paper} {ax : Int} {e : Edge} : e ∈ refB p ax ↔ e ∈ zD p ax := by
  unfold refB zD
  simp only [List.mem_append]
  constructor
  · rintro ((h | h) | h)
    · exact .inl (.inr h)
    · exact .inr h
    · exact .inl (.inl h)
  · rintro ((h | h) | h)
    · exact .inr h
    · exact .inl (.inl h)
    · exact .inl (.inr h)
abbrev NetF := Nat → Nat → Ratio
def putF (c : NetF) (i j : Nat) (r : Ratio) : NetF := fun a b => if a = i ∧ b = j then r else c a b
def stepF (c : NetF) (e : Edge) (out : NetF) (j : Nat) : NetF :=
  if (c e.dst.toNat j).n = 0 then out
  else if (out e.src.toNat j).n = 0 ∨ cmpR (timesR e.q (c e.dst.toNat j)) (out e.src.toNat j) < 0 then putF out e.src.toNat j (timesR e.q (c e.dst.toNat j)) else out
def innerF (c : NetF) (e : Edge) : Nat → Nat → NetF → NetF
  | 0, _, out => out
  | m + 1, j, out => innerF c e m (j + 1) (stepF c e out j)
def foldF (c : NetF) : List Edge → NetF → NetF
  | [], out => out
  | e :: es, out => foldF c es (innerF c e 5 0 out)
def startF : NetF := fun i j => if i = j ∧ i < 5 then ⟨1, 1⟩ else ⟨0, 0⟩
def iterF (es : List Edge) : Nat → NetF → NetF
  | 0, c => c
  | m + 1, c => iterF es m (foldF c es c)
def netR (p : Paper) (ax : Int) : NetF := iterF (refE p ax) 5 startF
/-! ### bounds -/
def entB (m : Int) (r : Ratio) : Prop := r.n = 0 ∨ (1 ≤ r.n ∧ r.n ≤ m ∧ 1 ≤ r.d ∧ r.d ≤ m)
def nB (m : Int) (c : NetF) : Prop := ∀ i j, entB m (c i j)
def eB (e : Edge) : Prop := 0 ≤ e.src ∧ e.src < 5 ∧ 0 ≤ e.dst ∧ e.dst < 5 ∧ 1 ≤ e.q.n ∧ e.q.n ≤ 2000 ∧ 1 ≤ e.q.d ∧ e.q.d ≤ 2000
theorem entB_mono {m m' : Int} {r : Ratio} (h : entB m r) (hm : m ≤ m') : entB m' r := by
  rcases h with h | ⟨a, b, c, d⟩
  · exact .inl h
  · exact .inr ⟨a, by omega, c, by omega⟩
theorem timesB {m : Int} {a b : Ratio} (ha : 1 ≤ a.n ∧ a.n ≤ 2000 ∧ 1 ≤ a.d ∧ a.d ≤ 2000) (hb : 1 ≤ b.n ∧ b.n ≤ m ∧ 1 ≤ b.d ∧ b.d ≤ m) : 1 ≤ (timesR a b).n ∧ (timesR a b).n ≤ 2000 * m ∧ 1 ≤ (timesR a b).d ∧ (timesR a b).d ≤ 2000 * m := by
  obtain ⟨a1, a2, a3, a4⟩ := ha
  obtain ⟨b1, b2, b3, b4⟩ := hb
  obtain ⟨l1, l2, l3, l4⟩ := low_le a1 b3
  obtain ⟨m1, m2, m3, m4⟩ := low_le b1 a3
  have p1 := Int.mul_le_mul l1 m1 (by omega) (by omega)
  have p2 := Int.mul_le_mul l3 m3 (by omega) (by omega)
  have p3 : (lowR a.n b.d).n * (lowR b.n a.d).n ≤ 2000 * m := Int.mul_le_mul (by omega) (by omega) (by omega) (by omega)
  have p4 : (lowR a.n b.d).d * (lowR b.n a.d).d ≤ m * 2000 := Int.mul_le_mul (by omega) (by omega) (by omega) (by omega)
  obtain ⟨q1, q2, q3, q4⟩ := low_le (n := (lowR a.n b.d).n * (lowR b.n a.d).n) (d := (lowR a.n b.d).d * (lowR b.n a.d).d) (by omega) (by omega)
  unfold timesR
  omega
theorem stepB {m : Int} {c out : NetF} {e : Edge} {j : Nat} (hc : nB m c) (he : eB e) (ho : nB (2000 * m) out) : nB (2000 * m) (stepF c e out j) := by
  unfold stepF
  split
  · exact ho
  · rename_i h
    split
    · intro a b
      unfold putF
      split
      · exact .inr (timesB he.2.2.2.2 ((hc _ _).resolve_left h))
      · exact ho a b
    · exact ho
theorem innerB {m : Int} {c : NetF} {e : Edge} (hc : nB m c) (he : eB e) : ∀ (k j : Nat) {out : NetF}, nB (2000 * m) out → nB (2000 * m) (innerF c e k j out)
  | 0, _, _, h => h
  | k + 1, j, _, h => innerB hc he k (j + 1) (stepB hc he h)
theorem foldB {m : Int} {c : NetF} (hc : nB m c) : ∀ {es : List Edge}, (∀ e ∈ es, eB e) → ∀ {out : NetF}, nB (2000 * m) out → nB (2000 * m) (foldF c es out)
  | [], _, _, h => h
  | e :: _, he, _, h => foldB hc (fun e' h' => he e' (List.mem_cons_of_mem _ h')) (innerB hc (he e (by simp)) 5 0 h)
theorem longB {m : Int} {c : NetF} {es : List Edge} (hm : 1 ≤ m) (hc : nB m c) (he : ∀ e ∈ es, eB e) : nB (2000 * m) (foldF c es c) :=
  foldB hc he fun i j => entB_mono (hc i j) (by omega)
theorem startB : nB 1 startF := by
  intro i j
  unfold startF
  split
  · exact .inr ⟨by decide, by decide, by decide, by decide⟩
  · exact .inl rfl
theorem sheet_pos {p : Paper} (hok : zp p = true) : ∃ u : Nat, p.sheets = u ∧ 1 ≤ u ∧ u ≤ 4 := by
  obtain ⟨o1, o2, -⟩ := zE hok
  exact ⟨p.sheets.toNat, by omega, by omega, by omega⟩
theorem refE_B {p : Paper} (hok : zp p = true) (ax : Int) : ∀ e ∈ refE p ax, eB e := by
  intro e he
  obtain ⟨u, hu, u1, u2⟩ := sheet_pos hok
  obtain ⟨e', h1, rfl⟩ := List.mem_map.1 he
  obtain ⟨hb, hs, hd⟩ := edge_nodes hok (mem_refB.1 h1)
  obtain ⟨b1, b2, b3, b4, b5, b6, b7, b8⟩ := hb
  obtain ⟨l1, l2, l3, l4⟩ := low_le b5 b7
  unfold refOf eB
  simp only
  refine ⟨?_, ?_, ?_, ?_, l1, by omega, l3, by omega⟩ <;> split <;> omega
/-! ### what the nets are -/
/-- A zm that some walk of at most n zD comes to. -/
def RW (E : T → Prop) (n x y : Nat) (v : Rat) : Prop := ∃ l, l.length ≤ n ∧ Ch E x l y ∧ v = pr l
def Good (E : T → Prop) (n : Nat) (c : NetF) : Prop := ∀ x y, (c x y).n ≠ 0 → redR (c x y) ∧ RW E n x y (vR (c x y))
def Atm (c : NetF) (x y : Nat) (v : Rat) : Prop := (c x y).n ≠ 0 ∧ vR (c x y) ≤ v
def Exa (E : T → Prop) (n : Nat) (c : NetF) : Prop := Good E n c ∧ ∀ x y, x < 5 → y < 5 → ∀ l, l.length ≤ n → Ch E x l y → Atm c x y (pr l)
theorem good_mono {E : T → Prop} {n m : Nat} (h : n ≤ m) {c : NetF} (hg : Good E n c) : Good E m c := fun x y hn => by
  obtain ⟨r, l, l1, l2, l3⟩ := hg x y hn
  exact ⟨r, l, by omega, l2, l3⟩
section
variable {es : List Edge} {n : Nat} {c : NetF}
theorem step_all (hc : Good (inE es) n c) {e : Edge} (he : e ∈ es) (hb : eB e) {out : NetF} (ho : Good (inE es) (n + 1) out) (j : Nat) :
    Good (inE es) (n + 1) (stepF c e out j) ∧ (∀ x y v, Atm out x y v → Atm (stepF c e out j) x y v) ∧ ((c e.dst.toNat j).n ≠ 0 → Atm (stepF c e out j) e.src.toNat j (vR e.q * vR (c e.dst.toNat j))) := by
  unfold stepF
  split
  · rename_i h
    exact ⟨ho, fun _ _ _ h => h, fun h' => absurd h h'⟩
  · rename_i h
    obtain ⟨r1, l, l1, l2, l3⟩ := hc _ _ h
    obtain ⟨t1, t2⟩ := times_spec (a := e.q) (b := c e.dst.toNat j) hb.2.2.2.2.1 hb.2.2.2.2.2.2.1 r1.1 r1.2.1
    have hreal : RW (inE es) (n + 1) e.src.toNat j (vR (timesR e.q (c e.dst.toNat j))) :=
      ⟨tE e :: l, by simp only [List.length_cons]; omega, ⟨⟨e, he, rfl⟩, rfl, l2⟩, by rw [t2, l3]; rfl⟩
    split
    · rename_i h2
      have hself : putF out e.src.toNat j (timesR e.q (c e.dst.toNat j)) e.src.toNat j = timesR e.q (c e.dst.toNat j) := by unfold putF; rw [if_pos ⟨rfl, rfl⟩]
      have hne : (timesR e.q (c e.dst.toNat j)).n ≠ 0 := by have := t1.1; omega
      refine ⟨fun x y hxy => ?_, fun x y v hv => ?_, fun _ => ?_⟩
      · unfold putF at hxy ⊢
        split
        · rename_i hx; rw [hx.1, hx.2]; exact ⟨t1, hreal⟩
        · rename_i hx; rw [if_neg hx] at hxy; exact ho x y hxy
      · by_cases hx : x = e.src.toNat ∧ y = j
        · rw [hx.1, hx.2] at hv ⊢
          refine ⟨by rw [hself]; exact hne, ?_⟩
          rw [hself]
          rcases h2 with h2 | h2
          · exact absurd h2 hv.1
          · have : decide (cmpR (timesR e.q (c e.dst.toNat j)) (out e.src.toNat j) < 0) = true := decide_eq_true h2
            rw [cmp_lt, ltR_iff t1.2.1 (ho _ _ hv.1).1.2.1] at this
            exact Rat.le_trans (Rat.le_of_lt this) hv.2
        · unfold Atm putF
          rw [if_neg hx]; exact hv
      · refine ⟨by rw [hself]; exact hne, ?_⟩
        rw [hself, t2]; exact Rat.le_refl
    · rename_i h2
      refine ⟨ho, fun _ _ _ h => h, fun _ => ?_⟩
      have h3 : (out e.src.toNat j).n ≠ 0 := fun h3 => h2 (.inl h3)
      refine ⟨h3, ?_⟩
      have h4 : decide (cmpR (timesR e.q (c e.dst.toNat j)) (out e.src.toNat j) < 0) = false := decide_eq_false fun h4 => h2 (.inr h4)
      rw [cmp_lt] at h4
      have : ¬ vR (timesR e.q (c e.dst.toNat j)) < vR (out e.src.toNat j) := fun h5 => by
        rw [(ltR_iff t1.2.1 (ho _ _ h3).1.2.1).2 h5] at h4; cases h4
      rw [Rat.not_lt, t2] at this
      exact this
theorem inner_all (hc : Good (inE es) n c) {e : Edge} (he : e ∈ es) (hb : eB e) : ∀ (m j : Nat) {out : NetF}, Good (inE es) (n + 1) out →
    Good (inE es) (n + 1) (innerF c e m j out) ∧ (∀ x y v, Atm out x y v → Atm (innerF c e m j out) x y v) ∧ (∀ i, j ≤ i → i < j + m → (c e.dst.toNat i).n ≠ 0 → Atm (innerF c e m j out) e.src.toNat i (vR e.q * vR (c e.dst.toNat i)))
  | 0, j, out, ho => ⟨ho, fun _ _ _ h => h, fun i h1 h2 => by omega⟩
  | m + 1, j, out, ho => by
    obtain ⟨s1, s2, s3⟩ := step_all hc he hb ho j
    obtain ⟨i1, i2, i3⟩ := inner_all hc he hb m (j + 1) s1
    refine ⟨i1, fun x y v h => i2 x y v (s2 x y v h), fun i h1 h2 h3 => ?_⟩
    by_cases hij : i = j
    · subst hij; exact i2 _ _ _ (s3 h3)
    · exact i3 i (by omega) (by omega) h3
theorem fold_all (hc : Good (inE es) n c) : ∀ {l : List Edge}, (∀ e ∈ l, e ∈ es ∧ eB e) → ∀ {out : NetF}, Good (inE es) (n + 1) out →
    Good (inE es) (n + 1) (foldF c l out) ∧ (∀ x y v, Atm out x y v → Atm (foldF c l out) x y v) ∧ (∀ e ∈ l, ∀ i, i < 5 → (c e.dst.toNat i).n ≠ 0 → Atm (foldF c l out) e.src.toNat i (vR e.q * vR (c e.dst.toNat i)))
  | [], _, out, ho => ⟨ho, fun _ _ _ h => h, fun e h => by cases h⟩
  | e :: l, hl, out, ho => by
    obtain ⟨s1, s2, s3⟩ := inner_all hc (hl e (by simp)).1 (hl e (by simp)).2 5 0 ho
    obtain ⟨i1, i2, i3⟩ := fold_all hc (l := l) (fun e' h' => hl e' (List.mem_cons_of_mem _ h')) s1
    refine ⟨i1, fun x y v h => i2 x y v (s2 x y v h), fun e' h' i hi h3 => ?_⟩
    rcases List.mem_cons.1 h' with rfl | h'
    · exact i2 _ _ _ (s3 i (by omega) (by omega) h3)
    · exact i3 e' h' i hi h3
theorem exa_step (hes : ∀ e ∈ es, eB e) (hc : Exa (inE es) n c) : Exa (inE es) (n + 1) (foldF c es c) := by
  obtain ⟨f1, f2, f3⟩ := fold_all hc.1 (l := es) (fun e he => ⟨he, hes e he⟩) (good_mono (Nat.le_succ n) hc.1)
  refine ⟨f1, fun x y hx hy l hl hch => ?_⟩
  cases l with
  | nil => exact f2 _ _ _ (hc.2 x y hx hy [] (Nat.zero_le _) hch)
  | cons t l =>
    obtain ⟨⟨e, he, rfl⟩, rfl, h3⟩ := hch
    have hb := hes e he
    have hd : (tE e).dst < 5 := by show e.dst.toNat < 5; have := hb.2.2.1; have := hb.2.2.2.1; omega
    have ha := hc.2 (tE e).dst y hd hy l (by simp only [List.length_cons] at hl; omega) h3
    obtain ⟨g1, g2⟩ := f3 e he y hy ha.1
    refine ⟨g1, Rat.le_trans g2 ?_⟩
    have hq : (0 : Rat) ≤ vR e.q := Rat.le_of_lt (vq_pos (by have := hb.2.2.2.2.1; omega) (by have := hb.2.2.2.2.2.2.1; omega))
    exact Rat.mul_le_mul_of_nonneg_left ha.2 hq
theorem exa_iter (hes : ∀ e ∈ es, eB e) : ∀ (m k : Nat) (c : NetF), Exa (inE es) k c → Exa (inE es) (k + m) (iterF es m c)
  | 0, _, _, h => h
  | m + 1, k, c, h => by
    have := exa_iter hes m (k + 1) _ (exa_step hes h)
    rw [show k + (m + 1) = k + 1 + m by omega]; exact this
end
theorem exa_start (E : T → Prop) : Exa E 0 startF := by
  refine ⟨fun x y h => ?_, fun x y hx hy l hl hch => ?_⟩
  · unfold startF at h ⊢
    split
    · rename_i hxy
      exact ⟨⟨by decide, by decide, by decide⟩, [], Nat.le_refl _, hxy.1, one_vR⟩
    · rename_i hxy; rw [if_neg hxy] at h; exact absurd rfl h
  · cases l with
    | nil =>
      obtain rfl : x = y := hch
      unfold Atm startF
      rw [if_pos ⟨rfl, hx⟩]
      exact ⟨by decide, by rw [show vR ⟨1, 1⟩ = 1 from one_vR]; exact Rat.le_refl⟩
    | cons t l => simp at hl
theorem net_exa {p : Paper} (hok : zp p = true) (ax : Int) : Exa (inE (refE p ax)) 5 (netR p ax) := by
  have := exa_iter (refE_B hok ax) 5 0 startF (exa_start _)
  exact this
/-! ### the nodes' other names -/
def sig (u k : Nat) : Nat := if k = 0 then u else k - 1
def sigT (u : Nat) (t : T) : T := ⟨sig u t.src, sig u t.dst, t.w⟩
theorem tE_ref {u : Nat} {e : Edge} (hb : edgeB e) : tE (refOf u e) = sigT u (tE e) := by
  obtain ⟨b1, b2, b3, b4, b5, b6, b7, b8⟩ := hb
  unfold tE refOf sigT sig
  simp only [T.mk.injEq]
  refine ⟨?_, ?_, (low_red b5 b7).2⟩
  · by_cases h : e.src = 0
    · rw [if_pos h, if_pos (by omega)]; omega
    · rw [if_neg h, if_neg (by omega)]; omega
  · by_cases h : e.dst = 0
    · rw [if_pos h, if_pos (by omega)]; omega
    · rw [if_neg h, if_neg (by omega)]; omega
theorem inE_ref {p : Paper} (hok : zp p = true) {ax : Int} {u : Nat} (hu : p.sheets = u) {t : T} : inE (refE p ax) t ↔ ∃ t', inE (zD p ax) t' ∧ sigT u t' = t := by
  unfold inE refE
  constructor
  · rintro ⟨e, he, rfl⟩
    obtain ⟨e', h1, rfl⟩ := List.mem_map.1 he
    have h2 := mem_refB.1 h1
    rw [hu, tE_ref (edge_nodes hok h2).1]
    exact ⟨_, ⟨e', h2, rfl⟩, rfl⟩
  · rintro ⟨t', ⟨e, he, rfl⟩, rfl⟩
    refine ⟨refOf p.sheets e, List.mem_map.2 ⟨e, mem_refB.2 he, rfl⟩, ?_⟩
    rw [hu, tE_ref (edge_nodes hok he).1]
theorem inE_le {p : Paper} (hok : zp p = true) {ax : Int} {u : Nat} (hu : p.sheets = u) {t : T} (h : inE (zD p ax) t) : t.src ≤ u ∧ t.dst ≤ u := by
  obtain ⟨e, he, rfl⟩ := h
  obtain ⟨b, h1, h2⟩ := edge_nodes hok he
  have := b.1; have := b.2.2.1
  constructor
  · show e.src.toNat ≤ u; omega
  · show e.dst.toNat ≤ u; omega
theorem sig_inj {u a b : Nat} (ha : a ≤ u) (hb : b ≤ u) (h : sig u a = sig u b) : a = b := by
  unfold sig at h
  split at h <;> split at h <;> omega
theorem ch_fwd {p : Paper} (hok : zp p = true) {ax : Int} {u : Nat} (hu : p.sheets = u) : ∀ {l : List T} {a b : Nat}, Ch (inE (zD p ax)) a l b → Ch (inE (refE p ax)) (sig u a) (l.map (sigT u)) (sig u b) ∧ pr (l.map (sigT u)) = pr l
  | [], _, _, h => ⟨by rw [show _ = _ from h]; rfl, rfl⟩
  | t :: l, _, _, h => by
    obtain ⟨i1, i2⟩ := ch_fwd hok hu h.2.2
    refine ⟨⟨(inE_ref hok hu).2 ⟨t, h.1, rfl⟩, by rw [← h.2.1]; rfl, i1⟩, ?_⟩
    show t.w * pr (l.map (sigT u)) = t.w * pr l
    rw [i2]
theorem ch_back {p : Paper} (hok : zp p = true) {ax : Int} {u : Nat} (hu : p.sheets = u) : ∀ {l : List T} {a y : Nat}, a ≤ u → Ch (inE (refE p ax)) (sig u a) l y → ∃ l' b, Ch (inE (zD p ax)) a l' b ∧ b ≤ u ∧ sig u b = y ∧ pr l = pr l' ∧ l'.length = l.length
  | [], a, _, ha, h => ⟨[], a, rfl, ha, h, rfl, rfl⟩
  | t :: l, a, y, ha, h => by
    obtain ⟨t', h1, rfl⟩ := (inE_ref hok hu).1 h.1
    obtain ⟨n1, n2⟩ := inE_le hok hu h1
    have hs : t'.src = a := sig_inj n1 ha h.2.1
    obtain ⟨l', b, i1, i2, i3, i4, i5⟩ := ch_back hok hu (l := l) n2 h.2.2
    refine ⟨t' :: l', b, ⟨h1, hs, i1⟩, i2, i3, ?_, by simp [i5]⟩
    show t'.w * pr l = t'.w * pr l'
    rw [i4]
/-- In a paper that allows factors the reference's nets are the least quotients. -/
theorem net_dist {p : Paper} (hok : zp p = true) {ax : Int} (hc : clashA p ax = none) {u : Nat} (hu : p.sheets = u) {a b : Nat} (ha : a ≤ u) (hb : b ≤ u) : netR p ax (sig u a) (sig u b) = distF p ax a b := by
  obtain ⟨u', hu', u1, u2⟩ := sheet_pos hok
  obtain rfl : u' = u := by omega
  have sl : ∀ k, k ≤ u' → sig u' k < 5 := by intro k hk; unfold sig; split <;> omega
  obtain ⟨x1, x2⟩ := net_exa hok ax
  obtain ⟨r1, w, w1, w2, w3⟩ := dist_real hok ax (show (a : Int) < 1 + p.sheets by omega) (show (b : Int) < 1 + p.sheets by omega)
  obtain ⟨f1, f2⟩ := ch_fwd hok hu w1.1
  obtain ⟨n1, n2⟩ := x2 (sig u' a) (sig u' b) (sl a ha) (sl b hb) _ (by rw [List.length_map, List.length_map]; omega) f1
  obtain ⟨r2, l, l1, l2, l3⟩ := x1 _ _ n1
  obtain ⟨l', b', i1, i2, i3, i4, _⟩ := ch_back hok hu ha l2
  obtain rfl : b' = b := sig_inj i2 hb i3
  obtain ⟨v, rfl, hv⟩ := inE_walk i1
  refine red_eq r2 r1 (Rat.le_antisymm ?_ ?_)
  · rw [w3]; rw [f2] at n2; exact n2
  · rw [l3, i4]; exact dist_least hok hc (by omega) (by omega) hv
theorem clash_some {es : List Edge} {c : Chn} : ∀ {j i : Nat}, clashFrom es j i = some c → ∃ k, i ≤ k ∧ k < i + j ∧ (zH es k 5)[k]? = some (some c) ∧ ltR c.q one1 = true
  | 0, _, h => by cases h
  | j + 1, i, h => by
    unfold clashFrom at h
    split at h
    · rename_i c' hc'
      split at h
      · rename_i hl
        cases h
        exact ⟨i, Nat.le_refl _, by omega, hc', hl⟩
      · obtain ⟨k, k1, k2, k3⟩ := clash_some h
        exact ⟨k, by omega, by omega, k3⟩
    · obtain ⟨k, k1, k2, k3⟩ := clash_some h
      exact ⟨k, by omega, by omega, k3⟩
def diagOK (c : NetF) (i : Nat) : Bool := !decide ((c i i).n < (c i i).d)
theorem can_iff {p : Paper} (hok : zp p = true) (ax : Int) : (∀ i, i < 5 → diagOK (netR p ax) i = true) ↔ clashA p ax = none := by
  obtain ⟨u, hu, u1, u2⟩ := sheet_pos hok
  obtain ⟨x1, x2⟩ := net_exa hok ax
  have sl : ∀ k, k ≤ u → sig u k < 5 := by intro k hk; unfold sig; split <;> omega
  constructor
  · intro h
    cases hc : clashA p ax with
    | none => rfl
    | some c =>
      exfalso
      obtain ⟨k, k1, k2, k3, k4⟩ := clash_some hc
      have hk : k ≤ u := by omega
      obtain ⟨m, m1, m2, w, w1, w2, w3, w4, w5⟩ := (chains_spec (fun e he => (edge_nodes hok he).1) (show k < 5 by omega) 5).2.1 k c k3
      obtain ⟨f1, f2⟩ := ch_fwd hok hu w2.1
      obtain ⟨n1, n2⟩ := x2 (sig u k) (sig u k) (sl k hk) (sl k hk) _ (by rw [List.length_map, List.length_map]; omega) f1
      have hd := h (sig u k) (sl k hk)
      unfold diagOK at hd
      simp only [Bool.not_eq_true', decide_eq_false_iff_not] at hd
      apply hd
      have r := (x1 _ _ n1).1
      rw [ltR_iff w5.2.1 (by decide), w3, one_vR] at k4
      have : vR (netR p ax (sig u k) (sig u k)) < vR one1 := by
        rw [one_vR]
        rw [f2] at n2
        exact Rat.not_le.1 fun h6 => Rat.not_le.2 k4 (Rat.le_trans h6 n2)
      have := (ltR_iff r.2.1 (by decide)).2 this
      simpa [ltR, one1] using this
  · intro hc i hi
    have h1 : redR (netR p ax i i) ∧ 1 ≤ vR (netR p ax i i) := by
      by_cases hiu : i ≤ u
      · obtain ⟨k, hk, rfl⟩ : ∃ k, k ≤ u ∧ sig u k = i := by
          by_cases h : i = u
          · exact ⟨0, by omega, by unfold sig; rw [if_pos rfl]; omega⟩
          · exact ⟨i + 1, by omega, by unfold sig; rw [if_neg (by omega)]; omega⟩
        rw [net_dist hok hc hu hk hk]
        unfold distF
        rw [if_pos rfl, one_vR]
        exact ⟨⟨by decide, by decide, by decide⟩, Rat.le_refl⟩
      · obtain ⟨n1, -⟩ := x2 i i hi hi [] (by simp) rfl
        obtain ⟨r, l, l1, l2, l3⟩ := x1 i i n1
        refine ⟨r, ?_⟩
        cases l with
        | nil => rw [l3]; exact Rat.le_refl
        | cons t l =>
          obtain ⟨t', h1, rfl⟩ := (inE_ref hok hu).1 l2.1
          obtain ⟨q1, _⟩ := inE_le hok hu h1
          have : sig u t'.src = i := l2.2.1
          unfold sig at this
          split at this <;> omega
    unfold diagOK
    simp only [Bool.not_eq_true', decide_eq_false_iff_not]
    intro hlt
    have : ltR (netR p ax i i) one1 = true := by simp [ltR, one1]; omega
    rw [ltR_iff h1.1.2.1 (by decide), one_vR] at this
    exact absurd this (Rat.not_lt.2 h1.2)
end Go.VS
namespace Go.VS
open Go Go.Proofs
set_option maxHeartbeats 0
set_option linter.unusedSimpArgs false

def encY (e : Edge) : D := .agg [B e.why.join, I e.why.at_, B e.why.back, I e.src, I e.dst, I e.q.n, I e.q.d]
theorem okY : EncOK 7 encY := ⟨fun _ _ _ => rfl, fun _ _ => rfl, fun _ _ _ => rfl, fun _ => ⟨rfl, rfl⟩⟩
def cN (c : NetF) : List D := [I (c 0 0).n, I (c 0 0).d, I (c 0 1).n, I (c 0 1).d, I (c 0 2).n, I (c 0 2).d, I (c 0 3).n, I (c 0 3).d, I (c 0 4).n, I (c 0 4).d, I (c 1 0).n, I (c 1 0).d, I (c 1 1).n, I (c 1 1).d, I (c 1 2).n, I (c 1 2).d, I (c 1 3).n, I (c 1 3).d, I (c 1 4).n, I (c 1 4).d, I (c 2 0).n, I (c 2 0).d, I (c 2 1).n, I (c 2 1).d, I (c 2 2).n, I (c 2 2).d, I (c 2 3).n, I (c 2 3).d, I (c 2 4).n, I (c 2 4).d, I (c 3 0).n, I (c 3 0).d, I (c 3 1).n, I (c 3 1).d, I (c 3 2).n, I (c 3 2).d, I (c 3 3).n, I (c 3 3).d, I (c 3 4).n, I (c 3 4).d, I (c 4 0).n, I (c 4 0).d, I (c 4 1).n, I (c 4 1).d, I (c 4 2).n, I (c 4 2).d, I (c 4 3).n, I (c 4 3).d, I (c 4 4).n, I (c 4 4).d]
def zN : List D := cN fun _ _ => ⟨0, 0⟩
theorem cN_len {c : NetF} : (cN c).length = 50 := rfl
theorem cN_one {c : NetF} : allOne (cN c) = true := rfl
theorem cN_ids {n : Nat} {c : NetF} : idsL (idsD (n + 1)) (cN c) = some [] := rfl
theorem cN_ren {ρ : Nat → Option Nat} {n : Nat} {c : NetF} : (cN c).map (renD ρ (n + 1)) = cN c := rfl
theorem cN_snap {g : Nat → Option Ob} {n : Nat} {c : NetF} : snapAll (snap g (n + 1)) (cN c) = some (cN c, []) := rfl
theorem cN_flat {n : Nat} {c : NetF} : flatL (flat (n + 1)) (cN c) = true := rfl
theorem cN_take {c : NetF} : (cN c).take 50 = cN c := rfl
theorem zN_len : zN.length = 50 := rfl
theorem zN_one : allOne zN = true := rfl
theorem zN_ids {n : Nat} : idsL (idsD (n + 1)) zN = some [] := rfl
theorem zN_ren {ρ : Nat → Option Nat} {n : Nat} : zN.map (renD ρ (n + 1)) = zN := rfl
theorem zN_drop : zN.drop 50 = [] := rfl
theorem five {i : Nat} (h : i < 5) : i = 0 ∨ i = 1 ∨ i = 2 ∨ i = 3 ∨ i = 4 := by omega
theorem cN_get {c : NetF} {i j : Nat} (hi : i < 5) (hj : j < 5) : (cN c)[i * 10 + j * 2]? = some (I (c i j).n) ∧ (cN c)[i * 10 + j * 2 + 1]? = some (I (c i j).d) ∧ ((cN c).drop (i * 10 + j * 2)).take 2 = [I (c i j).n, I (c i j).d] := by
  rcases five hi with rfl | rfl | rfl | rfl | rfl <;> rcases five hj with rfl | rfl | rfl | rfl | rfl <;> exact ⟨rfl, rfl, rfl⟩
theorem cN_put {c : NetF} {r : Ratio} {i j : Nat} (hi : i < 5) (hj : j < 5) : (cN c).take (i * 10 + j * 2) ++ [I r.n, I r.d] ++ (cN c).drop (i * 10 + j * 2 + 2) = cN (putF c i j r) := by
  rcases five hi with rfl | rfl | rfl | rfl | rfl <;> rcases five hj with rfl | rfl | rfl | rfl | rfl <;> rfl

theorem t22b (m : Int) (a b : Ratio) (hm : m ≤ 16000000000000) (ha : 1 ≤ a.n ∧ a.n ≤ 2000 ∧ 1 ≤ a.d ∧ a.d ≤ 2000) (hb : 1 ≤ b.n ∧ b.n ≤ m ∧ 1 ≤ b.d ∧ b.d ≤ m) : (lim cfg).pure 22 [.agg [I a.n, I a.d], .agg [I b.n, I b.d]] = some (.agg [I (timesR a b).n, I (timesR a b).d]) := by
  obtain ⟨a1, a2, a3, a4⟩ := ha
  obtain ⟨b1, b2, b3, b4⟩ := hb
  obtain ⟨l1, l2, l3, l4⟩ := low_le a1 b3
  obtain ⟨m1, m2, m3, m4⟩ := low_le b1 a3
  have q1 := Int.mul_le_mul l1 m1 (by omega) (by omega)
  have q3 := Int.mul_le_mul l3 m3 (by omega) (by omega)
  have q2 : (lowR a.n b.d).n * (lowR b.n a.d).n ≤ 2000 * m := Int.mul_le_mul (by omega) (by omega) (by omega) (by omega)
  have q4 : (lowR a.n b.d).d * (lowR b.n a.d).d ≤ m * 2000 := Int.mul_le_mul (by omega) (by omega) (by omega) (by omega)
  have w1 : IntKind.i64.wrap ((lowR a.n b.d).n * (lowR b.n a.d).n) = (lowR a.n b.d).n * (lowR b.n a.d).n := wrap_i64 (by omega) (by omega)
  have w2 : IntKind.i64.wrap ((lowR a.n b.d).d * (lowR b.n a.d).d) = (lowR a.n b.d).d * (lowR b.n a.d).d := wrap_i64 (by omega) (by omega)
  have e1 := t74 a.n b.d a1 (by omega) b3 (by omega)
  have e2 := t74 b.n a.d b1 (by omega) a3 (by omega)
  have e3 := t74 ((lowR a.n b.d).n * (lowR b.n a.d).n) ((lowR a.n b.d).d * (lowR b.n a.d).d) (by omega) (by omega) (by omega) (by omega)
  refine zq (zk 22) cfn22 rfl (n := 28) rfl ?_
  simp only [bW, if_true, Nat.reduceEqDiff, if_false, zm]
  repeat' first
    | (intro hb; first | cases hb | skip)
    | ((first | apply z8 | apply ze)
       · rfl
       · simp (disch := assumption) only [go_sem, Nat.reduceEqDiff, Nat.reduceAdd, bP, zf, Nat.reduceLeDiff, Nat.reduceLT, Nat.reduceMul, List.length_append, decide_eq_true_eq, z9, z6, Int.reduceToNat, Int.reduceLE, Int.reduceLT, Int.reduceBNe, Int.reduceBEq, e1, e2, e3, w1, w2]
         rfl
       · simp only [go_sem, Nat.reduceLT, Nat.reduceEqDiff]
         rfl
       · rfl
       first
       | (apply zd
          · simp only [z5, z0, Nat.reduceLT, decide_true, cond_true, ins]
            rfl
          · simp only [z5, z0, Nat.reduceLT, decide_true, cond_true, ins]
            rfl)
       | (apply zh
          · simp only [z5, z0, Nat.reduceLT, decide_true, cond_true, ins]
            rfl))
    | ((first | apply zb | apply zc)
       · rfl
       · simp only [z5, z0, Nat.reduceLT, decide_true, cond_true, ins]
         rfl)
    | (apply za
       · simp only [go_sem, Nat.reduceEqDiff])
    | (apply z7
       · simp only [go_sem, Nat.reduceEqDiff])
    | (apply zg
       · kernel_rfl
       · kernel_rfl)
    | (simp only [bW, if_true, Nat.reduceEqDiff, if_false])
  all_goals simp only [go_sem, Nat.reduceEqDiff, bP, Nat.reduceAdd, Nat.reduceLeDiff, List.length_map, Tryd.f22]
  all_goals first | rfl | (simp_all []; done) | (simp_all []; intros; omega)

noncomputable def lp110_3 : Code := zz [1, 1, 0, 1, 0, 0] (zo Tryd.f110)
theorem lk110_3 : cfg.keep 110 (zr lp110_3) = [1, 2, 4, 5, 6] := by kernel_rfl
noncomputable def lp110_6 : Code := zz [1, 1, 0, 1, 0, 0, 1, 0, 0, 1, 0, 0] (zo Tryd.f110)
theorem lk110_6 : cfg.keep 110 (zr lp110_6) = [1, 2, 4, 5, 6, 7] := by kernel_rfl

theorem he_times {m : Int} (_ : m ≤ 16000000000000) {c : NetF} (hc : nB m c) {q : Ratio} {b j : Nat} (e5 : 1 ≤ q.n ∧ q.n ≤ 2000 ∧ 1 ≤ q.d ∧ q.d ≤ 2000) (h : (c b j).n ≠ 0) : 1 ≤ (timesR q (c b j)).n ∧ (timesR q (c b j)).n ≤ 2000 * m ∧ 1 ≤ (timesR q (c b j)).d ∧ (timesR q (c b j)).d ≤ 2000 * m := timesB e5 ((hc b j).resolve_left h)
theorem L110_6 {F : Exit → St → Option D} (es : List Edge) (c : NetF) (m : Int) (i : Nat) (e : Edge) (k : List Kt) (x : D) (hm1 : 1 ≤ m) (hm : m ≤ 16000000000000) (hc : nB m c) (he : eB e) (hi : es[i]? = some e) : ∀ (n j : Nat) (out : NetF), j + n = 5 → nB (2000 * m) out →
    (zB cfg (lim cfg) 110 F k (.exit 2) ⟨81, [(17, B false), (16, I (5 : Nat)), (1, .sl false (es.map encY) 7 none), (2, .lref 0 0 50 0), (4, .lref 1 0 50 0), (5, .lref 2 0 50 0), (6, I (i : Nat)), (7, I (5 : Nat))], [(0, ⟨[.agg (cN c)], 50, false⟩), (1, ⟨[.agg zN], 50, false⟩), (2, ⟨[.agg (cN (innerF c e n j out))], 50, false⟩)], 3, 0⟩ = some x) →
    EvL cfg (lim cfg) 110 F lp110_6 k ⟨81, [(1, .sl false (es.map encY) 7 none), (2, .lref 0 0 50 0), (4, .lref 1 0 50 0), (5, .lref 2 0 50 0), (6, I (i : Nat)), (7, I (j : Nat))], [(0, ⟨[.agg (cN c)], 50, false⟩), (1, ⟨[.agg zN], 50, false⟩), (2, ⟨[.agg (cN (out))], 50, false⟩)], 3, 0⟩ = some x := by
  obtain ⟨e1, e2, e3, e4, e5⟩ := he
  obtain ⟨a, ha⟩ := Int.eq_ofNat_of_zero_le e1
  obtain ⟨b, hb⟩ := Int.eq_ofNat_of_zero_le e3
  have hat : e.src.toNat = a := by omega
  have hbt : e.dst.toNat = b := by omega
  have hx : (es.map encY)[i]? = some (.agg [B e.why.join, I e.why.at_, B e.why.back, I (a : Nat), I (b : Nat), I e.q.n, I e.q.d]) := by rw [List.getElem?_map, hi]; show some (encY e) = _; unfold encY; rw [ha, hb]
  have ha5' : a < 5 := by omega
  have hb5' : b < 5 := by omega
  have ha5 : (a < 5) = True := by simp; omega
  have hb5 : (b < 5) = True := by simp; omega
  intro n
  induction n with
  | zero =>
    intro j out hj hob h
    obtain rfl : j = 5 := by omega
    simp only [innerF] at h
    refine zj ?_
    try dsimp only [lp110_6, zz, zo, Tryd.f110]
    simp only [bW, if_true, Nat.reduceEqDiff, if_false]
    repeat' first
      | (intro hb; first | cases hb | skip)
      | ((first | apply z8 | apply ze)
         · rfl
         · simp (disch := assumption) only [go_sem, Nat.reduceEqDiff, Nat.reduceAdd, bP, zf, Nat.reduceLeDiff, Nat.reduceLT, Nat.reduceMul, List.length_append, decide_eq_true_eq, z9, z6, Int.reduceToNat, Int.reduceLE, Int.reduceLT, Int.reduceBNe, Int.reduceBEq, show (decide (((5 : Nat) : Int) < 5)) = false from rfl]
           rfl
         · simp only [go_sem, Nat.reduceLT, Nat.reduceEqDiff]
           rfl
         · rfl
         first
         | (apply zd
            · simp only [z5, z0, Nat.reduceLT, decide_true, cond_true, ins]
              rfl
            · simp only [z5, z0, Nat.reduceLT, decide_true, cond_true, ins]
              rfl)
         | (apply zh
            · simp only [z5, z0, Nat.reduceLT, decide_true, cond_true, ins]
              rfl))
      | ((first | apply zb | apply zc)
         · rfl
         · simp only [z5, z0, Nat.reduceLT, decide_true, cond_true, ins]
           rfl)
      | (apply za
         · simp only [go_sem, Nat.reduceEqDiff])
      | (apply z7
         · simp only [go_sem, Nat.reduceEqDiff])
      | (apply zg
         · kernel_rfl
         · kernel_rfl)
      | (simp only [bW, if_true, Nat.reduceEqDiff, if_false])
    exact h
  | succ n ih =>
    intro j out hj hob h
    have hj5n : j < 5 := by omega
    have hj5 : ((j : Int) < 5) = True := by simp; omega
    have hj5' : (j < 5) = True := by simp; omega
    have hwj : IntKind.i64.wrap ((j : Int) + 1) = ((j + 1 : Nat) : Int) := by rw [wrap_i64 (by omega) (by omega)]; omega
    obtain ⟨hN, hN2, hD⟩ := cN_get (c := c) hb5' hj5n
    obtain ⟨hO, hO2, hOD⟩ := cN_get (c := out) ha5' hj5n
    have hb50 : (b * 10 + j * 2 + 2 ≤ 50) = True := by simp; omega
    have ha50 : (a * 10 + j * 2 + 2 ≤ 50) = True := by simp; omega
    have hput := cN_put (c := out) (r := timesR e.q (c b j)) ha5' hj5n
    have ht := he_times hm hc (b := b) (j := j) e5
    simp only [innerF] at h
    have hob' := stepB (e := e) (j := j) hc ⟨e1, e2, e3, e4, e5⟩ hob
    by_cases hz : (c b j).n = 0
    · have hz1 : ((c b j).n == 0) = true := by simp [hz]
      have hs : stepF c e out j = out := by unfold stepF; rw [hbt, if_pos hz]
      rw [hs] at h
      refine zj ?_
      try dsimp only [lp110_6, zz, zo, Tryd.f110]
      simp only [bW, if_true, Nat.reduceEqDiff, if_false]
      repeat' first
        | (intro hb; first | cases hb | skip)
        | ((first | apply z8 | apply ze)
           · rfl
           · simp (disch := assumption) only [go_sem, Nat.reduceEqDiff, Nat.reduceAdd, bP, zf, Nat.reduceLeDiff, Nat.reduceLT, Nat.reduceMul, List.length_append, decide_eq_true_eq, z9, z6, Int.reduceToNat, Int.reduceLE, Int.reduceLT, Int.reduceBNe, Int.reduceBEq, hx, hj5, hj5', ha5, hb5, hN, hD, hO, hwj, hb50, ha50, cN_len, cN_one, cN_take, zN_len, zN_one, zN_drop, hz1]
             rfl
           · simp only [go_sem, Nat.reduceLT, Nat.reduceEqDiff]
             rfl
           · rfl
           first
           | (apply zd
              · simp only [z5, z0, Nat.reduceLT, decide_true, cond_true, ins]
                rfl
              · simp only [z5, z0, Nat.reduceLT, decide_true, cond_true, ins]
                rfl)
           | (apply zh
              · simp only [z5, z0, Nat.reduceLT, decide_true, cond_true, ins]
                rfl))
        | ((first | apply zb | apply zc)
           · rfl
           · simp only [z5, z0, Nat.reduceLT, decide_true, cond_true, ins]
             rfl)
        | (apply za
           · simp only [go_sem, Nat.reduceEqDiff])
        | (apply z7
           · simp only [go_sem, Nat.reduceEqDiff])
        | (apply zg
           · kernel_rfl
           · kernel_rfl)
        | (simp only [bW, if_true, Nat.reduceEqDiff, if_false])
      refine zx (st1 := ⟨81, [(1, .sl false (es.map encY) 7 none), (2, .lref 0 0 50 0), (4, .lref 1 0 50 0), (5, .lref 2 0 50 0), (6, I (i : Nat)), (7, I (j + 1 : Nat))], [(0, ⟨[.agg (cN c)], 50, false⟩), (1, ⟨[.agg zN], 50, false⟩), (2, ⟨[.agg (cN (out))], 50, false⟩)], 3, 0⟩) lk110_6 (by
        simp only [go_sem, List.map_append, Nat.reduceEqDiff, Nat.reduceLT, Nat.reduceAdd, bI, bD, bI2, cN_ids, cN_ren, zN_ids, zN_ren]
        try rfl) (ih (j + 1) _ (by omega) hob h)
    · have hz1 : ((c b j).n == 0) = false := by simp [hz]
      obtain ⟨q1, q2, q3, q4⟩ := ht hz
      have h22 := t22b m e.q (c b j) hm e5 ((hc b j).resolve_left hz)
      by_cases hy : (out a j).n = 0
      · have hy1 : ((out a j).n == 0) = true := by simp [hy]
        have hs : stepF c e out j = putF out a j (timesR e.q (c b j)) := by unfold stepF; rw [hbt, hat, if_neg hz, if_pos (.inl hy)]
        rw [hs] at h hob'
        refine zj ?_
        try dsimp only [lp110_6, zz, zo, Tryd.f110]
        simp only [bW, if_true, Nat.reduceEqDiff, if_false]
        repeat' first
          | (intro hb; first | cases hb | skip)
          | ((first | apply z8 | apply ze)
             · rfl
             · simp (disch := assumption) only [go_sem, Nat.reduceEqDiff, Nat.reduceAdd, bP, zf, Nat.reduceLeDiff, Nat.reduceLT, Nat.reduceMul, List.length_append, decide_eq_true_eq, z9, z6, Int.reduceToNat, Int.reduceLE, Int.reduceLT, Int.reduceBNe, Int.reduceBEq, hx, hj5, hj5', ha5, hb5, hN, hD, hO, hOD, hwj, hb50, ha50, hput, cN_len, cN_one, cN_take, zN_len, zN_one, zN_drop, hz1, hy1, h22]
               rfl
             · simp only [go_sem, Nat.reduceLT, Nat.reduceEqDiff]
               rfl
             · rfl
             first
             | (apply zd
                · simp only [z5, z0, Nat.reduceLT, decide_true, cond_true, ins]
                  rfl
                · simp only [z5, z0, Nat.reduceLT, decide_true, cond_true, ins]
                  rfl)
             | (apply zh
                · simp only [z5, z0, Nat.reduceLT, decide_true, cond_true, ins]
                  rfl))
          | ((first | apply zb | apply zc)
             · rfl
             · simp only [z5, z0, Nat.reduceLT, decide_true, cond_true, ins]
               rfl)
          | (apply za
             · simp only [go_sem, Nat.reduceEqDiff])
          | (apply z7
             · simp only [go_sem, Nat.reduceEqDiff])
          | (apply zg
             · kernel_rfl
             · kernel_rfl)
          | (simp only [bW, if_true, Nat.reduceEqDiff, if_false])
        refine zx (st1 := ⟨81, [(1, .sl false (es.map encY) 7 none), (2, .lref 0 0 50 0), (4, .lref 1 0 50 0), (5, .lref 2 0 50 0), (6, I (i : Nat)), (7, I (j + 1 : Nat))], [(0, ⟨[.agg (cN c)], 50, false⟩), (1, ⟨[.agg zN], 50, false⟩), (2, ⟨[.agg (cN (putF out a j (timesR e.q (c b j))))], 50, false⟩)], 3, 0⟩) lk110_6 (by
          simp only [go_sem, List.map_append, Nat.reduceEqDiff, Nat.reduceLT, Nat.reduceAdd, bI, bD, bI2, cN_ids, cN_ren, zN_ids, zN_ren]
          try rfl) (ih (j + 1) _ (by omega) hob' h)
      · have hy1 : ((out a j).n == 0) = false := by simp [hy]
        obtain ⟨y1, y2, y3, y4⟩ := (hob a j).resolve_left hy
        have h23 := t23i (timesR e.q (c b j)).n (timesR e.q (c b j)).d (out a j).n (out a j).d (by omega) (by omega) q3 (by omega) (by omega) (by omega) y3 (by omega)
        by_cases hl : cmpR (timesR e.q (c b j)) (out a j) < 0
        · have hl1 : decide (cmpI ((timesR e.q (c b j)).n * (out a j).d) ((out a j).n * (timesR e.q (c b j)).d) < 0) = true := decide_eq_true hl
          have hs : stepF c e out j = putF out a j (timesR e.q (c b j)) := by unfold stepF; rw [hbt, hat, if_neg hz, if_pos (.inr hl)]
          rw [hs] at h hob'
          refine zj ?_
          try dsimp only [lp110_6, zz, zo, Tryd.f110]
          simp only [bW, if_true, Nat.reduceEqDiff, if_false]
          repeat' first
            | (intro hb; first | cases hb | skip)
            | ((first | apply z8 | apply ze)
               · rfl
               · simp (disch := assumption) only [go_sem, Nat.reduceEqDiff, Nat.reduceAdd, bP, zf, Nat.reduceLeDiff, Nat.reduceLT, Nat.reduceMul, List.length_append, decide_eq_true_eq, z9, z6, Int.reduceToNat, Int.reduceLE, Int.reduceLT, Int.reduceBNe, Int.reduceBEq, hx, hj5, hj5', ha5, hb5, hN, hD, hO, hOD, hwj, hb50, ha50, hput, cN_len, cN_one, cN_take, zN_len, zN_one, zN_drop, hz1, hy1, h22, h23, hl1]
                 rfl
               · simp only [go_sem, Nat.reduceLT, Nat.reduceEqDiff]
                 rfl
               · rfl
               first
               | (apply zd
                  · simp only [z5, z0, Nat.reduceLT, decide_true, cond_true, ins]
                    rfl
                  · simp only [z5, z0, Nat.reduceLT, decide_true, cond_true, ins]
                    rfl)
               | (apply zh
                  · simp only [z5, z0, Nat.reduceLT, decide_true, cond_true, ins]
                    rfl))
            | ((first | apply zb | apply zc)
               · rfl
               · simp only [z5, z0, Nat.reduceLT, decide_true, cond_true, ins]
                 rfl)
            | (apply za
               · simp only [go_sem, Nat.reduceEqDiff])
            | (apply z7
               · simp only [go_sem, Nat.reduceEqDiff])
            | (apply zg
               · kernel_rfl
               · kernel_rfl)
            | (simp only [bW, if_true, Nat.reduceEqDiff, if_false])
          refine zx (st1 := ⟨81, [(1, .sl false (es.map encY) 7 none), (2, .lref 0 0 50 0), (4, .lref 1 0 50 0), (5, .lref 2 0 50 0), (6, I (i : Nat)), (7, I (j + 1 : Nat))], [(0, ⟨[.agg (cN c)], 50, false⟩), (1, ⟨[.agg zN], 50, false⟩), (2, ⟨[.agg (cN (putF out a j (timesR e.q (c b j))))], 50, false⟩)], 3, 0⟩) lk110_6 (by
            simp only [go_sem, List.map_append, Nat.reduceEqDiff, Nat.reduceLT, Nat.reduceAdd, bI, bD, bI2, cN_ids, cN_ren, zN_ids, zN_ren]
            try rfl) (ih (j + 1) _ (by omega) hob' h)
        · have hl1 : decide (cmpI ((timesR e.q (c b j)).n * (out a j).d) ((out a j).n * (timesR e.q (c b j)).d) < 0) = false := decide_eq_false hl
          have hs : stepF c e out j = out := by unfold stepF; rw [hbt, hat, if_neg hz, if_neg (fun h => h.elim hy hl)]
          rw [hs] at h
          refine zj ?_
          try dsimp only [lp110_6, zz, zo, Tryd.f110]
          simp only [bW, if_true, Nat.reduceEqDiff, if_false]
          repeat' first
            | (intro hb; first | cases hb | skip)
            | ((first | apply z8 | apply ze)
               · rfl
               · simp (disch := assumption) only [go_sem, Nat.reduceEqDiff, Nat.reduceAdd, bP, zf, Nat.reduceLeDiff, Nat.reduceLT, Nat.reduceMul, List.length_append, decide_eq_true_eq, z9, z6, Int.reduceToNat, Int.reduceLE, Int.reduceLT, Int.reduceBNe, Int.reduceBEq, hx, hj5, hj5', ha5, hb5, hN, hD, hO, hOD, hwj, hb50, ha50, cN_len, cN_one, cN_take, zN_len, zN_one, zN_drop, hz1, hy1, h22, h23, hl1]
                 rfl
               · simp only [go_sem, Nat.reduceLT, Nat.reduceEqDiff]
                 rfl
               · rfl
               first
               | (apply zd
                  · simp only [z5, z0, Nat.reduceLT, decide_true, cond_true, ins]
                    rfl
                  · simp only [z5, z0, Nat.reduceLT, decide_true, cond_true, ins]
                    rfl)
               | (apply zh
                  · simp only [z5, z0, Nat.reduceLT, decide_true, cond_true, ins]
                    rfl))
            | ((first | apply zb | apply zc)
               · rfl
               · simp only [z5, z0, Nat.reduceLT, decide_true, cond_true, ins]
                 rfl)
            | (apply za
               · simp only [go_sem, Nat.reduceEqDiff])
            | (apply z7
               · simp only [go_sem, Nat.reduceEqDiff])
            | (apply zg
               · kernel_rfl
               · kernel_rfl)
            | (simp only [bW, if_true, Nat.reduceEqDiff, if_false])
          refine zx (st1 := ⟨81, [(1, .sl false (es.map encY) 7 none), (2, .lref 0 0 50 0), (4, .lref 1 0 50 0), (5, .lref 2 0 50 0), (6, I (i : Nat)), (7, I (j + 1 : Nat))], [(0, ⟨[.agg (cN c)], 50, false⟩), (1, ⟨[.agg zN], 50, false⟩), (2, ⟨[.agg (cN (out))], 50, false⟩)], 3, 0⟩) lk110_6 (by
            simp only [go_sem, List.map_append, Nat.reduceEqDiff, Nat.reduceLT, Nat.reduceAdd, bI, bD, bI2, cN_ids, cN_ren, zN_ids, zN_ren]
            try rfl) (ih (j + 1) _ (by omega) hob h)

theorem L110_3 {F : Exit → St → Option D} (es : List Edge) (c : NetF) (m : Int) (k : List Kt) (x : D) (hm1 : 1 ≤ m) (hm : m ≤ 16000000000000) (hc : nB m c) (hes : ∀ e ∈ es, eB e) (hlen : es.length ≤ 1000) : ∀ (rest : List Edge) (i : Nat) (out : NetF), es.drop i = rest → i ≤ es.length → nB (2000 * m) out →
    (zB cfg (lim cfg) 110 F k (.exit 0) ⟨81, [(13, B false), (12, I es.length), (11, .sl false (es.map encY) 7 none), (10, I (es.length : Nat)), (1, .sl false (es.map encY) 7 none), (2, .lref 0 0 50 0), (4, .lref 1 0 50 0), (5, .lref 2 0 50 0), (6, I (es.length : Nat))], [(0, ⟨[.agg (cN c)], 50, false⟩), (1, ⟨[.agg zN], 50, false⟩), (2, ⟨[.agg (cN (foldF c rest out))], 50, false⟩)], 3, 0⟩ = some x) →
    EvL cfg (lim cfg) 110 F lp110_3 k ⟨81, [(1, .sl false (es.map encY) 7 none), (2, .lref 0 0 50 0), (4, .lref 1 0 50 0), (5, .lref 2 0 50 0), (6, I (i : Nat))], [(0, ⟨[.agg (cN c)], 50, false⟩), (1, ⟨[.agg zN], 50, false⟩), (2, ⟨[.agg (cN (out))], 50, false⟩)], 3, 0⟩ = some x := by
  intro rest
  induction rest with
  | nil =>
    intro i out hd hi hob h
    have hi' : i = es.length := by
      have := List.drop_eq_nil_iff.1 hd
      omega
    subst hi'
    simp only [foldF] at h
    refine zj ?_
    try dsimp only [lp110_3, zz, zo, Tryd.f110]
    simp only [bW, if_true, Nat.reduceEqDiff, if_false]
    repeat' first
      | (intro hb; first | cases hb | skip)
      | ((first | apply z8 | apply ze)
         · rfl
         · simp (disch := assumption) only [go_sem, Nat.reduceEqDiff, Nat.reduceAdd, bP, zf, Nat.reduceLeDiff, Nat.reduceLT, Nat.reduceMul, List.length_append, decide_eq_true_eq, z9, z6, Int.reduceToNat, Int.reduceLE, Int.reduceLT, Int.reduceBNe, Int.reduceBEq, Int.lt_irrefl, List.length_map]
           rfl
         · simp only [go_sem, Nat.reduceLT, Nat.reduceEqDiff]
           rfl
         · rfl
         first
         | (apply zd
            · simp only [z5, z0, Nat.reduceLT, decide_true, cond_true, ins]
              rfl
            · simp only [z5, z0, Nat.reduceLT, decide_true, cond_true, ins]
              rfl)
         | (apply zh
            · simp only [z5, z0, Nat.reduceLT, decide_true, cond_true, ins]
              rfl))
      | ((first | apply zb | apply zc)
         · rfl
         · simp only [z5, z0, Nat.reduceLT, decide_true, cond_true, ins]
           rfl)
      | (apply za
         · simp only [go_sem, Nat.reduceEqDiff])
      | (apply z7
         · simp only [go_sem, Nat.reduceEqDiff])
      | (apply zg
         · kernel_rfl
         · kernel_rfl)
      | (simp only [bW, if_true, Nat.reduceEqDiff, if_false])
    exact h
  | cons e rest ih =>
    intro i out hd hi hob h
    have hlt : i < es.length := by
      rcases Nat.lt_or_ge i es.length with h | h
      · exact h
      · rw [List.drop_eq_nil_of_le h] at hd; cases hd
    have hm' : es[i]? = some e := by rw [← List.head?_drop, hd]; rfl
    have hlt' : (i : Int) < (es.length : Int) := by omega
    have hw3 : IntKind.i64.wrap ((i : Int) + 1) = ((i + 1 : Nat) : Int) := by rw [wrap_i64 (by omega) (by omega)]; omega
    have heb := hes e (List.mem_of_getElem? hm')
    simp only [foldF] at h
    refine zj ?_
    try dsimp only [lp110_3, zz, zo, Tryd.f110]
    simp only [bW, if_true, Nat.reduceEqDiff, if_false]
    repeat' first
      | (intro hb; first | cases hb | skip)
      | ((first | apply z8 | apply ze)
         · rfl
         · simp (disch := assumption) only [go_sem, Nat.reduceEqDiff, Nat.reduceAdd, bP, zf, Nat.reduceLeDiff, Nat.reduceLT, Nat.reduceMul, List.length_append, decide_eq_true_eq, z9, z6, Int.reduceToNat, Int.reduceLE, Int.reduceLT, Int.reduceBNe, Int.reduceBEq, List.length_map, hlt']
           rfl
         · simp only [go_sem, Nat.reduceLT, Nat.reduceEqDiff]
           rfl
         · rfl
         first
         | (apply zd
            · simp only [z5, z0, Nat.reduceLT, decide_true, cond_true, ins]
              rfl
            · simp only [z5, z0, Nat.reduceLT, decide_true, cond_true, ins]
              rfl)
         | (apply zh
            · simp only [z5, z0, Nat.reduceLT, decide_true, cond_true, ins]
              rfl))
      | ((first | apply zb | apply zc)
         · rfl
         · simp only [z5, z0, Nat.reduceLT, decide_true, cond_true, ins]
           rfl)
      | (apply za
         · simp only [go_sem, Nat.reduceEqDiff])
      | (apply z7
         · simp only [go_sem, Nat.reduceEqDiff])
      | (apply zg
         · kernel_rfl
         · kernel_rfl)
      | (simp only [bW, if_true, Nat.reduceEqDiff, if_false])
    refine w_loop (st1 := ⟨81, [(1, .sl false (es.map encY) 7 none), (2, .lref 0 0 50 0), (4, .lref 1 0 50 0), (5, .lref 2 0 50 0), (6, I (i : Nat)), (7, I (0 : Nat))], [(0, ⟨[.agg (cN c)], 50, false⟩), (1, ⟨[.agg zN], 50, false⟩), (2, ⟨[.agg (cN (out))], 50, false⟩)], 3, 0⟩) lk110_6 (by
      simp only [go_sem, List.map_append, Nat.reduceEqDiff, Nat.reduceLT, Nat.reduceAdd, bI, bD, bI2, cN_ids, cN_ren, zN_ids, zN_ren]
      try rfl) (L110_6 es c m i e _ _ hm1 hm hc heb hm' 5 0 out rfl hob ?_)
    have hob' := innerB hc heb 5 0 hob
    simp only [bW, if_true, Nat.reduceEqDiff, if_false]
    repeat' first
      | (intro hb; first | cases hb | skip)
      | ((first | apply z8 | apply ze)
         · rfl
         · simp (disch := assumption) only [go_sem, Nat.reduceEqDiff, Nat.reduceAdd, bP, zf, Nat.reduceLeDiff, Nat.reduceLT, Nat.reduceMul, List.length_append, decide_eq_true_eq, z9, z6, Int.reduceToNat, Int.reduceLE, Int.reduceLT, Int.reduceBNe, Int.reduceBEq, hw3]
           rfl
         · simp only [go_sem, Nat.reduceLT, Nat.reduceEqDiff]
           rfl
         · rfl
         first
         | (apply zd
            · simp only [z5, z0, Nat.reduceLT, decide_true, cond_true, ins]
              rfl
            · simp only [z5, z0, Nat.reduceLT, decide_true, cond_true, ins]
              rfl)
         | (apply zh
            · simp only [z5, z0, Nat.reduceLT, decide_true, cond_true, ins]
              rfl))
      | ((first | apply zb | apply zc)
         · rfl
         · simp only [z5, z0, Nat.reduceLT, decide_true, cond_true, ins]
           rfl)
      | (apply za
         · simp only [go_sem, Nat.reduceEqDiff])
      | (apply z7
         · simp only [go_sem, Nat.reduceEqDiff])
      | (apply zg
         · kernel_rfl
         · kernel_rfl)
      | (simp only [bW, if_true, Nat.reduceEqDiff, if_false])
    refine zx (st1 := ⟨81, [(1, .sl false (es.map encY) 7 none), (2, .lref 0 0 50 0), (4, .lref 1 0 50 0), (5, .lref 2 0 50 0), (6, I (i + 1 : Nat))], [(0, ⟨[.agg (cN c)], 50, false⟩), (1, ⟨[.agg zN], 50, false⟩), (2, ⟨[.agg (cN (innerF c e 5 0 out))], 50, false⟩)], 3, 0⟩) lk110_3 (by
      simp only [go_sem, List.map_append, Nat.reduceEqDiff, Nat.reduceLT, Nat.reduceAdd, bI, bD, bI2, cN_ids, cN_ren, zN_ids, zN_ren]
      try rfl) (ih (i + 1) _ (by rw [← List.drop_drop, hd]; rfl) hlt hob' h)

theorem t110 (es : List Edge) (c : NetF) (m : Int) (hm1 : 1 ≤ m) (hm : m ≤ 16000000000000) (hc : nB m c) (hes : ∀ e ∈ es, eB e) (hlen : es.length ≤ 1000) : (lim cfg).pure 110 [.agg (cN c), .sl false (es.map encY) 7 none] = some (.agg (cN (foldF c es c))) := by
  refine zq (zk 110) cfn110 rfl (n := 81) rfl ?_
  generalize hF : finP cfg Tryd.f110 = F
  simp only [bW, if_true, Nat.reduceEqDiff, if_false, zm]
  repeat' first
    | (intro hb; first | cases hb | skip)
    | ((first | apply z8 | apply ze)
       · rfl
       · simp (disch := assumption) only [go_sem, Nat.reduceEqDiff, Nat.reduceAdd, bP, zf, Nat.reduceLeDiff, Nat.reduceLT, Nat.reduceMul, List.length_append, decide_eq_true_eq, z9, z6, Int.reduceToNat, Int.reduceLE, Int.reduceLT, Int.reduceBNe, Int.reduceBEq, cN_len, cN_one, cN_take, zN_len, zN_one, zN_drop]
         rfl
       · simp only [go_sem, Nat.reduceLT, Nat.reduceEqDiff]
         rfl
       · rfl
       first
       | (apply zd
          · simp only [z5, z0, Nat.reduceLT, decide_true, cond_true, ins]
            rfl
          · simp only [z5, z0, Nat.reduceLT, decide_true, cond_true, ins]
            rfl)
       | (apply zh
          · simp only [z5, z0, Nat.reduceLT, decide_true, cond_true, ins]
            rfl))
    | ((first | apply zb | apply zc)
       · rfl
       · simp only [z5, z0, Nat.reduceLT, decide_true, cond_true, ins]
         rfl)
    | (apply za
       · simp only [go_sem, Nat.reduceEqDiff])
    | (apply z7
       · simp only [go_sem, Nat.reduceEqDiff])
    | (apply zg
       · kernel_rfl
       · kernel_rfl)
    | (simp only [bW, if_true, Nat.reduceEqDiff, if_false])
  refine w_loop (st1 := ⟨81, [(1, .sl false (es.map encY) 7 none), (2, .lref 0 0 50 0), (4, .lref 1 0 50 0), (5, .lref 2 0 50 0), (6, I (0 : Nat))], [(0, ⟨[.agg (cN c)], 50, false⟩), (1, ⟨[.agg zN], 50, false⟩), (2, ⟨[.agg (cN (c))], 50, false⟩)], 3, 0⟩) lk110_3 (by
    simp only [go_sem, List.map_append, Nat.reduceEqDiff, Nat.reduceLT, Nat.reduceAdd, bI, bD, bI2, cN_ids, cN_ren, zN_ids, zN_ren]
    try rfl) (L110_3 es c m _ _ hm1 hm hc hes hlen es 0 c rfl (Nat.zero_le _) (fun i j => entB_mono (hc i j) (by omega)) ?_)
  simp only [bW, if_true, Nat.reduceEqDiff, if_false]
  repeat' first
    | (intro hb; first | cases hb | skip)
    | ((first | apply z8 | apply ze)
       · rfl
       · simp (disch := assumption) only [go_sem, Nat.reduceEqDiff, Nat.reduceAdd, bP, zf, Nat.reduceLeDiff, Nat.reduceLT, Nat.reduceMul, List.length_append, decide_eq_true_eq, z9, z6, Int.reduceToNat, Int.reduceLE, Int.reduceLT, Int.reduceBNe, Int.reduceBEq, cN_len, cN_one, cN_take, zN_len, zN_one, zN_drop]
         rfl
       · simp only [go_sem, Nat.reduceLT, Nat.reduceEqDiff]
         rfl
       · rfl
       first
       | (apply zd
          · simp only [z5, z0, Nat.reduceLT, decide_true, cond_true, ins]
            rfl
          · simp only [z5, z0, Nat.reduceLT, decide_true, cond_true, ins]
            rfl)
       | (apply zh
          · simp only [z5, z0, Nat.reduceLT, decide_true, cond_true, ins]
            rfl))
    | ((first | apply zb | apply zc)
       · rfl
       · simp only [z5, z0, Nat.reduceLT, decide_true, cond_true, ins]
         rfl)
    | (apply za
       · simp only [go_sem, Nat.reduceEqDiff])
    | (apply z7
       · simp only [go_sem, Nat.reduceEqDiff])
    | (apply zg
       · kernel_rfl
       · kernel_rfl)
    | (simp only [bW, if_true, Nat.reduceEqDiff, if_false])
  subst hF
  simp only [go_sem, Nat.reduceEqDiff, bP, Nat.reduceAdd, Nat.reduceLeDiff, List.length_map, Tryd.f110, cN_len, cN_one, cN_take, zN_len, zN_one, zN_drop, cN_snap]

end Go.VS
namespace Go.VS
open Go Go.Proofs
set_option maxHeartbeats 0
set_option linter.unusedSimpArgs false

noncomputable def lp109_4 : Code := zz [1, 1, 1, 0, 1, 0, 0] (zo Tryd.f109)
theorem lk109_4 : cfg.keep 109 (zr lp109_4) = [1, 2, 5, 6, 7] := by kernel_rfl
noncomputable def lp109_11 : Code := zz [1, 1, 1, 1, 0, 1, 0, 0] (zo Tryd.f109)
theorem lk109_11 : cfg.keep 109 (zr lp109_11) = [1, 2, 5, 6, 9] := by kernel_rfl
noncomputable def lp109_18 : Code := zz [1, 1, 1, 1, 1, 0, 1, 0, 0] (zo Tryd.f109)
theorem lk109_18 : cfg.keep 109 (zr lp109_18) = [2, 5, 6, 11] := by kernel_rfl

theorem L109_4 {F : Exit → St → Option D} (p : Paper) (ax : Int) (k : List Kt) (x : D) (hwf : p.wf) (hok : zp p = true) : ∀ (rest : List Mark) (i : Nat) (es : List Edge), p.marks.drop i = rest → i ≤ p.marks.length → es.length + 2 * rest.length ≤ 1000 →
    (zB cfg (lim cfg) 109 F k (.exit 0) ⟨149, [(18, B false), (17, I p.marks.length), (16, .sl p.nm (p.marks.map encM) (zs p.nm 5) none), (15, .lref 0 0 3 1), (14, I (p.marks.length : Nat)), (1, I ax), (2, .lref 0 0 3 0), (5, I p.sheets), (6, gD 1 7 (es ++ (marksE ax rest i).map (refOf p.sheets))), (7, I (p.marks.length : Nat))], (0, ⟨[zu p], 3, false⟩) :: gO 1 7 encY (es ++ (marksE ax rest i).map (refOf p.sheets)), gN 1 (es ++ (marksE ax rest i).map (refOf p.sheets)), 0⟩ = some x) →
    EvL cfg (lim cfg) 109 F lp109_4 k ⟨149, [(1, I ax), (2, .lref 0 0 3 0), (5, I p.sheets), (6, gD 1 7 (es)), (7, I (i : Nat))], (0, ⟨[zu p], 3, false⟩) :: gO 1 7 encY (es), gN 1 (es), 0⟩ = some x := by
  have hlm := len_if (f := encM) hwf.1
  obtain ⟨o1, o2, -, -, o5, o6⟩ := zE hok
  intro rest
  induction rest with
  | nil =>
    intro i es hd hi he h
    have hi' : i = p.marks.length := by
      have := List.drop_eq_nil_iff.1 hd
      omega
    subst hi'
    simp only [marksE, List.map_nil, List.append_nil] at h
    refine zj ?_
    try dsimp only [lp109_4, zz, zo, Tryd.f109]
    simp only [bW, if_true, Nat.reduceEqDiff, if_false]
    repeat' first
      | (intro hb; first | cases hb | skip)
      | ((first | apply z8 | apply ze)
         · rfl
         · simp (disch := assumption) only [go_sem, Nat.reduceEqDiff, Nat.reduceAdd, bP, zf, Nat.reduceLeDiff, Nat.reduceLT, Nat.reduceMul, List.length_append, decide_eq_true_eq, z9, z6, Int.reduceToNat, Int.reduceLE, Int.reduceLT, Int.reduceBNe, Int.reduceBEq, hlm, Int.lt_irrefl]
           rfl
         · simp only [go_sem, Nat.reduceLT, Nat.reduceEqDiff]
           rfl
         · rfl
         first
         | (apply zd
            · simp only [z5, z0, Nat.reduceLT, decide_true, cond_true, ins]
              rfl
            · simp only [z5, z0, Nat.reduceLT, decide_true, cond_true, ins]
              rfl)
         | (apply zh
            · simp only [z5, z0, Nat.reduceLT, decide_true, cond_true, ins]
              rfl))
      | ((first | apply zb | apply zc)
         · rfl
         · simp only [z5, z0, Nat.reduceLT, decide_true, cond_true, ins]
           rfl)
      | (apply za
         · simp only [go_sem, Nat.reduceEqDiff])
      | (apply z7
         · simp only [go_sem, Nat.reduceEqDiff])
      | (apply zg
         · kernel_rfl
         · kernel_rfl)
      | (simp only [bW, if_true, Nat.reduceEqDiff, if_false])
    exact h
  | cons m rest ih =>
    intro i es hd hi he h
    have hlt : i < p.marks.length := by
      rcases Nat.lt_or_ge i p.marks.length with h | h
      · exact h
      · rw [List.drop_eq_nil_of_le h] at hd; cases hd
    have hm : p.marks[i]? = some m := by rw [← List.head?_drop, hd]; rfl
    have hx : (p.marks.map encM)[i]? = some (.agg [I m.sheet, I m.axis, I m.tru, I m.seen, I m.err]) := by rw [List.getElem?_map, hm]; rfl
    have hnm' : p.nm = false := by
      cases h : p.nm with
      | false => rfl
      | true => rw [hwf.1 h] at hlt; cases hlt
    have hlt' : (i : Int) < (p.marks.length : Int) := by omega
    have hlen := hwf.2.2.1
    have hw3 : IntKind.i64.wrap ((i : Int) + 1) = ((i + 1 : Nat) : Int) := by rw [wrap_i64 (by omega) (by omega)]; omega
    have hok' := o5 m (List.mem_of_getElem? hm)
    simp [markOK, zy, isAxis, isSeen] at hok'
    have hs2 : IntKind.i64.wrap (m.seen + m.err) = m.seen + m.err := wrap_i64 (by omega) (by omega)
    have hs3 : IntKind.i64.wrap (m.seen - m.err) = m.seen - m.err := wrap_i64 (by omega) (by omega)
    have e1 := t74 (m.seen + m.err) m.tru (by omega) (by omega) (by omega) (by omega)
    have e2 := t74 m.tru (m.seen - m.err) (by omega) (by omega) (by omega) (by omega)
    have hr1 : (1 + m.sheet = 0) = False := by simp; omega
    have hr2 : 1 + m.sheet - 1 = m.sheet := by omega
    have hlm' : ((p.marks.map encM).length : Int) = (p.marks.length : Int) := by simp
    cases es with
    | nil =>
      rw [List.nil_append] at h
      simp only [gD, gO, gN]
      by_cases hax : m.axis = ax
      · have hax1 : (m.axis == ax) = true := by simp [hax]
        refine zj ?_
        try dsimp only [lp109_4, zz, zo, Tryd.f109]
        simp only [bW, if_true, Nat.reduceEqDiff, if_false]
        repeat' first
          | (intro hb; first | cases hb | skip)
          | ((first | apply z8 | apply ze)
             · rfl
             · simp (disch := assumption) only [go_sem, Nat.reduceEqDiff, Nat.reduceAdd, bP, zf, Nat.reduceLeDiff, Nat.reduceLT, Nat.reduceMul, List.length_append, decide_eq_true_eq, z9, z6, Int.reduceToNat, Int.reduceLE, Int.reduceLT, Int.reduceBNe, Int.reduceBEq, hlm', List.length_map, hx, hnm', hlt', hw3, hax1, Nat.zero_lt_succ, hs2, hs3, e1, e2]
               rfl
             · simp only [go_sem, Nat.reduceLT, Nat.reduceEqDiff]
               rfl
             · rfl
             first
             | (apply zd
                · simp only [z5, z0, Nat.reduceLT, decide_true, cond_true, ins]
                  rfl
                · simp only [z5, z0, Nat.reduceLT, decide_true, cond_true, ins]
                  rfl)
             | (apply zh
                · simp only [z5, z0, Nat.reduceLT, decide_true, cond_true, ins]
                  rfl))
          | ((first | apply zb | apply zc)
             · rfl
             · simp only [z5, z0, Nat.reduceLT, decide_true, cond_true, ins]
               rfl)
          | (apply za
             · simp only [go_sem, Nat.reduceEqDiff])
          | (apply z7
             · simp only [go_sem, Nat.reduceEqDiff])
          | (apply zg
             · kernel_rfl
             · kernel_rfl)
          | (simp only [bW, if_true, Nat.reduceEqDiff, if_false])
        refine zx (st1 := ⟨149, [(1, I ax), (2, .lref 0 0 3 0), (5, I p.sheets), (6, gD 1 7 (([]) ++ (markE m i).map (refOf p.sheets))), (7, I (i + 1 : Nat))], (0, ⟨[zu p], 3, false⟩) :: gO 1 7 encY (([]) ++ (markE m i).map (refOf p.sheets)), gN 1 (([]) ++ (markE m i).map (refOf p.sheets)), 0⟩) lk109_4 (by
          simp only [go_sem, List.map_append, Nat.reduceEqDiff, Nat.reduceLT, Nat.reduceAdd, bI, bD, bI2, okY.renL, okY.idsL, okY.idsL_app, gD, gO, gN, zu, encY, markE, refOf, List.length_append, List.append_assoc, hr1, hr2]
          try rfl) (ih (i + 1) (([]) ++ (markE m i).map (refOf p.sheets)) (by rw [← List.drop_drop, hd]; rfl) hlt (by simp [markE] at he ⊢; omega) (by simp only [marksE, hax, if_true, if_false] at h; simpa using h))
      · have hax0 : (m.axis == ax) = false := by simp [hax]
        refine zj ?_
        try dsimp only [lp109_4, zz, zo, Tryd.f109]
        simp only [bW, if_true, Nat.reduceEqDiff, if_false]
        repeat' first
          | (intro hb; first | cases hb | skip)
          | ((first | apply z8 | apply ze)
             · rfl
             · simp (disch := assumption) only [go_sem, Nat.reduceEqDiff, Nat.reduceAdd, bP, zf, Nat.reduceLeDiff, Nat.reduceLT, Nat.reduceMul, List.length_append, decide_eq_true_eq, z9, z6, Int.reduceToNat, Int.reduceLE, Int.reduceLT, Int.reduceBNe, Int.reduceBEq, hlm', List.length_map, hx, hnm', hlt', hw3, hax0, Nat.zero_lt_succ, hs2, hs3, e1, e2]
               rfl
             · simp only [go_sem, Nat.reduceLT, Nat.reduceEqDiff]
               rfl
             · rfl
             first
             | (apply zd
                · simp only [z5, z0, Nat.reduceLT, decide_true, cond_true, ins]
                  rfl
                · simp only [z5, z0, Nat.reduceLT, decide_true, cond_true, ins]
                  rfl)
             | (apply zh
                · simp only [z5, z0, Nat.reduceLT, decide_true, cond_true, ins]
                  rfl))
          | ((first | apply zb | apply zc)
             · rfl
             · simp only [z5, z0, Nat.reduceLT, decide_true, cond_true, ins]
               rfl)
          | (apply za
             · simp only [go_sem, Nat.reduceEqDiff])
          | (apply z7
             · simp only [go_sem, Nat.reduceEqDiff])
          | (apply zg
             · kernel_rfl
             · kernel_rfl)
          | (simp only [bW, if_true, Nat.reduceEqDiff, if_false])
        refine zx (st1 := ⟨149, [(1, I ax), (2, .lref 0 0 3 0), (5, I p.sheets), (6, gD 1 7 ([])), (7, I (i + 1 : Nat))], (0, ⟨[zu p], 3, false⟩) :: gO 1 7 encY ([]), gN 1 ([]), 0⟩) lk109_4 (by
          simp only [go_sem, List.map_append, Nat.reduceEqDiff, Nat.reduceLT, Nat.reduceAdd, bI, bD, bI2, okY.renL, okY.idsL, okY.idsL_app, gD, gO, gN, zu, encY, markE, refOf, List.length_append, List.append_assoc, hr1, hr2]
          try rfl) (ih (i + 1) ([]) (by rw [← List.drop_drop, hd]; rfl) hlt (by simp [markE] at he ⊢; omega) (by simp only [marksE, hax, if_true, if_false] at h; exact h))
    | cons e r =>
      simp only [List.length_cons] at he
      have hle : (r.length + 1 + 1 ≤ r.length + 1) = False := by simp
      have hb1 : ((r.length + 1 + 1) * 56 ≤ big) = True := by simp [big]; omega
      have hb2 : (r.length + 1 + 1 ≤ big) = True := by simp [big]; omega
      have hle2 : (r.length + 1 + 1 + 1 ≤ r.length + 1 + 1) = False := by simp
      have hb12 : ((r.length + 1 + 1 + 1) * 56 ≤ big) = True := by simp [big]; omega
      have hb22 : (r.length + 1 + 1 + 1 ≤ big) = True := by simp [big]; omega
      have hao : allOk 7 (encY e :: List.map encY r) = true := okY.allOk (e :: r)
      have hao2 : ∀ d, allOk 7 (encY e :: (List.map encY r ++ [d])) = (d.okCells && (decide (d.cells.length = 7) && true)) := by
        intro d
        rw [← List.cons_append, ← List.map_cons, allOk_append, okY.allOk (e :: r)]
        simp [allOk]
      simp only [gD, gO, gN, List.map_cons]
      by_cases hax : m.axis = ax
      · have hax1 : (m.axis == ax) = true := by simp [hax]
        refine zj ?_
        try dsimp only [lp109_4, zz, zo, Tryd.f109]
        simp only [bW, if_true, Nat.reduceEqDiff, if_false]
        repeat' first
          | (intro hb; first | cases hb | skip)
          | ((first | apply z8 | apply ze)
             · rfl
             · simp (disch := assumption) only [go_sem, Nat.reduceEqDiff, Nat.reduceAdd, bP, zf, Nat.reduceLeDiff, Nat.reduceLT, Nat.reduceMul, List.length_append, decide_eq_true_eq, z9, z6, Int.reduceToNat, Int.reduceLE, Int.reduceLT, Int.reduceBNe, Int.reduceBEq, hlm', List.length_map, hx, hnm', hlt', hw3, hax1, Nat.zero_lt_succ, hs2, hs3, e1, e2, hle, hb1, hb2, hao, hle2, hb12, hb22, hao2, okY.allOk]
               rfl
             · simp only [go_sem, Nat.reduceLT, Nat.reduceEqDiff]
               rfl
             · rfl
             first
             | (apply zd
                · simp only [z5, z0, Nat.reduceLT, decide_true, cond_true, ins]
                  rfl
                · simp only [z5, z0, Nat.reduceLT, decide_true, cond_true, ins]
                  rfl)
             | (apply zh
                · simp only [z5, z0, Nat.reduceLT, decide_true, cond_true, ins]
                  rfl))
          | ((first | apply zb | apply zc)
             · rfl
             · simp only [z5, z0, Nat.reduceLT, decide_true, cond_true, ins]
               rfl)
          | (apply za
             · simp only [go_sem, Nat.reduceEqDiff])
          | (apply z7
             · simp only [go_sem, Nat.reduceEqDiff])
          | (apply zg
             · kernel_rfl
             · kernel_rfl)
          | (simp only [bW, if_true, Nat.reduceEqDiff, if_false])
        refine zx (st1 := ⟨149, [(1, I ax), (2, .lref 0 0 3 0), (5, I p.sheets), (6, gD 1 7 ((e :: r) ++ (markE m i).map (refOf p.sheets))), (7, I (i + 1 : Nat))], (0, ⟨[zu p], 3, false⟩) :: gO 1 7 encY ((e :: r) ++ (markE m i).map (refOf p.sheets)), gN 1 ((e :: r) ++ (markE m i).map (refOf p.sheets)), 0⟩) lk109_4 (by
          simp only [go_sem, List.map_append, Nat.reduceEqDiff, Nat.reduceLT, Nat.reduceAdd, bI, bD, bI2, okY.renL, okY.idsL, okY.idsL_app, gD, gO, gN, zu, encY, markE, refOf, List.length_append, List.append_assoc, hr1, hr2]
          try rfl) (ih (i + 1) ((e :: r) ++ (markE m i).map (refOf p.sheets)) (by rw [← List.drop_drop, hd]; rfl) hlt (by simp [markE] at he ⊢; omega) (by simp only [marksE, hax, if_true, if_false] at h; simpa using h))
      · have hax0 : (m.axis == ax) = false := by simp [hax]
        refine zj ?_
        try dsimp only [lp109_4, zz, zo, Tryd.f109]
        simp only [bW, if_true, Nat.reduceEqDiff, if_false]
        repeat' first
          | (intro hb; first | cases hb | skip)
          | ((first | apply z8 | apply ze)
             · rfl
             · simp (disch := assumption) only [go_sem, Nat.reduceEqDiff, Nat.reduceAdd, bP, zf, Nat.reduceLeDiff, Nat.reduceLT, Nat.reduceMul, List.length_append, decide_eq_true_eq, z9, z6, Int.reduceToNat, Int.reduceLE, Int.reduceLT, Int.reduceBNe, Int.reduceBEq, hlm', List.length_map, hx, hnm', hlt', hw3, hax0, Nat.zero_lt_succ, hs2, hs3, e1, e2, hle, hb1, hb2, hao, hle2, hb12, hb22, hao2, okY.allOk]
               rfl
             · simp only [go_sem, Nat.reduceLT, Nat.reduceEqDiff]
               rfl
             · rfl
             first
             | (apply zd
                · simp only [z5, z0, Nat.reduceLT, decide_true, cond_true, ins]
                  rfl
                · simp only [z5, z0, Nat.reduceLT, decide_true, cond_true, ins]
                  rfl)
             | (apply zh
                · simp only [z5, z0, Nat.reduceLT, decide_true, cond_true, ins]
                  rfl))
          | ((first | apply zb | apply zc)
             · rfl
             · simp only [z5, z0, Nat.reduceLT, decide_true, cond_true, ins]
               rfl)
          | (apply za
             · simp only [go_sem, Nat.reduceEqDiff])
          | (apply z7
             · simp only [go_sem, Nat.reduceEqDiff])
          | (apply zg
             · kernel_rfl
             · kernel_rfl)
          | (simp only [bW, if_true, Nat.reduceEqDiff, if_false])
        refine zx (st1 := ⟨149, [(1, I ax), (2, .lref 0 0 3 0), (5, I p.sheets), (6, gD 1 7 (e :: r)), (7, I (i + 1 : Nat))], (0, ⟨[zu p], 3, false⟩) :: gO 1 7 encY (e :: r), gN 1 (e :: r), 0⟩) lk109_4 (by
          simp only [go_sem, List.map_append, Nat.reduceEqDiff, Nat.reduceLT, Nat.reduceAdd, bI, bD, bI2, okY.renL, okY.idsL, okY.idsL_app, gD, gO, gN, zu, encY, markE, refOf, List.length_append, List.append_assoc, hr1, hr2]
          try rfl) (ih (i + 1) (e :: r) (by rw [← List.drop_drop, hd]; rfl) hlt (by simp [markE] at he ⊢; omega) (by simp only [marksE, hax, if_true, if_false] at h; exact h))

theorem L109_11 {F : Exit → St → Option D} (p : Paper) (ax : Int) (k : List Kt) (x : D) (hwf : p.wf) (hok : zp p = true) : ∀ (rest : List Join) (i : Nat) (es : List Edge), p.joins.drop i = rest → i ≤ p.joins.length → es.length + 2 * rest.length ≤ 1000 →
    (zB cfg (lim cfg) 109 F k (.exit 2) ⟨149, [(68, B false), (67, I p.joins.length), (66, .sl p.nj (p.joins.map encJ) (zs p.nj 7) none), (65, .lref 0 0 3 2), (64, I (p.joins.length : Nat)), (1, I ax), (2, .lref 0 0 3 0), (5, I p.sheets), (6, gD 1 7 (es ++ (joinsE ax rest i).map (refOf p.sheets))), (9, I (p.joins.length : Nat))], (0, ⟨[zu p], 3, false⟩) :: gO 1 7 encY (es ++ (joinsE ax rest i).map (refOf p.sheets)), gN 1 (es ++ (joinsE ax rest i).map (refOf p.sheets)), 0⟩ = some x) →
    EvL cfg (lim cfg) 109 F lp109_11 k ⟨149, [(1, I ax), (2, .lref 0 0 3 0), (5, I p.sheets), (6, gD 1 7 (es)), (9, I (i : Nat))], (0, ⟨[zu p], 3, false⟩) :: gO 1 7 encY (es), gN 1 (es), 0⟩ = some x := by
  have hlm := len_if (f := encJ) hwf.2.1
  obtain ⟨o1, o2, -, -, o5, o6⟩ := zE hok
  intro rest
  induction rest with
  | nil =>
    intro i es hd hi he h
    have hi' : i = p.joins.length := by
      have := List.drop_eq_nil_iff.1 hd
      omega
    subst hi'
    simp only [joinsE, List.map_nil, List.append_nil] at h
    refine zj ?_
    try dsimp only [lp109_11, zz, zo, Tryd.f109]
    simp only [bW, if_true, Nat.reduceEqDiff, if_false]
    repeat' first
      | (intro hb; first | cases hb | skip)
      | ((first | apply z8 | apply ze)
         · rfl
         · simp (disch := assumption) only [go_sem, Nat.reduceEqDiff, Nat.reduceAdd, bP, zf, Nat.reduceLeDiff, Nat.reduceLT, Nat.reduceMul, List.length_append, decide_eq_true_eq, z9, z6, Int.reduceToNat, Int.reduceLE, Int.reduceLT, Int.reduceBNe, Int.reduceBEq, hlm, Int.lt_irrefl]
           rfl
         · simp only [go_sem, Nat.reduceLT, Nat.reduceEqDiff]
           rfl
         · rfl
         first
         | (apply zd
            · simp only [z5, z0, Nat.reduceLT, decide_true, cond_true, ins]
              rfl
            · simp only [z5, z0, Nat.reduceLT, decide_true, cond_true, ins]
              rfl)
         | (apply zh
            · simp only [z5, z0, Nat.reduceLT, decide_true, cond_true, ins]
              rfl))
      | ((first | apply zb | apply zc)
         · rfl
         · simp only [z5, z0, Nat.reduceLT, decide_true, cond_true, ins]
           rfl)
      | (apply za
         · simp only [go_sem, Nat.reduceEqDiff])
      | (apply z7
         · simp only [go_sem, Nat.reduceEqDiff])
      | (apply zg
         · kernel_rfl
         · kernel_rfl)
      | (simp only [bW, if_true, Nat.reduceEqDiff, if_false])
    exact h
  | cons m rest ih =>
    intro i es hd hi he h
    have hlt : i < p.joins.length := by
      rcases Nat.lt_or_ge i p.joins.length with h | h
      · exact h
      · rw [List.drop_eq_nil_of_le h] at hd; cases hd
    have hm : p.joins[i]? = some m := by rw [← List.head?_drop, hd]; rfl
    have hx : (p.joins.map encJ)[i]? = some (.agg [I m.a, I m.b, I m.axis, I m.seenA, I m.errA, I m.seenB, I m.errB]) := by rw [List.getElem?_map, hm]; rfl
    have hnm' : p.nj = false := by
      cases h : p.nj with
      | false => rfl
      | true => rw [hwf.2.1 h] at hlt; cases hlt
    have hlt' : (i : Int) < (p.joins.length : Int) := by omega
    have hlen := hwf.2.2.2
    have hw3 : IntKind.i64.wrap ((i : Int) + 1) = ((i + 1 : Nat) : Int) := by rw [wrap_i64 (by omega) (by omega)]; omega
    have hok' := o6 m (List.mem_of_getElem? hm)
    simp [joinOK, zy, isAxis, isSeen] at hok'
    have hs2 : IntKind.i64.wrap (m.seenA + m.errA) = m.seenA + m.errA := wrap_i64 (by omega) (by omega)
    have hs3 : IntKind.i64.wrap (m.seenB - m.errB) = m.seenB - m.errB := wrap_i64 (by omega) (by omega)
    have hs4 : IntKind.i64.wrap (m.seenB + m.errB) = m.seenB + m.errB := wrap_i64 (by omega) (by omega)
    have hs5 : IntKind.i64.wrap (m.seenA - m.errA) = m.seenA - m.errA := wrap_i64 (by omega) (by omega)
    have e1 := t74 (m.seenA + m.errA) (m.seenB - m.errB) (by omega) (by omega) (by omega) (by omega)
    have e2 := t74 (m.seenB + m.errB) (m.seenA - m.errA) (by omega) (by omega) (by omega) (by omega)
    have hr1 : (1 + m.a = 0) = False := by simp; omega
    have hr2 : 1 + m.a - 1 = m.a := by omega
    have hr3 : (1 + m.b = 0) = False := by simp; omega
    have hr4 : 1 + m.b - 1 = m.b := by omega
    have hlm' : ((p.joins.map encJ).length : Int) = (p.joins.length : Int) := by simp
    cases es with
    | nil =>
      rw [List.nil_append] at h
      simp only [gD, gO, gN]
      by_cases hax : m.axis = ax
      · have hax1 : (m.axis == ax) = true := by simp [hax]
        refine zj ?_
        try dsimp only [lp109_11, zz, zo, Tryd.f109]
        simp only [bW, if_true, Nat.reduceEqDiff, if_false]
        repeat' first
          | (intro hb; first | cases hb | skip)
          | ((first | apply z8 | apply ze)
             · rfl
             · simp (disch := assumption) only [go_sem, Nat.reduceEqDiff, Nat.reduceAdd, bP, zf, Nat.reduceLeDiff, Nat.reduceLT, Nat.reduceMul, List.length_append, decide_eq_true_eq, z9, z6, Int.reduceToNat, Int.reduceLE, Int.reduceLT, Int.reduceBNe, Int.reduceBEq, hlm', List.length_map, hx, hnm', hlt', hw3, hax1, Nat.zero_lt_succ, hs2, hs3, hs4, hs5, e1, e2]
               rfl
             · simp only [go_sem, Nat.reduceLT, Nat.reduceEqDiff]
               rfl
             · rfl
             first
             | (apply zd
                · simp only [z5, z0, Nat.reduceLT, decide_true, cond_true, ins]
                  rfl
                · simp only [z5, z0, Nat.reduceLT, decide_true, cond_true, ins]
                  rfl)
             | (apply zh
                · simp only [z5, z0, Nat.reduceLT, decide_true, cond_true, ins]
                  rfl))
          | ((first | apply zb | apply zc)
             · rfl
             · simp only [z5, z0, Nat.reduceLT, decide_true, cond_true, ins]
               rfl)
          | (apply za
             · simp only [go_sem, Nat.reduceEqDiff])
          | (apply z7
             · simp only [go_sem, Nat.reduceEqDiff])
          | (apply zg
             · kernel_rfl
             · kernel_rfl)
          | (simp only [bW, if_true, Nat.reduceEqDiff, if_false])
        refine zx (st1 := ⟨149, [(1, I ax), (2, .lref 0 0 3 0), (5, I p.sheets), (6, gD 1 7 (([]) ++ (joinE m i).map (refOf p.sheets))), (9, I (i + 1 : Nat))], (0, ⟨[zu p], 3, false⟩) :: gO 1 7 encY (([]) ++ (joinE m i).map (refOf p.sheets)), gN 1 (([]) ++ (joinE m i).map (refOf p.sheets)), 0⟩) lk109_11 (by
          simp only [go_sem, List.map_append, Nat.reduceEqDiff, Nat.reduceLT, Nat.reduceAdd, bI, bD, bI2, okY.renL, okY.idsL, okY.idsL_app, gD, gO, gN, zu, encY, joinE, refOf, List.length_append, List.append_assoc, hr1, hr2, hr3, hr4]
          try rfl) (ih (i + 1) (([]) ++ (joinE m i).map (refOf p.sheets)) (by rw [← List.drop_drop, hd]; rfl) hlt (by simp [joinE] at he ⊢; omega) (by simp only [joinsE, hax, if_true, if_false] at h; simpa using h))
      · have hax0 : (m.axis == ax) = false := by simp [hax]
        refine zj ?_
        try dsimp only [lp109_11, zz, zo, Tryd.f109]
        simp only [bW, if_true, Nat.reduceEqDiff, if_false]
        repeat' first
          | (intro hb; first | cases hb | skip)
          | ((first | apply z8 | apply ze)
             · rfl
             · simp (disch := assumption) only [go_sem, Nat.reduceEqDiff, Nat.reduceAdd, bP, zf, Nat.reduceLeDiff, Nat.reduceLT, Nat.reduceMul, List.length_append, decide_eq_true_eq, z9, z6, Int.reduceToNat, Int.reduceLE, Int.reduceLT, Int.reduceBNe, Int.reduceBEq, hlm', List.length_map, hx, hnm', hlt', hw3, hax0, Nat.zero_lt_succ, hs2, hs3, hs4, hs5, e1, e2]
               rfl
             · simp only [go_sem, Nat.reduceLT, Nat.reduceEqDiff]
               rfl
             · rfl
             first
             | (apply zd
                · simp only [z5, z0, Nat.reduceLT, decide_true, cond_true, ins]
                  rfl
                · simp only [z5, z0, Nat.reduceLT, decide_true, cond_true, ins]
                  rfl)
             | (apply zh
                · simp only [z5, z0, Nat.reduceLT, decide_true, cond_true, ins]
                  rfl))
          | ((first | apply zb | apply zc)
             · rfl
             · simp only [z5, z0, Nat.reduceLT, decide_true, cond_true, ins]
               rfl)
          | (apply za
             · simp only [go_sem, Nat.reduceEqDiff])
          | (apply z7
             · simp only [go_sem, Nat.reduceEqDiff])
          | (apply zg
             · kernel_rfl
             · kernel_rfl)
          | (simp only [bW, if_true, Nat.reduceEqDiff, if_false])
        refine zx (st1 := ⟨149, [(1, I ax), (2, .lref 0 0 3 0), (5, I p.sheets), (6, gD 1 7 ([])), (9, I (i + 1 : Nat))], (0, ⟨[zu p], 3, false⟩) :: gO 1 7 encY ([]), gN 1 ([]), 0⟩) lk109_11 (by
          simp only [go_sem, List.map_append, Nat.reduceEqDiff, Nat.reduceLT, Nat.reduceAdd, bI, bD, bI2, okY.renL, okY.idsL, okY.idsL_app, gD, gO, gN, zu, encY, joinE, refOf, List.length_append, List.append_assoc, hr1, hr2, hr3, hr4]
          try rfl) (ih (i + 1) ([]) (by rw [← List.drop_drop, hd]; rfl) hlt (by simp [joinE] at he ⊢; omega) (by simp only [joinsE, hax, if_true, if_false] at h; exact h))
    | cons e r =>
      simp only [List.length_cons] at he
      have hle : (r.length + 1 + 1 ≤ r.length + 1) = False := by simp
      have hb1 : ((r.length + 1 + 1) * 56 ≤ big) = True := by simp [big]; omega
      have hb2 : (r.length + 1 + 1 ≤ big) = True := by simp [big]; omega
      have hle2 : (r.length + 1 + 1 + 1 ≤ r.length + 1 + 1) = False := by simp
      have hb12 : ((r.length + 1 + 1 + 1) * 56 ≤ big) = True := by simp [big]; omega
      have hb22 : (r.length + 1 + 1 + 1 ≤ big) = True := by simp [big]; omega
      have hao : allOk 7 (encY e :: List.map encY r) = true := okY.allOk (e :: r)
      have hao2 : ∀ d, allOk 7 (encY e :: (List.map encY r ++ [d])) = (d.okCells && (decide (d.cells.length = 7) && true)) := by
        intro d
        rw [← List.cons_append, ← List.map_cons, allOk_append, okY.allOk (e :: r)]
        simp [allOk]
      simp only [gD, gO, gN, List.map_cons]
      by_cases hax : m.axis = ax
      · have hax1 : (m.axis == ax) = true := by simp [hax]
        refine zj ?_
        try dsimp only [lp109_11, zz, zo, Tryd.f109]
        simp only [bW, if_true, Nat.reduceEqDiff, if_false]
        repeat' first
          | (intro hb; first | cases hb | skip)
          | ((first | apply z8 | apply ze)
             · rfl
             · simp (disch := assumption) only [go_sem, Nat.reduceEqDiff, Nat.reduceAdd, bP, zf, Nat.reduceLeDiff, Nat.reduceLT, Nat.reduceMul, List.length_append, decide_eq_true_eq, z9, z6, Int.reduceToNat, Int.reduceLE, Int.reduceLT, Int.reduceBNe, Int.reduceBEq, hlm', List.length_map, hx, hnm', hlt', hw3, hax1, Nat.zero_lt_succ, hs2, hs3, hs4, hs5, e1, e2, hle, hb1, hb2, hao, hle2, hb12, hb22, hao2, okY.allOk]
               rfl
             · simp only [go_sem, Nat.reduceLT, Nat.reduceEqDiff]
               rfl
             · rfl
             first
             | (apply zd
                · simp only [z5, z0, Nat.reduceLT, decide_true, cond_true, ins]
                  rfl
                · simp only [z5, z0, Nat.reduceLT, decide_true, cond_true, ins]
                  rfl)
             | (apply zh
                · simp only [z5, z0, Nat.reduceLT, decide_true, cond_true, ins]
                  rfl))
          | ((first | apply zb | apply zc)
             · rfl
             · simp only [z5, z0, Nat.reduceLT, decide_true, cond_true, ins]
               rfl)
          | (apply za
             · simp only [go_sem, Nat.reduceEqDiff])
          | (apply z7
             · simp only [go_sem, Nat.reduceEqDiff])
          | (apply zg
             · kernel_rfl
             · kernel_rfl)
          | (simp only [bW, if_true, Nat.reduceEqDiff, if_false])
        refine zx (st1 := ⟨149, [(1, I ax), (2, .lref 0 0 3 0), (5, I p.sheets), (6, gD 1 7 ((e :: r) ++ (joinE m i).map (refOf p.sheets))), (9, I (i + 1 : Nat))], (0, ⟨[zu p], 3, false⟩) :: gO 1 7 encY ((e :: r) ++ (joinE m i).map (refOf p.sheets)), gN 1 ((e :: r) ++ (joinE m i).map (refOf p.sheets)), 0⟩) lk109_11 (by
          simp only [go_sem, List.map_append, Nat.reduceEqDiff, Nat.reduceLT, Nat.reduceAdd, bI, bD, bI2, okY.renL, okY.idsL, okY.idsL_app, gD, gO, gN, zu, encY, joinE, refOf, List.length_append, List.append_assoc, hr1, hr2, hr3, hr4]
          try rfl) (ih (i + 1) ((e :: r) ++ (joinE m i).map (refOf p.sheets)) (by rw [← List.drop_drop, hd]; rfl) hlt (by simp [joinE] at he ⊢; omega) (by simp only [joinsE, hax, if_true, if_false] at h; simpa using h))
      · have hax0 : (m.axis == ax) = false := by simp [hax]
        refine zj ?_
        try dsimp only [lp109_11, zz, zo, Tryd.f109]
        simp only [bW, if_true, Nat.reduceEqDiff, if_false]
        repeat' first
          | (intro hb; first | cases hb | skip)
          | ((first | apply z8 | apply ze)
             · rfl
             · simp (disch := assumption) only [go_sem, Nat.reduceEqDiff, Nat.reduceAdd, bP, zf, Nat.reduceLeDiff, Nat.reduceLT, Nat.reduceMul, List.length_append, decide_eq_true_eq, z9, z6, Int.reduceToNat, Int.reduceLE, Int.reduceLT, Int.reduceBNe, Int.reduceBEq, hlm', List.length_map, hx, hnm', hlt', hw3, hax0, Nat.zero_lt_succ, hs2, hs3, hs4, hs5, e1, e2, hle, hb1, hb2, hao, hle2, hb12, hb22, hao2, okY.allOk]
               rfl
             · simp only [go_sem, Nat.reduceLT, Nat.reduceEqDiff]
               rfl
             · rfl
             first
             | (apply zd
                · simp only [z5, z0, Nat.reduceLT, decide_true, cond_true, ins]
                  rfl
                · simp only [z5, z0, Nat.reduceLT, decide_true, cond_true, ins]
                  rfl)
             | (apply zh
                · simp only [z5, z0, Nat.reduceLT, decide_true, cond_true, ins]
                  rfl))
          | ((first | apply zb | apply zc)
             · rfl
             · simp only [z5, z0, Nat.reduceLT, decide_true, cond_true, ins]
               rfl)
          | (apply za
             · simp only [go_sem, Nat.reduceEqDiff])
          | (apply z7
             · simp only [go_sem, Nat.reduceEqDiff])
          | (apply zg
             · kernel_rfl
             · kernel_rfl)
          | (simp only [bW, if_true, Nat.reduceEqDiff, if_false])
        refine zx (st1 := ⟨149, [(1, I ax), (2, .lref 0 0 3 0), (5, I p.sheets), (6, gD 1 7 (e :: r)), (9, I (i + 1 : Nat))], (0, ⟨[zu p], 3, false⟩) :: gO 1 7 encY (e :: r), gN 1 (e :: r), 0⟩) lk109_11 (by
          simp only [go_sem, List.map_append, Nat.reduceEqDiff, Nat.reduceLT, Nat.reduceAdd, bI, bD, bI2, okY.renL, okY.idsL, okY.idsL_app, gD, gO, gN, zu, encY, joinE, refOf, List.length_append, List.append_assoc, hr1, hr2, hr3, hr4]
          try rfl) (ih (i + 1) (e :: r) (by rw [← List.drop_drop, hd]; rfl) hlt (by simp [joinE] at he ⊢; omega) (by simp only [joinsE, hax, if_true, if_false] at h; exact h))

theorem L109_18 {F : Exit → St → Option D} (p : Paper) (k : List Kt) (x : D) (hok : zp p = true) : ∀ (m i : Nat) (es : List Edge), (i : Int) + m = p.sheets → es.length + 2 * m ≤ 1000 →
    (zB cfg (lim cfg) 109 F k (.exit 4) ⟨149, [(125, B false), (124, I p.sheets), (123, .lref 0 0 3 0), (122, I (i + m : Nat)), (2, .lref 0 0 3 0), (5, I p.sheets), (6, gD 1 7 (es ++ ((List.range' i m).flatMap sheetE).map (refOf p.sheets))), (11, I (i + m : Nat))], (0, ⟨[zu p], 3, false⟩) :: gO 1 7 encY (es ++ ((List.range' i m).flatMap sheetE).map (refOf p.sheets)), gN 1 (es ++ ((List.range' i m).flatMap sheetE).map (refOf p.sheets)), 0⟩ = some x) →
    EvL cfg (lim cfg) 109 F lp109_18 k ⟨149, [(2, .lref 0 0 3 0), (5, I p.sheets), (6, gD 1 7 (es)), (11, I (i : Nat))], (0, ⟨[zu p], 3, false⟩) :: gO 1 7 encY (es), gN 1 (es), 0⟩ = some x := by
  obtain ⟨o1, o2, -⟩ := zE hok
  intro m
  induction m with
  | zero =>
    intro i es hi he h
    have hi' : ((i : Int) < p.sheets) = False := by simp; omega
    simp only [List.range'_zero, List.flatMap_nil, List.map_nil, List.append_nil, Nat.add_zero] at h
    refine zj ?_
    try dsimp only [lp109_18, zz, zo, Tryd.f109]
    simp only [bW, if_true, Nat.reduceEqDiff, if_false]
    repeat' first
      | (intro hb; first | cases hb | skip)
      | ((first | apply z8 | apply ze)
         · rfl
         · simp (disch := assumption) only [go_sem, Nat.reduceEqDiff, Nat.reduceAdd, bP, zf, Nat.reduceLeDiff, Nat.reduceLT, Nat.reduceMul, List.length_append, decide_eq_true_eq, z9, z6, Int.reduceToNat, Int.reduceLE, Int.reduceLT, Int.reduceBNe, Int.reduceBEq, hi']
           rfl
         · simp only [go_sem, Nat.reduceLT, Nat.reduceEqDiff]
           rfl
         · rfl
         first
         | (apply zd
            · simp only [z5, z0, Nat.reduceLT, decide_true, cond_true, ins]
              rfl
            · simp only [z5, z0, Nat.reduceLT, decide_true, cond_true, ins]
              rfl)
         | (apply zh
            · simp only [z5, z0, Nat.reduceLT, decide_true, cond_true, ins]
              rfl))
      | ((first | apply zb | apply zc)
         · rfl
         · simp only [z5, z0, Nat.reduceLT, decide_true, cond_true, ins]
           rfl)
      | (apply za
         · simp only [go_sem, Nat.reduceEqDiff])
      | (apply z7
         · simp only [go_sem, Nat.reduceEqDiff])
      | (apply zg
         · kernel_rfl
         · kernel_rfl)
      | (simp only [bW, if_true, Nat.reduceEqDiff, if_false])
    exact h
  | succ m ih =>
    intro i es hi he h
    have hlt' : ((i : Int) < p.sheets) = True := by simp; omega
    have hw2 : IntKind.i64.wrap (-1 - (i : Int)) = -1 - (i : Int) := wrap_i64 (by omega) (by omega)
    have hw3 : IntKind.i64.wrap ((i : Int) + 1) = ((i + 1 : Nat) : Int) := by rw [wrap_i64 (by omega) (by omega)]; omega
    have hr1 : (1 + (i : Int) = 0) = False := by simp; omega
    have hr2 : 1 + (i : Int) - 1 = i := by omega
    have hr3 : lowR 2 1 = ⟨2, 1⟩ := rfl
    rw [show i + (m + 1) = i + 1 + m by omega] at h
    cases es with
    | nil =>
      rw [List.nil_append] at h
      simp only [gD, gO, gN]
      refine zj ?_
      try dsimp only [lp109_18, zz, zo, Tryd.f109]
      simp only [bW, if_true, Nat.reduceEqDiff, if_false]
      repeat' first
        | (intro hb; first | cases hb | skip)
        | ((first | apply z8 | apply ze)
           · rfl
           · simp (disch := assumption) only [go_sem, Nat.reduceEqDiff, Nat.reduceAdd, bP, zf, Nat.reduceLeDiff, Nat.reduceLT, Nat.reduceMul, List.length_append, decide_eq_true_eq, z9, z6, Int.reduceToNat, Int.reduceLE, Int.reduceLT, Int.reduceBNe, Int.reduceBEq, hlt', hw2, hw3, Nat.zero_lt_succ]
             rfl
           · simp only [go_sem, Nat.reduceLT, Nat.reduceEqDiff]
             rfl
           · rfl
           first
           | (apply zd
              · simp only [z5, z0, Nat.reduceLT, decide_true, cond_true, ins]
                rfl
              · simp only [z5, z0, Nat.reduceLT, decide_true, cond_true, ins]
                rfl)
           | (apply zh
              · simp only [z5, z0, Nat.reduceLT, decide_true, cond_true, ins]
                rfl))
        | ((first | apply zb | apply zc)
           · rfl
           · simp only [z5, z0, Nat.reduceLT, decide_true, cond_true, ins]
             rfl)
        | (apply za
           · simp only [go_sem, Nat.reduceEqDiff])
        | (apply z7
           · simp only [go_sem, Nat.reduceEqDiff])
        | (apply zg
           · kernel_rfl
           · kernel_rfl)
        | (simp only [bW, if_true, Nat.reduceEqDiff, if_false])
      refine zx (st1 := ⟨149, [(2, .lref 0 0 3 0), (5, I p.sheets), (6, gD 1 7 (([]) ++ (sheetE i).map (refOf p.sheets))), (11, I (i + 1 : Nat))], (0, ⟨[zu p], 3, false⟩) :: gO 1 7 encY (([]) ++ (sheetE i).map (refOf p.sheets)), gN 1 (([]) ++ (sheetE i).map (refOf p.sheets)), 0⟩) lk109_18 (by
        simp only [go_sem, List.map_append, Nat.reduceEqDiff, Nat.reduceLT, Nat.reduceAdd, bI, bD, bI2, okY.renL, okY.idsL, okY.idsL_app, gD, gO, gN, zu, encY, sheetE, refOf, List.length_append, List.append_assoc, hr1, hr2, hr3]
        try rfl) (ih (i + 1) (([]) ++ (sheetE i).map (refOf p.sheets)) (by omega) (by simp [sheetE] at he ⊢; omega) (by rw [List.nil_append]; rw [List.range'_succ, List.flatMap_cons, List.map_append] at h; exact h))
    | cons e r =>
      simp only [List.length_cons] at he
      have hle : (r.length + 1 + 1 ≤ r.length + 1) = False := by simp
      have hb1 : ((r.length + 1 + 1) * 56 ≤ big) = True := by simp [big]; omega
      have hb2 : (r.length + 1 + 1 ≤ big) = True := by simp [big]; omega
      have hle2 : (r.length + 1 + 1 + 1 ≤ r.length + 1 + 1) = False := by simp
      have hb12 : ((r.length + 1 + 1 + 1) * 56 ≤ big) = True := by simp [big]; omega
      have hb22 : (r.length + 1 + 1 + 1 ≤ big) = True := by simp [big]; omega
      have hao : allOk 7 (encY e :: List.map encY r) = true := okY.allOk (e :: r)
      have hao2 : ∀ d, allOk 7 (encY e :: (List.map encY r ++ [d])) = (d.okCells && (decide (d.cells.length = 7) && true)) := by
        intro d
        rw [← List.cons_append, ← List.map_cons, allOk_append, okY.allOk (e :: r)]
        simp [allOk]
      simp only [gD, gO, gN, List.map_cons]
      refine zj ?_
      try dsimp only [lp109_18, zz, zo, Tryd.f109]
      simp only [bW, if_true, Nat.reduceEqDiff, if_false]
      repeat' first
        | (intro hb; first | cases hb | skip)
        | ((first | apply z8 | apply ze)
           · rfl
           · simp (disch := assumption) only [go_sem, Nat.reduceEqDiff, Nat.reduceAdd, bP, zf, Nat.reduceLeDiff, Nat.reduceLT, Nat.reduceMul, List.length_append, decide_eq_true_eq, z9, z6, Int.reduceToNat, Int.reduceLE, Int.reduceLT, Int.reduceBNe, Int.reduceBEq, hlt', hw2, hw3, Nat.zero_lt_succ, hle, hb1, hb2, hao, hle2, hb12, hb22, hao2, okY.allOk, List.length_map]
             rfl
           · simp only [go_sem, Nat.reduceLT, Nat.reduceEqDiff]
             rfl
           · rfl
           first
           | (apply zd
              · simp only [z5, z0, Nat.reduceLT, decide_true, cond_true, ins]
                rfl
              · simp only [z5, z0, Nat.reduceLT, decide_true, cond_true, ins]
                rfl)
           | (apply zh
              · simp only [z5, z0, Nat.reduceLT, decide_true, cond_true, ins]
                rfl))
        | ((first | apply zb | apply zc)
           · rfl
           · simp only [z5, z0, Nat.reduceLT, decide_true, cond_true, ins]
             rfl)
        | (apply za
           · simp only [go_sem, Nat.reduceEqDiff])
        | (apply z7
           · simp only [go_sem, Nat.reduceEqDiff])
        | (apply zg
           · kernel_rfl
           · kernel_rfl)
        | (simp only [bW, if_true, Nat.reduceEqDiff, if_false])
      refine zx (st1 := ⟨149, [(2, .lref 0 0 3 0), (5, I p.sheets), (6, gD 1 7 ((e :: r) ++ (sheetE i).map (refOf p.sheets))), (11, I (i + 1 : Nat))], (0, ⟨[zu p], 3, false⟩) :: gO 1 7 encY ((e :: r) ++ (sheetE i).map (refOf p.sheets)), gN 1 ((e :: r) ++ (sheetE i).map (refOf p.sheets)), 0⟩) lk109_18 (by
        simp only [go_sem, List.map_append, Nat.reduceEqDiff, Nat.reduceLT, Nat.reduceAdd, bI, bD, bI2, okY.renL, okY.idsL, okY.idsL_app, gD, gO, gN, zu, encY, sheetE, refOf, List.length_append, List.append_assoc, hr1, hr2, hr3]
        try rfl) (ih (i + 1) ((e :: r) ++ (sheetE i).map (refOf p.sheets)) (by omega) (by simp [sheetE] at he ⊢; omega) (by rw [List.range'_succ, List.flatMap_cons, List.map_append, ← List.append_assoc] at h; exact h))

theorem refE_len {p : Paper} (hok : zp p = true) (ax : Int) : (refE p ax).length ≤ 1000 ∧ refE p ax ≠ [] := by
  obtain ⟨o1, o2, o3, o4, _⟩ := zE hok
  have h1 := marksE_len ax p.marks 0
  have h2 := joinsE_len ax p.joins 0
  have h3 := sheetsE_len p.sheets.toNat 0
  have hl : (refE p ax).length = (marksE ax p.marks 0).length + (joinsE ax p.joins 0).length + 2 * p.sheets.toNat := by
    unfold refE refB
    rw [List.length_map, List.length_append, List.length_append, h3]
  refine ⟨by omega, fun h => ?_⟩
  rw [h] at hl
  simp at hl
  omega
theorem t109 (p : Paper) (ax : Int) (hwf : p.wf) (hok : zp p = true) : (lim cfg).pure 109 [zu p, I ax] = some (.sl false ((refE p ax).map encY) 7 none) := by
  obtain ⟨o1, o2, o3, o4, _⟩ := zE hok
  obtain ⟨n, hn⟩ := Int.eq_ofNat_of_zero_le (show 0 ≤ p.sheets by omega)
  have h1 := marksE_len ax p.marks 0
  have h2 := joinsE_len ax p.joins 0
  refine zq (zk 109) cfn109 rfl (n := 149) rfl ?_
  generalize hF : finP cfg Tryd.f109 = F
  simp only [bW, if_true, Nat.reduceEqDiff, if_false, zm]
  repeat' first
    | (intro hb; first | cases hb | skip)
    | ((first | apply z8 | apply ze)
       · rfl
       · simp (disch := assumption) only [go_sem, Nat.reduceEqDiff, Nat.reduceAdd, bP, zf, Nat.reduceLeDiff, Nat.reduceLT, Nat.reduceMul, List.length_append, decide_eq_true_eq, z9, z6, Int.reduceToNat, Int.reduceLE, Int.reduceLT, Int.reduceBNe, Int.reduceBEq]
         rfl
       · simp only [go_sem, Nat.reduceLT, Nat.reduceEqDiff]
         rfl
       · rfl
       first
       | (apply zd
          · simp only [z5, z0, Nat.reduceLT, decide_true, cond_true, ins]
            rfl
          · simp only [z5, z0, Nat.reduceLT, decide_true, cond_true, ins]
            rfl)
       | (apply zh
          · simp only [z5, z0, Nat.reduceLT, decide_true, cond_true, ins]
            rfl))
    | ((first | apply zb | apply zc)
       · rfl
       · simp only [z5, z0, Nat.reduceLT, decide_true, cond_true, ins]
         rfl)
    | (apply za
       · simp only [go_sem, Nat.reduceEqDiff])
    | (apply z7
       · simp only [go_sem, Nat.reduceEqDiff])
    | (apply zg
       · kernel_rfl
       · kernel_rfl)
    | (simp only [bW, if_true, Nat.reduceEqDiff, if_false])
  refine w_loop (st1 := ⟨149, [(1, I ax), (2, .lref 0 0 3 0), (5, I p.sheets), (6, gD 1 7 ([])), (7, I (0 : Nat))], (0, ⟨[zu p], 3, false⟩) :: gO 1 7 encY ([]), gN 1 ([]), 0⟩) lk109_4 (by
    simp only [go_sem, List.map_append, Nat.reduceEqDiff, Nat.reduceLT, Nat.reduceAdd, bI, bD, bI2, gD, gO, gN]
    try rfl) (L109_4 p ax _ _ hwf hok p.marks 0 [] rfl (Nat.zero_le _) (by simp; omega) ?_)
  rw [List.nil_append]
  generalize hA : (marksE ax p.marks 0).map (refOf p.sheets) = A
  simp only [bW, if_true, Nat.reduceEqDiff, if_false]
  repeat' first
    | (intro hb; first | cases hb | skip)
    | ((first | apply z8 | apply ze)
       · rfl
       · simp (disch := assumption) only [go_sem, Nat.reduceEqDiff, Nat.reduceAdd, bP, zf, Nat.reduceLeDiff, Nat.reduceLT, Nat.reduceMul, List.length_append, decide_eq_true_eq, z9, z6, Int.reduceToNat, Int.reduceLE, Int.reduceLT, Int.reduceBNe, Int.reduceBEq]
         rfl
       · simp only [go_sem, Nat.reduceLT, Nat.reduceEqDiff]
         rfl
       · rfl
       first
       | (apply zd
          · simp only [z5, z0, Nat.reduceLT, decide_true, cond_true, ins]
            rfl
          · simp only [z5, z0, Nat.reduceLT, decide_true, cond_true, ins]
            rfl)
       | (apply zh
          · simp only [z5, z0, Nat.reduceLT, decide_true, cond_true, ins]
            rfl))
    | ((first | apply zb | apply zc)
       · rfl
       · simp only [z5, z0, Nat.reduceLT, decide_true, cond_true, ins]
         rfl)
    | (apply za
       · simp only [go_sem, Nat.reduceEqDiff])
    | (apply z7
       · simp only [go_sem, Nat.reduceEqDiff])
    | (apply zg
       · kernel_rfl
       · kernel_rfl)
    | (simp only [bW, if_true, Nat.reduceEqDiff, if_false])
  refine w_loop (st1 := ⟨149, [(1, I ax), (2, .lref 0 0 3 0), (5, I p.sheets), (6, gD 1 7 (A)), (9, I (0 : Nat))], (0, ⟨[zu p], 3, false⟩) :: gO 1 7 encY (A), gN 1 (A), 0⟩) lk109_11 (by
    cases A <;> simp only [go_sem, List.map_append, Nat.reduceEqDiff, Nat.reduceLT, Nat.reduceAdd, bI, bD, bI2, gD, gO, gN, okY.renL, okY.idsL, encY]
    all_goals try rfl) (L109_11 p ax _ _ hwf hok p.joins 0 A rfl (Nat.zero_le _) (by rw [← hA]; simp; omega) ?_)
  generalize hB : A ++ (joinsE ax p.joins 0).map (refOf p.sheets) = Bl
  simp only [bW, if_true, Nat.reduceEqDiff, if_false]
  repeat' first
    | (intro hb; first | cases hb | skip)
    | ((first | apply z8 | apply ze)
       · rfl
       · simp (disch := assumption) only [go_sem, Nat.reduceEqDiff, Nat.reduceAdd, bP, zf, Nat.reduceLeDiff, Nat.reduceLT, Nat.reduceMul, List.length_append, decide_eq_true_eq, z9, z6, Int.reduceToNat, Int.reduceLE, Int.reduceLT, Int.reduceBNe, Int.reduceBEq]
         rfl
       · simp only [go_sem, Nat.reduceLT, Nat.reduceEqDiff]
         rfl
       · rfl
       first
       | (apply zd
          · simp only [z5, z0, Nat.reduceLT, decide_true, cond_true, ins]
            rfl
          · simp only [z5, z0, Nat.reduceLT, decide_true, cond_true, ins]
            rfl)
       | (apply zh
          · simp only [z5, z0, Nat.reduceLT, decide_true, cond_true, ins]
            rfl))
    | ((first | apply zb | apply zc)
       · rfl
       · simp only [z5, z0, Nat.reduceLT, decide_true, cond_true, ins]
         rfl)
    | (apply za
       · simp only [go_sem, Nat.reduceEqDiff])
    | (apply z7
       · simp only [go_sem, Nat.reduceEqDiff])
    | (apply zg
       · kernel_rfl
       · kernel_rfl)
    | (simp only [bW, if_true, Nat.reduceEqDiff, if_false])
  refine w_loop (st1 := ⟨149, [(2, .lref 0 0 3 0), (5, I p.sheets), (6, gD 1 7 (Bl)), (11, I (0 : Nat))], (0, ⟨[zu p], 3, false⟩) :: gO 1 7 encY (Bl), gN 1 (Bl), 0⟩) lk109_18 (by
    cases Bl <;> simp only [go_sem, List.map_append, Nat.reduceEqDiff, Nat.reduceLT, Nat.reduceAdd, bI, bD, bI2, gD, gO, gN, okY.renL, okY.idsL, encY]
    all_goals try rfl) (L109_18 p _ _ hok n 0 Bl (by omega) (by rw [← hB, ← hA]; simp; omega) ?_)
  have hE : Bl ++ ((List.range' 0 n).flatMap sheetE).map (refOf p.sheets) = refE p ax := by
    rw [← hB, ← hA]
    unfold refE refB
    rw [List.map_append, List.map_append, hn]; rfl
  rw [hE]
  obtain ⟨r1, r2⟩ := refE_len hok ax
  generalize refE p ax = E at *
  cases E with
  | nil => exact absurd rfl r2
  | cons e r =>
    simp only [gD, gO, gN]
    have htk : List.take (r.length + 1) (List.map encY (e :: r)) = List.map encY (e :: r) := by rw [List.take_of_length_le]; simp
    simp only [List.map_cons] at htk
    simp only [bW, if_true, Nat.reduceEqDiff, if_false]
    repeat' first
      | (intro hb; first | cases hb | skip)
      | ((first | apply z8 | apply ze)
         · rfl
         · simp (disch := assumption) only [go_sem, Nat.reduceEqDiff, Nat.reduceAdd, bP, zf, Nat.reduceLeDiff, Nat.reduceLT, Nat.reduceMul, List.length_append, decide_eq_true_eq, z9, z6, Int.reduceToNat, Int.reduceLE, Int.reduceLT, Int.reduceBNe, Int.reduceBEq]
           rfl
         · simp only [go_sem, Nat.reduceLT, Nat.reduceEqDiff]
           rfl
         · rfl
         first
         | (apply zd
            · simp only [z5, z0, Nat.reduceLT, decide_true, cond_true, ins]
              rfl
            · simp only [z5, z0, Nat.reduceLT, decide_true, cond_true, ins]
              rfl)
         | (apply zh
            · simp only [z5, z0, Nat.reduceLT, decide_true, cond_true, ins]
              rfl))
      | ((first | apply zb | apply zc)
         · rfl
         · simp only [z5, z0, Nat.reduceLT, decide_true, cond_true, ins]
           rfl)
      | (apply za
         · simp only [go_sem, Nat.reduceEqDiff])
      | (apply z7
         · simp only [go_sem, Nat.reduceEqDiff])
      | (apply zg
         · kernel_rfl
         · kernel_rfl)
      | (simp only [bW, if_true, Nat.reduceEqDiff, if_false])
    subst hF
    simp only [go_sem, Nat.reduceEqDiff, bP, Nat.reduceAdd, Nat.reduceLeDiff, List.length_map, Tryd.f109, htk, okY.snapAll, okY.snap]

end Go.VS
/-
  What Factor and Between answer, in the words of least quotients. (A text of this claim's own; nothing of it is trusted.)
-/
namespace Go.VS
open Go Go.VS.Walks
theorem t19x (p : Paper) (a b ax : Int) (hwf : p.wf) : ∃ (r : Ratio) (k : Int), (lim cfg).pure 19 [zu p, I a, I b, I ax] = some (.tup [.agg [I r.n, I r.d], I k]) ∧ (k = 0 ↔ zO p ax [a, b] = 0) ∧ (zO p ax [a, b] = 0 → r = betwF p a b ax) := by
  have h := t19 p a b ax hwf
  by_cases hk : zO p ax [a, b] = 0
  · rw [if_pos hk] at h
    exact ⟨betwF p a b ax, 0, h, by simp [hk], fun _ => rfl⟩
  · rw [if_neg hk] at h
    exact ⟨⟨0, 0⟩, _, h, Iff.rfl, fun h' => absurd h' hk⟩
theorem t20x (p : Paper) (s ax : Int) (hwf : p.wf) : ∃ (lo hi : Ratio) (k : Int), (lim cfg).pure 20 [zu p, I s, I ax] = some (.tup [.agg [I lo.n, I lo.d], .agg [I hi.n, I hi.d], I k]) ∧ (k = 0 ↔ zO p ax [s] = 0) ∧ (zO p ax [s] = 0 → lo = loF p s ax ∧ hi = hiF p s ax) := by
  have h := t20 p s ax hwf
  by_cases hk : zO p ax [s] = 0
  · rw [if_pos hk] at h
    exact ⟨loF p s ax, hiF p s ax, 0, h, by simp [hk], fun _ => ⟨rfl, rfl⟩⟩
  · rw [if_neg hk] at h
    exact ⟨⟨0, 0⟩, ⟨0, 0⟩, _, h, Iff.rfl, fun h' => absurd h' hk⟩
theorem poss_none {p : Paper} (h : possibleF p = true) {ax : Int} (hax : isAxis ax = true) : clashA p ax = none := by
  simp [possibleF] at h
  simp [isAxis] at hax
  rcases hax with rfl | rfl
  · exact h.1
  · exact h.2
theorem sheet_nat {p : Paper} {s : Int} (h : zy p s = true) : ∃ i : Nat, s = i ∧ (1 + i : Nat) < 1 + p.sheets ∧ (1 + s).toNat = 1 + i := by
  simp [zy] at h
  exact ⟨s.toNat, by omega, by omega, by omega⟩
theorem betw_dist (p : Paper) (ax : Int) (i j : Nat) : betwF p i j ax = distF p ax (1 + i) (1 + j) := by
  unfold betwF distF
  rw [show (1 + (i : Int)).toNat = 1 + i by omega, show (1 + (j : Int)).toNat = 1 + j by omega]
  by_cases h : i = j
  · subst h; simp
  · rw [if_neg (by omega), if_neg (by omega)]
theorem hi_dist (p : Paper) (ax : Int) (i : Nat) : hiF p i ax = distF p ax (1 + i) 0 := by
  unfold hiF downF downO distF
  rw [show (1 + (i : Int)).toNat = 1 + i by omega, if_neg (by omega)]
theorem dist_tri {p : Paper} (hok : zp p = true) {ax : Int} (hc : clashA p ax = none) {a b c : Nat} (ha : a < 1 + p.sheets) (hb : b < 1 + p.sheets) (hcc : c < 1 + p.sheets) : vR (distF p ax a c) ≤ vR (distF p ax a b) * vR (distF p ax b c) := by
  obtain ⟨_, w, w1, _, w2⟩ := dist_real hok ax ha hb
  obtain ⟨_, v, v1, _, v2⟩ := dist_real hok ax hb hcc
  rw [w2, v2, ← prE_append]
  exact dist_least hok hc ha hcc (wk_append w1 v1)
end Go.VS
/-
  What the reference's functions answer is what the program's answer. (A text of this claim's own; nothing of it is trusted.)
-/
namespace Go.VS
open Go Go.VS.Walks
def diagAll (c : NetF) : Bool := diagOK c 0 && (diagOK c 1 && (diagOK c 2 && (diagOK c 3 && diagOK c 4)))
def canF (p : Paper) : Bool := diagAll (netR p 0) && diagAll (netR p 1)
theorem diagAll_iff {c : NetF} : diagAll c = true ↔ ∀ i, i < 5 → diagOK c i = true := by
  unfold diagAll
  simp only [Bool.and_eq_true]
  constructor
  · rintro ⟨h0, h1, h2, h3, h4⟩ i hi
    have : i = 0 ∨ i = 1 ∨ i = 2 ∨ i = 3 ∨ i = 4 := by omega
    rcases this with rfl | rfl | rfl | rfl | rfl <;> assumption
  · intro h; exact ⟨h 0 (by omega), h 1 (by omega), h 2 (by omega), h 3 (by omega), h 4 (by omega)⟩
theorem can_possible {p : Paper} (hok : zp p = true) : canF p = possibleF p := by
  have key : ∀ ax, diagAll (netR p ax) = (clashA p ax).isNone := by
    intro ax
    rw [Bool.eq_iff_iff, diagAll_iff, can_iff hok ax, Option.isNone_iff_eq_none]
  unfold canF possibleF
  rw [key, key]
theorem lo_dist2 (p : Paper) (ax : Int) (i : Nat) : loF p i ax = ⟨(distF p ax 0 (1 + i)).d, (distF p ax 0 (1 + i)).n⟩ := by
  unfold loF upF upO distF
  rw [show (1 + (i : Int)).toNat = 1 + i by omega, if_neg (by omega)]
section
variable {p : Paper} (hok : zp p = true) {ax : Int} (hc : clashA p ax = none) {u : Nat} (hu : p.sheets = u)
include hok hc hu
theorem net_lo {i : Nat} (hi : i < u) : loF p i ax = ⟨(netR p ax u i).d, (netR p ax u i).n⟩ := by
  have := net_dist hok hc hu (a := 0) (b := 1 + i) (by omega) (by omega)
  rw [show sig u 0 = u from rfl, show sig u (1 + i) = i by unfold sig; rw [if_neg (by omega)]; omega] at this
  rw [lo_dist2, this]
theorem net_hi {i : Nat} (hi : i < u) : hiF p i ax = netR p ax i u := by
  have := net_dist hok hc hu (a := 1 + i) (b := 0) (by omega) (by omega)
  rw [show sig u 0 = u from rfl, show sig u (1 + i) = i by unfold sig; rw [if_neg (by omega)]; omega] at this
  rw [hi_dist, this]
theorem net_betw {i j : Nat} (hi : i < u) (hj : j < u) : betwF p i j ax = netR p ax i j := by
  have := net_dist hok hc hu (a := 1 + i) (b := 1 + j) (by omega) (by omega)
  rw [show sig u (1 + j) = j by unfold sig; rw [if_neg (by omega)]; omega, show sig u (1 + i) = i by unfold sig; rw [if_neg (by omega)]; omega] at this
  rw [betw_dist, this]
end
end Go.VS
namespace Go.VS
open Go Go.Proofs
set_option maxHeartbeats 0
set_option linter.unusedSimpArgs false

theorem t23r (a b : Ratio) (ha : ratioOK a = true) (hb : ratioOK b = true) : (lim cfg).pure 23 [.agg [I a.n, I a.d], .agg [I b.n, I b.d]] = some (I (cmpR a b)) := by
  obtain ⟨an, ad⟩ := a
  obtain ⟨bn, bd⟩ := b
  simp only [ratioOK, Bool.and_eq_true, decide_eq_true_eq] at ha hb
  obtain ⟨x1, rfl⟩ := rat_nat (show 0 ≤ an by omega)
  obtain ⟨x2, rfl⟩ := rat_nat (show 0 ≤ ad by omega)
  obtain ⟨x3, rfl⟩ := rat_nat (show 0 ≤ bn by omega)
  obtain ⟨x4, rfl⟩ := rat_nat (show 0 ≤ bd by omega)
  exact t23 _ x1 x2 x3 x4 (Nat.le_refl _) (by omega) (by omega) (by omega) (by omega) (by omega) (by omega)

theorem t27 (a b : Ratio)  : (lim cfg).pure 27 [encR a, encR b] = some (.tup (if ratioOK a && ratioOK b then [I (cmpR a b), I 0] else [I 0, I 1])) := by
  have t76' := fun (r : Ratio) => t76 r
  simp only [encR] at t76'
  refine zq (zk 27) cfn27 rfl (n := 17) rfl ?_
  simp only [bW, if_true, Nat.reduceEqDiff, if_false, zm]
  repeat' first
    | (intro hb; first | cases hb | skip)
    | ((first | apply z8 | apply ze)
       · rfl
       · simp (disch := assumption) only [go_sem, Nat.reduceEqDiff, Nat.reduceAdd, bP, zf, Nat.reduceLeDiff, Nat.reduceLT, Nat.reduceMul, List.length_append, decide_eq_true_eq, z9, z6, Int.reduceToNat, Int.reduceLE, Int.reduceLT, Int.reduceBNe, Int.reduceBEq, t76', encR, t23r]
         rfl
       · simp only [go_sem, Nat.reduceLT, Nat.reduceEqDiff]
         rfl
       · rfl
       first
       | (apply zd
          · simp only [z5, z0, Nat.reduceLT, decide_true, cond_true, ins]
            rfl
          · simp only [z5, z0, Nat.reduceLT, decide_true, cond_true, ins]
            rfl)
       | (apply zh
          · simp only [z5, z0, Nat.reduceLT, decide_true, cond_true, ins]
            rfl))
    | ((first | apply zb | apply zc)
       · rfl
       · simp only [z5, z0, Nat.reduceLT, decide_true, cond_true, ins]
         rfl)
    | (apply za
       · simp only [go_sem, Nat.reduceEqDiff])
    | (apply z7
       · simp only [go_sem, Nat.reduceEqDiff])
    | (apply zg
       · kernel_rfl
       · kernel_rfl)
    | (simp only [bW, if_true, Nat.reduceEqDiff, if_false])
  all_goals simp only [go_sem, Nat.reduceEqDiff, bP, Nat.reduceAdd, Nat.reduceLeDiff, List.length_map, Tryd.f27]
  all_goals first | rfl | (simp_all []; done) | (simp_all []; intros; omega)

noncomputable def lp28_4 : Code := zz [1, 1, 0, 1, 0, 0] (zo Tryd.f28)
theorem lk28_4 : cfg.keep 28 (zr lp28_4) = [1, 3] := by kernel_rfl
noncomputable def lp28_10 : Code := zz [1, 1, 1, 0, 1, 0, 0] (zo Tryd.f28)
theorem lk28_10 : cfg.keep 28 (zr lp28_10) = [1, 5] := by kernel_rfl

theorem L28_4 {F : Exit → St → Option D} (p : Paper) (k : List Kt) (x : D) (hwf : p.wf) (hsh : IntKind.i64.wrap (p.sheets - 1) = p.sheets - 1) (hk : ∀ st, get st.tmps 2 = I 30 → zB cfg (lim cfg) 28 F k .ret st = some (I 30)) : ∀ (rest : List Mark) (i : Nat), p.marks.drop i = rest → i ≤ p.marks.length →
    ((∀ m ∈ rest, markOK p m = true) → zB cfg (lim cfg) 28 F k (.exit 0) ⟨140, [(27, B false), (26, I p.marks.length), (25, .sl p.nm (p.marks.map encM) (zs p.nm 5) none), (24, .lref 0 0 3 1), (23, I (p.marks.length : Nat)), (1, .lref 0 0 3 0), (3, I (p.marks.length : Nat))], [(0, ⟨[zu p], 3, false⟩)], 1, 0⟩ = some x) →
    ((∃ m ∈ rest, markOK p m = false) → x = I 30) →
    EvL cfg (lim cfg) 28 F lp28_4 k ⟨140, [(1, .lref 0 0 3 0), (3, I (i : Nat))], [(0, ⟨[zu p], 3, false⟩)], 1, 0⟩ = some x := by
  have hl := len_if (f := encM) hwf.1
  intro rest
  induction rest with
  | nil =>
    intro i hd hi h1 h0
    have hi' : i = p.marks.length := by
      have := List.drop_eq_nil_iff.1 hd
      omega
    subst hi'
    refine zj ?_
    try dsimp only [lp28_4, zz, zo, Tryd.f28]
    simp only [bW, if_true, Nat.reduceEqDiff, if_false]
    repeat' first
      | (intro hb; first | cases hb | skip)
      | ((first | apply z8 | apply ze)
         · rfl
         · simp (disch := assumption) only [go_sem, Nat.reduceEqDiff, Nat.reduceAdd, bP, zf, Nat.reduceLeDiff, Nat.reduceLT, Nat.reduceMul, List.length_append, decide_eq_true_eq, z9, z6, Int.reduceToNat, Int.reduceLE, Int.reduceLT, Int.reduceBNe, Int.reduceBEq, hl, Int.lt_irrefl]
           rfl
         · simp only [go_sem, Nat.reduceLT, Nat.reduceEqDiff]
           rfl
         · rfl
         first
         | (apply zd
            · simp only [z5, z0, Nat.reduceLT, decide_true, cond_true, ins]
              rfl
            · simp only [z5, z0, Nat.reduceLT, decide_true, cond_true, ins]
              rfl)
         | (apply zh
            · simp only [z5, z0, Nat.reduceLT, decide_true, cond_true, ins]
              rfl))
      | ((first | apply zb | apply zc)
         · rfl
         · simp only [z5, z0, Nat.reduceLT, decide_true, cond_true, ins]
           rfl)
      | (apply za
         · simp only [go_sem, Nat.reduceEqDiff])
      | (apply z7
         · simp only [go_sem, Nat.reduceEqDiff])
      | (apply zg
         · kernel_rfl
         · kernel_rfl)
      | (simp only [bW, if_true, Nat.reduceEqDiff, if_false])
    exact h1 (fun m hm => by cases hm)
  | cons m rest ih =>
    intro i hd hi h1 h0
    have hlt : i < p.marks.length := by
      rcases Nat.lt_or_ge i p.marks.length with h | h
      · exact h
      · rw [List.drop_eq_nil_of_le h] at hd; cases hd
    have hm : p.marks[i]? = some m := by rw [← List.head?_drop, hd]; rfl
    have hx : (p.marks.map encM)[i]? = some (.agg [I m.sheet, I m.axis, I m.tru, I m.seen, I m.err]) := by rw [List.getElem?_map, hm]; rfl
    have hnm : p.nm = false := by
      cases h : p.nm with
      | false => rfl
      | true => rw [hwf.1 h] at hlt; cases hlt
    have hlt' : (i : Int) < (p.marks.length : Int) := by omega
    have hlen := hwf.2.2.1
    have hwr : IntKind.i64.wrap ((i : Int) + 1) = ((i + 1 : Nat) : Int) := by rw [wrap_i64 (by omega) (by omega)]; omega
    have hlm : ((p.marks.map encM).length : Int) = (p.marks.length : Int) := by simp
    refine zj ?_
    try dsimp only [lp28_4, zz, zo, Tryd.f28]
    simp only [bW, if_true, Nat.reduceEqDiff, if_false]
    repeat' first
      | (intro hb; first | cases hb | skip)
      | ((first | apply z8 | apply ze)
         · rfl
         · simp (disch := assumption) only [go_sem, Nat.reduceEqDiff, Nat.reduceAdd, bP, zf, Nat.reduceLeDiff, Nat.reduceLT, Nat.reduceMul, List.length_append, decide_eq_true_eq, z9, z6, Int.reduceToNat, Int.reduceLE, Int.reduceLT, Int.reduceBNe, Int.reduceBEq, hlm, t77, hx, hnm, hlt', hwr, hsh]
           rfl
         · simp only [go_sem, Nat.reduceLT, Nat.reduceEqDiff]
           rfl
         · rfl
         first
         | (apply zd
            · simp only [z5, z0, Nat.reduceLT, decide_true, cond_true, ins]
              rfl
            · simp only [z5, z0, Nat.reduceLT, decide_true, cond_true, ins]
              rfl)
         | (apply zh
            · simp only [z5, z0, Nat.reduceLT, decide_true, cond_true, ins]
              rfl))
      | ((first | apply zb | apply zc)
         · rfl
         · simp only [z5, z0, Nat.reduceLT, decide_true, cond_true, ins]
           rfl)
      | (apply za
         · simp only [go_sem, Nat.reduceEqDiff])
      | (apply z7
         · simp only [go_sem, Nat.reduceEqDiff])
      | (apply zg
         · kernel_rfl
         · kernel_rfl)
      | (simp only [bW, if_true, Nat.reduceEqDiff, if_false])
    all_goals first
    | (have hx0 : x = I 30 := h0 ⟨m, List.mem_cons_self, by
         clear ih h1 h0 hk hwf hlm hl
         first | (simp_all [markOK, zy, isAxis, isSeen]; done) | (simp_all [markOK, zy, isAxis, isSeen, IntKind.wrap_i64]; intros; omega)⟩
       subst hx0
       exact hk _ rfl)
    | (refine zx (st1 := ⟨140, [(1, .lref 0 0 3 0), (3, I (i + 1 : Nat))], [(0, ⟨[zu p], 3, false⟩)], 1, 0⟩) lk28_4 (by kernel_rfl) (ih (i + 1) ?_ hlt (fun ha => h1 ?_) (fun ⟨m', hm', hb'⟩ => h0 ⟨m', List.mem_cons_of_mem _ hm', hb'⟩))
       · rw [← List.drop_drop, hd]; rfl
       · intro m' hm'
         rcases List.mem_cons.1 hm' with rfl | hm'
         · clear ih h1 h0 hk hwf ha hlm hl
           first | (simp_all [markOK, zy, isAxis, isSeen]; done) | (simp_all [markOK, zy, isAxis, isSeen, IntKind.wrap_i64]; omega)
         · exact ha m' hm')

theorem L28_10 {F : Exit → St → Option D} (p : Paper) (k : List Kt) (x : D) (hwf : p.wf) (hsh : IntKind.i64.wrap (p.sheets - 1) = p.sheets - 1) (hk : ∀ st, get st.tmps 2 = I 30 → zB cfg (lim cfg) 28 F k .ret st = some (I 30)) : ∀ (rest : List Join) (i : Nat), p.joins.drop i = rest → i ≤ p.joins.length →
    ((∀ m ∈ rest, joinOK p m = true) → zB cfg (lim cfg) 28 F k (.exit 2) ⟨140, [(73, B false), (72, I p.joins.length), (71, .sl p.nj (p.joins.map encJ) (zs p.nj 7) none), (70, .lref 0 0 3 2), (69, I (p.joins.length : Nat)), (1, .lref 0 0 3 0), (5, I (p.joins.length : Nat))], [(0, ⟨[zu p], 3, false⟩)], 1, 0⟩ = some x) →
    ((∃ m ∈ rest, joinOK p m = false) → x = I 30) →
    EvL cfg (lim cfg) 28 F lp28_10 k ⟨140, [(1, .lref 0 0 3 0), (5, I (i : Nat))], [(0, ⟨[zu p], 3, false⟩)], 1, 0⟩ = some x := by
  have hl := len_if (f := encJ) hwf.2.1
  intro rest
  induction rest with
  | nil =>
    intro i hd hi h1 h0
    have hi' : i = p.joins.length := by
      have := List.drop_eq_nil_iff.1 hd
      omega
    subst hi'
    refine zj ?_
    try dsimp only [lp28_10, zz, zo, Tryd.f28]
    simp only [bW, if_true, Nat.reduceEqDiff, if_false]
    repeat' first
      | (intro hb; first | cases hb | skip)
      | ((first | apply z8 | apply ze)
         · rfl
         · simp (disch := assumption) only [go_sem, Nat.reduceEqDiff, Nat.reduceAdd, bP, zf, Nat.reduceLeDiff, Nat.reduceLT, Nat.reduceMul, List.length_append, decide_eq_true_eq, z9, z6, Int.reduceToNat, Int.reduceLE, Int.reduceLT, Int.reduceBNe, Int.reduceBEq, hl, Int.lt_irrefl]
           rfl
         · simp only [go_sem, Nat.reduceLT, Nat.reduceEqDiff]
           rfl
         · rfl
         first
         | (apply zd
            · simp only [z5, z0, Nat.reduceLT, decide_true, cond_true, ins]
              rfl
            · simp only [z5, z0, Nat.reduceLT, decide_true, cond_true, ins]
              rfl)
         | (apply zh
            · simp only [z5, z0, Nat.reduceLT, decide_true, cond_true, ins]
              rfl))
      | ((first | apply zb | apply zc)
         · rfl
         · simp only [z5, z0, Nat.reduceLT, decide_true, cond_true, ins]
           rfl)
      | (apply za
         · simp only [go_sem, Nat.reduceEqDiff])
      | (apply z7
         · simp only [go_sem, Nat.reduceEqDiff])
      | (apply zg
         · kernel_rfl
         · kernel_rfl)
      | (simp only [bW, if_true, Nat.reduceEqDiff, if_false])
    exact h1 (fun m hm => by cases hm)
  | cons m rest ih =>
    intro i hd hi h1 h0
    have hlt : i < p.joins.length := by
      rcases Nat.lt_or_ge i p.joins.length with h | h
      · exact h
      · rw [List.drop_eq_nil_of_le h] at hd; cases hd
    have hm : p.joins[i]? = some m := by rw [← List.head?_drop, hd]; rfl
    have hx : (p.joins.map encJ)[i]? = some (.agg [I m.a, I m.b, I m.axis, I m.seenA, I m.errA, I m.seenB, I m.errB]) := by rw [List.getElem?_map, hm]; rfl
    have hnm : p.nj = false := by
      cases h : p.nj with
      | false => rfl
      | true => rw [hwf.2.1 h] at hlt; cases hlt
    have hlt' : (i : Int) < (p.joins.length : Int) := by omega
    have hlen := hwf.2.2.2
    have hwr : IntKind.i64.wrap ((i : Int) + 1) = ((i + 1 : Nat) : Int) := by rw [wrap_i64 (by omega) (by omega)]; omega
    have hlm : ((p.joins.map encJ).length : Int) = (p.joins.length : Int) := by simp
    refine zj ?_
    try dsimp only [lp28_10, zz, zo, Tryd.f28]
    simp only [bW, if_true, Nat.reduceEqDiff, if_false]
    repeat' first
      | (intro hb; first | cases hb | skip)
      | ((first | apply z8 | apply ze)
         · rfl
         · simp (disch := assumption) only [go_sem, Nat.reduceEqDiff, Nat.reduceAdd, bP, zf, Nat.reduceLeDiff, Nat.reduceLT, Nat.reduceMul, List.length_append, decide_eq_true_eq, z9, z6, Int.reduceToNat, Int.reduceLE, Int.reduceLT, Int.reduceBNe, Int.reduceBEq, hlm, t77, hx, hnm, hlt', hwr, hsh]
           rfl
         · simp only [go_sem, Nat.reduceLT, Nat.reduceEqDiff]
           rfl
         · rfl
         first
         | (apply zd
            · simp only [z5, z0, Nat.reduceLT, decide_true, cond_true, ins]
              rfl
            · simp only [z5, z0, Nat.reduceLT, decide_true, cond_true, ins]
              rfl)
         | (apply zh
            · simp only [z5, z0, Nat.reduceLT, decide_true, cond_true, ins]
              rfl))
      | ((first | apply zb | apply zc)
         · rfl
         · simp only [z5, z0, Nat.reduceLT, decide_true, cond_true, ins]
           rfl)
      | (apply za
         · simp only [go_sem, Nat.reduceEqDiff])
      | (apply z7
         · simp only [go_sem, Nat.reduceEqDiff])
      | (apply zg
         · kernel_rfl
         · kernel_rfl)
      | (simp only [bW, if_true, Nat.reduceEqDiff, if_false])
    all_goals first
    | (have hx0 : x = I 30 := h0 ⟨m, List.mem_cons_self, by
         clear ih h1 h0 hk hwf hlm hl
         first | (simp_all [joinOK, zy, isAxis, isSeen]; done) | (simp_all [joinOK, zy, isAxis, isSeen, IntKind.wrap_i64]; intros; omega)⟩
       subst hx0
       exact hk _ rfl)
    | (refine zx (st1 := ⟨140, [(1, .lref 0 0 3 0), (5, I (i + 1 : Nat))], [(0, ⟨[zu p], 3, false⟩)], 1, 0⟩) lk28_10 (by kernel_rfl) (ih (i + 1) ?_ hlt (fun ha => h1 ?_) (fun ⟨m', hm', hb'⟩ => h0 ⟨m', List.mem_cons_of_mem _ hm', hb'⟩))
       · rw [← List.drop_drop, hd]; rfl
       · intro m' hm'
         rcases List.mem_cons.1 hm' with rfl | hm'
         · clear ih h1 h0 hk hwf ha hlm hl
           first | (simp_all [joinOK, zy, isAxis, isSeen]; done) | (simp_all [joinOK, zy, isAxis, isSeen, IntKind.wrap_i64]; omega)
         · exact ha m' hm')

theorem t28 (p : Paper) (hwf : p.wf) : (lim cfg).pure 28 [zu p] = some (I (check p)) := by
  have hlm := len_if (f := encM) hwf.1
  have hlj := len_if (f := encJ) hwf.2.1
  refine zq (zk 28) cfn28 rfl (n := 140) rfl ?_
  generalize hF : finP cfg Tryd.f28 = F
  simp only [bW, if_true, Nat.reduceEqDiff, if_false, zm]
  have hret : ∀ (v : Int) st, get st.tmps 2 = I v → F .ret st = some (I v) := by
    intro v st h
    subst hF
    simp only [go_sem, Nat.reduceEqDiff, bP, Nat.reduceAdd, Nat.reduceLeDiff, List.length_map, Tryd.f28, h]
  cases hs : decide (1 ≤ p.sheets) && decide (p.sheets ≤ 4) with
  | false =>
    have hx0 : check p = 30 := by simp [check, zp, hs]
    rw [hx0]
    repeat' first
      | (intro hb; first | cases hb | skip)
      | ((first | apply z8 | apply ze)
         · rfl
         · simp (disch := assumption) only [go_sem, Nat.reduceEqDiff, Nat.reduceAdd, bP, zf, Nat.reduceLeDiff, Nat.reduceLT, Nat.reduceMul, List.length_append, decide_eq_true_eq, z9, z6, Int.reduceToNat, Int.reduceLE, Int.reduceLT, Int.reduceBNe, Int.reduceBEq, t77, hs, hlm, hlj]
           rfl
         · simp only [go_sem, Nat.reduceLT, Nat.reduceEqDiff]
           rfl
         · rfl
         first
         | (apply zd
            · simp only [z5, z0, Nat.reduceLT, decide_true, cond_true, ins]
              rfl
            · simp only [z5, z0, Nat.reduceLT, decide_true, cond_true, ins]
              rfl)
         | (apply zh
            · simp only [z5, z0, Nat.reduceLT, decide_true, cond_true, ins]
              rfl))
      | ((first | apply zb | apply zc)
         · rfl
         · simp only [z5, z0, Nat.reduceLT, decide_true, cond_true, ins]
           rfl)
      | (apply za
         · simp only [go_sem, Nat.reduceEqDiff])
      | (apply z7
         · simp only [go_sem, Nat.reduceEqDiff])
      | (apply zg
         · kernel_rfl
         · kernel_rfl)
      | (simp only [bW, if_true, Nat.reduceEqDiff, if_false])
    all_goals exact hret 30 _ rfl
  | true =>
    have hsh : IntKind.i64.wrap (p.sheets - 1) = p.sheets - 1 := by simp at hs; rw [wrap_i64 (by omega) (by omega)]
    repeat' first
      | (intro hb; first | cases hb | skip)
      | ((first | apply z8 | apply ze)
         · rfl
         · simp (disch := assumption) only [go_sem, Nat.reduceEqDiff, Nat.reduceAdd, bP, zf, Nat.reduceLeDiff, Nat.reduceLT, Nat.reduceMul, List.length_append, decide_eq_true_eq, z9, z6, Int.reduceToNat, Int.reduceLE, Int.reduceLT, Int.reduceBNe, Int.reduceBEq, t77, hs, hlm, hlj]
           rfl
         · simp only [go_sem, Nat.reduceLT, Nat.reduceEqDiff]
           rfl
         · rfl
         first
         | (apply zd
            · simp only [z5, z0, Nat.reduceLT, decide_true, cond_true, ins]
              rfl
            · simp only [z5, z0, Nat.reduceLT, decide_true, cond_true, ins]
              rfl)
         | (apply zh
            · simp only [z5, z0, Nat.reduceLT, decide_true, cond_true, ins]
              rfl))
      | ((first | apply zb | apply zc)
         · rfl
         · simp only [z5, z0, Nat.reduceLT, decide_true, cond_true, ins]
           rfl)
      | (apply za
         · simp only [go_sem, Nat.reduceEqDiff])
      | (apply z7
         · simp only [go_sem, Nat.reduceEqDiff])
      | (apply zg
         · kernel_rfl
         · kernel_rfl)
      | (simp only [bW, if_true, Nat.reduceEqDiff, if_false])
    all_goals try exact (by
      have hx0 : check p = 30 := by
        clear hret hF
        first | (simp_all [check, zp]; done) | (simp_all [check, zp]; intros; omega)
      rw [hx0]; exact hret 30 _ rfl)
    refine w_loop (st1 := ⟨140, [(1, .lref 0 0 3 0), (3, I (0 : Nat))], [(0, ⟨[zu p], 3, false⟩)], 1, 0⟩) lk28_4 (by kernel_rfl) (L28_4 p _ _ hwf hsh (fun st h => by simp only [bW, if_true, Nat.reduceEqDiff, if_false]; exact hret 30 st h) p.marks 0 rfl (Nat.zero_le _) (fun hm => ?_) (fun ⟨m, h1, h2⟩ => ?_))
    · simp only [bW, if_true, Nat.reduceEqDiff, if_false]
      repeat' first
        | (intro hb; first | cases hb | skip)
        | ((first | apply z8 | apply ze)
           · rfl
           · simp (disch := assumption) only [go_sem, Nat.reduceEqDiff, Nat.reduceAdd, bP, zf, Nat.reduceLeDiff, Nat.reduceLT, Nat.reduceMul, List.length_append, decide_eq_true_eq, z9, z6, Int.reduceToNat, Int.reduceLE, Int.reduceLT, Int.reduceBNe, Int.reduceBEq, hlm, hlj]
             rfl
           · simp only [go_sem, Nat.reduceLT, Nat.reduceEqDiff]
             rfl
           · rfl
           first
           | (apply zd
              · simp only [z5, z0, Nat.reduceLT, decide_true, cond_true, ins]
                rfl
              · simp only [z5, z0, Nat.reduceLT, decide_true, cond_true, ins]
                rfl)
           | (apply zh
              · simp only [z5, z0, Nat.reduceLT, decide_true, cond_true, ins]
                rfl))
        | ((first | apply zb | apply zc)
           · rfl
           · simp only [z5, z0, Nat.reduceLT, decide_true, cond_true, ins]
             rfl)
        | (apply za
           · simp only [go_sem, Nat.reduceEqDiff])
        | (apply z7
           · simp only [go_sem, Nat.reduceEqDiff])
        | (apply zg
           · kernel_rfl
           · kernel_rfl)
        | (simp only [bW, if_true, Nat.reduceEqDiff, if_false])
      refine w_loop (st1 := ⟨140, [(1, .lref 0 0 3 0), (5, I (0 : Nat))], [(0, ⟨[zu p], 3, false⟩)], 1, 0⟩) lk28_10 (by kernel_rfl) (L28_10 p _ _ hwf hsh (fun st h => by simp only [bW, if_true, Nat.reduceEqDiff, if_false]; exact hret 30 st h) p.joins 0 rfl (Nat.zero_le _) (fun hj => ?_) (fun ⟨m, h1, h2⟩ => ?_))
      · simp only [bW, if_true, Nat.reduceEqDiff, if_false]
        have hx0 : check p = 0 := by
          clear hret hF
          simp_all [check, zp]
          try omega
        rw [hx0]
        repeat' first
          | (intro hb; first | cases hb | skip)
          | ((first | apply z8 | apply ze)
             · rfl
             · simp (disch := assumption) only [go_sem, Nat.reduceEqDiff, Nat.reduceAdd, bP, zf, Nat.reduceLeDiff, Nat.reduceLT, Nat.reduceMul, List.length_append, decide_eq_true_eq, z9, z6, Int.reduceToNat, Int.reduceLE, Int.reduceLT, Int.reduceBNe, Int.reduceBEq, hlm, hlj]
               rfl
             · simp only [go_sem, Nat.reduceLT, Nat.reduceEqDiff]
               rfl
             · rfl
             first
             | (apply zd
                · simp only [z5, z0, Nat.reduceLT, decide_true, cond_true, ins]
                  rfl
                · simp only [z5, z0, Nat.reduceLT, decide_true, cond_true, ins]
                  rfl)
             | (apply zh
                · simp only [z5, z0, Nat.reduceLT, decide_true, cond_true, ins]
                  rfl))
          | ((first | apply zb | apply zc)
             · rfl
             · simp only [z5, z0, Nat.reduceLT, decide_true, cond_true, ins]
               rfl)
          | (apply za
             · simp only [go_sem, Nat.reduceEqDiff])
          | (apply z7
             · simp only [go_sem, Nat.reduceEqDiff])
          | (apply zg
             · kernel_rfl
             · kernel_rfl)
          | (simp only [bW, if_true, Nat.reduceEqDiff, if_false])
        exact hret 0 _ rfl
      · clear hret hF
        have : p.joins.all (joinOK p) = false := by rw [List.all_eq_false]; exact ⟨m, h1, by simp [h2]⟩
        simp [check, zp, this]
    · clear hret hF
      have : p.marks.all (markOK p) = false := by rw [List.all_eq_false]; exact ⟨m, h1, by simp [h2]⟩
      simp [check, zp, this]

end Go.VS
namespace Go.VS
open Go Go.Proofs
set_option maxHeartbeats 0
set_option linter.unusedSimpArgs false

noncomputable def lp84_3 : Code := zz [1, 1, 0, 1, 0, 0] (zo Tryd.f84)
theorem lk84_3 : cfg.keep 84 (zr lp84_3) = [1, 2, 4, 5, 6] := by kernel_rfl
noncomputable def lp84_8 : Code := zz [1, 1, 1, 1, 0, 1, 0, 0] (zo Tryd.f84)
theorem lk84_8 : cfg.keep 84 (zr lp84_8) = [4, 5, 7, 8] := by kernel_rfl

noncomputable def lp80_2 : Code := zz [1, 0, 1, 0, 0] (zo Tryd.f80)
theorem lk80_2 : cfg.keep 80 (zr lp80_2) = [1, 3] := by kernel_rfl
noncomputable def lp80_6 : Code := zz [1, 0, 1, 0, 0, 1, 0, 0, 1, 1, 0, 0] (zo Tryd.f80)
theorem lk80_6 : cfg.keep 80 (zr lp80_6) = [1, 3, 4, 5] := by kernel_rfl

noncomputable def lp82_7 : Code := zz [1, 1, 1, 0, 1, 0, 0] (zo Tryd.f82)
theorem lk82_7 : cfg.keep 82 (zr lp82_7) = [1, 2, 3, 8] := by kernel_rfl

def diagF (k : Nat) : NetF := fun i j => if i = j ∧ i < k then ⟨1, 1⟩ else ⟨0, 0⟩
theorem cN_drop {c : NetF} : (cN c).drop 50 = [] := rfl
theorem diag_step {k : Nat} (hk : k < 5) : cN (putF (diagF k) k k ⟨1, 1⟩) = cN (diagF (k + 1)) := by
  rcases five hk with rfl | rfl | rfl | rfl | rfl <;> rfl
theorem L84_3 {F : Exit → St → Option D} (p : Paper) (ax : Int) (k : List Kt) (x : D) (h : zB cfg (lim cfg) 84 F k (.exit 0) ⟨29, [(10, B false), (9, I (5 : Nat)), (1, I ax), (2, .lref 0 0 3 0), (4, .lref 1 0 50 0), (5, .lref 2 0 50 0), (6, I (5 : Nat))], [(0, ⟨[zu p], 3, false⟩), (1, ⟨[.agg zN], 50, false⟩), (2, ⟨[.agg (cN (diagF 5))], 50, false⟩)], 3, 0⟩ = some x) : ∀ (n i : Nat), i + n = 5 → EvL cfg (lim cfg) 84 F lp84_3 k ⟨29, [(1, I ax), (2, .lref 0 0 3 0), (4, .lref 1 0 50 0), (5, .lref 2 0 50 0), (6, I (i : Nat))], [(0, ⟨[zu p], 3, false⟩), (1, ⟨[.agg zN], 50, false⟩), (2, ⟨[.agg (cN (diagF i))], 50, false⟩)], 3, 0⟩ = some x := by
  intro n
  induction n with
  | zero =>
    intro i hi
    obtain rfl : i = 5 := by omega
    refine zj ?_
    try dsimp only [lp84_3, zz, zo, Tryd.f84]
    simp only [bW, if_true, Nat.reduceEqDiff, if_false]
    repeat' first
      | (intro hb; first | cases hb | skip)
      | ((first | apply z8 | apply ze)
         · rfl
         · simp (disch := assumption) only [go_sem, Nat.reduceEqDiff, Nat.reduceAdd, bP, zf, Nat.reduceLeDiff, Nat.reduceLT, Nat.reduceMul, List.length_append, decide_eq_true_eq, z9, z6, Int.reduceToNat, Int.reduceLE, Int.reduceLT, Int.reduceBNe, Int.reduceBEq, show (decide (((5 : Nat) : Int) < 5)) = false from rfl]
           rfl
         · simp only [go_sem, Nat.reduceLT, Nat.reduceEqDiff]
           rfl
         · rfl
         first
         | (apply zd
            · simp only [z5, z0, Nat.reduceLT, decide_true, cond_true, ins]
              rfl
            · simp only [z5, z0, Nat.reduceLT, decide_true, cond_true, ins]
              rfl)
         | (apply zh
            · simp only [z5, z0, Nat.reduceLT, decide_true, cond_true, ins]
              rfl))
      | ((first | apply zb | apply zc)
         · rfl
         · simp only [z5, z0, Nat.reduceLT, decide_true, cond_true, ins]
           rfl)
      | (apply za
         · simp only [go_sem, Nat.reduceEqDiff])
      | (apply z7
         · simp only [go_sem, Nat.reduceEqDiff])
      | (apply zg
         · kernel_rfl
         · kernel_rfl)
      | (simp only [bW, if_true, Nat.reduceEqDiff, if_false])
    exact h
  | succ n ih =>
    intro i hi
    have hi5 : i < 5 := by omega
    have hi1 : ((i : Int) < 5) = True := by simp; omega
    have hi2 : (i < 5) = True := by simp; omega
    have hw3 : IntKind.i64.wrap ((i : Int) + 1) = ((i + 1 : Nat) : Int) := by rw [wrap_i64 (by omega) (by omega)]; omega
    have ha50 : (i * 10 + i * 2 + 2 ≤ 50) = True := by simp; omega
    have hput := (cN_put (c := diagF i) (r := ⟨1, 1⟩) hi5 hi5).trans (diag_step hi5)
    simp only [] at hput
    refine zj ?_
    try dsimp only [lp84_3, zz, zo, Tryd.f84]
    simp only [bW, if_true, Nat.reduceEqDiff, if_false]
    repeat' first
      | (intro hb; first | cases hb | skip)
      | ((first | apply z8 | apply ze)
         · rfl
         · simp (disch := assumption) only [go_sem, Nat.reduceEqDiff, Nat.reduceAdd, bP, zf, Nat.reduceLeDiff, Nat.reduceLT, Nat.reduceMul, List.length_append, decide_eq_true_eq, z9, z6, Int.reduceToNat, Int.reduceLE, Int.reduceLT, Int.reduceBNe, Int.reduceBEq, hi1, hi2, hw3, ha50, hput, cN_len, cN_one, cN_take, zN_len, zN_one, zN_drop]
           rfl
         · simp only [go_sem, Nat.reduceLT, Nat.reduceEqDiff]
           rfl
         · rfl
         first
         | (apply zd
            · simp only [z5, z0, Nat.reduceLT, decide_true, cond_true, ins]
              rfl
            · simp only [z5, z0, Nat.reduceLT, decide_true, cond_true, ins]
              rfl)
         | (apply zh
            · simp only [z5, z0, Nat.reduceLT, decide_true, cond_true, ins]
              rfl))
      | ((first | apply zb | apply zc)
         · rfl
         · simp only [z5, z0, Nat.reduceLT, decide_true, cond_true, ins]
           rfl)
      | (apply za
         · simp only [go_sem, Nat.reduceEqDiff])
      | (apply z7
         · simp only [go_sem, Nat.reduceEqDiff])
      | (apply zg
         · kernel_rfl
         · kernel_rfl)
      | (simp only [bW, if_true, Nat.reduceEqDiff, if_false])
    refine zx (st1 := ⟨29, [(1, I ax), (2, .lref 0 0 3 0), (4, .lref 1 0 50 0), (5, .lref 2 0 50 0), (6, I (i + 1 : Nat))], [(0, ⟨[zu p], 3, false⟩), (1, ⟨[.agg zN], 50, false⟩), (2, ⟨[.agg (cN (diagF (i + 1)))], 50, false⟩)], 3, 0⟩) lk84_3 (by
      simp only [go_sem, List.map_append, Nat.reduceEqDiff, Nat.reduceLT, Nat.reduceAdd, bI, bD, bI2, cN_ids, cN_ren, zN_ids, zN_ren]
      try rfl) (ih (i + 1) (by omega))

theorem L84_8 {F : Exit → St → Option D} (es : List Edge) (k : List Kt) (x : D) (hes : ∀ e ∈ es, eB e) (hlen : es.length ≤ 1000) : ∀ (n i : Nat) (c : NetF), i + n = 5 → nB (2000 ^ i) c →
    zB cfg (lim cfg) 84 F k (.exit 2) ⟨29, [(22, B false), (21, I (5 : Nat)), (4, .lref 0 0 50 0), (5, .lref 1 0 50 0), (7, .sl false (es.map encY) 7 none), (8, I (5 : Nat))], [(0, ⟨[.agg zN], 50, false⟩), (1, ⟨[.agg (cN (iterF es n c))], 50, false⟩)], 2, 0⟩ = some x →
    EvL cfg (lim cfg) 84 F lp84_8 k ⟨29, [(4, .lref 0 0 50 0), (5, .lref 1 0 50 0), (7, .sl false (es.map encY) 7 none), (8, I (i : Nat))], [(0, ⟨[.agg zN], 50, false⟩), (1, ⟨[.agg (cN (c))], 50, false⟩)], 2, 0⟩ = some x := by
  intro n
  induction n with
  | zero =>
    intro i c hi hc h
    obtain rfl : i = 5 := by omega
    simp only [iterF] at h
    refine zj ?_
    try dsimp only [lp84_8, zz, zo, Tryd.f84]
    simp only [bW, if_true, Nat.reduceEqDiff, if_false]
    repeat' first
      | (intro hb; first | cases hb | skip)
      | ((first | apply z8 | apply ze)
         · rfl
         · simp (disch := assumption) only [go_sem, Nat.reduceEqDiff, Nat.reduceAdd, bP, zf, Nat.reduceLeDiff, Nat.reduceLT, Nat.reduceMul, List.length_append, decide_eq_true_eq, z9, z6, Int.reduceToNat, Int.reduceLE, Int.reduceLT, Int.reduceBNe, Int.reduceBEq, show (decide (((5 : Nat) : Int) < 5)) = false from rfl]
           rfl
         · simp only [go_sem, Nat.reduceLT, Nat.reduceEqDiff]
           rfl
         · rfl
         first
         | (apply zd
            · simp only [z5, z0, Nat.reduceLT, decide_true, cond_true, ins]
              rfl
            · simp only [z5, z0, Nat.reduceLT, decide_true, cond_true, ins]
              rfl)
         | (apply zh
            · simp only [z5, z0, Nat.reduceLT, decide_true, cond_true, ins]
              rfl))
      | ((first | apply zb | apply zc)
         · rfl
         · simp only [z5, z0, Nat.reduceLT, decide_true, cond_true, ins]
           rfl)
      | (apply za
         · simp only [go_sem, Nat.reduceEqDiff])
      | (apply z7
         · simp only [go_sem, Nat.reduceEqDiff])
      | (apply zg
         · kernel_rfl
         · kernel_rfl)
      | (simp only [bW, if_true, Nat.reduceEqDiff, if_false])
    exact h
  | succ n ih =>
    intro i c hi hc h
    have hi1 : ((i : Int) < 5) = True := by simp; omega
    have hw3 : IntKind.i64.wrap ((i : Int) + 1) = ((i + 1 : Nat) : Int) := by rw [wrap_i64 (by omega) (by omega)]; omega
    have hp1 : (1 : Int) ≤ 2000 ^ i := Int.pow_pos (by omega)
    have hp2 : (2000 : Int) ^ i ≤ 16000000000000 := by
      rcases five (show i < 5 by omega) with rfl | rfl | rfl | rfl | rfl <;> decide
    have h110 := t110 es c (2000 ^ i) hp1 hp2 hc hes hlen
    have hc' := longB hp1 hc hes
    rw [Int.mul_comm, ← Int.pow_succ] at hc'
    simp only [iterF] at h
    refine zj ?_
    try dsimp only [lp84_8, zz, zo, Tryd.f84]
    simp only [bW, if_true, Nat.reduceEqDiff, if_false]
    repeat' first
      | (intro hb; first | cases hb | skip)
      | ((first | apply z8 | apply ze)
         · rfl
         · simp (disch := assumption) only [go_sem, Nat.reduceEqDiff, Nat.reduceAdd, bP, zf, Nat.reduceLeDiff, Nat.reduceLT, Nat.reduceMul, List.length_append, decide_eq_true_eq, z9, z6, Int.reduceToNat, Int.reduceLE, Int.reduceLT, Int.reduceBNe, Int.reduceBEq, hi1, hw3, h110, cN_snap, cN_flat, okY.snapAll, cN_drop, cN_len, cN_one, cN_take, zN_len, zN_one, zN_drop]
           rfl
         · simp only [go_sem, Nat.reduceLT, Nat.reduceEqDiff]
           rfl
         · rfl
         first
         | (apply zd
            · simp only [z5, z0, Nat.reduceLT, decide_true, cond_true, ins]
              rfl
            · simp only [z5, z0, Nat.reduceLT, decide_true, cond_true, ins]
              rfl)
         | (apply zh
            · simp only [z5, z0, Nat.reduceLT, decide_true, cond_true, ins]
              rfl))
      | ((first | apply zb | apply zc)
         · rfl
         · simp only [z5, z0, Nat.reduceLT, decide_true, cond_true, ins]
           rfl)
      | (apply za
         · simp only [go_sem, Nat.reduceEqDiff])
      | (apply z7
         · simp only [go_sem, Nat.reduceEqDiff])
      | (apply zg
         · kernel_rfl
         · kernel_rfl)
      | (simp only [bW, if_true, Nat.reduceEqDiff, if_false])
    refine zx (st1 := ⟨29, [(4, .lref 0 0 50 0), (5, .lref 1 0 50 0), (7, .sl false (es.map encY) 7 none), (8, I (i + 1 : Nat))], [(0, ⟨[.agg zN], 50, false⟩), (1, ⟨[.agg (cN (foldF c es c))], 50, false⟩)], 2, 0⟩) lk84_8 (by
      simp only [go_sem, List.map_append, Nat.reduceEqDiff, Nat.reduceLT, Nat.reduceAdd, bI, bD, bI2, cN_ids, cN_ren, zN_ids, zN_ren]
      try rfl) (ih (i + 1) _ (by omega) hc' h)

theorem t84 (p : Paper) (ax : Int) (hwf : p.wf) (hok : zp p = true) : (lim cfg).pure 84 [zu p, I ax] = some (.agg (cN (netR p ax))) := by
  have h109 := t109 p ax hwf hok
  obtain ⟨r1, r2⟩ := refE_len hok ax
  have hb := refE_B hok ax
  unfold netR
  rw [show startF = diagF 5 from rfl]
  generalize refE p ax = es at *
  refine zq (zk 84) cfn84 rfl (n := 29) rfl ?_
  generalize hF : finP cfg Tryd.f84 = F
  simp only [bW, if_true, Nat.reduceEqDiff, if_false, zm]
  repeat' first
    | (intro hb; first | cases hb | skip)
    | ((first | apply z8 | apply ze)
       · rfl
       · simp (disch := assumption) only [go_sem, Nat.reduceEqDiff, Nat.reduceAdd, bP, zf, Nat.reduceLeDiff, Nat.reduceLT, Nat.reduceMul, List.length_append, decide_eq_true_eq, z9, z6, Int.reduceToNat, Int.reduceLE, Int.reduceLT, Int.reduceBNe, Int.reduceBEq, cN_len, cN_one, cN_take, zN_len, zN_one, zN_drop]
         rfl
       · simp only [go_sem, Nat.reduceLT, Nat.reduceEqDiff]
         rfl
       · rfl
       first
       | (apply zd
          · simp only [z5, z0, Nat.reduceLT, decide_true, cond_true, ins]
            rfl
          · simp only [z5, z0, Nat.reduceLT, decide_true, cond_true, ins]
            rfl)
       | (apply zh
          · simp only [z5, z0, Nat.reduceLT, decide_true, cond_true, ins]
            rfl))
    | ((first | apply zb | apply zc)
       · rfl
       · simp only [z5, z0, Nat.reduceLT, decide_true, cond_true, ins]
         rfl)
    | (apply za
       · simp only [go_sem, Nat.reduceEqDiff])
    | (apply z7
       · simp only [go_sem, Nat.reduceEqDiff])
    | (apply zg
       · kernel_rfl
       · kernel_rfl)
    | (simp only [bW, if_true, Nat.reduceEqDiff, if_false])
  refine w_loop (st1 := ⟨29, [(1, I ax), (2, .lref 0 0 3 0), (4, .lref 1 0 50 0), (5, .lref 2 0 50 0), (6, I (0 : Nat))], [(0, ⟨[zu p], 3, false⟩), (1, ⟨[.agg zN], 50, false⟩), (2, ⟨[.agg (cN (diagF 0))], 50, false⟩)], 3, 0⟩) lk84_3 (by
    simp only [go_sem, List.map_append, Nat.reduceEqDiff, Nat.reduceLT, Nat.reduceAdd, bI, bD, bI2, cN_ids, cN_ren, zN_ids, zN_ren]
    try rfl) (L84_3 p ax _ _ ?_ 5 0 rfl)
  simp only [bW, if_true, Nat.reduceEqDiff, if_false]
  repeat' first
    | (intro hb; first | cases hb | skip)
    | ((first | apply z8 | apply ze)
       · rfl
       · simp (disch := assumption) only [go_sem, Nat.reduceEqDiff, Nat.reduceAdd, bP, zf, Nat.reduceLeDiff, Nat.reduceLT, Nat.reduceMul, List.length_append, decide_eq_true_eq, z9, z6, Int.reduceToNat, Int.reduceLE, Int.reduceLT, Int.reduceBNe, Int.reduceBEq, h109, cN_len, cN_one, cN_take, zN_len, zN_one, zN_drop]
         rfl
       · simp only [go_sem, Nat.reduceLT, Nat.reduceEqDiff]
         rfl
       · rfl
       first
       | (apply zd
          · simp only [z5, z0, Nat.reduceLT, decide_true, cond_true, ins]
            rfl
          · simp only [z5, z0, Nat.reduceLT, decide_true, cond_true, ins]
            rfl)
       | (apply zh
          · simp only [z5, z0, Nat.reduceLT, decide_true, cond_true, ins]
            rfl))
    | ((first | apply zb | apply zc)
       · rfl
       · simp only [z5, z0, Nat.reduceLT, decide_true, cond_true, ins]
         rfl)
    | (apply za
       · simp only [go_sem, Nat.reduceEqDiff])
    | (apply z7
       · simp only [go_sem, Nat.reduceEqDiff])
    | (apply zg
       · kernel_rfl
       · kernel_rfl)
    | (simp only [bW, if_true, Nat.reduceEqDiff, if_false])
  refine w_loop (st1 := ⟨29, [(4, .lref 0 0 50 0), (5, .lref 1 0 50 0), (7, .sl false (es.map encY) 7 none), (8, I (0 : Nat))], [(0, ⟨[.agg zN], 50, false⟩), (1, ⟨[.agg (cN (diagF 5))], 50, false⟩)], 2, 0⟩) lk84_8 (by
    simp only [go_sem, List.map_append, Nat.reduceEqDiff, Nat.reduceLT, Nat.reduceAdd, bI, bD, bI2, cN_ids, cN_ren, zN_ids, zN_ren]
    try rfl) (L84_8 es _ _ hb r1 5 0 _ rfl startB ?_)
  simp only [bW, if_true, Nat.reduceEqDiff, if_false]
  repeat' first
    | (intro hb; first | cases hb | skip)
    | ((first | apply z8 | apply ze)
       · rfl
       · simp (disch := assumption) only [go_sem, Nat.reduceEqDiff, Nat.reduceAdd, bP, zf, Nat.reduceLeDiff, Nat.reduceLT, Nat.reduceMul, List.length_append, decide_eq_true_eq, z9, z6, Int.reduceToNat, Int.reduceLE, Int.reduceLT, Int.reduceBNe, Int.reduceBEq, cN_len, cN_one, cN_take, zN_len, zN_one, zN_drop]
         rfl
       · simp only [go_sem, Nat.reduceLT, Nat.reduceEqDiff]
         rfl
       · rfl
       first
       | (apply zd
          · simp only [z5, z0, Nat.reduceLT, decide_true, cond_true, ins]
            rfl
          · simp only [z5, z0, Nat.reduceLT, decide_true, cond_true, ins]
            rfl)
       | (apply zh
          · simp only [z5, z0, Nat.reduceLT, decide_true, cond_true, ins]
            rfl))
    | ((first | apply zb | apply zc)
       · rfl
       · simp only [z5, z0, Nat.reduceLT, decide_true, cond_true, ins]
         rfl)
    | (apply za
       · simp only [go_sem, Nat.reduceEqDiff])
    | (apply z7
       · simp only [go_sem, Nat.reduceEqDiff])
    | (apply zg
       · kernel_rfl
       · kernel_rfl)
    | (simp only [bW, if_true, Nat.reduceEqDiff, if_false])
  subst hF
  simp only [go_sem, Nat.reduceEqDiff, bP, Nat.reduceAdd, Nat.reduceLeDiff, List.length_map, Tryd.f84, cN_len, cN_one, cN_take, zN_len, zN_one, zN_drop, cN_snap]

theorem t98 (n d : Int) : (lim cfg).pure 98 [.agg [I n, I d]] = some (.agg [I d, I n]) := by
  refine zq (zk 98) cfn98 rfl (n := 8) rfl ?_
  simp only [bW, if_true, Nat.reduceEqDiff, if_false, zm]
  repeat' first
    | (intro hb; first | cases hb | skip)
    | ((first | apply z8 | apply ze)
       · rfl
       · simp (disch := assumption) only [go_sem, Nat.reduceEqDiff, Nat.reduceAdd, bP, zf, Nat.reduceLeDiff, Nat.reduceLT, Nat.reduceMul, List.length_append, decide_eq_true_eq, z9, z6, Int.reduceToNat, Int.reduceLE, Int.reduceLT, Int.reduceBNe, Int.reduceBEq]
         rfl
       · simp only [go_sem, Nat.reduceLT, Nat.reduceEqDiff]
         rfl
       · rfl
       first
       | (apply zd
          · simp only [z5, z0, Nat.reduceLT, decide_true, cond_true, ins]
            rfl
          · simp only [z5, z0, Nat.reduceLT, decide_true, cond_true, ins]
            rfl)
       | (apply zh
          · simp only [z5, z0, Nat.reduceLT, decide_true, cond_true, ins]
            rfl))
    | ((first | apply zb | apply zc)
       · rfl
       · simp only [z5, z0, Nat.reduceLT, decide_true, cond_true, ins]
         rfl)
    | (apply za
       · simp only [go_sem, Nat.reduceEqDiff])
    | (apply z7
       · simp only [go_sem, Nat.reduceEqDiff])
    | (apply zg
       · kernel_rfl
       · kernel_rfl)
    | (simp only [bW, if_true, Nat.reduceEqDiff, if_false])
  all_goals simp only [go_sem, Nat.reduceEqDiff, bP, Nat.reduceAdd, Nat.reduceLeDiff, List.length_map, Tryd.f98]
  all_goals first | rfl | (simp_all []; done) | (simp_all []; intros; omega)

theorem L80_6 {F : Exit → St → Option D} (p : Paper) (c : NetF) (a : Int) (k : List Kt) (x : D) (hk : ∀ st, get st.tmps 2 = B false → zB cfg (lim cfg) 80 F k .ret st = some (B false)) : ∀ (n j : Nat), j + n = 5 →
    ((∀ i, j ≤ i → i < 5 → diagOK c i = true) → zB cfg (lim cfg) 80 F k (.exit 2) ⟨30, [(14, B false), (13, I (5 : Nat)), (1, .lref 0 0 3 0), (3, I a), (4, .lref 1 0 50 0), (5, I (5 : Nat))], [(0, ⟨[zu p], 3, false⟩), (1, ⟨[.agg (cN (c))], 50, false⟩)], 2, 0⟩ = some x) →
    ((∃ i, j ≤ i ∧ i < 5 ∧ diagOK c i = false) → x = B false) →
    EvL cfg (lim cfg) 80 F lp80_6 k ⟨30, [(1, .lref 0 0 3 0), (3, I a), (4, .lref 1 0 50 0), (5, I (j : Nat))], [(0, ⟨[zu p], 3, false⟩), (1, ⟨[.agg (cN (c))], 50, false⟩)], 2, 0⟩ = some x := by
  intro n
  induction n with
  | zero =>
    intro j hj h h'
    obtain rfl : j = 5 := by omega
    refine zj ?_
    try dsimp only [lp80_6, zz, zo, Tryd.f80]
    simp only [bW, if_true, Nat.reduceEqDiff, if_false]
    repeat' first
      | (intro hb; first | cases hb | skip)
      | ((first | apply z8 | apply ze)
         · rfl
         · simp (disch := assumption) only [go_sem, Nat.reduceEqDiff, Nat.reduceAdd, bP, zf, Nat.reduceLeDiff, Nat.reduceLT, Nat.reduceMul, List.length_append, decide_eq_true_eq, z9, z6, Int.reduceToNat, Int.reduceLE, Int.reduceLT, Int.reduceBNe, Int.reduceBEq, show (decide (((5 : Nat) : Int) < 5)) = false from rfl]
           rfl
         · simp only [go_sem, Nat.reduceLT, Nat.reduceEqDiff]
           rfl
         · rfl
         first
         | (apply zd
            · simp only [z5, z0, Nat.reduceLT, decide_true, cond_true, ins]
              rfl
            · simp only [z5, z0, Nat.reduceLT, decide_true, cond_true, ins]
              rfl)
         | (apply zh
            · simp only [z5, z0, Nat.reduceLT, decide_true, cond_true, ins]
              rfl))
      | ((first | apply zb | apply zc)
         · rfl
         · simp only [z5, z0, Nat.reduceLT, decide_true, cond_true, ins]
           rfl)
      | (apply za
         · simp only [go_sem, Nat.reduceEqDiff])
      | (apply z7
         · simp only [go_sem, Nat.reduceEqDiff])
      | (apply zg
         · kernel_rfl
         · kernel_rfl)
      | (simp only [bW, if_true, Nat.reduceEqDiff, if_false])
    exact h fun i h1 h2 => by omega
  | succ n ih =>
    intro j hj h h'
    have hj5 : j < 5 := by omega
    have hi1 : ((j : Int) < 5) = True := by simp; omega
    have hi2 : (j < 5) = True := by simp; omega
    have hw3 : IntKind.i64.wrap ((j : Int) + 1) = ((j + 1 : Nat) : Int) := by rw [wrap_i64 (by omega) (by omega)]; omega
    obtain ⟨hN, hN2, hD⟩ := cN_get (c := c) hj5 hj5
    cases hd : diagOK c j with
    | true =>
      have hd1 : decide ((c j j).n < (c j j).d) = false := by simpa [diagOK] using hd
      refine zj ?_
      try dsimp only [lp80_6, zz, zo, Tryd.f80]
      simp only [bW, if_true, Nat.reduceEqDiff, if_false]
      repeat' first
        | (intro hb; first | cases hb | skip)
        | ((first | apply z8 | apply ze)
           · rfl
           · simp (disch := assumption) only [go_sem, Nat.reduceEqDiff, Nat.reduceAdd, bP, zf, Nat.reduceLeDiff, Nat.reduceLT, Nat.reduceMul, List.length_append, decide_eq_true_eq, z9, z6, Int.reduceToNat, Int.reduceLE, Int.reduceLT, Int.reduceBNe, Int.reduceBEq, hi1, hi2, hw3, hN, hN2, hd1, cN_len, cN_one, cN_take, zN_len, zN_one, zN_drop]
             rfl
           · simp only [go_sem, Nat.reduceLT, Nat.reduceEqDiff]
             rfl
           · rfl
           first
           | (apply zd
              · simp only [z5, z0, Nat.reduceLT, decide_true, cond_true, ins]
                rfl
              · simp only [z5, z0, Nat.reduceLT, decide_true, cond_true, ins]
                rfl)
           | (apply zh
              · simp only [z5, z0, Nat.reduceLT, decide_true, cond_true, ins]
                rfl))
        | ((first | apply zb | apply zc)
           · rfl
           · simp only [z5, z0, Nat.reduceLT, decide_true, cond_true, ins]
             rfl)
        | (apply za
           · simp only [go_sem, Nat.reduceEqDiff])
        | (apply z7
           · simp only [go_sem, Nat.reduceEqDiff])
        | (apply zg
           · kernel_rfl
           · kernel_rfl)
        | (simp only [bW, if_true, Nat.reduceEqDiff, if_false])
      refine zx (st1 := ⟨30, [(1, .lref 0 0 3 0), (3, I a), (4, .lref 1 0 50 0), (5, I (j + 1 : Nat))], [(0, ⟨[zu p], 3, false⟩), (1, ⟨[.agg (cN (c))], 50, false⟩)], 2, 0⟩) lk80_6 (by
        simp only [go_sem, List.map_append, Nat.reduceEqDiff, Nat.reduceLT, Nat.reduceAdd, bI, bD, bI2, cN_ids, cN_ren, zN_ids, zN_ren, zu]
        try rfl) (ih (j + 1) (by omega) (fun ha => h fun i h1 h2 => ?_) (fun ⟨i, h1, h2, h3⟩ => h' ⟨i, by omega, h2, h3⟩))
      by_cases hij : i = j
      · rw [hij]; exact hd
      · exact ha i (by omega) h2
    | false =>
      have hd1 : decide ((c j j).n < (c j j).d) = true := by simpa [diagOK] using hd
      rw [h' ⟨j, Nat.le_refl _, hj5, hd⟩]
      refine zj ?_
      try dsimp only [lp80_6, zz, zo, Tryd.f80]
      simp only [bW, if_true, Nat.reduceEqDiff, if_false]
      repeat' first
        | (intro hb; first | cases hb | skip)
        | ((first | apply z8 | apply ze)
           · rfl
           · simp (disch := assumption) only [go_sem, Nat.reduceEqDiff, Nat.reduceAdd, bP, zf, Nat.reduceLeDiff, Nat.reduceLT, Nat.reduceMul, List.length_append, decide_eq_true_eq, z9, z6, Int.reduceToNat, Int.reduceLE, Int.reduceLT, Int.reduceBNe, Int.reduceBEq, hi1, hi2, hw3, hN, hN2, hd1, cN_len, cN_one, cN_take, zN_len, zN_one, zN_drop]
             rfl
           · simp only [go_sem, Nat.reduceLT, Nat.reduceEqDiff]
             rfl
           · rfl
           first
           | (apply zd
              · simp only [z5, z0, Nat.reduceLT, decide_true, cond_true, ins]
                rfl
              · simp only [z5, z0, Nat.reduceLT, decide_true, cond_true, ins]
                rfl)
           | (apply zh
              · simp only [z5, z0, Nat.reduceLT, decide_true, cond_true, ins]
                rfl))
        | ((first | apply zb | apply zc)
           · rfl
           · simp only [z5, z0, Nat.reduceLT, decide_true, cond_true, ins]
             rfl)
        | (apply za
           · simp only [go_sem, Nat.reduceEqDiff])
        | (apply z7
           · simp only [go_sem, Nat.reduceEqDiff])
        | (apply zg
           · kernel_rfl
           · kernel_rfl)
        | (simp only [bW, if_true, Nat.reduceEqDiff, if_false])
      exact hk _ rfl
theorem t80' (p : Paper) (hwf : p.wf) (hok : zp p = true) : (lim cfg).pure 80 [zu p] = some (B (canF p)) := by
  have h840 := t84 p 0 hwf hok
  have h841 := t84 p 1 hwf hok
  have hneg : ∀ c : NetF, (∃ i, 0 ≤ i ∧ i < 5 ∧ diagOK c i = false) → diagAll c = false := by
    rintro c ⟨i, _, h2, h3⟩
    cases h : diagAll c with
    | false => rfl
    | true => rw [diagAll_iff.1 h i h2] at h3; cases h3
  unfold canF
  refine zq (zk 80) cfn80 rfl (n := 30) rfl ?_
  generalize hF : finP cfg Tryd.f80 = F
  simp only [bW, if_true, Nat.reduceEqDiff, if_false, zm]
  have hret : ∀ (v : Bool) st, get st.tmps 2 = B v → F .ret st = some (B v) := by
    intro v st h
    subst hF
    simp only [go_sem, Nat.reduceEqDiff, bP, Nat.reduceAdd, Nat.reduceLeDiff, List.length_map, Tryd.f80, h]
  repeat' first
    | (intro hb; first | cases hb | skip)
    | ((first | apply z8 | apply ze)
       · rfl
       · simp (disch := assumption) only [go_sem, Nat.reduceEqDiff, Nat.reduceAdd, bP, zf, Nat.reduceLeDiff, Nat.reduceLT, Nat.reduceMul, List.length_append, decide_eq_true_eq, z9, z6, Int.reduceToNat, Int.reduceLE, Int.reduceLT, Int.reduceBNe, Int.reduceBEq]
         rfl
       · simp only [go_sem, Nat.reduceLT, Nat.reduceEqDiff]
         rfl
       · rfl
       first
       | (apply zd
          · simp only [z5, z0, Nat.reduceLT, decide_true, cond_true, ins]
            rfl
          · simp only [z5, z0, Nat.reduceLT, decide_true, cond_true, ins]
            rfl)
       | (apply zh
          · simp only [z5, z0, Nat.reduceLT, decide_true, cond_true, ins]
            rfl))
    | ((first | apply zb | apply zc)
       · rfl
       · simp only [z5, z0, Nat.reduceLT, decide_true, cond_true, ins]
         rfl)
    | (apply za
       · simp only [go_sem, Nat.reduceEqDiff])
    | (apply z7
       · simp only [go_sem, Nat.reduceEqDiff])
    | (apply zg
       · kernel_rfl
       · kernel_rfl)
    | (simp only [bW, if_true, Nat.reduceEqDiff, if_false])
  refine w_loop (st1 := ⟨30, [(1, .lref 0 0 3 0), (3, I 0)], [(0, ⟨[zu p], 3, false⟩)], 1, 0⟩) lk80_2 (by kernel_rfl) ?_
  refine zj ?_
  try dsimp only [lp80_2, zz, zo, Tryd.f80]
  simp only [bW, if_true, Nat.reduceEqDiff, if_false]
  repeat' first
    | (intro hb; first | cases hb | skip)
    | ((first | apply z8 | apply ze)
       · rfl
       · simp (disch := assumption) only [go_sem, Nat.reduceEqDiff, Nat.reduceAdd, bP, zf, Nat.reduceLeDiff, Nat.reduceLT, Nat.reduceMul, List.length_append, decide_eq_true_eq, z9, z6, Int.reduceToNat, Int.reduceLE, Int.reduceLT, Int.reduceBNe, Int.reduceBEq, h840, cN_one, cN_len, zN_len, zN_drop, cN_flat]
         rfl
       · simp only [go_sem, Nat.reduceLT, Nat.reduceEqDiff]
         rfl
       · rfl
       first
       | (apply zd
          · simp only [z5, z0, Nat.reduceLT, decide_true, cond_true, ins]
            rfl
          · simp only [z5, z0, Nat.reduceLT, decide_true, cond_true, ins]
            rfl)
       | (apply zh
          · simp only [z5, z0, Nat.reduceLT, decide_true, cond_true, ins]
            rfl))
    | ((first | apply zb | apply zc)
       · rfl
       · simp only [z5, z0, Nat.reduceLT, decide_true, cond_true, ins]
         rfl)
    | (apply za
       · simp only [go_sem, Nat.reduceEqDiff])
    | (apply z7
       · simp only [go_sem, Nat.reduceEqDiff])
    | (apply zg
       · kernel_rfl
       · kernel_rfl)
    | (simp only [bW, if_true, Nat.reduceEqDiff, if_false])
  refine w_loop (st1 := ⟨30, [(1, .lref 0 0 3 0), (3, I 0), (4, .lref 1 0 50 0), (5, I (0 : Nat))], [(0, ⟨[zu p], 3, false⟩), (1, ⟨[.agg (cN (netR p 0))], 50, false⟩)], 2, 0⟩) lk80_6 (by
    simp only [go_sem, List.map_append, Nat.reduceEqDiff, Nat.reduceLT, Nat.reduceAdd, bI, bD, bI2, cN_ids, cN_ren, zN_ids, zN_ren, zu]
    try rfl) (L80_6 p _ 0 _ _ (fun st h => by simp only [bW, if_true, Nat.reduceEqDiff, if_false]; exact hret false st h) 5 0 rfl (fun h0 => ?_) (fun h => by rw [hneg _ h, Bool.false_and]))
  rw [diagAll_iff.2 fun i hi => h0 i (Nat.zero_le _) hi, Bool.true_and]
  simp only [bW, if_true, Nat.reduceEqDiff, if_false]
  repeat' first
    | (intro hb; first | cases hb | skip)
    | ((first | apply z8 | apply ze)
       · rfl
       · simp (disch := assumption) only [go_sem, Nat.reduceEqDiff, Nat.reduceAdd, bP, zf, Nat.reduceLeDiff, Nat.reduceLT, Nat.reduceMul, List.length_append, decide_eq_true_eq, z9, z6, Int.reduceToNat, Int.reduceLE, Int.reduceLT, Int.reduceBNe, Int.reduceBEq, show IntKind.i64.wrap (0 + 1) = 1 from by decide]
         rfl
       · simp only [go_sem, Nat.reduceLT, Nat.reduceEqDiff]
         rfl
       · rfl
       first
       | (apply zd
          · simp only [z5, z0, Nat.reduceLT, decide_true, cond_true, ins]
            rfl
          · simp only [z5, z0, Nat.reduceLT, decide_true, cond_true, ins]
            rfl)
       | (apply zh
          · simp only [z5, z0, Nat.reduceLT, decide_true, cond_true, ins]
            rfl))
    | ((first | apply zb | apply zc)
       · rfl
       · simp only [z5, z0, Nat.reduceLT, decide_true, cond_true, ins]
         rfl)
    | (apply za
       · simp only [go_sem, Nat.reduceEqDiff])
    | (apply z7
       · simp only [go_sem, Nat.reduceEqDiff])
    | (apply zg
       · kernel_rfl
       · kernel_rfl)
    | (simp only [bW, if_true, Nat.reduceEqDiff, if_false])
  refine zx (st1 := ⟨30, [(1, .lref 0 0 3 0), (3, I 1)], [(0, ⟨[zu p], 3, false⟩)], 1, 0⟩) lk80_2 (by
    simp only [go_sem, List.map_append, Nat.reduceEqDiff, Nat.reduceLT, Nat.reduceAdd, bI, bD, bI2, cN_ids, cN_ren, zN_ids, zN_ren, zu]
    try rfl) ?_
  refine zj ?_
  try dsimp only [lp80_2, zz, zo, Tryd.f80]
  simp only [bW, if_true, Nat.reduceEqDiff, if_false]
  repeat' first
    | (intro hb; first | cases hb | skip)
    | ((first | apply z8 | apply ze)
       · rfl
       · simp (disch := assumption) only [go_sem, Nat.reduceEqDiff, Nat.reduceAdd, bP, zf, Nat.reduceLeDiff, Nat.reduceLT, Nat.reduceMul, List.length_append, decide_eq_true_eq, z9, z6, Int.reduceToNat, Int.reduceLE, Int.reduceLT, Int.reduceBNe, Int.reduceBEq, h841, cN_one, cN_len, zN_len, zN_drop, cN_flat]
         rfl
       · simp only [go_sem, Nat.reduceLT, Nat.reduceEqDiff]
         rfl
       · rfl
       first
       | (apply zd
          · simp only [z5, z0, Nat.reduceLT, decide_true, cond_true, ins]
            rfl
          · simp only [z5, z0, Nat.reduceLT, decide_true, cond_true, ins]
            rfl)
       | (apply zh
          · simp only [z5, z0, Nat.reduceLT, decide_true, cond_true, ins]
            rfl))
    | ((first | apply zb | apply zc)
       · rfl
       · simp only [z5, z0, Nat.reduceLT, decide_true, cond_true, ins]
         rfl)
    | (apply za
       · simp only [go_sem, Nat.reduceEqDiff])
    | (apply z7
       · simp only [go_sem, Nat.reduceEqDiff])
    | (apply zg
       · kernel_rfl
       · kernel_rfl)
    | (simp only [bW, if_true, Nat.reduceEqDiff, if_false])
  refine w_loop (st1 := ⟨30, [(1, .lref 0 0 3 0), (3, I 1), (4, .lref 1 0 50 0), (5, I (0 : Nat))], [(0, ⟨[zu p], 3, false⟩), (1, ⟨[.agg (cN (netR p 1))], 50, false⟩)], 2, 0⟩) lk80_6 (by
    simp only [go_sem, List.map_append, Nat.reduceEqDiff, Nat.reduceLT, Nat.reduceAdd, bI, bD, bI2, cN_ids, cN_ren, zN_ids, zN_ren, zu]
    try rfl) (L80_6 p _ 1 _ _ (fun st h => by simp only [bW, if_true, Nat.reduceEqDiff, if_false]; exact hret false st h) 5 0 rfl (fun h1 => ?_) (fun h => by rw [hneg _ h]))
  rw [diagAll_iff.2 fun i hi => h1 i (Nat.zero_le _) hi]
  simp only [bW, if_true, Nat.reduceEqDiff, if_false]
  repeat' first
    | (intro hb; first | cases hb | skip)
    | ((first | apply z8 | apply ze)
       · rfl
       · simp (disch := assumption) only [go_sem, Nat.reduceEqDiff, Nat.reduceAdd, bP, zf, Nat.reduceLeDiff, Nat.reduceLT, Nat.reduceMul, List.length_append, decide_eq_true_eq, z9, z6, Int.reduceToNat, Int.reduceLE, Int.reduceLT, Int.reduceBNe, Int.reduceBEq, show IntKind.i64.wrap (1 + 1) = 2 from by decide]
         rfl
       · simp only [go_sem, Nat.reduceLT, Nat.reduceEqDiff]
         rfl
       · rfl
       first
       | (apply zd
          · simp only [z5, z0, Nat.reduceLT, decide_true, cond_true, ins]
            rfl
          · simp only [z5, z0, Nat.reduceLT, decide_true, cond_true, ins]
            rfl)
       | (apply zh
          · simp only [z5, z0, Nat.reduceLT, decide_true, cond_true, ins]
            rfl))
    | ((first | apply zb | apply zc)
       · rfl
       · simp only [z5, z0, Nat.reduceLT, decide_true, cond_true, ins]
         rfl)
    | (apply za
       · simp only [go_sem, Nat.reduceEqDiff])
    | (apply z7
       · simp only [go_sem, Nat.reduceEqDiff])
    | (apply zg
       · kernel_rfl
       · kernel_rfl)
    | (simp only [bW, if_true, Nat.reduceEqDiff, if_false])
  refine zx (st1 := ⟨30, [(1, .lref 0 0 3 0), (3, I 2)], [(0, ⟨[zu p], 3, false⟩)], 1, 0⟩) lk80_2 (by
    simp only [go_sem, List.map_append, Nat.reduceEqDiff, Nat.reduceLT, Nat.reduceAdd, bI, bD, bI2, cN_ids, cN_ren, zN_ids, zN_ren, zu]
    try rfl) ?_
  refine zj ?_
  try dsimp only [lp80_2, zz, zo, Tryd.f80]
  simp only [bW, if_true, Nat.reduceEqDiff, if_false]
  repeat' first
    | (intro hb; first | cases hb | skip)
    | ((first | apply z8 | apply ze)
       · rfl
       · simp (disch := assumption) only [go_sem, Nat.reduceEqDiff, Nat.reduceAdd, bP, zf, Nat.reduceLeDiff, Nat.reduceLT, Nat.reduceMul, List.length_append, decide_eq_true_eq, z9, z6, Int.reduceToNat, Int.reduceLE, Int.reduceLT, Int.reduceBNe, Int.reduceBEq]
         rfl
       · simp only [go_sem, Nat.reduceLT, Nat.reduceEqDiff]
         rfl
       · rfl
       first
       | (apply zd
          · simp only [z5, z0, Nat.reduceLT, decide_true, cond_true, ins]
            rfl
          · simp only [z5, z0, Nat.reduceLT, decide_true, cond_true, ins]
            rfl)
       | (apply zh
          · simp only [z5, z0, Nat.reduceLT, decide_true, cond_true, ins]
            rfl))
    | ((first | apply zb | apply zc)
       · rfl
       · simp only [z5, z0, Nat.reduceLT, decide_true, cond_true, ins]
         rfl)
    | (apply za
       · simp only [go_sem, Nat.reduceEqDiff])
    | (apply z7
       · simp only [go_sem, Nat.reduceEqDiff])
    | (apply zg
       · kernel_rfl
       · kernel_rfl)
    | (simp only [bW, if_true, Nat.reduceEqDiff, if_false])
  exact hret true _ rfl
theorem t80 (p : Paper) (hwf : p.wf) (hok : zp p = true) : (lim cfg).pure 80 [zu p] = some (B (possibleF p)) := by rw [← can_possible hok]; exact t80' p hwf hok

theorem L82_7 {F : Exit → St → Option D} (p : Paper) (ax : Int) (nl : Bool) (ss : List Int) (k : List Kt) (x : D) (sz : Nat) (hsz : nl = false → sz = 1) (hnl : nl = true → ss = []) (hlen : ss.length ≤ 9223372036854775807) (hsh : IntKind.i64.wrap (p.sheets - 1) = p.sheets - 1) (hk : ∀ st, get st.tmps 6 = I 1 → zB cfg (lim cfg) 82 F k .ret st = some (I 1)) : ∀ (rest : List Int) (i : Nat), ss.drop i = rest → i ≤ ss.length →
    (rest.all (zy p) = true → zB cfg (lim cfg) 82 F k (.exit 0) ⟨35, [(20, B false), (19, I ss.length), (18, .sl nl (ss.map I) sz none), (17, I (ss.length : Nat)), (1, I ax), (2, .sl nl (ss.map I) sz none), (3, .lref 0 0 3 0), (8, I (ss.length : Nat))], [(0, ⟨[zu p], 3, false⟩)], 1, 0⟩ = some x) →
    (rest.all (zy p) = false → x = I 1) →
    EvL cfg (lim cfg) 82 F lp82_7 k ⟨35, [(1, I ax), (2, .sl nl (ss.map I) sz none), (3, .lref 0 0 3 0), (8, I (i : Nat))], [(0, ⟨[zu p], 3, false⟩)], 1, 0⟩ = some x := by
  have hls := len_if (f := I) hnl
  intro rest
  induction rest with
  | nil =>
    intro i hd hi h h'
    have hi' : i = ss.length := by
      have := List.drop_eq_nil_iff.1 hd
      omega
    subst hi'
    refine zj ?_
    try dsimp only [lp82_7, zz, zo, Tryd.f82]
    simp only [bW, if_true, Nat.reduceEqDiff, if_false]
    repeat' first
      | (intro hb; first | cases hb | skip)
      | ((first | apply z8 | apply ze)
         · rfl
         · simp (disch := assumption) only [go_sem, Nat.reduceEqDiff, Nat.reduceAdd, bP, zf, Nat.reduceLeDiff, Nat.reduceLT, Nat.reduceMul, List.length_append, decide_eq_true_eq, z9, z6, Int.reduceToNat, Int.reduceLE, Int.reduceLT, Int.reduceBNe, Int.reduceBEq, hls, Int.lt_irrefl]
           rfl
         · simp only [go_sem, Nat.reduceLT, Nat.reduceEqDiff]
           rfl
         · rfl
         first
         | (apply zd
            · simp only [z5, z0, Nat.reduceLT, decide_true, cond_true, ins]
              rfl
            · simp only [z5, z0, Nat.reduceLT, decide_true, cond_true, ins]
              rfl)
         | (apply zh
            · simp only [z5, z0, Nat.reduceLT, decide_true, cond_true, ins]
              rfl))
      | ((first | apply zb | apply zc)
         · rfl
         · simp only [z5, z0, Nat.reduceLT, decide_true, cond_true, ins]
           rfl)
      | (apply za
         · simp only [go_sem, Nat.reduceEqDiff])
      | (apply z7
         · simp only [go_sem, Nat.reduceEqDiff])
      | (apply zg
         · kernel_rfl
         · kernel_rfl)
      | (simp only [bW, if_true, Nat.reduceEqDiff, if_false])
    exact h rfl
  | cons m rest ih =>
    intro i hd hi h h'
    have hlt : i < ss.length := by
      rcases Nat.lt_or_ge i ss.length with h | h
      · exact h
      · rw [List.drop_eq_nil_of_le h] at hd; cases hd
    have hm : ss[i]? = some m := by rw [← List.head?_drop, hd]; rfl
    have hx : (ss.map I)[i]? = some (I m) := by rw [List.getElem?_map, hm]; rfl
    have hnm : nl = false := by
      cases h : nl with
      | false => rfl
      | true => rw [hnl h] at hlt; cases hlt
    have hsz1 := hsz hnm
    clear hsz
    subst hsz1
    have hlt' : (i : Int) < (ss.length : Int) := by omega
    have hw3 : IntKind.i64.wrap ((i : Int) + 1) = ((i + 1 : Nat) : Int) := by rw [wrap_i64 (by omega) (by omega)]; omega
    have hs77 : (lim cfg).pure 77 [I m, I 0, I (p.sheets - 1)] = some (B (zy p m)) := by
      rw [t77]; unfold zy; rw [show decide (m ≤ p.sheets - 1) = decide (m < p.sheets) by rw [decide_eq_decide]; omega]
    have hlm' : ((ss.map I).length : Int) = (ss.length : Int) := by simp
    cases hs : zy p m with
    | true =>
      rw [hs] at hs77
      simp only [List.all_cons, hs, Bool.true_and] at h h'
      refine zj ?_
      try dsimp only [lp82_7, zz, zo, Tryd.f82]
      simp only [bW, if_true, Nat.reduceEqDiff, if_false]
      repeat' first
        | (intro hb; first | cases hb | skip)
        | ((first | apply z8 | apply ze)
           · rfl
           · simp (disch := assumption) only [go_sem, Nat.reduceEqDiff, Nat.reduceAdd, bP, zf, Nat.reduceLeDiff, Nat.reduceLT, Nat.reduceMul, List.length_append, decide_eq_true_eq, z9, z6, Int.reduceToNat, Int.reduceLE, Int.reduceLT, Int.reduceBNe, Int.reduceBEq, hlm', hx, hnm, hlt', hw3, hsh, hs77]
             rfl
           · simp only [go_sem, Nat.reduceLT, Nat.reduceEqDiff]
             rfl
           · rfl
           first
           | (apply zd
              · simp only [z5, z0, Nat.reduceLT, decide_true, cond_true, ins]
                rfl
              · simp only [z5, z0, Nat.reduceLT, decide_true, cond_true, ins]
                rfl)
           | (apply zh
              · simp only [z5, z0, Nat.reduceLT, decide_true, cond_true, ins]
                rfl))
        | ((first | apply zb | apply zc)
           · rfl
           · simp only [z5, z0, Nat.reduceLT, decide_true, cond_true, ins]
             rfl)
        | (apply za
           · simp only [go_sem, Nat.reduceEqDiff])
        | (apply z7
           · simp only [go_sem, Nat.reduceEqDiff])
        | (apply zg
           · kernel_rfl
           · kernel_rfl)
        | (simp only [bW, if_true, Nat.reduceEqDiff, if_false])
      exact zx (st1 := ⟨35, [(1, I ax), (2, .sl nl (ss.map I) 1 none), (3, .lref 0 0 3 0), (8, I (i + 1 : Nat))], [(0, ⟨[zu p], 3, false⟩)], 1, 0⟩) lk82_7 (by kernel_rfl) (ih (i + 1) (by rw [← List.drop_drop, hd]; rfl) hlt h h')
    | false =>
      rw [hs] at hs77
      rw [h' (by simp [hs])]
      refine zj ?_
      try dsimp only [lp82_7, zz, zo, Tryd.f82]
      simp only [bW, if_true, Nat.reduceEqDiff, if_false]
      repeat' first
        | (intro hb; first | cases hb | skip)
        | ((first | apply z8 | apply ze)
           · rfl
           · simp (disch := assumption) only [go_sem, Nat.reduceEqDiff, Nat.reduceAdd, bP, zf, Nat.reduceLeDiff, Nat.reduceLT, Nat.reduceMul, List.length_append, decide_eq_true_eq, z9, z6, Int.reduceToNat, Int.reduceLE, Int.reduceLT, Int.reduceBNe, Int.reduceBEq, hlm', hx, hnm, hlt', hw3, hsh, hs77]
             rfl
           · simp only [go_sem, Nat.reduceLT, Nat.reduceEqDiff]
             rfl
           · rfl
           first
           | (apply zd
              · simp only [z5, z0, Nat.reduceLT, decide_true, cond_true, ins]
                rfl
              · simp only [z5, z0, Nat.reduceLT, decide_true, cond_true, ins]
                rfl)
           | (apply zh
              · simp only [z5, z0, Nat.reduceLT, decide_true, cond_true, ins]
                rfl))
        | ((first | apply zb | apply zc)
           · rfl
           · simp only [z5, z0, Nat.reduceLT, decide_true, cond_true, ins]
             rfl)
        | (apply za
           · simp only [go_sem, Nat.reduceEqDiff])
        | (apply z7
           · simp only [go_sem, Nat.reduceEqDiff])
        | (apply zg
           · kernel_rfl
           · kernel_rfl)
        | (simp only [bW, if_true, Nat.reduceEqDiff, if_false])
      exact hk _ rfl
theorem t82 (p : Paper) (ax : Int) (nl : Bool) (ss : List Int) (hwf : p.wf) (sz : Nat) (hsz : nl = false → sz = 1) (hnl : nl = true → ss = []) (hlen : ss.length ≤ 9223372036854775807) : (lim cfg).pure 82 [zu p, I ax, .sl nl (ss.map I) sz none] = some (I (zO p ax ss)) := by
  have h28 := t28 p hwf
  unfold zO
  unfold check at h28
  have h77 : (lim cfg).pure 77 [I ax, I 0, I 1] = some (B (isAxis ax)) := by
    rw [t77]; unfold isAxis; congr 3; rw [Bool.eq_iff_iff]; simp; omega
  cases hok : zp p with
  | false =>
    rw [hok] at h28
    simp only [Bool.false_eq_true, if_false] at h28 ⊢
    refine zq (zk 82) cfn82 rfl (n := 35) rfl ?_
    simp only [bW, if_true, Nat.reduceEqDiff, if_false, zm]
    repeat' first
      | (intro hb; first | cases hb | skip)
      | ((first | apply z8 | apply ze)
         · rfl
         · simp (disch := assumption) only [go_sem, Nat.reduceEqDiff, Nat.reduceAdd, bP, zf, Nat.reduceLeDiff, Nat.reduceLT, Nat.reduceMul, List.length_append, decide_eq_true_eq, z9, z6, Int.reduceToNat, Int.reduceLE, Int.reduceLT, Int.reduceBNe, Int.reduceBEq, h28]
           rfl
         · simp only [go_sem, Nat.reduceLT, Nat.reduceEqDiff]
           rfl
         · rfl
         first
         | (apply zd
            · simp only [z5, z0, Nat.reduceLT, decide_true, cond_true, ins]
              rfl
            · simp only [z5, z0, Nat.reduceLT, decide_true, cond_true, ins]
              rfl)
         | (apply zh
            · simp only [z5, z0, Nat.reduceLT, decide_true, cond_true, ins]
              rfl))
      | ((first | apply zb | apply zc)
         · rfl
         · simp only [z5, z0, Nat.reduceLT, decide_true, cond_true, ins]
           rfl)
      | (apply za
         · simp only [go_sem, Nat.reduceEqDiff])
      | (apply z7
         · simp only [go_sem, Nat.reduceEqDiff])
      | (apply zg
         · kernel_rfl
         · kernel_rfl)
      | (simp only [bW, if_true, Nat.reduceEqDiff, if_false])
    all_goals try simp only [go_sem, Nat.reduceEqDiff, bP, Nat.reduceAdd, Nat.reduceLeDiff, List.length_map, Tryd.f82]
    all_goals first | done | rfl | (simp_all []; done) | trace_state
  | true =>
    rw [hok] at h28
    simp only [if_true] at h28 ⊢
    obtain ⟨o1, o2, -⟩ := zE hok
    have hsh : IntKind.i64.wrap (p.sheets - 1) = p.sheets - 1 := wrap_i64 (by omega) (by omega)
    have h80 := t80 p hwf hok
    cases hp : possibleF p with
    | false =>
      rw [hp] at h80
      simp only [Bool.false_eq_true, if_false]
      refine zq (zk 82) cfn82 rfl (n := 35) rfl ?_
      simp only [bW, if_true, Nat.reduceEqDiff, if_false, zm]
      repeat' first
        | (intro hb; first | cases hb | skip)
        | ((first | apply z8 | apply ze)
           · rfl
           · simp (disch := assumption) only [go_sem, Nat.reduceEqDiff, Nat.reduceAdd, bP, zf, Nat.reduceLeDiff, Nat.reduceLT, Nat.reduceMul, List.length_append, decide_eq_true_eq, z9, z6, Int.reduceToNat, Int.reduceLE, Int.reduceLT, Int.reduceBNe, Int.reduceBEq, h28, h80]
             rfl
           · simp only [go_sem, Nat.reduceLT, Nat.reduceEqDiff]
             rfl
           · rfl
           first
           | (apply zd
              · simp only [z5, z0, Nat.reduceLT, decide_true, cond_true, ins]
                rfl
              · simp only [z5, z0, Nat.reduceLT, decide_true, cond_true, ins]
                rfl)
           | (apply zh
              · simp only [z5, z0, Nat.reduceLT, decide_true, cond_true, ins]
                rfl))
        | ((first | apply zb | apply zc)
           · rfl
           · simp only [z5, z0, Nat.reduceLT, decide_true, cond_true, ins]
             rfl)
        | (apply za
           · simp only [go_sem, Nat.reduceEqDiff])
        | (apply z7
           · simp only [go_sem, Nat.reduceEqDiff])
        | (apply zg
           · kernel_rfl
           · kernel_rfl)
        | (simp only [bW, if_true, Nat.reduceEqDiff, if_false])
      all_goals try simp only [go_sem, Nat.reduceEqDiff, bP, Nat.reduceAdd, Nat.reduceLeDiff, List.length_map, Tryd.f82]
      all_goals first | done | rfl | (simp_all []; done) | trace_state
    | true =>
      rw [hp] at h80
      simp only [if_true]
      refine zq (zk 82) cfn82 rfl (n := 35) rfl ?_
      generalize hF : finP cfg Tryd.f82 = F
      simp only [bW, if_true, Nat.reduceEqDiff, if_false, zm]
      have hend : ∀ (v : Int) st, get st.tmps 6 = I v → F .ret st = some (I v) := by
        intro v st hd
        subst hF
        simp only [go_sem, Nat.reduceEqDiff, bP, Nat.reduceAdd, Nat.reduceLeDiff, List.length_map, Tryd.f82, hd]
      repeat' first
        | (intro hb; first | cases hb | skip)
        | ((first | apply z8 | apply ze)
           · rfl
           · simp (disch := assumption) only [go_sem, Nat.reduceEqDiff, Nat.reduceAdd, bP, zf, Nat.reduceLeDiff, Nat.reduceLT, Nat.reduceMul, List.length_append, decide_eq_true_eq, z9, z6, Int.reduceToNat, Int.reduceLE, Int.reduceLT, Int.reduceBNe, Int.reduceBEq, h28, h80]
             rfl
           · simp only [go_sem, Nat.reduceLT, Nat.reduceEqDiff]
             rfl
           · rfl
           first
           | (apply zd
              · simp only [z5, z0, Nat.reduceLT, decide_true, cond_true, ins]
                rfl
              · simp only [z5, z0, Nat.reduceLT, decide_true, cond_true, ins]
                rfl)
           | (apply zh
              · simp only [z5, z0, Nat.reduceLT, decide_true, cond_true, ins]
                rfl))
        | ((first | apply zb | apply zc)
           · rfl
           · simp only [z5, z0, Nat.reduceLT, decide_true, cond_true, ins]
             rfl)
        | (apply za
           · simp only [go_sem, Nat.reduceEqDiff])
        | (apply z7
           · simp only [go_sem, Nat.reduceEqDiff])
        | (apply zg
           · kernel_rfl
           · kernel_rfl)
        | (simp only [bW, if_true, Nat.reduceEqDiff, if_false])
      refine w_loop (st1 := ⟨35, [(1, I ax), (2, .sl nl (ss.map I) sz none), (3, .lref 0 0 3 0), (8, I (0 : Nat))], [(0, ⟨[zu p], 3, false⟩)], 1, 0⟩) lk82_7 (by kernel_rfl) (L82_7 p ax nl ss _ _ sz hsz hnl hlen hsh (fun st hd => ?_) ss 0 rfl (Nat.zero_le _) (fun ha => ?_) (fun ha => ?_))
      · simp only [bW, if_true, Nat.reduceEqDiff, if_false]
        exact hend 1 st hd
      · cases hax : isAxis ax with
        | true =>
          rw [hax] at h77
          rw [show namedF p ax ss = 0 by simp [namedF, ha, hax]]
          simp only [bW, if_true, Nat.reduceEqDiff, if_false]
          repeat' first
            | (intro hb; first | cases hb | skip)
            | ((first | apply z8 | apply ze)
               · rfl
               · simp (disch := assumption) only [go_sem, Nat.reduceEqDiff, Nat.reduceAdd, bP, zf, Nat.reduceLeDiff, Nat.reduceLT, Nat.reduceMul, List.length_append, decide_eq_true_eq, z9, z6, Int.reduceToNat, Int.reduceLE, Int.reduceLT, Int.reduceBNe, Int.reduceBEq, h77]
                 rfl
               · simp only [go_sem, Nat.reduceLT, Nat.reduceEqDiff]
                 rfl
               · rfl
               first
               | (apply zd
                  · simp only [z5, z0, Nat.reduceLT, decide_true, cond_true, ins]
                    rfl
                  · simp only [z5, z0, Nat.reduceLT, decide_true, cond_true, ins]
                    rfl)
               | (apply zh
                  · simp only [z5, z0, Nat.reduceLT, decide_true, cond_true, ins]
                    rfl))
            | ((first | apply zb | apply zc)
               · rfl
               · simp only [z5, z0, Nat.reduceLT, decide_true, cond_true, ins]
                 rfl)
            | (apply za
               · simp only [go_sem, Nat.reduceEqDiff])
            | (apply z7
               · simp only [go_sem, Nat.reduceEqDiff])
            | (apply zg
               · kernel_rfl
               · kernel_rfl)
            | (simp only [bW, if_true, Nat.reduceEqDiff, if_false])
          exact hend 0 _ rfl
        | false =>
          rw [hax] at h77
          rw [show namedF p ax ss = 1 by simp [namedF, ha, hax]]
          simp only [bW, if_true, Nat.reduceEqDiff, if_false]
          repeat' first
            | (intro hb; first | cases hb | skip)
            | ((first | apply z8 | apply ze)
               · rfl
               · simp (disch := assumption) only [go_sem, Nat.reduceEqDiff, Nat.reduceAdd, bP, zf, Nat.reduceLeDiff, Nat.reduceLT, Nat.reduceMul, List.length_append, decide_eq_true_eq, z9, z6, Int.reduceToNat, Int.reduceLE, Int.reduceLT, Int.reduceBNe, Int.reduceBEq, h77]
                 rfl
               · simp only [go_sem, Nat.reduceLT, Nat.reduceEqDiff]
                 rfl
               · rfl
               first
               | (apply zd
                  · simp only [z5, z0, Nat.reduceLT, decide_true, cond_true, ins]
                    rfl
                  · simp only [z5, z0, Nat.reduceLT, decide_true, cond_true, ins]
                    rfl)
               | (apply zh
                  · simp only [z5, z0, Nat.reduceLT, decide_true, cond_true, ins]
                    rfl))
            | ((first | apply zb | apply zc)
               · rfl
               · simp only [z5, z0, Nat.reduceLT, decide_true, cond_true, ins]
                 rfl)
            | (apply za
               · simp only [go_sem, Nat.reduceEqDiff])
            | (apply z7
               · simp only [go_sem, Nat.reduceEqDiff])
            | (apply zg
               · kernel_rfl
               · kernel_rfl)
            | (simp only [bW, if_true, Nat.reduceEqDiff, if_false])
          exact hend 1 _ rfl
      · rw [show namedF p ax ss = 1 by simp [namedF, ha]]

end Go.VS
