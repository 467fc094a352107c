/- Nothing of a statement is proved in this text alone: it is part 3 of the proof's own tools, an evaluator of the code over deep values, its soundness, and what it makes of this seat's functions. Conditions: none beyond the statement's own. -/
import Derived.Test.YtbndhgnkgoggmaaDoorVsCardM2
set_option linter.unusedSimpArgs false
set_option linter.unusedVariables false
namespace Go.VS
open Go Go.Proofs
set_option maxHeartbeats 0
set_option linter.unusedSimpArgs false

theorem zy : EncOK 5 zm := ⟨fun _ _ _ => rfl, fun _ _ => rfl, fun _ _ _ => rfl, fun _ => ⟨rfl, rfl⟩⟩
theorem zx : EncOK 7 zj := ⟨fun _ _ _ => rfl, fun _ _ => rfl, fun _ _ _ => rfl, fun _ => ⟨rfl, rfl⟩⟩

theorem i58_3 (m : Mark) (r : List Mark) (hl : r.length + 1 ≤ 100000) : (lim cfg).inl 58 [.sl false ((m :: r).map zm) 5 none] [] 3 = some (.lsl 4 0 (r.length + 1) 5 none, [(3, ⟨[], 5, false⟩), (4, ⟨(m :: r).map zm, 5, false⟩)], 5) := by
  have hb1 : ((r.length + 1) * 40 ≤ big) = True := by simp [big]; omega
  have hb2 : (r.length + 1 ≤ big) = True := by simp [big]; omega
  have hok := zy.allOk r
  refine w_inl (cfg_xinl 58) cfn58 rfl (n := 8) rfl ?_
  generalize hF : finF cfg Tryd.f58 = F
  simp only [bW, if_true, Nat.reduceEqDiff, if_false, zi, zm, List.map_cons]
  repeat' first | (intro hb; first | cases hb | skip) | ((first | apply z6 | apply zc); (· rfl); (· simp (disch := assumption) only [go_sem, Nat.reduceEqDiff, Nat.reduceAdd, bP, zd, Nat.reduceLeDiff, Nat.reduceLT, Nat.reduceMul, List.length_append, decide_eq_true_eq, z7, z0, Int.reduceToNat, Int.reduceLE, Int.reduceLT, Int.reduceBNe, Int.reduceBEq, hb1, hb2, hok, List.length_map, Nat.zero_lt_succ, Nat.sub_self]; rfl); (· simp only [go_sem, Nat.reduceLT, Nat.reduceEqDiff]; rfl); (· rfl); first | (apply zb; (· simp only [go_sem, Nat.reduceLT]; rfl); (· simp only [go_sem, Nat.reduceLT]; rfl)) | (apply zf; (· simp only [go_sem, Nat.reduceLT]; rfl))) | ((first | apply z9 | apply za); (· rfl); (· simp only [go_sem, Nat.reduceLT]; rfl)) | (apply z8; (· simp only [go_sem, Nat.reduceEqDiff])) | (apply z5; (· simp only [go_sem, Nat.reduceEqDiff])) | (apply ze; (· kernel_rfl); (· kernel_rfl)) | (simp only [bW, if_true, Nat.reduceEqDiff, if_false])
  subst hF
  rfl

theorem i59_3 (m : Join) (r : List Join) (hl : r.length + 1 ≤ 100000) : (lim cfg).inl 59 [.sl false ((m :: r).map zj) 7 none] [] 3 = some (.lsl 4 0 (r.length + 1) 7 none, [(3, ⟨[], 7, false⟩), (4, ⟨(m :: r).map zj, 7, false⟩)], 5) := by
  have hb1 : ((r.length + 1) * 56 ≤ big) = True := by simp [big]; omega
  have hb2 : (r.length + 1 ≤ big) = True := by simp [big]; omega
  have hok := zx.allOk r
  refine w_inl (cfg_xinl 59) cfn59 rfl (n := 8) rfl ?_
  generalize hF : finF cfg Tryd.f59 = F
  simp only [bW, if_true, Nat.reduceEqDiff, if_false, zi, zj, List.map_cons]
  repeat' first | (intro hb; first | cases hb | skip) | ((first | apply z6 | apply zc); (· rfl); (· simp (disch := assumption) only [go_sem, Nat.reduceEqDiff, Nat.reduceAdd, bP, zd, Nat.reduceLeDiff, Nat.reduceLT, Nat.reduceMul, List.length_append, decide_eq_true_eq, z7, z0, Int.reduceToNat, Int.reduceLE, Int.reduceLT, Int.reduceBNe, Int.reduceBEq, hb1, hb2, hok, List.length_map, Nat.zero_lt_succ, Nat.sub_self]; rfl); (· simp only [go_sem, Nat.reduceLT, Nat.reduceEqDiff]; rfl); (· rfl); first | (apply zb; (· simp only [go_sem, Nat.reduceLT]; rfl); (· simp only [go_sem, Nat.reduceLT]; rfl)) | (apply zf; (· simp only [go_sem, Nat.reduceLT]; rfl))) | ((first | apply z9 | apply za); (· rfl); (· simp only [go_sem, Nat.reduceLT]; rfl)) | (apply z8; (· simp only [go_sem, Nat.reduceEqDiff])) | (apply z5; (· simp only [go_sem, Nat.reduceEqDiff])) | (apply ze; (· kernel_rfl); (· kernel_rfl)) | (simp only [bW, if_true, Nat.reduceEqDiff, if_false])
  subst hF
  rfl

theorem i59_4 (m : Join) (r : List Join) (hl : r.length + 1 ≤ 100000) : (lim cfg).inl 59 [.sl false ((m :: r).map zj) 7 none] [] 4 = some (.lsl 5 0 (r.length + 1) 7 none, [(4, ⟨[], 7, false⟩), (5, ⟨(m :: r).map zj, 7, false⟩)], 6) := by
  have hb1 : ((r.length + 1) * 56 ≤ big) = True := by simp [big]; omega
  have hb2 : (r.length + 1 ≤ big) = True := by simp [big]; omega
  have hok := zx.allOk r
  refine w_inl (cfg_xinl 59) cfn59 rfl (n := 8) rfl ?_
  generalize hF : finF cfg Tryd.f59 = F
  simp only [bW, if_true, Nat.reduceEqDiff, if_false, zi, zj, List.map_cons]
  repeat' first | (intro hb; first | cases hb | skip) | ((first | apply z6 | apply zc); (· rfl); (· simp (disch := assumption) only [go_sem, Nat.reduceEqDiff, Nat.reduceAdd, bP, zd, Nat.reduceLeDiff, Nat.reduceLT, Nat.reduceMul, List.length_append, decide_eq_true_eq, z7, z0, Int.reduceToNat, Int.reduceLE, Int.reduceLT, Int.reduceBNe, Int.reduceBEq, hb1, hb2, hok, List.length_map, Nat.zero_lt_succ, Nat.sub_self]; rfl); (· simp only [go_sem, Nat.reduceLT, Nat.reduceEqDiff]; rfl); (· rfl); first | (apply zb; (· simp only [go_sem, Nat.reduceLT]; rfl); (· simp only [go_sem, Nat.reduceLT]; rfl)) | (apply zf; (· simp only [go_sem, Nat.reduceLT]; rfl))) | ((first | apply z9 | apply za); (· rfl); (· simp only [go_sem, Nat.reduceLT]; rfl)) | (apply z8; (· simp only [go_sem, Nat.reduceEqDiff])) | (apply z5; (· simp only [go_sem, Nat.reduceEqDiff])) | (apply ze; (· kernel_rfl); (· kernel_rfl)) | (simp only [bW, if_true, Nat.reduceEqDiff, if_false])
  subst hF
  rfl

theorem i59_5 (m : Join) (r : List Join) (hl : r.length + 1 ≤ 100000) : (lim cfg).inl 59 [.sl false ((m :: r).map zj) 7 none] [] 5 = some (.lsl 6 0 (r.length + 1) 7 none, [(5, ⟨[], 7, false⟩), (6, ⟨(m :: r).map zj, 7, false⟩)], 7) := by
  have hb1 : ((r.length + 1) * 56 ≤ big) = True := by simp [big]; omega
  have hb2 : (r.length + 1 ≤ big) = True := by simp [big]; omega
  have hok := zx.allOk r
  refine w_inl (cfg_xinl 59) cfn59 rfl (n := 8) rfl ?_
  generalize hF : finF cfg Tryd.f59 = F
  simp only [bW, if_true, Nat.reduceEqDiff, if_false, zi, zj, List.map_cons]
  repeat' first | (intro hb; first | cases hb | skip) | ((first | apply z6 | apply zc); (· rfl); (· simp (disch := assumption) only [go_sem, Nat.reduceEqDiff, Nat.reduceAdd, bP, zd, Nat.reduceLeDiff, Nat.reduceLT, Nat.reduceMul, List.length_append, decide_eq_true_eq, z7, z0, Int.reduceToNat, Int.reduceLE, Int.reduceLT, Int.reduceBNe, Int.reduceBEq, hb1, hb2, hok, List.length_map, Nat.zero_lt_succ, Nat.sub_self]; rfl); (· simp only [go_sem, Nat.reduceLT, Nat.reduceEqDiff]; rfl); (· rfl); first | (apply zb; (· simp only [go_sem, Nat.reduceLT]; rfl); (· simp only [go_sem, Nat.reduceLT]; rfl)) | (apply zf; (· simp only [go_sem, Nat.reduceLT]; rfl))) | ((first | apply z9 | apply za); (· rfl); (· simp only [go_sem, Nat.reduceLT]; rfl)) | (apply z8; (· simp only [go_sem, Nat.reduceEqDiff])) | (apply z5; (· simp only [go_sem, Nat.reduceEqDiff])) | (apply ze; (· kernel_rfl); (· kernel_rfl)) | (simp only [bW, if_true, Nat.reduceEqDiff, if_false])
  subst hF
  rfl

theorem i116_4 (els : List D) (n i nxt : Nat) (hk : 4 < nxt) (hn : els.length = n) (hi : i < n) (hn1 : n ≤ 100000) (hE : ∀ l : List D, l.Sublist els → allOk 5 l = true) : (lim cfg).inl 116 [.lsl 4 0 n 5 none, I (i : Nat), I ((i + 1 : Nat) : Int)] [(4, ⟨els, 5, false⟩)] nxt = some (.lsl 4 0 (n - 1) 5 none, [(4, ⟨els.take i ++ els.drop (i + 1) ++ [.agg [I 0, I 0, I 0, I 0, I 0]], 5, false⟩)], nxt) := by
  have hE0 := hE els (List.Sublist.refl _)
  have c1 : (0 : Int) ≤ ((i + 1 : Nat) : Int) := by omega
  have c2 : (0 : Int) ≤ ((n - 1 : Nat) : Int) := by omega
  have c3 : (0 : Int) ≤ ((n : Nat) : Int) := by omega
  have c4 : (0 : Int) ≤ ((i : Nat) : Int) := by omega
  have h1 : (i ≤ i + 1) = True := by simp
  have h2 : (i + 1 ≤ n) = True := by simp; omega
  have h3 : (0 < n) = True := by simp; omega
  have h4 : (i ≤ n) = True := by simp; omega
  have h5 : (n ≤ els.length) = True := by simp; omega
  have h6 : (i ≤ els.length) = True := by simp; omega
  have h7 : (0 ≤ i) = True := by simp
  have hne : (i = i + 1) = False := by simp
  have hne' : ((i : Int) == ((i + 1 : Nat) : Int)) = false := by simp; omega
  have hb1 : ((n - 1) * 40 ≤ big) = True := by simp [big]; omega
  have hb2 : (n - 1 ≤ big) = True := by simp [big]; omega
  have hb3 : (n - 1 ≤ n) = True := by simp
  have hb4 : (n - 1 = n) = False := by simp; omega
  have hb5 : n - (n - 1) = 1 := by omega
  have hb6 : (n ≤ n - 1) = False := by simp; omega
  have hb7 : n - 1 + 1 = n := by omega
  have hb8 : (n - 1 = 0) = False ∨ (n - 1 = 0) = True := by by_cases h : n - 1 = 0 <;> simp [h]
  have fin1 : ∀ (q : Nat) (E : List D), q = n - 1 → E = els.take i ++ els.drop (i + 1) ++ [.agg [I 0, I 0, I 0, I 0, I 0]] → some (D.lsl 4 0 q 5 none, [(4, (⟨E, 5, false⟩ : Ob))], nxt) = some (.lsl 4 0 (n - 1) 5 none, [(4, ⟨els.take i ++ els.drop (i + 1) ++ [.agg [I 0, I 0, I 0, I 0, I 0]], 5, false⟩)], nxt) := by
    intro q E h1 h2
    rw [h1, h2]
  by_cases h0 : i = 0
  · subst h0
    by_cases hl : n = 1
    · subst hl
      obtain ⟨e, rfl⟩ := List.length_eq_one_iff.1 hn
      refine w_inl (cfg_xinl 116) cfn116 rfl (n := 33) rfl ?_
      generalize hF : finF cfg Tryd.f116 = F
      simp only [bW, if_true, Nat.reduceEqDiff, if_false, zi]
      repeat' first | (intro hb; first | cases hb | skip) | ((first | apply z6 | apply zc); (· rfl); (· simp (disch := assumption) only [go_sem, Nat.reduceEqDiff, Nat.reduceAdd, bP, zd, Nat.reduceLeDiff, Nat.reduceLT, Nat.reduceMul, List.length_append, decide_eq_true_eq, z7, z0, Int.reduceToNat, Int.reduceLE, Int.reduceLT, Int.reduceBNe, Int.reduceBEq, reaches, hn, hE0, Nat.sub_self]; rfl); (· simp only [go_sem, Nat.reduceLT, Nat.reduceEqDiff]; rfl); (· rfl); first | (apply zb; (· simp only [go_sem, Nat.reduceLT]; rfl); (· simp only [go_sem, Nat.reduceLT]; rfl)) | (apply zf; (· simp only [go_sem, Nat.reduceLT]; rfl))) | ((first | apply z9 | apply za); (· rfl); (· simp only [go_sem, Nat.reduceLT]; rfl)) | (apply z8; (· simp only [go_sem, Nat.reduceEqDiff])) | (apply z5; (· simp only [go_sem, Nat.reduceEqDiff])) | (apply ze; (· kernel_rfl); (· kernel_rfl)) | (simp only [bW, if_true, Nat.reduceEqDiff, if_false])
      subst hF
      rfl
    · have g1 : (1 = n) = False := by simp; omega
      have htk : List.take (n - 1) (List.drop 1 els) = List.drop 1 els := by rw [List.take_of_length_le]; simp; omega
      have hlen : (List.drop 1 els).length = n - 1 := by simp; omega
      have hok := hE _ (List.drop_sublist 1 els)
      have hsum : 1 + (n - 1) = n := by omega
      have hle : (n ≤ n) = True := by simp
      obtain ⟨a, r, hxs⟩ : ∃ a r, List.drop 1 els = a :: r := by
        cases h : List.drop 1 els with
        | nil => rw [h] at hlen; simp at hlen; omega
        | cons a r => exact ⟨a, r, rfl⟩
      rw [hxs] at htk hlen hok
      simp only [List.length_cons] at hlen
      simp only [allOk, Bool.and_eq_true, decide_eq_true_eq] at hok
      obtain ⟨⟨ho1, ho2⟩, ho3⟩ := hok
      obtain ⟨E, hE1⟩ : ∃ E, a :: (r ++ List.drop (n - 1) els) = E := ⟨_, rfl⟩
      have hEl : E.length = n := by rw [← hE1]; simp; omega
      refine w_inl (cfg_xinl 116) cfn116 rfl (n := 33) rfl ?_
      generalize hF : finF cfg Tryd.f116 = F
      simp only [bW, if_true, Nat.reduceEqDiff, if_false, zi]
      repeat' first | (intro hb; first | cases hb | skip) | ((first | apply z6 | apply zc); (· rfl); (· simp (disch := assumption) only [go_sem, Nat.reduceEqDiff, Nat.reduceAdd, bP, zd, Nat.reduceLeDiff, Nat.reduceLT, Nat.reduceMul, List.length_append, decide_eq_true_eq, z7, z0, Int.reduceToNat, Int.reduceLE, Int.reduceLT, Int.reduceBNe, Int.reduceBEq, reaches, hn, hE0, Nat.sub_self, c1, c2, c3, c4, h1, h2, h3, h4, h5, h6, h7, hne, hne', g1, htk, hxs, hlen, ho1, ho2, ho3, hsum, hle, hE1, hEl, hb1, hb2, hb3, hb4, hb5, hb6, hb7]; rfl); (· simp only [go_sem, Nat.reduceLT, Nat.reduceEqDiff]; rfl); (· rfl); first | (apply zb; (· simp only [go_sem, Nat.reduceLT]; rfl); (· simp only [go_sem, Nat.reduceLT]; rfl)) | (apply zf; (· simp only [go_sem, Nat.reduceLT]; rfl))) | ((first | apply z9 | apply za); (· rfl); (· simp only [go_sem, Nat.reduceLT]; rfl)) | (apply z8; (· simp only [go_sem, Nat.reduceEqDiff])) | (apply z5; (· simp only [go_sem, Nat.reduceEqDiff])) | (apply ze; (· kernel_rfl); (· kernel_rfl)) | (simp only [bW, if_true, Nat.reduceEqDiff, if_false])
      subst hF
      exact fin1 (n - 1) (E.take (n - 1) ++ [.agg [I 0, I 0, I 0, I 0, I 0]] ++ E.drop n) rfl (by rw [List.drop_eq_nil_of_le (show E.length ≤ n by omega), ← hE1, show a :: (r ++ List.drop (n - 1) els) = (a :: r) ++ List.drop (n - 1) els from rfl, List.take_left' (show (a :: r).length = n - 1 from hlen), ← hxs]; simp)
  · have h0' : (0 = i) = False := by simp; omega
    have g0 : (i + 1 = 0) = False := by simp
    by_cases hl : i + 1 = n
    · subst hl
      have g1 : (i = i + 1) = False := by simp
      have g2 : i + 1 - i = 1 := by omega
      have g3 : (i + 1 ≤ i) = False := by simp
      refine w_inl (cfg_xinl 116) cfn116 rfl (n := 33) rfl ?_
      generalize hF : finF cfg Tryd.f116 = F
      simp only [bW, if_true, Nat.reduceEqDiff, if_false, zi]
      repeat' first | (intro hb; first | cases hb | skip) | ((first | apply z6 | apply zc); (· rfl); (· simp (disch := assumption) only [go_sem, Nat.reduceEqDiff, Nat.reduceAdd, bP, zd, Nat.reduceLeDiff, Nat.reduceLT, Nat.reduceMul, List.length_append, decide_eq_true_eq, z7, z0, Int.reduceToNat, Int.reduceLE, Int.reduceLT, Int.reduceBNe, Int.reduceBEq, reaches, hn, hE0, Nat.sub_self, c1, c2, c3, c4, h1, h2, h3, h4, h5, h6, h7, hne, hne', h0', g0, g1, g2, g3]; rfl); (· simp only [go_sem, Nat.reduceLT, Nat.reduceEqDiff]; rfl); (· rfl); first | (apply zb; (· simp only [go_sem, Nat.reduceLT]; rfl); (· simp only [go_sem, Nat.reduceLT]; rfl)) | (apply zf; (· simp only [go_sem, Nat.reduceLT]; rfl))) | ((first | apply z9 | apply za); (· rfl); (· simp only [go_sem, Nat.reduceLT]; rfl)) | (apply z8; (· simp only [go_sem, Nat.reduceEqDiff])) | (apply z5; (· simp only [go_sem, Nat.reduceEqDiff])) | (apply ze; (· kernel_rfl); (· kernel_rfl)) | (simp only [bW, if_true, Nat.reduceEqDiff, if_false])
      subst hF
      exact fin1 _ _ (by omega) (by rw [List.drop_eq_nil_of_le (by omega : els.length ≤ i + 1)]; simp)
    · have g1 : (i + 1 = n) = False := by simp; omega
      have htk : List.take (n - (i + 1)) (List.drop (i + 1) els) = List.drop (i + 1) els := by rw [List.take_of_length_le]; simp; omega
      have hlen : (List.drop (i + 1) els).length = n - (i + 1) := by simp; omega
      have hsum : i + 1 + (n - (i + 1)) = n := by omega
      have hle : (n ≤ n) = True := by simp
      have hok := hE _ (List.drop_sublist (i + 1) els)
      obtain ⟨a, r, hxs⟩ : ∃ a r, List.drop (i + 1) els = a :: r := by
        cases h : List.drop (i + 1) els with
        | nil => rw [h] at hlen; simp at hlen; omega
        | cons a r => exact ⟨a, r, rfl⟩
      rw [hxs] at htk hlen hok
      simp only [List.length_cons] at hlen
      have hsum2 : i + (n - (i + 1)) = n - 1 := by omega
      simp only [allOk, Bool.and_eq_true, decide_eq_true_eq] at hok
      obtain ⟨⟨ho1, ho2⟩, ho3⟩ := hok
      obtain ⟨E, hE1⟩ : ∃ E, List.take i els ++ (a :: (r ++ List.drop (n - 1) els)) = E := ⟨_, rfl⟩
      have hE2 : List.take i els ++ a :: r ++ List.drop (n - 1) els = E := by rw [← hE1]; simp
      have hEl : E.length = n := by rw [← hE1]; simp; omega
      refine w_inl (cfg_xinl 116) cfn116 rfl (n := 33) rfl ?_
      generalize hF : finF cfg Tryd.f116 = F
      simp only [bW, if_true, Nat.reduceEqDiff, if_false, zi]
      repeat' first | (intro hb; first | cases hb | skip) | ((first | apply z6 | apply zc); (· rfl); (· simp (disch := assumption) only [go_sem, Nat.reduceEqDiff, Nat.reduceAdd, bP, zd, Nat.reduceLeDiff, Nat.reduceLT, Nat.reduceMul, List.length_append, decide_eq_true_eq, z7, z0, Int.reduceToNat, Int.reduceLE, Int.reduceLT, Int.reduceBNe, Int.reduceBEq, reaches, hn, hE0, Nat.sub_self, c1, c2, c3, c4, h1, h2, h3, h4, h5, h6, h7, hne, hne', h0', g0, g1, hsum2, hE2, htk, hxs, hlen, ho1, ho2, ho3, hsum, hle, hE1, hEl, hb1, hb2, hb3, hb4, hb5, hb6, hb7]; rfl); (· simp only [go_sem, Nat.reduceLT, Nat.reduceEqDiff]; rfl); (· rfl); first | (apply zb; (· simp only [go_sem, Nat.reduceLT]; rfl); (· simp only [go_sem, Nat.reduceLT]; rfl)) | (apply zf; (· simp only [go_sem, Nat.reduceLT]; rfl))) | ((first | apply z9 | apply za); (· rfl); (· simp only [go_sem, Nat.reduceLT]; rfl)) | (apply z8; (· simp only [go_sem, Nat.reduceEqDiff])) | (apply z5; (· simp only [go_sem, Nat.reduceEqDiff])) | (apply ze; (· kernel_rfl); (· kernel_rfl)) | (simp only [bW, if_true, Nat.reduceEqDiff, if_false])
      subst hF
      exact fin1 (n - 1) (E.take (n - 1) ++ [.agg [I 0, I 0, I 0, I 0, I 0]] ++ E.drop n) rfl (by rw [List.drop_eq_nil_of_le (show E.length ≤ n by omega), ← hE2, List.take_left' (show (List.take i els ++ a :: r).length = n - 1 by simp; omega), hxs, List.append_nil])

theorem i115_4 (els : List D) (n i nxt : Nat) (hk : 4 < nxt) (hn : els.length = n) (hi : i < n) (hn1 : n ≤ 100000) (hE : ∀ l : List D, l.Sublist els → allOk 7 l = true) : (lim cfg).inl 115 [.lsl 4 0 n 7 none, I (i : Nat), I ((i + 1 : Nat) : Int)] [(4, ⟨els, 7, false⟩)] nxt = some (.lsl 4 0 (n - 1) 7 none, [(4, ⟨els.take i ++ els.drop (i + 1) ++ [.agg [I 0, I 0, I 0, I 0, I 0, I 0, I 0]], 7, false⟩)], nxt) := by
  have hE0 := hE els (List.Sublist.refl _)
  have c1 : (0 : Int) ≤ ((i + 1 : Nat) : Int) := by omega
  have c2 : (0 : Int) ≤ ((n - 1 : Nat) : Int) := by omega
  have c3 : (0 : Int) ≤ ((n : Nat) : Int) := by omega
  have c4 : (0 : Int) ≤ ((i : Nat) : Int) := by omega
  have h1 : (i ≤ i + 1) = True := by simp
  have h2 : (i + 1 ≤ n) = True := by simp; omega
  have h3 : (0 < n) = True := by simp; omega
  have h4 : (i ≤ n) = True := by simp; omega
  have h5 : (n ≤ els.length) = True := by simp; omega
  have h6 : (i ≤ els.length) = True := by simp; omega
  have h7 : (0 ≤ i) = True := by simp
  have hne : (i = i + 1) = False := by simp
  have hne' : ((i : Int) == ((i + 1 : Nat) : Int)) = false := by simp; omega
  have hb1 : ((n - 1) * 56 ≤ big) = True := by simp [big]; omega
  have hb2 : (n - 1 ≤ big) = True := by simp [big]; omega
  have hb3 : (n - 1 ≤ n) = True := by simp
  have hb4 : (n - 1 = n) = False := by simp; omega
  have hb5 : n - (n - 1) = 1 := by omega
  have hb6 : (n ≤ n - 1) = False := by simp; omega
  have hb7 : n - 1 + 1 = n := by omega
  have hb8 : (n - 1 = 0) = False ∨ (n - 1 = 0) = True := by by_cases h : n - 1 = 0 <;> simp [h]
  have fin1 : ∀ (q : Nat) (E : List D), q = n - 1 → E = els.take i ++ els.drop (i + 1) ++ [.agg [I 0, I 0, I 0, I 0, I 0, I 0, I 0]] → some (D.lsl 4 0 q 7 none, [(4, (⟨E, 7, false⟩ : Ob))], nxt) = some (.lsl 4 0 (n - 1) 7 none, [(4, ⟨els.take i ++ els.drop (i + 1) ++ [.agg [I 0, I 0, I 0, I 0, I 0, I 0, I 0]], 7, false⟩)], nxt) := by
    intro q E h1 h2
    rw [h1, h2]
  by_cases h0 : i = 0
  · subst h0
    by_cases hl : n = 1
    · subst hl
      obtain ⟨e, rfl⟩ := List.length_eq_one_iff.1 hn
      refine w_inl (cfg_xinl 115) cfn115 rfl (n := 33) rfl ?_
      generalize hF : finF cfg Tryd.f115 = F
      simp only [bW, if_true, Nat.reduceEqDiff, if_false, zi]
      repeat' first | (intro hb; first | cases hb | skip) | ((first | apply z6 | apply zc); (· rfl); (· simp (disch := assumption) only [go_sem, Nat.reduceEqDiff, Nat.reduceAdd, bP, zd, Nat.reduceLeDiff, Nat.reduceLT, Nat.reduceMul, List.length_append, decide_eq_true_eq, z7, z0, Int.reduceToNat, Int.reduceLE, Int.reduceLT, Int.reduceBNe, Int.reduceBEq, reaches, hn, hE0, Nat.sub_self]; rfl); (· simp only [go_sem, Nat.reduceLT, Nat.reduceEqDiff]; rfl); (· rfl); first | (apply zb; (· simp only [go_sem, Nat.reduceLT]; rfl); (· simp only [go_sem, Nat.reduceLT]; rfl)) | (apply zf; (· simp only [go_sem, Nat.reduceLT]; rfl))) | ((first | apply z9 | apply za); (· rfl); (· simp only [go_sem, Nat.reduceLT]; rfl)) | (apply z8; (· simp only [go_sem, Nat.reduceEqDiff])) | (apply z5; (· simp only [go_sem, Nat.reduceEqDiff])) | (apply ze; (· kernel_rfl); (· kernel_rfl)) | (simp only [bW, if_true, Nat.reduceEqDiff, if_false])
      subst hF
      rfl
    · have g1 : (1 = n) = False := by simp; omega
      have htk : List.take (n - 1) (List.drop 1 els) = List.drop 1 els := by rw [List.take_of_length_le]; simp; omega
      have hlen : (List.drop 1 els).length = n - 1 := by simp; omega
      have hok := hE _ (List.drop_sublist 1 els)
      have hsum : 1 + (n - 1) = n := by omega
      have hle : (n ≤ n) = True := by simp
      obtain ⟨a, r, hxs⟩ : ∃ a r, List.drop 1 els = a :: r := by
        cases h : List.drop 1 els with
        | nil => rw [h] at hlen; simp at hlen; omega
        | cons a r => exact ⟨a, r, rfl⟩
      rw [hxs] at htk hlen hok
      simp only [List.length_cons] at hlen
      simp only [allOk, Bool.and_eq_true, decide_eq_true_eq] at hok
      obtain ⟨⟨ho1, ho2⟩, ho3⟩ := hok
      obtain ⟨E, hE1⟩ : ∃ E, a :: (r ++ List.drop (n - 1) els) = E := ⟨_, rfl⟩
      have hEl : E.length = n := by rw [← hE1]; simp; omega
      refine w_inl (cfg_xinl 115) cfn115 rfl (n := 33) rfl ?_
      generalize hF : finF cfg Tryd.f115 = F
      simp only [bW, if_true, Nat.reduceEqDiff, if_false, zi]
      repeat' first | (intro hb; first | cases hb | skip) | ((first | apply z6 | apply zc); (· rfl); (· simp (disch := assumption) only [go_sem, Nat.reduceEqDiff, Nat.reduceAdd, bP, zd, Nat.reduceLeDiff, Nat.reduceLT, Nat.reduceMul, List.length_append, decide_eq_true_eq, z7, z0, Int.reduceToNat, Int.reduceLE, Int.reduceLT, Int.reduceBNe, Int.reduceBEq, reaches, hn, hE0, Nat.sub_self, c1, c2, c3, c4, h1, h2, h3, h4, h5, h6, h7, hne, hne', g1, htk, hxs, hlen, ho1, ho2, ho3, hsum, hle, hE1, hEl, hb1, hb2, hb3, hb4, hb5, hb6, hb7]; rfl); (· simp only [go_sem, Nat.reduceLT, Nat.reduceEqDiff]; rfl); (· rfl); first | (apply zb; (· simp only [go_sem, Nat.reduceLT]; rfl); (· simp only [go_sem, Nat.reduceLT]; rfl)) | (apply zf; (· simp only [go_sem, Nat.reduceLT]; rfl))) | ((first | apply z9 | apply za); (· rfl); (· simp only [go_sem, Nat.reduceLT]; rfl)) | (apply z8; (· simp only [go_sem, Nat.reduceEqDiff])) | (apply z5; (· simp only [go_sem, Nat.reduceEqDiff])) | (apply ze; (· kernel_rfl); (· kernel_rfl)) | (simp only [bW, if_true, Nat.reduceEqDiff, if_false])
      subst hF
      exact fin1 (n - 1) (E.take (n - 1) ++ [.agg [I 0, I 0, I 0, I 0, I 0, I 0, I 0]] ++ E.drop n) rfl (by rw [List.drop_eq_nil_of_le (show E.length ≤ n by omega), ← hE1, show a :: (r ++ List.drop (n - 1) els) = (a :: r) ++ List.drop (n - 1) els from rfl, List.take_left' (show (a :: r).length = n - 1 from hlen), ← hxs]; simp)
  · have h0' : (0 = i) = False := by simp; omega
    have g0 : (i + 1 = 0) = False := by simp
    by_cases hl : i + 1 = n
    · subst hl
      have g1 : (i = i + 1) = False := by simp
      have g2 : i + 1 - i = 1 := by omega
      have g3 : (i + 1 ≤ i) = False := by simp
      refine w_inl (cfg_xinl 115) cfn115 rfl (n := 33) rfl ?_
      generalize hF : finF cfg Tryd.f115 = F
      simp only [bW, if_true, Nat.reduceEqDiff, if_false, zi]
      repeat' first | (intro hb; first | cases hb | skip) | ((first | apply z6 | apply zc); (· rfl); (· simp (disch := assumption) only [go_sem, Nat.reduceEqDiff, Nat.reduceAdd, bP, zd, Nat.reduceLeDiff, Nat.reduceLT, Nat.reduceMul, List.length_append, decide_eq_true_eq, z7, z0, Int.reduceToNat, Int.reduceLE, Int.reduceLT, Int.reduceBNe, Int.reduceBEq, reaches, hn, hE0, Nat.sub_self, c1, c2, c3, c4, h1, h2, h3, h4, h5, h6, h7, hne, hne', h0', g0, g1, g2, g3]; rfl); (· simp only [go_sem, Nat.reduceLT, Nat.reduceEqDiff]; rfl); (· rfl); first | (apply zb; (· simp only [go_sem, Nat.reduceLT]; rfl); (· simp only [go_sem, Nat.reduceLT]; rfl)) | (apply zf; (· simp only [go_sem, Nat.reduceLT]; rfl))) | ((first | apply z9 | apply za); (· rfl); (· simp only [go_sem, Nat.reduceLT]; rfl)) | (apply z8; (· simp only [go_sem, Nat.reduceEqDiff])) | (apply z5; (· simp only [go_sem, Nat.reduceEqDiff])) | (apply ze; (· kernel_rfl); (· kernel_rfl)) | (simp only [bW, if_true, Nat.reduceEqDiff, if_false])
      subst hF
      exact fin1 _ _ (by omega) (by rw [List.drop_eq_nil_of_le (by omega : els.length ≤ i + 1)]; simp)
    · have g1 : (i + 1 = n) = False := by simp; omega
      have htk : List.take (n - (i + 1)) (List.drop (i + 1) els) = List.drop (i + 1) els := by rw [List.take_of_length_le]; simp; omega
      have hlen : (List.drop (i + 1) els).length = n - (i + 1) := by simp; omega
      have hsum : i + 1 + (n - (i + 1)) = n := by omega
      have hle : (n ≤ n) = True := by simp
      have hok := hE _ (List.drop_sublist (i + 1) els)
      obtain ⟨a, r, hxs⟩ : ∃ a r, List.drop (i + 1) els = a :: r := by
        cases h : List.drop (i + 1) els with
        | nil => rw [h] at hlen; simp at hlen; omega
        | cons a r => exact ⟨a, r, rfl⟩
      rw [hxs] at htk hlen hok
      simp only [List.length_cons] at hlen
      have hsum2 : i + (n - (i + 1)) = n - 1 := by omega
      simp only [allOk, Bool.and_eq_true, decide_eq_true_eq] at hok
      obtain ⟨⟨ho1, ho2⟩, ho3⟩ := hok
      obtain ⟨E, hE1⟩ : ∃ E, List.take i els ++ (a :: (r ++ List.drop (n - 1) els)) = E := ⟨_, rfl⟩
      have hE2 : List.take i els ++ a :: r ++ List.drop (n - 1) els = E := by rw [← hE1]; simp
      have hEl : E.length = n := by rw [← hE1]; simp; omega
      refine w_inl (cfg_xinl 115) cfn115 rfl (n := 33) rfl ?_
      generalize hF : finF cfg Tryd.f115 = F
      simp only [bW, if_true, Nat.reduceEqDiff, if_false, zi]
      repeat' first | (intro hb; first | cases hb | skip) | ((first | apply z6 | apply zc); (· rfl); (· simp (disch := assumption) only [go_sem, Nat.reduceEqDiff, Nat.reduceAdd, bP, zd, Nat.reduceLeDiff, Nat.reduceLT, Nat.reduceMul, List.length_append, decide_eq_true_eq, z7, z0, Int.reduceToNat, Int.reduceLE, Int.reduceLT, Int.reduceBNe, Int.reduceBEq, reaches, hn, hE0, Nat.sub_self, c1, c2, c3, c4, h1, h2, h3, h4, h5, h6, h7, hne, hne', h0', g0, g1, hsum2, hE2, htk, hxs, hlen, ho1, ho2, ho3, hsum, hle, hE1, hEl, hb1, hb2, hb3, hb4, hb5, hb6, hb7]; rfl); (· simp only [go_sem, Nat.reduceLT, Nat.reduceEqDiff]; rfl); (· rfl); first | (apply zb; (· simp only [go_sem, Nat.reduceLT]; rfl); (· simp only [go_sem, Nat.reduceLT]; rfl)) | (apply zf; (· simp only [go_sem, Nat.reduceLT]; rfl))) | ((first | apply z9 | apply za); (· rfl); (· simp only [go_sem, Nat.reduceLT]; rfl)) | (apply z8; (· simp only [go_sem, Nat.reduceEqDiff])) | (apply z5; (· simp only [go_sem, Nat.reduceEqDiff])) | (apply ze; (· kernel_rfl); (· kernel_rfl)) | (simp only [bW, if_true, Nat.reduceEqDiff, if_false])
      subst hF
      exact fin1 (n - 1) (E.take (n - 1) ++ [.agg [I 0, I 0, I 0, I 0, I 0, I 0, I 0]] ++ E.drop n) rfl (by rw [List.drop_eq_nil_of_le (show E.length ≤ n by omega), ← hE2, List.take_left' (show (List.take i els ++ a :: r).length = n - 1 by simp; omega), hxs, List.append_nil])

theorem i115_5 (els : List D) (n i nxt : Nat) (hk : 5 < nxt) (hn : els.length = n) (hi : i < n) (hn1 : n ≤ 100000) (hE : ∀ l : List D, l.Sublist els → allOk 7 l = true) : (lim cfg).inl 115 [.lsl 5 0 n 7 none, I (i : Nat), I ((i + 1 : Nat) : Int)] [(5, ⟨els, 7, false⟩)] nxt = some (.lsl 5 0 (n - 1) 7 none, [(5, ⟨els.take i ++ els.drop (i + 1) ++ [.agg [I 0, I 0, I 0, I 0, I 0, I 0, I 0]], 7, false⟩)], nxt) := by
  have hE0 := hE els (List.Sublist.refl _)
  have c1 : (0 : Int) ≤ ((i + 1 : Nat) : Int) := by omega
  have c2 : (0 : Int) ≤ ((n - 1 : Nat) : Int) := by omega
  have c3 : (0 : Int) ≤ ((n : Nat) : Int) := by omega
  have c4 : (0 : Int) ≤ ((i : Nat) : Int) := by omega
  have h1 : (i ≤ i + 1) = True := by simp
  have h2 : (i + 1 ≤ n) = True := by simp; omega
  have h3 : (0 < n) = True := by simp; omega
  have h4 : (i ≤ n) = True := by simp; omega
  have h5 : (n ≤ els.length) = True := by simp; omega
  have h6 : (i ≤ els.length) = True := by simp; omega
  have h7 : (0 ≤ i) = True := by simp
  have hne : (i = i + 1) = False := by simp
  have hne' : ((i : Int) == ((i + 1 : Nat) : Int)) = false := by simp; omega
  have hb1 : ((n - 1) * 56 ≤ big) = True := by simp [big]; omega
  have hb2 : (n - 1 ≤ big) = True := by simp [big]; omega
  have hb3 : (n - 1 ≤ n) = True := by simp
  have hb4 : (n - 1 = n) = False := by simp; omega
  have hb5 : n - (n - 1) = 1 := by omega
  have hb6 : (n ≤ n - 1) = False := by simp; omega
  have hb7 : n - 1 + 1 = n := by omega
  have hb8 : (n - 1 = 0) = False ∨ (n - 1 = 0) = True := by by_cases h : n - 1 = 0 <;> simp [h]
  have fin1 : ∀ (q : Nat) (E : List D), q = n - 1 → E = els.take i ++ els.drop (i + 1) ++ [.agg [I 0, I 0, I 0, I 0, I 0, I 0, I 0]] → some (D.lsl 5 0 q 7 none, [(5, (⟨E, 7, false⟩ : Ob))], nxt) = some (.lsl 5 0 (n - 1) 7 none, [(5, ⟨els.take i ++ els.drop (i + 1) ++ [.agg [I 0, I 0, I 0, I 0, I 0, I 0, I 0]], 7, false⟩)], nxt) := by
    intro q E h1 h2
    rw [h1, h2]
  by_cases h0 : i = 0
  · subst h0
    by_cases hl : n = 1
    · subst hl
      obtain ⟨e, rfl⟩ := List.length_eq_one_iff.1 hn
      refine w_inl (cfg_xinl 115) cfn115 rfl (n := 33) rfl ?_
      generalize hF : finF cfg Tryd.f115 = F
      simp only [bW, if_true, Nat.reduceEqDiff, if_false, zi]
      repeat' first | (intro hb; first | cases hb | skip) | ((first | apply z6 | apply zc); (· rfl); (· simp (disch := assumption) only [go_sem, Nat.reduceEqDiff, Nat.reduceAdd, bP, zd, Nat.reduceLeDiff, Nat.reduceLT, Nat.reduceMul, List.length_append, decide_eq_true_eq, z7, z0, Int.reduceToNat, Int.reduceLE, Int.reduceLT, Int.reduceBNe, Int.reduceBEq, reaches, hn, hE0, Nat.sub_self]; rfl); (· simp only [go_sem, Nat.reduceLT, Nat.reduceEqDiff]; rfl); (· rfl); first | (apply zb; (· simp only [go_sem, Nat.reduceLT]; rfl); (· simp only [go_sem, Nat.reduceLT]; rfl)) | (apply zf; (· simp only [go_sem, Nat.reduceLT]; rfl))) | ((first | apply z9 | apply za); (· rfl); (· simp only [go_sem, Nat.reduceLT]; rfl)) | (apply z8; (· simp only [go_sem, Nat.reduceEqDiff])) | (apply z5; (· simp only [go_sem, Nat.reduceEqDiff])) | (apply ze; (· kernel_rfl); (· kernel_rfl)) | (simp only [bW, if_true, Nat.reduceEqDiff, if_false])
      subst hF
      rfl
    · have g1 : (1 = n) = False := by simp; omega
      have htk : List.take (n - 1) (List.drop 1 els) = List.drop 1 els := by rw [List.take_of_length_le]; simp; omega
      have hlen : (List.drop 1 els).length = n - 1 := by simp; omega
      have hok := hE _ (List.drop_sublist 1 els)
      have hsum : 1 + (n - 1) = n := by omega
      have hle : (n ≤ n) = True := by simp
      obtain ⟨a, r, hxs⟩ : ∃ a r, List.drop 1 els = a :: r := by
        cases h : List.drop 1 els with
        | nil => rw [h] at hlen; simp at hlen; omega
        | cons a r => exact ⟨a, r, rfl⟩
      rw [hxs] at htk hlen hok
      simp only [List.length_cons] at hlen
      simp only [allOk, Bool.and_eq_true, decide_eq_true_eq] at hok
      obtain ⟨⟨ho1, ho2⟩, ho3⟩ := hok
      obtain ⟨E, hE1⟩ : ∃ E, a :: (r ++ List.drop (n - 1) els) = E := ⟨_, rfl⟩
      have hEl : E.length = n := by rw [← hE1]; simp; omega
      refine w_inl (cfg_xinl 115) cfn115 rfl (n := 33) rfl ?_
      generalize hF : finF cfg Tryd.f115 = F
      simp only [bW, if_true, Nat.reduceEqDiff, if_false, zi]
      repeat' first | (intro hb; first | cases hb | skip) | ((first | apply z6 | apply zc); (· rfl); (· simp (disch := assumption) only [go_sem, Nat.reduceEqDiff, Nat.reduceAdd, bP, zd, Nat.reduceLeDiff, Nat.reduceLT, Nat.reduceMul, List.length_append, decide_eq_true_eq, z7, z0, Int.reduceToNat, Int.reduceLE, Int.reduceLT, Int.reduceBNe, Int.reduceBEq, reaches, hn, hE0, Nat.sub_self, c1, c2, c3, c4, h1, h2, h3, h4, h5, h6, h7, hne, hne', g1, htk, hxs, hlen, ho1, ho2, ho3, hsum, hle, hE1, hEl, hb1, hb2, hb3, hb4, hb5, hb6, hb7]; rfl); (· simp only [go_sem, Nat.reduceLT, Nat.reduceEqDiff]; rfl); (· rfl); first | (apply zb; (· simp only [go_sem, Nat.reduceLT]; rfl); (· simp only [go_sem, Nat.reduceLT]; rfl)) | (apply zf; (· simp only [go_sem, Nat.reduceLT]; rfl))) | ((first | apply z9 | apply za); (· rfl); (· simp only [go_sem, Nat.reduceLT]; rfl)) | (apply z8; (· simp only [go_sem, Nat.reduceEqDiff])) | (apply z5; (· simp only [go_sem, Nat.reduceEqDiff])) | (apply ze; (· kernel_rfl); (· kernel_rfl)) | (simp only [bW, if_true, Nat.reduceEqDiff, if_false])
      subst hF
      exact fin1 (n - 1) (E.take (n - 1) ++ [.agg [I 0, I 0, I 0, I 0, I 0, I 0, I 0]] ++ E.drop n) rfl (by rw [List.drop_eq_nil_of_le (show E.length ≤ n by omega), ← hE1, show a :: (r ++ List.drop (n - 1) els) = (a :: r) ++ List.drop (n - 1) els from rfl, List.take_left' (show (a :: r).length = n - 1 from hlen), ← hxs]; simp)
  · have h0' : (0 = i) = False := by simp; omega
    have g0 : (i + 1 = 0) = False := by simp
    by_cases hl : i + 1 = n
    · subst hl
      have g1 : (i = i + 1) = False := by simp
      have g2 : i + 1 - i = 1 := by omega
      have g3 : (i + 1 ≤ i) = False := by simp
      refine w_inl (cfg_xinl 115) cfn115 rfl (n := 33) rfl ?_
      generalize hF : finF cfg Tryd.f115 = F
      simp only [bW, if_true, Nat.reduceEqDiff, if_false, zi]
      repeat' first | (intro hb; first | cases hb | skip) | ((first | apply z6 | apply zc); (· rfl); (· simp (disch := assumption) only [go_sem, Nat.reduceEqDiff, Nat.reduceAdd, bP, zd, Nat.reduceLeDiff, Nat.reduceLT, Nat.reduceMul, List.length_append, decide_eq_true_eq, z7, z0, Int.reduceToNat, Int.reduceLE, Int.reduceLT, Int.reduceBNe, Int.reduceBEq, reaches, hn, hE0, Nat.sub_self, c1, c2, c3, c4, h1, h2, h3, h4, h5, h6, h7, hne, hne', h0', g0, g1, g2, g3]; rfl); (· simp only [go_sem, Nat.reduceLT, Nat.reduceEqDiff]; rfl); (· rfl); first | (apply zb; (· simp only [go_sem, Nat.reduceLT]; rfl); (· simp only [go_sem, Nat.reduceLT]; rfl)) | (apply zf; (· simp only [go_sem, Nat.reduceLT]; rfl))) | ((first | apply z9 | apply za); (· rfl); (· simp only [go_sem, Nat.reduceLT]; rfl)) | (apply z8; (· simp only [go_sem, Nat.reduceEqDiff])) | (apply z5; (· simp only [go_sem, Nat.reduceEqDiff])) | (apply ze; (· kernel_rfl); (· kernel_rfl)) | (simp only [bW, if_true, Nat.reduceEqDiff, if_false])
      subst hF
      exact fin1 _ _ (by omega) (by rw [List.drop_eq_nil_of_le (by omega : els.length ≤ i + 1)]; simp)
    · have g1 : (i + 1 = n) = False := by simp; omega
      have htk : List.take (n - (i + 1)) (List.drop (i + 1) els) = List.drop (i + 1) els := by rw [List.take_of_length_le]; simp; omega
      have hlen : (List.drop (i + 1) els).length = n - (i + 1) := by simp; omega
      have hsum : i + 1 + (n - (i + 1)) = n := by omega
      have hle : (n ≤ n) = True := by simp
      have hok := hE _ (List.drop_sublist (i + 1) els)
      obtain ⟨a, r, hxs⟩ : ∃ a r, List.drop (i + 1) els = a :: r := by
        cases h : List.drop (i + 1) els with
        | nil => rw [h] at hlen; simp at hlen; omega
        | cons a r => exact ⟨a, r, rfl⟩
      rw [hxs] at htk hlen hok
      simp only [List.length_cons] at hlen
      have hsum2 : i + (n - (i + 1)) = n - 1 := by omega
      simp only [allOk, Bool.and_eq_true, decide_eq_true_eq] at hok
      obtain ⟨⟨ho1, ho2⟩, ho3⟩ := hok
      obtain ⟨E, hE1⟩ : ∃ E, List.take i els ++ (a :: (r ++ List.drop (n - 1) els)) = E := ⟨_, rfl⟩
      have hE2 : List.take i els ++ a :: r ++ List.drop (n - 1) els = E := by rw [← hE1]; simp
      have hEl : E.length = n := by rw [← hE1]; simp; omega
      refine w_inl (cfg_xinl 115) cfn115 rfl (n := 33) rfl ?_
      generalize hF : finF cfg Tryd.f115 = F
      simp only [bW, if_true, Nat.reduceEqDiff, if_false, zi]
      repeat' first | (intro hb; first | cases hb | skip) | ((first | apply z6 | apply zc); (· rfl); (· simp (disch := assumption) only [go_sem, Nat.reduceEqDiff, Nat.reduceAdd, bP, zd, Nat.reduceLeDiff, Nat.reduceLT, Nat.reduceMul, List.length_append, decide_eq_true_eq, z7, z0, Int.reduceToNat, Int.reduceLE, Int.reduceLT, Int.reduceBNe, Int.reduceBEq, reaches, hn, hE0, Nat.sub_self, c1, c2, c3, c4, h1, h2, h3, h4, h5, h6, h7, hne, hne', h0', g0, g1, hsum2, hE2, htk, hxs, hlen, ho1, ho2, ho3, hsum, hle, hE1, hEl, hb1, hb2, hb3, hb4, hb5, hb6, hb7]; rfl); (· simp only [go_sem, Nat.reduceLT, Nat.reduceEqDiff]; rfl); (· rfl); first | (apply zb; (· simp only [go_sem, Nat.reduceLT]; rfl); (· simp only [go_sem, Nat.reduceLT]; rfl)) | (apply zf; (· simp only [go_sem, Nat.reduceLT]; rfl))) | ((first | apply z9 | apply za); (· rfl); (· simp only [go_sem, Nat.reduceLT]; rfl)) | (apply z8; (· simp only [go_sem, Nat.reduceEqDiff])) | (apply z5; (· simp only [go_sem, Nat.reduceEqDiff])) | (apply ze; (· kernel_rfl); (· kernel_rfl)) | (simp only [bW, if_true, Nat.reduceEqDiff, if_false])
      subst hF
      exact fin1 (n - 1) (E.take (n - 1) ++ [.agg [I 0, I 0, I 0, I 0, I 0, I 0, I 0]] ++ E.drop n) rfl (by rw [List.drop_eq_nil_of_le (show E.length ≤ n by omega), ← hE2, List.take_left' (show (List.take i els ++ a :: r).length = n - 1 by simp; omega), hxs, List.append_nil])

theorem i115_6 (els : List D) (n i nxt : Nat) (hk : 6 < nxt) (hn : els.length = n) (hi : i < n) (hn1 : n ≤ 100000) (hE : ∀ l : List D, l.Sublist els → allOk 7 l = true) : (lim cfg).inl 115 [.lsl 6 0 n 7 none, I (i : Nat), I ((i + 1 : Nat) : Int)] [(6, ⟨els, 7, false⟩)] nxt = some (.lsl 6 0 (n - 1) 7 none, [(6, ⟨els.take i ++ els.drop (i + 1) ++ [.agg [I 0, I 0, I 0, I 0, I 0, I 0, I 0]], 7, false⟩)], nxt) := by
  have hE0 := hE els (List.Sublist.refl _)
  have c1 : (0 : Int) ≤ ((i + 1 : Nat) : Int) := by omega
  have c2 : (0 : Int) ≤ ((n - 1 : Nat) : Int) := by omega
  have c3 : (0 : Int) ≤ ((n : Nat) : Int) := by omega
  have c4 : (0 : Int) ≤ ((i : Nat) : Int) := by omega
  have h1 : (i ≤ i + 1) = True := by simp
  have h2 : (i + 1 ≤ n) = True := by simp; omega
  have h3 : (0 < n) = True := by simp; omega
  have h4 : (i ≤ n) = True := by simp; omega
  have h5 : (n ≤ els.length) = True := by simp; omega
  have h6 : (i ≤ els.length) = True := by simp; omega
  have h7 : (0 ≤ i) = True := by simp
  have hne : (i = i + 1) = False := by simp
  have hne' : ((i : Int) == ((i + 1 : Nat) : Int)) = false := by simp; omega
  have hb1 : ((n - 1) * 56 ≤ big) = True := by simp [big]; omega
  have hb2 : (n - 1 ≤ big) = True := by simp [big]; omega
  have hb3 : (n - 1 ≤ n) = True := by simp
  have hb4 : (n - 1 = n) = False := by simp; omega
  have hb5 : n - (n - 1) = 1 := by omega
  have hb6 : (n ≤ n - 1) = False := by simp; omega
  have hb7 : n - 1 + 1 = n := by omega
  have hb8 : (n - 1 = 0) = False ∨ (n - 1 = 0) = True := by by_cases h : n - 1 = 0 <;> simp [h]
  have fin1 : ∀ (q : Nat) (E : List D), q = n - 1 → E = els.take i ++ els.drop (i + 1) ++ [.agg [I 0, I 0, I 0, I 0, I 0, I 0, I 0]] → some (D.lsl 6 0 q 7 none, [(6, (⟨E, 7, false⟩ : Ob))], nxt) = some (.lsl 6 0 (n - 1) 7 none, [(6, ⟨els.take i ++ els.drop (i + 1) ++ [.agg [I 0, I 0, I 0, I 0, I 0, I 0, I 0]], 7, false⟩)], nxt) := by
    intro q E h1 h2
    rw [h1, h2]
  by_cases h0 : i = 0
  · subst h0
    by_cases hl : n = 1
    · subst hl
      obtain ⟨e, rfl⟩ := List.length_eq_one_iff.1 hn
      refine w_inl (cfg_xinl 115) cfn115 rfl (n := 33) rfl ?_
      generalize hF : finF cfg Tryd.f115 = F
      simp only [bW, if_true, Nat.reduceEqDiff, if_false, zi]
      repeat' first | (intro hb; first | cases hb | skip) | ((first | apply z6 | apply zc); (· rfl); (· simp (disch := assumption) only [go_sem, Nat.reduceEqDiff, Nat.reduceAdd, bP, zd, Nat.reduceLeDiff, Nat.reduceLT, Nat.reduceMul, List.length_append, decide_eq_true_eq, z7, z0, Int.reduceToNat, Int.reduceLE, Int.reduceLT, Int.reduceBNe, Int.reduceBEq, reaches, hn, hE0, Nat.sub_self]; rfl); (· simp only [go_sem, Nat.reduceLT, Nat.reduceEqDiff]; rfl); (· rfl); first | (apply zb; (· simp only [go_sem, Nat.reduceLT]; rfl); (· simp only [go_sem, Nat.reduceLT]; rfl)) | (apply zf; (· simp only [go_sem, Nat.reduceLT]; rfl))) | ((first | apply z9 | apply za); (· rfl); (· simp only [go_sem, Nat.reduceLT]; rfl)) | (apply z8; (· simp only [go_sem, Nat.reduceEqDiff])) | (apply z5; (· simp only [go_sem, Nat.reduceEqDiff])) | (apply ze; (· kernel_rfl); (· kernel_rfl)) | (simp only [bW, if_true, Nat.reduceEqDiff, if_false])
      subst hF
      rfl
    · have g1 : (1 = n) = False := by simp; omega
      have htk : List.take (n - 1) (List.drop 1 els) = List.drop 1 els := by rw [List.take_of_length_le]; simp; omega
      have hlen : (List.drop 1 els).length = n - 1 := by simp; omega
      have hok := hE _ (List.drop_sublist 1 els)
      have hsum : 1 + (n - 1) = n := by omega
      have hle : (n ≤ n) = True := by simp
      obtain ⟨a, r, hxs⟩ : ∃ a r, List.drop 1 els = a :: r := by
        cases h : List.drop 1 els with
        | nil => rw [h] at hlen; simp at hlen; omega
        | cons a r => exact ⟨a, r, rfl⟩
      rw [hxs] at htk hlen hok
      simp only [List.length_cons] at hlen
      simp only [allOk, Bool.and_eq_true, decide_eq_true_eq] at hok
      obtain ⟨⟨ho1, ho2⟩, ho3⟩ := hok
      obtain ⟨E, hE1⟩ : ∃ E, a :: (r ++ List.drop (n - 1) els) = E := ⟨_, rfl⟩
      have hEl : E.length = n := by rw [← hE1]; simp; omega
      refine w_inl (cfg_xinl 115) cfn115 rfl (n := 33) rfl ?_
      generalize hF : finF cfg Tryd.f115 = F
      simp only [bW, if_true, Nat.reduceEqDiff, if_false, zi]
      repeat' first | (intro hb; first | cases hb | skip) | ((first | apply z6 | apply zc); (· rfl); (· simp (disch := assumption) only [go_sem, Nat.reduceEqDiff, Nat.reduceAdd, bP, zd, Nat.reduceLeDiff, Nat.reduceLT, Nat.reduceMul, List.length_append, decide_eq_true_eq, z7, z0, Int.reduceToNat, Int.reduceLE, Int.reduceLT, Int.reduceBNe, Int.reduceBEq, reaches, hn, hE0, Nat.sub_self, c1, c2, c3, c4, h1, h2, h3, h4, h5, h6, h7, hne, hne', g1, htk, hxs, hlen, ho1, ho2, ho3, hsum, hle, hE1, hEl, hb1, hb2, hb3, hb4, hb5, hb6, hb7]; rfl); (· simp only [go_sem, Nat.reduceLT, Nat.reduceEqDiff]; rfl); (· rfl); first | (apply zb; (· simp only [go_sem, Nat.reduceLT]; rfl); (· simp only [go_sem, Nat.reduceLT]; rfl)) | (apply zf; (· simp only [go_sem, Nat.reduceLT]; rfl))) | ((first | apply z9 | apply za); (· rfl); (· simp only [go_sem, Nat.reduceLT]; rfl)) | (apply z8; (· simp only [go_sem, Nat.reduceEqDiff])) | (apply z5; (· simp only [go_sem, Nat.reduceEqDiff])) | (apply ze; (· kernel_rfl); (· kernel_rfl)) | (simp only [bW, if_true, Nat.reduceEqDiff, if_false])
      subst hF
      exact fin1 (n - 1) (E.take (n - 1) ++ [.agg [I 0, I 0, I 0, I 0, I 0, I 0, I 0]] ++ E.drop n) rfl (by rw [List.drop_eq_nil_of_le (show E.length ≤ n by omega), ← hE1, show a :: (r ++ List.drop (n - 1) els) = (a :: r) ++ List.drop (n - 1) els from rfl, List.take_left' (show (a :: r).length = n - 1 from hlen), ← hxs]; simp)
  · have h0' : (0 = i) = False := by simp; omega
    have g0 : (i + 1 = 0) = False := by simp
    by_cases hl : i + 1 = n
    · subst hl
      have g1 : (i = i + 1) = False := by simp
      have g2 : i + 1 - i = 1 := by omega
      have g3 : (i + 1 ≤ i) = False := by simp
      refine w_inl (cfg_xinl 115) cfn115 rfl (n := 33) rfl ?_
      generalize hF : finF cfg Tryd.f115 = F
      simp only [bW, if_true, Nat.reduceEqDiff, if_false, zi]
      repeat' first | (intro hb; first | cases hb | skip) | ((first | apply z6 | apply zc); (· rfl); (· simp (disch := assumption) only [go_sem, Nat.reduceEqDiff, Nat.reduceAdd, bP, zd, Nat.reduceLeDiff, Nat.reduceLT, Nat.reduceMul, List.length_append, decide_eq_true_eq, z7, z0, Int.reduceToNat, Int.reduceLE, Int.reduceLT, Int.reduceBNe, Int.reduceBEq, reaches, hn, hE0, Nat.sub_self, c1, c2, c3, c4, h1, h2, h3, h4, h5, h6, h7, hne, hne', h0', g0, g1, g2, g3]; rfl); (· simp only [go_sem, Nat.reduceLT, Nat.reduceEqDiff]; rfl); (· rfl); first | (apply zb; (· simp only [go_sem, Nat.reduceLT]; rfl); (· simp only [go_sem, Nat.reduceLT]; rfl)) | (apply zf; (· simp only [go_sem, Nat.reduceLT]; rfl))) | ((first | apply z9 | apply za); (· rfl); (· simp only [go_sem, Nat.reduceLT]; rfl)) | (apply z8; (· simp only [go_sem, Nat.reduceEqDiff])) | (apply z5; (· simp only [go_sem, Nat.reduceEqDiff])) | (apply ze; (· kernel_rfl); (· kernel_rfl)) | (simp only [bW, if_true, Nat.reduceEqDiff, if_false])
      subst hF
      exact fin1 _ _ (by omega) (by rw [List.drop_eq_nil_of_le (by omega : els.length ≤ i + 1)]; simp)
    · have g1 : (i + 1 = n) = False := by simp; omega
      have htk : List.take (n - (i + 1)) (List.drop (i + 1) els) = List.drop (i + 1) els := by rw [List.take_of_length_le]; simp; omega
      have hlen : (List.drop (i + 1) els).length = n - (i + 1) := by simp; omega
      have hsum : i + 1 + (n - (i + 1)) = n := by omega
      have hle : (n ≤ n) = True := by simp
      have hok := hE _ (List.drop_sublist (i + 1) els)
      obtain ⟨a, r, hxs⟩ : ∃ a r, List.drop (i + 1) els = a :: r := by
        cases h : List.drop (i + 1) els with
        | nil => rw [h] at hlen; simp at hlen; omega
        | cons a r => exact ⟨a, r, rfl⟩
      rw [hxs] at htk hlen hok
      simp only [List.length_cons] at hlen
      have hsum2 : i + (n - (i + 1)) = n - 1 := by omega
      simp only [allOk, Bool.and_eq_true, decide_eq_true_eq] at hok
      obtain ⟨⟨ho1, ho2⟩, ho3⟩ := hok
      obtain ⟨E, hE1⟩ : ∃ E, List.take i els ++ (a :: (r ++ List.drop (n - 1) els)) = E := ⟨_, rfl⟩
      have hE2 : List.take i els ++ a :: r ++ List.drop (n - 1) els = E := by rw [← hE1]; simp
      have hEl : E.length = n := by rw [← hE1]; simp; omega
      refine w_inl (cfg_xinl 115) cfn115 rfl (n := 33) rfl ?_
      generalize hF : finF cfg Tryd.f115 = F
      simp only [bW, if_true, Nat.reduceEqDiff, if_false, zi]
      repeat' first | (intro hb; first | cases hb | skip) | ((first | apply z6 | apply zc); (· rfl); (· simp (disch := assumption) only [go_sem, Nat.reduceEqDiff, Nat.reduceAdd, bP, zd, Nat.reduceLeDiff, Nat.reduceLT, Nat.reduceMul, List.length_append, decide_eq_true_eq, z7, z0, Int.reduceToNat, Int.reduceLE, Int.reduceLT, Int.reduceBNe, Int.reduceBEq, reaches, hn, hE0, Nat.sub_self, c1, c2, c3, c4, h1, h2, h3, h4, h5, h6, h7, hne, hne', h0', g0, g1, hsum2, hE2, htk, hxs, hlen, ho1, ho2, ho3, hsum, hle, hE1, hEl, hb1, hb2, hb3, hb4, hb5, hb6, hb7]; rfl); (· simp only [go_sem, Nat.reduceLT, Nat.reduceEqDiff]; rfl); (· rfl); first | (apply zb; (· simp only [go_sem, Nat.reduceLT]; rfl); (· simp only [go_sem, Nat.reduceLT]; rfl)) | (apply zf; (· simp only [go_sem, Nat.reduceLT]; rfl))) | ((first | apply z9 | apply za); (· rfl); (· simp only [go_sem, Nat.reduceLT]; rfl)) | (apply z8; (· simp only [go_sem, Nat.reduceEqDiff])) | (apply z5; (· simp only [go_sem, Nat.reduceEqDiff])) | (apply ze; (· kernel_rfl); (· kernel_rfl)) | (simp only [bW, if_true, Nat.reduceEqDiff, if_false])
      subst hF
      exact fin1 (n - 1) (E.take (n - 1) ++ [.agg [I 0, I 0, I 0, I 0, I 0, I 0, I 0]] ++ E.drop n) rfl (by rw [List.drop_eq_nil_of_le (show E.length ≤ n by omega), ← hE2, List.take_left' (show (List.take i els ++ a :: r).length = n - 1 by simp; omega), hxs, List.append_nil])

end Go.VS
namespace Go.VS
open Go Go.Proofs
set_option maxHeartbeats 0
set_option linter.unusedSimpArgs false

theorem ck58 {S : Sm} {objs : List (Nat × Ob)} {nxt : Nat} {args : List D} : zq cfg S objs nxt 58 args = zG S objs nxt 58 args := by
  simp only [zq, cfg_fn, cfn58]
  rfl
theorem ck59 {S : Sm} {objs : List (Nat × Ob)} {nxt : Nat} {args : List D} : zq cfg S objs nxt 59 args = zG S objs nxt 59 args := by
  simp only [zq, cfg_fn, cfn59]
  rfl
theorem ck115 {S : Sm} {objs : List (Nat × Ob)} {nxt : Nat} {args : List D} : zq cfg S objs nxt 115 args = zG S objs nxt 115 args := by
  simp only [zq, cfg_fn, cfn115]
  rfl
theorem ck116 {S : Sm} {objs : List (Nat × Ob)} {nxt : Nat} {args : List D} : zq cfg S objs nxt 116 args = zG S objs nxt 116 args := by
  simp only [zq, cfg_fn, cfn116]
  rfl
theorem n58_3 : (lim cfg).inl 58 [.sl true [] 0 none] [] 3 = some (.sl true [] 0 none, [], 3) ∧ (lim cfg).inl 58 [.sl false [] 5 none] [] 3 = some (.lsl 3 0 0 5 (some 0), [(3, ⟨[], 5, false⟩)], 4) := ⟨lim_inl.2 ⟨30, by kernel_rfl⟩, lim_inl.2 ⟨30, by kernel_rfl⟩⟩
theorem n59_3 : (lim cfg).inl 59 [.sl true [] 0 none] [] 3 = some (.sl true [] 0 none, [], 3) ∧ (lim cfg).inl 59 [.sl false [] 7 none] [] 3 = some (.lsl 3 0 0 7 (some 0), [(3, ⟨[], 7, false⟩)], 4) := ⟨lim_inl.2 ⟨30, by kernel_rfl⟩, lim_inl.2 ⟨30, by kernel_rfl⟩⟩
theorem n59_4 : (lim cfg).inl 59 [.sl true [] 0 none] [] 4 = some (.sl true [] 0 none, [], 4) ∧ (lim cfg).inl 59 [.sl false [] 7 none] [] 4 = some (.lsl 4 0 0 7 (some 0), [(4, ⟨[], 7, false⟩)], 5) := ⟨lim_inl.2 ⟨30, by kernel_rfl⟩, lim_inl.2 ⟨30, by kernel_rfl⟩⟩
theorem n59_5 : (lim cfg).inl 59 [.sl true [] 0 none] [] 5 = some (.sl true [] 0 none, [], 5) ∧ (lim cfg).inl 59 [.sl false [] 7 none] [] 5 = some (.lsl 5 0 0 7 (some 0), [(5, ⟨[], 7, false⟩)], 6) := ⟨lim_inl.2 ⟨30, by kernel_rfl⟩, lim_inl.2 ⟨30, by kernel_rfl⟩⟩
theorem sub_okM {ms : List Mark} : ∀ l : List D, l.Sublist (ms.map zm) → allOk 5 l = true := by
  intro l hl
  obtain ⟨ks, -, rfl⟩ := List.sublist_map_iff.1 hl
  exact zy.allOk ks
theorem sub_okJ {ms : List Join} : ∀ l : List D, l.Sublist (ms.map zj) → allOk 7 l = true := by
  intro l hl
  obtain ⟨ks, -, rfl⟩ := List.sublist_map_iff.1 hl
  exact zx.allOk ks
def zP (p : Paper) (r : Reason) : Paper := if r.join then ⟨p.sheets, p.nm, p.marks, p.nj, p.joins.eraseIdx r.at_.toNat⟩ else ⟨p.sheets, p.nm, p.marks.eraseIdx r.at_.toNat, p.nj, p.joins⟩
theorem erase_enc {α : Type} (f : α → D) (l : List α) (i : Nat) (z : D) (n : Nat) (hi : i < n) (hn : l.length = n) : List.take (n - 1) (List.take i (l.map f) ++ List.drop (i + 1) (l.map f) ++ [z]) = (l.eraseIdx i).map f := by
  rw [List.eraseIdx_eq_take_drop_succ, List.map_append, List.map_take, List.map_drop, List.take_left']
  simp; omega

theorem t103m (p : Paper) (i : Nat) (b : Bool) (hwf : p.wf) (h1 : p.marks.length ≤ 1000) (h2 : p.joins.length ≤ 1000) (hi : i < p.marks.length) : (lim cfg).pure 103 [zh p, .agg [B false, I (i : Nat), B b]] = some (zh (zP p ⟨false, (i : Nat), b⟩)) := by
  obtain ⟨sh, nm, M, nj, J⟩ := p
  have hw : IntKind.i64.wrap ((i : Int) + 1) = ((i + 1 : Nat) : Int) := by rw [wrap_i64 (by simp at h1 hi; omega) (by simp at h1 hi; omega)]; omega
  obtain ⟨w1, w2, -, -⟩ := hwf
  simp only [] at w1 w2 h1 h2 hi
  cases nm with
  | true => rw [w1 rfl] at hi; simp at hi
  | false =>
    clear w1
    cases M with
    | nil => simp at hi
    | cons m ms =>
      simp only [List.length_cons] at h1 hi
      cases nj with
      | true =>
        rw [w2 rfl]
        clear w2
        have q1 := i58_3 m ms (by omega)
        have q2 := n59_5.1
        have q3 := i116_4 ((m :: ms).map zm) (ms.length + 1) i 6 (by omega) (by simp) (by omega) (by omega) sub_okM
        have q4 := erase_enc zm (m :: ms) i (.agg [I 0, I 0, I 0, I 0, I 0]) (ms.length + 1) (by omega) rfl
        try simp only [List.map_cons, Nat.add_sub_cancel] at q1
        try simp only [List.map_cons, Nat.add_sub_cancel] at q2
        try simp only [List.map_cons, Nat.add_sub_cancel] at q3
        simp only [List.map_cons, List.drop, Nat.add_sub_cancel] at q4
        have q5 : (ms.length ≤ (List.take i (zm m :: List.map zm ms) ++ List.drop i (List.map zm ms) ++ [D.agg [I 0, I 0, I 0, I 0, I 0]]).length) = True := by simp; omega
        refine zp (zk 103) cfn103 rfl (n := 36) rfl ?_
        generalize hF : finP cfg Tryd.f103 = F
        simp only [bW, if_true, Nat.reduceEqDiff, if_false, zi]
        repeat' first | (intro hb; first | cases hb | skip) | ((first | apply z6 | apply zc); (· rfl); (· simp (disch := assumption) only [go_sem, Nat.reduceEqDiff, Nat.reduceAdd, bP, zd, Nat.reduceLeDiff, Nat.reduceLT, Nat.reduceMul, List.length_append, decide_eq_true_eq, z7, z0, Int.reduceToNat, Int.reduceLE, Int.reduceLT, Int.reduceBNe, Int.reduceBEq, zG, zz, only, keysO, zU, bI, ck58, ck59, ck115, ck116, q1, q2, q3, hw, reaches, zy.ids, zy.idsL, zx.ids, zx.idsL, zy.snap, zy.snapAll, zx.snap, zx.snapAll, q4]; rfl); (· simp only [go_sem, Nat.reduceLT, Nat.reduceEqDiff]; rfl); (· rfl); first | (apply zb; (· simp only [go_sem, Nat.reduceLT]; rfl); (· simp only [go_sem, Nat.reduceLT]; rfl)) | (apply zf; (· simp only [go_sem, Nat.reduceLT]; rfl))) | ((first | apply z9 | apply za); (· rfl); (· simp only [go_sem, Nat.reduceLT]; rfl)) | (apply z8; (· simp only [go_sem, Nat.reduceEqDiff])) | (apply z5; (· simp only [go_sem, Nat.reduceEqDiff])) | (apply ze; (· kernel_rfl); (· kernel_rfl)) | (simp only [bW, if_true, Nat.reduceEqDiff, if_false])
        subst hF
        all_goals simp only [go_sem, Nat.reduceEqDiff, bP, Nat.reduceAdd, Nat.reduceLeDiff, List.length_map, Tryd.f103, z7, q4, q5, zy.snapAll, zx.snapAll, zy.snap, zx.snap]
        all_goals first | rfl | trace_state
      | false =>
        clear w2
        cases J with
        | nil =>
          have q1 := i58_3 m ms (by omega)
          have q2 := n59_5.2
          have q3 := i116_4 ((m :: ms).map zm) (ms.length + 1) i 7 (by omega) (by simp) (by omega) (by omega) sub_okM
          have q4 := erase_enc zm (m :: ms) i (.agg [I 0, I 0, I 0, I 0, I 0]) (ms.length + 1) (by omega) rfl
          try simp only [List.map_cons, Nat.add_sub_cancel] at q1
          try simp only [List.map_cons, Nat.add_sub_cancel] at q2
          try simp only [List.map_cons, Nat.add_sub_cancel] at q3
          simp only [List.map_cons, List.drop, Nat.add_sub_cancel] at q4
          have q5 : (ms.length ≤ (List.take i (zm m :: List.map zm ms) ++ List.drop i (List.map zm ms) ++ [D.agg [I 0, I 0, I 0, I 0, I 0]]).length) = True := by simp; omega
          refine zp (zk 103) cfn103 rfl (n := 36) rfl ?_
          generalize hF : finP cfg Tryd.f103 = F
          simp only [bW, if_true, Nat.reduceEqDiff, if_false, zi]
          repeat' first | (intro hb; first | cases hb | skip) | ((first | apply z6 | apply zc); (· rfl); (· simp (disch := assumption) only [go_sem, Nat.reduceEqDiff, Nat.reduceAdd, bP, zd, Nat.reduceLeDiff, Nat.reduceLT, Nat.reduceMul, List.length_append, decide_eq_true_eq, z7, z0, Int.reduceToNat, Int.reduceLE, Int.reduceLT, Int.reduceBNe, Int.reduceBEq, zG, zz, only, keysO, zU, bI, ck58, ck59, ck115, ck116, q1, q2, q3, hw, reaches, zy.ids, zy.idsL, zx.ids, zx.idsL, zy.snap, zy.snapAll, zx.snap, zx.snapAll, q4]; rfl); (· simp only [go_sem, Nat.reduceLT, Nat.reduceEqDiff]; rfl); (· rfl); first | (apply zb; (· simp only [go_sem, Nat.reduceLT]; rfl); (· simp only [go_sem, Nat.reduceLT]; rfl)) | (apply zf; (· simp only [go_sem, Nat.reduceLT]; rfl))) | ((first | apply z9 | apply za); (· rfl); (· simp only [go_sem, Nat.reduceLT]; rfl)) | (apply z8; (· simp only [go_sem, Nat.reduceEqDiff])) | (apply z5; (· simp only [go_sem, Nat.reduceEqDiff])) | (apply ze; (· kernel_rfl); (· kernel_rfl)) | (simp only [bW, if_true, Nat.reduceEqDiff, if_false])
          subst hF
          all_goals simp only [go_sem, Nat.reduceEqDiff, bP, Nat.reduceAdd, Nat.reduceLeDiff, List.length_map, Tryd.f103, z7, q4, q5, zy.snapAll, zx.snapAll, zy.snap, zx.snap]
          all_goals first | rfl | trace_state
        | cons j js =>
          simp only [List.length_cons] at h2
          have q1 := i58_3 m ms (by omega)
          have q2 := i59_5 j js (by omega)
          have q3 := i116_4 ((m :: ms).map zm) (ms.length + 1) i 8 (by omega) (by simp) (by omega) (by omega) sub_okM
          have q4 := erase_enc zm (m :: ms) i (.agg [I 0, I 0, I 0, I 0, I 0]) (ms.length + 1) (by omega) rfl
          try simp only [List.map_cons, Nat.add_sub_cancel] at q1
          try simp only [List.map_cons, Nat.add_sub_cancel] at q2
          try simp only [List.map_cons, Nat.add_sub_cancel] at q3
          simp only [List.map_cons, List.drop, Nat.add_sub_cancel] at q4
          have q5 : (ms.length ≤ (List.take i (zm m :: List.map zm ms) ++ List.drop i (List.map zm ms) ++ [D.agg [I 0, I 0, I 0, I 0, I 0]]).length) = True := by simp; omega
          refine zp (zk 103) cfn103 rfl (n := 36) rfl ?_
          generalize hF : finP cfg Tryd.f103 = F
          simp only [bW, if_true, Nat.reduceEqDiff, if_false, zi]
          repeat' first | (intro hb; first | cases hb | skip) | ((first | apply z6 | apply zc); (· rfl); (· simp (disch := assumption) only [go_sem, Nat.reduceEqDiff, Nat.reduceAdd, bP, zd, Nat.reduceLeDiff, Nat.reduceLT, Nat.reduceMul, List.length_append, decide_eq_true_eq, z7, z0, Int.reduceToNat, Int.reduceLE, Int.reduceLT, Int.reduceBNe, Int.reduceBEq, zG, zz, only, keysO, zU, bI, ck58, ck59, ck115, ck116, q1, q2, q3, hw, reaches, zy.ids, zy.idsL, zx.ids, zx.idsL, zy.snap, zy.snapAll, zx.snap, zx.snapAll, q4]; rfl); (· simp only [go_sem, Nat.reduceLT, Nat.reduceEqDiff]; rfl); (· rfl); first | (apply zb; (· simp only [go_sem, Nat.reduceLT]; rfl); (· simp only [go_sem, Nat.reduceLT]; rfl)) | (apply zf; (· simp only [go_sem, Nat.reduceLT]; rfl))) | ((first | apply z9 | apply za); (· rfl); (· simp only [go_sem, Nat.reduceLT]; rfl)) | (apply z8; (· simp only [go_sem, Nat.reduceEqDiff])) | (apply z5; (· simp only [go_sem, Nat.reduceEqDiff])) | (apply ze; (· kernel_rfl); (· kernel_rfl)) | (simp only [bW, if_true, Nat.reduceEqDiff, if_false])
          subst hF
          all_goals simp only [go_sem, Nat.reduceEqDiff, bP, Nat.reduceAdd, Nat.reduceLeDiff, List.length_map, Tryd.f103, z7, q4, q5, zy.snapAll, zx.snapAll, zy.snap, zx.snap]
          all_goals first | rfl | trace_state

theorem t103j (p : Paper) (i : Nat) (b : Bool) (hwf : p.wf) (h1 : p.marks.length ≤ 1000) (h2 : p.joins.length ≤ 1000) (hi : i < p.joins.length) : (lim cfg).pure 103 [zh p, .agg [B true, I (i : Nat), B b]] = some (zh (zP p ⟨true, (i : Nat), b⟩)) := by
  obtain ⟨sh, nm, M, nj, J⟩ := p
  have hw : IntKind.i64.wrap ((i : Int) + 1) = ((i + 1 : Nat) : Int) := by rw [wrap_i64 (by simp at h2 hi; omega) (by simp at h2 hi; omega)]; omega
  obtain ⟨w1, w2, -, -⟩ := hwf
  simp only [] at w1 w2 h1 h2 hi
  cases nj with
  | true => rw [w2 rfl] at hi; simp at hi
  | false =>
    clear w2
    cases J with
    | nil => simp at hi
    | cons j js =>
      simp only [List.length_cons] at h2 hi
      cases nm with
      | true =>
        rw [w1 rfl]
        clear w1
        have q1 := n58_3.1
        have q2 := i59_3 j js (by omega)
        have q3 := i115_4 ((j :: js).map zj) (js.length + 1) i 6 (by omega) (by simp) (by omega) (by omega) sub_okJ
        have q4 := erase_enc zj (j :: js) i (.agg [I 0, I 0, I 0, I 0, I 0, I 0, I 0]) (js.length + 1) (by omega) rfl
        try simp only [List.map_cons, Nat.add_sub_cancel] at q1
        try simp only [List.map_cons, Nat.add_sub_cancel] at q2
        try simp only [List.map_cons, Nat.add_sub_cancel] at q3
        simp only [List.map_cons, List.drop, Nat.add_sub_cancel] at q4
        have q5 : (js.length ≤ (List.take i (zj j :: List.map zj js) ++ List.drop i (List.map zj js) ++ [D.agg [I 0, I 0, I 0, I 0, I 0, I 0, I 0]]).length) = True := by simp; omega
        refine zp (zk 103) cfn103 rfl (n := 36) rfl ?_
        generalize hF : finP cfg Tryd.f103 = F
        simp only [bW, if_true, Nat.reduceEqDiff, if_false, zi]
        repeat' first | (intro hb; first | cases hb | skip) | ((first | apply z6 | apply zc); (· rfl); (· simp (disch := assumption) only [go_sem, Nat.reduceEqDiff, Nat.reduceAdd, bP, zd, Nat.reduceLeDiff, Nat.reduceLT, Nat.reduceMul, List.length_append, decide_eq_true_eq, z7, z0, Int.reduceToNat, Int.reduceLE, Int.reduceLT, Int.reduceBNe, Int.reduceBEq, zG, zz, only, keysO, zU, bI, ck58, ck59, ck115, ck116, q1, q2, q3, hw, reaches, zy.ids, zy.idsL, zx.ids, zx.idsL, zy.snap, zy.snapAll, zx.snap, zx.snapAll, q4]; rfl); (· simp only [go_sem, Nat.reduceLT, Nat.reduceEqDiff]; rfl); (· rfl); first | (apply zb; (· simp only [go_sem, Nat.reduceLT]; rfl); (· simp only [go_sem, Nat.reduceLT]; rfl)) | (apply zf; (· simp only [go_sem, Nat.reduceLT]; rfl))) | ((first | apply z9 | apply za); (· rfl); (· simp only [go_sem, Nat.reduceLT]; rfl)) | (apply z8; (· simp only [go_sem, Nat.reduceEqDiff])) | (apply z5; (· simp only [go_sem, Nat.reduceEqDiff])) | (apply ze; (· kernel_rfl); (· kernel_rfl)) | (simp only [bW, if_true, Nat.reduceEqDiff, if_false])
        subst hF
        all_goals simp only [go_sem, Nat.reduceEqDiff, bP, Nat.reduceAdd, Nat.reduceLeDiff, List.length_map, Tryd.f103, z7, q4, q5, zy.snapAll, zx.snapAll, zy.snap, zx.snap]
        all_goals first | rfl | trace_state
      | false =>
        clear w1
        cases M with
        | nil =>
          have q1 := n58_3.2
          have q2 := i59_4 j js (by omega)
          have q3 := i115_5 ((j :: js).map zj) (js.length + 1) i 7 (by omega) (by simp) (by omega) (by omega) sub_okJ
          have q4 := erase_enc zj (j :: js) i (.agg [I 0, I 0, I 0, I 0, I 0, I 0, I 0]) (js.length + 1) (by omega) rfl
          try simp only [List.map_cons, Nat.add_sub_cancel] at q1
          try simp only [List.map_cons, Nat.add_sub_cancel] at q2
          try simp only [List.map_cons, Nat.add_sub_cancel] at q3
          simp only [List.map_cons, List.drop, Nat.add_sub_cancel] at q4
          have q5 : (js.length ≤ (List.take i (zj j :: List.map zj js) ++ List.drop i (List.map zj js) ++ [D.agg [I 0, I 0, I 0, I 0, I 0, I 0, I 0]]).length) = True := by simp; omega
          refine zp (zk 103) cfn103 rfl (n := 36) rfl ?_
          generalize hF : finP cfg Tryd.f103 = F
          simp only [bW, if_true, Nat.reduceEqDiff, if_false, zi]
          repeat' first | (intro hb; first | cases hb | skip) | ((first | apply z6 | apply zc); (· rfl); (· simp (disch := assumption) only [go_sem, Nat.reduceEqDiff, Nat.reduceAdd, bP, zd, Nat.reduceLeDiff, Nat.reduceLT, Nat.reduceMul, List.length_append, decide_eq_true_eq, z7, z0, Int.reduceToNat, Int.reduceLE, Int.reduceLT, Int.reduceBNe, Int.reduceBEq, zG, zz, only, keysO, zU, bI, ck58, ck59, ck115, ck116, q1, q2, q3, hw, reaches, zy.ids, zy.idsL, zx.ids, zx.idsL, zy.snap, zy.snapAll, zx.snap, zx.snapAll, q4]; rfl); (· simp only [go_sem, Nat.reduceLT, Nat.reduceEqDiff]; rfl); (· rfl); first | (apply zb; (· simp only [go_sem, Nat.reduceLT]; rfl); (· simp only [go_sem, Nat.reduceLT]; rfl)) | (apply zf; (· simp only [go_sem, Nat.reduceLT]; rfl))) | ((first | apply z9 | apply za); (· rfl); (· simp only [go_sem, Nat.reduceLT]; rfl)) | (apply z8; (· simp only [go_sem, Nat.reduceEqDiff])) | (apply z5; (· simp only [go_sem, Nat.reduceEqDiff])) | (apply ze; (· kernel_rfl); (· kernel_rfl)) | (simp only [bW, if_true, Nat.reduceEqDiff, if_false])
          subst hF
          all_goals simp only [go_sem, Nat.reduceEqDiff, bP, Nat.reduceAdd, Nat.reduceLeDiff, List.length_map, Tryd.f103, z7, q4, q5, zy.snapAll, zx.snapAll, zy.snap, zx.snap]
          all_goals first | rfl | trace_state
        | cons m ms =>
          simp only [List.length_cons] at h1
          have q1 := i58_3 m ms (by omega)
          have q2 := i59_5 j js (by omega)
          have q3 := i115_6 ((j :: js).map zj) (js.length + 1) i 8 (by omega) (by simp) (by omega) (by omega) sub_okJ
          have q4 := erase_enc zj (j :: js) i (.agg [I 0, I 0, I 0, I 0, I 0, I 0, I 0]) (js.length + 1) (by omega) rfl
          try simp only [List.map_cons, Nat.add_sub_cancel] at q1
          try simp only [List.map_cons, Nat.add_sub_cancel] at q2
          try simp only [List.map_cons, Nat.add_sub_cancel] at q3
          simp only [List.map_cons, List.drop, Nat.add_sub_cancel] at q4
          have q5 : (js.length ≤ (List.take i (zj j :: List.map zj js) ++ List.drop i (List.map zj js) ++ [D.agg [I 0, I 0, I 0, I 0, I 0, I 0, I 0]]).length) = True := by simp; omega
          refine zp (zk 103) cfn103 rfl (n := 36) rfl ?_
          generalize hF : finP cfg Tryd.f103 = F
          simp only [bW, if_true, Nat.reduceEqDiff, if_false, zi]
          repeat' first | (intro hb; first | cases hb | skip) | ((first | apply z6 | apply zc); (· rfl); (· simp (disch := assumption) only [go_sem, Nat.reduceEqDiff, Nat.reduceAdd, bP, zd, Nat.reduceLeDiff, Nat.reduceLT, Nat.reduceMul, List.length_append, decide_eq_true_eq, z7, z0, Int.reduceToNat, Int.reduceLE, Int.reduceLT, Int.reduceBNe, Int.reduceBEq, zG, zz, only, keysO, zU, bI, ck58, ck59, ck115, ck116, q1, q2, q3, hw, reaches, zy.ids, zy.idsL, zx.ids, zx.idsL, zy.snap, zy.snapAll, zx.snap, zx.snapAll, q4]; rfl); (· simp only [go_sem, Nat.reduceLT, Nat.reduceEqDiff]; rfl); (· rfl); first | (apply zb; (· simp only [go_sem, Nat.reduceLT]; rfl); (· simp only [go_sem, Nat.reduceLT]; rfl)) | (apply zf; (· simp only [go_sem, Nat.reduceLT]; rfl))) | ((first | apply z9 | apply za); (· rfl); (· simp only [go_sem, Nat.reduceLT]; rfl)) | (apply z8; (· simp only [go_sem, Nat.reduceEqDiff])) | (apply z5; (· simp only [go_sem, Nat.reduceEqDiff])) | (apply ze; (· kernel_rfl); (· kernel_rfl)) | (simp only [bW, if_true, Nat.reduceEqDiff, if_false])
          subst hF
          all_goals simp only [go_sem, Nat.reduceEqDiff, bP, Nat.reduceAdd, Nat.reduceLeDiff, List.length_map, Tryd.f103, z7, q4, q5, zy.snapAll, zx.snapAll, zy.snap, zx.snap]
          all_goals first | rfl | trace_state

end Go.VS
namespace Go.VS
open Go Go.Proofs
set_option maxHeartbeats 0
set_option linter.unusedSimpArgs false

theorem ite_nil {b : Bool} : (if b = true then ([] : List Upd) else []) = [] := by cases b <;> rfl
def one1 : Ratio := ⟨1, 1⟩
def clashFrom (es : List Edge) : Nat → Nat → Option Chn
  | 0, _ => none
  | j + 1, i => match (zN es i 5)[i]? with
    | some (some c) => if ltR c.q one1 then some c else clashFrom es j (i + 1)
    | _ => clashFrom es j (i + 1)
theorem edge_of_mark {p : Paper} {m : Mark} (h : markOK p m = true) (hs : p.sheets ≤ 4) (i : Nat) : ∀ e ∈ markE m i, edgeB e := by
  simp [markOK, zA, isAxis, isSeen] at h
  intro e he
  simp [markE] at he
  unfold edgeB
  rcases he with rfl | rfl <;> simp only [] <;> omega
theorem edge_of_join {p : Paper} {m : Join} (h : joinOK p m = true) (hs : p.sheets ≤ 4) (i : Nat) : ∀ e ∈ joinE m i, edgeB e := by
  simp [joinOK, zA, isAxis, isSeen] at h
  intro e he
  simp [joinE] at he
  unfold edgeB
  rcases he with rfl | rfl <;> simp only [] <;> omega
theorem marksE_mem (ax : Int) {e : Edge} : ∀ {l : List Mark} {i : Nat}, e ∈ marksE ax l i → ∃ m k, m ∈ l ∧ m.axis = ax ∧ e ∈ markE m k
  | [], _, h => by cases h
  | m :: r, i, h => by
    simp only [marksE, List.mem_append] at h
    rcases h with h | h
    · split at h
      · rename_i hax; exact ⟨m, i, by simp, hax, h⟩
      · cases h
    · obtain ⟨m', k, h1, h2, h3⟩ := marksE_mem ax h
      exact ⟨m', k, List.mem_cons_of_mem _ h1, h2, h3⟩
theorem joinsE_mem (ax : Int) {e : Edge} : ∀ {l : List Join} {i : Nat}, e ∈ joinsE ax l i → ∃ m k, m ∈ l ∧ m.axis = ax ∧ e ∈ joinE m k
  | [], _, h => by cases h
  | m :: r, i, h => by
    simp only [joinsE, List.mem_append] at h
    rcases h with h | h
    · split at h
      · rename_i hax; exact ⟨m, i, by simp, hax, h⟩
      · cases h
    · obtain ⟨m', k, h1, h2, h3⟩ := joinsE_mem ax h
      exact ⟨m', k, List.mem_cons_of_mem _ h1, h2, h3⟩
theorem zJ {p : Paper} (hok : zt p = true) : 1 ≤ p.sheets ∧ p.sheets ≤ 4 ∧ p.marks.length ≤ 24 ∧ p.joins.length ≤ 24 ∧ (∀ m ∈ p.marks, markOK p m = true) ∧ (∀ m ∈ p.joins, joinOK p m = true) := by
  simp only [zt, Bool.and_eq_true, decide_eq_true_eq, List.all_eq_true] at hok
  obtain ⟨⟨⟨⟨⟨o1, o2⟩, o3⟩, o4⟩, o5⟩, o6⟩ := hok
  exact ⟨o1, o2, o3, o4, o5, o6⟩
theorem edgesB {p : Paper} (hok : zt p = true) (ax : Int) : (∀ e ∈ zI p ax, edgeB e) ∧ (zI p ax).length ≤ 1000 := by
  obtain ⟨o1, o2, o3, o4, o5, o6⟩ := zJ hok
  refine ⟨fun e he => ?_, ?_⟩
  · simp only [zI, List.mem_append, List.mem_flatMap, List.mem_range'_1] at he
    rcases he with (⟨i, hi, he⟩ | he) | he
    · simp [sheetE] at he
      unfold edgeB
      rcases he with rfl | rfl <;> simp only [] <;> omega
    · obtain ⟨m, k, h1, _, h2⟩ := marksE_mem ax he
      exact edge_of_mark (o5 m h1) o2 k e h2
    · obtain ⟨m, k, h1, _, h2⟩ := joinsE_mem ax he
      exact edge_of_join (o6 m h1) o2 k e h2
  · have h1 := marksE_len ax p.marks 0
    have h2 := joinsE_len ax p.joins 0
    have h3 := sheetsE_len p.sheets.toNat 0
    simp only [zI, List.length_append]
    omega
theorem chainsF_netB {es : List Edge} (hes : ∀ e ∈ es, edgeB e) {src most : Nat} (hm : most ≤ 5) : netB 32000000000000000 5 (zN es src most) :=
  rounds_netB hes most 0 (by omega) (netB_set (zT 1 0) (by simp [qB])) (zT _ _)
theorem cmp_one {m : Int} {n : Nat} {c : Chn} (h : qB m n c) (hm : m ≤ 9223372036854775807) : (lim cfg).pure 75 [.agg [I c.q.n, I c.q.d], .agg [I 1, I 1]] = some (I (cmpR c.q one1)) := by
  obtain ⟨h1, h2, h3, h4, _⟩ := h
  exact t75 _ _ _ _ ⟨by omega, by omega⟩ ⟨by omega, by omega⟩ ⟨by omega, by omega⟩ ⟨by omega, by omega⟩

noncomputable def lp99_3 : Code := zB [1, 1, 0, 1, 0, 0] (zo Tryd.f99)
theorem lk99_3 : cfg.keep 99 (zD lp99_3) = [5, 13, 14] := by kernel_rfl

theorem L99_3 {F : Exit → St → Option D} (es : List Edge) (N : Nat) (k : List Kt) (x : D) (hes : ∀ e ∈ es, edgeB e) (hlen : es.length ≤ 1000) (hN : N ≤ 5) (hk : ∀ (c : Chn) st, get st.tmps 4 = zn (some c) → zO cfg (lim cfg) 99 F k .ret st = some (zn (some c))) : ∀ (j i : Nat), i + j = N →
    (clashFrom es j i = none → zO cfg (lim cfg) 99 F k (.exit 0) ⟨35, [(15, B false), (5, .sl false (es.map encE) 7 none), (13, I N), (14, I (N : Nat))], [], 0, 0⟩ = some x) →
    (∀ c, clashFrom es j i = some c → x = zn (some c)) →
    EvL cfg (lim cfg) 99 F lp99_3 k ⟨35, [(5, .sl false (es.map encE) 7 none), (13, I N), (14, I (i : Nat))], [], 0, 0⟩ = some x := by
  intro j
  induction j with
  | zero =>
    intro i hi h h'
    obtain rfl : i = N := by omega
    refine zv ?_
    try dsimp only [lp99_3, zB, zo, Tryd.f99]
    simp only [bW, if_true, Nat.reduceEqDiff, if_false]
    repeat' first | (intro hb; first | cases hb | skip) | ((first | apply z6 | apply zc); (· rfl); (· simp (disch := assumption) only [go_sem, Nat.reduceEqDiff, Nat.reduceAdd, bP, zd, Nat.reduceLeDiff, Nat.reduceLT, Nat.reduceMul, List.length_append, decide_eq_true_eq, z7, z0, Int.reduceToNat, Int.reduceLE, Int.reduceLT, Int.reduceBNe, Int.reduceBEq, Int.lt_irrefl]; rfl); (· simp only [go_sem, Nat.reduceLT, Nat.reduceEqDiff]; rfl); (· rfl); first | (apply zb; (· simp only [go_sem, Nat.reduceLT]; rfl); (· simp only [go_sem, Nat.reduceLT]; rfl)) | (apply zf; (· simp only [go_sem, Nat.reduceLT]; rfl))) | ((first | apply z9 | apply za); (· rfl); (· simp only [go_sem, Nat.reduceLT]; rfl)) | (apply z8; (· simp only [go_sem, Nat.reduceEqDiff])) | (apply z5; (· simp only [go_sem, Nat.reduceEqDiff])) | (apply ze; (· kernel_rfl); (· kernel_rfl)) | (simp only [bW, if_true, Nat.reduceEqDiff, if_false])
    exact h rfl
  | succ j ih =>
    intro i hi h h'
    have hlt' : ((i : Int) < (N : Int)) = True := by simp; omega
    have hlt5 : (i < 5) = True := by simp; omega
    have hw3 : IntKind.i64.wrap ((i : Int) + 1) = ((i + 1 : Nat) : Int) := by rw [wrap_i64 (by omega) (by omega)]; omega
    have h72 : (lim cfg).pure 72 [.sl false (es.map encE) 7 none, I i, I 5] = some (.agg ((zN es i 5).map zn)) := t72 es i 5 hes hlen (by omega) (by omega)
    have hnb := chainsF_netB hes (src := i) (most := 5) (by omega)
    obtain ⟨o, ho⟩ : ∃ o, (zN es i 5)[i]? = some o := ⟨_, List.getElem?_eq_getElem (by have := hnb.1; omega)⟩
    have hnet : ((zN es i 5).map zn)[i]? = some (zn o) := by rw [List.getElem?_map, ho]; rfl
    simp only [clashFrom, ho] at h h'
    cases o with
    | none =>
      refine zv ?_
      try dsimp only [lp99_3, zB, zo, Tryd.f99]
      simp only [bW, if_true, Nat.reduceEqDiff, if_false]
      repeat' first | (intro hb; first | cases hb | skip) | ((first | apply z6 | apply zc); (· rfl); (· simp (disch := assumption) only [go_sem, Nat.reduceEqDiff, Nat.reduceAdd, bP, zd, Nat.reduceLeDiff, Nat.reduceLT, Nat.reduceMul, List.length_append, decide_eq_true_eq, z7, z0, Int.reduceToNat, Int.reduceLE, Int.reduceLT, Int.reduceBNe, Int.reduceBEq, hlt', h72, hnet, zn, encOC_one, cmp_lt, hw3, cfg_glob0, hlt5]; rfl); (· simp only [go_sem, Nat.reduceLT, Nat.reduceEqDiff]; rfl); (· rfl); first | (apply zb; (· simp only [go_sem, Nat.reduceLT]; rfl); (· simp only [go_sem, Nat.reduceLT]; rfl)) | (apply zf; (· simp only [go_sem, Nat.reduceLT]; rfl))) | ((first | apply z9 | apply za); (· rfl); (· simp only [go_sem, Nat.reduceLT]; rfl)) | (apply z8; (· simp only [go_sem, Nat.reduceEqDiff])) | (apply z5; (· simp only [go_sem, Nat.reduceEqDiff])) | (apply ze; (· kernel_rfl); (· kernel_rfl)) | (simp only [bW, if_true, Nat.reduceEqDiff, if_false])
      simp only [] at h h'
      exact zM (st1 := ⟨35, [(5, .sl false (es.map encE) 7 none), (13, I N), (14, I (i + 1 : Nat))], [], 0, 0⟩) lk99_3 (by kernel_rfl) (ih (i + 1) (by omega) h h')
    | some c =>
      have h75 := cmp_one (hnb.2 c (List.mem_of_getElem? ho)) (by omega)
      refine zv ?_
      try dsimp only [lp99_3, zB, zo, Tryd.f99]
      simp only [bW, if_true, Nat.reduceEqDiff, if_false]
      repeat' first | (intro hb; first | cases hb | skip) | ((first | apply z6 | apply zc); (· rfl); (· simp (disch := assumption) only [go_sem, Nat.reduceEqDiff, Nat.reduceAdd, bP, zd, Nat.reduceLeDiff, Nat.reduceLT, Nat.reduceMul, List.length_append, decide_eq_true_eq, z7, z0, Int.reduceToNat, Int.reduceLE, Int.reduceLT, Int.reduceBNe, Int.reduceBEq, hlt', h72, hnet, zn, encOC_one, h75, cmp_lt, hw3, cfg_glob0, hlt5]; rfl); (· simp only [go_sem, Nat.reduceLT, Nat.reduceEqDiff]; rfl); (· rfl); first | (apply zb; (· simp only [go_sem, Nat.reduceLT]; rfl); (· simp only [go_sem, Nat.reduceLT]; rfl)) | (apply zf; (· simp only [go_sem, Nat.reduceLT]; rfl))) | ((first | apply z9 | apply za); (· rfl); (· simp only [go_sem, Nat.reduceLT]; rfl)) | (apply z8; (· simp only [go_sem, Nat.reduceEqDiff])) | (apply z5; (· simp only [go_sem, Nat.reduceEqDiff])) | (apply ze; (· kernel_rfl); (· kernel_rfl)) | (simp only [bW, if_true, Nat.reduceEqDiff, if_false])
      · have hx := h' c (by simp only [hb, if_true])
        rw [hx]; exact hk c _ rfl
      · simp only [hb, Bool.false_eq_true, if_false] at h h'
        exact zM (st1 := ⟨35, [(5, .sl false (es.map encE) 7 none), (13, I N), (14, I (i + 1 : Nat))], [], 0, 0⟩) lk99_3 (by kernel_rfl) (ih (i + 1) (by omega) h h')
def clashA (p : Paper) (ax : Int) : Option Chn := clashFrom (zI p ax) (1 + p.sheets).toNat 0
theorem snap_enc (g : Nat → Option Ob) (f : Nat) (o : Option Chn) : snap g (f + 3) (zn o) = some (zn o, []) := by
  cases o <;> rfl
theorem t99 (p : Paper) (ax : Int) (hwf : p.wf) (hok : zt p = true) : (lim cfg).pure 99 [zh p, I ax] = some (zn (clashA p ax)) := by
  have h68 := t68 p ax hwf hok
  obtain ⟨o1, o2, _⟩ := zJ hok
  obtain ⟨hes, hlen⟩ := edgesB hok ax
  obtain ⟨N, hN⟩ := Int.eq_ofNat_of_zero_le (show 0 ≤ 1 + p.sheets by omega)
  have hw : IntKind.i64.wrap (1 + p.sheets) = (N : Int) := by rw [wrap_i64 (by omega) (by omega), hN]
  have hcl : clashA p ax = clashFrom (zI p ax) N 0 := by unfold clashA; rw [hN]; rfl
  rw [hcl]
  refine zp (zk 99) cfn99 rfl (n := 35) rfl ?_
  generalize hF : finP cfg Tryd.f99 = F
  simp only [bW, if_true, Nat.reduceEqDiff, if_false, zi]
  repeat' first | (intro hb; first | cases hb | skip) | ((first | apply z6 | apply zc); (· rfl); (· simp (disch := assumption) only [go_sem, Nat.reduceEqDiff, Nat.reduceAdd, bP, zd, Nat.reduceLeDiff, Nat.reduceLT, Nat.reduceMul, List.length_append, decide_eq_true_eq, z7, z0, Int.reduceToNat, Int.reduceLE, Int.reduceLT, Int.reduceBNe, Int.reduceBEq, h68, hw]; rfl); (· simp only [go_sem, Nat.reduceLT, Nat.reduceEqDiff]; rfl); (· rfl); first | (apply zb; (· simp only [go_sem, Nat.reduceLT]; rfl); (· simp only [go_sem, Nat.reduceLT]; rfl)) | (apply zf; (· simp only [go_sem, Nat.reduceLT]; rfl))) | ((first | apply z9 | apply za); (· rfl); (· simp only [go_sem, Nat.reduceLT]; rfl)) | (apply z8; (· simp only [go_sem, Nat.reduceEqDiff])) | (apply z5; (· simp only [go_sem, Nat.reduceEqDiff])) | (apply ze; (· kernel_rfl); (· kernel_rfl)) | (simp only [bW, if_true, Nat.reduceEqDiff, if_false])
  have hend : ∀ o st, get st.tmps 4 = zn o → F .ret st = some (zn o) := by
    rintro o st hd
    subst hF
    simp only [go_sem, Nat.reduceEqDiff, bP, Nat.reduceAdd, Nat.reduceLeDiff, List.length_map, Tryd.f99, hd, snap_enc]
  refine w_loop (st1 := ⟨35, [(5, .sl false ((zI p ax).map encE) 7 none), (13, I N), (14, I (0 : Nat))], [], 0, 0⟩) lk99_3 (by kernel_rfl) (L99_3 (zI p ax) N _ _ hes hlen (by omega) (fun c st hd => ?_) N 0 (by omega) (fun hn => ?_) (fun c hc => by rw [hc]))
  · simp only [bW, if_true, Nat.reduceEqDiff, if_false]
    exact hend (some c) st hd
  · rw [hn]
    simp only [bW, if_true, Nat.reduceEqDiff, if_false]
    repeat' first | (intro hb; first | cases hb | skip) | ((first | apply z6 | apply zc); (· rfl); (· simp (disch := assumption) only [go_sem, Nat.reduceEqDiff, Nat.reduceAdd, bP, zd, Nat.reduceLeDiff, Nat.reduceLT, Nat.reduceMul, List.length_append, decide_eq_true_eq, z7, z0, Int.reduceToNat, Int.reduceLE, Int.reduceLT, Int.reduceBNe, Int.reduceBEq]; rfl); (· simp only [go_sem, Nat.reduceLT, Nat.reduceEqDiff]; rfl); (· rfl); first | (apply zb; (· simp only [go_sem, Nat.reduceLT]; rfl); (· simp only [go_sem, Nat.reduceLT]; rfl)) | (apply zf; (· simp only [go_sem, Nat.reduceLT]; rfl))) | ((first | apply z9 | apply za); (· rfl); (· simp only [go_sem, Nat.reduceLT]; rfl)) | (apply z8; (· simp only [go_sem, Nat.reduceEqDiff])) | (apply z5; (· simp only [go_sem, Nat.reduceEqDiff])) | (apply ze; (· kernel_rfl); (· kernel_rfl)) | (simp only [bW, if_true, Nat.reduceEqDiff, if_false])
    exact hend none _ rfl

theorem t79 (p : Paper) (hwf : p.wf) (hok : zt p = true) : (lim cfg).pure 79 [zh p] = some (B ((clashA p 0).isNone && (clashA p 1).isNone)) := by
  have h0 := t99 p 0 hwf hok
  have h1 := t99 p 1 hwf hok
  cases hc0 : clashA p 0 <;> cases hc1 : clashA p 1 <;> rw [hc0] at h0 <;> rw [hc1] at h1
  all_goals
    refine zp (zk 79) cfn79 rfl (n := 11) rfl ?_
    simp only [bW, if_true, Nat.reduceEqDiff, if_false, zi]
    repeat' first | (intro hb; first | cases hb | skip) | ((first | apply z6 | apply zc); (· rfl); (· simp (disch := assumption) only [go_sem, Nat.reduceEqDiff, Nat.reduceAdd, bP, zd, Nat.reduceLeDiff, Nat.reduceLT, Nat.reduceMul, List.length_append, decide_eq_true_eq, z7, z0, Int.reduceToNat, Int.reduceLE, Int.reduceLT, Int.reduceBNe, Int.reduceBEq, h0, h1, zn]; rfl); (· simp only [go_sem, Nat.reduceLT, Nat.reduceEqDiff]; rfl); (· rfl); first | (apply zb; (· simp only [go_sem, Nat.reduceLT]; rfl); (· simp only [go_sem, Nat.reduceLT]; rfl)) | (apply zf; (· simp only [go_sem, Nat.reduceLT]; rfl))) | ((first | apply z9 | apply za); (· rfl); (· simp only [go_sem, Nat.reduceLT]; rfl)) | (apply z8; (· simp only [go_sem, Nat.reduceEqDiff])) | (apply z5; (· simp only [go_sem, Nat.reduceEqDiff])) | (apply ze; (· kernel_rfl); (· kernel_rfl)) | (simp only [bW, if_true, Nat.reduceEqDiff, if_false])
    all_goals first | done | (simp only [go_sem, Nat.reduceEqDiff, bP, Nat.reduceAdd, Nat.reduceLeDiff, List.length_map, Tryd.f79]; done) | (simp only [go_sem, Nat.reduceEqDiff, bP, Nat.reduceAdd, Nat.reduceLeDiff, List.length_map, Tryd.f79]; rfl)


end Go.VS
namespace Go.VS
open Go Go.Proofs
set_option maxHeartbeats 0
set_option linter.unusedSimpArgs false

theorem t63' (p : Paper) (s : Int) : (lim cfg).pure 63 [zh p, I s] = some (B (zA p s)) := t63 _ _ _ _ _ _ _ s
theorem t64' (x : Int) : (lim cfg).pure 64 [I x] = some (B (isAxis x)) := t64 x
def namedF (p : Paper) (ax : Int) (ss : List Int) : Int := if ss.all (zA p) && isAxis ax then 0 else 1
def possibleF (p : Paper) : Bool := (clashA p 0).isNone && (clashA p 1).isNone
def zu (p : Paper) (ax : Int) (ss : List Int) : Int := if zt p then (if possibleF p then namedF p ax ss else 31) else 30

noncomputable def lp95_2 : Code := zB [1, 0, 1, 0, 0] (zo Tryd.f95)
theorem lk95_2 : cfg.keep 95 (zD lp95_2) = [1, 3, 9, 10, 11] := by kernel_rfl

theorem L95_2 {F : Exit → St → Option D} (p : Paper) (ax : Int) (nl : Bool) (ss : List Int) (k : List Kt) (x : D) (sz : Nat) (hsz : nl = false → sz = 1) (hnl : nl = true → ss = []) (hlen : ss.length ≤ 9223372036854775807) (hk : ∀ st, get st.tmps 6 = I 1 → zO cfg (lim cfg) 95 F k .ret st = some (I 1)) : ∀ (rest : List Int) (i : Nat), ss.drop i = rest → i ≤ ss.length →
    (rest.all (zA p) = true → zO cfg (lim cfg) 95 F k (.exit 0) ⟨23, [(12, B false), (1, I ax), (3, .lref 0 0 3 0), (9, .sl nl (ss.map I) sz none), (10, I ss.length), (11, I (ss.length : Nat))], [(0, ⟨[zh p], 3, false⟩)], 1, 0⟩ = some x) →
    (rest.all (zA p) = false → x = I 1) →
    EvL cfg (lim cfg) 95 F lp95_2 k ⟨23, [(1, I ax), (3, .lref 0 0 3 0), (9, .sl nl (ss.map I) sz none), (10, I ss.length), (11, I (i : Nat))], [(0, ⟨[zh p], 3, false⟩)], 1, 0⟩ = some x := by
  intro rest
  induction rest with
  | nil =>
    intro i hd hi h h'
    have hi' : i = ss.length := by
      have := List.drop_eq_nil_iff.1 hd
      omega
    subst hi'
    refine zv ?_
    try dsimp only [lp95_2, zB, zo, Tryd.f95]
    simp only [bW, if_true, Nat.reduceEqDiff, if_false]
    repeat' first | (intro hb; first | cases hb | skip) | ((first | apply z6 | apply zc); (· rfl); (· simp (disch := assumption) only [go_sem, Nat.reduceEqDiff, Nat.reduceAdd, bP, zd, Nat.reduceLeDiff, Nat.reduceLT, Nat.reduceMul, List.length_append, decide_eq_true_eq, z7, z0, Int.reduceToNat, Int.reduceLE, Int.reduceLT, Int.reduceBNe, Int.reduceBEq, Int.lt_irrefl]; rfl); (· simp only [go_sem, Nat.reduceLT, Nat.reduceEqDiff]; rfl); (· rfl); first | (apply zb; (· simp only [go_sem, Nat.reduceLT]; rfl); (· simp only [go_sem, Nat.reduceLT]; rfl)) | (apply zf; (· simp only [go_sem, Nat.reduceLT]; rfl))) | ((first | apply z9 | apply za); (· rfl); (· simp only [go_sem, Nat.reduceLT]; rfl)) | (apply z8; (· simp only [go_sem, Nat.reduceEqDiff])) | (apply z5; (· simp only [go_sem, Nat.reduceEqDiff])) | (apply ze; (· kernel_rfl); (· kernel_rfl)) | (simp only [bW, if_true, Nat.reduceEqDiff, if_false])
    exact h rfl
  | cons m rest ih =>
    intro i hd hi h h'
    have hlt : i < ss.length := by
      rcases Nat.lt_or_ge i ss.length with h | h
      · exact h
      · rw [List.drop_eq_nil_of_le h] at hd; cases hd
    have hm : ss[i]? = some m := by rw [← List.head?_drop, hd]; rfl
    have hx : (ss.map I)[i]? = some (I m) := by rw [List.getElem?_map, hm]; rfl
    have hnm : nl = false := by
      cases h : nl with
      | false => rfl
      | true => rw [hnl h] at hlt; cases hlt
    have hsz1 := hsz hnm
    clear hsz
    subst hsz1
    have hlt' : (i : Int) < (ss.length : Int) := by omega
    have hw3 : IntKind.i64.wrap ((i : Int) + 1) = ((i + 1 : Nat) : Int) := by rw [wrap_i64 (by omega) (by omega)]; omega
    cases hs : zA p m with
    | true =>
      simp only [List.all_cons, hs, Bool.true_and] at h h'
      refine zv ?_
      try dsimp only [lp95_2, zB, zo, Tryd.f95]
      simp only [bW, if_true, Nat.reduceEqDiff, if_false]
      repeat' first | (intro hb; first | cases hb | skip) | ((first | apply z6 | apply zc); (· rfl); (· simp (disch := assumption) only [go_sem, Nat.reduceEqDiff, Nat.reduceAdd, bP, zd, Nat.reduceLeDiff, Nat.reduceLT, Nat.reduceMul, List.length_append, decide_eq_true_eq, z7, z0, Int.reduceToNat, Int.reduceLE, Int.reduceLT, Int.reduceBNe, Int.reduceBEq, hx, hnm, hlt', hw3, t63', hs]; rfl); (· simp only [go_sem, Nat.reduceLT, Nat.reduceEqDiff]; rfl); (· rfl); first | (apply zb; (· simp only [go_sem, Nat.reduceLT]; rfl); (· simp only [go_sem, Nat.reduceLT]; rfl)) | (apply zf; (· simp only [go_sem, Nat.reduceLT]; rfl))) | ((first | apply z9 | apply za); (· rfl); (· simp only [go_sem, Nat.reduceLT]; rfl)) | (apply z8; (· simp only [go_sem, Nat.reduceEqDiff])) | (apply z5; (· simp only [go_sem, Nat.reduceEqDiff])) | (apply ze; (· kernel_rfl); (· kernel_rfl)) | (simp only [bW, if_true, Nat.reduceEqDiff, if_false])
      exact zM (st1 := ⟨23, [(1, I ax), (3, .lref 0 0 3 0), (9, .sl nl (ss.map I) 1 none), (10, I ss.length), (11, I (i + 1 : Nat))], [(0, ⟨[zh p], 3, false⟩)], 1, 0⟩) lk95_2 (by kernel_rfl) (ih (i + 1) (by rw [← List.drop_drop, hd]; rfl) hlt h h')
    | false =>
      rw [h' (by simp [hs])]
      refine zv ?_
      try dsimp only [lp95_2, zB, zo, Tryd.f95]
      simp only [bW, if_true, Nat.reduceEqDiff, if_false]
      repeat' first | (intro hb; first | cases hb | skip) | ((first | apply z6 | apply zc); (· rfl); (· simp (disch := assumption) only [go_sem, Nat.reduceEqDiff, Nat.reduceAdd, bP, zd, Nat.reduceLeDiff, Nat.reduceLT, Nat.reduceMul, List.length_append, decide_eq_true_eq, z7, z0, Int.reduceToNat, Int.reduceLE, Int.reduceLT, Int.reduceBNe, Int.reduceBEq, hx, hnm, hlt', hw3, t63', hs]; rfl); (· simp only [go_sem, Nat.reduceLT, Nat.reduceEqDiff]; rfl); (· rfl); first | (apply zb; (· simp only [go_sem, Nat.reduceLT]; rfl); (· simp only [go_sem, Nat.reduceLT]; rfl)) | (apply zf; (· simp only [go_sem, Nat.reduceLT]; rfl))) | ((first | apply z9 | apply za); (· rfl); (· simp only [go_sem, Nat.reduceLT]; rfl)) | (apply z8; (· simp only [go_sem, Nat.reduceEqDiff])) | (apply z5; (· simp only [go_sem, Nat.reduceEqDiff])) | (apply ze; (· kernel_rfl); (· kernel_rfl)) | (simp only [bW, if_true, Nat.reduceEqDiff, if_false])
      exact hk _ rfl
theorem t95 (p : Paper) (ax : Int) (nl : Bool) (ss : List Int) (sz : Nat) (hsz : nl = false → sz = 1) (hnl : nl = true → ss = []) (hlen : ss.length ≤ 9223372036854775807) : (lim cfg).pure 95 [zh p, I ax, .sl nl (ss.map I) sz none] = some (I (namedF p ax ss)) := by
  have hls := len_if (f := I) hnl
  refine zp (zk 95) cfn95 rfl (n := 23) rfl ?_
  generalize hF : finP cfg Tryd.f95 = F
  simp only [bW, if_true, Nat.reduceEqDiff, if_false, zi]
  repeat' first | (intro hb; first | cases hb | skip) | ((first | apply z6 | apply zc); (· rfl); (· simp (disch := assumption) only [go_sem, Nat.reduceEqDiff, Nat.reduceAdd, bP, zd, Nat.reduceLeDiff, Nat.reduceLT, Nat.reduceMul, List.length_append, decide_eq_true_eq, z7, z0, Int.reduceToNat, Int.reduceLE, Int.reduceLT, Int.reduceBNe, Int.reduceBEq, hls]; rfl); (· simp only [go_sem, Nat.reduceLT, Nat.reduceEqDiff]; rfl); (· rfl); first | (apply zb; (· simp only [go_sem, Nat.reduceLT]; rfl); (· simp only [go_sem, Nat.reduceLT]; rfl)) | (apply zf; (· simp only [go_sem, Nat.reduceLT]; rfl))) | ((first | apply z9 | apply za); (· rfl); (· simp only [go_sem, Nat.reduceLT]; rfl)) | (apply z8; (· simp only [go_sem, Nat.reduceEqDiff])) | (apply z5; (· simp only [go_sem, Nat.reduceEqDiff])) | (apply ze; (· kernel_rfl); (· kernel_rfl)) | (simp only [bW, if_true, Nat.reduceEqDiff, if_false])
  have hend : ∀ v st, get st.tmps 6 = I v → F .ret st = some (I v) := by
    intro v st hd
    subst hF
    simp only [go_sem, Nat.reduceEqDiff, bP, Nat.reduceAdd, Nat.reduceLeDiff, List.length_map, Tryd.f95, hd]
  refine w_loop (st1 := ⟨23, [(1, I ax), (3, .lref 0 0 3 0), (9, .sl nl (ss.map I) sz none), (10, I ss.length), (11, I (0 : Nat))], [(0, ⟨[zh p], 3, false⟩)], 1, 0⟩) lk95_2 (by kernel_rfl) (L95_2 p ax nl ss _ _ sz hsz hnl hlen (fun st hd => ?_) ss 0 rfl (Nat.zero_le _) (fun ha => ?_) (fun ha => ?_))
  · simp only [bW, if_true, Nat.reduceEqDiff, if_false]
    exact hend 1 st hd
  · cases hax : isAxis ax with
    | true =>
      rw [show namedF p ax ss = 0 by simp [namedF, ha, hax]]
      simp only [bW, if_true, Nat.reduceEqDiff, if_false]
      repeat' first | (intro hb; first | cases hb | skip) | ((first | apply z6 | apply zc); (· rfl); (· simp (disch := assumption) only [go_sem, Nat.reduceEqDiff, Nat.reduceAdd, bP, zd, Nat.reduceLeDiff, Nat.reduceLT, Nat.reduceMul, List.length_append, decide_eq_true_eq, z7, z0, Int.reduceToNat, Int.reduceLE, Int.reduceLT, Int.reduceBNe, Int.reduceBEq, t64', hax]; rfl); (· simp only [go_sem, Nat.reduceLT, Nat.reduceEqDiff]; rfl); (· rfl); first | (apply zb; (· simp only [go_sem, Nat.reduceLT]; rfl); (· simp only [go_sem, Nat.reduceLT]; rfl)) | (apply zf; (· simp only [go_sem, Nat.reduceLT]; rfl))) | ((first | apply z9 | apply za); (· rfl); (· simp only [go_sem, Nat.reduceLT]; rfl)) | (apply z8; (· simp only [go_sem, Nat.reduceEqDiff])) | (apply z5; (· simp only [go_sem, Nat.reduceEqDiff])) | (apply ze; (· kernel_rfl); (· kernel_rfl)) | (simp only [bW, if_true, Nat.reduceEqDiff, if_false])
      exact hend 0 _ rfl
    | false =>
      rw [show namedF p ax ss = 1 by simp [namedF, ha, hax]]
      simp only [bW, if_true, Nat.reduceEqDiff, if_false]
      repeat' first | (intro hb; first | cases hb | skip) | ((first | apply z6 | apply zc); (· rfl); (· simp (disch := assumption) only [go_sem, Nat.reduceEqDiff, Nat.reduceAdd, bP, zd, Nat.reduceLeDiff, Nat.reduceLT, Nat.reduceMul, List.length_append, decide_eq_true_eq, z7, z0, Int.reduceToNat, Int.reduceLE, Int.reduceLT, Int.reduceBNe, Int.reduceBEq, t64', hax]; rfl); (· simp only [go_sem, Nat.reduceLT, Nat.reduceEqDiff]; rfl); (· rfl); first | (apply zb; (· simp only [go_sem, Nat.reduceLT]; rfl); (· simp only [go_sem, Nat.reduceLT]; rfl)) | (apply zf; (· simp only [go_sem, Nat.reduceLT]; rfl))) | ((first | apply z9 | apply za); (· rfl); (· simp only [go_sem, Nat.reduceLT]; rfl)) | (apply z8; (· simp only [go_sem, Nat.reduceEqDiff])) | (apply z5; (· simp only [go_sem, Nat.reduceEqDiff])) | (apply ze; (· kernel_rfl); (· kernel_rfl)) | (simp only [bW, if_true, Nat.reduceEqDiff, if_false])
      exact hend 1 _ rfl
  · rw [show namedF p ax ss = 1 by simp [namedF, ha]]
theorem t79' (p : Paper) (hwf : p.wf) (hok : zt p = true) : (lim cfg).pure 79 [zh p] = some (B (possibleF p)) := t79 p hwf hok
theorem t71 (p : Paper) (ax : Int) (nl : Bool) (ss : List Int) (hwf : p.wf) (sz : Nat) (hsz : nl = false → sz = 1) (hnl : nl = true → ss = []) (hlen : ss.length ≤ 9223372036854775807) : (lim cfg).pure 71 [zh p, I ax, .sl nl (ss.map I) sz none] = some (I (zu p ax ss)) := by
  have h15 := t15 p hwf
  have h95 := t95 p ax nl ss sz hsz hnl hlen
  unfold zu
  unfold check at h15
  cases hok : zt p with
  | false =>
    rw [hok] at h15
    simp only [Bool.false_eq_true, if_false] at h15 ⊢
    refine zp (zk 71) cfn71 rfl (n := 20) rfl ?_
    simp only [bW, if_true, Nat.reduceEqDiff, if_false, zi]
    repeat' first | (intro hb; first | cases hb | skip) | ((first | apply z6 | apply zc); (· rfl); (· simp (disch := assumption) only [go_sem, Nat.reduceEqDiff, Nat.reduceAdd, bP, zd, Nat.reduceLeDiff, Nat.reduceLT, Nat.reduceMul, List.length_append, decide_eq_true_eq, z7, z0, Int.reduceToNat, Int.reduceLE, Int.reduceLT, Int.reduceBNe, Int.reduceBEq, h15]; rfl); (· simp only [go_sem, Nat.reduceLT, Nat.reduceEqDiff]; rfl); (· rfl); first | (apply zb; (· simp only [go_sem, Nat.reduceLT]; rfl); (· simp only [go_sem, Nat.reduceLT]; rfl)) | (apply zf; (· simp only [go_sem, Nat.reduceLT]; rfl))) | ((first | apply z9 | apply za); (· rfl); (· simp only [go_sem, Nat.reduceLT]; rfl)) | (apply z8; (· simp only [go_sem, Nat.reduceEqDiff])) | (apply z5; (· simp only [go_sem, Nat.reduceEqDiff])) | (apply ze; (· kernel_rfl); (· kernel_rfl)) | (simp only [bW, if_true, Nat.reduceEqDiff, if_false])
    all_goals simp only [go_sem, Nat.reduceEqDiff, bP, Nat.reduceAdd, Nat.reduceLeDiff, List.length_map, Tryd.f71]
    all_goals first | done | rfl | (simp_all []; done) | trace_state
  | true =>
    rw [hok] at h15
    simp only [if_true] at h15 ⊢
    have h79 := t79' p hwf hok
    cases hp : possibleF p with
    | false =>
      rw [hp] at h79
      simp only [Bool.false_eq_true, if_false]
      refine zp (zk 71) cfn71 rfl (n := 20) rfl ?_
      simp only [bW, if_true, Nat.reduceEqDiff, if_false, zi]
      repeat' first | (intro hb; first | cases hb | skip) | ((first | apply z6 | apply zc); (· rfl); (· simp (disch := assumption) only [go_sem, Nat.reduceEqDiff, Nat.reduceAdd, bP, zd, Nat.reduceLeDiff, Nat.reduceLT, Nat.reduceMul, List.length_append, decide_eq_true_eq, z7, z0, Int.reduceToNat, Int.reduceLE, Int.reduceLT, Int.reduceBNe, Int.reduceBEq, h15, h79]; rfl); (· simp only [go_sem, Nat.reduceLT, Nat.reduceEqDiff]; rfl); (· rfl); first | (apply zb; (· simp only [go_sem, Nat.reduceLT]; rfl); (· simp only [go_sem, Nat.reduceLT]; rfl)) | (apply zf; (· simp only [go_sem, Nat.reduceLT]; rfl))) | ((first | apply z9 | apply za); (· rfl); (· simp only [go_sem, Nat.reduceLT]; rfl)) | (apply z8; (· simp only [go_sem, Nat.reduceEqDiff])) | (apply z5; (· simp only [go_sem, Nat.reduceEqDiff])) | (apply ze; (· kernel_rfl); (· kernel_rfl)) | (simp only [bW, if_true, Nat.reduceEqDiff, if_false])
      all_goals simp only [go_sem, Nat.reduceEqDiff, bP, Nat.reduceAdd, Nat.reduceLeDiff, List.length_map, Tryd.f71]
      all_goals first | done | rfl | (simp_all []; done) | trace_state
    | true =>
      rw [hp] at h79
      simp only [if_true]
      refine zp (zk 71) cfn71 rfl (n := 20) rfl ?_
      simp only [bW, if_true, Nat.reduceEqDiff, if_false, zi]
      repeat' first | (intro hb; first | cases hb | skip) | ((first | apply z6 | apply zc); (· rfl); (· simp (disch := assumption) only [go_sem, Nat.reduceEqDiff, Nat.reduceAdd, bP, zd, Nat.reduceLeDiff, Nat.reduceLT, Nat.reduceMul, List.length_append, decide_eq_true_eq, z7, z0, Int.reduceToNat, Int.reduceLE, Int.reduceLT, Int.reduceBNe, Int.reduceBEq, h15, h79, h95]; rfl); (· simp only [go_sem, Nat.reduceLT, Nat.reduceEqDiff]; rfl); (· rfl); first | (apply zb; (· simp only [go_sem, Nat.reduceLT]; rfl); (· simp only [go_sem, Nat.reduceLT]; rfl)) | (apply zf; (· simp only [go_sem, Nat.reduceLT]; rfl))) | ((first | apply z9 | apply za); (· rfl); (· simp only [go_sem, Nat.reduceLT]; rfl)) | (apply z8; (· simp only [go_sem, Nat.reduceEqDiff])) | (apply z5; (· simp only [go_sem, Nat.reduceEqDiff])) | (apply ze; (· kernel_rfl); (· kernel_rfl)) | (simp only [bW, if_true, Nat.reduceEqDiff, if_false])
      all_goals simp only [go_sem, Nat.reduceEqDiff, bP, Nat.reduceAdd, Nat.reduceLeDiff, List.length_map, Tryd.f71]
      all_goals first | done | rfl | (simp_all []; done) | trace_state

def downO (p : Paper) (s ax : Int) : Option Chn := ((zN (zI p ax) (1 + s).toNat 4)[0]?).join
def upO (p : Paper) (s ax : Int) : Option Chn := ((zN (zI p ax) 0 4)[(1 + s).toNat]?).join
def chnOr (o : Option Chn) : Chn := match o with | some c => c | none => ⟨⟨1, 1⟩, []⟩
def downF (p : Paper) (s ax : Int) : Chn := chnOr (downO p s ax)
def upF (p : Paper) (s ax : Int) : Chn := chnOr (upO p s ax)

/-! ### what an edge leads to is there -/
def isS (l : Net) (j : Nat) : Prop := ∃ c, l[j]? = some (some c)
theorem isS_put {l : Net} {j i : Nat} {c : Chn} (h : isS l j) : isS (putE l i c) j := by
  obtain ⟨d, hd⟩ := h
  have key : ∃ c', (l.set i (some c))[j]? = some (some c') := by
    by_cases e : i = j
    · subst e; exact ⟨c, by rw [List.getElem?_set]; simp; rw [List.getElem?_eq_some_iff] at hd; exact hd.1⟩
    · exact ⟨d, by rw [List.getElem?_set_ne e]; exact hd⟩
  unfold putE
  split
  · split
    · exact key
    · exact ⟨d, hd⟩
  · exact key
theorem isS_putE {l : Net} {i : Nat} {c : Chn} (h : i < l.length) : isS (putE l i c) i := by
  have key : ∃ c', (l.set i (some c))[i]? = some (some c') := ⟨c, by rw [List.getElem?_set]; simp [h]⟩
  unfold putE
  split
  · rename_i b hb
    split
    · exact key
    · exact ⟨b, hb⟩
  · exact key
theorem isS_step {now l : Net} {e : Edge} {j : Nat} (h : isS l j) : isS (stepE now l e) j := by
  unfold stepE
  split
  · exact isS_put h
  · exact h
theorem isS_fold {now : Net} {j : Nat} : ∀ {es : List Edge} {l : Net}, isS l j → isS (es.foldl (stepE now) l) j
  | [], _, h => h
  | e :: es, l, h => isS_fold (es := es) (isS_step h)
theorem len_put {l : Net} {i : Nat} {c : Chn} : (putE l i c).length = l.length := by
  unfold putE; split <;> (try split) <;> simp
theorem len_step {now l : Net} {e : Edge} : (stepE now l e).length = l.length := by
  unfold stepE; split
  · exact len_put
  · rfl
theorem isS_of_edge {now : Net} {e : Edge} : ∀ {es : List Edge} {l : Net}, e ∈ es → isS now e.src.toNat → e.dst.toNat < l.length → isS (es.foldl (stepE now) l) e.dst.toNat
  | [], _, h, _, _ => by cases h
  | e' :: es, l, h, hs, hl => by
    rcases List.mem_cons.1 h with rfl | h
    · refine isS_fold (es := es) ?_
      obtain ⟨c, hc⟩ := hs
      unfold stepE; rw [hc]
      exact isS_putE hl
    · exact isS_of_edge (es := es) h hs (by rw [len_step]; exact hl)
theorem isS_merge {j : Nat} : ∀ {l : List (Option Chn)} {i : Nat} {out : Net}, isS out j → isS (mergeL l i out) j
  | [], _, _, h => h
  | none :: r, i, out, h => isS_merge (l := r) h
  | some c :: r, i, out, h => isS_merge (l := r) (isS_put h)
theorem isS_mergeL {j : Nat} {c : Chn} : ∀ {l : List (Option Chn)} {i : Nat} {out : Net}, l[j]? = some (some c) → i + j < out.length → isS (mergeL l i out) (i + j)
  | [], _, _, h, _ => by simp at h
  | o :: r, i, out, h, hl => by
    cases j with
    | zero =>
      simp at h; subst h
      exact isS_merge (l := r) (isS_putE hl)
    | succ j =>
      simp at h
      cases o with
      | none => simp only [mergeL]; rw [show i + (j + 1) = (i + 1) + j by omega]; exact isS_mergeL (l := r) h (by omega)
      | some d => simp only [mergeL]; rw [show i + (j + 1) = (i + 1) + j by omega]; exact isS_mergeL (l := r) h (by rw [len_put]; omega)
theorem isS_rounds {es : List Edge} {j : Nat} : ∀ {k : Nat} {now out : Net}, isS out j → isS (roundsN es k now out) j
  | 0, _, _, h => h
  | k + 1, now, out, h => isS_rounds (k := k) (isS_merge h)
theorem chains_edge {es : List Edge} {e : Edge} {k : Nat} (he : e ∈ es) (hb : edgeB e) : isS (zN es e.src.toNat (k + 1)) e.dst.toNat := by
  unfold zN
  simp only [roundsN]
  refine isS_rounds ?_
  obtain ⟨b1, b2, b3, b4, _⟩ := hb
  have hs5 : e.src.toNat < zV.length := by show e.src.toNat < 5; omega
  have hd5 : e.dst.toNat < zV.length := by show e.dst.toNat < 5; omega
  obtain ⟨c, hc⟩ : isS (es.foldl (stepE (zV.set e.src.toNat (some ⟨⟨1, 1⟩, []⟩))) zV) e.dst.toNat :=
    isS_of_edge he ⟨_, List.getElem?_set_self hs5⟩ hd5
  have := isS_mergeL (i := 0) (out := zV) hc (by rw [Nat.zero_add]; exact hd5)
  rwa [Nat.zero_add] at this
theorem sheet_edge {p : Paper} {s : Int} (ax : Int) (hs : zA p s = true) : (⟨1 + s, 0, ⟨2, 1⟩, ⟨false, -1 - s, false⟩⟩ : Edge) ∈ zI p ax ∧ (⟨0, 1 + s, ⟨2, 1⟩, ⟨false, -1 - s, true⟩⟩ : Edge) ∈ zI p ax := by
  simp [zA] at hs
  obtain ⟨n, rfl⟩ := Int.eq_ofNat_of_zero_le hs.1
  have hmem : n ∈ List.range' 0 p.sheets.toNat := by rw [List.mem_range'_1]; omega
  simp only [zI, List.mem_append, List.mem_flatMap]
  exact ⟨.inl (.inl ⟨n, hmem, by simp [sheetE]⟩), .inl (.inl ⟨n, hmem, by simp [sheetE]⟩)⟩
theorem downO_some {p : Paper} {s : Int} (ax : Int) (hok : zt p = true) (hs : zA p s = true) : downO p s ax = some (downF p s ax) ∧ (zN (zI p ax) (1 + s).toNat 4)[0]? = some (some (downF p s ax)) := by
  obtain ⟨h1, h2⟩ := sheet_edge ax hs
  obtain ⟨c, hc⟩ := chains_edge (k := 3) h1 ((edgesB hok ax).1 _ h1)
  have hc' : (zN (zI p ax) (1 + s).toNat 4)[0]? = some (some c) := hc
  have e : downO p s ax = some c := by unfold downO; rw [hc']; rfl
  have e' : downF p s ax = c := by unfold downF; rw [e]; rfl
  rw [e', e]; exact ⟨rfl, hc'⟩
theorem upO_some {p : Paper} {s : Int} (ax : Int) (hok : zt p = true) (hs : zA p s = true) : upO p s ax = some (upF p s ax) ∧ (zN (zI p ax) 0 4)[(1 + s).toNat]? = some (some (upF p s ax)) := by
  obtain ⟨h1, h2⟩ := sheet_edge ax hs
  obtain ⟨c, hc⟩ := chains_edge (k := 3) h2 ((edgesB hok ax).1 _ h2)
  have hc' : (zN (zI p ax) 0 4)[(1 + s).toNat]? = some (some c) := hc
  have e : upO p s ax = some c := by unfold upO; rw [hc']; rfl
  have e' : upF p s ax = c := by unfold upF; rw [e]; rfl
  rw [e', e]; exact ⟨rfl, hc'⟩
theorem downF_qB {p : Paper} {s : Int} (ax : Int) (hok : zt p = true) (hs : zA p s = true) : qB 32000000000000000 5 (downF p s ax) :=
  (chainsF_netB (edgesB hok ax).1 (by omega)).2 _ (List.mem_of_getElem? (downO_some ax hok hs).2)
theorem upF_qB {p : Paper} {s : Int} (ax : Int) (hok : zt p = true) (hs : zA p s = true) : qB 32000000000000000 5 (upF p s ax) :=
  (chainsF_netB (edgesB hok ax).1 (by omega)).2 _ (List.mem_of_getElem? (upO_some ax hok hs).2)

theorem t100 (p : Paper) (s ax : Int) (hwf : p.wf) (hok : zt p = true) (hs : zA p s = true) : (lim cfg).pure 100 [zh p, I s, I ax] = some (zn (some (downF p s ax))) := by
  have h68 := t68 p ax hwf hok
  obtain ⟨o1, o2, _⟩ := zJ hok
  obtain ⟨hes, hlen⟩ := edgesB hok ax
  have hc := (downO_some ax hok hs).2
  simp [zA] at hs
  obtain ⟨N, hN⟩ := Int.eq_ofNat_of_zero_le (show 0 ≤ 1 + s by omega)
  have hw : IntKind.i64.wrap (1 + s) = (N : Int) := by rw [wrap_i64 (by omega) (by omega), hN]
  have hN' : (1 + s).toNat = N := by rw [hN]; rfl
  rw [hN'] at hc
  have h72 := t72 (zI p ax) N 4 hes hlen (by omega) (by omega)
  have hnet : ((zN (zI p ax) N 4).map zn)[0]? = some (zn (some (downF p s ax))) := by rw [List.getElem?_map, hc]; rfl
  have hlt5 : (N < 5) = True := by simp; omega
  simp only [Int.cast_ofNat_Int] at h72
  refine zp (zk 100) cfn100 rfl (n := 14) rfl ?_
  generalize hF : finP cfg Tryd.f100 = F
  simp only [bW, if_true, Nat.reduceEqDiff, if_false, zi]
  repeat' first | (intro hb; first | cases hb | skip) | ((first | apply z6 | apply zc); (· rfl); (· simp (disch := assumption) only [go_sem, Nat.reduceEqDiff, Nat.reduceAdd, bP, zd, Nat.reduceLeDiff, Nat.reduceLT, Nat.reduceMul, List.length_append, decide_eq_true_eq, z7, z0, Int.reduceToNat, Int.reduceLE, Int.reduceLT, Int.reduceBNe, Int.reduceBEq, h68, hw, h72, hnet, encOC_one, hlt5, show (0 : Nat) < 5 from by decide]; rfl); (· simp only [go_sem, Nat.reduceLT, Nat.reduceEqDiff]; rfl); (· rfl); first | (apply zb; (· simp only [go_sem, Nat.reduceLT]; rfl); (· simp only [go_sem, Nat.reduceLT]; rfl)) | (apply zf; (· simp only [go_sem, Nat.reduceLT]; rfl))) | ((first | apply z9 | apply za); (· rfl); (· simp only [go_sem, Nat.reduceLT]; rfl)) | (apply z8; (· simp only [go_sem, Nat.reduceEqDiff])) | (apply z5; (· simp only [go_sem, Nat.reduceEqDiff])) | (apply ze; (· kernel_rfl); (· kernel_rfl)) | (simp only [bW, if_true, Nat.reduceEqDiff, if_false])
  subst hF
  simp only [go_sem, Nat.reduceEqDiff, bP, Nat.reduceAdd, Nat.reduceLeDiff, List.length_map, Tryd.f100, snap_enc]

theorem t101 (p : Paper) (s ax : Int) (hwf : p.wf) (hok : zt p = true) (hs : zA p s = true) : (lim cfg).pure 101 [zh p, I s, I ax] = some (zn (some (upF p s ax))) := by
  have h68 := t68 p ax hwf hok
  obtain ⟨o1, o2, _⟩ := zJ hok
  obtain ⟨hes, hlen⟩ := edgesB hok ax
  have hc := (upO_some ax hok hs).2
  simp [zA] at hs
  obtain ⟨N, hN⟩ := Int.eq_ofNat_of_zero_le (show 0 ≤ 1 + s by omega)
  have hw : IntKind.i64.wrap (1 + s) = (N : Int) := by rw [wrap_i64 (by omega) (by omega), hN]
  have hN' : (1 + s).toNat = N := by rw [hN]; rfl
  rw [hN'] at hc
  have h72 := t72 (zI p ax) 0 4 hes hlen (by omega) (by omega)
  have hnet : ((zN (zI p ax) 0 4).map zn)[N]? = some (zn (some (upF p s ax))) := by rw [List.getElem?_map, hc]; rfl
  have hlt5 : (N < 5) = True := by simp; omega
  simp only [Int.cast_ofNat_Int] at h72
  refine zp (zk 101) cfn101 rfl (n := 14) rfl ?_
  generalize hF : finP cfg Tryd.f101 = F
  simp only [bW, if_true, Nat.reduceEqDiff, if_false, zi]
  repeat' first | (intro hb; first | cases hb | skip) | ((first | apply z6 | apply zc); (· rfl); (· simp (disch := assumption) only [go_sem, Nat.reduceEqDiff, Nat.reduceAdd, bP, zd, Nat.reduceLeDiff, Nat.reduceLT, Nat.reduceMul, List.length_append, decide_eq_true_eq, z7, z0, Int.reduceToNat, Int.reduceLE, Int.reduceLT, Int.reduceBNe, Int.reduceBEq, h68, hw, h72, hnet, encOC_one, hlt5, show (0 : Nat) < 5 from by decide]; rfl); (· simp only [go_sem, Nat.reduceLT, Nat.reduceEqDiff]; rfl); (· rfl); first | (apply zb; (· simp only [go_sem, Nat.reduceLT]; rfl); (· simp only [go_sem, Nat.reduceLT]; rfl)) | (apply zf; (· simp only [go_sem, Nat.reduceLT]; rfl))) | ((first | apply z9 | apply za); (· rfl); (· simp only [go_sem, Nat.reduceLT]; rfl)) | (apply z8; (· simp only [go_sem, Nat.reduceEqDiff])) | (apply z5; (· simp only [go_sem, Nat.reduceEqDiff])) | (apply ze; (· kernel_rfl); (· kernel_rfl)) | (simp only [bW, if_true, Nat.reduceEqDiff, if_false])
  subst hF
  simp only [go_sem, Nat.reduceEqDiff, bP, Nat.reduceAdd, Nat.reduceLeDiff, List.length_map, Tryd.f101, snap_enc]

end Go.VS
namespace Go.VS
open Go Go.Proofs
set_option maxHeartbeats 0
set_option linter.unusedSimpArgs false

structure F4 where
  xn : Int
  xd : Int
  yn : Int
  yd : Int
def encF (f : F4) : D := .agg [I f.xn, I f.xd, I f.yn, I f.yd]
theorem okF : EncOK 4 encF := ⟨fun _ _ _ => rfl, fun _ _ => rfl, fun _ _ _ => rfl, fun _ => ⟨rfl, rfl⟩⟩
theorem known_zero {p : Paper} {ax : Int} {ss : List Int} : zu p ax ss = 0 ↔ zt p = true ∧ possibleF p = true ∧ ss.all (zA p) = true ∧ isAxis ax = true := by
  unfold zu namedF
  cases zt p <;> cases possibleF p <;> cases ss.all (zA p) <;> cases isAxis ax <;> simp
def loF (p : Paper) (s ax : Int) : Ratio := ⟨(upF p s ax).q.d, (upF p s ax).q.n⟩
def hiF (p : Paper) (s ax : Int) : Ratio := (downF p s ax).q

theorem t73 (p : Paper) (s ax : Int) (hwf : p.wf) (hok : zt p = true) (hs : zA p s = true) : (lim cfg).pure 73 [zh p, I s, I ax] = some (.agg [I (loF p s ax).n, I (loF p s ax).d, I (hiF p s ax).n, I (hiF p s ax).d]) := by
  have h100 := t100 p s ax hwf hok hs
  have h101 := t101 p s ax hwf hok hs
  simp only [zn] at h100 h101
  refine zp (zk 73) cfn73 rfl (n := 23) rfl ?_
  simp only [bW, if_true, Nat.reduceEqDiff, if_false, zi]
  repeat' first | (intro hb; first | cases hb | skip) | ((first | apply z6 | apply zc); (· rfl); (· simp (disch := assumption) only [go_sem, Nat.reduceEqDiff, Nat.reduceAdd, bP, zd, Nat.reduceLeDiff, Nat.reduceLT, Nat.reduceMul, List.length_append, decide_eq_true_eq, z7, z0, Int.reduceToNat, Int.reduceLE, Int.reduceLT, Int.reduceBNe, Int.reduceBEq, h100, h101, t97, whyD_one, zn]; rfl); (· simp only [go_sem, Nat.reduceLT, Nat.reduceEqDiff]; rfl); (· rfl); first | (apply zb; (· simp only [go_sem, Nat.reduceLT]; rfl); (· simp only [go_sem, Nat.reduceLT]; rfl)) | (apply zf; (· simp only [go_sem, Nat.reduceLT]; rfl))) | ((first | apply z9 | apply za); (· rfl); (· simp only [go_sem, Nat.reduceLT]; rfl)) | (apply z8; (· simp only [go_sem, Nat.reduceEqDiff])) | (apply z5; (· simp only [go_sem, Nat.reduceEqDiff])) | (apply ze; (· kernel_rfl); (· kernel_rfl)) | (simp only [bW, if_true, Nat.reduceEqDiff, if_false])
  all_goals try simp only [go_sem, Nat.reduceEqDiff, bP, Nat.reduceAdd, Nat.reduceLeDiff, List.length_map, Tryd.f73]
  all_goals first | done | rfl | (simp_all []; done) | trace_state

theorem t20 (p : Paper) (s ax : Int) (hwf : p.wf) : (lim cfg).pure 20 [zh p, I s, I ax] = some (if zu p ax [s] = 0 then .tup [.agg [I (loF p s ax).n, I (loF p s ax).d], .agg [I (hiF p s ax).n, I (hiF p s ax).d], I 0] else .tup [.agg [I 0, I 0], .agg [I 0, I 0], I (zu p ax [s])]) := by
  have h71 := t71 p ax false [s] hwf 1 (by simp) (by simp) (by simp)
  simp only [List.map_cons, List.map_nil] at h71
  by_cases hk : zu p ax [s] = 0
  · rw [if_pos hk]
    rw [hk] at h71
    obtain ⟨hok, hp, hs, hax⟩ := known_zero.1 hk
    simp at hs
    have h73 := t73 p s ax hwf hok hs
    refine zp (zk 20) cfn20 rfl (n := 29) rfl ?_
    simp only [bW, if_true, Nat.reduceEqDiff, if_false, zi]
    repeat' first | (intro hb; first | cases hb | skip) | ((first | apply z6 | apply zc); (· rfl); (· simp (disch := assumption) only [go_sem, Nat.reduceEqDiff, Nat.reduceAdd, bP, zd, Nat.reduceLeDiff, Nat.reduceLT, Nat.reduceMul, List.length_append, decide_eq_true_eq, z7, z0, Int.reduceToNat, Int.reduceLE, Int.reduceLT, Int.reduceBNe, Int.reduceBEq, h71, h73]; rfl); (· simp only [go_sem, Nat.reduceLT, Nat.reduceEqDiff]; rfl); (· rfl); first | (apply zb; (· simp only [go_sem, Nat.reduceLT]; rfl); (· simp only [go_sem, Nat.reduceLT]; rfl)) | (apply zf; (· simp only [go_sem, Nat.reduceLT]; rfl))) | ((first | apply z9 | apply za); (· rfl); (· simp only [go_sem, Nat.reduceLT]; rfl)) | (apply z8; (· simp only [go_sem, Nat.reduceEqDiff])) | (apply z5; (· simp only [go_sem, Nat.reduceEqDiff])) | (apply ze; (· kernel_rfl); (· kernel_rfl)) | (simp only [bW, if_true, Nat.reduceEqDiff, if_false])
    all_goals try simp only [go_sem, Nat.reduceEqDiff, bP, Nat.reduceAdd, Nat.reduceLeDiff, List.length_map, Tryd.f20]
    all_goals first | done | rfl | (simp_all []; done) | trace_state
  · rw [if_neg hk]
    have hne : (zu p ax [s] != 0) = true := by simp [hk]
    refine zp (zk 20) cfn20 rfl (n := 29) rfl ?_
    simp only [bW, if_true, Nat.reduceEqDiff, if_false, zi]
    repeat' first | (intro hb; first | cases hb | skip) | ((first | apply z6 | apply zc); (· rfl); (· simp (disch := assumption) only [go_sem, Nat.reduceEqDiff, Nat.reduceAdd, bP, zd, Nat.reduceLeDiff, Nat.reduceLT, Nat.reduceMul, List.length_append, decide_eq_true_eq, z7, z0, Int.reduceToNat, Int.reduceLE, Int.reduceLT, Int.reduceBNe, Int.reduceBEq, h71, hne]; rfl); (· simp only [go_sem, Nat.reduceLT, Nat.reduceEqDiff]; rfl); (· rfl); first | (apply zb; (· simp only [go_sem, Nat.reduceLT]; rfl); (· simp only [go_sem, Nat.reduceLT]; rfl)) | (apply zf; (· simp only [go_sem, Nat.reduceLT]; rfl))) | ((first | apply z9 | apply za); (· rfl); (· simp only [go_sem, Nat.reduceLT]; rfl)) | (apply z8; (· simp only [go_sem, Nat.reduceEqDiff])) | (apply z5; (· simp only [go_sem, Nat.reduceEqDiff])) | (apply ze; (· kernel_rfl); (· kernel_rfl)) | (simp only [bW, if_true, Nat.reduceEqDiff, if_false])
    all_goals try simp only [go_sem, Nat.reduceEqDiff, bP, Nat.reduceAdd, Nat.reduceLeDiff, List.length_map, Tryd.f20]
    all_goals first | done | rfl | (simp_all []; done) | trace_state

theorem isS_fold2 {es : List Edge} {now : Net} {e : Edge} (he : e ∈ es) (hb : edgeB e) (hs : isS now e.src.toNat) : isS (es.foldl (stepE now) zV) e.dst.toNat :=
  isS_of_edge he hs (by show e.dst.toNat < 5; obtain ⟨b1, b2, b3, b4, _⟩ := hb; omega)
theorem merge_len : ∀ {l : List (Option Chn)} {i : Nat} {out : Net}, (mergeL l i out).length = out.length
  | [], _, _ => rfl
  | none :: r, i, out => merge_len (l := r)
  | some c :: r, i, out => by simp only [mergeL]; rw [merge_len (l := r), len_put]
theorem chains_edge2 {es : List Edge} {e e' : Edge} {k : Nat} (he : e ∈ es) (hb : edgeB e) (he' : e' ∈ es) (hb' : edgeB e') (h : e'.src = e.dst) : isS (zN es e.src.toNat (k + 2)) e'.dst.toNat := by
  unfold zN
  simp only [roundsN]
  refine isS_rounds ?_
  have hs5 : e.src.toNat < zV.length := by obtain ⟨b1, b2, b3, b4, _⟩ := hb; show e.src.toNat < 5; omega
  have hd5 : e'.dst.toNat < zV.length := by obtain ⟨b1, b2, b3, b4, _⟩ := hb'; show e'.dst.toNat < 5; omega
  have h1 := isS_fold2 he hb (now := zV.set e.src.toNat (some ⟨⟨1, 1⟩, []⟩)) ⟨_, List.getElem?_set_self hs5⟩
  rw [← h] at h1
  obtain ⟨c, hc⟩ := isS_fold2 he' hb' h1
  have := isS_mergeL (i := 0) (out := mergeL (es.foldl (stepE (zV.set e.src.toNat (some ⟨⟨1, 1⟩, []⟩))) zV) 0 zV) hc (by rw [Nat.zero_add, merge_len]; exact hd5)
  rwa [Nat.zero_add] at this
def betwF (p : Paper) (a b ax : Int) : Ratio := if a = b then one1 else (chnOr (((zN (zI p ax) (1 + a).toNat 4)[(1 + b).toNat]?).join)).q
theorem betw_some {p : Paper} {a b : Int} (ax : Int) (hok : zt p = true) (ha : zA p a = true) (hb : zA p b = true) (hab : a ≠ b) : ∃ c, (zN (zI p ax) (1 + a).toNat 4)[(1 + b).toNat]? = some (some c) ∧ betwF p a b ax = c.q ∧ qB 32000000000000000 5 c := by
  obtain ⟨h1, _⟩ := sheet_edge ax ha
  obtain ⟨_, h2⟩ := sheet_edge ax hb
  have hes := (edgesB hok ax).1
  obtain ⟨c, hc⟩ := chains_edge2 (k := 2) h1 (hes _ h1) h2 (hes _ h2) rfl
  have hc' : (zN (zI p ax) (1 + a).toNat 4)[(1 + b).toNat]? = some (some c) := hc
  refine ⟨c, hc', ?_, (chainsF_netB hes (by omega)).2 _ (List.mem_of_getElem? hc')⟩
  unfold betwF
  rw [if_neg hab, hc']; rfl
theorem t19 (p : Paper) (a b ax : Int) (hwf : p.wf) : (lim cfg).pure 19 [zh p, I a, I b, I ax] = some (if zu p ax [a, b] = 0 then .tup [.agg [I (betwF p a b ax).n, I (betwF p a b ax).d], I 0] else .tup [.agg [I 0, I 0], I (zu p ax [a, b])]) := by
  have h71 := t71 p ax false [a, b] hwf 1 (by simp) (by simp) (by simp)
  simp only [List.map_cons, List.map_nil] at h71
  by_cases hk : zu p ax [a, b] = 0
  · rw [if_pos hk]
    rw [hk] at h71
    obtain ⟨hok, hp, hs, hax⟩ := known_zero.1 hk
    simp at hs
    obtain ⟨o1, o2, _⟩ := zJ hok
    by_cases hab : a = b
    · have heq : (a == b) = true := by simp [hab]
      rw [show betwF p a b ax = one1 by simp [betwF, hab]]
      refine zp (zk 19) cfn19 rfl (n := 37) rfl ?_
      simp only [bW, if_true, Nat.reduceEqDiff, if_false, zi]
      repeat' first | (intro hb; first | cases hb | skip) | ((first | apply z6 | apply zc); (· rfl); (· simp (disch := assumption) only [go_sem, Nat.reduceEqDiff, Nat.reduceAdd, bP, zd, Nat.reduceLeDiff, Nat.reduceLT, Nat.reduceMul, List.length_append, decide_eq_true_eq, z7, z0, Int.reduceToNat, Int.reduceLE, Int.reduceLT, Int.reduceBNe, Int.reduceBEq, h71, heq, cfg_glob0]; rfl); (· simp only [go_sem, Nat.reduceLT, Nat.reduceEqDiff]; rfl); (· rfl); first | (apply zb; (· simp only [go_sem, Nat.reduceLT]; rfl); (· simp only [go_sem, Nat.reduceLT]; rfl)) | (apply zf; (· simp only [go_sem, Nat.reduceLT]; rfl))) | ((first | apply z9 | apply za); (· rfl); (· simp only [go_sem, Nat.reduceLT]; rfl)) | (apply z8; (· simp only [go_sem, Nat.reduceEqDiff])) | (apply z5; (· simp only [go_sem, Nat.reduceEqDiff])) | (apply ze; (· kernel_rfl); (· kernel_rfl)) | (simp only [bW, if_true, Nat.reduceEqDiff, if_false])
      all_goals try simp only [go_sem, Nat.reduceEqDiff, bP, Nat.reduceAdd, Nat.reduceLeDiff, List.length_map, Tryd.f19]
      all_goals first | done | rfl | (simp_all []; done) | trace_state
    · have heq : (a == b) = false := by simp [hab]
      obtain ⟨c, hc, hcq, _⟩ := betw_some ax hok hs.1 hs.2 hab
      rw [hcq]
      have h68 := t68 p ax hwf hok
      obtain ⟨hes, hlen⟩ := edgesB hok ax
      have hsa := hs.1
      have hsb := hs.2
      simp [zA] at hsa hsb
      obtain ⟨A, hA⟩ := Int.eq_ofNat_of_zero_le (show 0 ≤ 1 + a by omega)
      obtain ⟨N, hN⟩ := Int.eq_ofNat_of_zero_le (show 0 ≤ 1 + b by omega)
      have hwa : IntKind.i64.wrap (1 + a) = (A : Int) := by rw [wrap_i64 (by omega) (by omega), hA]
      have hwb : IntKind.i64.wrap (1 + b) = (N : Int) := by rw [wrap_i64 (by omega) (by omega), hN]
      have hA' : (1 + a).toNat = A := by rw [hA]; rfl
      have hN' : (1 + b).toNat = N := by rw [hN]; rfl
      rw [hA', hN'] at hc
      have h72 := t72 (zI p ax) A 4 hes hlen (by omega) (by omega)
      have hnet : ((zN (zI p ax) A 4).map zn)[N]? = some (zn (some c)) := by rw [List.getElem?_map, hc]; rfl
      have hlt5 : (N < 5) = True := by simp; omega
      simp only [Int.cast_ofNat_Int] at h72
      refine zp (zk 19) cfn19 rfl (n := 37) rfl ?_
      simp only [bW, if_true, Nat.reduceEqDiff, if_false, zi]
      repeat' first | (intro hb; first | cases hb | skip) | ((first | apply z6 | apply zc); (· rfl); (· simp (disch := assumption) only [go_sem, Nat.reduceEqDiff, Nat.reduceAdd, bP, zd, Nat.reduceLeDiff, Nat.reduceLT, Nat.reduceMul, List.length_append, decide_eq_true_eq, z7, z0, Int.reduceToNat, Int.reduceLE, Int.reduceLT, Int.reduceBNe, Int.reduceBEq, h71, heq, h68, hwa, hwb, h72, hnet, zn, whyD_one, encOC_one, hlt5]; rfl); (· simp only [go_sem, Nat.reduceLT, Nat.reduceEqDiff]; rfl); (· rfl); first | (apply zb; (· simp only [go_sem, Nat.reduceLT]; rfl); (· simp only [go_sem, Nat.reduceLT]; rfl)) | (apply zf; (· simp only [go_sem, Nat.reduceLT]; rfl))) | ((first | apply z9 | apply za); (· rfl); (· simp only [go_sem, Nat.reduceLT]; rfl)) | (apply z8; (· simp only [go_sem, Nat.reduceEqDiff])) | (apply z5; (· simp only [go_sem, Nat.reduceEqDiff])) | (apply ze; (· kernel_rfl); (· kernel_rfl)) | (simp only [bW, if_true, Nat.reduceEqDiff, if_false])
      all_goals try simp only [go_sem, Nat.reduceEqDiff, bP, Nat.reduceAdd, Nat.reduceLeDiff, List.length_map, Tryd.f19]
      all_goals first | done | rfl | (simp_all []; done) | trace_state
  · rw [if_neg hk]
    have hne : (zu p ax [a, b] != 0) = true := by simp [hk]
    refine zp (zk 19) cfn19 rfl (n := 37) rfl ?_
    simp only [bW, if_true, Nat.reduceEqDiff, if_false, zi]
    repeat' first | (intro hb; first | cases hb | skip) | ((first | apply z6 | apply zc); (· rfl); (· simp (disch := assumption) only [go_sem, Nat.reduceEqDiff, Nat.reduceAdd, bP, zd, Nat.reduceLeDiff, Nat.reduceLT, Nat.reduceMul, List.length_append, decide_eq_true_eq, z7, z0, Int.reduceToNat, Int.reduceLE, Int.reduceLT, Int.reduceBNe, Int.reduceBEq, h71, hne]; rfl); (· simp only [go_sem, Nat.reduceLT, Nat.reduceEqDiff]; rfl); (· rfl); first | (apply zb; (· simp only [go_sem, Nat.reduceLT]; rfl); (· simp only [go_sem, Nat.reduceLT]; rfl)) | (apply zf; (· simp only [go_sem, Nat.reduceLT]; rfl))) | ((first | apply z9 | apply za); (· rfl); (· simp only [go_sem, Nat.reduceLT]; rfl)) | (apply z8; (· simp only [go_sem, Nat.reduceEqDiff])) | (apply z5; (· simp only [go_sem, Nat.reduceEqDiff])) | (apply ze; (· kernel_rfl); (· kernel_rfl)) | (simp only [bW, if_true, Nat.reduceEqDiff, if_false])
    all_goals try simp only [go_sem, Nat.reduceEqDiff, bP, Nat.reduceAdd, Nat.reduceLeDiff, List.length_map, Tryd.f19]
    all_goals first | done | rfl | (simp_all []; done) | trace_state

theorem t30 (p : Paper) (hwf : p.wf) : (lim cfg).pure 30 [zh p] = some (if zt p then .tup [B (possibleF p), I 0] else .tup [B false, I 30]) := by
  have h15 := t15 p hwf
  unfold check at h15
  cases hok : zt p with
  | false =>
    rw [hok] at h15
    simp only [Bool.false_eq_true, if_false] at h15 ⊢
    refine zp (zk 30) cfn30 rfl (n := 12) rfl ?_
    simp only [bW, if_true, Nat.reduceEqDiff, if_false, zi]
    repeat' first | (intro hb; first | cases hb | skip) | ((first | apply z6 | apply zc); (· rfl); (· simp (disch := assumption) only [go_sem, Nat.reduceEqDiff, Nat.reduceAdd, bP, zd, Nat.reduceLeDiff, Nat.reduceLT, Nat.reduceMul, List.length_append, decide_eq_true_eq, z7, z0, Int.reduceToNat, Int.reduceLE, Int.reduceLT, Int.reduceBNe, Int.reduceBEq, h15]; rfl); (· simp only [go_sem, Nat.reduceLT, Nat.reduceEqDiff]; rfl); (· rfl); first | (apply zb; (· simp only [go_sem, Nat.reduceLT]; rfl); (· simp only [go_sem, Nat.reduceLT]; rfl)) | (apply zf; (· simp only [go_sem, Nat.reduceLT]; rfl))) | ((first | apply z9 | apply za); (· rfl); (· simp only [go_sem, Nat.reduceLT]; rfl)) | (apply z8; (· simp only [go_sem, Nat.reduceEqDiff])) | (apply z5; (· simp only [go_sem, Nat.reduceEqDiff])) | (apply ze; (· kernel_rfl); (· kernel_rfl)) | (simp only [bW, if_true, Nat.reduceEqDiff, if_false])
    all_goals try simp only [go_sem, Nat.reduceEqDiff, bP, Nat.reduceAdd, Nat.reduceLeDiff, List.length_map, Tryd.f30]
    all_goals first | done | rfl | (simp_all []; done) | trace_state
  | true =>
    rw [hok] at h15
    simp only [if_true] at h15 ⊢
    have h79 := t79' p hwf hok
    cases hp : possibleF p <;> rw [hp] at h79
    all_goals
      refine zp (zk 30) cfn30 rfl (n := 12) rfl ?_
      simp only [bW, if_true, Nat.reduceEqDiff, if_false, zi]
      repeat' first | (intro hb; first | cases hb | skip) | ((first | apply z6 | apply zc); (· rfl); (· simp (disch := assumption) only [go_sem, Nat.reduceEqDiff, Nat.reduceAdd, bP, zd, Nat.reduceLeDiff, Nat.reduceLT, Nat.reduceMul, List.length_append, decide_eq_true_eq, z7, z0, Int.reduceToNat, Int.reduceLE, Int.reduceLT, Int.reduceBNe, Int.reduceBEq, h15, h79]; rfl); (· simp only [go_sem, Nat.reduceLT, Nat.reduceEqDiff]; rfl); (· rfl); first | (apply zb; (· simp only [go_sem, Nat.reduceLT]; rfl); (· simp only [go_sem, Nat.reduceLT]; rfl)) | (apply zf; (· simp only [go_sem, Nat.reduceLT]; rfl))) | ((first | apply z9 | apply za); (· rfl); (· simp only [go_sem, Nat.reduceLT]; rfl)) | (apply z8; (· simp only [go_sem, Nat.reduceEqDiff])) | (apply z5; (· simp only [go_sem, Nat.reduceEqDiff])) | (apply ze; (· kernel_rfl); (· kernel_rfl)) | (simp only [bW, if_true, Nat.reduceEqDiff, if_false])
      all_goals try simp only [go_sem, Nat.reduceEqDiff, bP, Nat.reduceAdd, Nat.reduceLeDiff, List.length_map, Tryd.f30]
      all_goals first | done | rfl | (simp_all []; done) | trace_state


end Go.VS
namespace Go.VS
open Go Go.Proofs
set_option maxHeartbeats 0
set_option linter.unusedSimpArgs false

noncomputable def lp81_5 : Code := zB [1, 1, 0, 1, 0, 0] (zo Tryd.f81)
theorem lk81_5 : cfg.keep 81 (zD lp81_5) = [1, 2, 4, 13, 14] := by kernel_rfl

def endF0 (p : Paper) (s : Nat) : F4 := ⟨(loF p s 0).n, (loF p s 0).d, (loF p s 1).n, (loF p s 1).d⟩
theorem L81_5_0 {F : Exit → St → Option D} (p : Paper) (k : List Kt) (x : D) (hwf : p.wf) (hok : zt p = true) : ∀ (m i : Nat) (l : List F4), (i : Int) + m = p.sheets → l.length + m ≤ 1000 →
    (∀ l', l' = l ++ (List.range' i m).map (endF0 p) → zO cfg (lim cfg) 81 F k (.exit 0) ⟨33, [(15, B false), (1, I 0), (2, .lref 0 0 3 0), (4, gD 1 4 (l')), (13, I p.sheets), (14, I (i + m : Nat))], (0, ⟨[zh p], 3, false⟩) :: gO 1 4 encF (l'), gN 1 (l'), 0⟩ = some x) →
    EvL cfg (lim cfg) 81 F lp81_5 k ⟨33, [(1, I 0), (2, .lref 0 0 3 0), (4, gD 1 4 (l)), (13, I p.sheets), (14, I (i : Nat))], (0, ⟨[zh p], 3, false⟩) :: gO 1 4 encF (l), gN 1 (l), 0⟩ = some x := by
  intro m
  obtain ⟨o1, o2, _⟩ := zJ hok
  induction m with
  | zero =>
    intro i l hi he h
    have hi' : ((i : Int) < p.sheets) = False := by simp; omega
    refine zv ?_
    try dsimp only [lp81_5, zB, zo, Tryd.f81]
    simp only [bW, if_true, Nat.reduceEqDiff, if_false]
    repeat' first | (intro hb; first | cases hb | skip) | ((first | apply z6 | apply zc); (· rfl); (· simp (disch := assumption) only [go_sem, Nat.reduceEqDiff, Nat.reduceAdd, bP, zd, Nat.reduceLeDiff, Nat.reduceLT, Nat.reduceMul, List.length_append, decide_eq_true_eq, z7, z0, Int.reduceToNat, Int.reduceLE, Int.reduceLT, Int.reduceBNe, Int.reduceBEq, hi']; rfl); (· simp only [go_sem, Nat.reduceLT, Nat.reduceEqDiff]; rfl); (· rfl); first | (apply zb; (· simp only [go_sem, Nat.reduceLT]; rfl); (· simp only [go_sem, Nat.reduceLT]; rfl)) | (apply zf; (· simp only [go_sem, Nat.reduceLT]; rfl))) | ((first | apply z9 | apply za); (· rfl); (· simp only [go_sem, Nat.reduceLT]; rfl)) | (apply z8; (· simp only [go_sem, Nat.reduceEqDiff])) | (apply z5; (· simp only [go_sem, Nat.reduceEqDiff])) | (apply ze; (· kernel_rfl); (· kernel_rfl)) | (simp only [bW, if_true, Nat.reduceEqDiff, if_false])
    have := h l (by simp)
    rw [Nat.add_zero] at this
    exact this
  | succ m ih =>
    intro i l hi he h
    have hlt' : ((i : Int) < p.sheets) = True := by simp; omega
    have hw3 : IntKind.i64.wrap ((i : Int) + 1) = ((i + 1 : Nat) : Int) := by rw [wrap_i64 (by omega) (by omega)]; omega
    have hs : zA p i = true := by simp [zA]; omega
    have h73a := t73 p i 0 hwf hok hs
    have h73b := t73 p i 1 hwf hok hs
    rw [show i + (m + 1) = i + 1 + m by omega] at h
    cases l with
    | nil =>
      simp only [gD, gO, gN]
      refine zv ?_
      try dsimp only [lp81_5, zB, zo, Tryd.f81]
      simp only [bW, if_true, Nat.reduceEqDiff, if_false]
      repeat' first | (intro hb; first | cases hb | skip) | ((first | apply z6 | apply zc); (· rfl); (· simp (disch := assumption) only [go_sem, Nat.reduceEqDiff, Nat.reduceAdd, bP, zd, Nat.reduceLeDiff, Nat.reduceLT, Nat.reduceMul, List.length_append, decide_eq_true_eq, z7, z0, Int.reduceToNat, Int.reduceLE, Int.reduceLT, Int.reduceBNe, Int.reduceBEq, hlt', hw3, h73a, h73b, show (0 : Nat) < 2 from by decide, show (1 : Nat) < 2 from by decide, okF.allOk]; rfl); (· simp only [go_sem, Nat.reduceLT, Nat.reduceEqDiff]; rfl); (· rfl); first | (apply zb; (· simp only [go_sem, Nat.reduceLT]; rfl); (· simp only [go_sem, Nat.reduceLT]; rfl)) | (apply zf; (· simp only [go_sem, Nat.reduceLT]; rfl))) | ((first | apply z9 | apply za); (· rfl); (· simp only [go_sem, Nat.reduceLT]; rfl)) | (apply z8; (· simp only [go_sem, Nat.reduceEqDiff])) | (apply z5; (· simp only [go_sem, Nat.reduceEqDiff])) | (apply ze; (· kernel_rfl); (· kernel_rfl)) | (simp only [bW, if_true, Nat.reduceEqDiff, if_false])
      refine zM (st1 := ⟨33, [(1, I 0), (2, .lref 0 0 3 0), (4, gD 1 4 ([endF0 p i])), (13, I p.sheets), (14, I (i + 1 : Nat))], (0, ⟨[zh p], 3, false⟩) :: gO 1 4 encF ([endF0 p i]), gN 1 ([endF0 p i]), 0⟩) lk81_5 (by
        simp only [go_sem, List.map_append, Nat.reduceEqDiff, Nat.reduceLT, Nat.reduceAdd, bI, bD, bI2, okF.renL, okF.idsL, okF.idsL_app, gD, gO, gN, endF0, encF, zh, List.length_append, List.length_map]) (ih (i + 1) ([endF0 p i]) (by omega) (by simp at he ⊢; omega) (fun l' hl' => h l' (by rw [hl', List.range'_succ]; simp)))
    | cons e r =>
      simp only [List.length_cons] at he
      have hle : (r.length + 1 + 1 ≤ r.length + 1) = False := by simp
      have hb1 : ((r.length + 1 + 1) * 32 ≤ big) = True := by simp [big]; omega
      have hb2 : (r.length + 1 + 1 ≤ big) = True := by simp [big]; omega
      have hao : allOk 4 (encF e :: List.map encF r) = true := okF.allOk (e :: r)
      simp only [gD, gO, gN, List.map_cons]
      refine zv ?_
      try dsimp only [lp81_5, zB, zo, Tryd.f81]
      simp only [bW, if_true, Nat.reduceEqDiff, if_false]
      repeat' first | (intro hb; first | cases hb | skip) | ((first | apply z6 | apply zc); (· rfl); (· simp (disch := assumption) only [go_sem, Nat.reduceEqDiff, Nat.reduceAdd, bP, zd, Nat.reduceLeDiff, Nat.reduceLT, Nat.reduceMul, List.length_append, decide_eq_true_eq, z7, z0, Int.reduceToNat, Int.reduceLE, Int.reduceLT, Int.reduceBNe, Int.reduceBEq, hlt', hw3, h73a, h73b, show (0 : Nat) < 2 from by decide, show (1 : Nat) < 2 from by decide, okF.allOk, hao, hle, hb1, hb2, List.length_map]; rfl); (· simp only [go_sem, Nat.reduceLT, Nat.reduceEqDiff]; rfl); (· rfl); first | (apply zb; (· simp only [go_sem, Nat.reduceLT]; rfl); (· simp only [go_sem, Nat.reduceLT]; rfl)) | (apply zf; (· simp only [go_sem, Nat.reduceLT]; rfl))) | ((first | apply z9 | apply za); (· rfl); (· simp only [go_sem, Nat.reduceLT]; rfl)) | (apply z8; (· simp only [go_sem, Nat.reduceEqDiff])) | (apply z5; (· simp only [go_sem, Nat.reduceEqDiff])) | (apply ze; (· kernel_rfl); (· kernel_rfl)) | (simp only [bW, if_true, Nat.reduceEqDiff, if_false])
      refine zM (st1 := ⟨33, [(1, I 0), (2, .lref 0 0 3 0), (4, gD 1 4 ((e :: r) ++ [endF0 p i])), (13, I p.sheets), (14, I (i + 1 : Nat))], (0, ⟨[zh p], 3, false⟩) :: gO 1 4 encF ((e :: r) ++ [endF0 p i]), gN 1 ((e :: r) ++ [endF0 p i]), 0⟩) lk81_5 (by
        simp only [go_sem, List.map_append, Nat.reduceEqDiff, Nat.reduceLT, Nat.reduceAdd, bI, bD, bI2, okF.renL, okF.idsL, okF.idsL_app, gD, gO, gN, endF0, encF, zh, List.length_append, List.length_map]) (ih (i + 1) ((e :: r) ++ [endF0 p i]) (by omega) (by simp at he ⊢; omega) (fun l' hl' => h l' (by rw [hl', List.range'_succ]; simp)))
def endsF0 (p : Paper) : List F4 := (List.range' 0 p.sheets.toNat).map (endF0 p)
theorem t81_0 (p : Paper) (hwf : p.wf) : (lim cfg).pure 81 [zh p, I 0] = some (if zu p 0 [] = 0 then .tup [.sl false ((endsF0 p).map encF) 4 none, I 0] else .tup [.sl true [] 0 none, I (zu p 0 [])]) := by
  have h71' := t71 p 0 true [] hwf 0 (by simp) (by simp) (by simp)
  simp only [List.map_nil] at h71'
  by_cases hk : zu p 0 [] = 0
  · rw [if_pos hk]
    rw [hk] at h71'
    obtain ⟨hok, hp, hs, hax⟩ := known_zero.1 hk
    obtain ⟨o1, o2, _⟩ := zJ hok
    obtain ⟨n, hn⟩ := Int.eq_ofNat_of_zero_le (show 0 ≤ p.sheets by omega)
    refine zp (zk 81) cfn81 rfl (n := 33) rfl ?_
    generalize hF : finP cfg Tryd.f81 = F
    simp only [bW, if_true, Nat.reduceEqDiff, if_false, zi]
    repeat' first | (intro hb; first | cases hb | skip) | ((first | apply z6 | apply zc); (· rfl); (· simp (disch := assumption) only [go_sem, Nat.reduceEqDiff, Nat.reduceAdd, bP, zd, Nat.reduceLeDiff, Nat.reduceLT, Nat.reduceMul, List.length_append, decide_eq_true_eq, z7, z0, Int.reduceToNat, Int.reduceLE, Int.reduceLT, Int.reduceBNe, Int.reduceBEq, h71']; rfl); (· simp only [go_sem, Nat.reduceLT, Nat.reduceEqDiff]; rfl); (· rfl); first | (apply zb; (· simp only [go_sem, Nat.reduceLT]; rfl); (· simp only [go_sem, Nat.reduceLT]; rfl)) | (apply zf; (· simp only [go_sem, Nat.reduceLT]; rfl))) | ((first | apply z9 | apply za); (· rfl); (· simp only [go_sem, Nat.reduceLT]; rfl)) | (apply z8; (· simp only [go_sem, Nat.reduceEqDiff])) | (apply z5; (· simp only [go_sem, Nat.reduceEqDiff])) | (apply ze; (· kernel_rfl); (· kernel_rfl)) | (simp only [bW, if_true, Nat.reduceEqDiff, if_false])
    refine w_loop (st1 := ⟨33, [(1, I 0), (2, .lref 0 0 3 0), (4, gD 1 4 ([])), (13, I p.sheets), (14, I (0 : Nat))], (0, ⟨[zh p], 3, false⟩) :: gO 1 4 encF ([]), gN 1 ([]), 0⟩) lk81_5 (by
      simp only [go_sem, List.map_append, Nat.reduceEqDiff, Nat.reduceLT, Nat.reduceAdd, bI, bD, bI2, gD, gO, gN]
      try rfl) (L81_5_0 p _ _ hwf hok n 0 [] (by omega) (by simp; omega) (fun l hl => ?_))
    obtain ⟨e, r, rfl⟩ : ∃ e r, l = e :: r := by
      cases l with
      | nil => 
        have := congrArg List.length hl
        simp at this; omega
      | cons e r => exact ⟨e, r, rfl⟩
    have hl' : e :: r = endsF0 p := by rw [hl]; simp [endsF0, hn]
    rw [← hl']
    simp only [gD, gO, gN, List.map_cons]
    simp only [bW, if_true, Nat.reduceEqDiff, if_false]
    repeat' first | (intro hb; first | cases hb | skip) | ((first | apply z6 | apply zc); (· rfl); (· simp (disch := assumption) only [go_sem, Nat.reduceEqDiff, Nat.reduceAdd, bP, zd, Nat.reduceLeDiff, Nat.reduceLT, Nat.reduceMul, List.length_append, decide_eq_true_eq, z7, z0, Int.reduceToNat, Int.reduceLE, Int.reduceLT, Int.reduceBNe, Int.reduceBEq]; rfl); (· simp only [go_sem, Nat.reduceLT, Nat.reduceEqDiff]; rfl); (· rfl); first | (apply zb; (· simp only [go_sem, Nat.reduceLT]; rfl); (· simp only [go_sem, Nat.reduceLT]; rfl)) | (apply zf; (· simp only [go_sem, Nat.reduceLT]; rfl))) | ((first | apply z9 | apply za); (· rfl); (· simp only [go_sem, Nat.reduceLT]; rfl)) | (apply z8; (· simp only [go_sem, Nat.reduceEqDiff])) | (apply z5; (· simp only [go_sem, Nat.reduceEqDiff])) | (apply ze; (· kernel_rfl); (· kernel_rfl)) | (simp only [bW, if_true, Nat.reduceEqDiff, if_false])
    subst hF
    simp only [go_sem, Nat.reduceEqDiff, bP, Nat.reduceAdd, Nat.reduceLeDiff, List.length_map, Tryd.f81, okF.snapAll, z7, okF.snap]
  · rw [if_neg hk]
    have hne : (zu p 0 [] != 0) = true := by simp [hk]
    refine zp (zk 81) cfn81 rfl (n := 33) rfl ?_
    simp only [bW, if_true, Nat.reduceEqDiff, if_false, zi]
    repeat' first | (intro hb; first | cases hb | skip) | ((first | apply z6 | apply zc); (· rfl); (· simp (disch := assumption) only [go_sem, Nat.reduceEqDiff, Nat.reduceAdd, bP, zd, Nat.reduceLeDiff, Nat.reduceLT, Nat.reduceMul, List.length_append, decide_eq_true_eq, z7, z0, Int.reduceToNat, Int.reduceLE, Int.reduceLT, Int.reduceBNe, Int.reduceBEq, h71', hne]; rfl); (· simp only [go_sem, Nat.reduceLT, Nat.reduceEqDiff]; rfl); (· rfl); first | (apply zb; (· simp only [go_sem, Nat.reduceLT]; rfl); (· simp only [go_sem, Nat.reduceLT]; rfl)) | (apply zf; (· simp only [go_sem, Nat.reduceLT]; rfl))) | ((first | apply z9 | apply za); (· rfl); (· simp only [go_sem, Nat.reduceLT]; rfl)) | (apply z8; (· simp only [go_sem, Nat.reduceEqDiff])) | (apply z5; (· simp only [go_sem, Nat.reduceEqDiff])) | (apply ze; (· kernel_rfl); (· kernel_rfl)) | (simp only [bW, if_true, Nat.reduceEqDiff, if_false])
    all_goals try simp only [go_sem, Nat.reduceEqDiff, bP, Nat.reduceAdd, Nat.reduceLeDiff, List.length_map, Tryd.f81]
    all_goals first | done | rfl | (simp_all []; done) | trace_state


def endF1 (p : Paper) (s : Nat) : F4 := ⟨(hiF p s 0).n, (hiF p s 0).d, (hiF p s 1).n, (hiF p s 1).d⟩
theorem L81_5_1 {F : Exit → St → Option D} (p : Paper) (k : List Kt) (x : D) (hwf : p.wf) (hok : zt p = true) : ∀ (m i : Nat) (l : List F4), (i : Int) + m = p.sheets → l.length + m ≤ 1000 →
    (∀ l', l' = l ++ (List.range' i m).map (endF1 p) → zO cfg (lim cfg) 81 F k (.exit 0) ⟨33, [(15, B false), (1, I 1), (2, .lref 0 0 3 0), (4, gD 1 4 (l')), (13, I p.sheets), (14, I (i + m : Nat))], (0, ⟨[zh p], 3, false⟩) :: gO 1 4 encF (l'), gN 1 (l'), 0⟩ = some x) →
    EvL cfg (lim cfg) 81 F lp81_5 k ⟨33, [(1, I 1), (2, .lref 0 0 3 0), (4, gD 1 4 (l)), (13, I p.sheets), (14, I (i : Nat))], (0, ⟨[zh p], 3, false⟩) :: gO 1 4 encF (l), gN 1 (l), 0⟩ = some x := by
  intro m
  obtain ⟨o1, o2, _⟩ := zJ hok
  induction m with
  | zero =>
    intro i l hi he h
    have hi' : ((i : Int) < p.sheets) = False := by simp; omega
    refine zv ?_
    try dsimp only [lp81_5, zB, zo, Tryd.f81]
    simp only [bW, if_true, Nat.reduceEqDiff, if_false]
    repeat' first | (intro hb; first | cases hb | skip) | ((first | apply z6 | apply zc); (· rfl); (· simp (disch := assumption) only [go_sem, Nat.reduceEqDiff, Nat.reduceAdd, bP, zd, Nat.reduceLeDiff, Nat.reduceLT, Nat.reduceMul, List.length_append, decide_eq_true_eq, z7, z0, Int.reduceToNat, Int.reduceLE, Int.reduceLT, Int.reduceBNe, Int.reduceBEq, hi']; rfl); (· simp only [go_sem, Nat.reduceLT, Nat.reduceEqDiff]; rfl); (· rfl); first | (apply zb; (· simp only [go_sem, Nat.reduceLT]; rfl); (· simp only [go_sem, Nat.reduceLT]; rfl)) | (apply zf; (· simp only [go_sem, Nat.reduceLT]; rfl))) | ((first | apply z9 | apply za); (· rfl); (· simp only [go_sem, Nat.reduceLT]; rfl)) | (apply z8; (· simp only [go_sem, Nat.reduceEqDiff])) | (apply z5; (· simp only [go_sem, Nat.reduceEqDiff])) | (apply ze; (· kernel_rfl); (· kernel_rfl)) | (simp only [bW, if_true, Nat.reduceEqDiff, if_false])
    have := h l (by simp)
    rw [Nat.add_zero] at this
    exact this
  | succ m ih =>
    intro i l hi he h
    have hlt' : ((i : Int) < p.sheets) = True := by simp; omega
    have hw3 : IntKind.i64.wrap ((i : Int) + 1) = ((i + 1 : Nat) : Int) := by rw [wrap_i64 (by omega) (by omega)]; omega
    have hs : zA p i = true := by simp [zA]; omega
    have h73a := t73 p i 0 hwf hok hs
    have h73b := t73 p i 1 hwf hok hs
    rw [show i + (m + 1) = i + 1 + m by omega] at h
    cases l with
    | nil =>
      simp only [gD, gO, gN]
      refine zv ?_
      try dsimp only [lp81_5, zB, zo, Tryd.f81]
      simp only [bW, if_true, Nat.reduceEqDiff, if_false]
      repeat' first | (intro hb; first | cases hb | skip) | ((first | apply z6 | apply zc); (· rfl); (· simp (disch := assumption) only [go_sem, Nat.reduceEqDiff, Nat.reduceAdd, bP, zd, Nat.reduceLeDiff, Nat.reduceLT, Nat.reduceMul, List.length_append, decide_eq_true_eq, z7, z0, Int.reduceToNat, Int.reduceLE, Int.reduceLT, Int.reduceBNe, Int.reduceBEq, hlt', hw3, h73a, h73b, show (0 : Nat) < 2 from by decide, show (1 : Nat) < 2 from by decide, okF.allOk]; rfl); (· simp only [go_sem, Nat.reduceLT, Nat.reduceEqDiff]; rfl); (· rfl); first | (apply zb; (· simp only [go_sem, Nat.reduceLT]; rfl); (· simp only [go_sem, Nat.reduceLT]; rfl)) | (apply zf; (· simp only [go_sem, Nat.reduceLT]; rfl))) | ((first | apply z9 | apply za); (· rfl); (· simp only [go_sem, Nat.reduceLT]; rfl)) | (apply z8; (· simp only [go_sem, Nat.reduceEqDiff])) | (apply z5; (· simp only [go_sem, Nat.reduceEqDiff])) | (apply ze; (· kernel_rfl); (· kernel_rfl)) | (simp only [bW, if_true, Nat.reduceEqDiff, if_false])
      refine zM (st1 := ⟨33, [(1, I 1), (2, .lref 0 0 3 0), (4, gD 1 4 ([endF1 p i])), (13, I p.sheets), (14, I (i + 1 : Nat))], (0, ⟨[zh p], 3, false⟩) :: gO 1 4 encF ([endF1 p i]), gN 1 ([endF1 p i]), 0⟩) lk81_5 (by
        simp only [go_sem, List.map_append, Nat.reduceEqDiff, Nat.reduceLT, Nat.reduceAdd, bI, bD, bI2, okF.renL, okF.idsL, okF.idsL_app, gD, gO, gN, endF1, encF, zh, List.length_append, List.length_map]) (ih (i + 1) ([endF1 p i]) (by omega) (by simp at he ⊢; omega) (fun l' hl' => h l' (by rw [hl', List.range'_succ]; simp)))
    | cons e r =>
      simp only [List.length_cons] at he
      have hle : (r.length + 1 + 1 ≤ r.length + 1) = False := by simp
      have hb1 : ((r.length + 1 + 1) * 32 ≤ big) = True := by simp [big]; omega
      have hb2 : (r.length + 1 + 1 ≤ big) = True := by simp [big]; omega
      have hao : allOk 4 (encF e :: List.map encF r) = true := okF.allOk (e :: r)
      simp only [gD, gO, gN, List.map_cons]
      refine zv ?_
      try dsimp only [lp81_5, zB, zo, Tryd.f81]
      simp only [bW, if_true, Nat.reduceEqDiff, if_false]
      repeat' first | (intro hb; first | cases hb | skip) | ((first | apply z6 | apply zc); (· rfl); (· simp (disch := assumption) only [go_sem, Nat.reduceEqDiff, Nat.reduceAdd, bP, zd, Nat.reduceLeDiff, Nat.reduceLT, Nat.reduceMul, List.length_append, decide_eq_true_eq, z7, z0, Int.reduceToNat, Int.reduceLE, Int.reduceLT, Int.reduceBNe, Int.reduceBEq, hlt', hw3, h73a, h73b, show (0 : Nat) < 2 from by decide, show (1 : Nat) < 2 from by decide, okF.allOk, hao, hle, hb1, hb2, List.length_map]; rfl); (· simp only [go_sem, Nat.reduceLT, Nat.reduceEqDiff]; rfl); (· rfl); first | (apply zb; (· simp only [go_sem, Nat.reduceLT]; rfl); (· simp only [go_sem, Nat.reduceLT]; rfl)) | (apply zf; (· simp only [go_sem, Nat.reduceLT]; rfl))) | ((first | apply z9 | apply za); (· rfl); (· simp only [go_sem, Nat.reduceLT]; rfl)) | (apply z8; (· simp only [go_sem, Nat.reduceEqDiff])) | (apply z5; (· simp only [go_sem, Nat.reduceEqDiff])) | (apply ze; (· kernel_rfl); (· kernel_rfl)) | (simp only [bW, if_true, Nat.reduceEqDiff, if_false])
      refine zM (st1 := ⟨33, [(1, I 1), (2, .lref 0 0 3 0), (4, gD 1 4 ((e :: r) ++ [endF1 p i])), (13, I p.sheets), (14, I (i + 1 : Nat))], (0, ⟨[zh p], 3, false⟩) :: gO 1 4 encF ((e :: r) ++ [endF1 p i]), gN 1 ((e :: r) ++ [endF1 p i]), 0⟩) lk81_5 (by
        simp only [go_sem, List.map_append, Nat.reduceEqDiff, Nat.reduceLT, Nat.reduceAdd, bI, bD, bI2, okF.renL, okF.idsL, okF.idsL_app, gD, gO, gN, endF1, encF, zh, List.length_append, List.length_map]) (ih (i + 1) ((e :: r) ++ [endF1 p i]) (by omega) (by simp at he ⊢; omega) (fun l' hl' => h l' (by rw [hl', List.range'_succ]; simp)))
def endsF1 (p : Paper) : List F4 := (List.range' 0 p.sheets.toNat).map (endF1 p)
theorem t81_1 (p : Paper) (hwf : p.wf) : (lim cfg).pure 81 [zh p, I 1] = some (if zu p 0 [] = 0 then .tup [.sl false ((endsF1 p).map encF) 4 none, I 0] else .tup [.sl true [] 0 none, I (zu p 0 [])]) := by
  have h71' := t71 p 0 true [] hwf 0 (by simp) (by simp) (by simp)
  simp only [List.map_nil] at h71'
  by_cases hk : zu p 0 [] = 0
  · rw [if_pos hk]
    rw [hk] at h71'
    obtain ⟨hok, hp, hs, hax⟩ := known_zero.1 hk
    obtain ⟨o1, o2, _⟩ := zJ hok
    obtain ⟨n, hn⟩ := Int.eq_ofNat_of_zero_le (show 0 ≤ p.sheets by omega)
    refine zp (zk 81) cfn81 rfl (n := 33) rfl ?_
    generalize hF : finP cfg Tryd.f81 = F
    simp only [bW, if_true, Nat.reduceEqDiff, if_false, zi]
    repeat' first | (intro hb; first | cases hb | skip) | ((first | apply z6 | apply zc); (· rfl); (· simp (disch := assumption) only [go_sem, Nat.reduceEqDiff, Nat.reduceAdd, bP, zd, Nat.reduceLeDiff, Nat.reduceLT, Nat.reduceMul, List.length_append, decide_eq_true_eq, z7, z0, Int.reduceToNat, Int.reduceLE, Int.reduceLT, Int.reduceBNe, Int.reduceBEq, h71']; rfl); (· simp only [go_sem, Nat.reduceLT, Nat.reduceEqDiff]; rfl); (· rfl); first | (apply zb; (· simp only [go_sem, Nat.reduceLT]; rfl); (· simp only [go_sem, Nat.reduceLT]; rfl)) | (apply zf; (· simp only [go_sem, Nat.reduceLT]; rfl))) | ((first | apply z9 | apply za); (· rfl); (· simp only [go_sem, Nat.reduceLT]; rfl)) | (apply z8; (· simp only [go_sem, Nat.reduceEqDiff])) | (apply z5; (· simp only [go_sem, Nat.reduceEqDiff])) | (apply ze; (· kernel_rfl); (· kernel_rfl)) | (simp only [bW, if_true, Nat.reduceEqDiff, if_false])
    refine w_loop (st1 := ⟨33, [(1, I 1), (2, .lref 0 0 3 0), (4, gD 1 4 ([])), (13, I p.sheets), (14, I (0 : Nat))], (0, ⟨[zh p], 3, false⟩) :: gO 1 4 encF ([]), gN 1 ([]), 0⟩) lk81_5 (by
      simp only [go_sem, List.map_append, Nat.reduceEqDiff, Nat.reduceLT, Nat.reduceAdd, bI, bD, bI2, gD, gO, gN]
      try rfl) (L81_5_1 p _ _ hwf hok n 0 [] (by omega) (by simp; omega) (fun l hl => ?_))
    obtain ⟨e, r, rfl⟩ : ∃ e r, l = e :: r := by
      cases l with
      | nil => 
        have := congrArg List.length hl
        simp at this; omega
      | cons e r => exact ⟨e, r, rfl⟩
    have hl' : e :: r = endsF1 p := by rw [hl]; simp [endsF1, hn]
    rw [← hl']
    simp only [gD, gO, gN, List.map_cons]
    simp only [bW, if_true, Nat.reduceEqDiff, if_false]
    repeat' first | (intro hb; first | cases hb | skip) | ((first | apply z6 | apply zc); (· rfl); (· simp (disch := assumption) only [go_sem, Nat.reduceEqDiff, Nat.reduceAdd, bP, zd, Nat.reduceLeDiff, Nat.reduceLT, Nat.reduceMul, List.length_append, decide_eq_true_eq, z7, z0, Int.reduceToNat, Int.reduceLE, Int.reduceLT, Int.reduceBNe, Int.reduceBEq]; rfl); (· simp only [go_sem, Nat.reduceLT, Nat.reduceEqDiff]; rfl); (· rfl); first | (apply zb; (· simp only [go_sem, Nat.reduceLT]; rfl); (· simp only [go_sem, Nat.reduceLT]; rfl)) | (apply zf; (· simp only [go_sem, Nat.reduceLT]; rfl))) | ((first | apply z9 | apply za); (· rfl); (· simp only [go_sem, Nat.reduceLT]; rfl)) | (apply z8; (· simp only [go_sem, Nat.reduceEqDiff])) | (apply z5; (· simp only [go_sem, Nat.reduceEqDiff])) | (apply ze; (· kernel_rfl); (· kernel_rfl)) | (simp only [bW, if_true, Nat.reduceEqDiff, if_false])
    subst hF
    simp only [go_sem, Nat.reduceEqDiff, bP, Nat.reduceAdd, Nat.reduceLeDiff, List.length_map, Tryd.f81, okF.snapAll, z7, okF.snap]
  · rw [if_neg hk]
    have hne : (zu p 0 [] != 0) = true := by simp [hk]
    refine zp (zk 81) cfn81 rfl (n := 33) rfl ?_
    simp only [bW, if_true, Nat.reduceEqDiff, if_false, zi]
    repeat' first | (intro hb; first | cases hb | skip) | ((first | apply z6 | apply zc); (· rfl); (· simp (disch := assumption) only [go_sem, Nat.reduceEqDiff, Nat.reduceAdd, bP, zd, Nat.reduceLeDiff, Nat.reduceLT, Nat.reduceMul, List.length_append, decide_eq_true_eq, z7, z0, Int.reduceToNat, Int.reduceLE, Int.reduceLT, Int.reduceBNe, Int.reduceBEq, h71', hne]; rfl); (· simp only [go_sem, Nat.reduceLT, Nat.reduceEqDiff]; rfl); (· rfl); first | (apply zb; (· simp only [go_sem, Nat.reduceLT]; rfl); (· simp only [go_sem, Nat.reduceLT]; rfl)) | (apply zf; (· simp only [go_sem, Nat.reduceLT]; rfl))) | ((first | apply z9 | apply za); (· rfl); (· simp only [go_sem, Nat.reduceLT]; rfl)) | (apply z8; (· simp only [go_sem, Nat.reduceEqDiff])) | (apply z5; (· simp only [go_sem, Nat.reduceEqDiff])) | (apply ze; (· kernel_rfl); (· kernel_rfl)) | (simp only [bW, if_true, Nat.reduceEqDiff, if_false])
    all_goals try simp only [go_sem, Nat.reduceEqDiff, bP, Nat.reduceAdd, Nat.reduceLeDiff, List.length_map, Tryd.f81]
    all_goals first | done | rfl | (simp_all []; done) | trace_state


end Go.VS
namespace Go.VS
open Go Go.Proofs
set_option maxHeartbeats 0
set_option linter.unusedSimpArgs false

theorem pd_why {t : Ty} {sub : Nat} {ws : List Reason} : zw t sub (whyD ws) = if t.isAgg then none else if sub = 0 then some (whyD ws) else none := by cases ws <;> rfl
noncomputable def lp48_5 : Code := zB [1, 1, 0, 1, 0, 0] (zo Tryd.f48)
theorem lk48_5 : cfg.keep 48 (zD lp48_5) = [1, 13] := by kernel_rfl

noncomputable def lp57_4 : Code := zB [1, 1, 0, 1, 0, 0] (zo Tryd.f57)
theorem lk57_4 : cfg.keep 57 (zD lp57_4) = [0, 1, 12, 13] := by kernel_rfl

theorem t32 (p : Paper) (hwf : p.wf) : (lim cfg).pure 32 [zh p] = some (if zu p 0 [] = 0 then .tup [.sl false ((endsF0 p).map encF) 4 none, I 0] else .tup [.sl true [] 0 none, I (zu p 0 [])]) := by
  have h81 := t81_0 p hwf
  split at h81 <;> rename_i hk
  · rw [if_pos hk]
    refine zp (zk 32) cfn32 rfl (n := 8) rfl ?_
    simp only [bW, if_true, Nat.reduceEqDiff, if_false, zi]
    repeat' first | (intro hb; first | cases hb | skip) | ((first | apply z6 | apply zc); (· rfl); (· simp (disch := assumption) only [go_sem, Nat.reduceEqDiff, Nat.reduceAdd, bP, zd, Nat.reduceLeDiff, Nat.reduceLT, Nat.reduceMul, List.length_append, decide_eq_true_eq, z7, z0, Int.reduceToNat, Int.reduceLE, Int.reduceLT, Int.reduceBNe, Int.reduceBEq, h81]; rfl); (· simp only [go_sem, Nat.reduceLT, Nat.reduceEqDiff]; rfl); (· rfl); first | (apply zb; (· simp only [go_sem, Nat.reduceLT]; rfl); (· simp only [go_sem, Nat.reduceLT]; rfl)) | (apply zf; (· simp only [go_sem, Nat.reduceLT]; rfl))) | ((first | apply z9 | apply za); (· rfl); (· simp only [go_sem, Nat.reduceLT]; rfl)) | (apply z8; (· simp only [go_sem, Nat.reduceEqDiff])) | (apply z5; (· simp only [go_sem, Nat.reduceEqDiff])) | (apply ze; (· kernel_rfl); (· kernel_rfl)) | (simp only [bW, if_true, Nat.reduceEqDiff, if_false])
    all_goals try simp only [go_sem, Nat.reduceEqDiff, bP, Nat.reduceAdd, Nat.reduceLeDiff, List.length_map, Tryd.f32, okF.snapAll]
    all_goals first | done | rfl | (simp_all []; done) | trace_state
  · rw [if_neg hk]
    refine zp (zk 32) cfn32 rfl (n := 8) rfl ?_
    simp only [bW, if_true, Nat.reduceEqDiff, if_false, zi]
    repeat' first | (intro hb; first | cases hb | skip) | ((first | apply z6 | apply zc); (· rfl); (· simp (disch := assumption) only [go_sem, Nat.reduceEqDiff, Nat.reduceAdd, bP, zd, Nat.reduceLeDiff, Nat.reduceLT, Nat.reduceMul, List.length_append, decide_eq_true_eq, z7, z0, Int.reduceToNat, Int.reduceLE, Int.reduceLT, Int.reduceBNe, Int.reduceBEq, h81]; rfl); (· simp only [go_sem, Nat.reduceLT, Nat.reduceEqDiff]; rfl); (· rfl); first | (apply zb; (· simp only [go_sem, Nat.reduceLT]; rfl); (· simp only [go_sem, Nat.reduceLT]; rfl)) | (apply zf; (· simp only [go_sem, Nat.reduceLT]; rfl))) | ((first | apply z9 | apply za); (· rfl); (· simp only [go_sem, Nat.reduceLT]; rfl)) | (apply z8; (· simp only [go_sem, Nat.reduceEqDiff])) | (apply z5; (· simp only [go_sem, Nat.reduceEqDiff])) | (apply ze; (· kernel_rfl); (· kernel_rfl)) | (simp only [bW, if_true, Nat.reduceEqDiff, if_false])
    all_goals try simp only [go_sem, Nat.reduceEqDiff, bP, Nat.reduceAdd, Nat.reduceLeDiff, List.length_map, Tryd.f32]
    all_goals first | done | rfl | (simp_all []; done) | trace_state

theorem t33 (p : Paper) (hwf : p.wf) : (lim cfg).pure 33 [zh p] = some (if zu p 0 [] = 0 then .tup [.sl false ((endsF1 p).map encF) 4 none, I 0] else .tup [.sl true [] 0 none, I (zu p 0 [])]) := by
  have h81 := t81_1 p hwf
  split at h81 <;> rename_i hk
  · rw [if_pos hk]
    refine zp (zk 33) cfn33 rfl (n := 8) rfl ?_
    simp only [bW, if_true, Nat.reduceEqDiff, if_false, zi]
    repeat' first | (intro hb; first | cases hb | skip) | ((first | apply z6 | apply zc); (· rfl); (· simp (disch := assumption) only [go_sem, Nat.reduceEqDiff, Nat.reduceAdd, bP, zd, Nat.reduceLeDiff, Nat.reduceLT, Nat.reduceMul, List.length_append, decide_eq_true_eq, z7, z0, Int.reduceToNat, Int.reduceLE, Int.reduceLT, Int.reduceBNe, Int.reduceBEq, h81]; rfl); (· simp only [go_sem, Nat.reduceLT, Nat.reduceEqDiff]; rfl); (· rfl); first | (apply zb; (· simp only [go_sem, Nat.reduceLT]; rfl); (· simp only [go_sem, Nat.reduceLT]; rfl)) | (apply zf; (· simp only [go_sem, Nat.reduceLT]; rfl))) | ((first | apply z9 | apply za); (· rfl); (· simp only [go_sem, Nat.reduceLT]; rfl)) | (apply z8; (· simp only [go_sem, Nat.reduceEqDiff])) | (apply z5; (· simp only [go_sem, Nat.reduceEqDiff])) | (apply ze; (· kernel_rfl); (· kernel_rfl)) | (simp only [bW, if_true, Nat.reduceEqDiff, if_false])
    all_goals try simp only [go_sem, Nat.reduceEqDiff, bP, Nat.reduceAdd, Nat.reduceLeDiff, List.length_map, Tryd.f33, okF.snapAll]
    all_goals first | done | rfl | (simp_all []; done) | trace_state
  · rw [if_neg hk]
    refine zp (zk 33) cfn33 rfl (n := 8) rfl ?_
    simp only [bW, if_true, Nat.reduceEqDiff, if_false, zi]
    repeat' first | (intro hb; first | cases hb | skip) | ((first | apply z6 | apply zc); (· rfl); (· simp (disch := assumption) only [go_sem, Nat.reduceEqDiff, Nat.reduceAdd, bP, zd, Nat.reduceLeDiff, Nat.reduceLT, Nat.reduceMul, List.length_append, decide_eq_true_eq, z7, z0, Int.reduceToNat, Int.reduceLE, Int.reduceLT, Int.reduceBNe, Int.reduceBEq, h81]; rfl); (· simp only [go_sem, Nat.reduceLT, Nat.reduceEqDiff]; rfl); (· rfl); first | (apply zb; (· simp only [go_sem, Nat.reduceLT]; rfl); (· simp only [go_sem, Nat.reduceLT]; rfl)) | (apply zf; (· simp only [go_sem, Nat.reduceLT]; rfl))) | ((first | apply z9 | apply za); (· rfl); (· simp only [go_sem, Nat.reduceLT]; rfl)) | (apply z8; (· simp only [go_sem, Nat.reduceEqDiff])) | (apply z5; (· simp only [go_sem, Nat.reduceEqDiff])) | (apply ze; (· kernel_rfl); (· kernel_rfl)) | (simp only [bW, if_true, Nat.reduceEqDiff, if_false])
    all_goals try simp only [go_sem, Nat.reduceEqDiff, bP, Nat.reduceAdd, Nat.reduceLeDiff, List.length_map, Tryd.f33]
    all_goals first | done | rfl | (simp_all []; done) | trace_state

def clashR (p : Paper) : Option Chn := match clashA p 0 with | some c => some c | none => clashA p 1
def clashD (o : Option Chn) : D := match o with | some c => .tup [whyD c.why, B true, I 0] | none => .tup [.sl true [] 0 none, B false, I 0]
theorem t48 (p : Paper) (hwf : p.wf) : (lim cfg).pure 48 [zh p] = some (if zt p then clashD (clashR p) else .tup [.sl true [] 0 none, B false, I 30]) := by
  have h15 := t15 p hwf
  unfold check at h15
  cases hok : zt p with
  | false =>
    rw [hok] at h15
    simp only [Bool.false_eq_true, if_false] at h15 ⊢
    refine zp (zk 48) cfn48 rfl (n := 26) rfl ?_
    simp only [bW, if_true, Nat.reduceEqDiff, if_false, zi]
    repeat' first | (intro hb; first | cases hb | skip) | ((first | apply z6 | apply zc); (· rfl); (· simp (disch := assumption) only [go_sem, Nat.reduceEqDiff, Nat.reduceAdd, bP, zd, Nat.reduceLeDiff, Nat.reduceLT, Nat.reduceMul, List.length_append, decide_eq_true_eq, z7, z0, Int.reduceToNat, Int.reduceLE, Int.reduceLT, Int.reduceBNe, Int.reduceBEq, h15]; rfl); (· simp only [go_sem, Nat.reduceLT, Nat.reduceEqDiff]; rfl); (· rfl); first | (apply zb; (· simp only [go_sem, Nat.reduceLT]; rfl); (· simp only [go_sem, Nat.reduceLT]; rfl)) | (apply zf; (· simp only [go_sem, Nat.reduceLT]; rfl))) | ((first | apply z9 | apply za); (· rfl); (· simp only [go_sem, Nat.reduceLT]; rfl)) | (apply z8; (· simp only [go_sem, Nat.reduceEqDiff])) | (apply z5; (· simp only [go_sem, Nat.reduceEqDiff])) | (apply ze; (· kernel_rfl); (· kernel_rfl)) | (simp only [bW, if_true, Nat.reduceEqDiff, if_false])
    all_goals try simp only [go_sem, Nat.reduceEqDiff, bP, Nat.reduceAdd, Nat.reduceLeDiff, List.length_map, Tryd.f48]
    all_goals first | done | rfl | (simp_all []; done) | trace_state
  | true =>
    rw [hok] at h15
    simp only [if_true] at h15 ⊢
    have h0 := t99 p 0 hwf hok
    have h1 := t99 p 1 hwf hok
    unfold clashR
    have e1 : IntKind.i64.wrap (0 + 1) = 1 := by decide
    have e2 : IntKind.i64.wrap (1 + 1) = 2 := by decide
    cases hc0 : clashA p 0 with
    | some c =>
      rw [hc0] at h0
      simp only [zn] at h0
      simp only [clashD]
      refine zp (zk 48) cfn48 rfl (n := 26) rfl ?_
      generalize hF : finP cfg Tryd.f48 = F
      simp only [bW, if_true, Nat.reduceEqDiff, if_false, zi]
      repeat' first | (intro hb; first | cases hb | skip) | ((first | apply z6 | apply zc); (· rfl); (· simp (disch := assumption) only [go_sem, Nat.reduceEqDiff, Nat.reduceAdd, bP, zd, Nat.reduceLeDiff, Nat.reduceLT, Nat.reduceMul, List.length_append, decide_eq_true_eq, z7, z0, Int.reduceToNat, Int.reduceLE, Int.reduceLT, Int.reduceBNe, Int.reduceBEq, h15]; rfl); (· simp only [go_sem, Nat.reduceLT, Nat.reduceEqDiff]; rfl); (· rfl); first | (apply zb; (· simp only [go_sem, Nat.reduceLT]; rfl); (· simp only [go_sem, Nat.reduceLT]; rfl)) | (apply zf; (· simp only [go_sem, Nat.reduceLT]; rfl))) | ((first | apply z9 | apply za); (· rfl); (· simp only [go_sem, Nat.reduceLT]; rfl)) | (apply z8; (· simp only [go_sem, Nat.reduceEqDiff])) | (apply z5; (· simp only [go_sem, Nat.reduceEqDiff])) | (apply ze; (· kernel_rfl); (· kernel_rfl)) | (simp only [bW, if_true, Nat.reduceEqDiff, if_false])
      refine w_loop (st1 := ⟨26, [(1, .lref 0 0 3 0), (13, I 0)], [(0, ⟨[zh p], 3, false⟩)], 1, 0⟩) lk48_5 (by kernel_rfl) ?_
      refine zv ?_
      try dsimp only [lp48_5, zB, zo, Tryd.f48]
      simp only [bW, if_true, Nat.reduceEqDiff, if_false]
      repeat' first | (intro hb; first | cases hb | skip) | ((first | apply z6 | apply zc); (· rfl); (· simp (disch := assumption) only [go_sem, Nat.reduceEqDiff, Nat.reduceAdd, bP, zd, Nat.reduceLeDiff, Nat.reduceLT, Nat.reduceMul, List.length_append, decide_eq_true_eq, z7, z0, Int.reduceToNat, Int.reduceLE, Int.reduceLT, Int.reduceBNe, Int.reduceBEq, h0, whyD_one, pd_why]; rfl); (· simp only [go_sem, Nat.reduceLT, Nat.reduceEqDiff]; rfl); (· rfl); first | (apply zb; (· simp only [go_sem, Nat.reduceLT]; rfl); (· simp only [go_sem, Nat.reduceLT]; rfl)) | (apply zf; (· simp only [go_sem, Nat.reduceLT]; rfl))) | ((first | apply z9 | apply za); (· rfl); (· simp only [go_sem, Nat.reduceLT]; rfl)) | (apply z8; (· simp only [go_sem, Nat.reduceEqDiff])) | (apply z5; (· simp only [go_sem, Nat.reduceEqDiff])) | (apply ze; (· kernel_rfl); (· kernel_rfl)) | (simp only [bW, if_true, Nat.reduceEqDiff, if_false])
      subst hF
      simp only [go_sem, Nat.reduceEqDiff, bP, Nat.reduceAdd, Nat.reduceLeDiff, List.length_map, Tryd.f48, snap_whyD]
    | none =>
      rw [hc0] at h0
      simp only [zn] at h0
      cases hc1 : clashA p 1 with
      | some c =>
        rw [hc1] at h1
        simp only [zn] at h1
        simp only [clashD]
        refine zp (zk 48) cfn48 rfl (n := 26) rfl ?_
        generalize hF : finP cfg Tryd.f48 = F
        simp only [bW, if_true, Nat.reduceEqDiff, if_false, zi]
        repeat' first | (intro hb; first | cases hb | skip) | ((first | apply z6 | apply zc); (· rfl); (· simp (disch := assumption) only [go_sem, Nat.reduceEqDiff, Nat.reduceAdd, bP, zd, Nat.reduceLeDiff, Nat.reduceLT, Nat.reduceMul, List.length_append, decide_eq_true_eq, z7, z0, Int.reduceToNat, Int.reduceLE, Int.reduceLT, Int.reduceBNe, Int.reduceBEq, h15]; rfl); (· simp only [go_sem, Nat.reduceLT, Nat.reduceEqDiff]; rfl); (· rfl); first | (apply zb; (· simp only [go_sem, Nat.reduceLT]; rfl); (· simp only [go_sem, Nat.reduceLT]; rfl)) | (apply zf; (· simp only [go_sem, Nat.reduceLT]; rfl))) | ((first | apply z9 | apply za); (· rfl); (· simp only [go_sem, Nat.reduceLT]; rfl)) | (apply z8; (· simp only [go_sem, Nat.reduceEqDiff])) | (apply z5; (· simp only [go_sem, Nat.reduceEqDiff])) | (apply ze; (· kernel_rfl); (· kernel_rfl)) | (simp only [bW, if_true, Nat.reduceEqDiff, if_false])
        refine w_loop (st1 := ⟨26, [(1, .lref 0 0 3 0), (13, I 0)], [(0, ⟨[zh p], 3, false⟩)], 1, 0⟩) lk48_5 (by kernel_rfl) ?_
        refine zv ?_
        try dsimp only [lp48_5, zB, zo, Tryd.f48]
        simp only [bW, if_true, Nat.reduceEqDiff, if_false]
        repeat' first | (intro hb; first | cases hb | skip) | ((first | apply z6 | apply zc); (· rfl); (· simp (disch := assumption) only [go_sem, Nat.reduceEqDiff, Nat.reduceAdd, bP, zd, Nat.reduceLeDiff, Nat.reduceLT, Nat.reduceMul, List.length_append, decide_eq_true_eq, z7, z0, Int.reduceToNat, Int.reduceLE, Int.reduceLT, Int.reduceBNe, Int.reduceBEq, h0, whyD_one, pd_why, e1]; rfl); (· simp only [go_sem, Nat.reduceLT, Nat.reduceEqDiff]; rfl); (· rfl); first | (apply zb; (· simp only [go_sem, Nat.reduceLT]; rfl); (· simp only [go_sem, Nat.reduceLT]; rfl)) | (apply zf; (· simp only [go_sem, Nat.reduceLT]; rfl))) | ((first | apply z9 | apply za); (· rfl); (· simp only [go_sem, Nat.reduceLT]; rfl)) | (apply z8; (· simp only [go_sem, Nat.reduceEqDiff])) | (apply z5; (· simp only [go_sem, Nat.reduceEqDiff])) | (apply ze; (· kernel_rfl); (· kernel_rfl)) | (simp only [bW, if_true, Nat.reduceEqDiff, if_false])
        refine zM (st1 := ⟨26, [(1, .lref 0 0 3 0), (13, I 1)], [(0, ⟨[zh p], 3, false⟩)], 1, 0⟩) lk48_5 (by kernel_rfl) ?_
        refine zv ?_
        try dsimp only [lp48_5, zB, zo, Tryd.f48]
        simp only [bW, if_true, Nat.reduceEqDiff, if_false]
        repeat' first | (intro hb; first | cases hb | skip) | ((first | apply z6 | apply zc); (· rfl); (· simp (disch := assumption) only [go_sem, Nat.reduceEqDiff, Nat.reduceAdd, bP, zd, Nat.reduceLeDiff, Nat.reduceLT, Nat.reduceMul, List.length_append, decide_eq_true_eq, z7, z0, Int.reduceToNat, Int.reduceLE, Int.reduceLT, Int.reduceBNe, Int.reduceBEq, h1, whyD_one, pd_why, e1]; rfl); (· simp only [go_sem, Nat.reduceLT, Nat.reduceEqDiff]; rfl); (· rfl); first | (apply zb; (· simp only [go_sem, Nat.reduceLT]; rfl); (· simp only [go_sem, Nat.reduceLT]; rfl)) | (apply zf; (· simp only [go_sem, Nat.reduceLT]; rfl))) | ((first | apply z9 | apply za); (· rfl); (· simp only [go_sem, Nat.reduceLT]; rfl)) | (apply z8; (· simp only [go_sem, Nat.reduceEqDiff])) | (apply z5; (· simp only [go_sem, Nat.reduceEqDiff])) | (apply ze; (· kernel_rfl); (· kernel_rfl)) | (simp only [bW, if_true, Nat.reduceEqDiff, if_false])
        subst hF
        simp only [go_sem, Nat.reduceEqDiff, bP, Nat.reduceAdd, Nat.reduceLeDiff, List.length_map, Tryd.f48, snap_whyD]
      | none =>
        rw [hc1] at h1
        simp only [zn] at h1
        simp only [clashD]
        refine zp (zk 48) cfn48 rfl (n := 26) rfl ?_
        generalize hF : finP cfg Tryd.f48 = F
        simp only [bW, if_true, Nat.reduceEqDiff, if_false, zi]
        repeat' first | (intro hb; first | cases hb | skip) | ((first | apply z6 | apply zc); (· rfl); (· simp (disch := assumption) only [go_sem, Nat.reduceEqDiff, Nat.reduceAdd, bP, zd, Nat.reduceLeDiff, Nat.reduceLT, Nat.reduceMul, List.length_append, decide_eq_true_eq, z7, z0, Int.reduceToNat, Int.reduceLE, Int.reduceLT, Int.reduceBNe, Int.reduceBEq, h15]; rfl); (· simp only [go_sem, Nat.reduceLT, Nat.reduceEqDiff]; rfl); (· rfl); first | (apply zb; (· simp only [go_sem, Nat.reduceLT]; rfl); (· simp only [go_sem, Nat.reduceLT]; rfl)) | (apply zf; (· simp only [go_sem, Nat.reduceLT]; rfl))) | ((first | apply z9 | apply za); (· rfl); (· simp only [go_sem, Nat.reduceLT]; rfl)) | (apply z8; (· simp only [go_sem, Nat.reduceEqDiff])) | (apply z5; (· simp only [go_sem, Nat.reduceEqDiff])) | (apply ze; (· kernel_rfl); (· kernel_rfl)) | (simp only [bW, if_true, Nat.reduceEqDiff, if_false])
        refine w_loop (st1 := ⟨26, [(1, .lref 0 0 3 0), (13, I 0)], [(0, ⟨[zh p], 3, false⟩)], 1, 0⟩) lk48_5 (by kernel_rfl) ?_
        refine zv ?_
        try dsimp only [lp48_5, zB, zo, Tryd.f48]
        simp only [bW, if_true, Nat.reduceEqDiff, if_false]
        repeat' first | (intro hb; first | cases hb | skip) | ((first | apply z6 | apply zc); (· rfl); (· simp (disch := assumption) only [go_sem, Nat.reduceEqDiff, Nat.reduceAdd, bP, zd, Nat.reduceLeDiff, Nat.reduceLT, Nat.reduceMul, List.length_append, decide_eq_true_eq, z7, z0, Int.reduceToNat, Int.reduceLE, Int.reduceLT, Int.reduceBNe, Int.reduceBEq, h0, whyD_one, pd_why, e1]; rfl); (· simp only [go_sem, Nat.reduceLT, Nat.reduceEqDiff]; rfl); (· rfl); first | (apply zb; (· simp only [go_sem, Nat.reduceLT]; rfl); (· simp only [go_sem, Nat.reduceLT]; rfl)) | (apply zf; (· simp only [go_sem, Nat.reduceLT]; rfl))) | ((first | apply z9 | apply za); (· rfl); (· simp only [go_sem, Nat.reduceLT]; rfl)) | (apply z8; (· simp only [go_sem, Nat.reduceEqDiff])) | (apply z5; (· simp only [go_sem, Nat.reduceEqDiff])) | (apply ze; (· kernel_rfl); (· kernel_rfl)) | (simp only [bW, if_true, Nat.reduceEqDiff, if_false])
        refine zM (st1 := ⟨26, [(1, .lref 0 0 3 0), (13, I 1)], [(0, ⟨[zh p], 3, false⟩)], 1, 0⟩) lk48_5 (by kernel_rfl) ?_
        refine zv ?_
        try dsimp only [lp48_5, zB, zo, Tryd.f48]
        simp only [bW, if_true, Nat.reduceEqDiff, if_false]
        repeat' first | (intro hb; first | cases hb | skip) | ((first | apply z6 | apply zc); (· rfl); (· simp (disch := assumption) only [go_sem, Nat.reduceEqDiff, Nat.reduceAdd, bP, zd, Nat.reduceLeDiff, Nat.reduceLT, Nat.reduceMul, List.length_append, decide_eq_true_eq, z7, z0, Int.reduceToNat, Int.reduceLE, Int.reduceLT, Int.reduceBNe, Int.reduceBEq, h1, whyD_one, pd_why, e2]; rfl); (· simp only [go_sem, Nat.reduceLT, Nat.reduceEqDiff]; rfl); (· rfl); first | (apply zb; (· simp only [go_sem, Nat.reduceLT]; rfl); (· simp only [go_sem, Nat.reduceLT]; rfl)) | (apply zf; (· simp only [go_sem, Nat.reduceLT]; rfl))) | ((first | apply z9 | apply za); (· rfl); (· simp only [go_sem, Nat.reduceLT]; rfl)) | (apply z8; (· simp only [go_sem, Nat.reduceEqDiff])) | (apply z5; (· simp only [go_sem, Nat.reduceEqDiff])) | (apply ze; (· kernel_rfl); (· kernel_rfl)) | (simp only [bW, if_true, Nat.reduceEqDiff, if_false])
        refine zM (st1 := ⟨26, [(1, .lref 0 0 3 0), (13, I 2)], [(0, ⟨[zh p], 3, false⟩)], 1, 0⟩) lk48_5 (by kernel_rfl) ?_
        refine zv ?_
        try dsimp only [lp48_5, zB, zo, Tryd.f48]
        simp only [bW, if_true, Nat.reduceEqDiff, if_false]
        repeat' first | (intro hb; first | cases hb | skip) | ((first | apply z6 | apply zc); (· rfl); (· simp (disch := assumption) only [go_sem, Nat.reduceEqDiff, Nat.reduceAdd, bP, zd, Nat.reduceLeDiff, Nat.reduceLT, Nat.reduceMul, List.length_append, decide_eq_true_eq, z7, z0, Int.reduceToNat, Int.reduceLE, Int.reduceLT, Int.reduceBNe, Int.reduceBEq, h1, whyD_one, pd_why, e2]; rfl); (· simp only [go_sem, Nat.reduceLT, Nat.reduceEqDiff]; rfl); (· rfl); first | (apply zb; (· simp only [go_sem, Nat.reduceLT]; rfl); (· simp only [go_sem, Nat.reduceLT]; rfl)) | (apply zf; (· simp only [go_sem, Nat.reduceLT]; rfl))) | ((first | apply z9 | apply za); (· rfl); (· simp only [go_sem, Nat.reduceLT]; rfl)) | (apply z8; (· simp only [go_sem, Nat.reduceEqDiff])) | (apply z5; (· simp only [go_sem, Nat.reduceEqDiff])) | (apply ze; (· kernel_rfl); (· kernel_rfl)) | (simp only [bW, if_true, Nat.reduceEqDiff, if_false])
        subst hF
        simp only [go_sem, Nat.reduceEqDiff, bP, Nat.reduceAdd, Nat.reduceLeDiff, List.length_map, Tryd.f48, snap_whyD]
theorem t49 (p : Paper) (s ax : Int) (g : Bool) (hwf : p.wf) : (lim cfg).pure 49 [zh p, I s, I ax, B g] = some (if zu p ax [s] = 0 then .tup [whyD (if g then downF p s ax else upF p s ax).why, I 0] else .tup [.sl true [] 0 none, I (zu p ax [s])]) := by
  have h71 := t71 p ax false [s] hwf 1 (by simp) (by simp) (by simp)
  simp only [List.map_cons, List.map_nil] at h71
  by_cases hk : zu p ax [s] = 0
  · rw [if_pos hk]
    rw [hk] at h71
    obtain ⟨hok, hp, hs, hax⟩ := known_zero.1 hk
    simp at hs
    have h100 := t100 p s ax hwf hok hs
    have h101 := t101 p s ax hwf hok hs
    simp only [zn] at h100 h101
    cases g with
    | true =>
      refine zp (zk 49) cfn49 rfl (n := 34) rfl ?_
      simp only [bW, if_true, Nat.reduceEqDiff, if_false, zi]
      repeat' first | (intro hb; first | cases hb | skip) | ((first | apply z6 | apply zc); (· rfl); (· simp (disch := assumption) only [go_sem, Nat.reduceEqDiff, Nat.reduceAdd, bP, zd, Nat.reduceLeDiff, Nat.reduceLT, Nat.reduceMul, List.length_append, decide_eq_true_eq, z7, z0, Int.reduceToNat, Int.reduceLE, Int.reduceLT, Int.reduceBNe, Int.reduceBEq, h71, h100, h101, whyD_one, pd_why]; rfl); (· simp only [go_sem, Nat.reduceLT, Nat.reduceEqDiff]; rfl); (· rfl); first | (apply zb; (· simp only [go_sem, Nat.reduceLT]; rfl); (· simp only [go_sem, Nat.reduceLT]; rfl)) | (apply zf; (· simp only [go_sem, Nat.reduceLT]; rfl))) | ((first | apply z9 | apply za); (· rfl); (· simp only [go_sem, Nat.reduceLT]; rfl)) | (apply z8; (· simp only [go_sem, Nat.reduceEqDiff])) | (apply z5; (· simp only [go_sem, Nat.reduceEqDiff])) | (apply ze; (· kernel_rfl); (· kernel_rfl)) | (simp only [bW, if_true, Nat.reduceEqDiff, if_false])
      all_goals simp only [go_sem, Nat.reduceEqDiff, bP, Nat.reduceAdd, Nat.reduceLeDiff, List.length_map, Tryd.f49, snap_whyD]
    | false =>
      refine zp (zk 49) cfn49 rfl (n := 34) rfl ?_
      simp only [bW, if_true, Nat.reduceEqDiff, if_false, zi]
      repeat' first | (intro hb; first | cases hb | skip) | ((first | apply z6 | apply zc); (· rfl); (· simp (disch := assumption) only [go_sem, Nat.reduceEqDiff, Nat.reduceAdd, bP, zd, Nat.reduceLeDiff, Nat.reduceLT, Nat.reduceMul, List.length_append, decide_eq_true_eq, z7, z0, Int.reduceToNat, Int.reduceLE, Int.reduceLT, Int.reduceBNe, Int.reduceBEq, h71, h100, h101, whyD_one, pd_why]; rfl); (· simp only [go_sem, Nat.reduceLT, Nat.reduceEqDiff]; rfl); (· rfl); first | (apply zb; (· simp only [go_sem, Nat.reduceLT]; rfl); (· simp only [go_sem, Nat.reduceLT]; rfl)) | (apply zf; (· simp only [go_sem, Nat.reduceLT]; rfl))) | ((first | apply z9 | apply za); (· rfl); (· simp only [go_sem, Nat.reduceLT]; rfl)) | (apply z8; (· simp only [go_sem, Nat.reduceEqDiff])) | (apply z5; (· simp only [go_sem, Nat.reduceEqDiff])) | (apply ze; (· kernel_rfl); (· kernel_rfl)) | (simp only [bW, if_true, Nat.reduceEqDiff, if_false])
      all_goals simp only [go_sem, Nat.reduceEqDiff, bP, Nat.reduceAdd, Nat.reduceLeDiff, List.length_map, Tryd.f49, snap_whyD]
  · rw [if_neg hk]
    have hne : (zu p ax [s] != 0) = true := by simp [hk]
    refine zp (zk 49) cfn49 rfl (n := 34) rfl ?_
    simp only [bW, if_true, Nat.reduceEqDiff, if_false, zi]
    repeat' first | (intro hb; first | cases hb | skip) | ((first | apply z6 | apply zc); (· rfl); (· simp (disch := assumption) only [go_sem, Nat.reduceEqDiff, Nat.reduceAdd, bP, zd, Nat.reduceLeDiff, Nat.reduceLT, Nat.reduceMul, List.length_append, decide_eq_true_eq, z7, z0, Int.reduceToNat, Int.reduceLE, Int.reduceLT, Int.reduceBNe, Int.reduceBEq, h71, hne]; rfl); (· simp only [go_sem, Nat.reduceLT, Nat.reduceEqDiff]; rfl); (· rfl); first | (apply zb; (· simp only [go_sem, Nat.reduceLT]; rfl); (· simp only [go_sem, Nat.reduceLT]; rfl)) | (apply zf; (· simp only [go_sem, Nat.reduceLT]; rfl))) | ((first | apply z9 | apply za); (· rfl); (· simp only [go_sem, Nat.reduceLT]; rfl)) | (apply z8; (· simp only [go_sem, Nat.reduceEqDiff])) | (apply z5; (· simp only [go_sem, Nat.reduceEqDiff])) | (apply ze; (· kernel_rfl); (· kernel_rfl)) | (simp only [bW, if_true, Nat.reduceEqDiff, if_false])
    all_goals try simp only [go_sem, Nat.reduceEqDiff, bP, Nat.reduceAdd, Nat.reduceLeDiff, List.length_map, Tryd.f49]
    all_goals first | done | rfl | (simp_all []; done) | trace_state


def eqW (x y : Reason) : Bool := (x.join == y.join) && ((x.at_ == y.at_) && (x.back == y.back))
def eqWs : List Reason → List Reason → Bool
  | [], [] => true
  | x :: a, y :: b => eqW x y && eqWs a b
  | _, _ => false
theorem L57_4 {F : Exit → St → Option D} (na nb : Bool) (sa sb : Nat) (a b : List Reason) (k : List Kt) (x : D) (hla : a.length ≤ 9223372036854775807) (hlen : a.length = b.length) (hna' : na = true → a = []) (hnb' : nb = true → b = []) (hsa : na = false → sa = 3) (hsb : nb = false → sb = 3) (hk : ∀ st, get st.tmps 4 = B false → zO cfg (lim cfg) 57 F k .ret st = some (B false)) : ∀ (ra rb : List Reason) (i : Nat), a.drop i = ra → b.drop i = rb → i ≤ a.length →
    (eqWs ra rb = true → zO cfg (lim cfg) 57 F k (.exit 0) ⟨26, [(14, B false), (0, .sl na (a.map encW) sa none), (1, .sl nb (b.map encW) sb none), (12, I a.length), (13, I (a.length : Nat))], [], 0, 0⟩ = some x) →
    (eqWs ra rb = false → x = B false) →
    EvL cfg (lim cfg) 57 F lp57_4 k ⟨26, [(0, .sl na (a.map encW) sa none), (1, .sl nb (b.map encW) sb none), (12, I a.length), (13, I (i : Nat))], [], 0, 0⟩ = some x := by
  intro ra
  induction ra with
  | nil =>
    intro rb i hd hdb hi h h'
    have hi' : i = a.length := by
      have := List.drop_eq_nil_iff.1 hd
      omega
    subst hi'
    have hrb : rb = [] := by rw [← hdb, List.drop_eq_nil_of_le (Nat.le_of_eq hlen.symm)]
    subst hrb
    refine zv ?_
    try dsimp only [lp57_4, zB, zo, Tryd.f57]
    simp only [bW, if_true, Nat.reduceEqDiff, if_false]
    repeat' first | (intro hb; first | cases hb | skip) | ((first | apply z6 | apply zc); (· rfl); (· simp (disch := assumption) only [go_sem, Nat.reduceEqDiff, Nat.reduceAdd, bP, zd, Nat.reduceLeDiff, Nat.reduceLT, Nat.reduceMul, List.length_append, decide_eq_true_eq, z7, z0, Int.reduceToNat, Int.reduceLE, Int.reduceLT, Int.reduceBNe, Int.reduceBEq, Int.lt_irrefl]; rfl); (· simp only [go_sem, Nat.reduceLT, Nat.reduceEqDiff]; rfl); (· rfl); first | (apply zb; (· simp only [go_sem, Nat.reduceLT]; rfl); (· simp only [go_sem, Nat.reduceLT]; rfl)) | (apply zf; (· simp only [go_sem, Nat.reduceLT]; rfl))) | ((first | apply z9 | apply za); (· rfl); (· simp only [go_sem, Nat.reduceLT]; rfl)) | (apply z8; (· simp only [go_sem, Nat.reduceEqDiff])) | (apply z5; (· simp only [go_sem, Nat.reduceEqDiff])) | (apply ze; (· kernel_rfl); (· kernel_rfl)) | (simp only [bW, if_true, Nat.reduceEqDiff, if_false])
    exact h rfl
  | cons m ra ih =>
    intro rb i hd hdb hi h h'
    have hlt : i < a.length := by
      rcases Nat.lt_or_ge i a.length with h | h
      · exact h
      · rw [List.drop_eq_nil_of_le h] at hd; cases hd
    obtain ⟨m', rb', hrb⟩ : ∃ m' rb', rb = m' :: rb' := by
      cases rb with
      | nil => exact absurd (List.drop_eq_nil_iff.1 hdb) (by omega)
      | cons y r => exact ⟨y, r, rfl⟩
    subst hrb
    have hm : a[i]? = some m := by rw [← List.head?_drop, hd]; rfl
    have hmb : b[i]? = some m' := by rw [← List.head?_drop, hdb]; rfl
    have hxa : (a.map encW)[i]? = some (.agg [B m.join, I m.at_, B m.back]) := by rw [List.getElem?_map, hm]; rfl
    have hxb : (b.map encW)[i]? = some (.agg [B m'.join, I m'.at_, B m'.back]) := by rw [List.getElem?_map, hmb]; rfl
    have hna : na = false := by
      cases h : na with
      | false => rfl
      | true => rw [hna' h] at hlt; cases hlt
    have hnb : nb = false := by
      cases h : nb with
      | false => rfl
      | true => rw [hnb' h, List.length_nil] at hlen; omega
    have hsa1 := hsa hna
    have hsb1 := hsb hnb
    clear hsa hsb
    subst hsa1 hsb1
    have hlt' : (i : Int) < (a.length : Int) := by omega
    have hw3 : IntKind.i64.wrap ((i : Int) + 1) = ((i + 1 : Nat) : Int) := by rw [wrap_i64 (by omega) (by omega)]; omega
    refine zv ?_
    try dsimp only [lp57_4, zB, zo, Tryd.f57]
    simp only [bW, if_true, Nat.reduceEqDiff, if_false]
    repeat' first | (intro hb; first | cases hb | skip) | ((first | apply z6 | apply zc); (· rfl); (· simp (disch := assumption) only [go_sem, Nat.reduceEqDiff, Nat.reduceAdd, bP, zd, Nat.reduceLeDiff, Nat.reduceLT, Nat.reduceMul, List.length_append, decide_eq_true_eq, z7, z0, Int.reduceToNat, Int.reduceLE, Int.reduceLT, Int.reduceBNe, Int.reduceBEq, hxa, hxb, hna, hnb, hlt', hw3]; rfl); (· simp only [go_sem, Nat.reduceLT, Nat.reduceEqDiff]; rfl); (· rfl); first | (apply zb; (· simp only [go_sem, Nat.reduceLT]; rfl); (· simp only [go_sem, Nat.reduceLT]; rfl)) | (apply zf; (· simp only [go_sem, Nat.reduceLT]; rfl))) | ((first | apply z9 | apply za); (· rfl); (· simp only [go_sem, Nat.reduceLT]; rfl)) | (apply z8; (· simp only [go_sem, Nat.reduceEqDiff])) | (apply z5; (· simp only [go_sem, Nat.reduceEqDiff])) | (apply ze; (· kernel_rfl); (· kernel_rfl)) | (simp only [bW, if_true, Nat.reduceEqDiff, if_false])
    · rw [h' (by simp only [Bool.and_true, Bool.not_eq_true'] at hb; simp only [eqWs, eqW, hb, Bool.false_and])]
      exact hk _ rfl
    · have he : eqW m m' = true := by simp only [Bool.and_true, Bool.not_eq_false'] at hb; exact hb
      simp only [eqWs, he, Bool.true_and] at h h'
      exact zM (st1 := ⟨26, [(0, .sl na (a.map encW) 3 none), (1, .sl nb (b.map encW) 3 none), (12, I a.length), (13, I (i + 1 : Nat))], [], 0, 0⟩) lk57_4 (by kernel_rfl) (ih rb' (i + 1) (by rw [← List.drop_drop, hd]; rfl) (by rw [← List.drop_drop, hdb]; rfl) hlt h h')
theorem t57 (na nb : Bool) (sa sb : Nat) (a b : List Reason) (hla : a.length ≤ 9223372036854775807) (hlb : b.length ≤ 9223372036854775807) (hna : na = true → a = []) (hnb : nb = true → b = []) (hsa : na = false → sa = 3) (hsb : nb = false → sb = 3) : (lim cfg).pure 57 [.sl na (a.map encW) sa none, .sl nb (b.map encW) sb none] = some (B (eqWs a b)) := by
  have ha := len_if (f := encW) hna
  have hb' := len_if (f := encW) hnb
  have hcast : ((a.length : Int) != (b.length : Int)) = !decide (a.length = b.length) := by
    by_cases h : a.length = b.length <;> simp [h]
    omega
  by_cases hl : a.length = b.length
  · have hd : decide (a.length = b.length) = true := by simp [hl]
    refine zp (zk 57) cfn57 rfl (n := 26) rfl ?_
    generalize hF : finP cfg Tryd.f57 = F
    simp only [bW, if_true, Nat.reduceEqDiff, if_false, zi]
    repeat' first | (intro hb; first | cases hb | skip) | ((first | apply z6 | apply zc); (· rfl); (· simp (disch := assumption) only [go_sem, Nat.reduceEqDiff, Nat.reduceAdd, bP, zd, Nat.reduceLeDiff, Nat.reduceLT, Nat.reduceMul, List.length_append, decide_eq_true_eq, z7, z0, Int.reduceToNat, Int.reduceLE, Int.reduceLT, Int.reduceBNe, Int.reduceBEq, ha, hb', hcast, hd]; rfl); (· simp only [go_sem, Nat.reduceLT, Nat.reduceEqDiff]; rfl); (· rfl); first | (apply zb; (· simp only [go_sem, Nat.reduceLT]; rfl); (· simp only [go_sem, Nat.reduceLT]; rfl)) | (apply zf; (· simp only [go_sem, Nat.reduceLT]; rfl))) | ((first | apply z9 | apply za); (· rfl); (· simp only [go_sem, Nat.reduceLT]; rfl)) | (apply z8; (· simp only [go_sem, Nat.reduceEqDiff])) | (apply z5; (· simp only [go_sem, Nat.reduceEqDiff])) | (apply ze; (· kernel_rfl); (· kernel_rfl)) | (simp only [bW, if_true, Nat.reduceEqDiff, if_false])
    have hend : ∀ v st, get st.tmps 4 = B v → F .ret st = some (B v) := by
      intro v st hd
      subst hF
      simp only [go_sem, Nat.reduceEqDiff, bP, Nat.reduceAdd, Nat.reduceLeDiff, List.length_map, Tryd.f57, hd]
    refine w_loop (st1 := ⟨26, [(0, .sl na (a.map encW) sa none), (1, .sl nb (b.map encW) sb none), (12, I a.length), (13, I (0 : Nat))], [], 0, 0⟩) lk57_4 (by kernel_rfl) (L57_4 na nb sa sb a b _ _ hla hl hna hnb hsa hsb (fun st hd => ?_) a b 0 rfl rfl (Nat.zero_le _) (fun he => ?_) (fun he => by rw [he]))
    · simp only [bW, if_true, Nat.reduceEqDiff, if_false]
      exact hend false st hd
    · rw [he]
      simp only [bW, if_true, Nat.reduceEqDiff, if_false]
      repeat' first | (intro hb; first | cases hb | skip) | ((first | apply z6 | apply zc); (· rfl); (· simp (disch := assumption) only [go_sem, Nat.reduceEqDiff, Nat.reduceAdd, bP, zd, Nat.reduceLeDiff, Nat.reduceLT, Nat.reduceMul, List.length_append, decide_eq_true_eq, z7, z0, Int.reduceToNat, Int.reduceLE, Int.reduceLT, Int.reduceBNe, Int.reduceBEq]; rfl); (· simp only [go_sem, Nat.reduceLT, Nat.reduceEqDiff]; rfl); (· rfl); first | (apply zb; (· simp only [go_sem, Nat.reduceLT]; rfl); (· simp only [go_sem, Nat.reduceLT]; rfl)) | (apply zf; (· simp only [go_sem, Nat.reduceLT]; rfl))) | ((first | apply z9 | apply za); (· rfl); (· simp only [go_sem, Nat.reduceLT]; rfl)) | (apply z8; (· simp only [go_sem, Nat.reduceEqDiff])) | (apply z5; (· simp only [go_sem, Nat.reduceEqDiff])) | (apply ze; (· kernel_rfl); (· kernel_rfl)) | (simp only [bW, if_true, Nat.reduceEqDiff, if_false])
      exact hend true _ rfl
  · have hd : decide (a.length = b.length) = false := by simp [hl]
    have hf : eqWs a b = false := by
      have key : ∀ (a b : List Reason), eqWs a b = true → a.length = b.length := by
        intro a
        induction a with
        | nil => intro b h; cases b with
          | nil => rfl
          | cons y b => simp [eqWs] at h
        | cons y a ih => intro b h; cases b with
          | nil => simp [eqWs] at h
          | cons z b => simp [eqWs] at h; simp [ih b h.2]
      cases h : eqWs a b with
      | false => rfl
      | true => exact absurd (key a b h) hl
    rw [hf]
    refine zp (zk 57) cfn57 rfl (n := 26) rfl ?_
    simp only [bW, if_true, Nat.reduceEqDiff, if_false, zi]
    repeat' first | (intro hb; first | cases hb | skip) | ((first | apply z6 | apply zc); (· rfl); (· simp (disch := assumption) only [go_sem, Nat.reduceEqDiff, Nat.reduceAdd, bP, zd, Nat.reduceLeDiff, Nat.reduceLT, Nat.reduceMul, List.length_append, decide_eq_true_eq, z7, z0, Int.reduceToNat, Int.reduceLE, Int.reduceLT, Int.reduceBNe, Int.reduceBEq, ha, hb', hcast, hd]; rfl); (· simp only [go_sem, Nat.reduceLT, Nat.reduceEqDiff]; rfl); (· rfl); first | (apply zb; (· simp only [go_sem, Nat.reduceLT]; rfl); (· simp only [go_sem, Nat.reduceLT]; rfl)) | (apply zf; (· simp only [go_sem, Nat.reduceLT]; rfl))) | ((first | apply z9 | apply za); (· rfl); (· simp only [go_sem, Nat.reduceLT]; rfl)) | (apply z8; (· simp only [go_sem, Nat.reduceEqDiff])) | (apply z5; (· simp only [go_sem, Nat.reduceEqDiff])) | (apply ze; (· kernel_rfl); (· kernel_rfl)) | (simp only [bW, if_true, Nat.reduceEqDiff, if_false])
    all_goals try simp only [go_sem, Nat.reduceEqDiff, bP, Nat.reduceAdd, Nat.reduceLeDiff, List.length_map, Tryd.f57]
    all_goals first | done | rfl | (simp_all []; done) | trace_state


end Go.VS
namespace Go.VS
open Go Go.Proofs
set_option maxHeartbeats 0
set_option linter.unusedSimpArgs false

noncomputable def lp18_7 : Code := zB [1, 1, 1, 0, 1, 0, 0] (zo Tryd.f18)
theorem lk18_7 : cfg.keep 18 (zD lp18_7) = [2, 3, 24, 25, 26] := by kernel_rfl
noncomputable def lp18_13 : Code := zB [1, 1, 1, 1, 0, 1, 0, 0] (zo Tryd.f18)
theorem lk18_13 : cfg.keep 18 (zD lp18_13) = [2, 3, 41] := by kernel_rfl
noncomputable def lp18_17 : Code := zB [1, 1, 1, 1, 0, 1, 0, 0, 1, 1, 0, 0, 1, 1, 1, 0, 0] (zo Tryd.f18)
theorem lk18_17 : cfg.keep 18 (zD lp18_17) = [2, 3, 9, 41, 47, 48, 49] := by kernel_rfl

def axF (f : F4) (ax : Int) : Ratio := if ax = 0 then ⟨f.xn, f.xd⟩ else ⟨f.yn, f.yd⟩
def factorAt (fs : List F4) (ax node : Int) : Ratio := if node = 0 then one1 else match fs[(node - 1).toNat]? with | some f => axF f ax | none => one1
def f4OK (f : F4) : Bool := ratioOK ⟨f.xn, f.xd⟩ && ratioOK ⟨f.yn, f.yd⟩
/-- What an edge asks of factors. -/
def edgeFine (fs : List F4) (ax : Int) (e : Edge) : Bool := decide ((factorAt fs ax e.src).n * e.q.d * (factorAt fs ax e.dst).d ≤ e.q.n * (factorAt fs ax e.dst).n * (factorAt fs ax e.src).d)
def factorsFine (p : Paper) (fs : List F4) (ax : Int) : Bool := (zI p ax).all (edgeFine fs ax)
def checkFF (p : Paper) (fs : List F4) : Int := if zt p then (if (fs.length : Int) = p.sheets ∧ fs.all f4OK = true then (if factorsFine p fs 0 && factorsFine p fs 1 then 0 else 31) else 1) else 30
theorem factor_ok {fs : List F4} {ax node : Int} (h : fs.all f4OK = true) : ratioOK (factorAt fs ax node) = true := by
  unfold factorAt
  split
  · rfl
  · split
    · rename_i f hf
      have := List.all_eq_true.1 h f (List.mem_of_getElem? hf)
      simp only [f4OK, Bool.and_eq_true] at this
      unfold axF
      split
      · exact this.1
      · exact this.2
    · rfl
theorem t66'' (n d : Int) : (lim cfg).pure 66 [.agg [I n, I d]] = some (B (ratioOK ⟨n, d⟩)) := t66 n d

theorem t67_0 (fs : List F4) (nf : Bool) (sf : Nat) (node : Int) (hnf : nf = true → fs = []) (hsf : nf = false → sf = 4) (h0 : 0 ≤ node) (h1 : node ≤ fs.length) (hl : fs.length ≤ 1000) : (lim cfg).pure 67 [I node, .ptr (.sl nf (fs.map encF) sf none), .ptr (I 0)] = some (encR (factorAt fs 0 node)) := by
  by_cases hz : node = 0
  · have hb : (node == 0) = true := by simp [hz]
    rw [show factorAt fs 0 node = one1 by simp [factorAt, hz]]
    refine zp (zk 67) cfn67 rfl (n := 15) rfl ?_
    simp only [bW, if_true, Nat.reduceEqDiff, if_false, zi]
    repeat' first | (intro hb; first | cases hb | skip) | ((first | apply z6 | apply zc); (· rfl); (· simp (disch := assumption) only [go_sem, Nat.reduceEqDiff, Nat.reduceAdd, bP, zd, Nat.reduceLeDiff, Nat.reduceLT, Nat.reduceMul, List.length_append, decide_eq_true_eq, z7, z0, Int.reduceToNat, Int.reduceLE, Int.reduceLT, Int.reduceBNe, Int.reduceBEq, hb, cfg_glob0]; rfl); (· simp only [go_sem, Nat.reduceLT, Nat.reduceEqDiff]; rfl); (· rfl); first | (apply zb; (· simp only [go_sem, Nat.reduceLT]; rfl); (· simp only [go_sem, Nat.reduceLT]; rfl)) | (apply zf; (· simp only [go_sem, Nat.reduceLT]; rfl))) | ((first | apply z9 | apply za); (· rfl); (· simp only [go_sem, Nat.reduceLT]; rfl)) | (apply z8; (· simp only [go_sem, Nat.reduceEqDiff])) | (apply z5; (· simp only [go_sem, Nat.reduceEqDiff])) | (apply ze; (· kernel_rfl); (· kernel_rfl)) | (simp only [bW, if_true, Nat.reduceEqDiff, if_false])
    all_goals try simp only [go_sem, Nat.reduceEqDiff, bP, Nat.reduceAdd, Nat.reduceLeDiff, List.length_map, Tryd.f67]
    all_goals first | done | rfl | (simp_all []; done) | trace_state
  · have hb : (node == 0) = false := by simp [hz]
    obtain ⟨N, hN⟩ := Int.eq_ofNat_of_zero_le (show 0 ≤ node - 1 by omega)
    have hw : IntKind.i64.wrap (node - 1) = (N : Int) := by rw [wrap_i64 (by omega) (by omega), hN]
    have hlt : N < fs.length := by omega
    have hnf' : nf = false := by
      cases h : nf with
      | false => rfl
      | true => rw [hnf h] at hlt; cases hlt
    have hs1 := hsf hnf'
    clear hsf
    subst hs1
    obtain ⟨f, hf⟩ : ∃ f, fs[N]? = some f := ⟨_, List.getElem?_eq_getElem hlt⟩
    have hx : (fs.map encF)[N]? = some (.agg [I f.xn, I f.xd, I f.yn, I f.yd]) := by rw [List.getElem?_map, hf]; rfl
    have e : factorAt fs 0 node = axF f 0 := by
      unfold factorAt
      rw [if_neg hz, show (node - 1).toNat = N by rw [hN]; rfl, hf]
    rw [e]
    refine zp (zk 67) cfn67 rfl (n := 15) rfl ?_
    simp only [bW, if_true, Nat.reduceEqDiff, if_false, zi]
    repeat' first | (intro hb; first | cases hb | skip) | ((first | apply z6 | apply zc); (· rfl); (· simp (disch := assumption) only [go_sem, Nat.reduceEqDiff, Nat.reduceAdd, bP, zd, Nat.reduceLeDiff, Nat.reduceLT, Nat.reduceMul, List.length_append, decide_eq_true_eq, z7, z0, Int.reduceToNat, Int.reduceLE, Int.reduceLT, Int.reduceBNe, Int.reduceBEq, hb, hw, hx, hnf', show (0 : Nat) < 2 from by decide, show (1 : Nat) < 2 from by decide]; rfl); (· simp only [go_sem, Nat.reduceLT, Nat.reduceEqDiff]; rfl); (· rfl); first | (apply zb; (· simp only [go_sem, Nat.reduceLT]; rfl); (· simp only [go_sem, Nat.reduceLT]; rfl)) | (apply zf; (· simp only [go_sem, Nat.reduceLT]; rfl))) | ((first | apply z9 | apply za); (· rfl); (· simp only [go_sem, Nat.reduceLT]; rfl)) | (apply z8; (· simp only [go_sem, Nat.reduceEqDiff])) | (apply z5; (· simp only [go_sem, Nat.reduceEqDiff])) | (apply ze; (· kernel_rfl); (· kernel_rfl)) | (simp only [bW, if_true, Nat.reduceEqDiff, if_false])
    all_goals try simp only [go_sem, Nat.reduceEqDiff, bP, Nat.reduceAdd, Nat.reduceLeDiff, List.length_map, Tryd.f67, axF]
    all_goals first | done | rfl | (simp_all []; done) | trace_state

theorem t67_1 (fs : List F4) (nf : Bool) (sf : Nat) (node : Int) (hnf : nf = true → fs = []) (hsf : nf = false → sf = 4) (h0 : 0 ≤ node) (h1 : node ≤ fs.length) (hl : fs.length ≤ 1000) : (lim cfg).pure 67 [I node, .ptr (.sl nf (fs.map encF) sf none), .ptr (I 1)] = some (encR (factorAt fs 1 node)) := by
  by_cases hz : node = 0
  · have hb : (node == 0) = true := by simp [hz]
    rw [show factorAt fs 1 node = one1 by simp [factorAt, hz]]
    refine zp (zk 67) cfn67 rfl (n := 15) rfl ?_
    simp only [bW, if_true, Nat.reduceEqDiff, if_false, zi]
    repeat' first | (intro hb; first | cases hb | skip) | ((first | apply z6 | apply zc); (· rfl); (· simp (disch := assumption) only [go_sem, Nat.reduceEqDiff, Nat.reduceAdd, bP, zd, Nat.reduceLeDiff, Nat.reduceLT, Nat.reduceMul, List.length_append, decide_eq_true_eq, z7, z0, Int.reduceToNat, Int.reduceLE, Int.reduceLT, Int.reduceBNe, Int.reduceBEq, hb, cfg_glob0]; rfl); (· simp only [go_sem, Nat.reduceLT, Nat.reduceEqDiff]; rfl); (· rfl); first | (apply zb; (· simp only [go_sem, Nat.reduceLT]; rfl); (· simp only [go_sem, Nat.reduceLT]; rfl)) | (apply zf; (· simp only [go_sem, Nat.reduceLT]; rfl))) | ((first | apply z9 | apply za); (· rfl); (· simp only [go_sem, Nat.reduceLT]; rfl)) | (apply z8; (· simp only [go_sem, Nat.reduceEqDiff])) | (apply z5; (· simp only [go_sem, Nat.reduceEqDiff])) | (apply ze; (· kernel_rfl); (· kernel_rfl)) | (simp only [bW, if_true, Nat.reduceEqDiff, if_false])
    all_goals try simp only [go_sem, Nat.reduceEqDiff, bP, Nat.reduceAdd, Nat.reduceLeDiff, List.length_map, Tryd.f67]
    all_goals first | done | rfl | (simp_all []; done) | trace_state
  · have hb : (node == 0) = false := by simp [hz]
    obtain ⟨N, hN⟩ := Int.eq_ofNat_of_zero_le (show 0 ≤ node - 1 by omega)
    have hw : IntKind.i64.wrap (node - 1) = (N : Int) := by rw [wrap_i64 (by omega) (by omega), hN]
    have hlt : N < fs.length := by omega
    have hnf' : nf = false := by
      cases h : nf with
      | false => rfl
      | true => rw [hnf h] at hlt; cases hlt
    have hs1 := hsf hnf'
    clear hsf
    subst hs1
    obtain ⟨f, hf⟩ : ∃ f, fs[N]? = some f := ⟨_, List.getElem?_eq_getElem hlt⟩
    have hx : (fs.map encF)[N]? = some (.agg [I f.xn, I f.xd, I f.yn, I f.yd]) := by rw [List.getElem?_map, hf]; rfl
    have e : factorAt fs 1 node = axF f 1 := by
      unfold factorAt
      rw [if_neg hz, show (node - 1).toNat = N by rw [hN]; rfl, hf]
    rw [e]
    refine zp (zk 67) cfn67 rfl (n := 15) rfl ?_
    simp only [bW, if_true, Nat.reduceEqDiff, if_false, zi]
    repeat' first | (intro hb; first | cases hb | skip) | ((first | apply z6 | apply zc); (· rfl); (· simp (disch := assumption) only [go_sem, Nat.reduceEqDiff, Nat.reduceAdd, bP, zd, Nat.reduceLeDiff, Nat.reduceLT, Nat.reduceMul, List.length_append, decide_eq_true_eq, z7, z0, Int.reduceToNat, Int.reduceLE, Int.reduceLT, Int.reduceBNe, Int.reduceBEq, hb, hw, hx, hnf', show (0 : Nat) < 2 from by decide, show (1 : Nat) < 2 from by decide]; rfl); (· simp only [go_sem, Nat.reduceLT, Nat.reduceEqDiff]; rfl); (· rfl); first | (apply zb; (· simp only [go_sem, Nat.reduceLT]; rfl); (· simp only [go_sem, Nat.reduceLT]; rfl)) | (apply zf; (· simp only [go_sem, Nat.reduceLT]; rfl))) | ((first | apply z9 | apply za); (· rfl); (· simp only [go_sem, Nat.reduceLT]; rfl)) | (apply z8; (· simp only [go_sem, Nat.reduceEqDiff])) | (apply z5; (· simp only [go_sem, Nat.reduceEqDiff])) | (apply ze; (· kernel_rfl); (· kernel_rfl)) | (simp only [bW, if_true, Nat.reduceEqDiff, if_false])
    all_goals try simp only [go_sem, Nat.reduceEqDiff, bP, Nat.reduceAdd, Nat.reduceLeDiff, List.length_map, Tryd.f67, axF]
    all_goals first | done | rfl | (simp_all []; done) | trace_state

theorem L18_7 {F : Exit → St → Option D} (p : Paper) (fs : List F4) (nf : Bool) (sf : Nat) (k : List Kt) (x : D) (hnf : nf = true → fs = []) (hsf : nf = false → sf = 4) (hl : fs.length ≤ 9223372036854775807) (hk : ∀ st, get st.tmps 4 = I 1 → zO cfg (lim cfg) 18 F k .ret st = some (I 1)) : ∀ (rest : List F4) (i : Nat), fs.drop i = rest → i ≤ fs.length →
    (rest.all f4OK = true → zO cfg (lim cfg) 18 F k (.exit 0) ⟨83, [(27, B false), (2, .lref 0 0 3 0), (3, .lref 1 0 1 0), (24, .sl nf (fs.map encF) sf none), (25, I fs.length), (26, I (fs.length : Nat))], [(0, ⟨[zh p], 3, false⟩), (1, ⟨[.sl nf (fs.map encF) sf none], 1, false⟩)], 2, 0⟩ = some x) →
    (rest.all f4OK = false → x = I 1) →
    EvL cfg (lim cfg) 18 F lp18_7 k ⟨83, [(2, .lref 0 0 3 0), (3, .lref 1 0 1 0), (24, .sl nf (fs.map encF) sf none), (25, I fs.length), (26, I (i : Nat))], [(0, ⟨[zh p], 3, false⟩), (1, ⟨[.sl nf (fs.map encF) sf none], 1, false⟩)], 2, 0⟩ = some x := by
  intro rest
  induction rest with
  | nil =>
    intro i hd hi h h'
    have hi' : i = fs.length := by
      have := List.drop_eq_nil_iff.1 hd
      omega
    subst hi'
    refine zv ?_
    try dsimp only [lp18_7, zB, zo, Tryd.f18]
    simp only [bW, if_true, Nat.reduceEqDiff, if_false]
    repeat' first | (intro hb; first | cases hb | skip) | ((first | apply z6 | apply zc); (· rfl); (· simp (disch := assumption) only [go_sem, Nat.reduceEqDiff, Nat.reduceAdd, bP, zd, Nat.reduceLeDiff, Nat.reduceLT, Nat.reduceMul, List.length_append, decide_eq_true_eq, z7, z0, Int.reduceToNat, Int.reduceLE, Int.reduceLT, Int.reduceBNe, Int.reduceBEq, Int.lt_irrefl]; rfl); (· simp only [go_sem, Nat.reduceLT, Nat.reduceEqDiff]; rfl); (· rfl); first | (apply zb; (· simp only [go_sem, Nat.reduceLT]; rfl); (· simp only [go_sem, Nat.reduceLT]; rfl)) | (apply zf; (· simp only [go_sem, Nat.reduceLT]; rfl))) | ((first | apply z9 | apply za); (· rfl); (· simp only [go_sem, Nat.reduceLT]; rfl)) | (apply z8; (· simp only [go_sem, Nat.reduceEqDiff])) | (apply z5; (· simp only [go_sem, Nat.reduceEqDiff])) | (apply ze; (· kernel_rfl); (· kernel_rfl)) | (simp only [bW, if_true, Nat.reduceEqDiff, if_false])
    exact h rfl
  | cons f rest ih =>
    intro i hd hi h h'
    have hlt : i < fs.length := by
      rcases Nat.lt_or_ge i fs.length with h | h
      · exact h
      · rw [List.drop_eq_nil_of_le h] at hd; cases hd
    have hf : fs[i]? = some f := by rw [← List.head?_drop, hd]; rfl
    have hx : (fs.map encF)[i]? = some (.agg [I f.xn, I f.xd, I f.yn, I f.yd]) := by rw [List.getElem?_map, hf]; rfl
    have hnf' : nf = false := by
      cases h : nf with
      | false => rfl
      | true => rw [hnf h] at hlt; cases hlt
    have hs1 := hsf hnf'
    clear hsf
    subst hs1
    have hlt' : (i : Int) < (fs.length : Int) := by omega
    have hw3 : IntKind.i64.wrap ((i : Int) + 1) = ((i + 1 : Nat) : Int) := by rw [wrap_i64 (by omega) (by omega)]; omega
    refine zv ?_
    try dsimp only [lp18_7, zB, zo, Tryd.f18]
    simp only [bW, if_true, Nat.reduceEqDiff, if_false]
    repeat' first | (intro hb; first | cases hb | skip) | ((first | apply z6 | apply zc); (· rfl); (· simp (disch := assumption) only [go_sem, Nat.reduceEqDiff, Nat.reduceAdd, bP, zd, Nat.reduceLeDiff, Nat.reduceLT, Nat.reduceMul, List.length_append, decide_eq_true_eq, z7, z0, Int.reduceToNat, Int.reduceLE, Int.reduceLT, Int.reduceBNe, Int.reduceBEq, hx, hnf', hlt', hw3, t66'', show (0 : Nat) < 2 from by decide, show (1 : Nat) < 2 from by decide]; rfl); (· simp only [go_sem, Nat.reduceLT, Nat.reduceEqDiff]; rfl); (· rfl); first | (apply zb; (· simp only [go_sem, Nat.reduceLT]; rfl); (· simp only [go_sem, Nat.reduceLT]; rfl)) | (apply zf; (· simp only [go_sem, Nat.reduceLT]; rfl))) | ((first | apply z9 | apply za); (· rfl); (· simp only [go_sem, Nat.reduceLT]; rfl)) | (apply z8; (· simp only [go_sem, Nat.reduceEqDiff])) | (apply z5; (· simp only [go_sem, Nat.reduceEqDiff])) | (apply ze; (· kernel_rfl); (· kernel_rfl)) | (simp only [bW, if_true, Nat.reduceEqDiff, if_false])
    all_goals first
    | (have hx0 := h' (by simp_all [f4OK])
       rw [hx0]; exact hk _ rfl)
    | exact zM (st1 := ⟨83, [(2, .lref 0 0 3 0), (3, .lref 1 0 1 0), (24, .sl nf (fs.map encF) 4 none), (25, I fs.length), (26, I (i + 1 : Nat))], [(0, ⟨[zh p], 3, false⟩), (1, ⟨[.sl nf (fs.map encF) 4 none], 1, false⟩)], 2, 0⟩) lk18_7 (by kernel_rfl) (ih (i + 1) (by rw [← List.drop_drop, hd]; rfl) hlt (fun ha => h (by simp_all [f4OK])) (fun ha => h' (by simp_all [f4OK])))
theorem edges_sheets {p : Paper} (hok : zt p = true) (ax : Int) : ∀ e ∈ zI p ax, 0 ≤ e.src ∧ e.src ≤ p.sheets ∧ 0 ≤ e.dst ∧ e.dst ≤ p.sheets := by
  obtain ⟨o1, o2, o3, o4, o5, o6⟩ := zJ hok
  intro e he
  simp only [zI, List.mem_append, List.mem_flatMap, List.mem_range'_1] at he
  rcases he with (⟨i, hi, he⟩ | he) | he
  · simp [sheetE] at he
    rcases he with rfl | rfl <;> simp only [] <;> omega
  · obtain ⟨m, k, h1, _, h2⟩ := marksE_mem ax he
    have := o5 m h1
    simp [markOK, zA] at this
    simp [markE] at h2
    rcases h2 with rfl | rfl <;> simp only [] <;> omega
  · obtain ⟨m, k, h1, _, h2⟩ := joinsE_mem ax he
    have := o6 m h1
    simp [joinOK, zA] at this
    simp [joinE] at h2
    rcases h2 with rfl | rfl <;> simp only [] <;> omega
theorem cmp_gt (a b : Int) : decide (cmpI a b > 0) = decide (b < a) := by
  unfold cmpI
  split
  · rename_i h; simp [h]
  · split <;> rename_i h <;> simp <;> omega

theorem L18_17_0 {F : Exit → St → Option D} (p : Paper) (fs : List F4) (nf : Bool) (sf : Nat) (es : List Edge) (k : List Kt) (x : D) (hnf : nf = true → fs = []) (hsf : nf = false → sf = 4) (hfs : fs.all f4OK = true) (hl : fs.length ≤ 4) (hes : ∀ e ∈ es, edgeB e ∧ e.src ≤ fs.length ∧ e.dst ≤ fs.length) (hlen : es.length ≤ 1000) (hk : ∀ st, get st.tmps 4 = I 31 → zO cfg (lim cfg) 18 F k .ret st = some (I 31)) : ∀ (rest : List Edge) (i : Nat), es.drop i = rest → i ≤ es.length →
    (rest.all (edgeFine fs 0) = true → zO cfg (lim cfg) 18 F k (.exit 4) ⟨83, [(50, B false), (2, .lref 0 0 3 0), (3, .lref 1 0 1 0), (9, .fn (.func 67) [] [.lref 1 0 1 0, .lref 2 0 1 0]), (41, I 0), (47, .sl false (es.map encE) 7 none), (48, I es.length), (49, I (es.length : Nat))], [(0, ⟨[zh p], 3, false⟩), (1, ⟨[.sl nf (fs.map encF) sf none], 1, false⟩), (2, ⟨[I 0], 1, false⟩)], 3, 0⟩ = some x) →
    (rest.all (edgeFine fs 0) = false → x = I 31) →
    EvL cfg (lim cfg) 18 F lp18_17 k ⟨83, [(2, .lref 0 0 3 0), (3, .lref 1 0 1 0), (9, .fn (.func 67) [] [.lref 1 0 1 0, .lref 2 0 1 0]), (41, I 0), (47, .sl false (es.map encE) 7 none), (48, I es.length), (49, I (i : Nat))], [(0, ⟨[zh p], 3, false⟩), (1, ⟨[.sl nf (fs.map encF) sf none], 1, false⟩), (2, ⟨[I 0], 1, false⟩)], 3, 0⟩ = some x := by
  intro rest
  induction rest with
  | nil =>
    intro i hd hi h h'
    have hi' : i = es.length := by
      have := List.drop_eq_nil_iff.1 hd
      omega
    subst hi'
    refine zv ?_
    try dsimp only [lp18_17, zB, zo, Tryd.f18]
    simp only [bW, if_true, Nat.reduceEqDiff, if_false]
    repeat' first | (intro hb; first | cases hb | skip) | ((first | apply z6 | apply zc); (· rfl); (· simp (disch := assumption) only [go_sem, Nat.reduceEqDiff, Nat.reduceAdd, bP, zd, Nat.reduceLeDiff, Nat.reduceLT, Nat.reduceMul, List.length_append, decide_eq_true_eq, z7, z0, Int.reduceToNat, Int.reduceLE, Int.reduceLT, Int.reduceBNe, Int.reduceBEq, Int.lt_irrefl]; rfl); (· simp only [go_sem, Nat.reduceLT, Nat.reduceEqDiff]; rfl); (· rfl); first | (apply zb; (· simp only [go_sem, Nat.reduceLT]; rfl); (· simp only [go_sem, Nat.reduceLT]; rfl)) | (apply zf; (· simp only [go_sem, Nat.reduceLT]; rfl))) | ((first | apply z9 | apply za); (· rfl); (· simp only [go_sem, Nat.reduceLT]; rfl)) | (apply z8; (· simp only [go_sem, Nat.reduceEqDiff])) | (apply z5; (· simp only [go_sem, Nat.reduceEqDiff])) | (apply ze; (· kernel_rfl); (· kernel_rfl)) | (simp only [bW, if_true, Nat.reduceEqDiff, if_false])
    exact h rfl
  | cons e rest ih =>
    intro i hd hi h h'
    have hlt : i < es.length := by
      rcases Nat.lt_or_ge i es.length with h | h
      · exact h
      · rw [List.drop_eq_nil_of_le h] at hd; cases hd
    have hm : es[i]? = some e := by rw [← List.head?_drop, hd]; rfl
    obtain ⟨⟨e1, e2, e3, e4, e5, e6, e7, e8⟩, e9, e10⟩ := hes e (List.mem_of_getElem? hm)
    have hx : (es.map encE)[i]? = some (.agg [I e.src, I e.dst, I e.q.n, I e.q.d, B e.why.join, I e.why.at_, B e.why.back]) := by rw [List.getElem?_map, hm]; rfl
    have hlt' : (i : Int) < (es.length : Int) := by omega
    have hw3 : IntKind.i64.wrap ((i : Int) + 1) = ((i + 1 : Nat) : Int) := by rw [wrap_i64 (by omega) (by omega)]; omega
    have h67a := t67_0 fs nf sf e.src hnf hsf e1 e9 (by omega)
    have h67b := t67_0 fs nf sf e.dst hnf hsf e3 e10 (by omega)
    have hfa := factor_ok (ax := 0) (node := e.src) hfs
    have hfb := factor_ok (ax := 0) (node := e.dst) hfs
    have hgd : edgeFine fs 0 e = decide ((factorAt fs 0 e.src).n * e.q.d * (factorAt fs 0 e.dst).d ≤ e.q.n * (factorAt fs 0 e.dst).n * (factorAt fs 0 e.src).d) := rfl
    generalize factorAt fs 0 e.src = fa at *
    generalize factorAt fs 0 e.dst = fb at *
    simp only [ratioOK, Bool.and_eq_true, decide_eq_true_eq] at hfa hfb
    obtain ⟨⟨⟨a1, a2⟩, a3⟩, a4⟩ := hfa
    obtain ⟨⟨⟨b1, b2⟩, b3⟩, b4⟩ := hfb
    have m1 := Int.mul_le_mul a2 e8 (by omega) (by omega)
    have m1' := Int.mul_le_mul a1 e7 (by omega) (by omega)
    have m2 := Int.mul_le_mul e6 b2 (by omega) (by omega)
    have m2' := Int.mul_le_mul e5 b1 (by omega) (by omega)
    have hwa : IntKind.i64.wrap (fa.n * e.q.d) = fa.n * e.q.d := wrap_i64 (by omega) (by omega)
    have hwb : IntKind.i64.wrap (e.q.n * fb.n) = e.q.n * fb.n := wrap_i64 (by omega) (by omega)
    have h69a := t69 (fa.n * e.q.d) fb.d (by omega) (by omega) (by omega) (by omega)
    have h69b := t69 (e.q.n * fb.n) fa.d (by omega) (by omega) (by omega) (by omega)
    have h70 := t70 (hi64 (fa.n * e.q.d) fb.d) (lo64 (fa.n * e.q.d) fb.d) (hi64 (e.q.n * fb.n) fa.d) (lo64 (e.q.n * fb.n) fa.d)
    rw [cmp_of (Int.mul_nonneg (by omega) (by omega)) (Int.mul_nonneg (by omega) (by omega))] at h70
    have hg : decide (cmpI (fa.n * e.q.d * fb.d) (e.q.n * fb.n * fa.d) > 0) = !(edgeFine fs 0 e) := by
      rw [cmp_gt, hgd]
      by_cases hc : fa.n * e.q.d * fb.d ≤ e.q.n * fb.n * fa.d
      · have : ¬ (e.q.n * fb.n * fa.d < fa.n * e.q.d * fb.d) := by omega
        simp [hc, this]
      · have : e.q.n * fb.n * fa.d < fa.n * e.q.d * fb.d := by omega
        simp [hc, this]
    refine zv ?_
    try dsimp only [lp18_17, zB, zo, Tryd.f18]
    simp only [bW, if_true, Nat.reduceEqDiff, if_false]
    repeat' first | (intro hb; first | cases hb | skip) | ((first | apply z6 | apply zc); (· rfl); (· simp (disch := assumption) only [go_sem, Nat.reduceEqDiff, Nat.reduceAdd, bP, zd, Nat.reduceLeDiff, Nat.reduceLT, Nat.reduceMul, List.length_append, decide_eq_true_eq, z7, z0, Int.reduceToNat, Int.reduceLE, Int.reduceLT, Int.reduceBNe, Int.reduceBEq, hx, hlt', hw3, h67a, h67b, h69a, h69b, h70, hg, hwa, hwb, encR]; rfl); (· simp only [go_sem, Nat.reduceLT, Nat.reduceEqDiff]; rfl); (· rfl); first | (apply zb; (· simp only [go_sem, Nat.reduceLT]; rfl); (· simp only [go_sem, Nat.reduceLT]; rfl)) | (apply zf; (· simp only [go_sem, Nat.reduceLT]; rfl))) | ((first | apply z9 | apply za); (· rfl); (· simp only [go_sem, Nat.reduceLT]; rfl)) | (apply z8; (· simp only [go_sem, Nat.reduceEqDiff])) | (apply z5; (· simp only [go_sem, Nat.reduceEqDiff])) | (apply ze; (· kernel_rfl); (· kernel_rfl)) | (simp only [bW, if_true, Nat.reduceEqDiff, if_false])
    · clear hgd hg
      simp only [Bool.not_eq_true'] at hb
      rw [h' (by simp [hb])]; exact hk _ rfl
    · clear hgd hg
      simp only [Bool.not_eq_false'] at hb
      simp only [List.all_cons, hb, Bool.true_and] at h h'
      exact zM (st1 := ⟨83, [(2, .lref 0 0 3 0), (3, .lref 1 0 1 0), (9, .fn (.func 67) [] [.lref 1 0 1 0, .lref 2 0 1 0]), (41, I 0), (47, .sl false (es.map encE) 7 none), (48, I es.length), (49, I (i + 1 : Nat))], [(0, ⟨[zh p], 3, false⟩), (1, ⟨[.sl nf (fs.map encF) sf none], 1, false⟩), (2, ⟨[I 0], 1, false⟩)], 3, 0⟩) lk18_17 (by kernel_rfl) (ih (i + 1) (by rw [← List.drop_drop, hd]; rfl) hlt h h')

theorem L18_17_1 {F : Exit → St → Option D} (p : Paper) (fs : List F4) (nf : Bool) (sf : Nat) (es : List Edge) (k : List Kt) (x : D) (hnf : nf = true → fs = []) (hsf : nf = false → sf = 4) (hfs : fs.all f4OK = true) (hl : fs.length ≤ 4) (hes : ∀ e ∈ es, edgeB e ∧ e.src ≤ fs.length ∧ e.dst ≤ fs.length) (hlen : es.length ≤ 1000) (hk : ∀ st, get st.tmps 4 = I 31 → zO cfg (lim cfg) 18 F k .ret st = some (I 31)) : ∀ (rest : List Edge) (i : Nat), es.drop i = rest → i ≤ es.length →
    (rest.all (edgeFine fs 1) = true → zO cfg (lim cfg) 18 F k (.exit 4) ⟨83, [(50, B false), (2, .lref 0 0 3 0), (3, .lref 1 0 1 0), (9, .fn (.func 67) [] [.lref 1 0 1 0, .lref 2 0 1 0]), (41, I 1), (47, .sl false (es.map encE) 7 none), (48, I es.length), (49, I (es.length : Nat))], [(0, ⟨[zh p], 3, false⟩), (1, ⟨[.sl nf (fs.map encF) sf none], 1, false⟩), (2, ⟨[I 1], 1, false⟩)], 3, 0⟩ = some x) →
    (rest.all (edgeFine fs 1) = false → x = I 31) →
    EvL cfg (lim cfg) 18 F lp18_17 k ⟨83, [(2, .lref 0 0 3 0), (3, .lref 1 0 1 0), (9, .fn (.func 67) [] [.lref 1 0 1 0, .lref 2 0 1 0]), (41, I 1), (47, .sl false (es.map encE) 7 none), (48, I es.length), (49, I (i : Nat))], [(0, ⟨[zh p], 3, false⟩), (1, ⟨[.sl nf (fs.map encF) sf none], 1, false⟩), (2, ⟨[I 1], 1, false⟩)], 3, 0⟩ = some x := by
  intro rest
  induction rest with
  | nil =>
    intro i hd hi h h'
    have hi' : i = es.length := by
      have := List.drop_eq_nil_iff.1 hd
      omega
    subst hi'
    refine zv ?_
    try dsimp only [lp18_17, zB, zo, Tryd.f18]
    simp only [bW, if_true, Nat.reduceEqDiff, if_false]
    repeat' first | (intro hb; first | cases hb | skip) | ((first | apply z6 | apply zc); (· rfl); (· simp (disch := assumption) only [go_sem, Nat.reduceEqDiff, Nat.reduceAdd, bP, zd, Nat.reduceLeDiff, Nat.reduceLT, Nat.reduceMul, List.length_append, decide_eq_true_eq, z7, z0, Int.reduceToNat, Int.reduceLE, Int.reduceLT, Int.reduceBNe, Int.reduceBEq, Int.lt_irrefl]; rfl); (· simp only [go_sem, Nat.reduceLT, Nat.reduceEqDiff]; rfl); (· rfl); first | (apply zb; (· simp only [go_sem, Nat.reduceLT]; rfl); (· simp only [go_sem, Nat.reduceLT]; rfl)) | (apply zf; (· simp only [go_sem, Nat.reduceLT]; rfl))) | ((first | apply z9 | apply za); (· rfl); (· simp only [go_sem, Nat.reduceLT]; rfl)) | (apply z8; (· simp only [go_sem, Nat.reduceEqDiff])) | (apply z5; (· simp only [go_sem, Nat.reduceEqDiff])) | (apply ze; (· kernel_rfl); (· kernel_rfl)) | (simp only [bW, if_true, Nat.reduceEqDiff, if_false])
    exact h rfl
  | cons e rest ih =>
    intro i hd hi h h'
    have hlt : i < es.length := by
      rcases Nat.lt_or_ge i es.length with h | h
      · exact h
      · rw [List.drop_eq_nil_of_le h] at hd; cases hd
    have hm : es[i]? = some e := by rw [← List.head?_drop, hd]; rfl
    obtain ⟨⟨e1, e2, e3, e4, e5, e6, e7, e8⟩, e9, e10⟩ := hes e (List.mem_of_getElem? hm)
    have hx : (es.map encE)[i]? = some (.agg [I e.src, I e.dst, I e.q.n, I e.q.d, B e.why.join, I e.why.at_, B e.why.back]) := by rw [List.getElem?_map, hm]; rfl
    have hlt' : (i : Int) < (es.length : Int) := by omega
    have hw3 : IntKind.i64.wrap ((i : Int) + 1) = ((i + 1 : Nat) : Int) := by rw [wrap_i64 (by omega) (by omega)]; omega
    have h67a := t67_1 fs nf sf e.src hnf hsf e1 e9 (by omega)
    have h67b := t67_1 fs nf sf e.dst hnf hsf e3 e10 (by omega)
    have hfa := factor_ok (ax := 1) (node := e.src) hfs
    have hfb := factor_ok (ax := 1) (node := e.dst) hfs
    have hgd : edgeFine fs 1 e = decide ((factorAt fs 1 e.src).n * e.q.d * (factorAt fs 1 e.dst).d ≤ e.q.n * (factorAt fs 1 e.dst).n * (factorAt fs 1 e.src).d) := rfl
    generalize factorAt fs 1 e.src = fa at *
    generalize factorAt fs 1 e.dst = fb at *
    simp only [ratioOK, Bool.and_eq_true, decide_eq_true_eq] at hfa hfb
    obtain ⟨⟨⟨a1, a2⟩, a3⟩, a4⟩ := hfa
    obtain ⟨⟨⟨b1, b2⟩, b3⟩, b4⟩ := hfb
    have m1 := Int.mul_le_mul a2 e8 (by omega) (by omega)
    have m1' := Int.mul_le_mul a1 e7 (by omega) (by omega)
    have m2 := Int.mul_le_mul e6 b2 (by omega) (by omega)
    have m2' := Int.mul_le_mul e5 b1 (by omega) (by omega)
    have hwa : IntKind.i64.wrap (fa.n * e.q.d) = fa.n * e.q.d := wrap_i64 (by omega) (by omega)
    have hwb : IntKind.i64.wrap (e.q.n * fb.n) = e.q.n * fb.n := wrap_i64 (by omega) (by omega)
    have h69a := t69 (fa.n * e.q.d) fb.d (by omega) (by omega) (by omega) (by omega)
    have h69b := t69 (e.q.n * fb.n) fa.d (by omega) (by omega) (by omega) (by omega)
    have h70 := t70 (hi64 (fa.n * e.q.d) fb.d) (lo64 (fa.n * e.q.d) fb.d) (hi64 (e.q.n * fb.n) fa.d) (lo64 (e.q.n * fb.n) fa.d)
    rw [cmp_of (Int.mul_nonneg (by omega) (by omega)) (Int.mul_nonneg (by omega) (by omega))] at h70
    have hg : decide (cmpI (fa.n * e.q.d * fb.d) (e.q.n * fb.n * fa.d) > 0) = !(edgeFine fs 1 e) := by
      rw [cmp_gt, hgd]
      by_cases hc : fa.n * e.q.d * fb.d ≤ e.q.n * fb.n * fa.d
      · have : ¬ (e.q.n * fb.n * fa.d < fa.n * e.q.d * fb.d) := by omega
        simp [hc, this]
      · have : e.q.n * fb.n * fa.d < fa.n * e.q.d * fb.d := by omega
        simp [hc, this]
    refine zv ?_
    try dsimp only [lp18_17, zB, zo, Tryd.f18]
    simp only [bW, if_true, Nat.reduceEqDiff, if_false]
    repeat' first | (intro hb; first | cases hb | skip) | ((first | apply z6 | apply zc); (· rfl); (· simp (disch := assumption) only [go_sem, Nat.reduceEqDiff, Nat.reduceAdd, bP, zd, Nat.reduceLeDiff, Nat.reduceLT, Nat.reduceMul, List.length_append, decide_eq_true_eq, z7, z0, Int.reduceToNat, Int.reduceLE, Int.reduceLT, Int.reduceBNe, Int.reduceBEq, hx, hlt', hw3, h67a, h67b, h69a, h69b, h70, hg, hwa, hwb, encR]; rfl); (· simp only [go_sem, Nat.reduceLT, Nat.reduceEqDiff]; rfl); (· rfl); first | (apply zb; (· simp only [go_sem, Nat.reduceLT]; rfl); (· simp only [go_sem, Nat.reduceLT]; rfl)) | (apply zf; (· simp only [go_sem, Nat.reduceLT]; rfl))) | ((first | apply z9 | apply za); (· rfl); (· simp only [go_sem, Nat.reduceLT]; rfl)) | (apply z8; (· simp only [go_sem, Nat.reduceEqDiff])) | (apply z5; (· simp only [go_sem, Nat.reduceEqDiff])) | (apply ze; (· kernel_rfl); (· kernel_rfl)) | (simp only [bW, if_true, Nat.reduceEqDiff, if_false])
    · clear hgd hg
      simp only [Bool.not_eq_true'] at hb
      rw [h' (by simp [hb])]; exact hk _ rfl
    · clear hgd hg
      simp only [Bool.not_eq_false'] at hb
      simp only [List.all_cons, hb, Bool.true_and] at h h'
      exact zM (st1 := ⟨83, [(2, .lref 0 0 3 0), (3, .lref 1 0 1 0), (9, .fn (.func 67) [] [.lref 1 0 1 0, .lref 2 0 1 0]), (41, I 1), (47, .sl false (es.map encE) 7 none), (48, I es.length), (49, I (i + 1 : Nat))], [(0, ⟨[zh p], 3, false⟩), (1, ⟨[.sl nf (fs.map encF) sf none], 1, false⟩), (2, ⟨[I 1], 1, false⟩)], 3, 0⟩) lk18_17 (by kernel_rfl) (ih (i + 1) (by rw [← List.drop_drop, hd]; rfl) hlt h h')

theorem t18 (p : Paper) (fs : List F4) (nf : Bool) (sf : Nat) (hwf : p.wf) (hnf : nf = true → fs = []) (hsf : nf = false → sf = 4) (hl : fs.length ≤ 9223372036854775807) : (lim cfg).pure 18 [zh p, .sl nf (fs.map encF) sf none] = some (I (checkFF p fs)) := by
  have h15 := t15 p hwf
  have hlf := len_if (f := encF) hnf
  unfold check at h15
  unfold checkFF
  cases hok : zt p with
  | false =>
    rw [hok] at h15
    simp only [Bool.false_eq_true, if_false] at h15 ⊢
    refine zp (zk 18) cfn18 rfl (n := 83) rfl ?_
    simp only [bW, if_true, Nat.reduceEqDiff, if_false, zi]
    repeat' first | (intro hb; first | cases hb | skip) | ((first | apply z6 | apply zc); (· rfl); (· simp (disch := assumption) only [go_sem, Nat.reduceEqDiff, Nat.reduceAdd, bP, zd, Nat.reduceLeDiff, Nat.reduceLT, Nat.reduceMul, List.length_append, decide_eq_true_eq, z7, z0, Int.reduceToNat, Int.reduceLE, Int.reduceLT, Int.reduceBNe, Int.reduceBEq, h15]; rfl); (· simp only [go_sem, Nat.reduceLT, Nat.reduceEqDiff]; rfl); (· rfl); first | (apply zb; (· simp only [go_sem, Nat.reduceLT]; rfl); (· simp only [go_sem, Nat.reduceLT]; rfl)) | (apply zf; (· simp only [go_sem, Nat.reduceLT]; rfl))) | ((first | apply z9 | apply za); (· rfl); (· simp only [go_sem, Nat.reduceLT]; rfl)) | (apply z8; (· simp only [go_sem, Nat.reduceEqDiff])) | (apply z5; (· simp only [go_sem, Nat.reduceEqDiff])) | (apply ze; (· kernel_rfl); (· kernel_rfl)) | (simp only [bW, if_true, Nat.reduceEqDiff, if_false])
    all_goals try simp only [go_sem, Nat.reduceEqDiff, bP, Nat.reduceAdd, Nat.reduceLeDiff, List.length_map, Tryd.f18]
    all_goals first | done | rfl | (simp_all []; done) | trace_state
  | true =>
    rw [hok] at h15
    simp only [if_true] at h15 ⊢
    obtain ⟨o1, o2, _⟩ := zJ hok
    have e1 : IntKind.i64.wrap (0 + 1) = 1 := by decide
    have e2 : IntKind.i64.wrap (1 + 1) = 2 := by decide
    by_cases hlen : (fs.length : Int) = p.sheets
    · have hne : ((fs.length : Int) != p.sheets) = false := by simp [hlen]
      refine zp (zk 18) cfn18 rfl (n := 83) rfl ?_
      generalize hF : finP cfg Tryd.f18 = F
      simp only [bW, if_true, Nat.reduceEqDiff, if_false, zi]
      repeat' first | (intro hb; first | cases hb | skip) | ((first | apply z6 | apply zc); (· rfl); (· simp (disch := assumption) only [go_sem, Nat.reduceEqDiff, Nat.reduceAdd, bP, zd, Nat.reduceLeDiff, Nat.reduceLT, Nat.reduceMul, List.length_append, decide_eq_true_eq, z7, z0, Int.reduceToNat, Int.reduceLE, Int.reduceLT, Int.reduceBNe, Int.reduceBEq, h15, hlf, hne]; rfl); (· simp only [go_sem, Nat.reduceLT, Nat.reduceEqDiff]; rfl); (· rfl); first | (apply zb; (· simp only [go_sem, Nat.reduceLT]; rfl); (· simp only [go_sem, Nat.reduceLT]; rfl)) | (apply zf; (· simp only [go_sem, Nat.reduceLT]; rfl))) | ((first | apply z9 | apply za); (· rfl); (· simp only [go_sem, Nat.reduceLT]; rfl)) | (apply z8; (· simp only [go_sem, Nat.reduceEqDiff])) | (apply z5; (· simp only [go_sem, Nat.reduceEqDiff])) | (apply ze; (· kernel_rfl); (· kernel_rfl)) | (simp only [bW, if_true, Nat.reduceEqDiff, if_false])
      have hend : ∀ v st, get st.tmps 4 = I v → F .ret st = some (I v) := by
        intro v st hd
        subst hF
        simp only [go_sem, Nat.reduceEqDiff, bP, Nat.reduceAdd, Nat.reduceLeDiff, List.length_map, Tryd.f18, hd]
      refine w_loop (st1 := ⟨83, [(2, .lref 0 0 3 0), (3, .lref 1 0 1 0), (24, .sl nf (fs.map encF) sf none), (25, I fs.length), (26, I (0 : Nat))], [(0, ⟨[zh p], 3, false⟩), (1, ⟨[.sl nf (fs.map encF) sf none], 1, false⟩)], 2, 0⟩) lk18_7 (by kernel_rfl) (L18_7 p fs nf sf _ _ hnf hsf hl (fun st hd => ?_) fs 0 rfl (Nat.zero_le _) (fun hfs => ?_) (fun hfs => by simp [hlen, hfs]))
      · simp only [bW, if_true, Nat.reduceEqDiff, if_false]
        exact hend 1 st hd
      · rw [if_pos ⟨hlen, hfs⟩]
        have h68a := t68 p 0 hwf hok
        have h68b := t68 p 1 hwf hok
        simp only [bW, if_true, Nat.reduceEqDiff, if_false]
        repeat' first | (intro hb; first | cases hb | skip) | ((first | apply z6 | apply zc); (· rfl); (· simp (disch := assumption) only [go_sem, Nat.reduceEqDiff, Nat.reduceAdd, bP, zd, Nat.reduceLeDiff, Nat.reduceLT, Nat.reduceMul, List.length_append, decide_eq_true_eq, z7, z0, Int.reduceToNat, Int.reduceLE, Int.reduceLT, Int.reduceBNe, Int.reduceBEq]; rfl); (· simp only [go_sem, Nat.reduceLT, Nat.reduceEqDiff]; rfl); (· rfl); first | (apply zb; (· simp only [go_sem, Nat.reduceLT]; rfl); (· simp only [go_sem, Nat.reduceLT]; rfl)) | (apply zf; (· simp only [go_sem, Nat.reduceLT]; rfl))) | ((first | apply z9 | apply za); (· rfl); (· simp only [go_sem, Nat.reduceLT]; rfl)) | (apply z8; (· simp only [go_sem, Nat.reduceEqDiff])) | (apply z5; (· simp only [go_sem, Nat.reduceEqDiff])) | (apply ze; (· kernel_rfl); (· kernel_rfl)) | (simp only [bW, if_true, Nat.reduceEqDiff, if_false])
        refine w_loop (st1 := ⟨83, [(2, .lref 0 0 3 0), (3, .lref 1 0 1 0), (41, I 0)], [(0, ⟨[zh p], 3, false⟩), (1, ⟨[.sl nf (fs.map encF) sf none], 1, false⟩)], 2, 0⟩) lk18_13 (by kernel_rfl) ?_
        refine zv ?_
        try dsimp only [lp18_13, zB, zo, Tryd.f18]
        simp only [bW, if_true, Nat.reduceEqDiff, if_false]
        repeat' first | (intro hb; first | cases hb | skip) | ((first | apply z6 | apply zc); (· rfl); (· simp (disch := assumption) only [go_sem, Nat.reduceEqDiff, Nat.reduceAdd, bP, zd, Nat.reduceLeDiff, Nat.reduceLT, Nat.reduceMul, List.length_append, decide_eq_true_eq, z7, z0, Int.reduceToNat, Int.reduceLE, Int.reduceLT, Int.reduceBNe, Int.reduceBEq, h68a, List.length_map]; rfl); (· simp only [go_sem, Nat.reduceLT, Nat.reduceEqDiff]; rfl); (· rfl); first | (apply zb; (· simp only [go_sem, Nat.reduceLT]; rfl); (· simp only [go_sem, Nat.reduceLT]; rfl)) | (apply zf; (· simp only [go_sem, Nat.reduceLT]; rfl))) | ((first | apply z9 | apply za); (· rfl); (· simp only [go_sem, Nat.reduceLT]; rfl)) | (apply z8; (· simp only [go_sem, Nat.reduceEqDiff])) | (apply z5; (· simp only [go_sem, Nat.reduceEqDiff])) | (apply ze; (· kernel_rfl); (· kernel_rfl)) | (simp only [bW, if_true, Nat.reduceEqDiff, if_false])
        refine w_loop (st1 := ⟨83, [(2, .lref 0 0 3 0), (3, .lref 1 0 1 0), (9, .fn (.func 67) [] [.lref 1 0 1 0, .lref 2 0 1 0]), (41, I 0), (47, .sl false ((zI p 0).map encE) 7 none), (48, I (zI p 0).length), (49, I (0 : Nat))], [(0, ⟨[zh p], 3, false⟩), (1, ⟨[.sl nf (fs.map encF) sf none], 1, false⟩), (2, ⟨[I 0], 1, false⟩)], 3, 0⟩) lk18_17 (by kernel_rfl) (L18_17_0 p fs nf sf (zI p 0) _ _ hnf hsf hfs (by omega) (fun e he => ⟨(edgesB hok 0).1 e he, by have := edges_sheets hok 0 e he; omega, by have := edges_sheets hok 0 e he; omega⟩) (edgesB hok 0).2 (fun st hd => ?_) (zI p 0) 0 rfl (Nat.zero_le _) (fun ha => ?_) (fun ha => ?_))
        · simp only [bW, if_true, Nat.reduceEqDiff, if_false]
          exact hend 31 st hd
        · have ha0 : factorsFine p fs 0 = true := ha
          clear ha
          simp only [bW, if_true, Nat.reduceEqDiff, if_false]
          repeat' first | (intro hb; first | cases hb | skip) | ((first | apply z6 | apply zc); (· rfl); (· simp (disch := assumption) only [go_sem, Nat.reduceEqDiff, Nat.reduceAdd, bP, zd, Nat.reduceLeDiff, Nat.reduceLT, Nat.reduceMul, List.length_append, decide_eq_true_eq, z7, z0, Int.reduceToNat, Int.reduceLE, Int.reduceLT, Int.reduceBNe, Int.reduceBEq, e1]; rfl); (· simp only [go_sem, Nat.reduceLT, Nat.reduceEqDiff]; rfl); (· rfl); first | (apply zb; (· simp only [go_sem, Nat.reduceLT]; rfl); (· simp only [go_sem, Nat.reduceLT]; rfl)) | (apply zf; (· simp only [go_sem, Nat.reduceLT]; rfl))) | ((first | apply z9 | apply za); (· rfl); (· simp only [go_sem, Nat.reduceLT]; rfl)) | (apply z8; (· simp only [go_sem, Nat.reduceEqDiff])) | (apply z5; (· simp only [go_sem, Nat.reduceEqDiff])) | (apply ze; (· kernel_rfl); (· kernel_rfl)) | (simp only [bW, if_true, Nat.reduceEqDiff, if_false])
          refine zM (st1 := ⟨83, [(2, .lref 0 0 3 0), (3, .lref 1 0 1 0), (41, I 1)], [(0, ⟨[zh p], 3, false⟩), (1, ⟨[.sl nf (fs.map encF) sf none], 1, false⟩)], 2, 0⟩) lk18_13 (by kernel_rfl) ?_
          refine zv ?_
          try dsimp only [lp18_13, zB, zo, Tryd.f18]
          simp only [bW, if_true, Nat.reduceEqDiff, if_false]
          repeat' first | (intro hb; first | cases hb | skip) | ((first | apply z6 | apply zc); (· rfl); (· simp (disch := assumption) only [go_sem, Nat.reduceEqDiff, Nat.reduceAdd, bP, zd, Nat.reduceLeDiff, Nat.reduceLT, Nat.reduceMul, List.length_append, decide_eq_true_eq, z7, z0, Int.reduceToNat, Int.reduceLE, Int.reduceLT, Int.reduceBNe, Int.reduceBEq, h68b, List.length_map]; rfl); (· simp only [go_sem, Nat.reduceLT, Nat.reduceEqDiff]; rfl); (· rfl); first | (apply zb; (· simp only [go_sem, Nat.reduceLT]; rfl); (· simp only [go_sem, Nat.reduceLT]; rfl)) | (apply zf; (· simp only [go_sem, Nat.reduceLT]; rfl))) | ((first | apply z9 | apply za); (· rfl); (· simp only [go_sem, Nat.reduceLT]; rfl)) | (apply z8; (· simp only [go_sem, Nat.reduceEqDiff])) | (apply z5; (· simp only [go_sem, Nat.reduceEqDiff])) | (apply ze; (· kernel_rfl); (· kernel_rfl)) | (simp only [bW, if_true, Nat.reduceEqDiff, if_false])
          refine w_loop (st1 := ⟨83, [(2, .lref 0 0 3 0), (3, .lref 1 0 1 0), (9, .fn (.func 67) [] [.lref 1 0 1 0, .lref 2 0 1 0]), (41, I 1), (47, .sl false ((zI p 1).map encE) 7 none), (48, I (zI p 1).length), (49, I (0 : Nat))], [(0, ⟨[zh p], 3, false⟩), (1, ⟨[.sl nf (fs.map encF) sf none], 1, false⟩), (2, ⟨[I 1], 1, false⟩)], 3, 0⟩) lk18_17 (by kernel_rfl) (L18_17_1 p fs nf sf (zI p 1) _ _ hnf hsf hfs (by omega) (fun e he => ⟨(edgesB hok 1).1 e he, by have := edges_sheets hok 1 e he; omega, by have := edges_sheets hok 1 e he; omega⟩) (edgesB hok 1).2 (fun st hd => ?_) (zI p 1) 0 rfl (Nat.zero_le _) (fun ha => ?_) (fun ha => ?_))
          · simp only [bW, if_true, Nat.reduceEqDiff, if_false]
            exact hend 31 st hd
          · have ha1 : factorsFine p fs 1 = true := ha
            simp only [bW, if_true, Nat.reduceEqDiff, if_false]
            repeat' first | (intro hb; first | cases hb | skip) | ((first | apply z6 | apply zc); (· rfl); (· simp (disch := assumption) only [go_sem, Nat.reduceEqDiff, Nat.reduceAdd, bP, zd, Nat.reduceLeDiff, Nat.reduceLT, Nat.reduceMul, List.length_append, decide_eq_true_eq, z7, z0, Int.reduceToNat, Int.reduceLE, Int.reduceLT, Int.reduceBNe, Int.reduceBEq, e2]; rfl); (· simp only [go_sem, Nat.reduceLT, Nat.reduceEqDiff]; rfl); (· rfl); first | (apply zb; (· simp only [go_sem, Nat.reduceLT]; rfl); (· simp only [go_sem, Nat.reduceLT]; rfl)) | (apply zf; (· simp only [go_sem, Nat.reduceLT]; rfl))) | ((first | apply z9 | apply za); (· rfl); (· simp only [go_sem, Nat.reduceLT]; rfl)) | (apply z8; (· simp only [go_sem, Nat.reduceEqDiff])) | (apply z5; (· simp only [go_sem, Nat.reduceEqDiff])) | (apply ze; (· kernel_rfl); (· kernel_rfl)) | (simp only [bW, if_true, Nat.reduceEqDiff, if_false])
            refine zM (st1 := ⟨83, [(2, .lref 0 0 3 0), (3, .lref 1 0 1 0), (41, I 2)], [(0, ⟨[zh p], 3, false⟩), (1, ⟨[.sl nf (fs.map encF) sf none], 1, false⟩)], 2, 0⟩) lk18_13 (by kernel_rfl) ?_
            refine zv ?_
            try dsimp only [lp18_13, zB, zo, Tryd.f18]
            simp only [bW, if_true, Nat.reduceEqDiff, if_false]
            repeat' first | (intro hb; first | cases hb | skip) | ((first | apply z6 | apply zc); (· rfl); (· simp (disch := assumption) only [go_sem, Nat.reduceEqDiff, Nat.reduceAdd, bP, zd, Nat.reduceLeDiff, Nat.reduceLT, Nat.reduceMul, List.length_append, decide_eq_true_eq, z7, z0, Int.reduceToNat, Int.reduceLE, Int.reduceLT, Int.reduceBNe, Int.reduceBEq]; rfl); (· simp only [go_sem, Nat.reduceLT, Nat.reduceEqDiff]; rfl); (· rfl); first | (apply zb; (· simp only [go_sem, Nat.reduceLT]; rfl); (· simp only [go_sem, Nat.reduceLT]; rfl)) | (apply zf; (· simp only [go_sem, Nat.reduceLT]; rfl))) | ((first | apply z9 | apply za); (· rfl); (· simp only [go_sem, Nat.reduceLT]; rfl)) | (apply z8; (· simp only [go_sem, Nat.reduceEqDiff])) | (apply z5; (· simp only [go_sem, Nat.reduceEqDiff])) | (apply ze; (· kernel_rfl); (· kernel_rfl)) | (simp only [bW, if_true, Nat.reduceEqDiff, if_false])
            simp only [ha0, ha1, Bool.and_self, if_true]
            exact hend 0 _ rfl
          · change factorsFine p fs 1 = false at ha
            simp [ha]
        · change factorsFine p fs 0 = false at ha
          simp [ha]
    · have hne : ((fs.length : Int) != p.sheets) = true := by simp [hlen]
      rw [if_neg (fun h => hlen h.1)]
      refine zp (zk 18) cfn18 rfl (n := 83) rfl ?_
      simp only [bW, if_true, Nat.reduceEqDiff, if_false, zi]
      repeat' first | (intro hb; first | cases hb | skip) | ((first | apply z6 | apply zc); (· rfl); (· simp (disch := assumption) only [go_sem, Nat.reduceEqDiff, Nat.reduceAdd, bP, zd, Nat.reduceLeDiff, Nat.reduceLT, Nat.reduceMul, List.length_append, decide_eq_true_eq, z7, z0, Int.reduceToNat, Int.reduceLE, Int.reduceLT, Int.reduceBNe, Int.reduceBEq, h15, hlf, hne]; rfl); (· simp only [go_sem, Nat.reduceLT, Nat.reduceEqDiff]; rfl); (· rfl); first | (apply zb; (· simp only [go_sem, Nat.reduceLT]; rfl); (· simp only [go_sem, Nat.reduceLT]; rfl)) | (apply zf; (· simp only [go_sem, Nat.reduceLT]; rfl))) | ((first | apply z9 | apply za); (· rfl); (· simp only [go_sem, Nat.reduceLT]; rfl)) | (apply z8; (· simp only [go_sem, Nat.reduceEqDiff])) | (apply z5; (· simp only [go_sem, Nat.reduceEqDiff])) | (apply ze; (· kernel_rfl); (· kernel_rfl)) | (simp only [bW, if_true, Nat.reduceEqDiff, if_false])
      all_goals try simp only [go_sem, Nat.reduceEqDiff, bP, Nat.reduceAdd, Nat.reduceLeDiff, List.length_map, Tryd.f18]
      all_goals first | done | rfl | (simp_all []; done) | trace_state

end Go.VS
namespace Go.VS
open Go Go.Proofs
set_option maxHeartbeats 0
set_option linter.unusedSimpArgs false

set_option maxRecDepth 100000
theorem ckI {S : Sm} {objs : List (Nat × Ob)} {nxt : Nat} {args : List D} : zq cfg S objs nxt 62 args = zG S objs nxt 62 args := by
  simp only [zq, cfg_fn, cfn62]
  rfl
theorem i62 : (lim cfg).inl 62 [] [] 0 = some (.agg [I 2, .lsl 1 0 1 5 (some 1), .lsl 2 0 1 7 (some 1)], [(0, ⟨[.agg [I 2, .lsl 1 0 1 5 (some 1), .lsl 2 0 1 7 (some 1)]], 3, false⟩), (1, ⟨[.agg [I 0, I 0, I 100, I 98, I 1]], 5, false⟩), (2, ⟨[.agg [I 0, I 1, I 0, I 50, I 1, I 100, I 2]], 7, false⟩)], 3) := inl_of (by kernel_rfl)
theorem wf1 : example1.wf := ⟨by simp [example1], by simp [example1], by simp [example1], by simp [example1]⟩
def example2 : Paper := ⟨2, false, [⟨0, 0, 100, 98, 1⟩, ⟨1, 0, 10, 10, 0⟩], false, [⟨0, 1, 0, 50, 1, 100, 2⟩]⟩
theorem wf2 : example2.wf := ⟨by simp [example2], by simp [example2], by simp [example2], by simp [example2]⟩
theorem f20a : (lim cfg).pure 20 [.agg [I 2, .sl false [.agg [I 0, I 0, I 100, I 98, I 1]] 5 none, .sl false [.agg [I 0, I 1, I 0, I 50, I 1, I 100, I 2]] 7 none], I 0, I 0] = some (.tup [.agg [I 97, I 100], .agg [I 99, I 100], I 0]) := (t20 example1 0 0 wf1).trans (by kernel_rfl)
theorem f20b : (lim cfg).pure 20 [.agg [I 2, .sl false [.agg [I 0, I 0, I 100, I 98, I 1]] 5 none, .sl false [.agg [I 0, I 1, I 0, I 50, I 1, I 100, I 2]] 7 none], I 1, I 0] = some (.tup [.agg [I 4753, I 2550], .agg [I 2, I 1], I 0]) := (t20 example1 1 0 wf1).trans (by kernel_rfl)
theorem f19 : (lim cfg).pure 19 [.agg [I 2, .sl false [.agg [I 0, I 0, I 100, I 98, I 1]] 5 none, .sl false [.agg [I 0, I 1, I 0, I 50, I 1, I 100, I 2]] 7 none], I 0, I 1, I 0] = some (.tup [.agg [I 51, I 98], I 0]) := (t19 example1 0 1 0 wf1).trans (by kernel_rfl)
theorem f49 : (lim cfg).pure 49 [.agg [I 2, .sl false [.agg [I 0, I 0, I 100, I 98, I 1]] 5 none, .sl false [.agg [I 0, I 1, I 0, I 50, I 1, I 100, I 2]] 7 none], I 1, I 0, B false] = some (.tup [.sl false [.agg [B false, I 0, B true], .agg [B true, I 0, B false]] 3 none, I 0]) := (t49 example1 1 0 false wf1).trans (by kernel_rfl)
theorem f57 : (lim cfg).pure 57 [.sl false [.agg [B false, I 0, B true], .agg [B true, I 0, B false]] 3 none, .sl false [.agg [B false, I 0, B true], .agg [B true, I 0, B false]] 3 none] = some (B true) :=
  (t57 false false 3 3 [⟨false, 0, true⟩, ⟨true, 0, false⟩] [⟨false, 0, true⟩, ⟨true, 0, false⟩] (by simp) (by simp) (by simp) (by simp) (by simp) (by simp)).trans (by kernel_rfl)
theorem f71 : (lim cfg).pure 71 [.agg [I 2, .sl false [.agg [I 0, I 0, I 100, I 98, I 1]] 5 none, .sl false [.agg [I 0, I 1, I 0, I 50, I 1, I 100, I 2]] 7 none], I 0, .sl false [I 0] 1 none] = some (I 0) := (t71 example1 0 false [0] wf1 1 (by simp) (by simp) (by simp)).trans (by kernel_rfl)
theorem f73 : (lim cfg).pure 73 [.agg [I 2, .sl false [.agg [I 0, I 0, I 100, I 98, I 1]] 5 none, .sl false [.agg [I 0, I 1, I 0, I 50, I 1, I 100, I 2]] 7 none], I 0, I 0] = some (.agg [I 97, I 100, I 99, I 100]) := (t73 example1 0 0 wf1 (by kernel_rfl) (by kernel_rfl)).trans (by kernel_rfl)
theorem f89 : (lim cfg).pure 89 [.agg [I 10, I 10], .agg [I 100, I 99], .agg [I 100, I 97]] = some (.agg [I 10, I 11]) := lim_pure.2 ⟨30, by kernel_rfl⟩
theorem f85 : (lim cfg).pure 85 [.agg [I 10, I 10]] = some (B true) := (t85 ⟨10, 10⟩).trans (by kernel_rfl)
theorem f86 : (lim cfg).pure 86 [.agg [I 2, .sl false [.agg [I 0, I 0, I 100, I 98, I 1]] 5 none, .sl false [.agg [I 0, I 1, I 0, I 50, I 1, I 100, I 2]] 7 none], I 0, I 0, .agg [I 10, I 10]] = some (.agg [I 10, I 11]) := by
  refine zp (zk 86) cfn86 rfl (n := 22) rfl ?_
  simp only [bW, if_true, Nat.reduceEqDiff, if_false, zi]
  repeat' first | (intro hb; first | cases hb | skip) | ((first | apply z6 | apply zc); (· rfl); (· simp (disch := assumption) only [go_sem, Nat.reduceEqDiff, Nat.reduceAdd, bP, zd, Nat.reduceLeDiff, Nat.reduceLT, Nat.reduceMul, List.length_append, decide_eq_true_eq, z7, z0, Int.reduceToNat, Int.reduceLE, Int.reduceLT, Int.reduceBNe, Int.reduceBEq, f73, t97, f89]; rfl); (· simp only [go_sem, Nat.reduceLT, Nat.reduceEqDiff]; rfl); (· rfl); first | (apply zb; (· simp only [go_sem, Nat.reduceLT]; rfl); (· simp only [go_sem, Nat.reduceLT]; rfl)) | (apply zf; (· simp only [go_sem, Nat.reduceLT]; rfl))) | ((first | apply z9 | apply za); (· rfl); (· simp only [go_sem, Nat.reduceLT]; rfl)) | (apply z8; (· simp only [go_sem, Nat.reduceEqDiff])) | (apply z5; (· simp only [go_sem, Nat.reduceEqDiff])) | (apply ze; (· kernel_rfl); (· kernel_rfl)) | (simp only [bW, if_true, Nat.reduceEqDiff, if_false])
  all_goals try simp only [go_sem, Nat.reduceEqDiff, bP, Nat.reduceAdd, Nat.reduceLeDiff, List.length_map, Tryd.f86]
  all_goals first | done | rfl | (simp_all []; done) | trace_state

theorem f38 : (lim cfg).pure 38 [.agg [I 2, .sl false [.agg [I 0, I 0, I 100, I 98, I 1]] 5 none, .sl false [.agg [I 0, I 1, I 0, I 50, I 1, I 100, I 2]] 7 none], I 0, I 0, .agg [I 10, I 10]] = some (.tup [.agg [I 10, I 11], I 0]) := by
  refine zp (zk 38) cfn38 rfl (n := 29) rfl ?_
  simp only [bW, if_true, Nat.reduceEqDiff, if_false, zi]
  repeat' first | (intro hb; first | cases hb | skip) | ((first | apply z6 | apply zc); (· rfl); (· simp (disch := assumption) only [go_sem, Nat.reduceEqDiff, Nat.reduceAdd, bP, zd, Nat.reduceLeDiff, Nat.reduceLT, Nat.reduceMul, List.length_append, decide_eq_true_eq, z7, z0, Int.reduceToNat, Int.reduceLE, Int.reduceLT, Int.reduceBNe, Int.reduceBEq, f71, f85, f86, show ((0 : Int) != 0) = false from rfl]; rfl); (· simp only [go_sem, Nat.reduceLT, Nat.reduceEqDiff]; rfl); (· rfl); first | (apply zb; (· simp only [go_sem, Nat.reduceLT]; rfl); (· simp only [go_sem, Nat.reduceLT]; rfl)) | (apply zf; (· simp only [go_sem, Nat.reduceLT]; rfl))) | ((first | apply z9 | apply za); (· rfl); (· simp only [go_sem, Nat.reduceLT]; rfl)) | (apply z8; (· simp only [go_sem, Nat.reduceEqDiff])) | (apply z5; (· simp only [go_sem, Nat.reduceEqDiff])) | (apply ze; (· kernel_rfl); (· kernel_rfl)) | (simp only [bW, if_true, Nat.reduceEqDiff, if_false])
  all_goals try simp only [go_sem, Nat.reduceEqDiff, bP, Nat.reduceAdd, Nat.reduceLeDiff, List.length_map, Tryd.f38]
  all_goals first | done | rfl | (simp_all []; done) | trace_state

theorem f18 : (lim cfg).pure 18 [.agg [I 2, .sl false [.agg [I 0, I 0, I 100, I 98, I 1]] 5 none, .sl false [.agg [I 0, I 1, I 0, I 50, I 1, I 100, I 2]] 7 none], .sl false [.agg [I 98, I 100, I 1, I 1], .agg [I 196, I 100, I 1, I 1]] 4 none] = some (I 0) := (t18 example1 [⟨98, 100, 1, 1⟩, ⟨196, 100, 1, 1⟩] false 4 wf1 (by simp) (by simp) (by simp)).trans (by kernel_rfl)
theorem f30 : (lim cfg).pure 30 [.agg [I 2, .sl false [.agg [I 0, I 0, I 100, I 98, I 1], .agg [I 1, I 0, I 10, I 10, I 0]] 5 none, .sl false [.agg [I 0, I 1, I 0, I 50, I 1, I 100, I 2]] 7 none]] = some (.tup [B false, I 0]) := (t30 example2 wf2).trans (by kernel_rfl)
theorem f48 : (lim cfg).pure 48 [.agg [I 2, .sl false [.agg [I 0, I 0, I 100, I 98, I 1], .agg [I 1, I 0, I 10, I 10, I 0]] 5 none, .sl false [.agg [I 0, I 1, I 0, I 50, I 1, I 100, I 2]] 7 none]] = some (clashD (clashR example2)) := (t48 example2 wf2).trans (by kernel_rfl)
theorem f48' : ∃ w r, (lim cfg).pure 48 [.agg [I 2, .sl false [.agg [I 0, I 0, I 100, I 98, I 1], .agg [I 1, I 0, I 10, I 10, I 0]] 5 none, .sl false [.agg [I 0, I 1, I 0, I 50, I 1, I 100, I 2]] 7 none]] = some (.tup [.sl false (List.map encW (w :: r)) 3 none, B true, I 0]) := by
  have h : ((clashR example2).map fun c => c.why.isEmpty) = some false := by kernel_rfl
  rw [f48]
  cases hc : clashR example2 with
  | none => rw [hc] at h; cases h
  | some c =>
    rw [hc] at h
    obtain ⟨q, ws⟩ := c
    cases ws with
    | nil => simp at h
    | cons w r => exact ⟨w, r, rfl⟩
theorem f15 : (lim cfg).pure 15 [.agg [I 0, .sl true [] 0 none, .sl true [] 0 none]] = some (I 30) := lim_pure.2 ⟨30, by kernel_rfl⟩

theorem t14 : (lim cfg).pure 14 [] = some (B true) := by
  obtain ⟨w, r, hf48⟩ := f48'
  refine zp (zk 14) cfn14 rfl (n := 153) rfl ?_
  simp only [bW, if_true, Nat.reduceEqDiff, if_false, zi]
  repeat' first | (intro hb; first | cases hb | skip) | ((first | apply z6 | apply zc); (· rfl); (· simp (disch := assumption) only [go_sem, Nat.reduceEqDiff, Nat.reduceAdd, bP, zd, Nat.reduceLeDiff, Nat.reduceLT, Nat.reduceMul, List.length_append, decide_eq_true_eq, z7, z0, Int.reduceToNat, Int.reduceLE, Int.reduceLT, Int.reduceBNe, Int.reduceBEq, ckI, i62, zG, zz, only, keysO, zU, f20a, f20b, f19, f49, f57, t21, encR, f38, f18, f30, hf48, f15, whyD_one, snap_whyD, show ((0 : Int) != 0) = false from rfl]; rfl); (· simp only [go_sem, Nat.reduceLT, Nat.reduceEqDiff]; rfl); (· rfl); first | (apply zb; (· simp only [go_sem, Nat.reduceLT]; rfl); (· simp only [go_sem, Nat.reduceLT]; rfl)) | (apply zf; (· simp only [go_sem, Nat.reduceLT]; rfl))) | ((first | apply z9 | apply za); (· rfl); (· simp only [go_sem, Nat.reduceLT]; rfl)) | (apply z8; (· simp only [go_sem, Nat.reduceEqDiff])) | (apply z5; (· simp only [go_sem, Nat.reduceEqDiff])) | (apply ze; (· kernel_rfl); (· kernel_rfl)) | (simp only [bW, if_true, Nat.reduceEqDiff, if_false])
  all_goals try simp only [go_sem, Nat.reduceEqDiff, bP, Nat.reduceAdd, Nat.reduceLeDiff, List.length_map, Tryd.f14]
  all_goals first | done | rfl | (simp_all []; done) | trace_state

end Go.VS
