/- Nothing of a statement is proved in this text alone: it is part 4 of the proof's own tools, an evaluator of the code over deep values, its soundness, and what it makes of this seat's functions. Conditions: none beyond the statement's own. -/
import Derived.Test.YtpkjnefhnedfdaaGreatDoorVsRCNear3
import Derived.Test.YtpkjnefhnedfdaaGreatDoorRows
import Derived.Test.YtpkjnefhnedfdaaGreatDoorTie
import Derived.WalkKit
import Derived.ProofKit
import Derived.Deep.DeepHandedRow
import Derived.Lib.LaidTab
set_option linter.unusedSimpArgs false
set_option linter.unusedVariables false
namespace Go.VS
open Go Go.Proofs
set_option maxHeartbeats 0
set_option linter.unusedSimpArgs false
set_option linter.unusedVariables false
def l_RangesNear (r : GS S_Span) (n : Int) : Bool :=
  bif (r_Valid r) then
    bif (((r.l.length : Nat) : Int) == 0) then
      true
    else
      bif (((za r n).2) != 0) then
        false
      else
        bif (((zp r).2) != 0) then
          false
        else
          bif decide (n ≥ (((zp r).1).hi)) then
            bif (((za r n).1) == (imin (imax n (((zp r).1).lo)) (((zp r).1).hi))) then
              true
            else
              false
          else
            bif decide (n ≤ (((zp r).1).lo)) then
              bif (((za r n).1) == (imin (imax n (((zp r).1).lo)) (((zp r).1).hi))) then
                true
              else
                false
            else
              bif ((ranges_Has r ((za r n).1)).1) then
                bif (((ranges_Has r ((za r n).1)).2) != 0) then
                  false
                else
                  bif decide (((za r n).1) < (((zp r).1).lo)) then
                    false
                  else
                    bif decide (((za r n).1) > (((zp r).1).hi)) then
                      false
                    else
                      bif (((za r n).1) == n) then
                        true
                      else
                        bif decide (((za r n).1) < n) then
                          bif ((zm r ((za r n).1)).2.1) then
                            bif (((zm r ((za r n).1)).2.2) == 0) then
                              bif decide ((w64 (((zm r ((za r n).1)).1) - n)) ≥ (w64 (n - ((za r n).1)))) then
                                true
                              else
                                false
                            else
                              false
                          else
                            bif (((zm r ((za r n).1)).2.2) == 0) then
                              false
                            else
                              false
                        else
                          bif ((zm r (w64 ((w64 (n - (w64 (((za r n).1) - n)))) - 1))).2.1) then
                            bif (((zm r (w64 ((w64 (n - (w64 (((za r n).1) - n)))) - 1))).2.2) == 0) then
                              bif (((zm r (w64 ((w64 (n - (w64 (((za r n).1) - n)))) - 1))).1) == ((za r n).1)) then
                                true
                              else
                                false
                            else
                              false
                          else
                            bif (((zm r (w64 ((w64 (n - (w64 (((za r n).1) - n)))) - 1))).2.2) == 0) then
                              false
                            else
                              false
              else
                bif (((ranges_Has r ((za r n).1)).2) != 0) then
                  false
                else
                  false
  else
    true

def zk (r : GS S_Span) (n : Int) : List Ora := [.pure (B true), .dec true, .pure (B (r_Valid r)), .dec true, .rw 22 (I ((r.l.length : Nat) : Int)), .dec false, .pure (.tup [I ((za r n).1), I ((za r n).2)]), .pure (.tup [.agg [I (((zp r).1).lo), I (((zp r).1).hi)], I ((zp r).2)])]

def zu (r : GS S_Span) (n : Int) : List Ora := [.dec false, .dec false, .dec false, .dec false, .pure (.tup [B ((ranges_Has r ((za r n).1)).1), I ((ranges_Has r ((za r n).1)).2)])]

def l_RangesNear_o3 (r : GS S_Span) (n : Int) : List Ora := [.dec true, .dec false, .dec false, .dec false, .dec false, .dec true, .pure (.tup [I ((zm r ((za r n).1)).1), B ((zm r ((za r n).1)).2.1), I ((zm r ((za r n).1)).2.2)])]

def l_RangesNear_o4 (r : GS S_Span) (n : Int) : List Ora := [.dec true, .dec false, .dec false, .dec false, .dec false, .dec false, .pure (.tup [I ((zm r (w64 ((w64 (n - (w64 (((za r n).1) - n)))) - 1))).1), B ((zm r (w64 ((w64 (n - (w64 (((za r n).1) - n)))) - 1))).2.1), I ((zm r (w64 ((w64 (n - (w64 (((za r n).1) - n)))) - 1))).2.2)])]

theorem T_l_RangesNear (r : GS S_Span) (n : Int) (hL : r.l.length ≤ 9223372036854775807) (hL_r : r.l.length ≤ 9223372036854775807) : (lim cfg).pure 9 [GS.D S_Span.D 2 r, I n] = some (B (l_RangesNear r n)) := by
  unfold l_RangesNear
  cases h1 : (r_Valid r) with
  | true =>
    cases h2 : (((r.l.length : Nat) : Int) == 0) with
    | true =>
      have g2 := eq_of_beq h2
      exact ze [.pure (B true), .dec true, .pure (B (r_Valid r)), .dec true, .rw 22 (I ((r.l.length : Nat) : Int)), .dec true] (And.intro h2 (And.intro (zq S_Span.D r) (And.intro h1 (And.intro (T_r_Valid r (by first | assumption | omega | (exact zc (by omega) (by omega)) | (simp only [z8] at * <;> omega) | (simp only [GS.some_l, List.length_set, List.length_append, List.length_cons, List.length_nil] at * <;> first | with_reducible assumption | omega) | (simp only [GS.some_l, List.length_set, List.length_append, List.length_cons, List.length_nil, z8] at * <;> first | with_reducible assumption | omega) | (simp at * <;> omega))) (And.intro (Eq.refl true) (And.intro sane_ok trivial)))))) (by kernel_rfl)
    | false =>
      have g2 := ne_of_beq_false h2
      cases h3 : (((za r n).2) != 0) with
      | true =>
        have g3 := bne_true h3
        exact ze ((zk r n) ++ [.dec true]) (And.intro h3 (And.intro (zn r (by first | assumption | omega | (exact zc (by omega) (by omega)) | (simp only [z8] at * <;> omega) | (simp only [GS.some_l, List.length_set, List.length_append, List.length_cons, List.length_nil] at * <;> first | with_reducible assumption | omega) | (simp only [GS.some_l, List.length_set, List.length_append, List.length_cons, List.length_nil, z8] at * <;> first | with_reducible assumption | omega) | (simp at * <;> omega))) (And.intro (zo r n (by first | assumption | omega | (exact zc (by omega) (by omega)) | (simp only [z8] at * <;> omega) | (simp only [GS.some_l, List.length_set, List.length_append, List.length_cons, List.length_nil] at * <;> first | with_reducible assumption | omega) | (simp only [GS.some_l, List.length_set, List.length_append, List.length_cons, List.length_nil, z8] at * <;> first | with_reducible assumption | omega) | (simp at * <;> omega))) (And.intro h2 (And.intro (zq S_Span.D r) (And.intro h1 (And.intro (T_r_Valid r (by first | assumption | omega | (exact zc (by omega) (by omega)) | (simp only [z8] at * <;> omega) | (simp only [GS.some_l, List.length_set, List.length_append, List.length_cons, List.length_nil] at * <;> first | with_reducible assumption | omega) | (simp only [GS.some_l, List.length_set, List.length_append, List.length_cons, List.length_nil, z8] at * <;> first | with_reducible assumption | omega) | (simp at * <;> omega))) (And.intro (Eq.refl true) (And.intro sane_ok trivial))))))))) (by kernel_rfl)
      | false =>
        have g3 := bne_false h3
        cases h4 : (((zp r).2) != 0) with
        | true =>
          have g4 := bne_true h4
          exact ze ((zk r n) ++ [.dec false, .dec true]) (And.intro h4 (And.intro h3 (And.intro (zn r (by first | assumption | omega | (exact zc (by omega) (by omega)) | (simp only [z8] at * <;> omega) | (simp only [GS.some_l, List.length_set, List.length_append, List.length_cons, List.length_nil] at * <;> first | with_reducible assumption | omega) | (simp only [GS.some_l, List.length_set, List.length_append, List.length_cons, List.length_nil, z8] at * <;> first | with_reducible assumption | omega) | (simp at * <;> omega))) (And.intro (zo r n (by first | assumption | omega | (exact zc (by omega) (by omega)) | (simp only [z8] at * <;> omega) | (simp only [GS.some_l, List.length_set, List.length_append, List.length_cons, List.length_nil] at * <;> first | with_reducible assumption | omega) | (simp only [GS.some_l, List.length_set, List.length_append, List.length_cons, List.length_nil, z8] at * <;> first | with_reducible assumption | omega) | (simp at * <;> omega))) (And.intro h2 (And.intro (zq S_Span.D r) (And.intro h1 (And.intro (T_r_Valid r (by first | assumption | omega | (exact zc (by omega) (by omega)) | (simp only [z8] at * <;> omega) | (simp only [GS.some_l, List.length_set, List.length_append, List.length_cons, List.length_nil] at * <;> first | with_reducible assumption | omega) | (simp only [GS.some_l, List.length_set, List.length_append, List.length_cons, List.length_nil, z8] at * <;> first | with_reducible assumption | omega) | (simp at * <;> omega))) (And.intro (Eq.refl true) (And.intro sane_ok trivial)))))))))) (by kernel_rfl)
        | false =>
          have g4 := bne_false h4
          cases h5 : decide (n ≥ (((zp r).1).hi)) with
          | true =>
            have g5 := of_decide_eq_true h5
            cases h6 : (((za r n).1) == (imin (imax n (((zp r).1).lo)) (((zp r).1).hi))) with
            | true =>
              have g6 := eq_of_beq h6
              exact ze ((zk r n) ++ [.dec false, .dec false, .dec true, .dec true]) (And.intro h6 (And.intro h5 (And.intro h4 (And.intro h3 (And.intro (zn r (by first | assumption | omega | (exact zc (by omega) (by omega)) | (simp only [z8] at * <;> omega) | (simp only [GS.some_l, List.length_set, List.length_append, List.length_cons, List.length_nil] at * <;> first | with_reducible assumption | omega) | (simp only [GS.some_l, List.length_set, List.length_append, List.length_cons, List.length_nil, z8] at * <;> first | with_reducible assumption | omega) | (simp at * <;> omega))) (And.intro (zo r n (by first | assumption | omega | (exact zc (by omega) (by omega)) | (simp only [z8] at * <;> omega) | (simp only [GS.some_l, List.length_set, List.length_append, List.length_cons, List.length_nil] at * <;> first | with_reducible assumption | omega) | (simp only [GS.some_l, List.length_set, List.length_append, List.length_cons, List.length_nil, z8] at * <;> first | with_reducible assumption | omega) | (simp at * <;> omega))) (And.intro h2 (And.intro (zq S_Span.D r) (And.intro h1 (And.intro (T_r_Valid r (by first | assumption | omega | (exact zc (by omega) (by omega)) | (simp only [z8] at * <;> omega) | (simp only [GS.some_l, List.length_set, List.length_append, List.length_cons, List.length_nil] at * <;> first | with_reducible assumption | omega) | (simp only [GS.some_l, List.length_set, List.length_append, List.length_cons, List.length_nil, z8] at * <;> first | with_reducible assumption | omega) | (simp at * <;> omega))) (And.intro (Eq.refl true) (And.intro sane_ok trivial)))))))))))) (by kernel_rfl)
            | false =>
              have g6 := ne_of_beq_false h6
              exact ze ((zk r n) ++ [.dec false, .dec false, .dec true, .dec false]) (And.intro h6 (And.intro h5 (And.intro h4 (And.intro h3 (And.intro (zn r (by first | assumption | omega | (exact zc (by omega) (by omega)) | (simp only [z8] at * <;> omega) | (simp only [GS.some_l, List.length_set, List.length_append, List.length_cons, List.length_nil] at * <;> first | with_reducible assumption | omega) | (simp only [GS.some_l, List.length_set, List.length_append, List.length_cons, List.length_nil, z8] at * <;> first | with_reducible assumption | omega) | (simp at * <;> omega))) (And.intro (zo r n (by first | assumption | omega | (exact zc (by omega) (by omega)) | (simp only [z8] at * <;> omega) | (simp only [GS.some_l, List.length_set, List.length_append, List.length_cons, List.length_nil] at * <;> first | with_reducible assumption | omega) | (simp only [GS.some_l, List.length_set, List.length_append, List.length_cons, List.length_nil, z8] at * <;> first | with_reducible assumption | omega) | (simp at * <;> omega))) (And.intro h2 (And.intro (zq S_Span.D r) (And.intro h1 (And.intro (T_r_Valid r (by first | assumption | omega | (exact zc (by omega) (by omega)) | (simp only [z8] at * <;> omega) | (simp only [GS.some_l, List.length_set, List.length_append, List.length_cons, List.length_nil] at * <;> first | with_reducible assumption | omega) | (simp only [GS.some_l, List.length_set, List.length_append, List.length_cons, List.length_nil, z8] at * <;> first | with_reducible assumption | omega) | (simp at * <;> omega))) (And.intro (Eq.refl true) (And.intro sane_ok trivial)))))))))))) (by kernel_rfl)
          | false =>
            have g5 := of_decide_eq_false h5
            cases h7 : decide (n ≤ (((zp r).1).lo)) with
            | true =>
              have g7 := of_decide_eq_true h7
              cases h8 : (((za r n).1) == (imin (imax n (((zp r).1).lo)) (((zp r).1).hi))) with
              | true =>
                have g8 := eq_of_beq h8
                exact ze ((zk r n) ++ [.dec false, .dec false, .dec false, .dec true, .dec true]) (And.intro h8 (And.intro h7 (And.intro h5 (And.intro h4 (And.intro h3 (And.intro (zn r (by first | assumption | omega | (exact zc (by omega) (by omega)) | (simp only [z8] at * <;> omega) | (simp only [GS.some_l, List.length_set, List.length_append, List.length_cons, List.length_nil] at * <;> first | with_reducible assumption | omega) | (simp only [GS.some_l, List.length_set, List.length_append, List.length_cons, List.length_nil, z8] at * <;> first | with_reducible assumption | omega) | (simp at * <;> omega))) (And.intro (zo r n (by first | assumption | omega | (exact zc (by omega) (by omega)) | (simp only [z8] at * <;> omega) | (simp only [GS.some_l, List.length_set, List.length_append, List.length_cons, List.length_nil] at * <;> first | with_reducible assumption | omega) | (simp only [GS.some_l, List.length_set, List.length_append, List.length_cons, List.length_nil, z8] at * <;> first | with_reducible assumption | omega) | (simp at * <;> omega))) (And.intro h2 (And.intro (zq S_Span.D r) (And.intro h1 (And.intro (T_r_Valid r (by first | assumption | omega | (exact zc (by omega) (by omega)) | (simp only [z8] at * <;> omega) | (simp only [GS.some_l, List.length_set, List.length_append, List.length_cons, List.length_nil] at * <;> first | with_reducible assumption | omega) | (simp only [GS.some_l, List.length_set, List.length_append, List.length_cons, List.length_nil, z8] at * <;> first | with_reducible assumption | omega) | (simp at * <;> omega))) (And.intro (Eq.refl true) (And.intro sane_ok trivial))))))))))))) (by kernel_rfl)
              | false =>
                have g8 := ne_of_beq_false h8
                exact ze ((zk r n) ++ [.dec false, .dec false, .dec false, .dec true, .dec false]) (And.intro h8 (And.intro h7 (And.intro h5 (And.intro h4 (And.intro h3 (And.intro (zn r (by first | assumption | omega | (exact zc (by omega) (by omega)) | (simp only [z8] at * <;> omega) | (simp only [GS.some_l, List.length_set, List.length_append, List.length_cons, List.length_nil] at * <;> first | with_reducible assumption | omega) | (simp only [GS.some_l, List.length_set, List.length_append, List.length_cons, List.length_nil, z8] at * <;> first | with_reducible assumption | omega) | (simp at * <;> omega))) (And.intro (zo r n (by first | assumption | omega | (exact zc (by omega) (by omega)) | (simp only [z8] at * <;> omega) | (simp only [GS.some_l, List.length_set, List.length_append, List.length_cons, List.length_nil] at * <;> first | with_reducible assumption | omega) | (simp only [GS.some_l, List.length_set, List.length_append, List.length_cons, List.length_nil, z8] at * <;> first | with_reducible assumption | omega) | (simp at * <;> omega))) (And.intro h2 (And.intro (zq S_Span.D r) (And.intro h1 (And.intro (T_r_Valid r (by first | assumption | omega | (exact zc (by omega) (by omega)) | (simp only [z8] at * <;> omega) | (simp only [GS.some_l, List.length_set, List.length_append, List.length_cons, List.length_nil] at * <;> first | with_reducible assumption | omega) | (simp only [GS.some_l, List.length_set, List.length_append, List.length_cons, List.length_nil, z8] at * <;> first | with_reducible assumption | omega) | (simp at * <;> omega))) (And.intro (Eq.refl true) (And.intro sane_ok trivial))))))))))))) (by kernel_rfl)
            | false =>
              have g7 := of_decide_eq_false h7
              have p1 := (T_ranges_Has r ((za r n).1) (by first | assumption | omega | (exact zc (by omega) (by omega)) | (simp only [z8] at * <;> omega) | (simp only [GS.some_l, List.length_set, List.length_append, List.length_cons, List.length_nil] at * <;> first | with_reducible assumption | omega) | (simp only [GS.some_l, List.length_set, List.length_append, List.length_cons, List.length_nil, z8] at * <;> first | with_reducible assumption | omega) | (simp at * <;> omega)))
              cases h9 : ((ranges_Has r ((za r n).1)).1) with
              | true =>
                cases h10 : (((ranges_Has r ((za r n).1)).2) != 0) with
                | true =>
                  have g10 := bne_true h10
                  exact ze ((zk r n) ++ ((zu r n) ++ [.dec true, .dec true])) (And.intro h10 (And.intro h9 (And.intro p1 (And.intro h7 (And.intro h5 (And.intro h4 (And.intro h3 (And.intro (zn r (by first | assumption | omega | (exact zc (by omega) (by omega)) | (simp only [z8] at * <;> omega) | (simp only [GS.some_l, List.length_set, List.length_append, List.length_cons, List.length_nil] at * <;> first | with_reducible assumption | omega) | (simp only [GS.some_l, List.length_set, List.length_append, List.length_cons, List.length_nil, z8] at * <;> first | with_reducible assumption | omega) | (simp at * <;> omega))) (And.intro (zo r n (by first | assumption | omega | (exact zc (by omega) (by omega)) | (simp only [z8] at * <;> omega) | (simp only [GS.some_l, List.length_set, List.length_append, List.length_cons, List.length_nil] at * <;> first | with_reducible assumption | omega) | (simp only [GS.some_l, List.length_set, List.length_append, List.length_cons, List.length_nil, z8] at * <;> first | with_reducible assumption | omega) | (simp at * <;> omega))) (And.intro h2 (And.intro (zq S_Span.D r) (And.intro h1 (And.intro (T_r_Valid r (by first | assumption | omega | (exact zc (by omega) (by omega)) | (simp only [z8] at * <;> omega) | (simp only [GS.some_l, List.length_set, List.length_append, List.length_cons, List.length_nil] at * <;> first | with_reducible assumption | omega) | (simp only [GS.some_l, List.length_set, List.length_append, List.length_cons, List.length_nil, z8] at * <;> first | with_reducible assumption | omega) | (simp at * <;> omega))) (And.intro (Eq.refl true) (And.intro sane_ok trivial))))))))))))))) (by kernel_rfl)
                | false =>
                  have g10 := bne_false h10
                  cases h11 : decide (((za r n).1) < (((zp r).1).lo)) with
                  | true =>
                    have g11 := of_decide_eq_true h11
                    exact ze ((zk r n) ++ ((zu r n) ++ [.dec true, .dec false, .dec true])) (And.intro h11 (And.intro h10 (And.intro h9 (And.intro p1 (And.intro h7 (And.intro h5 (And.intro h4 (And.intro h3 (And.intro (zn r (by first | assumption | omega | (exact zc (by omega) (by omega)) | (simp only [z8] at * <;> omega) | (simp only [GS.some_l, List.length_set, List.length_append, List.length_cons, List.length_nil] at * <;> first | with_reducible assumption | omega) | (simp only [GS.some_l, List.length_set, List.length_append, List.length_cons, List.length_nil, z8] at * <;> first | with_reducible assumption | omega) | (simp at * <;> omega))) (And.intro (zo r n (by first | assumption | omega | (exact zc (by omega) (by omega)) | (simp only [z8] at * <;> omega) | (simp only [GS.some_l, List.length_set, List.length_append, List.length_cons, List.length_nil] at * <;> first | with_reducible assumption | omega) | (simp only [GS.some_l, List.length_set, List.length_append, List.length_cons, List.length_nil, z8] at * <;> first | with_reducible assumption | omega) | (simp at * <;> omega))) (And.intro h2 (And.intro (zq S_Span.D r) (And.intro h1 (And.intro (T_r_Valid r (by first | assumption | omega | (exact zc (by omega) (by omega)) | (simp only [z8] at * <;> omega) | (simp only [GS.some_l, List.length_set, List.length_append, List.length_cons, List.length_nil] at * <;> first | with_reducible assumption | omega) | (simp only [GS.some_l, List.length_set, List.length_append, List.length_cons, List.length_nil, z8] at * <;> first | with_reducible assumption | omega) | (simp at * <;> omega))) (And.intro (Eq.refl true) (And.intro sane_ok trivial)))))))))))))))) (by kernel_rfl)
                  | false =>
                    have g11 := of_decide_eq_false h11
                    cases h12 : decide (((za r n).1) > (((zp r).1).hi)) with
                    | true =>
                      have g12 := of_decide_eq_true h12
                      exact ze ((zk r n) ++ ((zu r n) ++ [.dec true, .dec false, .dec false, .dec true])) (And.intro h12 (And.intro h11 (And.intro h10 (And.intro h9 (And.intro p1 (And.intro h7 (And.intro h5 (And.intro h4 (And.intro h3 (And.intro (zn r (by first | assumption | omega | (exact zc (by omega) (by omega)) | (simp only [z8] at * <;> omega) | (simp only [GS.some_l, List.length_set, List.length_append, List.length_cons, List.length_nil] at * <;> first | with_reducible assumption | omega) | (simp only [GS.some_l, List.length_set, List.length_append, List.length_cons, List.length_nil, z8] at * <;> first | with_reducible assumption | omega) | (simp at * <;> omega))) (And.intro (zo r n (by first | assumption | omega | (exact zc (by omega) (by omega)) | (simp only [z8] at * <;> omega) | (simp only [GS.some_l, List.length_set, List.length_append, List.length_cons, List.length_nil] at * <;> first | with_reducible assumption | omega) | (simp only [GS.some_l, List.length_set, List.length_append, List.length_cons, List.length_nil, z8] at * <;> first | with_reducible assumption | omega) | (simp at * <;> omega))) (And.intro h2 (And.intro (zq S_Span.D r) (And.intro h1 (And.intro (T_r_Valid r (by first | assumption | omega | (exact zc (by omega) (by omega)) | (simp only [z8] at * <;> omega) | (simp only [GS.some_l, List.length_set, List.length_append, List.length_cons, List.length_nil] at * <;> first | with_reducible assumption | omega) | (simp only [GS.some_l, List.length_set, List.length_append, List.length_cons, List.length_nil, z8] at * <;> first | with_reducible assumption | omega) | (simp at * <;> omega))) (And.intro (Eq.refl true) (And.intro sane_ok trivial))))))))))))))))) (by kernel_rfl)
                    | false =>
                      have g12 := of_decide_eq_false h12
                      cases h13 : (((za r n).1) == n) with
                      | true =>
                        have g13 := eq_of_beq h13
                        exact ze ((zk r n) ++ ((zu r n) ++ [.dec true, .dec false, .dec false, .dec false, .dec true])) (And.intro h13 (And.intro h12 (And.intro h11 (And.intro h10 (And.intro h9 (And.intro p1 (And.intro h7 (And.intro h5 (And.intro h4 (And.intro h3 (And.intro (zn r (by first | assumption | omega | (exact zc (by omega) (by omega)) | (simp only [z8] at * <;> omega) | (simp only [GS.some_l, List.length_set, List.length_append, List.length_cons, List.length_nil] at * <;> first | with_reducible assumption | omega) | (simp only [GS.some_l, List.length_set, List.length_append, List.length_cons, List.length_nil, z8] at * <;> first | with_reducible assumption | omega) | (simp at * <;> omega))) (And.intro (zo r n (by first | assumption | omega | (exact zc (by omega) (by omega)) | (simp only [z8] at * <;> omega) | (simp only [GS.some_l, List.length_set, List.length_append, List.length_cons, List.length_nil] at * <;> first | with_reducible assumption | omega) | (simp only [GS.some_l, List.length_set, List.length_append, List.length_cons, List.length_nil, z8] at * <;> first | with_reducible assumption | omega) | (simp at * <;> omega))) (And.intro h2 (And.intro (zq S_Span.D r) (And.intro h1 (And.intro (T_r_Valid r (by first | assumption | omega | (exact zc (by omega) (by omega)) | (simp only [z8] at * <;> omega) | (simp only [GS.some_l, List.length_set, List.length_append, List.length_cons, List.length_nil] at * <;> first | with_reducible assumption | omega) | (simp only [GS.some_l, List.length_set, List.length_append, List.length_cons, List.length_nil, z8] at * <;> first | with_reducible assumption | omega) | (simp at * <;> omega))) (And.intro (Eq.refl true) (And.intro sane_ok trivial)))))))))))))))))) (by kernel_rfl)
                      | false =>
                        have g13 := ne_of_beq_false h13
                        cases h14 : decide (((za r n).1) < n) with
                        | true =>
                          have g14 := of_decide_eq_true h14
                          have p2 := (T_ranges_Next r ((za r n).1) (by first | assumption | omega | (exact zc (by omega) (by omega)) | (simp only [z8] at * <;> omega) | (simp only [GS.some_l, List.length_set, List.length_append, List.length_cons, List.length_nil] at * <;> first | with_reducible assumption | omega) | (simp only [GS.some_l, List.length_set, List.length_append, List.length_cons, List.length_nil, z8] at * <;> first | with_reducible assumption | omega) | (simp at * <;> omega)))
                          cases h15 : ((zm r ((za r n).1)).2.1) with
                          | true =>
                            cases h16 : (((zm r ((za r n).1)).2.2) == 0) with
                            | true =>
                              have g16 := eq_of_beq h16
                              cases h17 : decide ((w64 (((zm r ((za r n).1)).1) - n)) ≥ (w64 (n - ((za r n).1)))) with
                              | true =>
                                have g17 := of_decide_eq_true h17
                                exact ze ((zk r n) ++ ((zu r n) ++ ((l_RangesNear_o3 r n) ++ [.dec true, .dec true, .dec true]))) (And.intro h17 (And.intro h16 (And.intro h15 (And.intro p2 (And.intro h14 (And.intro h13 (And.intro h12 (And.intro h11 (And.intro h10 (And.intro h9 (And.intro p1 (And.intro h7 (And.intro h5 (And.intro h4 (And.intro h3 (And.intro (zn r (by first | assumption | omega | (exact zc (by omega) (by omega)) | (simp only [z8] at * <;> omega) | (simp only [GS.some_l, List.length_set, List.length_append, List.length_cons, List.length_nil] at * <;> first | with_reducible assumption | omega) | (simp only [GS.some_l, List.length_set, List.length_append, List.length_cons, List.length_nil, z8] at * <;> first | with_reducible assumption | omega) | (simp at * <;> omega))) (And.intro (zo r n (by first | assumption | omega | (exact zc (by omega) (by omega)) | (simp only [z8] at * <;> omega) | (simp only [GS.some_l, List.length_set, List.length_append, List.length_cons, List.length_nil] at * <;> first | with_reducible assumption | omega) | (simp only [GS.some_l, List.length_set, List.length_append, List.length_cons, List.length_nil, z8] at * <;> first | with_reducible assumption | omega) | (simp at * <;> omega))) (And.intro h2 (And.intro (zq S_Span.D r) (And.intro h1 (And.intro (T_r_Valid r (by first | assumption | omega | (exact zc (by omega) (by omega)) | (simp only [z8] at * <;> omega) | (simp only [GS.some_l, List.length_set, List.length_append, List.length_cons, List.length_nil] at * <;> first | with_reducible assumption | omega) | (simp only [GS.some_l, List.length_set, List.length_append, List.length_cons, List.length_nil, z8] at * <;> first | with_reducible assumption | omega) | (simp at * <;> omega))) (And.intro (Eq.refl true) (And.intro sane_ok trivial))))))))))))))))))))))) (by kernel_rfl)
                              | false =>
                                have g17 := of_decide_eq_false h17
                                exact ze ((zk r n) ++ ((zu r n) ++ ((l_RangesNear_o3 r n) ++ [.dec true, .dec true, .dec false]))) (And.intro h17 (And.intro h16 (And.intro h15 (And.intro p2 (And.intro h14 (And.intro h13 (And.intro h12 (And.intro h11 (And.intro h10 (And.intro h9 (And.intro p1 (And.intro h7 (And.intro h5 (And.intro h4 (And.intro h3 (And.intro (zn r (by first | assumption | omega | (exact zc (by omega) (by omega)) | (simp only [z8] at * <;> omega) | (simp only [GS.some_l, List.length_set, List.length_append, List.length_cons, List.length_nil] at * <;> first | with_reducible assumption | omega) | (simp only [GS.some_l, List.length_set, List.length_append, List.length_cons, List.length_nil, z8] at * <;> first | with_reducible assumption | omega) | (simp at * <;> omega))) (And.intro (zo r n (by first | assumption | omega | (exact zc (by omega) (by omega)) | (simp only [z8] at * <;> omega) | (simp only [GS.some_l, List.length_set, List.length_append, List.length_cons, List.length_nil] at * <;> first | with_reducible assumption | omega) | (simp only [GS.some_l, List.length_set, List.length_append, List.length_cons, List.length_nil, z8] at * <;> first | with_reducible assumption | omega) | (simp at * <;> omega))) (And.intro h2 (And.intro (zq S_Span.D r) (And.intro h1 (And.intro (T_r_Valid r (by first | assumption | omega | (exact zc (by omega) (by omega)) | (simp only [z8] at * <;> omega) | (simp only [GS.some_l, List.length_set, List.length_append, List.length_cons, List.length_nil] at * <;> first | with_reducible assumption | omega) | (simp only [GS.some_l, List.length_set, List.length_append, List.length_cons, List.length_nil, z8] at * <;> first | with_reducible assumption | omega) | (simp at * <;> omega))) (And.intro (Eq.refl true) (And.intro sane_ok trivial))))))))))))))))))))))) (by kernel_rfl)
                            | false =>
                              have g16 := ne_of_beq_false h16
                              exact ze ((zk r n) ++ ((zu r n) ++ ((l_RangesNear_o3 r n) ++ [.dec true, .dec false]))) (And.intro h16 (And.intro h15 (And.intro p2 (And.intro h14 (And.intro h13 (And.intro h12 (And.intro h11 (And.intro h10 (And.intro h9 (And.intro p1 (And.intro h7 (And.intro h5 (And.intro h4 (And.intro h3 (And.intro (zn r (by first | assumption | omega | (exact zc (by omega) (by omega)) | (simp only [z8] at * <;> omega) | (simp only [GS.some_l, List.length_set, List.length_append, List.length_cons, List.length_nil] at * <;> first | with_reducible assumption | omega) | (simp only [GS.some_l, List.length_set, List.length_append, List.length_cons, List.length_nil, z8] at * <;> first | with_reducible assumption | omega) | (simp at * <;> omega))) (And.intro (zo r n (by first | assumption | omega | (exact zc (by omega) (by omega)) | (simp only [z8] at * <;> omega) | (simp only [GS.some_l, List.length_set, List.length_append, List.length_cons, List.length_nil] at * <;> first | with_reducible assumption | omega) | (simp only [GS.some_l, List.length_set, List.length_append, List.length_cons, List.length_nil, z8] at * <;> first | with_reducible assumption | omega) | (simp at * <;> omega))) (And.intro h2 (And.intro (zq S_Span.D r) (And.intro h1 (And.intro (T_r_Valid r (by first | assumption | omega | (exact zc (by omega) (by omega)) | (simp only [z8] at * <;> omega) | (simp only [GS.some_l, List.length_set, List.length_append, List.length_cons, List.length_nil] at * <;> first | with_reducible assumption | omega) | (simp only [GS.some_l, List.length_set, List.length_append, List.length_cons, List.length_nil, z8] at * <;> first | with_reducible assumption | omega) | (simp at * <;> omega))) (And.intro (Eq.refl true) (And.intro sane_ok trivial)))))))))))))))))))))) (by kernel_rfl)
                          | false =>
                            cases h18 : (((zm r ((za r n).1)).2.2) == 0) with
                            | true =>
                              have g18 := eq_of_beq h18
                              exact ze ((zk r n) ++ ((zu r n) ++ ((l_RangesNear_o3 r n) ++ [.dec false, .dec true]))) (And.intro h18 (And.intro h15 (And.intro p2 (And.intro h14 (And.intro h13 (And.intro h12 (And.intro h11 (And.intro h10 (And.intro h9 (And.intro p1 (And.intro h7 (And.intro h5 (And.intro h4 (And.intro h3 (And.intro (zn r (by first | assumption | omega | (exact zc (by omega) (by omega)) | (simp only [z8] at * <;> omega) | (simp only [GS.some_l, List.length_set, List.length_append, List.length_cons, List.length_nil] at * <;> first | with_reducible assumption | omega) | (simp only [GS.some_l, List.length_set, List.length_append, List.length_cons, List.length_nil, z8] at * <;> first | with_reducible assumption | omega) | (simp at * <;> omega))) (And.intro (zo r n (by first | assumption | omega | (exact zc (by omega) (by omega)) | (simp only [z8] at * <;> omega) | (simp only [GS.some_l, List.length_set, List.length_append, List.length_cons, List.length_nil] at * <;> first | with_reducible assumption | omega) | (simp only [GS.some_l, List.length_set, List.length_append, List.length_cons, List.length_nil, z8] at * <;> first | with_reducible assumption | omega) | (simp at * <;> omega))) (And.intro h2 (And.intro (zq S_Span.D r) (And.intro h1 (And.intro (T_r_Valid r (by first | assumption | omega | (exact zc (by omega) (by omega)) | (simp only [z8] at * <;> omega) | (simp only [GS.some_l, List.length_set, List.length_append, List.length_cons, List.length_nil] at * <;> first | with_reducible assumption | omega) | (simp only [GS.some_l, List.length_set, List.length_append, List.length_cons, List.length_nil, z8] at * <;> first | with_reducible assumption | omega) | (simp at * <;> omega))) (And.intro (Eq.refl true) (And.intro sane_ok trivial)))))))))))))))))))))) (by kernel_rfl)
                            | false =>
                              have g18 := ne_of_beq_false h18
                              exact ze ((zk r n) ++ ((zu r n) ++ ((l_RangesNear_o3 r n) ++ [.dec false, .dec false]))) (And.intro h18 (And.intro h15 (And.intro p2 (And.intro h14 (And.intro h13 (And.intro h12 (And.intro h11 (And.intro h10 (And.intro h9 (And.intro p1 (And.intro h7 (And.intro h5 (And.intro h4 (And.intro h3 (And.intro (zn r (by first | assumption | omega | (exact zc (by omega) (by omega)) | (simp only [z8] at * <;> omega) | (simp only [GS.some_l, List.length_set, List.length_append, List.length_cons, List.length_nil] at * <;> first | with_reducible assumption | omega) | (simp only [GS.some_l, List.length_set, List.length_append, List.length_cons, List.length_nil, z8] at * <;> first | with_reducible assumption | omega) | (simp at * <;> omega))) (And.intro (zo r n (by first | assumption | omega | (exact zc (by omega) (by omega)) | (simp only [z8] at * <;> omega) | (simp only [GS.some_l, List.length_set, List.length_append, List.length_cons, List.length_nil] at * <;> first | with_reducible assumption | omega) | (simp only [GS.some_l, List.length_set, List.length_append, List.length_cons, List.length_nil, z8] at * <;> first | with_reducible assumption | omega) | (simp at * <;> omega))) (And.intro h2 (And.intro (zq S_Span.D r) (And.intro h1 (And.intro (T_r_Valid r (by first | assumption | omega | (exact zc (by omega) (by omega)) | (simp only [z8] at * <;> omega) | (simp only [GS.some_l, List.length_set, List.length_append, List.length_cons, List.length_nil] at * <;> first | with_reducible assumption | omega) | (simp only [GS.some_l, List.length_set, List.length_append, List.length_cons, List.length_nil, z8] at * <;> first | with_reducible assumption | omega) | (simp at * <;> omega))) (And.intro (Eq.refl true) (And.intro sane_ok trivial)))))))))))))))))))))) (by kernel_rfl)
                        | false =>
                          have g14 := of_decide_eq_false h14
                          have p3 := (T_ranges_Next r (w64 ((w64 (n - (w64 (((za r n).1) - n)))) - 1)) (by first | assumption | omega | (exact zc (by omega) (by omega)) | (simp only [z8] at * <;> omega) | (simp only [GS.some_l, List.length_set, List.length_append, List.length_cons, List.length_nil] at * <;> first | with_reducible assumption | omega) | (simp only [GS.some_l, List.length_set, List.length_append, List.length_cons, List.length_nil, z8] at * <;> first | with_reducible assumption | omega) | (simp at * <;> omega)))
                          cases h19 : ((zm r (w64 ((w64 (n - (w64 (((za r n).1) - n)))) - 1))).2.1) with
                          | true =>
                            cases h20 : (((zm r (w64 ((w64 (n - (w64 (((za r n).1) - n)))) - 1))).2.2) == 0) with
                            | true =>
                              have g20 := eq_of_beq h20
                              cases h21 : (((zm r (w64 ((w64 (n - (w64 (((za r n).1) - n)))) - 1))).1) == ((za r n).1)) with
                              | true =>
                                have g21 := eq_of_beq h21
                                exact ze ((zk r n) ++ ((zu r n) ++ ((l_RangesNear_o4 r n) ++ [.dec true, .dec true, .dec true]))) (And.intro h21 (And.intro h20 (And.intro h19 (And.intro p3 (And.intro h14 (And.intro h13 (And.intro h12 (And.intro h11 (And.intro h10 (And.intro h9 (And.intro p1 (And.intro h7 (And.intro h5 (And.intro h4 (And.intro h3 (And.intro (zn r (by first | assumption | omega | (exact zc (by omega) (by omega)) | (simp only [z8] at * <;> omega) | (simp only [GS.some_l, List.length_set, List.length_append, List.length_cons, List.length_nil] at * <;> first | with_reducible assumption | omega) | (simp only [GS.some_l, List.length_set, List.length_append, List.length_cons, List.length_nil, z8] at * <;> first | with_reducible assumption | omega) | (simp at * <;> omega))) (And.intro (zo r n (by first | assumption | omega | (exact zc (by omega) (by omega)) | (simp only [z8] at * <;> omega) | (simp only [GS.some_l, List.length_set, List.length_append, List.length_cons, List.length_nil] at * <;> first | with_reducible assumption | omega) | (simp only [GS.some_l, List.length_set, List.length_append, List.length_cons, List.length_nil, z8] at * <;> first | with_reducible assumption | omega) | (simp at * <;> omega))) (And.intro h2 (And.intro (zq S_Span.D r) (And.intro h1 (And.intro (T_r_Valid r (by first | assumption | omega | (exact zc (by omega) (by omega)) | (simp only [z8] at * <;> omega) | (simp only [GS.some_l, List.length_set, List.length_append, List.length_cons, List.length_nil] at * <;> first | with_reducible assumption | omega) | (simp only [GS.some_l, List.length_set, List.length_append, List.length_cons, List.length_nil, z8] at * <;> first | with_reducible assumption | omega) | (simp at * <;> omega))) (And.intro (Eq.refl true) (And.intro sane_ok trivial))))))))))))))))))))))) (by kernel_rfl)
                              | false =>
                                have g21 := ne_of_beq_false h21
                                exact ze ((zk r n) ++ ((zu r n) ++ ((l_RangesNear_o4 r n) ++ [.dec true, .dec true, .dec false]))) (And.intro h21 (And.intro h20 (And.intro h19 (And.intro p3 (And.intro h14 (And.intro h13 (And.intro h12 (And.intro h11 (And.intro h10 (And.intro h9 (And.intro p1 (And.intro h7 (And.intro h5 (And.intro h4 (And.intro h3 (And.intro (zn r (by first | assumption | omega | (exact zc (by omega) (by omega)) | (simp only [z8] at * <;> omega) | (simp only [GS.some_l, List.length_set, List.length_append, List.length_cons, List.length_nil] at * <;> first | with_reducible assumption | omega) | (simp only [GS.some_l, List.length_set, List.length_append, List.length_cons, List.length_nil, z8] at * <;> first | with_reducible assumption | omega) | (simp at * <;> omega))) (And.intro (zo r n (by first | assumption | omega | (exact zc (by omega) (by omega)) | (simp only [z8] at * <;> omega) | (simp only [GS.some_l, List.length_set, List.length_append, List.length_cons, List.length_nil] at * <;> first | with_reducible assumption | omega) | (simp only [GS.some_l, List.length_set, List.length_append, List.length_cons, List.length_nil, z8] at * <;> first | with_reducible assumption | omega) | (simp at * <;> omega))) (And.intro h2 (And.intro (zq S_Span.D r) (And.intro h1 (And.intro (T_r_Valid r (by first | assumption | omega | (exact zc (by omega) (by omega)) | (simp only [z8] at * <;> omega) | (simp only [GS.some_l, List.length_set, List.length_append, List.length_cons, List.length_nil] at * <;> first | with_reducible assumption | omega) | (simp only [GS.some_l, List.length_set, List.length_append, List.length_cons, List.length_nil, z8] at * <;> first | with_reducible assumption | omega) | (simp at * <;> omega))) (And.intro (Eq.refl true) (And.intro sane_ok trivial))))))))))))))))))))))) (by kernel_rfl)
                            | false =>
                              have g20 := ne_of_beq_false h20
                              exact ze ((zk r n) ++ ((zu r n) ++ ((l_RangesNear_o4 r n) ++ [.dec true, .dec false]))) (And.intro h20 (And.intro h19 (And.intro p3 (And.intro h14 (And.intro h13 (And.intro h12 (And.intro h11 (And.intro h10 (And.intro h9 (And.intro p1 (And.intro h7 (And.intro h5 (And.intro h4 (And.intro h3 (And.intro (zn r (by first | assumption | omega | (exact zc (by omega) (by omega)) | (simp only [z8] at * <;> omega) | (simp only [GS.some_l, List.length_set, List.length_append, List.length_cons, List.length_nil] at * <;> first | with_reducible assumption | omega) | (simp only [GS.some_l, List.length_set, List.length_append, List.length_cons, List.length_nil, z8] at * <;> first | with_reducible assumption | omega) | (simp at * <;> omega))) (And.intro (zo r n (by first | assumption | omega | (exact zc (by omega) (by omega)) | (simp only [z8] at * <;> omega) | (simp only [GS.some_l, List.length_set, List.length_append, List.length_cons, List.length_nil] at * <;> first | with_reducible assumption | omega) | (simp only [GS.some_l, List.length_set, List.length_append, List.length_cons, List.length_nil, z8] at * <;> first | with_reducible assumption | omega) | (simp at * <;> omega))) (And.intro h2 (And.intro (zq S_Span.D r) (And.intro h1 (And.intro (T_r_Valid r (by first | assumption | omega | (exact zc (by omega) (by omega)) | (simp only [z8] at * <;> omega) | (simp only [GS.some_l, List.length_set, List.length_append, List.length_cons, List.length_nil] at * <;> first | with_reducible assumption | omega) | (simp only [GS.some_l, List.length_set, List.length_append, List.length_cons, List.length_nil, z8] at * <;> first | with_reducible assumption | omega) | (simp at * <;> omega))) (And.intro (Eq.refl true) (And.intro sane_ok trivial)))))))))))))))))))))) (by kernel_rfl)
                          | false =>
                            cases h22 : (((zm r (w64 ((w64 (n - (w64 (((za r n).1) - n)))) - 1))).2.2) == 0) with
                            | true =>
                              have g22 := eq_of_beq h22
                              exact ze ((zk r n) ++ ((zu r n) ++ ((l_RangesNear_o4 r n) ++ [.dec false, .dec true]))) (And.intro h22 (And.intro h19 (And.intro p3 (And.intro h14 (And.intro h13 (And.intro h12 (And.intro h11 (And.intro h10 (And.intro h9 (And.intro p1 (And.intro h7 (And.intro h5 (And.intro h4 (And.intro h3 (And.intro (zn r (by first | assumption | omega | (exact zc (by omega) (by omega)) | (simp only [z8] at * <;> omega) | (simp only [GS.some_l, List.length_set, List.length_append, List.length_cons, List.length_nil] at * <;> first | with_reducible assumption | omega) | (simp only [GS.some_l, List.length_set, List.length_append, List.length_cons, List.length_nil, z8] at * <;> first | with_reducible assumption | omega) | (simp at * <;> omega))) (And.intro (zo r n (by first | assumption | omega | (exact zc (by omega) (by omega)) | (simp only [z8] at * <;> omega) | (simp only [GS.some_l, List.length_set, List.length_append, List.length_cons, List.length_nil] at * <;> first | with_reducible assumption | omega) | (simp only [GS.some_l, List.length_set, List.length_append, List.length_cons, List.length_nil, z8] at * <;> first | with_reducible assumption | omega) | (simp at * <;> omega))) (And.intro h2 (And.intro (zq S_Span.D r) (And.intro h1 (And.intro (T_r_Valid r (by first | assumption | omega | (exact zc (by omega) (by omega)) | (simp only [z8] at * <;> omega) | (simp only [GS.some_l, List.length_set, List.length_append, List.length_cons, List.length_nil] at * <;> first | with_reducible assumption | omega) | (simp only [GS.some_l, List.length_set, List.length_append, List.length_cons, List.length_nil, z8] at * <;> first | with_reducible assumption | omega) | (simp at * <;> omega))) (And.intro (Eq.refl true) (And.intro sane_ok trivial)))))))))))))))))))))) (by kernel_rfl)
                            | false =>
                              have g22 := ne_of_beq_false h22
                              exact ze ((zk r n) ++ ((zu r n) ++ ((l_RangesNear_o4 r n) ++ [.dec false, .dec false]))) (And.intro h22 (And.intro h19 (And.intro p3 (And.intro h14 (And.intro h13 (And.intro h12 (And.intro h11 (And.intro h10 (And.intro h9 (And.intro p1 (And.intro h7 (And.intro h5 (And.intro h4 (And.intro h3 (And.intro (zn r (by first | assumption | omega | (exact zc (by omega) (by omega)) | (simp only [z8] at * <;> omega) | (simp only [GS.some_l, List.length_set, List.length_append, List.length_cons, List.length_nil] at * <;> first | with_reducible assumption | omega) | (simp only [GS.some_l, List.length_set, List.length_append, List.length_cons, List.length_nil, z8] at * <;> first | with_reducible assumption | omega) | (simp at * <;> omega))) (And.intro (zo r n (by first | assumption | omega | (exact zc (by omega) (by omega)) | (simp only [z8] at * <;> omega) | (simp only [GS.some_l, List.length_set, List.length_append, List.length_cons, List.length_nil] at * <;> first | with_reducible assumption | omega) | (simp only [GS.some_l, List.length_set, List.length_append, List.length_cons, List.length_nil, z8] at * <;> first | with_reducible assumption | omega) | (simp at * <;> omega))) (And.intro h2 (And.intro (zq S_Span.D r) (And.intro h1 (And.intro (T_r_Valid r (by first | assumption | omega | (exact zc (by omega) (by omega)) | (simp only [z8] at * <;> omega) | (simp only [GS.some_l, List.length_set, List.length_append, List.length_cons, List.length_nil] at * <;> first | with_reducible assumption | omega) | (simp only [GS.some_l, List.length_set, List.length_append, List.length_cons, List.length_nil, z8] at * <;> first | with_reducible assumption | omega) | (simp at * <;> omega))) (And.intro (Eq.refl true) (And.intro sane_ok trivial)))))))))))))))))))))) (by kernel_rfl)
              | false =>
                cases h23 : (((ranges_Has r ((za r n).1)).2) != 0) with
                | true =>
                  have g23 := bne_true h23
                  exact ze ((zk r n) ++ ((zu r n) ++ [.dec false, .dec true])) (And.intro h23 (And.intro h9 (And.intro p1 (And.intro h7 (And.intro h5 (And.intro h4 (And.intro h3 (And.intro (zn r (by first | assumption | omega | (exact zc (by omega) (by omega)) | (simp only [z8] at * <;> omega) | (simp only [GS.some_l, List.length_set, List.length_append, List.length_cons, List.length_nil] at * <;> first | with_reducible assumption | omega) | (simp only [GS.some_l, List.length_set, List.length_append, List.length_cons, List.length_nil, z8] at * <;> first | with_reducible assumption | omega) | (simp at * <;> omega))) (And.intro (zo r n (by first | assumption | omega | (exact zc (by omega) (by omega)) | (simp only [z8] at * <;> omega) | (simp only [GS.some_l, List.length_set, List.length_append, List.length_cons, List.length_nil] at * <;> first | with_reducible assumption | omega) | (simp only [GS.some_l, List.length_set, List.length_append, List.length_cons, List.length_nil, z8] at * <;> first | with_reducible assumption | omega) | (simp at * <;> omega))) (And.intro h2 (And.intro (zq S_Span.D r) (And.intro h1 (And.intro (T_r_Valid r (by first | assumption | omega | (exact zc (by omega) (by omega)) | (simp only [z8] at * <;> omega) | (simp only [GS.some_l, List.length_set, List.length_append, List.length_cons, List.length_nil] at * <;> first | with_reducible assumption | omega) | (simp only [GS.some_l, List.length_set, List.length_append, List.length_cons, List.length_nil, z8] at * <;> first | with_reducible assumption | omega) | (simp at * <;> omega))) (And.intro (Eq.refl true) (And.intro sane_ok trivial))))))))))))))) (by kernel_rfl)
                | false =>
                  have g23 := bne_false h23
                  exact ze ((zk r n) ++ ((zu r n) ++ [.dec false, .dec false])) (And.intro h23 (And.intro h9 (And.intro p1 (And.intro h7 (And.intro h5 (And.intro h4 (And.intro h3 (And.intro (zn r (by first | assumption | omega | (exact zc (by omega) (by omega)) | (simp only [z8] at * <;> omega) | (simp only [GS.some_l, List.length_set, List.length_append, List.length_cons, List.length_nil] at * <;> first | with_reducible assumption | omega) | (simp only [GS.some_l, List.length_set, List.length_append, List.length_cons, List.length_nil, z8] at * <;> first | with_reducible assumption | omega) | (simp at * <;> omega))) (And.intro (zo r n (by first | assumption | omega | (exact zc (by omega) (by omega)) | (simp only [z8] at * <;> omega) | (simp only [GS.some_l, List.length_set, List.length_append, List.length_cons, List.length_nil] at * <;> first | with_reducible assumption | omega) | (simp only [GS.some_l, List.length_set, List.length_append, List.length_cons, List.length_nil, z8] at * <;> first | with_reducible assumption | omega) | (simp at * <;> omega))) (And.intro h2 (And.intro (zq S_Span.D r) (And.intro h1 (And.intro (T_r_Valid r (by first | assumption | omega | (exact zc (by omega) (by omega)) | (simp only [z8] at * <;> omega) | (simp only [GS.some_l, List.length_set, List.length_append, List.length_cons, List.length_nil] at * <;> first | with_reducible assumption | omega) | (simp only [GS.some_l, List.length_set, List.length_append, List.length_cons, List.length_nil, z8] at * <;> first | with_reducible assumption | omega) | (simp at * <;> omega))) (And.intro (Eq.refl true) (And.intro sane_ok trivial))))))))))))))) (by kernel_rfl)
  | false =>
    exact ze [.pure (B true), .dec true, .pure (B (r_Valid r)), .dec false] (And.intro h1 (And.intro (T_r_Valid r (by first | assumption | omega | (exact zc (by omega) (by omega)) | (simp only [z8] at * <;> omega) | (simp only [GS.some_l, List.length_set, List.length_append, List.length_cons, List.length_nil] at * <;> first | with_reducible assumption | omega) | (simp only [GS.some_l, List.length_set, List.length_append, List.length_cons, List.length_nil, z8] at * <;> first | with_reducible assumption | omega) | (simp at * <;> omega))) (And.intro (Eq.refl true) (And.intro sane_ok trivial)))) (by kernel_rfl)
end Go.VS

/-
  The seat's program: its tables are right; what its arguments stand for. (Printed by go/oq.py, a program of this claim's own; nothing of it is trusted.)
-/
namespace Go.VS
open Go Go.Proofs Go.RowKit Go.ChangeShapes Go.WideShapes
set_option maxRecDepth 100000
theorem laid_out : laidOutB Tryz.prog = true := by kernel_rfl
theorem maps_rowed : mapsRowed Tryz.prog = true := by kernel_rfl
theorem sl_full : ∀ t e, t < Tryz.prog.types.size → Tryz.prog.underlying t = some (.slice e) → 0 < Tryz.prog.cellsOf e := slices_full_of Tryz.prog (by kernel_rfl)
theorem i64_min : IntKind.i64.min = -9223372036854775808 := by rfl
theorem i64_max : IntKind.i64.max = 9223372036854775807 := by rfl
def R64 (n : Int) : Prop := -9223372036854775808 ≤ n ∧ n ≤ 9223372036854775807
section
variable {H : Type} {enc : TypeId × Value → H} {w : World} {base base' : Nat} {sp : Nat → Bool} {held : Bool} {t : TypeId} {v : Value} {d : DataW H} {p : List MemPlace} {r : Reach}
theorem arg_rep (h : DataW.Trod enc Tryz.prog w base sp held t v d p) (hv : Value.okWide Tryz.prog w r base' t v) (ht : topT cfg 8 t = true) (hr : rowedT cfg 8 t = true) :
    ∃ ds, zg (memOf w) noLoc ds v.cells.toList ∧ Sh cfg 8 t ds := by
  obtain ⟨n, hn⟩ := h
  exact trod_rep (C := cfg) (fun t ty h => tyTab_ok.find h) 8 n t _ _ hn ht hr (.inl (plain_arg hv))
theorem repL_one {M : Mem} {m : Loc} {d : D} {cs : List Value} (h : zg M m [d] cs) : ∃ v, cs = [v] ∧ Rep M m d v := by
  simp only [zg] at h
  obtain ⟨v, r, h1, h2, rfl⟩ := h
  exact ⟨v, h1, h2⟩
theorem one_cell {x u : Value} (h : x.cells.toList = [u]) (hp : ∀ cs, x ≠ .agg cs) : x = u := by
  cases x <;> simp [Value.cells] at h <;> first | exact h | exact absurd rfl (hp _)
theorem ok_notAgg (hv : Value.okWide Tryz.prog w r base' t v) (hs : ∀ fs, Tryz.prog.underlying t ≠ some (.struct fs)) (ha : ∀ n e, Tryz.prog.underlying t ≠ some (.array n e)) : ∀ cs, v ≠ .agg cs := by
  rintro cs rfl
  unfold Value.okWide at hv
  split at hv
  · rename_i h; exact hs _ h
  · rename_i h; exact ha _ _ h
  · unfold Cell.okWide at hv
    split at hv <;> try (rename_i h1 h2; cases h2; done)
    unfold Cell.ok at hv
    split at hv <;> first | (rename_i h1 h2; cases h2; done) | cases hv
end
theorem sh3 {f : Nat} {ds : List D} (h : Sh cfg (f + 1) 3 ds) : ∃ x : Int, ds = [I x] ∧ R64 x := by
  rw [Sh, cfg_ty, cty3] at h
  simp only [ty3] at h
  obtain ⟨n, h1, h2, h3⟩ := h
  rw [i64_min] at h2
  rw [i64_max] at h3
  exact ⟨n, h1, h2, h3⟩
theorem sh25 {f : Nat} {ds : List D} (h : Sh cfg (f + 2) 25 ds) : ∃ x : S_Span, ds = [I x.lo, I x.hi] ∧ True := by
  rw [Sh, cfg_ty, cty25] at h
  simp only [ty25] at h
  obtain ⟨hl, hf⟩ := h
  obtain ⟨t0, q0, z0⟩ := hf (3, 0) (by simp)
  obtain rfl : t0 = ty3 := (Option.some.inj (cty3.symm.trans q0)).symm
  obtain ⟨x0, e0, r0⟩ := sh3 (f := f + 0) z0
  obtain ⟨t1, q1, z1⟩ := hf (3, 1) (by simp)
  obtain rfl : t1 = ty3 := (Option.some.inj (cty3.symm.trans q1)).symm
  obtain ⟨x1, e1, r1⟩ := sh3 (f := f + 0) z1
  rcases ds with _ | ⟨c0, _ | ⟨c1, _ | ⟨y, r⟩⟩⟩
  all_goals simp at hl
  simp [ty3] at e0
  simp [ty3] at e1
  exact ⟨⟨x0, x1⟩, by simp [*], trivial⟩
theorem sh23 {f : Nat} {ds : List D} (h : Sh cfg (f + 3) 23 ds) : ∃ x : GS S_Span, ds = [.sl x.nl (x.l.map S_Span.D) (zsl x.nl 2) none] ∧ x.l.length ≤ 9223372036854775807 := by
  rw [Sh, cfg_ty, cty23] at h
  simp only [ty23] at h
  rcases h with h | ⟨els, te, h1, h2, h3, h4⟩
  · exact ⟨GS.nil, h, by simp [GS.nil]⟩
  · obtain rfl : te = ty25 := (Option.some.inj (cty25.symm.trans h1)).symm
    have key : ∀ els : List D, (∀ d ∈ els, Sh cfg (f + 2) 25 d.cells ∧ (ty25.isAgg = true → d = .agg d.cells) ∧ (ty25.isAgg = false → d.cells = [d])) → ∃ l : List S_Span, els = l.map S_Span.D := by
      intro els
      induction els with
      | nil => intro _; exact ⟨[], rfl⟩
      | cons d els ih =>
        intro hd
        obtain ⟨l, hl⟩ := ih fun d' h' => hd d' (List.mem_cons_of_mem _ h')
        obtain ⟨q1, q2, q3⟩ := hd d (by simp)
        obtain ⟨a, e, _⟩ := sh25 (f := f + 0) q1
        have hx : d = S_Span.D a := by rw [q2 rfl, e]; rfl
        exact ⟨a :: l, by rw [List.map_cons, ← hx, ← hl]⟩
    obtain ⟨l, rfl⟩ := key els h4
    refine ⟨GS.some l, h2, ?_⟩
    simp only [List.length_map, maxLen] at h3
    simp only [GS.some]
    omega
theorem arg23 {H : Type} {enc : TypeId × Value → H} {w : World} {base base' : Nat} {sp : Nat → Bool} {held : Bool} {v : Value} {d : DataW H} {p : List MemPlace} {r : Reach} (h : DataW.Trod enc Tryz.prog w base sp held 23 v d p) (hv : Value.okWide Tryz.prog w r base' 23 v) : ∃ x : GS S_Span, Rep (memOf w) noLoc (GS.D S_Span.D 2 x) v ∧ x.l.length ≤ 9223372036854775807 := by
  obtain ⟨ds, h1, h2⟩ := arg_rep h hv (by kernel_rfl) (by kernel_rfl)
  obtain ⟨x, rfl, hx⟩ := sh23 (f := 5) h2
  obtain ⟨u, e, hu⟩ := repL_one h1
  exact ⟨x, by rw [one_cell e (ok_notAgg hv (by rw [Tryz.underlying23]; simp) (by rw [Tryz.underlying23]; simp))]; exact hu, hx⟩
theorem arg3 {H : Type} {enc : TypeId × Value → H} {w : World} {base base' : Nat} {sp : Nat → Bool} {held : Bool} {v : Value} {d : DataW H} {p : List MemPlace} {r : Reach} (h : DataW.Trod enc Tryz.prog w base sp held 3 v d p) (hv : Value.okWide Tryz.prog w r base' 3 v) : ∃ x : Int, Rep (memOf w) noLoc (I x) v ∧ R64 x := by
  obtain ⟨ds, h1, h2⟩ := arg_rep h hv (by kernel_rfl) (by kernel_rfl)
  obtain ⟨x, rfl, hx⟩ := sh3 (f := 7) h2
  obtain ⟨u, e, hu⟩ := repL_one h1
  exact ⟨x, by rw [one_cell e (ok_notAgg hv (by rw [Tryz.underlying3]; simp) (by rw [Tryz.underlying3]; simp))]; exact hu, hx⟩
open Go.Lib in
/-- The table of powers, as the rows list it. -/
theorem tab_ok {W : World} (h : laidMetH Tryz.prog [("math/bits.deBruijn32tab", YtpkjnefhnedfdaaGreatDoor.Rows.laid_math_bits_deBruijn32tab), ("math/bits.deBruijn64tab", YtpkjnefhnedfdaaGreatDoor.Rows.laid_math_bits_deBruijn64tab), ("internal/strconv.uint64pow10", YtpkjnefhnedfdaaGreatDoor.Rows.laid_internal_strconv_uint64pow10), ("unicode/utf8.acceptRanges", YtpkjnefhnedfdaaGreatDoor.Rows.laid_unicode_utf8_acceptRanges), ("strconv.ErrRange", YtpkjnefhnedfdaaGreatDoor.Rows.laid_strconv_ErrRange), ("strconv.ErrSyntax", YtpkjnefhnedfdaaGreatDoor.Rows.laid_strconv_ErrSyntax), ("unicode/utf8.first", YtpkjnefhnedfdaaGreatDoor.Rows.laid_unicode_utf8_first)] W) : TabOK cfg W := by
  obtain ⟨ps, h, _⟩ : laidMet Tryz.prog [("math/bits.deBruijn32tab", YtpkjnefhnedfdaaGreatDoor.Rows.laid_math_bits_deBruijn32tab), ("math/bits.deBruijn64tab", YtpkjnefhnedfdaaGreatDoor.Rows.laid_math_bits_deBruijn64tab), ("internal/strconv.uint64pow10", YtpkjnefhnedfdaaGreatDoor.Rows.laid_internal_strconv_uint64pow10), ("unicode/utf8.acceptRanges", YtpkjnefhnedfdaaGreatDoor.Rows.laid_unicode_utf8_acceptRanges), ("strconv.ErrRange", YtpkjnefhnedfdaaGreatDoor.Rows.laid_strconv_ErrRange), ("strconv.ErrSyntax", YtpkjnefhnedfdaaGreatDoor.Rows.laid_strconv_ErrSyntax), ("unicode/utf8.first", YtpkjnefhnedfdaaGreatDoor.Rows.laid_unicode_utf8_first)] W := h
  obtain ⟨_, _, _, _, _, q, _, _, _, _, h, _⟩ := h
  obtain ⟨_, _, _, _, _, q, _, _, _, _, h, _⟩ := h
  obtain ⟨g', t', cs, fuel, p, q, hg', ht', hvar, hd, _⟩ := h
  intro g cs' hc
  have hg : g = F1.gPow ∧ cs' = F1.powTab := by
    have hc' : (bif eqb g F1.gPow then some F1.powTab else none) = some cs' := hc
    cases he : eqb g F1.gPow with
    | false => rw [he] at hc'; cases hc'
    | true => rw [he] at hc'; cases hc'; exact ⟨eqb_iff.1 he, rfl⟩
  obtain ⟨rfl, rfl⟩ := hg
  obtain rfl := Option.some.inj (F1.gPow_is.symm.trans hg')
  have hgt : (Tryz.prog.globals[F1.gPow]?).map (·.type) = some 166 := by kernel_rfl
  obtain rfl := Option.some.inj (hgt.symm.trans ht')
  have hz : (YtpkjnefhnedfdaaGreatDoor.Rows.laid_internal_strconv_uint64pow10 : DataW Unit) = Lib.tabData .u64 Lib.pow10Tab := by kernel_rfl
  rw [hz] at hd
  have hcs := cells_of_tab (n := 20) Tryz.underlying166 Tryz.underlying140 (by kernel_rfl) (by kernel_rfl) hd
  unfold World.var? at hvar
  rw [F1.gPow_is, Option.bind_some] at hvar
  split at hvar
  · rename_i c t fr hh
    cases hvar
    exact ⟨t, fr, by rw [hh, F1.powTab_is, ← hcs]⟩
  · cases hvar
noncomputable def laidWorld (os : Os) : World :=
  let n := (World.settled Tryz.prog os).heap.size
  { World.holding Tryz.prog os ⟨#[.cells #[.string ⟨#[118, 97, 108, 117, 101, 32, 111, 117, 116, 32, 111, 102, 32, 114, 97, 110, 103, 101]⟩] 174 (0, 0), .cells #[.string ⟨#[105, 110, 118, 97, 108, 105, 100, 32, 115, 121, 110, 116, 97, 120]⟩] 174 (0, 0)], #[], []⟩ with heap := ((((((((World.holding Tryz.prog os ⟨#[.cells #[.string ⟨#[118, 97, 108, 117, 101, 32, 111, 117, 116, 32, 111, 102, 32, 114, 97, 110, 103, 101]⟩] 174 (0, 0), .cells #[.string ⟨#[105, 110, 118, 97, 108, 105, 100, 32, 115, 121, 110, 116, 97, 120]⟩] 174 (0, 0)], #[], []⟩).heap.modify 6 fun | .cells _ t fr => .cells (#[.int .u8 0, .int .u8 1, .int .u8 28, .int .u8 2, .int .u8 29, .int .u8 14, .int .u8 24, .int .u8 3, .int .u8 30, .int .u8 22, .int .u8 20, .int .u8 15, .int .u8 25, .int .u8 17, .int .u8 4, .int .u8 8, .int .u8 31, .int .u8 27, .int .u8 13, .int .u8 23, .int .u8 21, .int .u8 19, .int .u8 16, .int .u8 7, .int .u8 26, .int .u8 12, .int .u8 18, .int .u8 6, .int .u8 11, .int .u8 5, .int .u8 10, .int .u8 9]) t fr | o => o).modify 7 fun | .cells _ t fr => .cells (#[.int .u8 0, .int .u8 1, .int .u8 56, .int .u8 2, .int .u8 57, .int .u8 49, .int .u8 28, .int .u8 3, .int .u8 61, .int .u8 58, .int .u8 42, .int .u8 50, .int .u8 38, .int .u8 29, .int .u8 17, .int .u8 4, .int .u8 62, .int .u8 47, .int .u8 59, .int .u8 36, .int .u8 45, .int .u8 43, .int .u8 51, .int .u8 22, .int .u8 53, .int .u8 39, .int .u8 33, .int .u8 30, .int .u8 24, .int .u8 18, .int .u8 12, .int .u8 5, .int .u8 63, .int .u8 55, .int .u8 48, .int .u8 27, .int .u8 60, .int .u8 41, .int .u8 37, .int .u8 16, .int .u8 46, .int .u8 35, .int .u8 44, .int .u8 21, .int .u8 52, .int .u8 32, .int .u8 23, .int .u8 11, .int .u8 54, .int .u8 26, .int .u8 40, .int .u8 15, .int .u8 34, .int .u8 20, .int .u8 31, .int .u8 10, .int .u8 25, .int .u8 14, .int .u8 19, .int .u8 9, .int .u8 13, .int .u8 8, .int .u8 7, .int .u8 6]) t fr | o => o).modify 3 fun | .cells _ t fr => .cells (#[.int .u64 1, .int .u64 10, .int .u64 100, .int .u64 1000, .int .u64 10000, .int .u64 100000, .int .u64 1000000, .int .u64 10000000, .int .u64 100000000, .int .u64 1000000000, .int .u64 10000000000, .int .u64 100000000000, .int .u64 1000000000000, .int .u64 10000000000000, .int .u64 100000000000000, .int .u64 1000000000000000, .int .u64 10000000000000000, .int .u64 100000000000000000, .int .u64 1000000000000000000, .int .u64 10000000000000000000]) t fr | o => o).modify 5 fun | .cells _ t fr => .cells (#[.int .u8 128, .int .u8 191, .int .u8 160, .int .u8 191, .int .u8 128, .int .u8 159, .int .u8 144, .int .u8 191, .int .u8 128, .int .u8 143, .int .u8 0, .int .u8 0, .int .u8 0, .int .u8 0, .int .u8 0, .int .u8 0, .int .u8 0, .int .u8 0, .int .u8 0, .int .u8 0, .int .u8 0, .int .u8 0, .int .u8 0, .int .u8 0, .int .u8 0, .int .u8 0, .int .u8 0, .int .u8 0, .int .u8 0, .int .u8 0, .int .u8 0, .int .u8 0]) t fr | o => o).modify 2 fun | .cells _ t fr => .cells (#[.iface 172 (.pointer (some ⟨n + 0, 0, none⟩))]) t fr | o => o).modify 1 fun | .cells _ t fr => .cells (#[.iface 172 (.pointer (some ⟨n + 1, 0, none⟩))]) t fr | o => o).modify 4 fun | .cells _ t fr => .cells ((Go.Pinned.utf8FirstZ.map fun z => Value.int .u8 (Int.ofNat z)).toArray) t fr | o => o) }
end Go.VS

/-
  RangesNear answers true. (A text of this claim's own; nothing of it is trusted.)
-/
namespace Go.VS
open Go
set_option maxHeartbeats 0
theorem near_true (r : GS S_Span) (n : Int) : l_RangesNear r n = true := by
  unfold l_RangesNear
  cases hv : r_Valid r with
  | false => rfl
  | true =>
    have h := valid_iff.1 hv
    simp only [cond_true]
    by_cases hne : r.l = []
    · have : (((r.l.length : Nat) : Int) == 0) = true := by rw [hne]; rfl
      rw [this]; rfl
    · have hpos : 0 < r.l.length := List.length_pos_iff.2 hne
      have : (((r.l.length : Nat) : Int) == 0) = false := by simp; omega
      rw [this]
      obtain ⟨v, e1, ⟨nv, nn⟩, va⟩ := near_ok h hne n
      obtain ⟨a, b, e2, ha, hb, hab, aa, ab⟩ := hull_ok h hne
      have hv' := hab v nv
      unfold Ar at va aa ab
      rw [e1, e2, has_ok h v, inB_iff.2 nv]
      simp only [bne_self_eq_false, cond_false, cond_true, imin_eq, imax_eq]
      have nb := nn b hb
      have na := nn a ha
      have hba := hab b hb
      unfold Di at na nb
      cases h1 : decide (n ≥ b) with
      | true =>
        have h1 := of_decide_eq_true h1
        have : v = min (max n a) b := by omega
        rw [beq_iff_eq.2 this]; rfl
      | false =>
        have h1 := of_decide_eq_false h1
        cases h2 : decide (n ≤ a) with
        | true =>
          have h2 := of_decide_eq_true h2
          have : v = min (max n a) b := by omega
          rw [beq_iff_eq.2 this]; rfl
        | false =>
          have h2 := of_decide_eq_false h2
          have hm : min (max n (-2199023255552)) 2199023255552 = n := by omega
          rw [hm] at nn na nb
          rw [decide_eq_false (by omega : ¬ v < a), decide_eq_false (by omega : ¬ v > b)]
          simp only [cond_false, cond_true]
          cases h3 : (v == n) with
          | true => rfl
          | false =>
            have h3 := ne_of_beq_false h3
            simp only [cond_false]
            cases h4 : decide (v < n) with
            | true =>
              have h4 := of_decide_eq_true h4
              simp only [cond_true]
              rcases next_ok h v with ⟨e, k⟩ | ⟨y, e, k1, k2, k3⟩
              · have := k b hb; omega
              · rw [e]
                have yb := hab y k1
                have ny := nn y k1
                unfold Di at ny
                rw [w64_eq (by omega) (by omega), w64_eq (by omega) (by omega), decide_eq_true (by omega)]; rfl
            | false =>
              have h4 := of_decide_eq_false h4
              simp only [cond_false]
              rw [w64_eq (n := v - n) (by omega) (by omega), w64_eq (n := n - (v - n)) (by omega) (by omega), w64_eq (by omega) (by omega)]
              rcases next_ok h (n - (v - n) - 1) with ⟨e, k⟩ | ⟨y, e, k1, k2, k3⟩
              · have := k v nv; omega
              · rw [e]
                have ny := nn y k1
                unfold Di at ny
                have := k3 v nv (by omega)
                have : y = v := by omega
                simp only [cond_true, beq_self_eq_true]
                rw [beq_iff_eq.2 this]; rfl
theorem law_near (r : GS S_Span) (n : Int) : r.l.length ≤ 9223372036854775807 → R64 n → (lim cfg).pure 9 [GS.D S_Span.D 2 r, I n] = some (B true) := fun h _ => by
  rw [T_l_RangesNear r n h h, near_true]
end Go.VS

