/- Nothing of a statement is proved in this text alone: it is part 6 of the proof's own tools, an evaluator of the code over deep values, its soundness, and what it makes of this seat's functions. Conditions: none beyond the statement's own. -/
import Derived.Test.YtpkjnefhnedfdaaGreatDoorVsRCAlg5
set_option linter.unusedSimpArgs false
set_option linter.unusedVariables false
namespace Go.VS
open Go Go.Proofs
set_option maxHeartbeats 0
set_option linter.unusedSimpArgs false
set_option linter.unusedVariables false
def z6 (x:Sn) (y:Sn):(GS Sn) × Bool :=
 bif decide ((((zj (imax x.lo y.lo) (imin x.hi y.hi)).l.length:Nat):Int) > 0) then
  ((zj (imax x.lo y.lo) (imin x.hi y.hi)),true)
 else
  ((zj (imax x.lo y.lo) (imin x.hi y.hi)),false)

theorem T_ranges_Within_1 (x:Sn) (y:Sn):(lim cfg).pure 92 [Sn.D x,Sn.D y]=some (.tup [GS.D Sn.D 2 ((z6 x y).1),B ((z6 x y).2)]):=by
 unfold z6
 cases h1:decide ((((zj (imax x.lo y.lo) (imin x.hi y.hi)).l.length:Nat):Int) > 0) with
 | true =>
  have g1:=of_decide_eq_true h1
  exact zt [.pure (.sl ((zj (imax x.lo y.lo) (imin x.hi y.hi)).nl) (((zj (imax x.lo y.lo) (imin x.hi y.hi)).l).map Sn.D) (zsl ((zj (imax x.lo y.lo) (imin x.hi y.hi)).nl) 2) none),.rw 20 (I (((zj (imax x.lo y.lo) (imin x.hi y.hi)).l.length:Nat):Int)),.dec true] (Ai h1 (Ai (zQ Sn.D (zj (imax x.lo y.lo) (imin x.hi y.hi))) (Ai (T_ranges_some (imax x.lo y.lo) (imin x.hi y.hi)) trivial))) (by kernel_rfl)
 | false =>
  have g1:=of_decide_eq_false h1
  exact zt [.pure (.sl ((zj (imax x.lo y.lo) (imin x.hi y.hi)).nl) (((zj (imax x.lo y.lo) (imin x.hi y.hi)).l).map Sn.D) (zsl ((zj (imax x.lo y.lo) (imin x.hi y.hi)).nl) 2) none),.rw 20 (I (((zj (imax x.lo y.lo) (imin x.hi y.hi)).l.length:Nat):Int)),.dec false] (Ai h1 (Ai (zQ Sn.D (zj (imax x.lo y.lo) (imin x.hi y.hi))) (Ai (T_ranges_some (imax x.lo y.lo) (imin x.hi y.hi)) trivial))) (by kernel_rfl)

theorem within1_len (x y:Sn):((z6 x y).1).l.length≤1:=by
 unfold z6
 cases decide ((((zj (imax x.lo y.lo) (imin x.hi y.hi)).l.length:Nat):Int) > 0) <;> exact some1 _ _

def sd179 (a:GS Sn) (i3p4:Nat) (q3p4_0:GS Sn) (x3p4:Sn) (i6p8:Nat) (x6p8:Sn) (v6p8_0:List Sn):St:=⟨40,[(22,I ((i6p8+1:Nat):Int)),(37,I ((i6p8+1:Nat):Int)),(36,B false),(7,.lsl 1 0 v6p8_0.length 2 none),(35,.lsl 1 0 v6p8_0.length 2 none),(34,.sl (((z6 x3p4 x6p8).1).nl) ((((z6 x3p4 x6p8).1).l).map Sn.D) (zsl (((z6 x3p4 x6p8).1).nl) 2) none),(33,.lsl 1 0 v6p8_0.length 2 none),(13,B false),(12,.sl (((z6 x3p4 x6p8).1).nl) ((((z6 x3p4 x6p8).1).l).map Sn.D) (zsl (((z6 x3p4 x6p8).1).nl) 2) none),(32,B false),(31,.sl (((z6 x3p4 x6p8).1).nl) ((((z6 x3p4 x6p8).1).l).map Sn.D) (zsl (((z6 x3p4 x6p8).1).nl) 2) none),(26,.tup [.sl (((z6 x3p4 x6p8).1).nl) ((((z6 x3p4 x6p8).1).l).map Sn.D) (zsl (((z6 x3p4 x6p8).1).nl) 2) none,B ((z6 x3p4 x6p8).2)]),(30,.tup [.sl (((z6 x3p4 x6p8).1).nl) ((((z6 x3p4 x6p8).1).l).map Sn.D) (zsl (((z6 x3p4 x6p8).1).nl) 2) none,B ((z6 x3p4 x6p8).2)]),(29,.agg [I x6p8.lo,I x6p8.hi]),(28,.agg [I x3p4.lo,I x3p4.hi]),(27,.fn (.func 92) [] []),(11,.lref 3 0 2 0),(25,.agg [I x6p8.lo,I x6p8.hi]),(24,.ptr (.agg [I x6p8.lo,I x6p8.hi])),(23,B true),(1,.sl q3p4_0.nl (q3p4_0.l.map Sn.D) (zsl q3p4_0.nl 2) none),(2,.fn (.func 92) [] []),(7,.lsl 1 0 v6p8_0.length 2 none),(9,.lref 2 0 2 0),(14,.sl a.nl (a.l.map Sn.D) (zsl a.nl 2) none),(15,I ((a.l.length:Nat):Int)),(16,I ((i3p4:Nat):Int)),(20,.sl q3p4_0.nl (q3p4_0.l.map Sn.D) (zsl q3p4_0.nl 2) none),(21,I ((q3p4_0.l.length:Nat):Int)),(22,I ((i6p8:Nat):Int))],[(1,⟨v6p8_0.map Sn.D,2,false⟩),(2,⟨[.agg [I x3p4.lo,I x3p4.hi]],2,false⟩),(3,⟨[.agg [I x6p8.lo,I x6p8.hi]],2,false⟩)],4,1⟩

def sd180 (a:GS Sn) (i3p4:Nat) (q3p4_0:GS Sn) (x3p4:Sn) (i6p8:Nat) (x6p8:Sn) (v6p8_0:List Sn):St:=⟨40,[(22,I ((i6p8+1:Nat):Int)),(37,I ((i6p8+1:Nat):Int)),(36,B false),(7,.lsl 4 0 ((v6p8_0++(((z6 x3p4 x6p8).1).l)).length) 2 none),(35,.lsl 4 0 ((v6p8_0++(((z6 x3p4 x6p8).1).l)).length) 2 none),(34,.sl (((z6 x3p4 x6p8).1).nl) ((((z6 x3p4 x6p8).1).l).map Sn.D) (zsl (((z6 x3p4 x6p8).1).nl) 2) none),(33,.lsl 1 0 v6p8_0.length 2 none),(13,B false),(12,.sl (((z6 x3p4 x6p8).1).nl) ((((z6 x3p4 x6p8).1).l).map Sn.D) (zsl (((z6 x3p4 x6p8).1).nl) 2) none),(32,B false),(31,.sl (((z6 x3p4 x6p8).1).nl) ((((z6 x3p4 x6p8).1).l).map Sn.D) (zsl (((z6 x3p4 x6p8).1).nl) 2) none),(26,.tup [.sl (((z6 x3p4 x6p8).1).nl) ((((z6 x3p4 x6p8).1).l).map Sn.D) (zsl (((z6 x3p4 x6p8).1).nl) 2) none,B ((z6 x3p4 x6p8).2)]),(30,.tup [.sl (((z6 x3p4 x6p8).1).nl) ((((z6 x3p4 x6p8).1).l).map Sn.D) (zsl (((z6 x3p4 x6p8).1).nl) 2) none,B ((z6 x3p4 x6p8).2)]),(29,.agg [I x6p8.lo,I x6p8.hi]),(28,.agg [I x3p4.lo,I x3p4.hi]),(27,.fn (.func 92) [] []),(11,.lref 3 0 2 0),(25,.agg [I x6p8.lo,I x6p8.hi]),(24,.ptr (.agg [I x6p8.lo,I x6p8.hi])),(23,B true),(1,.sl q3p4_0.nl (q3p4_0.l.map Sn.D) (zsl q3p4_0.nl 2) none),(2,.fn (.func 92) [] []),(7,.lsl 1 0 v6p8_0.length 2 none),(9,.lref 2 0 2 0),(14,.sl a.nl (a.l.map Sn.D) (zsl a.nl 2) none),(15,I ((a.l.length:Nat):Int)),(16,I ((i3p4:Nat):Int)),(20,.sl q3p4_0.nl (q3p4_0.l.map Sn.D) (zsl q3p4_0.nl 2) none),(21,I ((q3p4_0.l.length:Nat):Int)),(22,I ((i6p8:Nat):Int))],[(2,⟨[.agg [I x3p4.lo,I x3p4.hi]],2,false⟩),(3,⟨[.agg [I x6p8.lo,I x6p8.hi]],2,false⟩),(4,⟨(v6p8_0++(((z6 x3p4 x6p8).1).l)).map Sn.D,2,false⟩)],5,1⟩

inductive LR_ranges_pairs_6p8 where
 | x0 (v6p8_0:List Sn)
 | x1 (i6p8:Nat) (x6p8:Sn) (v6p8_0:List Sn)
 | x2 (i6p8:Nat) (x6p8:Sn) (v6p8_0:List Sn)
instance:Inhabited LR_ranges_pairs_6p8:=⟨.x0 default⟩
def ranges_pairs_6p8 (x3p4:Sn):List Sn→Nat→(List Sn)→LR_ranges_pairs_6p8
 | [],i6p8,v6p8_0=>.x0 v6p8_0
 | x6p8::rest6p8,i6p8,v6p8_0 =>
  bif ((z6 x3p4 x6p8).2) then
   bif (((z6 x3p4 x6p8).1).l).isEmpty then
    .x1 i6p8 x6p8 v6p8_0
   else
    .x2 i6p8 x6p8 v6p8_0
  else
   bif (((z6 x3p4 x6p8).1).l).isEmpty then
    ranges_pairs_6p8 x3p4 rest6p8 (i6p8+1) v6p8_0
   else
    ranges_pairs_6p8 x3p4 rest6p8 (i6p8+1) (v6p8_0++(((z6 x3p4 x6p8).1).l))
def lr_ranges_pairs_6p8 (a:GS Sn) (i3p4:Nat) (q3p4_0:GS Sn) (x3p4:Sn):LR_ranges_pairs_6p8→Exit × St
 | .x0 v6p8_0=>((.exit 2),⟨40,[(23,B false),(1,.sl q3p4_0.nl (q3p4_0.l.map Sn.D) (zsl q3p4_0.nl 2) none),(2,.fn (.func 92) [] []),(7,.lsl 1 0 v6p8_0.length 2 none),(9,.lref 2 0 2 0),(14,.sl a.nl (a.l.map Sn.D) (zsl a.nl 2) none),(15,I ((a.l.length:Nat):Int)),(16,I ((i3p4:Nat):Int)),(20,.sl q3p4_0.nl (q3p4_0.l.map Sn.D) (zsl q3p4_0.nl 2) none),(21,I ((q3p4_0.l.length:Nat):Int)),(22,I ((q3p4_0.l.length:Nat):Int))],[(1,⟨v6p8_0.map Sn.D,2,false⟩),(2,⟨[.agg [I x3p4.lo,I x3p4.hi]],2,false⟩)],3,1⟩)
 | .x1 i6p8 x6p8 v6p8_0=>((.exit 0),⟨40,[(36,B true),(7,.lsl 1 0 v6p8_0.length 2 none),(35,.lsl 1 0 v6p8_0.length 2 none),(34,.sl (((z6 x3p4 x6p8).1).nl) ((((z6 x3p4 x6p8).1).l).map Sn.D) (zsl (((z6 x3p4 x6p8).1).nl) 2) none),(33,.lsl 1 0 v6p8_0.length 2 none),(13,B true),(12,.sl (((z6 x3p4 x6p8).1).nl) ((((z6 x3p4 x6p8).1).l).map Sn.D) (zsl (((z6 x3p4 x6p8).1).nl) 2) none),(32,B true),(31,.sl (((z6 x3p4 x6p8).1).nl) ((((z6 x3p4 x6p8).1).l).map Sn.D) (zsl (((z6 x3p4 x6p8).1).nl) 2) none),(26,.tup [.sl (((z6 x3p4 x6p8).1).nl) ((((z6 x3p4 x6p8).1).l).map Sn.D) (zsl (((z6 x3p4 x6p8).1).nl) 2) none,B ((z6 x3p4 x6p8).2)]),(30,.tup [.sl (((z6 x3p4 x6p8).1).nl) ((((z6 x3p4 x6p8).1).l).map Sn.D) (zsl (((z6 x3p4 x6p8).1).nl) 2) none,B ((z6 x3p4 x6p8).2)]),(29,.agg [I x6p8.lo,I x6p8.hi]),(28,.agg [I x3p4.lo,I x3p4.hi]),(27,.fn (.func 92) [] []),(11,.lref 3 0 2 0),(25,.agg [I x6p8.lo,I x6p8.hi]),(24,.ptr (.agg [I x6p8.lo,I x6p8.hi])),(23,B true),(1,.sl q3p4_0.nl (q3p4_0.l.map Sn.D) (zsl q3p4_0.nl 2) none),(2,.fn (.func 92) [] []),(7,.lsl 1 0 v6p8_0.length 2 none),(9,.lref 2 0 2 0),(14,.sl a.nl (a.l.map Sn.D) (zsl a.nl 2) none),(15,I ((a.l.length:Nat):Int)),(16,I ((i3p4:Nat):Int)),(20,.sl q3p4_0.nl (q3p4_0.l.map Sn.D) (zsl q3p4_0.nl 2) none),(21,I ((q3p4_0.l.length:Nat):Int)),(22,I ((i6p8:Nat):Int))],[(1,⟨v6p8_0.map Sn.D,2,false⟩),(2,⟨[.agg [I x3p4.lo,I x3p4.hi]],2,false⟩),(3,⟨[.agg [I x6p8.lo,I x6p8.hi]],2,false⟩)],4,1⟩)
 | .x2 i6p8 x6p8 v6p8_0=>((.exit 0),⟨40,[(36,B true),(7,.lsl 4 0 ((v6p8_0++(((z6 x3p4 x6p8).1).l)).length) 2 none),(35,.lsl 4 0 ((v6p8_0++(((z6 x3p4 x6p8).1).l)).length) 2 none),(34,.sl (((z6 x3p4 x6p8).1).nl) ((((z6 x3p4 x6p8).1).l).map Sn.D) (zsl (((z6 x3p4 x6p8).1).nl) 2) none),(33,.lsl 1 0 v6p8_0.length 2 none),(13,B true),(12,.sl (((z6 x3p4 x6p8).1).nl) ((((z6 x3p4 x6p8).1).l).map Sn.D) (zsl (((z6 x3p4 x6p8).1).nl) 2) none),(32,B true),(31,.sl (((z6 x3p4 x6p8).1).nl) ((((z6 x3p4 x6p8).1).l).map Sn.D) (zsl (((z6 x3p4 x6p8).1).nl) 2) none),(26,.tup [.sl (((z6 x3p4 x6p8).1).nl) ((((z6 x3p4 x6p8).1).l).map Sn.D) (zsl (((z6 x3p4 x6p8).1).nl) 2) none,B ((z6 x3p4 x6p8).2)]),(30,.tup [.sl (((z6 x3p4 x6p8).1).nl) ((((z6 x3p4 x6p8).1).l).map Sn.D) (zsl (((z6 x3p4 x6p8).1).nl) 2) none,B ((z6 x3p4 x6p8).2)]),(29,.agg [I x6p8.lo,I x6p8.hi]),(28,.agg [I x3p4.lo,I x3p4.hi]),(27,.fn (.func 92) [] []),(11,.lref 3 0 2 0),(25,.agg [I x6p8.lo,I x6p8.hi]),(24,.ptr (.agg [I x6p8.lo,I x6p8.hi])),(23,B true),(1,.sl q3p4_0.nl (q3p4_0.l.map Sn.D) (zsl q3p4_0.nl 2) none),(2,.fn (.func 92) [] []),(7,.lsl 1 0 v6p8_0.length 2 none),(9,.lref 2 0 2 0),(14,.sl a.nl (a.l.map Sn.D) (zsl a.nl 2) none),(15,I ((a.l.length:Nat):Int)),(16,I ((i3p4:Nat):Int)),(20,.sl q3p4_0.nl (q3p4_0.l.map Sn.D) (zsl q3p4_0.nl 2) none),(21,I ((q3p4_0.l.length:Nat):Int)),(22,I ((i6p8:Nat):Int))],[(2,⟨[.agg [I x3p4.lo,I x3p4.hi]],2,false⟩),(3,⟨[.agg [I x6p8.lo,I x6p8.hi]],2,false⟩),(4,⟨(v6p8_0++(((z6 x3p4 x6p8).1).l)).map Sn.D,2,false⟩)],5,1⟩)
def iv_ranges_pairs_6p8 (a:GS Sn) (i3p4:Nat) (q3p4_0:GS Sn) (x3p4:Sn):LR_ranges_pairs_6p8→Prop
 | .x0 v6p8_0=>(v6p8_0.length≤65 * i3p4+q3p4_0.l.length)
 | .x1 i6p8 x6p8 v6p8_0=>(v6p8_0.length≤65 * i3p4+i6p8)
 | .x2 i6p8 x6p8 v6p8_0=>(v6p8_0.length≤65 * i3p4+i6p8)
def ranges_pairs_6p8_l_o1 (x3p4:Sn) (x6p8:Sn):List Ora:=[.dec true,.el (.agg [I x6p8.lo,I x6p8.hi]),.pure (.tup [.sl (((z6 x3p4 x6p8).1).nl) ((((z6 x3p4 x6p8).1).l).map Sn.D) (zsl (((z6 x3p4 x6p8).1).nl) 2) none,B ((z6 x3p4 x6p8).2)])]
theorem lp_ranges_pairs_6p8 (a:GS Sn) (i3p4:Nat) (q3p4_0:GS Sn) (x3p4:Sn):∀ (rest6p8:List Sn) (i6p8:Nat) (v6p8_0:List Sn) (hd6p8:q3p4_0.l.drop i6p8=rest6p8) (hi6p8:i6p8≤q3p4_0.l.length) (hb65:q3p4_0.l.length≤65) (ho64:i3p4 < 64) (hg6p8_v6p8_0:v6p8_0.length≤65 * i3p4+i6p8) (hL6p8:q3p4_0.l.length≤1099511627776),(lim cfg).loop 87 lp87_6 ⟨40,[(1,.sl q3p4_0.nl (q3p4_0.l.map Sn.D) (zsl q3p4_0.nl 2) none),(2,.fn (.func 92) [] []),(7,.lsl 1 0 v6p8_0.length 2 none),(9,.lref 2 0 2 0),(14,.sl a.nl (a.l.map Sn.D) (zsl a.nl 2) none),(15,I ((a.l.length:Nat):Int)),(16,I ((i3p4:Nat):Int)),(20,.sl q3p4_0.nl (q3p4_0.l.map Sn.D) (zsl q3p4_0.nl 2) none),(21,I ((q3p4_0.l.length:Nat):Int)),(22,I ((i6p8:Nat):Int))],[(1,⟨v6p8_0.map Sn.D,2,false⟩),(2,⟨[.agg [I x3p4.lo,I x3p4.hi]],2,false⟩)],3,1⟩=some (lr_ranges_pairs_6p8 a i3p4 q3p4_0 x3p4 (ranges_pairs_6p8 x3p4 rest6p8 i6p8 v6p8_0)):=by
 intro rest6p8
 induction rest6p8 with
 | nil =>
  intro i6p8 v6p8_0 hd6p8 hi6p8 hb65 ho64 hg6p8_v6p8_0 hL6p8
  unfold ranges_pairs_6p8
  obtain rfl:i6p8=q3p4_0.l.length:=yC hd6p8 hi6p8
  exact zP [.dec false] (Ai (lt_no hd6p8) trivial) (by kernel_rfl)
 | cons x6p8 rest6p8 ih =>
  intro i6p8 v6p8_0 hd6p8 hi6p8 hb65 ho64 hg6p8_v6p8_0 hL6p8
  have hlt6p8:=zl hd6p8
  have hlx:=within1_len x3p4 x6p8
  unfold ranges_pairs_6p8
  have p1:=(el_at (s:=q3p4_0) (f:=Sn.D) (k:=2) hd6p8)
  cases h25:((z6 x3p4 x6p8).2) with
  | true =>
   cases h26:(((z6 x3p4 x6p8).1).l).isEmpty with
   | true =>
    exact zP ((ranges_pairs_6p8_l_o1 x3p4 x6p8)++[.dec true,.op (some 35) ⟨.lsl 1 0 v6p8_0.length 2 none,[],[],4⟩]) (Ai (app_none (te:=yw) (gO:=zF [(1,⟨v6p8_0.map Sn.D,2,false⟩),(2,⟨[.agg [I x3p4.lo,I x3p4.hi]],2,false⟩),(3,⟨[.agg [I x6p8.lo,I x6p8.hi]],2,false⟩)]) (nxt:=4) (f:=Sn.D) (sz:=2) (d:=.lsl 1 0 v6p8_0.length 2 none) ((z6 x3p4 x6p8).1) h26 rfl) (Ai h25 (Ai (T_ranges_Within_1 x3p4 x6p8) (Ai p1 (Ai (lt_at hd6p8) trivial))))) (by kernel_rfl)
   | false =>
    exact zP ((ranges_pairs_6p8_l_o1 x3p4 x6p8)++[.dec true,.op (some 35) ⟨.lsl 4 0 ((v6p8_0++(((z6 x3p4 x6p8).1).l)).length) 2 none,[(1,none),(4,some ⟨(v6p8_0++(((z6 x3p4 x6p8).1).l)).map Sn.D,2,false⟩)],[1],5⟩]) (Ai (app_moreD (te:=yw) (gO:=zF [(1,⟨v6p8_0.map Sn.D,2,false⟩),(2,⟨[.agg [I x3p4.lo,I x3p4.hi]],2,false⟩),(3,⟨[.agg [I x6p8.lo,I x6p8.hi]],2,false⟩)]) (nxt:=4) (o:=1) (v:=v6p8_0) z7 ((z6 x3p4 x6p8).1) h26 (by kernel_rfl) rfl (by kernel_rfl) (by decide) ⟨by simp only [yw,big] <;> (first | assumption | omega | (exact yh (by omega) (by omega)) | (exact zT (by omega)) | (exact zK (by omega)) | (exact zU (by omega)) | (exact zM (by omega)) | (exact zB _ (by omega)) | (simp only [zo] at * <;> omega) | (simp only [zG,GS.some_l,List.length_set,List.length_append,List.length_cons,List.length_nil] at * <;> first | with_reducible assumption | omega) | (simp only [zG,GS.some_l,List.length_set,List.length_append,List.length_cons,List.length_nil,zo] at * <;> first | with_reducible assumption | omega) | (simp at * <;> omega)),by simp only [big] <;> (first | assumption | omega | (exact yh (by omega) (by omega)) | (exact zT (by omega)) | (exact zK (by omega)) | (exact zU (by omega)) | (exact zM (by omega)) | (exact zB _ (by omega)) | (simp only [zo] at * <;> omega) | (simp only [zG,GS.some_l,List.length_set,List.length_append,List.length_cons,List.length_nil] at * <;> first | with_reducible assumption | omega) | (simp only [zG,GS.some_l,List.length_set,List.length_append,List.length_cons,List.length_nil,zo] at * <;> first | with_reducible assumption | omega) | (simp at * <;> omega))⟩) (Ai h25 (Ai (T_ranges_Within_1 x3p4 x6p8) (Ai p1 (Ai (lt_at hd6p8) trivial))))) (by kernel_rfl)
  | false =>
   cases h27:(((z6 x3p4 x6p8).1).l).isEmpty with
   | true =>
    exact yg (ks:=[1,2,7,9,14,15,16,20,21,22]) (st':=(sd179 a i3p4 q3p4_0 x3p4 i6p8 x6p8 v6p8_0)) ((ranges_pairs_6p8_l_o1 x3p4 x6p8)++[.dec false,.op (some 35) ⟨.lsl 1 0 v6p8_0.length 2 none,[],[],4⟩,.rw 37 (I ((i6p8+1:Nat):Int))]) (Ai (yE (i:=i6p8) (by have:=zl hd6p8; omega)) (Ai (app_none (te:=yw) (gO:=zF [(1,⟨v6p8_0.map Sn.D,2,false⟩),(2,⟨[.agg [I x3p4.lo,I x3p4.hi]],2,false⟩),(3,⟨[.agg [I x6p8.lo,I x6p8.hi]],2,false⟩)]) (nxt:=4) (f:=Sn.D) (sz:=2) (d:=.lsl 1 0 v6p8_0.length 2 none) ((z6 x3p4 x6p8).1) h27 rfl) (Ai h25 (Ai (T_ranges_Within_1 x3p4 x6p8) (Ai p1 (Ai (lt_at hd6p8) trivial)))))) (by kernel_rfl) (by (simp only [sd179,go_sem,List.length_set,Nat.reduceAdd,Nat.reduceEqDiff,Nat.reduceLT,Nat.reduceLeDiff,bI2,zf.idsL,zf.renL,zf.snapAll,z7.idsL,z7.renL,z7.snapAll]) <;> rfl) (ih (i6p8+1) v6p8_0 (zr hd6p8) (zl hd6p8) (by omega) (by omega) (by omega) (by omega)) (by kernel_rfl)
   | false =>
    exact yg (ks:=[1,2,7,9,14,15,16,20,21,22]) (st':=(sd180 a i3p4 q3p4_0 x3p4 i6p8 x6p8 v6p8_0)) ((ranges_pairs_6p8_l_o1 x3p4 x6p8)++[.dec false,.op (some 35) ⟨.lsl 4 0 ((v6p8_0++(((z6 x3p4 x6p8).1).l)).length) 2 none,[(1,none),(4,some ⟨(v6p8_0++(((z6 x3p4 x6p8).1).l)).map Sn.D,2,false⟩)],[1],5⟩,.rw 37 (I ((i6p8+1:Nat):Int))]) (Ai (yE (i:=i6p8) (by have:=zl hd6p8; omega)) (Ai (app_moreD (te:=yw) (gO:=zF [(1,⟨v6p8_0.map Sn.D,2,false⟩),(2,⟨[.agg [I x3p4.lo,I x3p4.hi]],2,false⟩),(3,⟨[.agg [I x6p8.lo,I x6p8.hi]],2,false⟩)]) (nxt:=4) (o:=1) (v:=v6p8_0) z7 ((z6 x3p4 x6p8).1) h27 (by kernel_rfl) rfl (by kernel_rfl) (by decide) ⟨by simp only [yw,big] <;> (first | assumption | omega | (exact yh (by omega) (by omega)) | (exact zT (by omega)) | (exact zK (by omega)) | (exact zU (by omega)) | (exact zM (by omega)) | (exact zB _ (by omega)) | (simp only [zo] at * <;> omega) | (simp only [zG,GS.some_l,List.length_set,List.length_append,List.length_cons,List.length_nil] at * <;> first | with_reducible assumption | omega) | (simp only [zG,GS.some_l,List.length_set,List.length_append,List.length_cons,List.length_nil,zo] at * <;> first | with_reducible assumption | omega) | (simp at * <;> omega)),by simp only [big] <;> (first | assumption | omega | (exact yh (by omega) (by omega)) | (exact zT (by omega)) | (exact zK (by omega)) | (exact zU (by omega)) | (exact zM (by omega)) | (exact zB _ (by omega)) | (simp only [zo] at * <;> omega) | (simp only [zG,GS.some_l,List.length_set,List.length_append,List.length_cons,List.length_nil] at * <;> first | with_reducible assumption | omega) | (simp only [zG,GS.some_l,List.length_set,List.length_append,List.length_cons,List.length_nil,zo] at * <;> first | with_reducible assumption | omega) | (simp at * <;> omega))⟩) (Ai h25 (Ai (T_ranges_Within_1 x3p4 x6p8) (Ai p1 (Ai (lt_at hd6p8) trivial)))))) (by kernel_rfl) (by (simp only [sd180,go_sem,List.length_set,Nat.reduceAdd,Nat.reduceEqDiff,Nat.reduceLT,Nat.reduceLeDiff,bI2,zf.idsL,zf.renL,zf.snapAll,z7.idsL,z7.renL,z7.snapAll]) <;> rfl) (ih (i6p8+1) (v6p8_0++(((z6 x3p4 x6p8).1).l)) (zr hd6p8) (zl hd6p8) (by omega) (by omega) (by simp only [List.length_append,List.length_cons,List.length_nil] at * <;> omega) (by omega)) (by kernel_rfl)
theorem ivt_ranges_pairs_6p8 (a:GS Sn) (i3p4:Nat) (q3p4_0:GS Sn) (x3p4:Sn):∀ (rest6p8:List Sn) (i6p8:Nat) (v6p8_0:List Sn) (hd6p8:q3p4_0.l.drop i6p8=rest6p8) (hi6p8:i6p8≤q3p4_0.l.length) (hb65:q3p4_0.l.length≤65) (ho64:i3p4 < 64) (hg6p8_v6p8_0:v6p8_0.length≤65 * i3p4+i6p8) (hL6p8:q3p4_0.l.length≤1099511627776),iv_ranges_pairs_6p8 a i3p4 q3p4_0 x3p4 (ranges_pairs_6p8 x3p4 rest6p8 i6p8 v6p8_0):=by
 intro rest6p8
 induction rest6p8 with
 | nil =>
  intro i6p8 v6p8_0 hd6p8 hi6p8 hb65 ho64 hg6p8_v6p8_0 hL6p8
  unfold ranges_pairs_6p8
  obtain rfl:i6p8=q3p4_0.l.length:=yC hd6p8 hi6p8
  exact hg6p8_v6p8_0
 | cons x6p8 rest6p8 ih =>
  intro i6p8 v6p8_0 hd6p8 hi6p8 hb65 ho64 hg6p8_v6p8_0 hL6p8
  have hlt6p8:=zl hd6p8
  have hlx:=within1_len x3p4 x6p8
  unfold ranges_pairs_6p8
  cases h25:((z6 x3p4 x6p8).2) with
  | true =>
   cases h26:(((z6 x3p4 x6p8).1).l).isEmpty with
   | true =>
    exact hg6p8_v6p8_0
   | false =>
    exact hg6p8_v6p8_0
  | false =>
   cases h27:(((z6 x3p4 x6p8).1).l).isEmpty with
   | true =>
    exact ih (i6p8+1) v6p8_0 (zr hd6p8) (zl hd6p8) (by omega) (by omega) (by omega) (by omega)
   | false =>
    exact ih (i6p8+1) (v6p8_0++(((z6 x3p4 x6p8).1).l)) (zr hd6p8) (zl hd6p8) (by omega) (by omega) (by simp only [List.length_append,List.length_cons,List.length_nil] at * <;> omega) (by omega)

def sd184 (a:GS Sn) (i3p4:Nat) (q3p4_0:GS Sn) (x3p4:Sn) (i6p9:Nat) (x6p9:Sn) (va6p9_0:List Sn):St:=⟨40,[(22,I ((i6p9+1:Nat):Int)),(37,I ((i6p9+1:Nat):Int)),(36,B false),(7,.lsl 1 0 va6p9_0.length 2 none),(35,.lsl 1 0 va6p9_0.length 2 none),(34,.sl (((z6 x3p4 x6p9).1).nl) ((((z6 x3p4 x6p9).1).l).map Sn.D) (zsl (((z6 x3p4 x6p9).1).nl) 2) none),(33,.lsl 1 0 va6p9_0.length 2 none),(13,B false),(12,.sl (((z6 x3p4 x6p9).1).nl) ((((z6 x3p4 x6p9).1).l).map Sn.D) (zsl (((z6 x3p4 x6p9).1).nl) 2) none),(32,B false),(31,.sl (((z6 x3p4 x6p9).1).nl) ((((z6 x3p4 x6p9).1).l).map Sn.D) (zsl (((z6 x3p4 x6p9).1).nl) 2) none),(26,.tup [.sl (((z6 x3p4 x6p9).1).nl) ((((z6 x3p4 x6p9).1).l).map Sn.D) (zsl (((z6 x3p4 x6p9).1).nl) 2) none,B ((z6 x3p4 x6p9).2)]),(30,.tup [.sl (((z6 x3p4 x6p9).1).nl) ((((z6 x3p4 x6p9).1).l).map Sn.D) (zsl (((z6 x3p4 x6p9).1).nl) 2) none,B ((z6 x3p4 x6p9).2)]),(29,.agg [I x6p9.lo,I x6p9.hi]),(28,.agg [I x3p4.lo,I x3p4.hi]),(27,.fn (.func 92) [] []),(11,.lref 3 0 2 0),(25,.agg [I x6p9.lo,I x6p9.hi]),(24,.ptr (.agg [I x6p9.lo,I x6p9.hi])),(23,B true),(1,.sl q3p4_0.nl (q3p4_0.l.map Sn.D) (zsl q3p4_0.nl 2) none),(2,.fn (.func 92) [] []),(7,.lsl 1 0 va6p9_0.length 2 none),(9,.lref 2 0 2 0),(14,.sl a.nl (a.l.map Sn.D) (zsl a.nl 2) none),(15,I ((a.l.length:Nat):Int)),(16,I ((i3p4:Nat):Int)),(20,.sl q3p4_0.nl (q3p4_0.l.map Sn.D) (zsl q3p4_0.nl 2) none),(21,I ((q3p4_0.l.length:Nat):Int)),(22,I ((i6p9:Nat):Int))],[(1,⟨va6p9_0.map Sn.D,2,false⟩),(2,⟨[.agg [I x3p4.lo,I x3p4.hi]],2,false⟩),(3,⟨[.agg [I x6p9.lo,I x6p9.hi]],2,false⟩)],4,1⟩

def sd185 (a:GS Sn) (i3p4:Nat) (q3p4_0:GS Sn) (x3p4:Sn) (i6p9:Nat) (x6p9:Sn) (va6p9_0:List Sn):St:=⟨40,[(22,I ((i6p9+1:Nat):Int)),(37,I ((i6p9+1:Nat):Int)),(36,B false),(7,.lsl 4 0 ((va6p9_0++(((z6 x3p4 x6p9).1).l)).length) 2 none),(35,.lsl 4 0 ((va6p9_0++(((z6 x3p4 x6p9).1).l)).length) 2 none),(34,.sl (((z6 x3p4 x6p9).1).nl) ((((z6 x3p4 x6p9).1).l).map Sn.D) (zsl (((z6 x3p4 x6p9).1).nl) 2) none),(33,.lsl 1 0 va6p9_0.length 2 none),(13,B false),(12,.sl (((z6 x3p4 x6p9).1).nl) ((((z6 x3p4 x6p9).1).l).map Sn.D) (zsl (((z6 x3p4 x6p9).1).nl) 2) none),(32,B false),(31,.sl (((z6 x3p4 x6p9).1).nl) ((((z6 x3p4 x6p9).1).l).map Sn.D) (zsl (((z6 x3p4 x6p9).1).nl) 2) none),(26,.tup [.sl (((z6 x3p4 x6p9).1).nl) ((((z6 x3p4 x6p9).1).l).map Sn.D) (zsl (((z6 x3p4 x6p9).1).nl) 2) none,B ((z6 x3p4 x6p9).2)]),(30,.tup [.sl (((z6 x3p4 x6p9).1).nl) ((((z6 x3p4 x6p9).1).l).map Sn.D) (zsl (((z6 x3p4 x6p9).1).nl) 2) none,B ((z6 x3p4 x6p9).2)]),(29,.agg [I x6p9.lo,I x6p9.hi]),(28,.agg [I x3p4.lo,I x3p4.hi]),(27,.fn (.func 92) [] []),(11,.lref 3 0 2 0),(25,.agg [I x6p9.lo,I x6p9.hi]),(24,.ptr (.agg [I x6p9.lo,I x6p9.hi])),(23,B true),(1,.sl q3p4_0.nl (q3p4_0.l.map Sn.D) (zsl q3p4_0.nl 2) none),(2,.fn (.func 92) [] []),(7,.lsl 1 0 va6p9_0.length 2 none),(9,.lref 2 0 2 0),(14,.sl a.nl (a.l.map Sn.D) (zsl a.nl 2) none),(15,I ((a.l.length:Nat):Int)),(16,I ((i3p4:Nat):Int)),(20,.sl q3p4_0.nl (q3p4_0.l.map Sn.D) (zsl q3p4_0.nl 2) none),(21,I ((q3p4_0.l.length:Nat):Int)),(22,I ((i6p9:Nat):Int))],[(2,⟨[.agg [I x3p4.lo,I x3p4.hi]],2,false⟩),(3,⟨[.agg [I x6p9.lo,I x6p9.hi]],2,false⟩),(4,⟨(va6p9_0++(((z6 x3p4 x6p9).1).l)).map Sn.D,2,false⟩)],5,1⟩

def sd186 (a:GS Sn) (i3p4:Nat) (q3p4_0:GS Sn) (x3p4:Sn) (i6p9:Nat) (x6p9:Sn):St:=⟨40,[(22,I ((i6p9+1:Nat):Int)),(37,I ((i6p9+1:Nat):Int)),(36,B false),(7,.lsl 3 0 ((((z6 x3p4 x6p9).1).l).length) 2 none),(35,.lsl 3 0 ((((z6 x3p4 x6p9).1).l).length) 2 none),(34,.sl (((z6 x3p4 x6p9).1).nl) ((((z6 x3p4 x6p9).1).l).map Sn.D) (zsl (((z6 x3p4 x6p9).1).nl) 2) none),(33,.sl true [] 0 none),(13,B false),(12,.sl (((z6 x3p4 x6p9).1).nl) ((((z6 x3p4 x6p9).1).l).map Sn.D) (zsl (((z6 x3p4 x6p9).1).nl) 2) none),(32,B false),(31,.sl (((z6 x3p4 x6p9).1).nl) ((((z6 x3p4 x6p9).1).l).map Sn.D) (zsl (((z6 x3p4 x6p9).1).nl) 2) none),(26,.tup [.sl (((z6 x3p4 x6p9).1).nl) ((((z6 x3p4 x6p9).1).l).map Sn.D) (zsl (((z6 x3p4 x6p9).1).nl) 2) none,B ((z6 x3p4 x6p9).2)]),(30,.tup [.sl (((z6 x3p4 x6p9).1).nl) ((((z6 x3p4 x6p9).1).l).map Sn.D) (zsl (((z6 x3p4 x6p9).1).nl) 2) none,B ((z6 x3p4 x6p9).2)]),(29,.agg [I x6p9.lo,I x6p9.hi]),(28,.agg [I x3p4.lo,I x3p4.hi]),(27,.fn (.func 92) [] []),(11,.lref 2 0 2 0),(25,.agg [I x6p9.lo,I x6p9.hi]),(24,.ptr (.agg [I x6p9.lo,I x6p9.hi])),(23,B true),(1,.sl q3p4_0.nl (q3p4_0.l.map Sn.D) (zsl q3p4_0.nl 2) none),(2,.fn (.func 92) [] []),(7,.sl true [] 0 none),(9,.lref 1 0 2 0),(14,.sl a.nl (a.l.map Sn.D) (zsl a.nl 2) none),(15,I ((a.l.length:Nat):Int)),(16,I ((i3p4:Nat):Int)),(20,.sl q3p4_0.nl (q3p4_0.l.map Sn.D) (zsl q3p4_0.nl 2) none),(21,I ((q3p4_0.l.length:Nat):Int)),(22,I ((i6p9:Nat):Int))],[(1,⟨[.agg [I x3p4.lo,I x3p4.hi]],2,false⟩),(2,⟨[.agg [I x6p9.lo,I x6p9.hi]],2,false⟩),(3,⟨(((z6 x3p4 x6p9).1).l).map Sn.D,2,false⟩)],4,1⟩

inductive LR_ranges_pairs_6p9 where
 | x0 (va6p9_0:List Sn)
 | x1 (i6p9:Nat) (x6p9:Sn) (va6p9_0:List Sn)
 | x2 (i6p9:Nat) (x6p9:Sn) (va6p9_0:List Sn)
 | x3
 | x4 (i6p9:Nat) (x6p9:Sn)
 | x5 (i6p9:Nat) (x6p9:Sn)
instance:Inhabited LR_ranges_pairs_6p9:=⟨.x0 default⟩
def ranges_pairs_6p9a (x3p4:Sn):List Sn→Nat→(List Sn)→LR_ranges_pairs_6p9
 | [],i6p9,va6p9_0=>.x0 va6p9_0
 | x6p9::rest6p9,i6p9,va6p9_0 =>
  bif ((z6 x3p4 x6p9).2) then
   bif (((z6 x3p4 x6p9).1).l).isEmpty then
    .x1 i6p9 x6p9 va6p9_0
   else
    .x2 i6p9 x6p9 va6p9_0
  else
   bif (((z6 x3p4 x6p9).1).l).isEmpty then
    ranges_pairs_6p9a x3p4 rest6p9 (i6p9+1) va6p9_0
   else
    ranges_pairs_6p9a x3p4 rest6p9 (i6p9+1) (va6p9_0++(((z6 x3p4 x6p9).1).l))
def ranges_pairs_6p9 (x3p4:Sn):List Sn→Nat→LR_ranges_pairs_6p9
 | [],i6p9=>.x3
 | x6p9::rest6p9,i6p9 =>
  bif ((z6 x3p4 x6p9).2) then
   bif (((z6 x3p4 x6p9).1).l).isEmpty then
    .x4 i6p9 x6p9
   else
    .x5 i6p9 x6p9
  else
   bif (((z6 x3p4 x6p9).1).l).isEmpty then
    ranges_pairs_6p9 x3p4 rest6p9 (i6p9+1)
   else
    ranges_pairs_6p9a x3p4 rest6p9 (i6p9+1) (((z6 x3p4 x6p9).1).l)
def lr_ranges_pairs_6p9 (a:GS Sn) (i3p4:Nat) (q3p4_0:GS Sn) (x3p4:Sn):LR_ranges_pairs_6p9→Exit × St
 | .x0 va6p9_0=>((.exit 2),⟨40,[(23,B false),(1,.sl q3p4_0.nl (q3p4_0.l.map Sn.D) (zsl q3p4_0.nl 2) none),(2,.fn (.func 92) [] []),(7,.lsl 1 0 va6p9_0.length 2 none),(9,.lref 2 0 2 0),(14,.sl a.nl (a.l.map Sn.D) (zsl a.nl 2) none),(15,I ((a.l.length:Nat):Int)),(16,I ((i3p4:Nat):Int)),(20,.sl q3p4_0.nl (q3p4_0.l.map Sn.D) (zsl q3p4_0.nl 2) none),(21,I ((q3p4_0.l.length:Nat):Int)),(22,I ((q3p4_0.l.length:Nat):Int))],[(1,⟨va6p9_0.map Sn.D,2,false⟩),(2,⟨[.agg [I x3p4.lo,I x3p4.hi]],2,false⟩)],3,1⟩)
 | .x1 i6p9 x6p9 va6p9_0=>((.exit 0),⟨40,[(36,B true),(7,.lsl 1 0 va6p9_0.length 2 none),(35,.lsl 1 0 va6p9_0.length 2 none),(34,.sl (((z6 x3p4 x6p9).1).nl) ((((z6 x3p4 x6p9).1).l).map Sn.D) (zsl (((z6 x3p4 x6p9).1).nl) 2) none),(33,.lsl 1 0 va6p9_0.length 2 none),(13,B true),(12,.sl (((z6 x3p4 x6p9).1).nl) ((((z6 x3p4 x6p9).1).l).map Sn.D) (zsl (((z6 x3p4 x6p9).1).nl) 2) none),(32,B true),(31,.sl (((z6 x3p4 x6p9).1).nl) ((((z6 x3p4 x6p9).1).l).map Sn.D) (zsl (((z6 x3p4 x6p9).1).nl) 2) none),(26,.tup [.sl (((z6 x3p4 x6p9).1).nl) ((((z6 x3p4 x6p9).1).l).map Sn.D) (zsl (((z6 x3p4 x6p9).1).nl) 2) none,B ((z6 x3p4 x6p9).2)]),(30,.tup [.sl (((z6 x3p4 x6p9).1).nl) ((((z6 x3p4 x6p9).1).l).map Sn.D) (zsl (((z6 x3p4 x6p9).1).nl) 2) none,B ((z6 x3p4 x6p9).2)]),(29,.agg [I x6p9.lo,I x6p9.hi]),(28,.agg [I x3p4.lo,I x3p4.hi]),(27,.fn (.func 92) [] []),(11,.lref 3 0 2 0),(25,.agg [I x6p9.lo,I x6p9.hi]),(24,.ptr (.agg [I x6p9.lo,I x6p9.hi])),(23,B true),(1,.sl q3p4_0.nl (q3p4_0.l.map Sn.D) (zsl q3p4_0.nl 2) none),(2,.fn (.func 92) [] []),(7,.lsl 1 0 va6p9_0.length 2 none),(9,.lref 2 0 2 0),(14,.sl a.nl (a.l.map Sn.D) (zsl a.nl 2) none),(15,I ((a.l.length:Nat):Int)),(16,I ((i3p4:Nat):Int)),(20,.sl q3p4_0.nl (q3p4_0.l.map Sn.D) (zsl q3p4_0.nl 2) none),(21,I ((q3p4_0.l.length:Nat):Int)),(22,I ((i6p9:Nat):Int))],[(1,⟨va6p9_0.map Sn.D,2,false⟩),(2,⟨[.agg [I x3p4.lo,I x3p4.hi]],2,false⟩),(3,⟨[.agg [I x6p9.lo,I x6p9.hi]],2,false⟩)],4,1⟩)
 | .x2 i6p9 x6p9 va6p9_0=>((.exit 0),⟨40,[(36,B true),(7,.lsl 4 0 ((va6p9_0++(((z6 x3p4 x6p9).1).l)).length) 2 none),(35,.lsl 4 0 ((va6p9_0++(((z6 x3p4 x6p9).1).l)).length) 2 none),(34,.sl (((z6 x3p4 x6p9).1).nl) ((((z6 x3p4 x6p9).1).l).map Sn.D) (zsl (((z6 x3p4 x6p9).1).nl) 2) none),(33,.lsl 1 0 va6p9_0.length 2 none),(13,B true),(12,.sl (((z6 x3p4 x6p9).1).nl) ((((z6 x3p4 x6p9).1).l).map Sn.D) (zsl (((z6 x3p4 x6p9).1).nl) 2) none),(32,B true),(31,.sl (((z6 x3p4 x6p9).1).nl) ((((z6 x3p4 x6p9).1).l).map Sn.D) (zsl (((z6 x3p4 x6p9).1).nl) 2) none),(26,.tup [.sl (((z6 x3p4 x6p9).1).nl) ((((z6 x3p4 x6p9).1).l).map Sn.D) (zsl (((z6 x3p4 x6p9).1).nl) 2) none,B ((z6 x3p4 x6p9).2)]),(30,.tup [.sl (((z6 x3p4 x6p9).1).nl) ((((z6 x3p4 x6p9).1).l).map Sn.D) (zsl (((z6 x3p4 x6p9).1).nl) 2) none,B ((z6 x3p4 x6p9).2)]),(29,.agg [I x6p9.lo,I x6p9.hi]),(28,.agg [I x3p4.lo,I x3p4.hi]),(27,.fn (.func 92) [] []),(11,.lref 3 0 2 0),(25,.agg [I x6p9.lo,I x6p9.hi]),(24,.ptr (.agg [I x6p9.lo,I x6p9.hi])),(23,B true),(1,.sl q3p4_0.nl (q3p4_0.l.map Sn.D) (zsl q3p4_0.nl 2) none),(2,.fn (.func 92) [] []),(7,.lsl 1 0 va6p9_0.length 2 none),(9,.lref 2 0 2 0),(14,.sl a.nl (a.l.map Sn.D) (zsl a.nl 2) none),(15,I ((a.l.length:Nat):Int)),(16,I ((i3p4:Nat):Int)),(20,.sl q3p4_0.nl (q3p4_0.l.map Sn.D) (zsl q3p4_0.nl 2) none),(21,I ((q3p4_0.l.length:Nat):Int)),(22,I ((i6p9:Nat):Int))],[(2,⟨[.agg [I x3p4.lo,I x3p4.hi]],2,false⟩),(3,⟨[.agg [I x6p9.lo,I x6p9.hi]],2,false⟩),(4,⟨(va6p9_0++(((z6 x3p4 x6p9).1).l)).map Sn.D,2,false⟩)],5,1⟩)
 | .x3=>((.exit 2),⟨40,[(23,B false),(1,.sl q3p4_0.nl (q3p4_0.l.map Sn.D) (zsl q3p4_0.nl 2) none),(2,.fn (.func 92) [] []),(7,.sl true [] 0 none),(9,.lref 1 0 2 0),(14,.sl a.nl (a.l.map Sn.D) (zsl a.nl 2) none),(15,I ((a.l.length:Nat):Int)),(16,I ((i3p4:Nat):Int)),(20,.sl q3p4_0.nl (q3p4_0.l.map Sn.D) (zsl q3p4_0.nl 2) none),(21,I ((q3p4_0.l.length:Nat):Int)),(22,I ((q3p4_0.l.length:Nat):Int))],[(1,⟨[.agg [I x3p4.lo,I x3p4.hi]],2,false⟩)],2,1⟩)
 | .x4 i6p9 x6p9=>((.exit 0),⟨40,[(36,B true),(7,.sl true [] 0 none),(35,.sl true [] 0 none),(34,.sl (((z6 x3p4 x6p9).1).nl) ((((z6 x3p4 x6p9).1).l).map Sn.D) (zsl (((z6 x3p4 x6p9).1).nl) 2) none),(33,.sl true [] 0 none),(13,B true),(12,.sl (((z6 x3p4 x6p9).1).nl) ((((z6 x3p4 x6p9).1).l).map Sn.D) (zsl (((z6 x3p4 x6p9).1).nl) 2) none),(32,B true),(31,.sl (((z6 x3p4 x6p9).1).nl) ((((z6 x3p4 x6p9).1).l).map Sn.D) (zsl (((z6 x3p4 x6p9).1).nl) 2) none),(26,.tup [.sl (((z6 x3p4 x6p9).1).nl) ((((z6 x3p4 x6p9).1).l).map Sn.D) (zsl (((z6 x3p4 x6p9).1).nl) 2) none,B ((z6 x3p4 x6p9).2)]),(30,.tup [.sl (((z6 x3p4 x6p9).1).nl) ((((z6 x3p4 x6p9).1).l).map Sn.D) (zsl (((z6 x3p4 x6p9).1).nl) 2) none,B ((z6 x3p4 x6p9).2)]),(29,.agg [I x6p9.lo,I x6p9.hi]),(28,.agg [I x3p4.lo,I x3p4.hi]),(27,.fn (.func 92) [] []),(11,.lref 2 0 2 0),(25,.agg [I x6p9.lo,I x6p9.hi]),(24,.ptr (.agg [I x6p9.lo,I x6p9.hi])),(23,B true),(1,.sl q3p4_0.nl (q3p4_0.l.map Sn.D) (zsl q3p4_0.nl 2) none),(2,.fn (.func 92) [] []),(7,.sl true [] 0 none),(9,.lref 1 0 2 0),(14,.sl a.nl (a.l.map Sn.D) (zsl a.nl 2) none),(15,I ((a.l.length:Nat):Int)),(16,I ((i3p4:Nat):Int)),(20,.sl q3p4_0.nl (q3p4_0.l.map Sn.D) (zsl q3p4_0.nl 2) none),(21,I ((q3p4_0.l.length:Nat):Int)),(22,I ((i6p9:Nat):Int))],[(1,⟨[.agg [I x3p4.lo,I x3p4.hi]],2,false⟩),(2,⟨[.agg [I x6p9.lo,I x6p9.hi]],2,false⟩)],3,1⟩)
 | .x5 i6p9 x6p9=>((.exit 0),⟨40,[(36,B true),(7,.lsl 3 0 ((((z6 x3p4 x6p9).1).l).length) 2 none),(35,.lsl 3 0 ((((z6 x3p4 x6p9).1).l).length) 2 none),(34,.sl (((z6 x3p4 x6p9).1).nl) ((((z6 x3p4 x6p9).1).l).map Sn.D) (zsl (((z6 x3p4 x6p9).1).nl) 2) none),(33,.sl true [] 0 none),(13,B true),(12,.sl (((z6 x3p4 x6p9).1).nl) ((((z6 x3p4 x6p9).1).l).map Sn.D) (zsl (((z6 x3p4 x6p9).1).nl) 2) none),(32,B true),(31,.sl (((z6 x3p4 x6p9).1).nl) ((((z6 x3p4 x6p9).1).l).map Sn.D) (zsl (((z6 x3p4 x6p9).1).nl) 2) none),(26,.tup [.sl (((z6 x3p4 x6p9).1).nl) ((((z6 x3p4 x6p9).1).l).map Sn.D) (zsl (((z6 x3p4 x6p9).1).nl) 2) none,B ((z6 x3p4 x6p9).2)]),(30,.tup [.sl (((z6 x3p4 x6p9).1).nl) ((((z6 x3p4 x6p9).1).l).map Sn.D) (zsl (((z6 x3p4 x6p9).1).nl) 2) none,B ((z6 x3p4 x6p9).2)]),(29,.agg [I x6p9.lo,I x6p9.hi]),(28,.agg [I x3p4.lo,I x3p4.hi]),(27,.fn (.func 92) [] []),(11,.lref 2 0 2 0),(25,.agg [I x6p9.lo,I x6p9.hi]),(24,.ptr (.agg [I x6p9.lo,I x6p9.hi])),(23,B true),(1,.sl q3p4_0.nl (q3p4_0.l.map Sn.D) (zsl q3p4_0.nl 2) none),(2,.fn (.func 92) [] []),(7,.sl true [] 0 none),(9,.lref 1 0 2 0),(14,.sl a.nl (a.l.map Sn.D) (zsl a.nl 2) none),(15,I ((a.l.length:Nat):Int)),(16,I ((i3p4:Nat):Int)),(20,.sl q3p4_0.nl (q3p4_0.l.map Sn.D) (zsl q3p4_0.nl 2) none),(21,I ((q3p4_0.l.length:Nat):Int)),(22,I ((i6p9:Nat):Int))],[(1,⟨[.agg [I x3p4.lo,I x3p4.hi]],2,false⟩),(2,⟨[.agg [I x6p9.lo,I x6p9.hi]],2,false⟩),(3,⟨(((z6 x3p4 x6p9).1).l).map Sn.D,2,false⟩)],4,1⟩)
def iv_ranges_pairs_6p9 (a:GS Sn) (i3p4:Nat) (q3p4_0:GS Sn) (x3p4:Sn):LR_ranges_pairs_6p9→Prop
 | .x0 va6p9_0=>(va6p9_0.length≤65 * i3p4+q3p4_0.l.length)
 | .x1 i6p9 x6p9 va6p9_0=>(va6p9_0.length≤65 * i3p4+i6p9)
 | .x2 i6p9 x6p9 va6p9_0=>(va6p9_0.length≤65 * i3p4+i6p9)
 | .x3=>True
 | .x4 i6p9 x6p9=>True
 | .x5 i6p9 x6p9=>True
def ranges_pairs_6p9a_l_o1 (x3p4:Sn) (x6p9:Sn):List Ora:=[.dec true,.el (.agg [I x6p9.lo,I x6p9.hi]),.pure (.tup [.sl (((z6 x3p4 x6p9).1).nl) ((((z6 x3p4 x6p9).1).l).map Sn.D) (zsl (((z6 x3p4 x6p9).1).nl) 2) none,B ((z6 x3p4 x6p9).2)])]
theorem lp_ranges_pairs_6p9a (a:GS Sn) (i3p4:Nat) (q3p4_0:GS Sn) (x3p4:Sn):∀ (rest6p9:List Sn) (i6p9:Nat) (va6p9_0:List Sn) (hd6p9:q3p4_0.l.drop i6p9=rest6p9) (hi6p9:i6p9≤q3p4_0.l.length) (hb65:q3p4_0.l.length≤65) (ho64:i3p4 < 64) (hg6p9_va6p9_0:va6p9_0.length≤65 * i3p4+i6p9) (hL6p9:q3p4_0.l.length≤1099511627776),(lim cfg).loop 87 lp87_6 ⟨40,[(1,.sl q3p4_0.nl (q3p4_0.l.map Sn.D) (zsl q3p4_0.nl 2) none),(2,.fn (.func 92) [] []),(7,.lsl 1 0 va6p9_0.length 2 none),(9,.lref 2 0 2 0),(14,.sl a.nl (a.l.map Sn.D) (zsl a.nl 2) none),(15,I ((a.l.length:Nat):Int)),(16,I ((i3p4:Nat):Int)),(20,.sl q3p4_0.nl (q3p4_0.l.map Sn.D) (zsl q3p4_0.nl 2) none),(21,I ((q3p4_0.l.length:Nat):Int)),(22,I ((i6p9:Nat):Int))],[(1,⟨va6p9_0.map Sn.D,2,false⟩),(2,⟨[.agg [I x3p4.lo,I x3p4.hi]],2,false⟩)],3,1⟩=some (lr_ranges_pairs_6p9 a i3p4 q3p4_0 x3p4 (ranges_pairs_6p9a x3p4 rest6p9 i6p9 va6p9_0)):=by
 intro rest6p9
 induction rest6p9 with
 | nil =>
  intro i6p9 va6p9_0 hd6p9 hi6p9 hb65 ho64 hg6p9_va6p9_0 hL6p9
  unfold ranges_pairs_6p9a
  obtain rfl:i6p9=q3p4_0.l.length:=yC hd6p9 hi6p9
  exact zP [.dec false] (Ai (lt_no hd6p9) trivial) (by kernel_rfl)
 | cons x6p9 rest6p9 ih =>
  intro i6p9 va6p9_0 hd6p9 hi6p9 hb65 ho64 hg6p9_va6p9_0 hL6p9
  have hlt6p9:=zl hd6p9
  have hlx:=within1_len x3p4 x6p9
  unfold ranges_pairs_6p9a
  have p1:=(el_at (s:=q3p4_0) (f:=Sn.D) (k:=2) hd6p9)
  cases h35:((z6 x3p4 x6p9).2) with
  | true =>
   cases h36:(((z6 x3p4 x6p9).1).l).isEmpty with
   | true =>
    exact zP ((ranges_pairs_6p9a_l_o1 x3p4 x6p9)++[.dec true,.op (some 35) ⟨.lsl 1 0 va6p9_0.length 2 none,[],[],4⟩]) (Ai (app_none (te:=yw) (gO:=zF [(1,⟨va6p9_0.map Sn.D,2,false⟩),(2,⟨[.agg [I x3p4.lo,I x3p4.hi]],2,false⟩),(3,⟨[.agg [I x6p9.lo,I x6p9.hi]],2,false⟩)]) (nxt:=4) (f:=Sn.D) (sz:=2) (d:=.lsl 1 0 va6p9_0.length 2 none) ((z6 x3p4 x6p9).1) h36 rfl) (Ai h35 (Ai (T_ranges_Within_1 x3p4 x6p9) (Ai p1 (Ai (lt_at hd6p9) trivial))))) (by kernel_rfl)
   | false =>
    exact zP ((ranges_pairs_6p9a_l_o1 x3p4 x6p9)++[.dec true,.op (some 35) ⟨.lsl 4 0 ((va6p9_0++(((z6 x3p4 x6p9).1).l)).length) 2 none,[(1,none),(4,some ⟨(va6p9_0++(((z6 x3p4 x6p9).1).l)).map Sn.D,2,false⟩)],[1],5⟩]) (Ai (app_moreD (te:=yw) (gO:=zF [(1,⟨va6p9_0.map Sn.D,2,false⟩),(2,⟨[.agg [I x3p4.lo,I x3p4.hi]],2,false⟩),(3,⟨[.agg [I x6p9.lo,I x6p9.hi]],2,false⟩)]) (nxt:=4) (o:=1) (v:=va6p9_0) z7 ((z6 x3p4 x6p9).1) h36 (by kernel_rfl) rfl (by kernel_rfl) (by decide) ⟨by simp only [yw,big] <;> (first | assumption | omega | (exact yh (by omega) (by omega)) | (exact zT (by omega)) | (exact zK (by omega)) | (exact zU (by omega)) | (exact zM (by omega)) | (exact zB _ (by omega)) | (simp only [zo] at * <;> omega) | (simp only [zG,GS.some_l,List.length_set,List.length_append,List.length_cons,List.length_nil] at * <;> first | with_reducible assumption | omega) | (simp only [zG,GS.some_l,List.length_set,List.length_append,List.length_cons,List.length_nil,zo] at * <;> first | with_reducible assumption | omega) | (simp at * <;> omega)),by simp only [big] <;> (first | assumption | omega | (exact yh (by omega) (by omega)) | (exact zT (by omega)) | (exact zK (by omega)) | (exact zU (by omega)) | (exact zM (by omega)) | (exact zB _ (by omega)) | (simp only [zo] at * <;> omega) | (simp only [zG,GS.some_l,List.length_set,List.length_append,List.length_cons,List.length_nil] at * <;> first | with_reducible assumption | omega) | (simp only [zG,GS.some_l,List.length_set,List.length_append,List.length_cons,List.length_nil,zo] at * <;> first | with_reducible assumption | omega) | (simp at * <;> omega))⟩) (Ai h35 (Ai (T_ranges_Within_1 x3p4 x6p9) (Ai p1 (Ai (lt_at hd6p9) trivial))))) (by kernel_rfl)
  | false =>
   cases h37:(((z6 x3p4 x6p9).1).l).isEmpty with
   | true =>
    exact yg (ks:=[1,2,7,9,14,15,16,20,21,22]) (st':=(sd184 a i3p4 q3p4_0 x3p4 i6p9 x6p9 va6p9_0)) ((ranges_pairs_6p9a_l_o1 x3p4 x6p9)++[.dec false,.op (some 35) ⟨.lsl 1 0 va6p9_0.length 2 none,[],[],4⟩,.rw 37 (I ((i6p9+1:Nat):Int))]) (Ai (yE (i:=i6p9) (by have:=zl hd6p9; omega)) (Ai (app_none (te:=yw) (gO:=zF [(1,⟨va6p9_0.map Sn.D,2,false⟩),(2,⟨[.agg [I x3p4.lo,I x3p4.hi]],2,false⟩),(3,⟨[.agg [I x6p9.lo,I x6p9.hi]],2,false⟩)]) (nxt:=4) (f:=Sn.D) (sz:=2) (d:=.lsl 1 0 va6p9_0.length 2 none) ((z6 x3p4 x6p9).1) h37 rfl) (Ai h35 (Ai (T_ranges_Within_1 x3p4 x6p9) (Ai p1 (Ai (lt_at hd6p9) trivial)))))) (by kernel_rfl) (by (simp only [sd184,go_sem,List.length_set,Nat.reduceAdd,Nat.reduceEqDiff,Nat.reduceLT,Nat.reduceLeDiff,bI2,zf.idsL,zf.renL,zf.snapAll,z7.idsL,z7.renL,z7.snapAll]) <;> rfl) (ih (i6p9+1) va6p9_0 (zr hd6p9) (zl hd6p9) (by omega) (by omega) (by omega) (by omega)) (by kernel_rfl)
   | false =>
    exact yg (ks:=[1,2,7,9,14,15,16,20,21,22]) (st':=(sd185 a i3p4 q3p4_0 x3p4 i6p9 x6p9 va6p9_0)) ((ranges_pairs_6p9a_l_o1 x3p4 x6p9)++[.dec false,.op (some 35) ⟨.lsl 4 0 ((va6p9_0++(((z6 x3p4 x6p9).1).l)).length) 2 none,[(1,none),(4,some ⟨(va6p9_0++(((z6 x3p4 x6p9).1).l)).map Sn.D,2,false⟩)],[1],5⟩,.rw 37 (I ((i6p9+1:Nat):Int))]) (Ai (yE (i:=i6p9) (by have:=zl hd6p9; omega)) (Ai (app_moreD (te:=yw) (gO:=zF [(1,⟨va6p9_0.map Sn.D,2,false⟩),(2,⟨[.agg [I x3p4.lo,I x3p4.hi]],2,false⟩),(3,⟨[.agg [I x6p9.lo,I x6p9.hi]],2,false⟩)]) (nxt:=4) (o:=1) (v:=va6p9_0) z7 ((z6 x3p4 x6p9).1) h37 (by kernel_rfl) rfl (by kernel_rfl) (by decide) ⟨by simp only [yw,big] <;> (first | assumption | omega | (exact yh (by omega) (by omega)) | (exact zT (by omega)) | (exact zK (by omega)) | (exact zU (by omega)) | (exact zM (by omega)) | (exact zB _ (by omega)) | (simp only [zo] at * <;> omega) | (simp only [zG,GS.some_l,List.length_set,List.length_append,List.length_cons,List.length_nil] at * <;> first | with_reducible assumption | omega) | (simp only [zG,GS.some_l,List.length_set,List.length_append,List.length_cons,List.length_nil,zo] at * <;> first | with_reducible assumption | omega) | (simp at * <;> omega)),by simp only [big] <;> (first | assumption | omega | (exact yh (by omega) (by omega)) | (exact zT (by omega)) | (exact zK (by omega)) | (exact zU (by omega)) | (exact zM (by omega)) | (exact zB _ (by omega)) | (simp only [zo] at * <;> omega) | (simp only [zG,GS.some_l,List.length_set,List.length_append,List.length_cons,List.length_nil] at * <;> first | with_reducible assumption | omega) | (simp only [zG,GS.some_l,List.length_set,List.length_append,List.length_cons,List.length_nil,zo] at * <;> first | with_reducible assumption | omega) | (simp at * <;> omega))⟩) (Ai h35 (Ai (T_ranges_Within_1 x3p4 x6p9) (Ai p1 (Ai (lt_at hd6p9) trivial)))))) (by kernel_rfl) (by (simp only [sd185,go_sem,List.length_set,Nat.reduceAdd,Nat.reduceEqDiff,Nat.reduceLT,Nat.reduceLeDiff,bI2,zf.idsL,zf.renL,zf.snapAll,z7.idsL,z7.renL,z7.snapAll]) <;> rfl) (ih (i6p9+1) (va6p9_0++(((z6 x3p4 x6p9).1).l)) (zr hd6p9) (zl hd6p9) (by omega) (by omega) (by simp only [List.length_append,List.length_cons,List.length_nil] at * <;> omega) (by omega)) (by kernel_rfl)
theorem ivt_ranges_pairs_6p9a (a:GS Sn) (i3p4:Nat) (q3p4_0:GS Sn) (x3p4:Sn):∀ (rest6p9:List Sn) (i6p9:Nat) (va6p9_0:List Sn) (hd6p9:q3p4_0.l.drop i6p9=rest6p9) (hi6p9:i6p9≤q3p4_0.l.length) (hb65:q3p4_0.l.length≤65) (ho64:i3p4 < 64) (hg6p9_va6p9_0:va6p9_0.length≤65 * i3p4+i6p9) (hL6p9:q3p4_0.l.length≤1099511627776),iv_ranges_pairs_6p9 a i3p4 q3p4_0 x3p4 (ranges_pairs_6p9a x3p4 rest6p9 i6p9 va6p9_0):=by
 intro rest6p9
 induction rest6p9 with
 | nil =>
  intro i6p9 va6p9_0 hd6p9 hi6p9 hb65 ho64 hg6p9_va6p9_0 hL6p9
  unfold ranges_pairs_6p9a
  obtain rfl:i6p9=q3p4_0.l.length:=yC hd6p9 hi6p9
  exact hg6p9_va6p9_0
 | cons x6p9 rest6p9 ih =>
  intro i6p9 va6p9_0 hd6p9 hi6p9 hb65 ho64 hg6p9_va6p9_0 hL6p9
  have hlt6p9:=zl hd6p9
  have hlx:=within1_len x3p4 x6p9
  unfold ranges_pairs_6p9a
  cases h35:((z6 x3p4 x6p9).2) with
  | true =>
   cases h36:(((z6 x3p4 x6p9).1).l).isEmpty with
   | true =>
    exact hg6p9_va6p9_0
   | false =>
    exact hg6p9_va6p9_0
  | false =>
   cases h37:(((z6 x3p4 x6p9).1).l).isEmpty with
   | true =>
    exact ih (i6p9+1) va6p9_0 (zr hd6p9) (zl hd6p9) (by omega) (by omega) (by omega) (by omega)
   | false =>
    exact ih (i6p9+1) (va6p9_0++(((z6 x3p4 x6p9).1).l)) (zr hd6p9) (zl hd6p9) (by omega) (by omega) (by simp only [List.length_append,List.length_cons,List.length_nil] at * <;> omega) (by omega)
def ranges_pairs_6p9_l_o1 (x3p4:Sn) (x6p9:Sn):List Ora:=[.dec true,.el (.agg [I x6p9.lo,I x6p9.hi]),.pure (.tup [.sl (((z6 x3p4 x6p9).1).nl) ((((z6 x3p4 x6p9).1).l).map Sn.D) (zsl (((z6 x3p4 x6p9).1).nl) 2) none,B ((z6 x3p4 x6p9).2)])]
theorem lp_ranges_pairs_6p9 (a:GS Sn) (i3p4:Nat) (q3p4_0:GS Sn) (x3p4:Sn):∀ (rest6p9:List Sn) (i6p9:Nat) (hd6p9:q3p4_0.l.drop i6p9=rest6p9) (hi6p9:i6p9≤q3p4_0.l.length) (hb65:q3p4_0.l.length≤65) (ho64:i3p4 < 64) (hL6p9:q3p4_0.l.length≤1099511627776),(lim cfg).loop 87 lp87_6 ⟨40,[(1,.sl q3p4_0.nl (q3p4_0.l.map Sn.D) (zsl q3p4_0.nl 2) none),(2,.fn (.func 92) [] []),(7,.sl true [] 0 none),(9,.lref 1 0 2 0),(14,.sl a.nl (a.l.map Sn.D) (zsl a.nl 2) none),(15,I ((a.l.length:Nat):Int)),(16,I ((i3p4:Nat):Int)),(20,.sl q3p4_0.nl (q3p4_0.l.map Sn.D) (zsl q3p4_0.nl 2) none),(21,I ((q3p4_0.l.length:Nat):Int)),(22,I ((i6p9:Nat):Int))],[(1,⟨[.agg [I x3p4.lo,I x3p4.hi]],2,false⟩)],2,1⟩=some (lr_ranges_pairs_6p9 a i3p4 q3p4_0 x3p4 (ranges_pairs_6p9 x3p4 rest6p9 i6p9)):=by
 intro rest6p9
 induction rest6p9 with
 | nil =>
  intro i6p9 hd6p9 hi6p9 hb65 ho64 hL6p9
  unfold ranges_pairs_6p9
  obtain rfl:i6p9=q3p4_0.l.length:=yC hd6p9 hi6p9
  exact zP [.dec false] (Ai (lt_no hd6p9) trivial) (by kernel_rfl)
 | cons x6p9 rest6p9 ih =>
  intro i6p9 hd6p9 hi6p9 hb65 ho64 hL6p9
  have hlt6p9:=zl hd6p9
  have hlx:=within1_len x3p4 x6p9
  unfold ranges_pairs_6p9
  have p1:=(el_at (s:=q3p4_0) (f:=Sn.D) (k:=2) hd6p9)
  cases h38:((z6 x3p4 x6p9).2) with
  | true =>
   cases h39:(((z6 x3p4 x6p9).1).l).isEmpty with
   | true =>
    exact zP ((ranges_pairs_6p9_l_o1 x3p4 x6p9)++[.dec true,.op (some 35) ⟨.sl true [] 0 none,[],[],3⟩]) (Ai (app_none (te:=yw) (gO:=zF [(1,⟨[.agg [I x3p4.lo,I x3p4.hi]],2,false⟩),(2,⟨[.agg [I x6p9.lo,I x6p9.hi]],2,false⟩)]) (nxt:=3) (f:=Sn.D) (sz:=2) (d:=.sl true [] 0 none) ((z6 x3p4 x6p9).1) h39 rfl) (Ai h38 (Ai (T_ranges_Within_1 x3p4 x6p9) (Ai p1 (Ai (lt_at hd6p9) trivial))))) (by kernel_rfl)
   | false =>
    exact zP ((ranges_pairs_6p9_l_o1 x3p4 x6p9)++[.dec true,.op (some 35) ⟨.lsl 3 0 ((((z6 x3p4 x6p9).1).l).length) 2 none,[(3,some ⟨(((z6 x3p4 x6p9).1).l).map Sn.D,2,false⟩)],[],4⟩]) (Ai (app_newD (te:=yw) (gO:=zF [(1,⟨[.agg [I x3p4.lo,I x3p4.hi]],2,false⟩),(2,⟨[.agg [I x6p9.lo,I x6p9.hi]],2,false⟩)]) (nxt:=3) (els0:=[]) (sz0:=0) (cap0:=none) z7 ((z6 x3p4 x6p9).1) h39 rfl (by kernel_rfl) (by decide) ⟨by simp only [yw,big] <;> (first | assumption | omega | (exact yh (by omega) (by omega)) | (exact zT (by omega)) | (exact zK (by omega)) | (exact zU (by omega)) | (exact zM (by omega)) | (exact zB _ (by omega)) | (simp only [zo] at * <;> omega) | (simp only [zG,GS.some_l,List.length_set,List.length_append,List.length_cons,List.length_nil] at * <;> first | with_reducible assumption | omega) | (simp only [zG,GS.some_l,List.length_set,List.length_append,List.length_cons,List.length_nil,zo] at * <;> first | with_reducible assumption | omega) | (simp at * <;> omega)),by simp only [big] <;> (first | assumption | omega | (exact yh (by omega) (by omega)) | (exact zT (by omega)) | (exact zK (by omega)) | (exact zU (by omega)) | (exact zM (by omega)) | (exact zB _ (by omega)) | (simp only [zo] at * <;> omega) | (simp only [zG,GS.some_l,List.length_set,List.length_append,List.length_cons,List.length_nil] at * <;> first | with_reducible assumption | omega) | (simp only [zG,GS.some_l,List.length_set,List.length_append,List.length_cons,List.length_nil,zo] at * <;> first | with_reducible assumption | omega) | (simp at * <;> omega))⟩) (Ai h38 (Ai (T_ranges_Within_1 x3p4 x6p9) (Ai p1 (Ai (lt_at hd6p9) trivial))))) (by kernel_rfl)
  | false =>
   cases h40:(((z6 x3p4 x6p9).1).l).isEmpty with
   | true =>
    exact po_turn ((ranges_pairs_6p9_l_o1 x3p4 x6p9)++[.dec false,.op (some 35) ⟨.sl true [] 0 none,[],[],3⟩,.rw 37 (I ((i6p9+1:Nat):Int))]) (Ai (yE (i:=i6p9) (by have:=zl hd6p9; omega)) (Ai (app_none (te:=yw) (gO:=zF [(1,⟨[.agg [I x3p4.lo,I x3p4.hi]],2,false⟩),(2,⟨[.agg [I x6p9.lo,I x6p9.hi]],2,false⟩)]) (nxt:=3) (f:=Sn.D) (sz:=2) (d:=.sl true [] 0 none) ((z6 x3p4 x6p9).1) h40 rfl) (Ai h38 (Ai (T_ranges_Within_1 x3p4 x6p9) (Ai p1 (Ai (lt_at hd6p9) trivial)))))) (ih (i6p9+1) (zr hd6p9) (zl hd6p9) (by omega) (by omega) (by omega)) (by kernel_rfl)
   | false =>
    exact yg (ks:=[1,2,7,9,14,15,16,20,21,22]) (st':=(sd186 a i3p4 q3p4_0 x3p4 i6p9 x6p9)) ((ranges_pairs_6p9_l_o1 x3p4 x6p9)++[.dec false,.op (some 35) ⟨.lsl 3 0 ((((z6 x3p4 x6p9).1).l).length) 2 none,[(3,some ⟨(((z6 x3p4 x6p9).1).l).map Sn.D,2,false⟩)],[],4⟩,.rw 37 (I ((i6p9+1:Nat):Int))]) (Ai (yE (i:=i6p9) (by have:=zl hd6p9; omega)) (Ai (app_newD (te:=yw) (gO:=zF [(1,⟨[.agg [I x3p4.lo,I x3p4.hi]],2,false⟩),(2,⟨[.agg [I x6p9.lo,I x6p9.hi]],2,false⟩)]) (nxt:=3) (els0:=[]) (sz0:=0) (cap0:=none) z7 ((z6 x3p4 x6p9).1) h40 rfl (by kernel_rfl) (by decide) ⟨by simp only [yw,big] <;> (first | assumption | omega | (exact yh (by omega) (by omega)) | (exact zT (by omega)) | (exact zK (by omega)) | (exact zU (by omega)) | (exact zM (by omega)) | (exact zB _ (by omega)) | (simp only [zo] at * <;> omega) | (simp only [zG,GS.some_l,List.length_set,List.length_append,List.length_cons,List.length_nil] at * <;> first | with_reducible assumption | omega) | (simp only [zG,GS.some_l,List.length_set,List.length_append,List.length_cons,List.length_nil,zo] at * <;> first | with_reducible assumption | omega) | (simp at * <;> omega)),by simp only [big] <;> (first | assumption | omega | (exact yh (by omega) (by omega)) | (exact zT (by omega)) | (exact zK (by omega)) | (exact zU (by omega)) | (exact zM (by omega)) | (exact zB _ (by omega)) | (simp only [zo] at * <;> omega) | (simp only [zG,GS.some_l,List.length_set,List.length_append,List.length_cons,List.length_nil] at * <;> first | with_reducible assumption | omega) | (simp only [zG,GS.some_l,List.length_set,List.length_append,List.length_cons,List.length_nil,zo] at * <;> first | with_reducible assumption | omega) | (simp at * <;> omega))⟩) (Ai h38 (Ai (T_ranges_Within_1 x3p4 x6p9) (Ai p1 (Ai (lt_at hd6p9) trivial)))))) (by kernel_rfl) (by (simp only [sd186,go_sem,List.length_set,Nat.reduceAdd,Nat.reduceEqDiff,Nat.reduceLT,Nat.reduceLeDiff,bI2,zf.idsL,zf.renL,zf.snapAll,z7.idsL,z7.renL,z7.snapAll]) <;> rfl) (lp_ranges_pairs_6p9a a i3p4 q3p4_0 x3p4 _ (i6p9+1) (((z6 x3p4 x6p9).1).l) (zr hd6p9) (zl hd6p9) (by omega) (by omega) (by omega) (by omega)) (by kernel_rfl)
theorem ivt_ranges_pairs_6p9 (a:GS Sn) (i3p4:Nat) (q3p4_0:GS Sn) (x3p4:Sn):∀ (rest6p9:List Sn) (i6p9:Nat) (hd6p9:q3p4_0.l.drop i6p9=rest6p9) (hi6p9:i6p9≤q3p4_0.l.length) (hb65:q3p4_0.l.length≤65) (ho64:i3p4 < 64) (hL6p9:q3p4_0.l.length≤1099511627776),iv_ranges_pairs_6p9 a i3p4 q3p4_0 x3p4 (ranges_pairs_6p9 x3p4 rest6p9 i6p9):=by
 intro rest6p9
 induction rest6p9 with
 | nil =>
  intro i6p9 hd6p9 hi6p9 hb65 ho64 hL6p9
  unfold ranges_pairs_6p9
  obtain rfl:i6p9=q3p4_0.l.length:=yC hd6p9 hi6p9
  exact trivial
 | cons x6p9 rest6p9 ih =>
  intro i6p9 hd6p9 hi6p9 hb65 ho64 hL6p9
  have hlt6p9:=zl hd6p9
  have hlx:=within1_len x3p4 x6p9
  unfold ranges_pairs_6p9
  cases h38:((z6 x3p4 x6p9).2) with
  | true =>
   cases h39:(((z6 x3p4 x6p9).1).l).isEmpty with
   | true =>
    exact trivial
   | false =>
    exact trivial
  | false =>
   cases h40:(((z6 x3p4 x6p9).1).l).isEmpty with
   | true =>
    exact ih (i6p9+1) (zr hd6p9) (zl hd6p9) (by omega) (by omega) (by omega)
   | false =>
    exact ivt_ranges_pairs_6p9a a i3p4 q3p4_0 x3p4 _ (i6p9+1) (((z6 x3p4 x6p9).1).l) (zr hd6p9) (zl hd6p9) (by omega) (by omega) (by omega) (by omega)

def sd174 (a:GS Sn) (i3p4:Nat) (q3p4_0:GS Sn) (x3p4:Sn) (va3p4_0:List Sn):St:=⟨40,[(22,I 0),(21,I ((q3p4_0.l.length:Nat):Int)),(20,.sl q3p4_0.nl (q3p4_0.l.map Sn.D) (zsl q3p4_0.nl 2) none),(9,.lref 2 0 2 0),(19,.agg [I x3p4.lo,I x3p4.hi]),(18,.ptr (.agg [I x3p4.lo,I x3p4.hi])),(17,B true),(1,.sl q3p4_0.nl (q3p4_0.l.map Sn.D) (zsl q3p4_0.nl 2) none),(2,.fn (.func 92) [] []),(7,.lsl 1 0 va3p4_0.length 2 none),(14,.sl a.nl (a.l.map Sn.D) (zsl a.nl 2) none),(15,I ((a.l.length:Nat):Int)),(16,I ((i3p4:Nat):Int))],[(1,⟨va3p4_0.map Sn.D,2,false⟩),(2,⟨[.agg [I x3p4.lo,I x3p4.hi]],2,false⟩)],3,1⟩

def sd175 (a:GS Sn) (i3p4:Nat) (q3p4_0:GS Sn) (x3p4:Sn) (va3p4_0:List Sn):St:=⟨40,[(1,.sl q3p4_0.nl (q3p4_0.l.map Sn.D) (zsl q3p4_0.nl 2) none),(2,.fn (.func 92) [] []),(7,.lsl 1 0 va3p4_0.length 2 none),(9,.lref 2 0 2 0),(14,.sl a.nl (a.l.map Sn.D) (zsl a.nl 2) none),(15,I ((a.l.length:Nat):Int)),(16,I ((i3p4:Nat):Int)),(20,.sl q3p4_0.nl (q3p4_0.l.map Sn.D) (zsl q3p4_0.nl 2) none),(21,I ((q3p4_0.l.length:Nat):Int)),(22,I 0)],[(1,⟨va3p4_0.map Sn.D,2,false⟩),(2,⟨[.agg [I x3p4.lo,I x3p4.hi]],2,false⟩)],3,1⟩

def sd192 (a:GS Sn) (i3p4:Nat) (q3p4_0:GS Sn) (x3p4:Sn) (v6p8_0:List Sn):St:=⟨40,[(16,I ((i3p4+1:Nat):Int)),(38,I ((i3p4+1:Nat):Int)),(23,B false),(1,.sl q3p4_0.nl (q3p4_0.l.map Sn.D) (zsl q3p4_0.nl 2) none),(2,.fn (.func 92) [] []),(7,.lsl 1 0 v6p8_0.length 2 none),(9,.lref 2 0 2 0),(14,.sl a.nl (a.l.map Sn.D) (zsl a.nl 2) none),(15,I ((a.l.length:Nat):Int)),(16,I ((i3p4:Nat):Int)),(20,.sl q3p4_0.nl (q3p4_0.l.map Sn.D) (zsl q3p4_0.nl 2) none),(21,I ((q3p4_0.l.length:Nat):Int)),(22,I ((q3p4_0.l.length:Nat):Int))],[(1,⟨v6p8_0.map Sn.D,2,false⟩),(2,⟨[.agg [I x3p4.lo,I x3p4.hi]],2,false⟩)],3,1⟩

def sd181 (a:GS Sn) (i3p4:Nat) (q3p4_0:GS Sn) (x3p4:Sn) (v6p8_0:List Sn):St:=⟨40,[(23,B false),(1,.sl q3p4_0.nl (q3p4_0.l.map Sn.D) (zsl q3p4_0.nl 2) none),(2,.fn (.func 92) [] []),(7,.lsl 1 0 v6p8_0.length 2 none),(9,.lref 2 0 2 0),(14,.sl a.nl (a.l.map Sn.D) (zsl a.nl 2) none),(15,I ((a.l.length:Nat):Int)),(16,I ((i3p4:Nat):Int)),(20,.sl q3p4_0.nl (q3p4_0.l.map Sn.D) (zsl q3p4_0.nl 2) none),(21,I ((q3p4_0.l.length:Nat):Int)),(22,I ((q3p4_0.l.length:Nat):Int))],[(1,⟨v6p8_0.map Sn.D,2,false⟩),(2,⟨[.agg [I x3p4.lo,I x3p4.hi]],2,false⟩)],3,1⟩

def sd182 (a:GS Sn) (i3p4:Nat) (q3p4_0:GS Sn) (x3p4:Sn) (i6p8:Nat) (x6p8:Sn) (v6p8_0:List Sn):St:=⟨40,[(36,B true),(7,.lsl 1 0 v6p8_0.length 2 none),(35,.lsl 1 0 v6p8_0.length 2 none),(34,.sl (((z6 x3p4 x6p8).1).nl) ((((z6 x3p4 x6p8).1).l).map Sn.D) (zsl (((z6 x3p4 x6p8).1).nl) 2) none),(33,.lsl 1 0 v6p8_0.length 2 none),(13,B true),(12,.sl (((z6 x3p4 x6p8).1).nl) ((((z6 x3p4 x6p8).1).l).map Sn.D) (zsl (((z6 x3p4 x6p8).1).nl) 2) none),(32,B true),(31,.sl (((z6 x3p4 x6p8).1).nl) ((((z6 x3p4 x6p8).1).l).map Sn.D) (zsl (((z6 x3p4 x6p8).1).nl) 2) none),(26,.tup [.sl (((z6 x3p4 x6p8).1).nl) ((((z6 x3p4 x6p8).1).l).map Sn.D) (zsl (((z6 x3p4 x6p8).1).nl) 2) none,B ((z6 x3p4 x6p8).2)]),(30,.tup [.sl (((z6 x3p4 x6p8).1).nl) ((((z6 x3p4 x6p8).1).l).map Sn.D) (zsl (((z6 x3p4 x6p8).1).nl) 2) none,B ((z6 x3p4 x6p8).2)]),(29,.agg [I x6p8.lo,I x6p8.hi]),(28,.agg [I x3p4.lo,I x3p4.hi]),(27,.fn (.func 92) [] []),(11,.lref 3 0 2 0),(25,.agg [I x6p8.lo,I x6p8.hi]),(24,.ptr (.agg [I x6p8.lo,I x6p8.hi])),(23,B true),(1,.sl q3p4_0.nl (q3p4_0.l.map Sn.D) (zsl q3p4_0.nl 2) none),(2,.fn (.func 92) [] []),(7,.lsl 1 0 v6p8_0.length 2 none),(9,.lref 2 0 2 0),(14,.sl a.nl (a.l.map Sn.D) (zsl a.nl 2) none),(15,I ((a.l.length:Nat):Int)),(16,I ((i3p4:Nat):Int)),(20,.sl q3p4_0.nl (q3p4_0.l.map Sn.D) (zsl q3p4_0.nl 2) none),(21,I ((q3p4_0.l.length:Nat):Int)),(22,I ((i6p8:Nat):Int))],[(1,⟨v6p8_0.map Sn.D,2,false⟩),(2,⟨[.agg [I x3p4.lo,I x3p4.hi]],2,false⟩),(3,⟨[.agg [I x6p8.lo,I x6p8.hi]],2,false⟩)],4,1⟩

def sd183 (a:GS Sn) (i3p4:Nat) (q3p4_0:GS Sn) (x3p4:Sn) (i6p8:Nat) (x6p8:Sn) (v6p8_0:List Sn):St:=⟨40,[(36,B true),(7,.lsl 4 0 ((v6p8_0++(((z6 x3p4 x6p8).1).l)).length) 2 none),(35,.lsl 4 0 ((v6p8_0++(((z6 x3p4 x6p8).1).l)).length) 2 none),(34,.sl (((z6 x3p4 x6p8).1).nl) ((((z6 x3p4 x6p8).1).l).map Sn.D) (zsl (((z6 x3p4 x6p8).1).nl) 2) none),(33,.lsl 1 0 v6p8_0.length 2 none),(13,B true),(12,.sl (((z6 x3p4 x6p8).1).nl) ((((z6 x3p4 x6p8).1).l).map Sn.D) (zsl (((z6 x3p4 x6p8).1).nl) 2) none),(32,B true),(31,.sl (((z6 x3p4 x6p8).1).nl) ((((z6 x3p4 x6p8).1).l).map Sn.D) (zsl (((z6 x3p4 x6p8).1).nl) 2) none),(26,.tup [.sl (((z6 x3p4 x6p8).1).nl) ((((z6 x3p4 x6p8).1).l).map Sn.D) (zsl (((z6 x3p4 x6p8).1).nl) 2) none,B ((z6 x3p4 x6p8).2)]),(30,.tup [.sl (((z6 x3p4 x6p8).1).nl) ((((z6 x3p4 x6p8).1).l).map Sn.D) (zsl (((z6 x3p4 x6p8).1).nl) 2) none,B ((z6 x3p4 x6p8).2)]),(29,.agg [I x6p8.lo,I x6p8.hi]),(28,.agg [I x3p4.lo,I x3p4.hi]),(27,.fn (.func 92) [] []),(11,.lref 3 0 2 0),(25,.agg [I x6p8.lo,I x6p8.hi]),(24,.ptr (.agg [I x6p8.lo,I x6p8.hi])),(23,B true),(1,.sl q3p4_0.nl (q3p4_0.l.map Sn.D) (zsl q3p4_0.nl 2) none),(2,.fn (.func 92) [] []),(7,.lsl 1 0 v6p8_0.length 2 none),(9,.lref 2 0 2 0),(14,.sl a.nl (a.l.map Sn.D) (zsl a.nl 2) none),(15,I ((a.l.length:Nat):Int)),(16,I ((i3p4:Nat):Int)),(20,.sl q3p4_0.nl (q3p4_0.l.map Sn.D) (zsl q3p4_0.nl 2) none),(21,I ((q3p4_0.l.length:Nat):Int)),(22,I ((i6p8:Nat):Int))],[(2,⟨[.agg [I x3p4.lo,I x3p4.hi]],2,false⟩),(3,⟨[.agg [I x6p8.lo,I x6p8.hi]],2,false⟩),(4,⟨(v6p8_0++(((z6 x3p4 x6p8).1).l)).map Sn.D,2,false⟩)],5,1⟩

def sd193 (a:GS Sn) (i3p4:Nat) (q3p4_0:GS Sn) (x3p4:Sn) (va6p9_0:List Sn):St:=⟨40,[(16,I ((i3p4+1:Nat):Int)),(38,I ((i3p4+1:Nat):Int)),(23,B false),(1,.sl q3p4_0.nl (q3p4_0.l.map Sn.D) (zsl q3p4_0.nl 2) none),(2,.fn (.func 92) [] []),(7,.lsl 1 0 va6p9_0.length 2 none),(9,.lref 2 0 2 0),(14,.sl a.nl (a.l.map Sn.D) (zsl a.nl 2) none),(15,I ((a.l.length:Nat):Int)),(16,I ((i3p4:Nat):Int)),(20,.sl q3p4_0.nl (q3p4_0.l.map Sn.D) (zsl q3p4_0.nl 2) none),(21,I ((q3p4_0.l.length:Nat):Int)),(22,I ((q3p4_0.l.length:Nat):Int))],[(1,⟨va6p9_0.map Sn.D,2,false⟩),(2,⟨[.agg [I x3p4.lo,I x3p4.hi]],2,false⟩)],3,1⟩

def sd187 (a:GS Sn) (i3p4:Nat) (q3p4_0:GS Sn) (x3p4:Sn) (va6p9_0:List Sn):St:=⟨40,[(23,B false),(1,.sl q3p4_0.nl (q3p4_0.l.map Sn.D) (zsl q3p4_0.nl 2) none),(2,.fn (.func 92) [] []),(7,.lsl 1 0 va6p9_0.length 2 none),(9,.lref 2 0 2 0),(14,.sl a.nl (a.l.map Sn.D) (zsl a.nl 2) none),(15,I ((a.l.length:Nat):Int)),(16,I ((i3p4:Nat):Int)),(20,.sl q3p4_0.nl (q3p4_0.l.map Sn.D) (zsl q3p4_0.nl 2) none),(21,I ((q3p4_0.l.length:Nat):Int)),(22,I ((q3p4_0.l.length:Nat):Int))],[(1,⟨va6p9_0.map Sn.D,2,false⟩),(2,⟨[.agg [I x3p4.lo,I x3p4.hi]],2,false⟩)],3,1⟩

def sd188 (a:GS Sn) (i3p4:Nat) (q3p4_0:GS Sn) (x3p4:Sn) (i6p9:Nat) (x6p9:Sn) (va6p9_0:List Sn):St:=⟨40,[(36,B true),(7,.lsl 1 0 va6p9_0.length 2 none),(35,.lsl 1 0 va6p9_0.length 2 none),(34,.sl (((z6 x3p4 x6p9).1).nl) ((((z6 x3p4 x6p9).1).l).map Sn.D) (zsl (((z6 x3p4 x6p9).1).nl) 2) none),(33,.lsl 1 0 va6p9_0.length 2 none),(13,B true),(12,.sl (((z6 x3p4 x6p9).1).nl) ((((z6 x3p4 x6p9).1).l).map Sn.D) (zsl (((z6 x3p4 x6p9).1).nl) 2) none),(32,B true),(31,.sl (((z6 x3p4 x6p9).1).nl) ((((z6 x3p4 x6p9).1).l).map Sn.D) (zsl (((z6 x3p4 x6p9).1).nl) 2) none),(26,.tup [.sl (((z6 x3p4 x6p9).1).nl) ((((z6 x3p4 x6p9).1).l).map Sn.D) (zsl (((z6 x3p4 x6p9).1).nl) 2) none,B ((z6 x3p4 x6p9).2)]),(30,.tup [.sl (((z6 x3p4 x6p9).1).nl) ((((z6 x3p4 x6p9).1).l).map Sn.D) (zsl (((z6 x3p4 x6p9).1).nl) 2) none,B ((z6 x3p4 x6p9).2)]),(29,.agg [I x6p9.lo,I x6p9.hi]),(28,.agg [I x3p4.lo,I x3p4.hi]),(27,.fn (.func 92) [] []),(11,.lref 3 0 2 0),(25,.agg [I x6p9.lo,I x6p9.hi]),(24,.ptr (.agg [I x6p9.lo,I x6p9.hi])),(23,B true),(1,.sl q3p4_0.nl (q3p4_0.l.map Sn.D) (zsl q3p4_0.nl 2) none),(2,.fn (.func 92) [] []),(7,.lsl 1 0 va6p9_0.length 2 none),(9,.lref 2 0 2 0),(14,.sl a.nl (a.l.map Sn.D) (zsl a.nl 2) none),(15,I ((a.l.length:Nat):Int)),(16,I ((i3p4:Nat):Int)),(20,.sl q3p4_0.nl (q3p4_0.l.map Sn.D) (zsl q3p4_0.nl 2) none),(21,I ((q3p4_0.l.length:Nat):Int)),(22,I ((i6p9:Nat):Int))],[(1,⟨va6p9_0.map Sn.D,2,false⟩),(2,⟨[.agg [I x3p4.lo,I x3p4.hi]],2,false⟩),(3,⟨[.agg [I x6p9.lo,I x6p9.hi]],2,false⟩)],4,1⟩

def sd189 (a:GS Sn) (i3p4:Nat) (q3p4_0:GS Sn) (x3p4:Sn) (i6p9:Nat) (x6p9:Sn) (va6p9_0:List Sn):St:=⟨40,[(36,B true),(7,.lsl 4 0 ((va6p9_0++(((z6 x3p4 x6p9).1).l)).length) 2 none),(35,.lsl 4 0 ((va6p9_0++(((z6 x3p4 x6p9).1).l)).length) 2 none),(34,.sl (((z6 x3p4 x6p9).1).nl) ((((z6 x3p4 x6p9).1).l).map Sn.D) (zsl (((z6 x3p4 x6p9).1).nl) 2) none),(33,.lsl 1 0 va6p9_0.length 2 none),(13,B true),(12,.sl (((z6 x3p4 x6p9).1).nl) ((((z6 x3p4 x6p9).1).l).map Sn.D) (zsl (((z6 x3p4 x6p9).1).nl) 2) none),(32,B true),(31,.sl (((z6 x3p4 x6p9).1).nl) ((((z6 x3p4 x6p9).1).l).map Sn.D) (zsl (((z6 x3p4 x6p9).1).nl) 2) none),(26,.tup [.sl (((z6 x3p4 x6p9).1).nl) ((((z6 x3p4 x6p9).1).l).map Sn.D) (zsl (((z6 x3p4 x6p9).1).nl) 2) none,B ((z6 x3p4 x6p9).2)]),(30,.tup [.sl (((z6 x3p4 x6p9).1).nl) ((((z6 x3p4 x6p9).1).l).map Sn.D) (zsl (((z6 x3p4 x6p9).1).nl) 2) none,B ((z6 x3p4 x6p9).2)]),(29,.agg [I x6p9.lo,I x6p9.hi]),(28,.agg [I x3p4.lo,I x3p4.hi]),(27,.fn (.func 92) [] []),(11,.lref 3 0 2 0),(25,.agg [I x6p9.lo,I x6p9.hi]),(24,.ptr (.agg [I x6p9.lo,I x6p9.hi])),(23,B true),(1,.sl q3p4_0.nl (q3p4_0.l.map Sn.D) (zsl q3p4_0.nl 2) none),(2,.fn (.func 92) [] []),(7,.lsl 1 0 va6p9_0.length 2 none),(9,.lref 2 0 2 0),(14,.sl a.nl (a.l.map Sn.D) (zsl a.nl 2) none),(15,I ((a.l.length:Nat):Int)),(16,I ((i3p4:Nat):Int)),(20,.sl q3p4_0.nl (q3p4_0.l.map Sn.D) (zsl q3p4_0.nl 2) none),(21,I ((q3p4_0.l.length:Nat):Int)),(22,I ((i6p9:Nat):Int))],[(2,⟨[.agg [I x3p4.lo,I x3p4.hi]],2,false⟩),(3,⟨[.agg [I x6p9.lo,I x6p9.hi]],2,false⟩),(4,⟨(va6p9_0++(((z6 x3p4 x6p9).1).l)).map Sn.D,2,false⟩)],5,1⟩

def sd169 (a:GS Sn) (i3p4:Nat) (q3p4_0:GS Sn) (x3p4:Sn):St:=⟨40,[(23,B false),(1,.sl q3p4_0.nl (q3p4_0.l.map Sn.D) (zsl q3p4_0.nl 2) none),(2,.fn (.func 92) [] []),(7,.sl true [] 0 none),(9,.lref 1 0 2 0),(14,.sl a.nl (a.l.map Sn.D) (zsl a.nl 2) none),(15,I ((a.l.length:Nat):Int)),(16,I ((i3p4:Nat):Int)),(20,.sl q3p4_0.nl (q3p4_0.l.map Sn.D) (zsl q3p4_0.nl 2) none),(21,I ((q3p4_0.l.length:Nat):Int)),(22,I ((q3p4_0.l.length:Nat):Int))],[(1,⟨[.agg [I x3p4.lo,I x3p4.hi]],2,false⟩)],2,1⟩

def sd190 (a:GS Sn) (i3p4:Nat) (q3p4_0:GS Sn) (x3p4:Sn) (i6p9:Nat) (x6p9:Sn):St:=⟨40,[(36,B true),(7,.sl true [] 0 none),(35,.sl true [] 0 none),(34,.sl (((z6 x3p4 x6p9).1).nl) ((((z6 x3p4 x6p9).1).l).map Sn.D) (zsl (((z6 x3p4 x6p9).1).nl) 2) none),(33,.sl true [] 0 none),(13,B true),(12,.sl (((z6 x3p4 x6p9).1).nl) ((((z6 x3p4 x6p9).1).l).map Sn.D) (zsl (((z6 x3p4 x6p9).1).nl) 2) none),(32,B true),(31,.sl (((z6 x3p4 x6p9).1).nl) ((((z6 x3p4 x6p9).1).l).map Sn.D) (zsl (((z6 x3p4 x6p9).1).nl) 2) none),(26,.tup [.sl (((z6 x3p4 x6p9).1).nl) ((((z6 x3p4 x6p9).1).l).map Sn.D) (zsl (((z6 x3p4 x6p9).1).nl) 2) none,B ((z6 x3p4 x6p9).2)]),(30,.tup [.sl (((z6 x3p4 x6p9).1).nl) ((((z6 x3p4 x6p9).1).l).map Sn.D) (zsl (((z6 x3p4 x6p9).1).nl) 2) none,B ((z6 x3p4 x6p9).2)]),(29,.agg [I x6p9.lo,I x6p9.hi]),(28,.agg [I x3p4.lo,I x3p4.hi]),(27,.fn (.func 92) [] []),(11,.lref 2 0 2 0),(25,.agg [I x6p9.lo,I x6p9.hi]),(24,.ptr (.agg [I x6p9.lo,I x6p9.hi])),(23,B true),(1,.sl q3p4_0.nl (q3p4_0.l.map Sn.D) (zsl q3p4_0.nl 2) none),(2,.fn (.func 92) [] []),(7,.sl true [] 0 none),(9,.lref 1 0 2 0),(14,.sl a.nl (a.l.map Sn.D) (zsl a.nl 2) none),(15,I ((a.l.length:Nat):Int)),(16,I ((i3p4:Nat):Int)),(20,.sl q3p4_0.nl (q3p4_0.l.map Sn.D) (zsl q3p4_0.nl 2) none),(21,I ((q3p4_0.l.length:Nat):Int)),(22,I ((i6p9:Nat):Int))],[(1,⟨[.agg [I x3p4.lo,I x3p4.hi]],2,false⟩),(2,⟨[.agg [I x6p9.lo,I x6p9.hi]],2,false⟩)],3,1⟩

def sd191 (a:GS Sn) (i3p4:Nat) (q3p4_0:GS Sn) (x3p4:Sn) (i6p9:Nat) (x6p9:Sn):St:=⟨40,[(36,B true),(7,.lsl 3 0 ((((z6 x3p4 x6p9).1).l).length) 2 none),(35,.lsl 3 0 ((((z6 x3p4 x6p9).1).l).length) 2 none),(34,.sl (((z6 x3p4 x6p9).1).nl) ((((z6 x3p4 x6p9).1).l).map Sn.D) (zsl (((z6 x3p4 x6p9).1).nl) 2) none),(33,.sl true [] 0 none),(13,B true),(12,.sl (((z6 x3p4 x6p9).1).nl) ((((z6 x3p4 x6p9).1).l).map Sn.D) (zsl (((z6 x3p4 x6p9).1).nl) 2) none),(32,B true),(31,.sl (((z6 x3p4 x6p9).1).nl) ((((z6 x3p4 x6p9).1).l).map Sn.D) (zsl (((z6 x3p4 x6p9).1).nl) 2) none),(26,.tup [.sl (((z6 x3p4 x6p9).1).nl) ((((z6 x3p4 x6p9).1).l).map Sn.D) (zsl (((z6 x3p4 x6p9).1).nl) 2) none,B ((z6 x3p4 x6p9).2)]),(30,.tup [.sl (((z6 x3p4 x6p9).1).nl) ((((z6 x3p4 x6p9).1).l).map Sn.D) (zsl (((z6 x3p4 x6p9).1).nl) 2) none,B ((z6 x3p4 x6p9).2)]),(29,.agg [I x6p9.lo,I x6p9.hi]),(28,.agg [I x3p4.lo,I x3p4.hi]),(27,.fn (.func 92) [] []),(11,.lref 2 0 2 0),(25,.agg [I x6p9.lo,I x6p9.hi]),(24,.ptr (.agg [I x6p9.lo,I x6p9.hi])),(23,B true),(1,.sl q3p4_0.nl (q3p4_0.l.map Sn.D) (zsl q3p4_0.nl 2) none),(2,.fn (.func 92) [] []),(7,.sl true [] 0 none),(9,.lref 1 0 2 0),(14,.sl a.nl (a.l.map Sn.D) (zsl a.nl 2) none),(15,I ((a.l.length:Nat):Int)),(16,I ((i3p4:Nat):Int)),(20,.sl q3p4_0.nl (q3p4_0.l.map Sn.D) (zsl q3p4_0.nl 2) none),(21,I ((q3p4_0.l.length:Nat):Int)),(22,I ((i6p9:Nat):Int))],[(1,⟨[.agg [I x3p4.lo,I x3p4.hi]],2,false⟩),(2,⟨[.agg [I x6p9.lo,I x6p9.hi]],2,false⟩),(3,⟨(((z6 x3p4 x6p9).1).l).map Sn.D,2,false⟩)],4,1⟩

inductive LR_ranges_pairs_3p4 where
 | x0 (va3p4_0:List Sn)
 | x1 (i3p4:Nat) (x3p4:Sn) (i6p8:Nat) (x6p8:Sn) (v6p8_0:List Sn)
 | x2 (i3p4:Nat) (x3p4:Sn) (i6p8:Nat) (x6p8:Sn) (v6p8_0:List Sn)
 | x3
 | x4 (i3p4:Nat) (x3p4:Sn) (i6p9:Nat) (x6p9:Sn) (va6p9_0:List Sn)
 | x5 (i3p4:Nat) (x3p4:Sn) (i6p9:Nat) (x6p9:Sn) (va6p9_0:List Sn)
 | x6 (i3p4:Nat) (x3p4:Sn) (i6p9:Nat) (x6p9:Sn)
 | x7 (i3p4:Nat) (x3p4:Sn) (i6p9:Nat) (x6p9:Sn)
instance:Inhabited LR_ranges_pairs_3p4:=⟨.x0 default⟩
def ranges_pairs_3p4a (q3p4_0:GS Sn):List Sn→Nat→(List Sn)→LR_ranges_pairs_3p4
 | [],i3p4,va3p4_0=>.x0 va3p4_0
 | x3p4::rest3p4,i3p4,va3p4_0 =>
  match ranges_pairs_6p8 x3p4 q3p4_0.l 0 va3p4_0 with
  | .x0 v6p8_0 =>
   ranges_pairs_3p4a q3p4_0 rest3p4 (i3p4+1) v6p8_0
  | .x1 i6p8 x6p8 v6p8_0 =>
   .x1 i3p4 x3p4 i6p8 x6p8 v6p8_0
  | .x2 i6p8 x6p8 v6p8_0 =>
   .x2 i3p4 x3p4 i6p8 x6p8 v6p8_0
def ranges_pairs_3p4 (q3p4_0:GS Sn):List Sn→Nat→LR_ranges_pairs_3p4
 | [],i3p4=>.x3
 | x3p4::rest3p4,i3p4 =>
  match ranges_pairs_6p9 x3p4 q3p4_0.l 0 with
  | .x0 va6p9_0 =>
   ranges_pairs_3p4a q3p4_0 rest3p4 (i3p4+1) va6p9_0
  | .x1 i6p9 x6p9 va6p9_0 =>
   .x4 i3p4 x3p4 i6p9 x6p9 va6p9_0
  | .x2 i6p9 x6p9 va6p9_0 =>
   .x5 i3p4 x3p4 i6p9 x6p9 va6p9_0
  | .x3 =>
   ranges_pairs_3p4 q3p4_0 rest3p4 (i3p4+1)
  | .x4 i6p9 x6p9 =>
   .x6 i3p4 x3p4 i6p9 x6p9
  | .x5 i6p9 x6p9 =>
   .x7 i3p4 x3p4 i6p9 x6p9
def lr_ranges_pairs_3p4 (a:GS Sn) (q3p4_0:GS Sn):LR_ranges_pairs_3p4→Exit × St
 | .x0 va3p4_0=>((.exit 0),⟨40,[(17,B false),(1,.sl q3p4_0.nl (q3p4_0.l.map Sn.D) (zsl q3p4_0.nl 2) none),(2,.fn (.func 92) [] []),(7,.lsl 1 0 va3p4_0.length 2 none),(14,.sl a.nl (a.l.map Sn.D) (zsl a.nl 2) none),(15,I ((a.l.length:Nat):Int)),(16,I ((a.l.length:Nat):Int))],[(1,⟨va3p4_0.map Sn.D,2,false⟩)],2,1⟩)
 | .x1 i3p4 x3p4 i6p8 x6p8 v6p8_0=>((.exit 0),⟨40,[(36,B true),(7,.lsl 1 0 v6p8_0.length 2 none),(35,.lsl 1 0 v6p8_0.length 2 none),(34,.sl (((z6 x3p4 x6p8).1).nl) ((((z6 x3p4 x6p8).1).l).map Sn.D) (zsl (((z6 x3p4 x6p8).1).nl) 2) none),(33,.lsl 1 0 v6p8_0.length 2 none),(13,B true),(12,.sl (((z6 x3p4 x6p8).1).nl) ((((z6 x3p4 x6p8).1).l).map Sn.D) (zsl (((z6 x3p4 x6p8).1).nl) 2) none),(32,B true),(31,.sl (((z6 x3p4 x6p8).1).nl) ((((z6 x3p4 x6p8).1).l).map Sn.D) (zsl (((z6 x3p4 x6p8).1).nl) 2) none),(26,.tup [.sl (((z6 x3p4 x6p8).1).nl) ((((z6 x3p4 x6p8).1).l).map Sn.D) (zsl (((z6 x3p4 x6p8).1).nl) 2) none,B ((z6 x3p4 x6p8).2)]),(30,.tup [.sl (((z6 x3p4 x6p8).1).nl) ((((z6 x3p4 x6p8).1).l).map Sn.D) (zsl (((z6 x3p4 x6p8).1).nl) 2) none,B ((z6 x3p4 x6p8).2)]),(29,.agg [I x6p8.lo,I x6p8.hi]),(28,.agg [I x3p4.lo,I x3p4.hi]),(27,.fn (.func 92) [] []),(11,.lref 3 0 2 0),(25,.agg [I x6p8.lo,I x6p8.hi]),(24,.ptr (.agg [I x6p8.lo,I x6p8.hi])),(23,B true),(1,.sl q3p4_0.nl (q3p4_0.l.map Sn.D) (zsl q3p4_0.nl 2) none),(2,.fn (.func 92) [] []),(7,.lsl 1 0 v6p8_0.length 2 none),(9,.lref 2 0 2 0),(14,.sl a.nl (a.l.map Sn.D) (zsl a.nl 2) none),(15,I ((a.l.length:Nat):Int)),(16,I ((i3p4:Nat):Int)),(20,.sl q3p4_0.nl (q3p4_0.l.map Sn.D) (zsl q3p4_0.nl 2) none),(21,I ((q3p4_0.l.length:Nat):Int)),(22,I ((i6p8:Nat):Int))],[(1,⟨v6p8_0.map Sn.D,2,false⟩),(2,⟨[.agg [I x3p4.lo,I x3p4.hi]],2,false⟩),(3,⟨[.agg [I x6p8.lo,I x6p8.hi]],2,false⟩)],4,1⟩)
 | .x2 i3p4 x3p4 i6p8 x6p8 v6p8_0=>((.exit 0),⟨40,[(36,B true),(7,.lsl 4 0 ((v6p8_0++(((z6 x3p4 x6p8).1).l)).length) 2 none),(35,.lsl 4 0 ((v6p8_0++(((z6 x3p4 x6p8).1).l)).length) 2 none),(34,.sl (((z6 x3p4 x6p8).1).nl) ((((z6 x3p4 x6p8).1).l).map Sn.D) (zsl (((z6 x3p4 x6p8).1).nl) 2) none),(33,.lsl 1 0 v6p8_0.length 2 none),(13,B true),(12,.sl (((z6 x3p4 x6p8).1).nl) ((((z6 x3p4 x6p8).1).l).map Sn.D) (zsl (((z6 x3p4 x6p8).1).nl) 2) none),(32,B true),(31,.sl (((z6 x3p4 x6p8).1).nl) ((((z6 x3p4 x6p8).1).l).map Sn.D) (zsl (((z6 x3p4 x6p8).1).nl) 2) none),(26,.tup [.sl (((z6 x3p4 x6p8).1).nl) ((((z6 x3p4 x6p8).1).l).map Sn.D) (zsl (((z6 x3p4 x6p8).1).nl) 2) none,B ((z6 x3p4 x6p8).2)]),(30,.tup [.sl (((z6 x3p4 x6p8).1).nl) ((((z6 x3p4 x6p8).1).l).map Sn.D) (zsl (((z6 x3p4 x6p8).1).nl) 2) none,B ((z6 x3p4 x6p8).2)]),(29,.agg [I x6p8.lo,I x6p8.hi]),(28,.agg [I x3p4.lo,I x3p4.hi]),(27,.fn (.func 92) [] []),(11,.lref 3 0 2 0),(25,.agg [I x6p8.lo,I x6p8.hi]),(24,.ptr (.agg [I x6p8.lo,I x6p8.hi])),(23,B true),(1,.sl q3p4_0.nl (q3p4_0.l.map Sn.D) (zsl q3p4_0.nl 2) none),(2,.fn (.func 92) [] []),(7,.lsl 1 0 v6p8_0.length 2 none),(9,.lref 2 0 2 0),(14,.sl a.nl (a.l.map Sn.D) (zsl a.nl 2) none),(15,I ((a.l.length:Nat):Int)),(16,I ((i3p4:Nat):Int)),(20,.sl q3p4_0.nl (q3p4_0.l.map Sn.D) (zsl q3p4_0.nl 2) none),(21,I ((q3p4_0.l.length:Nat):Int)),(22,I ((i6p8:Nat):Int))],[(2,⟨[.agg [I x3p4.lo,I x3p4.hi]],2,false⟩),(3,⟨[.agg [I x6p8.lo,I x6p8.hi]],2,false⟩),(4,⟨(v6p8_0++(((z6 x3p4 x6p8).1).l)).map Sn.D,2,false⟩)],5,1⟩)
 | .x3=>((.exit 0),⟨40,[(17,B false),(1,.sl q3p4_0.nl (q3p4_0.l.map Sn.D) (zsl q3p4_0.nl 2) none),(2,.fn (.func 92) [] []),(7,.sl true [] 0 none),(14,.sl a.nl (a.l.map Sn.D) (zsl a.nl 2) none),(15,I ((a.l.length:Nat):Int)),(16,I ((a.l.length:Nat):Int))],[],1,1⟩)
 | .x4 i3p4 x3p4 i6p9 x6p9 va6p9_0=>((.exit 0),⟨40,[(36,B true),(7,.lsl 1 0 va6p9_0.length 2 none),(35,.lsl 1 0 va6p9_0.length 2 none),(34,.sl (((z6 x3p4 x6p9).1).nl) ((((z6 x3p4 x6p9).1).l).map Sn.D) (zsl (((z6 x3p4 x6p9).1).nl) 2) none),(33,.lsl 1 0 va6p9_0.length 2 none),(13,B true),(12,.sl (((z6 x3p4 x6p9).1).nl) ((((z6 x3p4 x6p9).1).l).map Sn.D) (zsl (((z6 x3p4 x6p9).1).nl) 2) none),(32,B true),(31,.sl (((z6 x3p4 x6p9).1).nl) ((((z6 x3p4 x6p9).1).l).map Sn.D) (zsl (((z6 x3p4 x6p9).1).nl) 2) none),(26,.tup [.sl (((z6 x3p4 x6p9).1).nl) ((((z6 x3p4 x6p9).1).l).map Sn.D) (zsl (((z6 x3p4 x6p9).1).nl) 2) none,B ((z6 x3p4 x6p9).2)]),(30,.tup [.sl (((z6 x3p4 x6p9).1).nl) ((((z6 x3p4 x6p9).1).l).map Sn.D) (zsl (((z6 x3p4 x6p9).1).nl) 2) none,B ((z6 x3p4 x6p9).2)]),(29,.agg [I x6p9.lo,I x6p9.hi]),(28,.agg [I x3p4.lo,I x3p4.hi]),(27,.fn (.func 92) [] []),(11,.lref 3 0 2 0),(25,.agg [I x6p9.lo,I x6p9.hi]),(24,.ptr (.agg [I x6p9.lo,I x6p9.hi])),(23,B true),(1,.sl q3p4_0.nl (q3p4_0.l.map Sn.D) (zsl q3p4_0.nl 2) none),(2,.fn (.func 92) [] []),(7,.lsl 1 0 va6p9_0.length 2 none),(9,.lref 2 0 2 0),(14,.sl a.nl (a.l.map Sn.D) (zsl a.nl 2) none),(15,I ((a.l.length:Nat):Int)),(16,I ((i3p4:Nat):Int)),(20,.sl q3p4_0.nl (q3p4_0.l.map Sn.D) (zsl q3p4_0.nl 2) none),(21,I ((q3p4_0.l.length:Nat):Int)),(22,I ((i6p9:Nat):Int))],[(1,⟨va6p9_0.map Sn.D,2,false⟩),(2,⟨[.agg [I x3p4.lo,I x3p4.hi]],2,false⟩),(3,⟨[.agg [I x6p9.lo,I x6p9.hi]],2,false⟩)],4,1⟩)
 | .x5 i3p4 x3p4 i6p9 x6p9 va6p9_0=>((.exit 0),⟨40,[(36,B true),(7,.lsl 4 0 ((va6p9_0++(((z6 x3p4 x6p9).1).l)).length) 2 none),(35,.lsl 4 0 ((va6p9_0++(((z6 x3p4 x6p9).1).l)).length) 2 none),(34,.sl (((z6 x3p4 x6p9).1).nl) ((((z6 x3p4 x6p9).1).l).map Sn.D) (zsl (((z6 x3p4 x6p9).1).nl) 2) none),(33,.lsl 1 0 va6p9_0.length 2 none),(13,B true),(12,.sl (((z6 x3p4 x6p9).1).nl) ((((z6 x3p4 x6p9).1).l).map Sn.D) (zsl (((z6 x3p4 x6p9).1).nl) 2) none),(32,B true),(31,.sl (((z6 x3p4 x6p9).1).nl) ((((z6 x3p4 x6p9).1).l).map Sn.D) (zsl (((z6 x3p4 x6p9).1).nl) 2) none),(26,.tup [.sl (((z6 x3p4 x6p9).1).nl) ((((z6 x3p4 x6p9).1).l).map Sn.D) (zsl (((z6 x3p4 x6p9).1).nl) 2) none,B ((z6 x3p4 x6p9).2)]),(30,.tup [.sl (((z6 x3p4 x6p9).1).nl) ((((z6 x3p4 x6p9).1).l).map Sn.D) (zsl (((z6 x3p4 x6p9).1).nl) 2) none,B ((z6 x3p4 x6p9).2)]),(29,.agg [I x6p9.lo,I x6p9.hi]),(28,.agg [I x3p4.lo,I x3p4.hi]),(27,.fn (.func 92) [] []),(11,.lref 3 0 2 0),(25,.agg [I x6p9.lo,I x6p9.hi]),(24,.ptr (.agg [I x6p9.lo,I x6p9.hi])),(23,B true),(1,.sl q3p4_0.nl (q3p4_0.l.map Sn.D) (zsl q3p4_0.nl 2) none),(2,.fn (.func 92) [] []),(7,.lsl 1 0 va6p9_0.length 2 none),(9,.lref 2 0 2 0),(14,.sl a.nl (a.l.map Sn.D) (zsl a.nl 2) none),(15,I ((a.l.length:Nat):Int)),(16,I ((i3p4:Nat):Int)),(20,.sl q3p4_0.nl (q3p4_0.l.map Sn.D) (zsl q3p4_0.nl 2) none),(21,I ((q3p4_0.l.length:Nat):Int)),(22,I ((i6p9:Nat):Int))],[(2,⟨[.agg [I x3p4.lo,I x3p4.hi]],2,false⟩),(3,⟨[.agg [I x6p9.lo,I x6p9.hi]],2,false⟩),(4,⟨(va6p9_0++(((z6 x3p4 x6p9).1).l)).map Sn.D,2,false⟩)],5,1⟩)
 | .x6 i3p4 x3p4 i6p9 x6p9=>((.exit 0),⟨40,[(36,B true),(7,.sl true [] 0 none),(35,.sl true [] 0 none),(34,.sl (((z6 x3p4 x6p9).1).nl) ((((z6 x3p4 x6p9).1).l).map Sn.D) (zsl (((z6 x3p4 x6p9).1).nl) 2) none),(33,.sl true [] 0 none),(13,B true),(12,.sl (((z6 x3p4 x6p9).1).nl) ((((z6 x3p4 x6p9).1).l).map Sn.D) (zsl (((z6 x3p4 x6p9).1).nl) 2) none),(32,B true),(31,.sl (((z6 x3p4 x6p9).1).nl) ((((z6 x3p4 x6p9).1).l).map Sn.D) (zsl (((z6 x3p4 x6p9).1).nl) 2) none),(26,.tup [.sl (((z6 x3p4 x6p9).1).nl) ((((z6 x3p4 x6p9).1).l).map Sn.D) (zsl (((z6 x3p4 x6p9).1).nl) 2) none,B ((z6 x3p4 x6p9).2)]),(30,.tup [.sl (((z6 x3p4 x6p9).1).nl) ((((z6 x3p4 x6p9).1).l).map Sn.D) (zsl (((z6 x3p4 x6p9).1).nl) 2) none,B ((z6 x3p4 x6p9).2)]),(29,.agg [I x6p9.lo,I x6p9.hi]),(28,.agg [I x3p4.lo,I x3p4.hi]),(27,.fn (.func 92) [] []),(11,.lref 2 0 2 0),(25,.agg [I x6p9.lo,I x6p9.hi]),(24,.ptr (.agg [I x6p9.lo,I x6p9.hi])),(23,B true),(1,.sl q3p4_0.nl (q3p4_0.l.map Sn.D) (zsl q3p4_0.nl 2) none),(2,.fn (.func 92) [] []),(7,.sl true [] 0 none),(9,.lref 1 0 2 0),(14,.sl a.nl (a.l.map Sn.D) (zsl a.nl 2) none),(15,I ((a.l.length:Nat):Int)),(16,I ((i3p4:Nat):Int)),(20,.sl q3p4_0.nl (q3p4_0.l.map Sn.D) (zsl q3p4_0.nl 2) none),(21,I ((q3p4_0.l.length:Nat):Int)),(22,I ((i6p9:Nat):Int))],[(1,⟨[.agg [I x3p4.lo,I x3p4.hi]],2,false⟩),(2,⟨[.agg [I x6p9.lo,I x6p9.hi]],2,false⟩)],3,1⟩)
 | .x7 i3p4 x3p4 i6p9 x6p9=>((.exit 0),⟨40,[(36,B true),(7,.lsl 3 0 ((((z6 x3p4 x6p9).1).l).length) 2 none),(35,.lsl 3 0 ((((z6 x3p4 x6p9).1).l).length) 2 none),(34,.sl (((z6 x3p4 x6p9).1).nl) ((((z6 x3p4 x6p9).1).l).map Sn.D) (zsl (((z6 x3p4 x6p9).1).nl) 2) none),(33,.sl true [] 0 none),(13,B true),(12,.sl (((z6 x3p4 x6p9).1).nl) ((((z6 x3p4 x6p9).1).l).map Sn.D) (zsl (((z6 x3p4 x6p9).1).nl) 2) none),(32,B true),(31,.sl (((z6 x3p4 x6p9).1).nl) ((((z6 x3p4 x6p9).1).l).map Sn.D) (zsl (((z6 x3p4 x6p9).1).nl) 2) none),(26,.tup [.sl (((z6 x3p4 x6p9).1).nl) ((((z6 x3p4 x6p9).1).l).map Sn.D) (zsl (((z6 x3p4 x6p9).1).nl) 2) none,B ((z6 x3p4 x6p9).2)]),(30,.tup [.sl (((z6 x3p4 x6p9).1).nl) ((((z6 x3p4 x6p9).1).l).map Sn.D) (zsl (((z6 x3p4 x6p9).1).nl) 2) none,B ((z6 x3p4 x6p9).2)]),(29,.agg [I x6p9.lo,I x6p9.hi]),(28,.agg [I x3p4.lo,I x3p4.hi]),(27,.fn (.func 92) [] []),(11,.lref 2 0 2 0),(25,.agg [I x6p9.lo,I x6p9.hi]),(24,.ptr (.agg [I x6p9.lo,I x6p9.hi])),(23,B true),(1,.sl q3p4_0.nl (q3p4_0.l.map Sn.D) (zsl q3p4_0.nl 2) none),(2,.fn (.func 92) [] []),(7,.sl true [] 0 none),(9,.lref 1 0 2 0),(14,.sl a.nl (a.l.map Sn.D) (zsl a.nl 2) none),(15,I ((a.l.length:Nat):Int)),(16,I ((i3p4:Nat):Int)),(20,.sl q3p4_0.nl (q3p4_0.l.map Sn.D) (zsl q3p4_0.nl 2) none),(21,I ((q3p4_0.l.length:Nat):Int)),(22,I ((i6p9:Nat):Int))],[(1,⟨[.agg [I x3p4.lo,I x3p4.hi]],2,false⟩),(2,⟨[.agg [I x6p9.lo,I x6p9.hi]],2,false⟩),(3,⟨(((z6 x3p4 x6p9).1).l).map Sn.D,2,false⟩)],4,1⟩)
def iv_ranges_pairs_3p4 (a:GS Sn) (q3p4_0:GS Sn):LR_ranges_pairs_3p4→Prop
 | .x0 va3p4_0=>(va3p4_0.length≤65 * a.l.length)
 | .x1 i3p4 x3p4 i6p8 x6p8 v6p8_0=>True
 | .x2 i3p4 x3p4 i6p8 x6p8 v6p8_0=>True
 | .x3=>True
 | .x4 i3p4 x3p4 i6p9 x6p9 va6p9_0=>True
 | .x5 i3p4 x3p4 i6p9 x6p9 va6p9_0=>True
 | .x6 i3p4 x3p4 i6p9 x6p9=>True
 | .x7 i3p4 x3p4 i6p9 x6p9=>True
theorem lp_ranges_pairs_3p4a (a:GS Sn) (q3p4_0:GS Sn):∀ (rest3p4:List Sn) (i3p4:Nat) (va3p4_0:List Sn) (hd3p4:a.l.drop i3p4=rest3p4) (hi3p4:i3p4≤a.l.length) (ha64:a.l.length≤64) (hb65:q3p4_0.l.length≤65) (hg3p4_va3p4_0:va3p4_0.length≤65 * i3p4) (hL3p4:a.l.length≤1099511627776),(lim cfg).loop 87 lp87_3 ⟨40,[(1,.sl q3p4_0.nl (q3p4_0.l.map Sn.D) (zsl q3p4_0.nl 2) none),(2,.fn (.func 92) [] []),(7,.lsl 1 0 va3p4_0.length 2 none),(14,.sl a.nl (a.l.map Sn.D) (zsl a.nl 2) none),(15,I ((a.l.length:Nat):Int)),(16,I ((i3p4:Nat):Int))],[(1,⟨va3p4_0.map Sn.D,2,false⟩)],2,1⟩=some (lr_ranges_pairs_3p4 a q3p4_0 (ranges_pairs_3p4a q3p4_0 rest3p4 i3p4 va3p4_0)):=by
 intro rest3p4
 induction rest3p4 with
 | nil =>
  intro i3p4 va3p4_0 hd3p4 hi3p4 ha64 hb65 hg3p4_va3p4_0 hL3p4
  unfold ranges_pairs_3p4a
  obtain rfl:i3p4=a.l.length:=yC hd3p4 hi3p4
  exact zP [.dec false] (Ai (lt_no hd3p4) trivial) (by kernel_rfl)
 | cons x3p4 rest3p4 ih =>
  intro i3p4 va3p4_0 hd3p4 hi3p4 ha64 hb65 hg3p4_va3p4_0 hL3p4
  have hlt3p4:=zl hd3p4
  unfold ranges_pairs_3p4a
  have p1:=(el_at (s:=a) (f:=Sn.D) (k:=2) hd3p4)
  have p2:=(gc_of (C:=cfg) (f:=87) (a:=lp87_6) (ks:=[1,2,7,9,14,15,16,20,21,22]) (st:=(sd174 a i3p4 q3p4_0 x3p4 va3p4_0)) (st1:=(sd175 a i3p4 q3p4_0 x3p4 va3p4_0)) (by kernel_rfl) (by (simp only [sd174,sd175,go_sem,List.length_set,Nat.reduceAdd,Nat.reduceEqDiff,Nat.reduceLT,Nat.reduceLeDiff,bI2,zf.idsL,zf.renL,zf.snapAll,z7.idsL,z7.renL,z7.snapAll]) <;> rfl))
  cases h28:ranges_pairs_6p8 x3p4 q3p4_0.l 0 va3p4_0 with
  | x0 v6p8_0 =>
   try dsimp only
   have hv_h28:=ivt_ranges_pairs_6p8 a i3p4 q3p4_0 x3p4 q3p4_0.l 0 va3p4_0 (List.drop_zero) (Nat.zero_le _) (by omega) (by omega) (by omega) (by omega)
   rw [h28] at hv_h28
   have hv_h28_0:=hv_h28
   try dsimp only [iv_ranges_pairs_6p8] at hv_h28_0
   exact yg (ks:=[1,2,7,14,15,16]) (st':=(sd192 a i3p4 q3p4_0 x3p4 v6p8_0)) [.dec true,.el (.agg [I x3p4.lo,I x3p4.hi]),.rw 21 (I ((q3p4_0.l.length:Nat):Int)),.gloop (sd175 a i3p4 q3p4_0 x3p4 va3p4_0) (.exit 2) (sd181 a i3p4 q3p4_0 x3p4 v6p8_0),.rw 38 (I ((i3p4+1:Nat):Int))] (Ai (yE (i:=i3p4) (by have:=zl hd3p4; omega)) (Ai (yi (q:=lr_ranges_pairs_6p8 a i3p4 q3p4_0 x3p4) (lp_ranges_pairs_6p8 a i3p4 q3p4_0 x3p4 q3p4_0.l 0 va3p4_0 (List.drop_zero) (Nat.zero_le _) (by omega) (by omega) (by omega) (by omega)) h28) (Ai p2 (Ai (zQ Sn.D q3p4_0) (Ai p1 (Ai (lt_at hd3p4) trivial)))))) (by kernel_rfl) (by (simp only [sd192,go_sem,List.length_set,Nat.reduceAdd,Nat.reduceEqDiff,Nat.reduceLT,Nat.reduceLeDiff,bI2,zf.idsL,zf.renL,zf.snapAll,z7.idsL,z7.renL,z7.snapAll]) <;> rfl) (ih (i3p4+1) v6p8_0 (zr hd3p4) (zl hd3p4) (by omega) (by omega) (by omega) (by omega)) (by kernel_rfl)
  | x1 i6p8 x6p8 v6p8_0 =>
   try dsimp only
   have hv_h28:=ivt_ranges_pairs_6p8 a i3p4 q3p4_0 x3p4 q3p4_0.l 0 va3p4_0 (List.drop_zero) (Nat.zero_le _) (by omega) (by omega) (by omega) (by omega)
   rw [h28] at hv_h28
   have hv_h28_0:=hv_h28
   try dsimp only [iv_ranges_pairs_6p8] at hv_h28_0
   exact zP [.dec true,.el (.agg [I x3p4.lo,I x3p4.hi]),.rw 21 (I ((q3p4_0.l.length:Nat):Int)),.gloop (sd175 a i3p4 q3p4_0 x3p4 va3p4_0) (.exit 0) (sd182 a i3p4 q3p4_0 x3p4 i6p8 x6p8 v6p8_0)] (Ai (yi (q:=lr_ranges_pairs_6p8 a i3p4 q3p4_0 x3p4) (lp_ranges_pairs_6p8 a i3p4 q3p4_0 x3p4 q3p4_0.l 0 va3p4_0 (List.drop_zero) (Nat.zero_le _) (by omega) (by omega) (by omega) (by omega)) h28) (Ai p2 (Ai (zQ Sn.D q3p4_0) (Ai p1 (Ai (lt_at hd3p4) trivial))))) (by kernel_rfl)
  | x2 i6p8 x6p8 v6p8_0 =>
   try dsimp only
   have hv_h28:=ivt_ranges_pairs_6p8 a i3p4 q3p4_0 x3p4 q3p4_0.l 0 va3p4_0 (List.drop_zero) (Nat.zero_le _) (by omega) (by omega) (by omega) (by omega)
   rw [h28] at hv_h28
   have hv_h28_0:=hv_h28
   try dsimp only [iv_ranges_pairs_6p8] at hv_h28_0
   exact zP [.dec true,.el (.agg [I x3p4.lo,I x3p4.hi]),.rw 21 (I ((q3p4_0.l.length:Nat):Int)),.gloop (sd175 a i3p4 q3p4_0 x3p4 va3p4_0) (.exit 0) (sd183 a i3p4 q3p4_0 x3p4 i6p8 x6p8 v6p8_0)] (Ai (yi (q:=lr_ranges_pairs_6p8 a i3p4 q3p4_0 x3p4) (lp_ranges_pairs_6p8 a i3p4 q3p4_0 x3p4 q3p4_0.l 0 va3p4_0 (List.drop_zero) (Nat.zero_le _) (by omega) (by omega) (by omega) (by omega)) h28) (Ai p2 (Ai (zQ Sn.D q3p4_0) (Ai p1 (Ai (lt_at hd3p4) trivial))))) (by kernel_rfl)
theorem ivt_ranges_pairs_3p4a (a:GS Sn) (q3p4_0:GS Sn):∀ (rest3p4:List Sn) (i3p4:Nat) (va3p4_0:List Sn) (hd3p4:a.l.drop i3p4=rest3p4) (hi3p4:i3p4≤a.l.length) (ha64:a.l.length≤64) (hb65:q3p4_0.l.length≤65) (hg3p4_va3p4_0:va3p4_0.length≤65 * i3p4) (hL3p4:a.l.length≤1099511627776),iv_ranges_pairs_3p4 a q3p4_0 (ranges_pairs_3p4a q3p4_0 rest3p4 i3p4 va3p4_0):=by
 intro rest3p4
 induction rest3p4 with
 | nil =>
  intro i3p4 va3p4_0 hd3p4 hi3p4 ha64 hb65 hg3p4_va3p4_0 hL3p4
  unfold ranges_pairs_3p4a
  obtain rfl:i3p4=a.l.length:=yC hd3p4 hi3p4
  exact hg3p4_va3p4_0
 | cons x3p4 rest3p4 ih =>
  intro i3p4 va3p4_0 hd3p4 hi3p4 ha64 hb65 hg3p4_va3p4_0 hL3p4
  have hlt3p4:=zl hd3p4
  unfold ranges_pairs_3p4a
  cases h28:ranges_pairs_6p8 x3p4 q3p4_0.l 0 va3p4_0 with
  | x0 v6p8_0 =>
   try dsimp only
   have hv_h28:=ivt_ranges_pairs_6p8 a i3p4 q3p4_0 x3p4 q3p4_0.l 0 va3p4_0 (List.drop_zero) (Nat.zero_le _) (by omega) (by omega) (by omega) (by omega)
   rw [h28] at hv_h28
   have hv_h28_0:=hv_h28
   try dsimp only [iv_ranges_pairs_6p8] at hv_h28_0
   exact ih (i3p4+1) v6p8_0 (zr hd3p4) (zl hd3p4) (by omega) (by omega) (by omega) (by omega)
  | x1 i6p8 x6p8 v6p8_0 =>
   try dsimp only
   have hv_h28:=ivt_ranges_pairs_6p8 a i3p4 q3p4_0 x3p4 q3p4_0.l 0 va3p4_0 (List.drop_zero) (Nat.zero_le _) (by omega) (by omega) (by omega) (by omega)
   rw [h28] at hv_h28
   have hv_h28_0:=hv_h28
   try dsimp only [iv_ranges_pairs_6p8] at hv_h28_0
   exact trivial
  | x2 i6p8 x6p8 v6p8_0 =>
   try dsimp only
   have hv_h28:=ivt_ranges_pairs_6p8 a i3p4 q3p4_0 x3p4 q3p4_0.l 0 va3p4_0 (List.drop_zero) (Nat.zero_le _) (by omega) (by omega) (by omega) (by omega)
   rw [h28] at hv_h28
   have hv_h28_0:=hv_h28
   try dsimp only [iv_ranges_pairs_6p8] at hv_h28_0
   exact trivial
theorem lp_ranges_pairs_3p4 (a:GS Sn) (q3p4_0:GS Sn):∀ (rest3p4:List Sn) (i3p4:Nat) (hd3p4:a.l.drop i3p4=rest3p4) (hi3p4:i3p4≤a.l.length) (ha64:a.l.length≤64) (hb65:q3p4_0.l.length≤65) (hL3p4:a.l.length≤1099511627776),(lim cfg).loop 87 lp87_3 ⟨40,[(1,.sl q3p4_0.nl (q3p4_0.l.map Sn.D) (zsl q3p4_0.nl 2) none),(2,.fn (.func 92) [] []),(7,.sl true [] 0 none),(14,.sl a.nl (a.l.map Sn.D) (zsl a.nl 2) none),(15,I ((a.l.length:Nat):Int)),(16,I ((i3p4:Nat):Int))],[],1,1⟩=some (lr_ranges_pairs_3p4 a q3p4_0 (ranges_pairs_3p4 q3p4_0 rest3p4 i3p4)):=by
 intro rest3p4
 induction rest3p4 with
 | nil =>
  intro i3p4 hd3p4 hi3p4 ha64 hb65 hL3p4
  unfold ranges_pairs_3p4
  obtain rfl:i3p4=a.l.length:=yC hd3p4 hi3p4
  exact zP [.dec false] (Ai (lt_no hd3p4) trivial) (by kernel_rfl)
 | cons x3p4 rest3p4 ih =>
  intro i3p4 hd3p4 hi3p4 ha64 hb65 hL3p4
  have hlt3p4:=zl hd3p4
  unfold ranges_pairs_3p4
  have p1:=(el_at (s:=a) (f:=Sn.D) (k:=2) hd3p4)
  cases h41:ranges_pairs_6p9 x3p4 q3p4_0.l 0 with
  | x0 va6p9_0 =>
   try dsimp only
   have hv_h41:=ivt_ranges_pairs_6p9 a i3p4 q3p4_0 x3p4 q3p4_0.l 0 (List.drop_zero) (Nat.zero_le _) (by omega) (by omega) (by omega)
   rw [h41] at hv_h41
   have hv_h41_0:=hv_h41
   try dsimp only [iv_ranges_pairs_6p9] at hv_h41_0
   exact yg (ks:=[1,2,7,14,15,16]) (st':=(sd193 a i3p4 q3p4_0 x3p4 va6p9_0)) [.dec true,.el (.agg [I x3p4.lo,I x3p4.hi]),.rw 21 (I ((q3p4_0.l.length:Nat):Int)),.loop (.exit 2) (sd187 a i3p4 q3p4_0 x3p4 va6p9_0),.rw 38 (I ((i3p4+1:Nat):Int))] (Ai (yE (i:=i3p4) (by have:=zl hd3p4; omega)) (Ai (yi (q:=lr_ranges_pairs_6p9 a i3p4 q3p4_0 x3p4) (lp_ranges_pairs_6p9 a i3p4 q3p4_0 x3p4 q3p4_0.l 0 (List.drop_zero) (Nat.zero_le _) (by omega) (by omega) (by omega)) h41) (Ai (zQ Sn.D q3p4_0) (Ai p1 (Ai (lt_at hd3p4) trivial))))) (by kernel_rfl) (by (simp only [sd193,go_sem,List.length_set,Nat.reduceAdd,Nat.reduceEqDiff,Nat.reduceLT,Nat.reduceLeDiff,bI2,zf.idsL,zf.renL,zf.snapAll,z7.idsL,z7.renL,z7.snapAll]) <;> rfl) (lp_ranges_pairs_3p4a a q3p4_0 _ (i3p4+1) va6p9_0 (zr hd3p4) (zl hd3p4) (by omega) (by omega) (by omega) (by omega)) (by kernel_rfl)
  | x1 i6p9 x6p9 va6p9_0 =>
   try dsimp only
   have hv_h41:=ivt_ranges_pairs_6p9 a i3p4 q3p4_0 x3p4 q3p4_0.l 0 (List.drop_zero) (Nat.zero_le _) (by omega) (by omega) (by omega)
   rw [h41] at hv_h41
   have hv_h41_0:=hv_h41
   try dsimp only [iv_ranges_pairs_6p9] at hv_h41_0
   exact zP [.dec true,.el (.agg [I x3p4.lo,I x3p4.hi]),.rw 21 (I ((q3p4_0.l.length:Nat):Int)),.loop (.exit 0) (sd188 a i3p4 q3p4_0 x3p4 i6p9 x6p9 va6p9_0)] (Ai (yi (q:=lr_ranges_pairs_6p9 a i3p4 q3p4_0 x3p4) (lp_ranges_pairs_6p9 a i3p4 q3p4_0 x3p4 q3p4_0.l 0 (List.drop_zero) (Nat.zero_le _) (by omega) (by omega) (by omega)) h41) (Ai (zQ Sn.D q3p4_0) (Ai p1 (Ai (lt_at hd3p4) trivial)))) (by kernel_rfl)
  | x2 i6p9 x6p9 va6p9_0 =>
   try dsimp only
   have hv_h41:=ivt_ranges_pairs_6p9 a i3p4 q3p4_0 x3p4 q3p4_0.l 0 (List.drop_zero) (Nat.zero_le _) (by omega) (by omega) (by omega)
   rw [h41] at hv_h41
   have hv_h41_0:=hv_h41
   try dsimp only [iv_ranges_pairs_6p9] at hv_h41_0
   exact zP [.dec true,.el (.agg [I x3p4.lo,I x3p4.hi]),.rw 21 (I ((q3p4_0.l.length:Nat):Int)),.loop (.exit 0) (sd189 a i3p4 q3p4_0 x3p4 i6p9 x6p9 va6p9_0)] (Ai (yi (q:=lr_ranges_pairs_6p9 a i3p4 q3p4_0 x3p4) (lp_ranges_pairs_6p9 a i3p4 q3p4_0 x3p4 q3p4_0.l 0 (List.drop_zero) (Nat.zero_le _) (by omega) (by omega) (by omega)) h41) (Ai (zQ Sn.D q3p4_0) (Ai p1 (Ai (lt_at hd3p4) trivial)))) (by kernel_rfl)
  | x3 =>
   try dsimp only
   exact po_turn [.dec true,.el (.agg [I x3p4.lo,I x3p4.hi]),.rw 21 (I ((q3p4_0.l.length:Nat):Int)),.loop (.exit 2) (sd169 a i3p4 q3p4_0 x3p4),.rw 38 (I ((i3p4+1:Nat):Int))] (Ai (yE (i:=i3p4) (by have:=zl hd3p4; omega)) (Ai (yi (q:=lr_ranges_pairs_6p9 a i3p4 q3p4_0 x3p4) (lp_ranges_pairs_6p9 a i3p4 q3p4_0 x3p4 q3p4_0.l 0 (List.drop_zero) (Nat.zero_le _) (by omega) (by omega) (by omega)) h41) (Ai (zQ Sn.D q3p4_0) (Ai p1 (Ai (lt_at hd3p4) trivial))))) (ih (i3p4+1) (zr hd3p4) (zl hd3p4) (by omega) (by omega) (by omega)) (by kernel_rfl)
  | x4 i6p9 x6p9 =>
   try dsimp only
   exact zP [.dec true,.el (.agg [I x3p4.lo,I x3p4.hi]),.rw 21 (I ((q3p4_0.l.length:Nat):Int)),.loop (.exit 0) (sd190 a i3p4 q3p4_0 x3p4 i6p9 x6p9)] (Ai (yi (q:=lr_ranges_pairs_6p9 a i3p4 q3p4_0 x3p4) (lp_ranges_pairs_6p9 a i3p4 q3p4_0 x3p4 q3p4_0.l 0 (List.drop_zero) (Nat.zero_le _) (by omega) (by omega) (by omega)) h41) (Ai (zQ Sn.D q3p4_0) (Ai p1 (Ai (lt_at hd3p4) trivial)))) (by kernel_rfl)
  | x5 i6p9 x6p9 =>
   try dsimp only
   exact zP [.dec true,.el (.agg [I x3p4.lo,I x3p4.hi]),.rw 21 (I ((q3p4_0.l.length:Nat):Int)),.loop (.exit 0) (sd191 a i3p4 q3p4_0 x3p4 i6p9 x6p9)] (Ai (yi (q:=lr_ranges_pairs_6p9 a i3p4 q3p4_0 x3p4) (lp_ranges_pairs_6p9 a i3p4 q3p4_0 x3p4 q3p4_0.l 0 (List.drop_zero) (Nat.zero_le _) (by omega) (by omega) (by omega)) h41) (Ai (zQ Sn.D q3p4_0) (Ai p1 (Ai (lt_at hd3p4) trivial)))) (by kernel_rfl)
theorem ivt_ranges_pairs_3p4 (a:GS Sn) (q3p4_0:GS Sn):∀ (rest3p4:List Sn) (i3p4:Nat) (hd3p4:a.l.drop i3p4=rest3p4) (hi3p4:i3p4≤a.l.length) (ha64:a.l.length≤64) (hb65:q3p4_0.l.length≤65) (hL3p4:a.l.length≤1099511627776),iv_ranges_pairs_3p4 a q3p4_0 (ranges_pairs_3p4 q3p4_0 rest3p4 i3p4):=by
 intro rest3p4
 induction rest3p4 with
 | nil =>
  intro i3p4 hd3p4 hi3p4 ha64 hb65 hL3p4
  unfold ranges_pairs_3p4
  obtain rfl:i3p4=a.l.length:=yC hd3p4 hi3p4
  exact trivial
 | cons x3p4 rest3p4 ih =>
  intro i3p4 hd3p4 hi3p4 ha64 hb65 hL3p4
  have hlt3p4:=zl hd3p4
  unfold ranges_pairs_3p4
  cases h41:ranges_pairs_6p9 x3p4 q3p4_0.l 0 with
  | x0 va6p9_0 =>
   try dsimp only
   have hv_h41:=ivt_ranges_pairs_6p9 a i3p4 q3p4_0 x3p4 q3p4_0.l 0 (List.drop_zero) (Nat.zero_le _) (by omega) (by omega) (by omega)
   rw [h41] at hv_h41
   have hv_h41_0:=hv_h41
   try dsimp only [iv_ranges_pairs_6p9] at hv_h41_0
   exact ivt_ranges_pairs_3p4a a q3p4_0 _ (i3p4+1) va6p9_0 (zr hd3p4) (zl hd3p4) (by omega) (by omega) (by omega) (by omega)
  | x1 i6p9 x6p9 va6p9_0 =>
   try dsimp only
   have hv_h41:=ivt_ranges_pairs_6p9 a i3p4 q3p4_0 x3p4 q3p4_0.l 0 (List.drop_zero) (Nat.zero_le _) (by omega) (by omega) (by omega)
   rw [h41] at hv_h41
   have hv_h41_0:=hv_h41
   try dsimp only [iv_ranges_pairs_6p9] at hv_h41_0
   exact trivial
  | x2 i6p9 x6p9 va6p9_0 =>
   try dsimp only
   have hv_h41:=ivt_ranges_pairs_6p9 a i3p4 q3p4_0 x3p4 q3p4_0.l 0 (List.drop_zero) (Nat.zero_le _) (by omega) (by omega) (by omega)
   rw [h41] at hv_h41
   have hv_h41_0:=hv_h41
   try dsimp only [iv_ranges_pairs_6p9] at hv_h41_0
   exact trivial
  | x3 =>
   try dsimp only
   exact ih (i3p4+1) (zr hd3p4) (zl hd3p4) (by omega) (by omega) (by omega)
  | x4 i6p9 x6p9 =>
   try dsimp only
   exact trivial
  | x5 i6p9 x6p9 =>
   try dsimp only
   exact trivial

def zd (a:GS Sn) (b:GS Sn):Bool × Int :=
 bif ((y7 (GS.some [a,b])) != 0) then
  (false,(y7 (GS.some [a,b])))
 else
  match ranges_pairs_3p4 (ze b) a.l 0 with
  | .x0 va3p4_0 =>
   bif (((va3p4_0.length:Nat):Int) == 0) then
    (true,0)
   else
    (false,0)
  | .x1 i3p4 x3p4 i6p8 x6p8 v6p8_0 =>
   bif (((v6p8_0.length:Nat):Int) == 0) then
    (true,0)
   else
    (false,0)
  | .x2 i3p4 x3p4 i6p8 x6p8 v6p8_0 =>
   bif ((((v6p8_0++(((z6 x3p4 x6p8).1).l)).length:Nat):Int) == 0) then
    (true,0)
   else
    (false,0)
  | .x3 =>
   (true,0)
  | .x4 i3p4 x3p4 i6p9 x6p9 va6p9_0 =>
   bif (((va6p9_0.length:Nat):Int) == 0) then
    (true,0)
   else
    (false,0)
  | .x5 i3p4 x3p4 i6p9 x6p9 va6p9_0 =>
   bif ((((va6p9_0++(((z6 x3p4 x6p9).1).l)).length:Nat):Int) == 0) then
    (true,0)
   else
    (false,0)
  | .x6 i3p4 x3p4 i6p9 x6p9 =>
   (true,0)
  | .x7 i3p4 x3p4 i6p9 x6p9 =>
   bif ((((((z6 x3p4 x6p9).1).l).length:Nat):Int) == 0) then
    (true,0)
   else
    (false,0)

def yA (a:GS Sn) (b:GS Sn):List Ora:=[.pure (I (y7 (GS.some [a,b]))),.dec false,.pure (.sl ((ze b).nl) (((ze b).l).map Sn.D) (zsl ((ze b).nl) 2) none)]

def ranges_Within_o2 (x3p4:Sn) (x6p8:Sn) (v6p8_0:List Sn):List Ora:=[.inl (.lsl 1 0 v6p8_0.length 2 none) [(1,⟨v6p8_0.map Sn.D,2,false⟩),(2,⟨[.agg [I x3p4.lo,I x3p4.hi]],2,false⟩),(3,⟨[.agg [I x6p8.lo,I x6p8.hi]],2,false⟩)] 4]

def ranges_Within_o3 (x3p4:Sn) (x6p8:Sn) (v6p8_0:List Sn):List Ora:=[.inl (.lsl 4 0 ((v6p8_0++(((z6 x3p4 x6p8).1).l)).length) 2 none) [(2,⟨[.agg [I x3p4.lo,I x3p4.hi]],2,false⟩),(3,⟨[.agg [I x6p8.lo,I x6p8.hi]],2,false⟩),(4,⟨(v6p8_0++(((z6 x3p4 x6p8).1).l)).map Sn.D,2,false⟩)] 5]

def ranges_Within_o4 (x3p4:Sn) (x6p9:Sn) (va6p9_0:List Sn):List Ora:=[.inl (.lsl 1 0 va6p9_0.length 2 none) [(1,⟨va6p9_0.map Sn.D,2,false⟩),(2,⟨[.agg [I x3p4.lo,I x3p4.hi]],2,false⟩),(3,⟨[.agg [I x6p9.lo,I x6p9.hi]],2,false⟩)] 4]

def ranges_Within_o5 (x3p4:Sn) (x6p9:Sn) (va6p9_0:List Sn):List Ora:=[.inl (.lsl 4 0 ((va6p9_0++(((z6 x3p4 x6p9).1).l)).length) 2 none) [(2,⟨[.agg [I x3p4.lo,I x3p4.hi]],2,false⟩),(3,⟨[.agg [I x6p9.lo,I x6p9.hi]],2,false⟩),(4,⟨(va6p9_0++(((z6 x3p4 x6p9).1).l)).map Sn.D,2,false⟩)] 5]

def ranges_Within_o6 (x3p4:Sn) (x6p9:Sn):List Ora:=[.inl (.lsl 3 0 ((((z6 x3p4 x6p9).1).l).length) 2 none) [(1,⟨[.agg [I x3p4.lo,I x3p4.hi]],2,false⟩),(2,⟨[.agg [I x6p9.lo,I x6p9.hi]],2,false⟩),(3,⟨(((z6 x3p4 x6p9).1).l).map Sn.D,2,false⟩)] 4]

def sd194 (a:GS Sn) (b:GS Sn) (va3p4_0:List Sn):St:=⟨40,[(17,B false),(1,.sl ((ze b).nl) (((ze b).l).map Sn.D) (zsl ((ze b).nl) 2) none),(2,.fn (.func 92) [] []),(7,.lsl 1 0 va3p4_0.length 2 none),(14,.sl a.nl (a.l.map Sn.D) (zsl a.nl 2) none),(15,I ((a.l.length:Nat):Int)),(16,I ((a.l.length:Nat):Int))],[(1,⟨va3p4_0.map Sn.D,2,false⟩)],2,1⟩

def sd195 (a:GS Sn) (b:GS Sn) (i3p4:Nat) (x3p4:Sn) (i6p8:Nat) (x6p8:Sn) (v6p8_0:List Sn):St:=⟨40,[(36,B true),(7,.lsl 1 0 v6p8_0.length 2 none),(35,.lsl 1 0 v6p8_0.length 2 none),(34,.sl (((z6 x3p4 x6p8).1).nl) ((((z6 x3p4 x6p8).1).l).map Sn.D) (zsl (((z6 x3p4 x6p8).1).nl) 2) none),(33,.lsl 1 0 v6p8_0.length 2 none),(13,B true),(12,.sl (((z6 x3p4 x6p8).1).nl) ((((z6 x3p4 x6p8).1).l).map Sn.D) (zsl (((z6 x3p4 x6p8).1).nl) 2) none),(32,B true),(31,.sl (((z6 x3p4 x6p8).1).nl) ((((z6 x3p4 x6p8).1).l).map Sn.D) (zsl (((z6 x3p4 x6p8).1).nl) 2) none),(26,.tup [.sl (((z6 x3p4 x6p8).1).nl) ((((z6 x3p4 x6p8).1).l).map Sn.D) (zsl (((z6 x3p4 x6p8).1).nl) 2) none,B ((z6 x3p4 x6p8).2)]),(30,.tup [.sl (((z6 x3p4 x6p8).1).nl) ((((z6 x3p4 x6p8).1).l).map Sn.D) (zsl (((z6 x3p4 x6p8).1).nl) 2) none,B ((z6 x3p4 x6p8).2)]),(29,.agg [I x6p8.lo,I x6p8.hi]),(28,.agg [I x3p4.lo,I x3p4.hi]),(27,.fn (.func 92) [] []),(11,.lref 3 0 2 0),(25,.agg [I x6p8.lo,I x6p8.hi]),(24,.ptr (.agg [I x6p8.lo,I x6p8.hi])),(23,B true),(1,.sl ((ze b).nl) (((ze b).l).map Sn.D) (zsl ((ze b).nl) 2) none),(2,.fn (.func 92) [] []),(7,.lsl 1 0 v6p8_0.length 2 none),(9,.lref 2 0 2 0),(14,.sl a.nl (a.l.map Sn.D) (zsl a.nl 2) none),(15,I ((a.l.length:Nat):Int)),(16,I ((i3p4:Nat):Int)),(20,.sl ((ze b).nl) (((ze b).l).map Sn.D) (zsl ((ze b).nl) 2) none),(21,I (((ze b).l.length:Nat):Int)),(22,I ((i6p8:Nat):Int))],[(1,⟨v6p8_0.map Sn.D,2,false⟩),(2,⟨[.agg [I x3p4.lo,I x3p4.hi]],2,false⟩),(3,⟨[.agg [I x6p8.lo,I x6p8.hi]],2,false⟩)],4,1⟩

def sd196 (a:GS Sn) (b:GS Sn) (i3p4:Nat) (x3p4:Sn) (i6p8:Nat) (x6p8:Sn) (v6p8_0:List Sn):St:=⟨40,[(36,B true),(7,.lsl 4 0 ((v6p8_0++(((z6 x3p4 x6p8).1).l)).length) 2 none),(35,.lsl 4 0 ((v6p8_0++(((z6 x3p4 x6p8).1).l)).length) 2 none),(34,.sl (((z6 x3p4 x6p8).1).nl) ((((z6 x3p4 x6p8).1).l).map Sn.D) (zsl (((z6 x3p4 x6p8).1).nl) 2) none),(33,.lsl 1 0 v6p8_0.length 2 none),(13,B true),(12,.sl (((z6 x3p4 x6p8).1).nl) ((((z6 x3p4 x6p8).1).l).map Sn.D) (zsl (((z6 x3p4 x6p8).1).nl) 2) none),(32,B true),(31,.sl (((z6 x3p4 x6p8).1).nl) ((((z6 x3p4 x6p8).1).l).map Sn.D) (zsl (((z6 x3p4 x6p8).1).nl) 2) none),(26,.tup [.sl (((z6 x3p4 x6p8).1).nl) ((((z6 x3p4 x6p8).1).l).map Sn.D) (zsl (((z6 x3p4 x6p8).1).nl) 2) none,B ((z6 x3p4 x6p8).2)]),(30,.tup [.sl (((z6 x3p4 x6p8).1).nl) ((((z6 x3p4 x6p8).1).l).map Sn.D) (zsl (((z6 x3p4 x6p8).1).nl) 2) none,B ((z6 x3p4 x6p8).2)]),(29,.agg [I x6p8.lo,I x6p8.hi]),(28,.agg [I x3p4.lo,I x3p4.hi]),(27,.fn (.func 92) [] []),(11,.lref 3 0 2 0),(25,.agg [I x6p8.lo,I x6p8.hi]),(24,.ptr (.agg [I x6p8.lo,I x6p8.hi])),(23,B true),(1,.sl ((ze b).nl) (((ze b).l).map Sn.D) (zsl ((ze b).nl) 2) none),(2,.fn (.func 92) [] []),(7,.lsl 1 0 v6p8_0.length 2 none),(9,.lref 2 0 2 0),(14,.sl a.nl (a.l.map Sn.D) (zsl a.nl 2) none),(15,I ((a.l.length:Nat):Int)),(16,I ((i3p4:Nat):Int)),(20,.sl ((ze b).nl) (((ze b).l).map Sn.D) (zsl ((ze b).nl) 2) none),(21,I (((ze b).l.length:Nat):Int)),(22,I ((i6p8:Nat):Int))],[(2,⟨[.agg [I x3p4.lo,I x3p4.hi]],2,false⟩),(3,⟨[.agg [I x6p8.lo,I x6p8.hi]],2,false⟩),(4,⟨(v6p8_0++(((z6 x3p4 x6p8).1).l)).map Sn.D,2,false⟩)],5,1⟩

def sd197 (a:GS Sn) (b:GS Sn):St:=⟨40,[(17,B false),(1,.sl ((ze b).nl) (((ze b).l).map Sn.D) (zsl ((ze b).nl) 2) none),(2,.fn (.func 92) [] []),(7,.sl true [] 0 none),(14,.sl a.nl (a.l.map Sn.D) (zsl a.nl 2) none),(15,I ((a.l.length:Nat):Int)),(16,I ((a.l.length:Nat):Int))],[],1,1⟩

def sd198 (a:GS Sn) (b:GS Sn) (i3p4:Nat) (x3p4:Sn) (i6p9:Nat) (x6p9:Sn) (va6p9_0:List Sn):St:=⟨40,[(36,B true),(7,.lsl 1 0 va6p9_0.length 2 none),(35,.lsl 1 0 va6p9_0.length 2 none),(34,.sl (((z6 x3p4 x6p9).1).nl) ((((z6 x3p4 x6p9).1).l).map Sn.D) (zsl (((z6 x3p4 x6p9).1).nl) 2) none),(33,.lsl 1 0 va6p9_0.length 2 none),(13,B true),(12,.sl (((z6 x3p4 x6p9).1).nl) ((((z6 x3p4 x6p9).1).l).map Sn.D) (zsl (((z6 x3p4 x6p9).1).nl) 2) none),(32,B true),(31,.sl (((z6 x3p4 x6p9).1).nl) ((((z6 x3p4 x6p9).1).l).map Sn.D) (zsl (((z6 x3p4 x6p9).1).nl) 2) none),(26,.tup [.sl (((z6 x3p4 x6p9).1).nl) ((((z6 x3p4 x6p9).1).l).map Sn.D) (zsl (((z6 x3p4 x6p9).1).nl) 2) none,B ((z6 x3p4 x6p9).2)]),(30,.tup [.sl (((z6 x3p4 x6p9).1).nl) ((((z6 x3p4 x6p9).1).l).map Sn.D) (zsl (((z6 x3p4 x6p9).1).nl) 2) none,B ((z6 x3p4 x6p9).2)]),(29,.agg [I x6p9.lo,I x6p9.hi]),(28,.agg [I x3p4.lo,I x3p4.hi]),(27,.fn (.func 92) [] []),(11,.lref 3 0 2 0),(25,.agg [I x6p9.lo,I x6p9.hi]),(24,.ptr (.agg [I x6p9.lo,I x6p9.hi])),(23,B true),(1,.sl ((ze b).nl) (((ze b).l).map Sn.D) (zsl ((ze b).nl) 2) none),(2,.fn (.func 92) [] []),(7,.lsl 1 0 va6p9_0.length 2 none),(9,.lref 2 0 2 0),(14,.sl a.nl (a.l.map Sn.D) (zsl a.nl 2) none),(15,I ((a.l.length:Nat):Int)),(16,I ((i3p4:Nat):Int)),(20,.sl ((ze b).nl) (((ze b).l).map Sn.D) (zsl ((ze b).nl) 2) none),(21,I (((ze b).l.length:Nat):Int)),(22,I ((i6p9:Nat):Int))],[(1,⟨va6p9_0.map Sn.D,2,false⟩),(2,⟨[.agg [I x3p4.lo,I x3p4.hi]],2,false⟩),(3,⟨[.agg [I x6p9.lo,I x6p9.hi]],2,false⟩)],4,1⟩

def sd199 (a:GS Sn) (b:GS Sn) (i3p4:Nat) (x3p4:Sn) (i6p9:Nat) (x6p9:Sn) (va6p9_0:List Sn):St:=⟨40,[(36,B true),(7,.lsl 4 0 ((va6p9_0++(((z6 x3p4 x6p9).1).l)).length) 2 none),(35,.lsl 4 0 ((va6p9_0++(((z6 x3p4 x6p9).1).l)).length) 2 none),(34,.sl (((z6 x3p4 x6p9).1).nl) ((((z6 x3p4 x6p9).1).l).map Sn.D) (zsl (((z6 x3p4 x6p9).1).nl) 2) none),(33,.lsl 1 0 va6p9_0.length 2 none),(13,B true),(12,.sl (((z6 x3p4 x6p9).1).nl) ((((z6 x3p4 x6p9).1).l).map Sn.D) (zsl (((z6 x3p4 x6p9).1).nl) 2) none),(32,B true),(31,.sl (((z6 x3p4 x6p9).1).nl) ((((z6 x3p4 x6p9).1).l).map Sn.D) (zsl (((z6 x3p4 x6p9).1).nl) 2) none),(26,.tup [.sl (((z6 x3p4 x6p9).1).nl) ((((z6 x3p4 x6p9).1).l).map Sn.D) (zsl (((z6 x3p4 x6p9).1).nl) 2) none,B ((z6 x3p4 x6p9).2)]),(30,.tup [.sl (((z6 x3p4 x6p9).1).nl) ((((z6 x3p4 x6p9).1).l).map Sn.D) (zsl (((z6 x3p4 x6p9).1).nl) 2) none,B ((z6 x3p4 x6p9).2)]),(29,.agg [I x6p9.lo,I x6p9.hi]),(28,.agg [I x3p4.lo,I x3p4.hi]),(27,.fn (.func 92) [] []),(11,.lref 3 0 2 0),(25,.agg [I x6p9.lo,I x6p9.hi]),(24,.ptr (.agg [I x6p9.lo,I x6p9.hi])),(23,B true),(1,.sl ((ze b).nl) (((ze b).l).map Sn.D) (zsl ((ze b).nl) 2) none),(2,.fn (.func 92) [] []),(7,.lsl 1 0 va6p9_0.length 2 none),(9,.lref 2 0 2 0),(14,.sl a.nl (a.l.map Sn.D) (zsl a.nl 2) none),(15,I ((a.l.length:Nat):Int)),(16,I ((i3p4:Nat):Int)),(20,.sl ((ze b).nl) (((ze b).l).map Sn.D) (zsl ((ze b).nl) 2) none),(21,I (((ze b).l.length:Nat):Int)),(22,I ((i6p9:Nat):Int))],[(2,⟨[.agg [I x3p4.lo,I x3p4.hi]],2,false⟩),(3,⟨[.agg [I x6p9.lo,I x6p9.hi]],2,false⟩),(4,⟨(va6p9_0++(((z6 x3p4 x6p9).1).l)).map Sn.D,2,false⟩)],5,1⟩

def sd200 (a:GS Sn) (b:GS Sn) (i3p4:Nat) (x3p4:Sn) (i6p9:Nat) (x6p9:Sn):St:=⟨40,[(36,B true),(7,.sl true [] 0 none),(35,.sl true [] 0 none),(34,.sl (((z6 x3p4 x6p9).1).nl) ((((z6 x3p4 x6p9).1).l).map Sn.D) (zsl (((z6 x3p4 x6p9).1).nl) 2) none),(33,.sl true [] 0 none),(13,B true),(12,.sl (((z6 x3p4 x6p9).1).nl) ((((z6 x3p4 x6p9).1).l).map Sn.D) (zsl (((z6 x3p4 x6p9).1).nl) 2) none),(32,B true),(31,.sl (((z6 x3p4 x6p9).1).nl) ((((z6 x3p4 x6p9).1).l).map Sn.D) (zsl (((z6 x3p4 x6p9).1).nl) 2) none),(26,.tup [.sl (((z6 x3p4 x6p9).1).nl) ((((z6 x3p4 x6p9).1).l).map Sn.D) (zsl (((z6 x3p4 x6p9).1).nl) 2) none,B ((z6 x3p4 x6p9).2)]),(30,.tup [.sl (((z6 x3p4 x6p9).1).nl) ((((z6 x3p4 x6p9).1).l).map Sn.D) (zsl (((z6 x3p4 x6p9).1).nl) 2) none,B ((z6 x3p4 x6p9).2)]),(29,.agg [I x6p9.lo,I x6p9.hi]),(28,.agg [I x3p4.lo,I x3p4.hi]),(27,.fn (.func 92) [] []),(11,.lref 2 0 2 0),(25,.agg [I x6p9.lo,I x6p9.hi]),(24,.ptr (.agg [I x6p9.lo,I x6p9.hi])),(23,B true),(1,.sl ((ze b).nl) (((ze b).l).map Sn.D) (zsl ((ze b).nl) 2) none),(2,.fn (.func 92) [] []),(7,.sl true [] 0 none),(9,.lref 1 0 2 0),(14,.sl a.nl (a.l.map Sn.D) (zsl a.nl 2) none),(15,I ((a.l.length:Nat):Int)),(16,I ((i3p4:Nat):Int)),(20,.sl ((ze b).nl) (((ze b).l).map Sn.D) (zsl ((ze b).nl) 2) none),(21,I (((ze b).l.length:Nat):Int)),(22,I ((i6p9:Nat):Int))],[(1,⟨[.agg [I x3p4.lo,I x3p4.hi]],2,false⟩),(2,⟨[.agg [I x6p9.lo,I x6p9.hi]],2,false⟩)],3,1⟩

def sd201 (a:GS Sn) (b:GS Sn) (i3p4:Nat) (x3p4:Sn) (i6p9:Nat) (x6p9:Sn):St:=⟨40,[(36,B true),(7,.lsl 3 0 ((((z6 x3p4 x6p9).1).l).length) 2 none),(35,.lsl 3 0 ((((z6 x3p4 x6p9).1).l).length) 2 none),(34,.sl (((z6 x3p4 x6p9).1).nl) ((((z6 x3p4 x6p9).1).l).map Sn.D) (zsl (((z6 x3p4 x6p9).1).nl) 2) none),(33,.sl true [] 0 none),(13,B true),(12,.sl (((z6 x3p4 x6p9).1).nl) ((((z6 x3p4 x6p9).1).l).map Sn.D) (zsl (((z6 x3p4 x6p9).1).nl) 2) none),(32,B true),(31,.sl (((z6 x3p4 x6p9).1).nl) ((((z6 x3p4 x6p9).1).l).map Sn.D) (zsl (((z6 x3p4 x6p9).1).nl) 2) none),(26,.tup [.sl (((z6 x3p4 x6p9).1).nl) ((((z6 x3p4 x6p9).1).l).map Sn.D) (zsl (((z6 x3p4 x6p9).1).nl) 2) none,B ((z6 x3p4 x6p9).2)]),(30,.tup [.sl (((z6 x3p4 x6p9).1).nl) ((((z6 x3p4 x6p9).1).l).map Sn.D) (zsl (((z6 x3p4 x6p9).1).nl) 2) none,B ((z6 x3p4 x6p9).2)]),(29,.agg [I x6p9.lo,I x6p9.hi]),(28,.agg [I x3p4.lo,I x3p4.hi]),(27,.fn (.func 92) [] []),(11,.lref 2 0 2 0),(25,.agg [I x6p9.lo,I x6p9.hi]),(24,.ptr (.agg [I x6p9.lo,I x6p9.hi])),(23,B true),(1,.sl ((ze b).nl) (((ze b).l).map Sn.D) (zsl ((ze b).nl) 2) none),(2,.fn (.func 92) [] []),(7,.sl true [] 0 none),(9,.lref 1 0 2 0),(14,.sl a.nl (a.l.map Sn.D) (zsl a.nl 2) none),(15,I ((a.l.length:Nat):Int)),(16,I ((i3p4:Nat):Int)),(20,.sl ((ze b).nl) (((ze b).l).map Sn.D) (zsl ((ze b).nl) 2) none),(21,I (((ze b).l.length:Nat):Int)),(22,I ((i6p9:Nat):Int))],[(1,⟨[.agg [I x3p4.lo,I x3p4.hi]],2,false⟩),(2,⟨[.agg [I x6p9.lo,I x6p9.hi]],2,false⟩),(3,⟨(((z6 x3p4 x6p9).1).l).map Sn.D,2,false⟩)],4,1⟩

theorem zz (a:GS Sn) (b:GS Sn) (hLa:a.l.length≤9223372036854775807) (hLb:b.l.length≤9223372036854775807) (hL_b:b.l.length≤1099511627776):(lim cfg).pure 35 [GS.D Sn.D 2 a,GS.D Sn.D 2 b]=some (.tup [B ((zd a b).1),I ((zd a b).2)]):=by
 unfold zd
 have p1:=(T_ranges_check (GS.some [a,b]) (by exact yh (by omega) (by omega)) (by simp only [zG,GS.some_l,List.length_set,List.length_append,List.length_cons,List.length_nil] at * <;> first | with_reducible assumption | omega))
 cases h1:((y7 (GS.some [a,b])) != 0) with
 | true =>
  have g1:=bne_true h1
  exact zt [.pure (I (y7 (GS.some [a,b]))),.dec true] (Ai h1 (Ai p1 trivial)) (by kernel_rfl)
 | false =>
  have g1:=check2_len (bne_false h1)
  have p2:=(T_ranges_outside b (by omega) (by omega))
  cases h42:ranges_pairs_3p4 (ze b) a.l 0 with
  | x0 va3p4_0 =>
   try dsimp only
   have hv_h42:=ivt_ranges_pairs_3p4 a (ze b) a.l 0 (List.drop_zero) (Nat.zero_le _) (by omega) (by exact zB _ (by omega)) (by omega)
   rw [h42] at hv_h42
   have hv_h42_0:=hv_h42
   try dsimp only [iv_ranges_pairs_3p4] at hv_h42_0
   have p3:=(show (lim cfg).inl 87 [.sl a.nl (a.l.map Sn.D) (zsl a.nl 2) none,.sl ((ze b).nl) (((ze b).l).map Sn.D) (zsl ((ze b).nl) 2) none,.fn (.func 92) [] []] [] 1=some (.lsl 1 0 va3p4_0.length 2 none,[(1,⟨va3p4_0.map Sn.D,2,false⟩)],2) from zy [.rw 15 (I ((a.l.length:Nat):Int)),.loop (.exit 0) (sd194 a b va3p4_0)] (Ai (yi (q:=lr_ranges_pairs_3p4 a (ze b)) (lp_ranges_pairs_3p4 a (ze b) a.l 0 (List.drop_zero) (Nat.zero_le _) (by omega) (by exact zB _ (by omega)) (by omega)) h42) (Ai (zQ Sn.D a) trivial)) (by kernel_rfl))
   cases h43:(((va3p4_0.length:Nat):Int) == 0) with
   | true =>
    have g43:=eq_of_beq h43
    exact zt ((yA a b)++[.inl (.lsl 1 0 va3p4_0.length 2 none) [(1,⟨va3p4_0.map Sn.D,2,false⟩)] 2,.dec true]) (Ai h43 (Ai p3 (Ai p2 (Ai h1 (Ai p1 trivial))))) (by kernel_rfl)
   | false =>
    have g43:=ne_of_beq_false h43
    exact zt ((yA a b)++[.inl (.lsl 1 0 va3p4_0.length 2 none) [(1,⟨va3p4_0.map Sn.D,2,false⟩)] 2,.dec false]) (Ai h43 (Ai p3 (Ai p2 (Ai h1 (Ai p1 trivial))))) (by kernel_rfl)
  | x1 i3p4 x3p4 i6p8 x6p8 v6p8_0 =>
   try dsimp only
   have p4:=(show (lim cfg).inl 87 [.sl a.nl (a.l.map Sn.D) (zsl a.nl 2) none,.sl ((ze b).nl) (((ze b).l).map Sn.D) (zsl ((ze b).nl) 2) none,.fn (.func 92) [] []] [] 1=some (.lsl 1 0 v6p8_0.length 2 none,[(1,⟨v6p8_0.map Sn.D,2,false⟩),(2,⟨[.agg [I x3p4.lo,I x3p4.hi]],2,false⟩),(3,⟨[.agg [I x6p8.lo,I x6p8.hi]],2,false⟩)],4) from zy [.rw 15 (I ((a.l.length:Nat):Int)),.loop (.exit 0) (sd195 a b i3p4 x3p4 i6p8 x6p8 v6p8_0)] (Ai (yi (q:=lr_ranges_pairs_3p4 a (ze b)) (lp_ranges_pairs_3p4 a (ze b) a.l 0 (List.drop_zero) (Nat.zero_le _) (by omega) (by exact zB _ (by omega)) (by omega)) h42) (Ai (zQ Sn.D a) trivial)) (by kernel_rfl))
   cases h44:(((v6p8_0.length:Nat):Int) == 0) with
   | true =>
    have g44:=eq_of_beq h44
    exact zt ((yA a b)++((ranges_Within_o2 x3p4 x6p8 v6p8_0)++[.dec true])) (Ai h44 (Ai p4 (Ai p2 (Ai h1 (Ai p1 trivial))))) (by kernel_rfl)
   | false =>
    have g44:=ne_of_beq_false h44
    exact zt ((yA a b)++((ranges_Within_o2 x3p4 x6p8 v6p8_0)++[.dec false])) (Ai h44 (Ai p4 (Ai p2 (Ai h1 (Ai p1 trivial))))) (by kernel_rfl)
  | x2 i3p4 x3p4 i6p8 x6p8 v6p8_0 =>
   try dsimp only
   have p5:=(show (lim cfg).inl 87 [.sl a.nl (a.l.map Sn.D) (zsl a.nl 2) none,.sl ((ze b).nl) (((ze b).l).map Sn.D) (zsl ((ze b).nl) 2) none,.fn (.func 92) [] []] [] 1=some (.lsl 4 0 ((v6p8_0++(((z6 x3p4 x6p8).1).l)).length) 2 none,[(2,⟨[.agg [I x3p4.lo,I x3p4.hi]],2,false⟩),(3,⟨[.agg [I x6p8.lo,I x6p8.hi]],2,false⟩),(4,⟨(v6p8_0++(((z6 x3p4 x6p8).1).l)).map Sn.D,2,false⟩)],5) from zy [.rw 15 (I ((a.l.length:Nat):Int)),.loop (.exit 0) (sd196 a b i3p4 x3p4 i6p8 x6p8 v6p8_0)] (Ai (yi (q:=lr_ranges_pairs_3p4 a (ze b)) (lp_ranges_pairs_3p4 a (ze b) a.l 0 (List.drop_zero) (Nat.zero_le _) (by omega) (by exact zB _ (by omega)) (by omega)) h42) (Ai (zQ Sn.D a) trivial)) (by kernel_rfl))
   cases h45:((((v6p8_0++(((z6 x3p4 x6p8).1).l)).length:Nat):Int) == 0) with
   | true =>
    have g45:=eq_of_beq h45
    exact zt ((yA a b)++((ranges_Within_o3 x3p4 x6p8 v6p8_0)++[.dec true])) (Ai h45 (Ai p5 (Ai p2 (Ai h1 (Ai p1 trivial))))) (by kernel_rfl)
   | false =>
    have g45:=ne_of_beq_false h45
    exact zt ((yA a b)++((ranges_Within_o3 x3p4 x6p8 v6p8_0)++[.dec false])) (Ai h45 (Ai p5 (Ai p2 (Ai h1 (Ai p1 trivial))))) (by kernel_rfl)
  | x3 =>
   try dsimp only
   exact zt ((yA a b)++[.inl (.sl true [] 0 none) [] 1,.dec true]) (Ai (Eq.refl true) (Ai (show (lim cfg).inl 87 [.sl a.nl (a.l.map Sn.D) (zsl a.nl 2) none,.sl ((ze b).nl) (((ze b).l).map Sn.D) (zsl ((ze b).nl) 2) none,.fn (.func 92) [] []] [] 1=some (.sl true [] 0 none,[],1) from zy [.rw 15 (I ((a.l.length:Nat):Int)),.loop (.exit 0) (sd197 a b)] (Ai (yi (q:=lr_ranges_pairs_3p4 a (ze b)) (lp_ranges_pairs_3p4 a (ze b) a.l 0 (List.drop_zero) (Nat.zero_le _) (by omega) (by exact zB _ (by omega)) (by omega)) h42) (Ai (zQ Sn.D a) trivial)) (by kernel_rfl)) (Ai p2 (Ai h1 (Ai p1 trivial))))) (by kernel_rfl)
  | x4 i3p4 x3p4 i6p9 x6p9 va6p9_0 =>
   try dsimp only
   have p6:=(show (lim cfg).inl 87 [.sl a.nl (a.l.map Sn.D) (zsl a.nl 2) none,.sl ((ze b).nl) (((ze b).l).map Sn.D) (zsl ((ze b).nl) 2) none,.fn (.func 92) [] []] [] 1=some (.lsl 1 0 va6p9_0.length 2 none,[(1,⟨va6p9_0.map Sn.D,2,false⟩),(2,⟨[.agg [I x3p4.lo,I x3p4.hi]],2,false⟩),(3,⟨[.agg [I x6p9.lo,I x6p9.hi]],2,false⟩)],4) from zy [.rw 15 (I ((a.l.length:Nat):Int)),.loop (.exit 0) (sd198 a b i3p4 x3p4 i6p9 x6p9 va6p9_0)] (Ai (yi (q:=lr_ranges_pairs_3p4 a (ze b)) (lp_ranges_pairs_3p4 a (ze b) a.l 0 (List.drop_zero) (Nat.zero_le _) (by omega) (by exact zB _ (by omega)) (by omega)) h42) (Ai (zQ Sn.D a) trivial)) (by kernel_rfl))
   cases h46:(((va6p9_0.length:Nat):Int) == 0) with
   | true =>
    have g46:=eq_of_beq h46
    exact zt ((yA a b)++((ranges_Within_o4 x3p4 x6p9 va6p9_0)++[.dec true])) (Ai h46 (Ai p6 (Ai p2 (Ai h1 (Ai p1 trivial))))) (by kernel_rfl)
   | false =>
    have g46:=ne_of_beq_false h46
    exact zt ((yA a b)++((ranges_Within_o4 x3p4 x6p9 va6p9_0)++[.dec false])) (Ai h46 (Ai p6 (Ai p2 (Ai h1 (Ai p1 trivial))))) (by kernel_rfl)
  | x5 i3p4 x3p4 i6p9 x6p9 va6p9_0 =>
   try dsimp only
   have p7:=(show (lim cfg).inl 87 [.sl a.nl (a.l.map Sn.D) (zsl a.nl 2) none,.sl ((ze b).nl) (((ze b).l).map Sn.D) (zsl ((ze b).nl) 2) none,.fn (.func 92) [] []] [] 1=some (.lsl 4 0 ((va6p9_0++(((z6 x3p4 x6p9).1).l)).length) 2 none,[(2,⟨[.agg [I x3p4.lo,I x3p4.hi]],2,false⟩),(3,⟨[.agg [I x6p9.lo,I x6p9.hi]],2,false⟩),(4,⟨(va6p9_0++(((z6 x3p4 x6p9).1).l)).map Sn.D,2,false⟩)],5) from zy [.rw 15 (I ((a.l.length:Nat):Int)),.loop (.exit 0) (sd199 a b i3p4 x3p4 i6p9 x6p9 va6p9_0)] (Ai (yi (q:=lr_ranges_pairs_3p4 a (ze b)) (lp_ranges_pairs_3p4 a (ze b) a.l 0 (List.drop_zero) (Nat.zero_le _) (by omega) (by exact zB _ (by omega)) (by omega)) h42) (Ai (zQ Sn.D a) trivial)) (by kernel_rfl))
   cases h47:((((va6p9_0++(((z6 x3p4 x6p9).1).l)).length:Nat):Int) == 0) with
   | true =>
    have g47:=eq_of_beq h47
    exact zt ((yA a b)++((ranges_Within_o5 x3p4 x6p9 va6p9_0)++[.dec true])) (Ai h47 (Ai p7 (Ai p2 (Ai h1 (Ai p1 trivial))))) (by kernel_rfl)
   | false =>
    have g47:=ne_of_beq_false h47
    exact zt ((yA a b)++((ranges_Within_o5 x3p4 x6p9 va6p9_0)++[.dec false])) (Ai h47 (Ai p7 (Ai p2 (Ai h1 (Ai p1 trivial))))) (by kernel_rfl)
  | x6 i3p4 x3p4 i6p9 x6p9 =>
   try dsimp only
   exact zt ((yA a b)++[.inl (.sl true [] 0 none) [(1,⟨[.agg [I x3p4.lo,I x3p4.hi]],2,false⟩),(2,⟨[.agg [I x6p9.lo,I x6p9.hi]],2,false⟩)] 3,.dec true]) (Ai (Eq.refl true) (Ai (show (lim cfg).inl 87 [.sl a.nl (a.l.map Sn.D) (zsl a.nl 2) none,.sl ((ze b).nl) (((ze b).l).map Sn.D) (zsl ((ze b).nl) 2) none,.fn (.func 92) [] []] [] 1=some (.sl true [] 0 none,[(1,⟨[.agg [I x3p4.lo,I x3p4.hi]],2,false⟩),(2,⟨[.agg [I x6p9.lo,I x6p9.hi]],2,false⟩)],3) from zy [.rw 15 (I ((a.l.length:Nat):Int)),.loop (.exit 0) (sd200 a b i3p4 x3p4 i6p9 x6p9)] (Ai (yi (q:=lr_ranges_pairs_3p4 a (ze b)) (lp_ranges_pairs_3p4 a (ze b) a.l 0 (List.drop_zero) (Nat.zero_le _) (by omega) (by exact zB _ (by omega)) (by omega)) h42) (Ai (zQ Sn.D a) trivial)) (by kernel_rfl)) (Ai p2 (Ai h1 (Ai p1 trivial))))) (by kernel_rfl)
  | x7 i3p4 x3p4 i6p9 x6p9 =>
   try dsimp only
   have p8:=(show (lim cfg).inl 87 [.sl a.nl (a.l.map Sn.D) (zsl a.nl 2) none,.sl ((ze b).nl) (((ze b).l).map Sn.D) (zsl ((ze b).nl) 2) none,.fn (.func 92) [] []] [] 1=some (.lsl 3 0 ((((z6 x3p4 x6p9).1).l).length) 2 none,[(1,⟨[.agg [I x3p4.lo,I x3p4.hi]],2,false⟩),(2,⟨[.agg [I x6p9.lo,I x6p9.hi]],2,false⟩),(3,⟨(((z6 x3p4 x6p9).1).l).map Sn.D,2,false⟩)],4) from zy [.rw 15 (I ((a.l.length:Nat):Int)),.loop (.exit 0) (sd201 a b i3p4 x3p4 i6p9 x6p9)] (Ai (yi (q:=lr_ranges_pairs_3p4 a (ze b)) (lp_ranges_pairs_3p4 a (ze b) a.l 0 (List.drop_zero) (Nat.zero_le _) (by omega) (by exact zB _ (by omega)) (by omega)) h42) (Ai (zQ Sn.D a) trivial)) (by kernel_rfl))
   cases h48:((((((z6 x3p4 x6p9).1).l).length:Nat):Int) == 0) with
   | true =>
    have g48:=eq_of_beq h48
    exact zt ((yA a b)++((ranges_Within_o6 x3p4 x6p9)++[.dec true])) (Ai h48 (Ai p8 (Ai p2 (Ai h1 (Ai p1 trivial))))) (by kernel_rfl)
   | false =>
    have g48:=ne_of_beq_false h48
    exact zt ((yA a b)++((ranges_Within_o6 x3p4 x6p9)++[.dec false])) (Ai h48 (Ai p8 (Ai p2 (Ai h1 (Ai p1 trivial))))) (by kernel_rfl)
end Go.VS

namespace Go.VS
open Go
set_option maxHeartbeats 0
def Di (m z:Int):Int:=max (z - m) (m - z)
def Nst (m:Int) (S:Int→Prop) (v:Int):Prop:=S v∧∀ z,S z→Di m v≤Di m z∧(Di m z=Di m v→v≤z)
theorem Nst.congr {m:Int} {S T:Int→Prop} {v:Int} (h:Nst m S v) (e:∀ z,S z↔T z):Nst m T v:=⟨(e v).1 h.1,fun z hz=>h.2 z ((e z).2 hz)⟩
end Go.VS

namespace Go.VS
open Go
section
variable {r:GS Sn} (h:r_Valid r=true)
include h
end
end Go.VS

namespace Go.VS
open Go
def takeR (r:GS Sn) (e:Int):GS Sn:=bif (e == 2) then GS.nil else r
def takeL (L:Bool) (e:Int):Bool:=bif (e == 2) then true else L
def zH (L z:Bool):Bool:=bif L then true else z
def Tkn (r:GS Sn) (e:Int):Prop:=(e=2∧r=GS.nil) ∨ (e=0∧Ok r.l)
theorem tk_e {r:GS Sn} {e:Int} (h:Tkn r e) (h2:(e == 2)=false):(e != 0)=false:=by
 rcases h with ⟨rfl,_⟩ | ⟨rfl,_⟩
 ·cases h2
 ·rfl
theorem tk_r {r:GS Sn} {e:Int} (h:Tkn r e) (h2:(e == 2)=false):((r_Check r) != 0)=false:=by
 rcases h with ⟨rfl,_⟩ | ⟨rfl,h⟩
 ·cases h2
 ·rw [← same_check,check_iff.2 h]; rfl
theorem tkn_len {r:GS Sn} {e:Int} (h:Tkn r e):r.l.length≤9223372036854775807:=by
 rcases h with ⟨_,rfl⟩ | ⟨_,h⟩
 ·simp [GS.nil]
 ·exact Nat.le_trans h.2.2 (by decide)
theorem ok64 {r:GS Sn} (h:Ok r.l):r.l.length≤64:=h.2.2
theorem ok_nil:Ok (GS.nil:GS Sn).l:=⟨trivial,(fun s hs=>by cases hs),by simp [GS.nil]⟩
theorem zC {r:GS Sn} {e:Int} (h:Tkn r e):Ok (takeR r e).l:=by
 unfold takeR
 rcases h with ⟨rfl,_⟩ | ⟨rfl,h⟩
 ·exact ok_nil
 ·exact h
theorem tk_res {S:Int→Prop} {res:GS Sn × Int} (h:Res S res):Tkn res.1 res.2:=by
 rcases h with ⟨h1,h2,_⟩ | h
 ·exact .inr ⟨h1,h2⟩
 ·rw [h]; exact .inl ⟨rfl,rfl⟩
theorem zJ {a b:GS Sn} (ha:Ok a.l) (hb:Ok b.l):Tkn (zh a b).1 (zh a b).2:=tk_res (common_res ha hb)
theorem yB {a b:GS Sn} (ha:Ok a.l) (hb:Ok b.l):Tkn (zm a b).1 (zm a b).2:=tk_res (minus_res ha hb)
def Tk (L:Bool) (S:Int→Prop) (r:GS Sn):Prop:=L=true ∨ (Ok r.l∧Rg S r.l)
theorem Tk.take {L:Bool} {S:Int→Prop} {res:GS Sn × Int} (h:Res S res):Tk (takeL L res.2) S (takeR res.1 res.2):=by
 unfold takeL takeR
 rcases h with ⟨h1,h2,h3⟩ | h
 ·right; rw [h1]; exact ⟨h2,h3⟩
 ·left; rw [h]; rfl
theorem Tk.up {L:Bool} {S:Int→Prop} {r:GS Sn} (h:Tk L S r) (e:Int):Tk (takeL L e) S r:=by
 unfold takeL
 rcases h with h | h
 ·left; rw [h]; cases (e == 2) <;> rfl
 ·exact .inr h
theorem holds_of {L z:Bool} (h:L=true ∨ z=true):zH L z=true:=by
 unfold zH
 rcases h with h | h <;> rw [h]
 ·rfl
 ·cases L <;> rfl
end Go.VS

namespace Go.VS
open Go
set_option maxHeartbeats 0

theorem Union_gr {a b:GS Sn} (ha:Ok a.l) (hb:Ok b.l):GR (a.l++b.l) (zi a b):=by
 have la:=ha.2.2
 have lb:=hb.2.2
 unfold zi
 rw [check2_iff.2 ⟨ha,hb⟩]
 simp only [bne_self_eq_false,cond_false]
 cases hd:decide (((a.l.length+b.l.length:Nat):Int) > 0) with
 | false =>
  have e1:a.l=[]:=by simpa using emp1 hd
  have e2:b.l=[]:=by simpa using emp2 hd
  rw [e1,e2]; exact GR_nil
 | true =>
  simp only [cond_true]
  cases h1:a.l.isEmpty with
  | true =>
   have e1:a.l=[]:=by simpa using h1
   have hne:b.l ≠ []:=by simpa using nemp_add hd h1
   rw [e1,List.nil_append]
   simp only [cond_true]
   rcases ranges_gathered_4p2_at (l:=b.l) hne (by omega) with ⟨g1,g2⟩ | ⟨g1,g2⟩
   ·rw [g2]; exact GR_end g1
   ·refine .inr ⟨.inl g1,?_⟩
    revert g2
    cases yc (zq zp b.l) 0 <;> intro g2 <;> first | rfl | cases g2
  | false =>
   have hna:a.l ≠ []:=by simpa using h1
   simp only [cond_false]
   cases h2:b.l.isEmpty with
   | true =>
    have e2:b.l=[]:=by simpa using h2
    rw [e2,List.append_nil]
    simp only [cond_true]
    rcases ranges_gathered_4p2_at (l:=a.l) hna (by omega) with ⟨g1,g2⟩ | ⟨g1,g2⟩
    ·rw [g2]; exact GR_end g1
    ·refine .inr ⟨.inl g1,?_⟩
     revert g2
     cases yc (zq zp a.l) 0 <;> intro g2 <;> first | rfl | cases g2
   | false =>
    have hne:a.l++b.l ≠ []:=fun h=>hna (List.append_eq_nil_iff.1 h).1
    simp only [cond_false]
    rcases ranges_gathered_4p3_at (l:=(a.l++b.l)) hne (by rw [List.length_append]; omega) with ⟨g1,g2⟩ | ⟨g1,g2⟩
    ·rw [g2]; exact GR_end g1
    ·refine .inr ⟨.inl g1,?_⟩
     revert g2
     cases yt (zq zp (a.l++b.l)) 0 <;> intro g2 <;> first | rfl | cases g2
theorem union_res {a b:GS Sn} (ha:Ok a.l) (hb:Ok b.l):Res (fun x=>In a.l x ∨ In b.l x) (zi a b) :=
 ((Union_gr ha hb).res (fun s hs=>by
  rcases List.mem_append.1 hs with h | h
  ·exact cn_mem ha.1 h
  ·exact cn_mem hb.1 h)).congr fun x=>In_append

def ofF (s:Sn):List Sn:=someS s.lo s.hi
def sh1 (k:Int) (s:Sn):List Sn:=(zO s k).l
theorem each3c_eq (k:Int):∀ (l v:List Sn),yz k l v=.x0 (v++l.flatMap (sh1 k))
 | [],v=>by simp [yz]
 | y::l,v=>by
  unfold yz
  rw [emp_app (fun z=>yz k l z),each3c_eq k l _,List.flatMap_cons,List.append_assoc,Bool.cond_self]; rfl
theorem each3a'_eq (k:Int):∀ (l v:List Sn),ranges_each_3p1a k l v=.x0 (v++l.flatMap (sh1 k)) ∨ ranges_each_3p1a k l v=.x1 (v++l.flatMap (sh1 k))
 | [],v=>by right; simp [ranges_each_3p1a]
 | y::l,v=>by
  unfold ranges_each_3p1a
  rw [emp_app (fun z=>ranges_each_3p1a k l z),emp_app (fun z=>yz k l z),each3c_eq k l _,List.flatMap_cons,← List.append_assoc]
  cases (zO y k).nl with
  | false=>exact .inl rfl
  | true=>exact each3a'_eq k l _
theorem each3b_eq (k:Int):∀ (l:List Sn),(l.flatMap (sh1 k)=[]∧ranges_each_3p1b k l=.x2) ∨ (l.flatMap (sh1 k) ≠ []∧ranges_each_3p1b k l=.x0 (l.flatMap (sh1 k)))
 | []=>.inl ⟨rfl,rfl⟩
 | y::l=>by
  unfold ranges_each_3p1b
  rw [Bool.cond_self]
  cases h:((zO y k).l).isEmpty with
  | true =>
   rw [flat_cons_emp (f:=sh1 k) h]
   exact each3b_eq k l
  | false =>
   right
   simp only [cond_false]
   rw [each3c_eq,List.flatMap_cons]
   refine ⟨fun z=>?_,rfl⟩
   have h2:(zO y k).l=[]:=(List.append_eq_nil_iff.1 z).1
   rw [h2] at h; cases h
theorem each3'_eq (k:Int):∀ (l:List Sn),(l.flatMap (sh1 k)=[]∧(ranges_each_3p1 k l=.x2 ∨ ranges_each_3p1 k l=.x3)) ∨ (l.flatMap (sh1 k) ≠ []∧(ranges_each_3p1 k l=.x0 (l.flatMap (sh1 k)) ∨ ranges_each_3p1 k l=.x1 (l.flatMap (sh1 k))))
 | []=>.inl ⟨rfl,.inr rfl⟩
 | y::l=>by
  unfold ranges_each_3p1
  cases h:((zO y k).l).isEmpty with
  | true =>
   rw [flat_cons_emp (f:=sh1 k) h]
   cases (zO y k).nl with
   | true=>exact each3'_eq k l
   | false =>
    rcases each3b_eq k l with ⟨h1,h2⟩ | ⟨h1,h2⟩
    ·exact .inl ⟨h1,.inl h2⟩
    ·exact .inr ⟨h1,.inl h2⟩
  | false =>
   right
   refine ⟨fun z=>?_,?_⟩
   ·rw [List.flatMap_cons] at z
    have h2:(zO y k).l=[]:=(List.append_eq_nil_iff.1 z).1
    rw [h2] at h; cases h
   ·rw [List.flatMap_cons]
    cases (zO y k).nl with
    | true=>exact each3a'_eq k l _
    | false=>exact .inl (each3c_eq k l _)
theorem Shift_emp {r:GS Sn} {k:Int} (h:r.l=[]):ranges_Shift r k=(GS.nil,0):=by
 have hr:Ok r.l:=by rw [h]; exact ⟨trivial,(fun s hs=>by cases hs),by simp⟩
 unfold ranges_Shift
 rw [check_iff.2 hr,h]
 rfl
theorem Shift_far {r:GS Sn} {k:Int} (hr:Ok r.l) (h:r.l ≠ []) (hk:¬ (-2199023255552≤k∧k≤2199023255552)):ranges_Shift r k=(GS.nil,2):=by
 unfold ranges_Shift
 have e:ranges_in k (-2199023255552) 2199023255552=false:=by
  cases h:ranges_in k (-2199023255552) 2199023255552
  ·rfl
  ·exact absurd (in_iff.1 h) hk
 have hp:decide (((r.l.length:Nat):Int) > 0)=true:=decide_eq_true (by have:=List.length_pos_iff.2 h; omega)
 rw [check_iff.2 hr,e,hp]; rfl
theorem shi_len (k:Int):∀ l:List Sn,(l.flatMap (sh1 k)).length≤l.length
 | []=>Nat.le_refl _
 | y::l=>by
  rw [List.flatMap_cons,List.length_append,List.length_cons]
  have:=shi_len k l
  have:(sh1 k y).length≤1:=shift1_len _ _
  omega
theorem Shift_gr {r:GS Sn} {k:Int} (hr:Ok r.l) (hk:-2199023255552≤k∧k≤2199023255552):GR (shiL r.l k) (ranges_Shift r k):=by
 by_cases hne:r.l=[]
 ·rw [Shift_emp hne,hne]; exact GR_nil
 have hq:r.l.flatMap (sh1 k)=shiL r.l k:=by
  have:∀ l:List Sn,(∀ s∈l,s.lo≤s.hi∧-1099511627776≤s.lo∧s.hi≤1099511627776)→l.flatMap (sh1 k)=shiL l k:=by
   intro l
   induction l with
   | nil=>intro _; rfl
   | cons s l ih =>
    intro h
    have hs:=h s List.mem_cons_self
    rw [List.flatMap_cons,ih fun t ht=>h t (List.mem_cons_of_mem _ ht)]
    unfold sh1 zO
    rw [w64_eq (by omega) (by omega),w64_eq (by omega) (by omega),some_l]
    unfold shiL
    rw [List.flatMap_cons]
  exact this r.l fun s hs=>(by have h1:=cn_mem hr.1 hs; have h2:=hr.2.1 s hs; omega)
 have hp:decide (((r.l.length:Nat):Int) > 0)=true:=decide_eq_true (by have:=List.length_pos_iff.2 hne; omega)
 unfold ranges_Shift
 rw [check_iff.2 hr,hp,in_iff.2 hk]
 simp only [bne_self_eq_false,cond_false,cond_true]
 have hl:=shi_len k r.l
 have hl2:=hr.2.2
 rw [← hq]
 rcases each3'_eq k r.l with ⟨k1,k2 | k2⟩ | ⟨k1,k2 | k2⟩ <;> rw [k2] <;> dsimp only
 ·rw [k1]; exact GR_nil
 ·rw [k1]; exact GR_nil
 ·generalize r.l.flatMap (sh1 k)=q at *
  rcases ranges_gathered_4p1_at (l:=q) k1 (by omega) with ⟨g1,g2⟩ | ⟨g1,g2⟩
  ·rw [g2]; exact GR_end g1
  ·refine .inr ⟨.inl g1,?_⟩
   revert g2
   cases zN (zq zp q) 0 <;> intro g2 <;> first | rfl | cases g2
 ·generalize r.l.flatMap (sh1 k)=q at *
  rcases ranges_gathered_4p1_at (l:=q) k1 (by omega) with ⟨g1,g2⟩ | ⟨g1,g2⟩
  ·rw [g2]; exact GR_end g1
  ·refine .inr ⟨.inl g1,?_⟩
   revert g2
   cases zN (zq zp q) 0 <;> intro g2 <;> first | rfl | cases g2
theorem shift_res {r:GS Sn} {k:Int} (hr:Ok r.l):Res (fun x=>In r.l (x - k)) (ranges_Shift r k):=by
 by_cases hk:-2199023255552≤k∧k≤2199023255552
 ·exact ((Shift_gr hr hk).res (flat_ne fun a _=>some_ne)).congr fun x=>In_shift
 ·by_cases hne:r.l=[]
  ·rw [Shift_emp hne,hne]
   exact .inl ⟨rfl,⟨trivial,(fun s hs=>by cases hs),by simp [GS.nil]⟩,trivial,fun x=>⟨fun h=>absurd h In_nil,fun h=>absurd h In_nil⟩⟩
  ·rw [Shift_far hr hne hk]; exact .inr rfl

theorem within1 (x y:Sn):((z6 x y).1).l=comF x y∧(z6 x y).2=!(comF x y).isEmpty:=by
 have e:(zj (imax x.lo y.lo) (imin x.hi y.hi)).l=comF x y:=by rw [some_l,imax_eq,imin_eq]; rfl
 unfold z6
 rw [e]
 cases h:comF x y with
 | nil=>exact ⟨e.trans h,rfl⟩
 | cons s l =>
  rw [decide_eq_true (by simp only [List.length_cons]; omega)]
  exact ⟨e.trans h,rfl⟩
theorem p69_eq (x:Sn):∀ (l:List Sn) (i:Nat),(l.flatMap (comF x)=[]∧ranges_pairs_6p9 x l i=.x3) ∨ (∃ j y,ranges_pairs_6p9 x l i=.x5 j y∧comF x y ≠ []∧l.flatMap (comF x) ≠ [])
 | [],i=>.inl ⟨rfl,rfl⟩
 | y::l,i=>by
  unfold ranges_pairs_6p9
  rw [(within1 x y).1,(within1 x y).2]
  cases h:(comF x y).isEmpty with
  | true =>
   rw [flat_cons_emp h]
   exact p69_eq x l (i+1)
  | false =>
   right
   have hne:comF x y ≠ []:=by simpa using h
   refine ⟨i,y,rfl,hne,fun k=>?_⟩
   rw [List.flatMap_cons] at k
   exact hne (List.append_eq_nil_iff.1 k).1
theorem p34_eq (q:GS Sn):∀ (l:List Sn) (i:Nat),(pairsL l q.l comF=[]∧ranges_pairs_3p4 q l i=.x3) ∨ (∃ j x k y,ranges_pairs_3p4 q l i=.x7 j x k y∧comF x y ≠ []∧pairsL l q.l comF ≠ [])
 | [],i=>.inl ⟨rfl,rfl⟩
 | x::l,i=>by
  unfold ranges_pairs_3p4
  have e:pairsL (x::l) q.l comF=q.l.flatMap (comF x)++pairsL l q.l comF:=rfl
  rw [e]
  rcases p69_eq x q.l 0 with ⟨h1,h2⟩ | ⟨j,y,h2,h3,h4⟩ <;> rw [h2] <;> dsimp only
  ·rw [h1]; exact p34_eq q l (i+1)
  ·exact .inr ⟨i,x,j,y,rfl,h3,fun k=>h4 (List.append_eq_nil_iff.1 k).1⟩
theorem within_ok {a b:GS Sn} (ha:Ok a.l) (hb:Ok b.l):∃ z,zd a b=(z,0)∧(z=true↔∀ x,In a.l x→In b.l x):=by
 unfold zd
 rw [check2_iff.2 ⟨ha,hb⟩]
 simp only [bne_self_eq_false,cond_false]
 have w:=within_iff ha.1 ha.2.1 hb.1 hb.2.1
 rw [← outside_eq hb.2.1] at w
 rcases p34_eq (ze b) a.l 0 with ⟨h1,h2⟩ | ⟨j,x,k,y,h2,h3,h4⟩ <;> rw [h2] <;> dsimp only
 ·exact ⟨true,rfl,fun _=>w.1 h1,fun _=>rfl⟩
 ·rw [(within1 x y).1]
  refine ⟨false,?_,fun z=>(by cases z),fun z=>absurd (w.2 z) h4⟩
  cases hc:comF x y with
  | nil=>exact absurd hc h3
  | cons s l =>
   have:((((s::l).length:Nat):Int) == 0)=false:=by simp only [List.length_cons]; exact beq_eq_false_iff_ne.2 (by omega)
   rw [this]; rfl
theorem zR {a b:GS Sn} (ha:Ok a.l) (hb:Ok b.l):Tkn (zi a b).1 (zi a b).2:=tk_res (union_res ha hb)
end Go.VS

namespace Go.VS
open Go
set_option maxHeartbeats 0
theorem sz_nonneg:∀ {l:List Sn},cn l→0≤szS l
 | [],_=>Int.le_refl _
 | s::l,h=>by have:=sz_nonneg h.2.2; have:=h.1; simp only [szS]; omega
theorem sz_win {l:List Sn} (h:cn l) (hb:bd l):szS l=cnt (inB l) (-1099511627776) 2199023255553:=sz_cnt h fun x hx=>by have:=bd_in hb hx; omega
theorem sz_le {l:List Sn} (h:cn l) (hb:bd l):szS l≤2199023255553:=by
 rw [sz_win h hb]
 have:=cnt_le (p:=inB l) (q:=fun _=>true) (fun _ _=>rfl) 2199023255553 (-1099511627776)
 rw [cnt_true] at this
 omega
theorem size6:∀ (l:List Sn) (v:Int),cn l→bd l→0≤v→v+szS l≤4398046511104→ranges_Size_6 l v=.x0 (v+szS l)
 | [],v,_,_,_,_=>by simp [ranges_Size_6,szS]
 | s::l,v,h,hb,h0,h1=>by
  have hs:=hb s List.mem_cons_self
  have hn:=sz_nonneg h.2.2
  have hc:=h.1
  simp only [szS] at h1 ⊢
  unfold ranges_Size_6
  rw [w64_eq (n:=s.hi - s.lo) (by omega) (by omega),w64_eq (n:=s.hi - s.lo+1) (by omega) (by omega),w64_eq (by omega) (by omega),size6 l _ h.2.2 (fun t ht=>hb t (List.mem_cons_of_mem _ ht)) (by omega) (by omega)]
  congr 1; omega
theorem size_ok {r:GS Sn} (h:Ok r.l):zD r=(szS r.l,0):=by
 unfold zD
 have:=sz_le h.1 h.2.1
 rw [check_iff.2 h,size6 r.l 0 h.1 h.2.1 (Int.le_refl _) (by omega)]
 simp
end Go.VS

namespace Go.VS
open Go
set_option maxHeartbeats 0
theorem Tk.lift {L:Bool} {S:Int→Prop} {res:GS Sn × Int} (h:L=true ∨ Res S res):Tk (takeL L res.2) S (takeR res.1 res.2):=by
 rcases h with h | h
 ·left; rw [h]; unfold takeL; cases (res.2 == 2) <;> rfl
 ·exact Tk.take h
theorem Tk.base {L:Bool} {r:GS Sn} (h:Ok r.l):Tk L (In r.l) r:=.inr ⟨h,h.1,fun _=>Iff.rfl⟩
section
variable {L:Bool} {S T:Int→Prop} {a b:GS Sn}
theorem Tk.union (ha:Tk L S a) (hb:Tk L T b):Tk (takeL L (zi a b).2) (fun x=>S x ∨ T x) (takeR (zi a b).1 (zi a b).2):=by
 refine Tk.lift ?_
 rcases ha with h | ⟨ha,ra⟩
 ·exact .inl h
 rcases hb with h | ⟨hb,rb⟩
 ·exact .inl h
 exact .inr ((union_res ha hb).congr fun x=>by rw [ra.2,rb.2])
theorem Tk.common (ha:Tk L S a) (hb:Tk L T b):Tk (takeL L (zh a b).2) (fun x=>S x∧T x) (takeR (zh a b).1 (zh a b).2):=by
 refine Tk.lift ?_
 rcases ha with h | ⟨ha,ra⟩
 ·exact .inl h
 rcases hb with h | ⟨hb,rb⟩
 ·exact .inl h
 exact .inr ((common_res ha hb).congr fun x=>by rw [ra.2,rb.2])
theorem Tk.minus (ha:Tk L S a) (hb:Tk L T b):Tk (takeL L (zm a b).2) (fun x=>S x∧¬ T x) (takeR (zm a b).1 (zm a b).2):=by
 refine Tk.lift ?_
 rcases ha with h | ⟨ha,ra⟩
 ·exact .inl h
 rcases hb with h | ⟨hb,rb⟩
 ·exact .inl h
 exact .inr ((minus_res ha hb).congr fun x=>by rw [ra.2,rb.2])
theorem Tk.shift (k:Int) (ha:Tk L S a):Tk (takeL L (ranges_Shift a k).2) (fun x=>S (x - k)) (takeR (ranges_Shift a k).1 (ranges_Shift a k).2):=by
 refine Tk.lift ?_
 rcases ha with h | ⟨ha,ra⟩
 ·exact .inl h
 exact .inr ((shift_res ha).congr fun x=>ra.2 _)
theorem Tk.same (ha:Tk L S a) (hb:Tk L T b) (h:∀ x,S x↔T x):zH L (zw a b)=true:=by
 refine holds_of ?_
 rcases ha with h | ⟨ha,ra⟩
 ·exact .inl h
 rcases hb with h | ⟨hb,rb⟩
 ·exact .inl h
 exact .inr (same_refl (ra.eq rb h))
theorem Tk.empty (ha:Tk L S a) (h:∀ x,¬ S x):L=true ∨ (((a.l.length:Nat):Int) == 0)=true:=by
 rcases ha with h | ⟨ha,ra⟩
 ·exact .inl h
 right
 rw [cn_nil_of ra.1 fun x hx=>h x ((ra.2 x).1 hx)]; rfl
theorem y5 (ha:Ok a.l) (hb:Ok b.l):((zd a b).2 != 0)=false:=by
 obtain ⟨z,e,_⟩:=within_ok ha hb
 rw [e]; rfl
theorem err_size' (ha:Ok a.l):((zD a).2 != 0)=false:=by rw [size_ok ha]; rfl
theorem Tk.within (ha:Tk L S a) (hb:Tk L T b):L=true ∨ ((zd a b).1=true↔∀ x,S x→T x):=by
 rcases ha with h | ⟨ha,ra⟩
 ·exact .inl h
 rcases hb with h | ⟨hb,rb⟩
 ·exact .inl h
 obtain ⟨z,e,k⟩:=within_ok ha hb
 right
 rw [e]
 simp only [ra.2,rb.2] at k
 exact k
theorem Tk.same_iff (ha:Tk L S a) (hb:Tk L T b):L=true ∨ (zw a b=true↔∀ x,S x↔T x):=by
 rcases ha with h | ⟨ha,ra⟩
 ·exact .inl h
 rcases hb with h | ⟨hb,rb⟩
 ·exact .inl h
 right
 rw [_root_.Go.VS.same_iff]
 constructor
 ·intro h x
  rw [← ra.2,← rb.2,h]
 ·exact fun h=>ra.eq rb h
end
end Go.VS

namespace Go.VS
open Go
abbrev tL0 (a:GS Sn) (b:GS Sn):Bool:=(takeL false ((zi a b).2))
abbrev tv1 (a:GS Sn) (b:GS Sn):GS Sn:=(takeR ((zi a b).1) ((zi a b).2))
abbrev tL2 (a:GS Sn) (b:GS Sn):Bool:=(takeL (tL0 a b) ((zh a b).2))
abbrev tv3 (a:GS Sn) (b:GS Sn):GS Sn:=(takeR ((zh a b).1) ((zh a b).2))
abbrev tL4 (a:GS Sn) (b:GS Sn):Bool:=(takeL (tL2 a b) ((zi b a).2))
abbrev tv5 (a:GS Sn) (b:GS Sn):GS Sn:=(takeR ((zi b a).1) ((zi b a).2))
abbrev tL6 (a:GS Sn) (b:GS Sn):Bool:=(takeL (tL4 a b) ((zh b a).2))
abbrev tv7 (a:GS Sn) (b:GS Sn):GS Sn:=(takeR ((zh b a).1) ((zh b a).2))
abbrev tL8 (a:GS Sn) (b:GS Sn) (c:GS Sn):Bool:=(takeL (tL6 a b) ((zi (tv1 a b) c).2))
abbrev tv9 (a:GS Sn) (b:GS Sn) (c:GS Sn):GS Sn:=(takeR ((zi (tv1 a b) c).1) ((zi (tv1 a b) c).2))
abbrev tL10 (a:GS Sn) (b:GS Sn) (c:GS Sn):Bool:=(takeL (tL8 a b c) ((zi b c).2))
abbrev tv11 (b:GS Sn) (c:GS Sn):GS Sn:=(takeR ((zi b c).1) ((zi b c).2))
abbrev tL12 (a:GS Sn) (b:GS Sn) (c:GS Sn):Bool:=(takeL (tL10 a b c) ((zi a (tv11 b c)).2))
abbrev tv13 (a:GS Sn) (b:GS Sn) (c:GS Sn):GS Sn:=(takeR ((zi a (tv11 b c)).1) ((zi a (tv11 b c)).2))
abbrev tL14 (a:GS Sn) (b:GS Sn) (c:GS Sn):Bool:=(takeL (tL12 a b c) ((zh (tv3 a b) c).2))
abbrev tv15 (a:GS Sn) (b:GS Sn) (c:GS Sn):GS Sn:=(takeR ((zh (tv3 a b) c).1) ((zh (tv3 a b) c).2))
abbrev tL16 (a:GS Sn) (b:GS Sn) (c:GS Sn):Bool:=(takeL (tL14 a b c) ((zh b c).2))
abbrev tv17 (b:GS Sn) (c:GS Sn):GS Sn:=(takeR ((zh b c).1) ((zh b c).2))
abbrev tL18 (a:GS Sn) (b:GS Sn) (c:GS Sn):Bool:=(takeL (tL16 a b c) ((zh a (tv17 b c)).2))
abbrev tv19 (a:GS Sn) (b:GS Sn) (c:GS Sn):GS Sn:=(takeR ((zh a (tv17 b c)).1) ((zh a (tv17 b c)).2))
abbrev tL20 (a:GS Sn) (b:GS Sn) (c:GS Sn):Bool:=(takeL (tL18 a b c) ((zi b c).2))
abbrev tL21 (a:GS Sn) (b:GS Sn) (c:GS Sn):Bool:=(takeL (tL20 a b c) ((zh a (tv11 b c)).2))
abbrev tv22 (a:GS Sn) (b:GS Sn) (c:GS Sn):GS Sn:=(takeR ((zh a (tv11 b c)).1) ((zh a (tv11 b c)).2))
abbrev tL23 (a:GS Sn) (b:GS Sn) (c:GS Sn):Bool:=(takeL (tL21 a b c) ((zh a c).2))
abbrev tv24 (a:GS Sn) (c:GS Sn):GS Sn:=(takeR ((zh a c).1) ((zh a c).2))
abbrev tL25 (a:GS Sn) (b:GS Sn) (c:GS Sn):Bool:=(takeL (tL23 a b c) ((zi (tv3 a b) (tv24 a c)).2))
abbrev tv26 (a:GS Sn) (b:GS Sn) (c:GS Sn):GS Sn:=(takeR ((zi (tv3 a b) (tv24 a c)).1) ((zi (tv3 a b) (tv24 a c)).2))
abbrev tL27 (a:GS Sn) (b:GS Sn) (c:GS Sn):Bool:=(takeL (tL25 a b c) ((zh b c).2))
abbrev tL28 (a:GS Sn) (b:GS Sn) (c:GS Sn):Bool:=(takeL (tL27 a b c) ((zi a (tv17 b c)).2))
abbrev tv29 (a:GS Sn) (b:GS Sn) (c:GS Sn):GS Sn:=(takeR ((zi a (tv17 b c)).1) ((zi a (tv17 b c)).2))
abbrev tL30 (a:GS Sn) (b:GS Sn) (c:GS Sn):Bool:=(takeL (tL28 a b c) ((zi a c).2))
abbrev tv31 (a:GS Sn) (c:GS Sn):GS Sn:=(takeR ((zi a c).1) ((zi a c).2))
abbrev tL32 (a:GS Sn) (b:GS Sn) (c:GS Sn):Bool:=(takeL (tL30 a b c) ((zh (tv1 a b) (tv31 a c)).2))
abbrev tv33 (a:GS Sn) (b:GS Sn) (c:GS Sn):GS Sn:=(takeR ((zh (tv1 a b) (tv31 a c)).1) ((zh (tv1 a b) (tv31 a c)).2))
abbrev tL34 (a:GS Sn) (b:GS Sn) (c:GS Sn):Bool:=(takeL (tL32 a b c) ((zi b c).2))
abbrev tL35 (a:GS Sn) (b:GS Sn) (c:GS Sn):Bool:=(takeL (tL34 a b c) ((zm a (tv11 b c)).2))
abbrev tv36 (a:GS Sn) (b:GS Sn) (c:GS Sn):GS Sn:=(takeR ((zm a (tv11 b c)).1) ((zm a (tv11 b c)).2))
abbrev tL37 (a:GS Sn) (b:GS Sn) (c:GS Sn):Bool:=(takeL (tL35 a b c) ((zm a b).2))
abbrev tv38 (a:GS Sn) (b:GS Sn):GS Sn:=(takeR ((zm a b).1) ((zm a b).2))
abbrev tL39 (a:GS Sn) (b:GS Sn) (c:GS Sn):Bool:=(takeL (tL37 a b c) ((zm (tv38 a b) c).2))
abbrev tv40 (a:GS Sn) (b:GS Sn) (c:GS Sn):GS Sn:=(takeR ((zm (tv38 a b) c).1) ((zm (tv38 a b) c).2))
abbrev tL41 (a:GS Sn) (b:GS Sn) (c:GS Sn):Bool:=(takeL (tL39 a b c) ((zh b c).2))
abbrev tL42 (a:GS Sn) (b:GS Sn) (c:GS Sn):Bool:=(takeL (tL41 a b c) ((zm a (tv17 b c)).2))
abbrev tv43 (a:GS Sn) (b:GS Sn) (c:GS Sn):GS Sn:=(takeR ((zm a (tv17 b c)).1) ((zm a (tv17 b c)).2))
abbrev tL44 (a:GS Sn) (b:GS Sn) (c:GS Sn):Bool:=(takeL (tL42 a b c) ((zm a b).2))
abbrev tL45 (a:GS Sn) (b:GS Sn) (c:GS Sn):Bool:=(takeL (tL44 a b c) ((zm a c).2))
abbrev tv46 (a:GS Sn) (c:GS Sn):GS Sn:=(takeR ((zm a c).1) ((zm a c).2))
abbrev tL47 (a:GS Sn) (b:GS Sn) (c:GS Sn):Bool:=(takeL (tL45 a b c) ((zi (tv38 a b) (tv46 a c)).2))
abbrev tv48 (a:GS Sn) (b:GS Sn) (c:GS Sn):GS Sn:=(takeR ((zi (tv38 a b) (tv46 a c)).1) ((zi (tv38 a b) (tv46 a c)).2))
abbrev tL49 (a:GS Sn) (b:GS Sn) (c:GS Sn):Bool:=(takeL (tL47 a b c) ((zm a b).2))
abbrev tL50 (a:GS Sn) (b:GS Sn) (c:GS Sn):Bool:=(takeL (tL49 a b c) ((zi (tv3 a b) (tv38 a b)).2))
abbrev tv51 (a:GS Sn) (b:GS Sn):GS Sn:=(takeR ((zi (tv3 a b) (tv38 a b)).1) ((zi (tv3 a b) (tv38 a b)).2))
abbrev tL52 (a:GS Sn) (b:GS Sn) (c:GS Sn):Bool:=(takeL (tL50 a b c) ((zm a b).2))
abbrev zu (a:GS Sn) (b:GS Sn) (c:GS Sn):Bool:=(takeL (tL52 a b c) ((zh (tv38 a b) b).2))
abbrev tv54 (a:GS Sn) (b:GS Sn):GS Sn:=(takeR ((zh (tv38 a b) b).1) ((zh (tv38 a b) b).2))

end Go.VS

namespace Go.VS
open Go
set_option maxHeartbeats 0
theorem alg_all (a b c:GS Sn) (ha:Ok a.l) (hb:Ok b.l) (hc:Ok c.l):zH (tL4 a b) (zw (tv1 a b) (tv5 a b))=true∧zH (tL6 a b) (zw (tv3 a b) (tv7 a b))=true∧zH (tL12 a b c) (zw (tv9 a b c) (tv13 a b c))=true∧zH (tL18 a b c) (zw (tv15 a b c) (tv19 a b c))=true∧zH (tL25 a b c) (zw (tv22 a b c) (tv26 a b c))=true∧zH (tL32 a b c) (zw (tv29 a b c) (tv33 a b c))=true∧zH (tL39 a b c) (zw (tv36 a b c) (tv40 a b c))=true∧zH (tL47 a b c) (zw (tv43 a b c) (tv48 a b c))=true∧zH (tL50 a b c) (zw (tv51 a b) a)=true ∧
  zH (zu a b c) ((((tv54 a b).l.length:Nat):Int) == 0)=true∧Tk (zu a b c) (fun x=>In a.l x ∨ In b.l x) (tv1 a b)∧Tk (zu a b c) (fun x=>In a.l x∧In b.l x) (tv3 a b):=by
 have t_tv1:Tk (tL0 a b) _ (tv1 a b):=Tk.union (Tk.base (L:=false) ha) (Tk.base (L:=false) hb)
 have t_tv3:Tk (tL2 a b) _ (tv3 a b):=Tk.common (Tk.base (L:=(tL0 a b)) ha) (Tk.base (L:=(tL0 a b)) hb)
 have t_tv5:Tk (tL4 a b) _ (tv5 a b):=Tk.union (Tk.base (L:=(tL2 a b)) hb) (Tk.base (L:=(tL2 a b)) ha)
 have t_tv7:Tk (tL6 a b) _ (tv7 a b):=Tk.common (Tk.base (L:=(tL4 a b)) hb) (Tk.base (L:=(tL4 a b)) ha)
 have t_tv9:Tk (tL8 a b c) _ (tv9 a b c):=Tk.union (((t_tv1.up _).up _).up _) (Tk.base (L:=(tL6 a b)) hc)
 have t_tv11:Tk (tL10 a b c) _ (tv11 b c):=Tk.union (Tk.base (L:=(tL8 a b c)) hb) (Tk.base (L:=(tL8 a b c)) hc)
 have t_tv13:Tk (tL12 a b c) _ (tv13 a b c):=Tk.union (Tk.base (L:=(tL10 a b c)) ha) t_tv11
 have t_tv15:Tk (tL14 a b c) _ (tv15 a b c):=Tk.common (((((t_tv3.up _).up _).up _).up _).up _) (Tk.base (L:=(tL12 a b c)) hc)
 have t_tv17:Tk (tL16 a b c) _ (tv17 b c):=Tk.common (Tk.base (L:=(tL14 a b c)) hb) (Tk.base (L:=(tL14 a b c)) hc)
 have t_tv19:Tk (tL18 a b c) _ (tv19 a b c):=Tk.common (Tk.base (L:=(tL16 a b c)) ha) t_tv17
 have t_tv22:Tk (tL21 a b c) _ (tv22 a b c):=Tk.common (Tk.base (L:=(tL20 a b c)) ha) (((((t_tv11.up _).up _).up _).up _).up _)
 have t_tv24:Tk (tL23 a b c) _ (tv24 a c):=Tk.common (Tk.base (L:=(tL21 a b c)) ha) (Tk.base (L:=(tL21 a b c)) hc)
 have t_tv26:Tk (tL25 a b c) _ (tv26 a b c):=Tk.union (((((((((((t_tv3.up _).up _).up _).up _).up _).up _).up _).up _).up _).up _).up _) t_tv24
 have t_tv29:Tk (tL28 a b c) _ (tv29 a b c):=Tk.union (Tk.base (L:=(tL27 a b c)) ha) ((((((t_tv17.up _).up _).up _).up _).up _).up _)
 have t_tv31:Tk (tL30 a b c) _ (tv31 a c):=Tk.union (Tk.base (L:=(tL28 a b c)) ha) (Tk.base (L:=(tL28 a b c)) hc)
 have t_tv33:Tk (tL32 a b c) _ (tv33 a b c):=Tk.common ((((((((((((((((t_tv1.up _).up _).up _).up _).up _).up _).up _).up _).up _).up _).up _).up _).up _).up _).up _).up _) t_tv31
 have t_tv36:Tk (tL35 a b c) _ (tv36 a b c):=Tk.minus (Tk.base (L:=(tL34 a b c)) ha) (((((((((((((t_tv11.up _).up _).up _).up _).up _).up _).up _).up _).up _).up _).up _).up _).up _)
 have t_tv38:Tk (tL37 a b c) _ (tv38 a b):=Tk.minus (Tk.base (L:=(tL35 a b c)) ha) (Tk.base (L:=(tL35 a b c)) hb)
 have t_tv40:Tk (tL39 a b c) _ (tv40 a b c):=Tk.minus t_tv38 (Tk.base (L:=(tL37 a b c)) hc)
 have t_tv43:Tk (tL42 a b c) _ (tv43 a b c):=Tk.minus (Tk.base (L:=(tL41 a b c)) ha) ((((((((((((((t_tv17.up _).up _).up _).up _).up _).up _).up _).up _).up _).up _).up _).up _).up _).up _)
 have t_tv46:Tk (tL45 a b c) _ (tv46 a c):=Tk.minus (Tk.base (L:=(tL44 a b c)) ha) (Tk.base (L:=(tL44 a b c)) hc)
 have t_tv48:Tk (tL47 a b c) _ (tv48 a b c):=Tk.union (((((t_tv38.up _).up _).up _).up _).up _) t_tv46
 have t_tv51:Tk (tL50 a b c) _ (tv51 a b):=Tk.union ((((((((((((((((((((((((((t_tv3.up _).up _).up _).up _).up _).up _).up _).up _).up _).up _).up _).up _).up _).up _).up _).up _).up _).up _).up _).up _).up _).up _).up _).up _).up _).up _) (((((((t_tv38.up _).up _).up _).up _).up _).up _).up _)
 have t_tv54:Tk (zu a b c) _ (tv54 a b):=Tk.common (((((((((t_tv38.up _).up _).up _).up _).up _).up _).up _).up _).up _) (Tk.base (L:=(tL52 a b c)) hb)
 refine ⟨Tk.same ((t_tv1.up _).up _) t_tv5 (fun x=>by by_cases p:In a.l x <;> by_cases q:In b.l x <;> by_cases r:In c.l x <;> simp [p,q,r]),
  Tk.same ((t_tv3.up _).up _) t_tv7 (fun x=>by by_cases p:In a.l x <;> by_cases q:In b.l x <;> by_cases r:In c.l x <;> simp [p,q,r]),
  Tk.same ((t_tv9.up _).up _) t_tv13 (fun x=>by by_cases p:In a.l x <;> by_cases q:In b.l x <;> by_cases r:In c.l x <;> simp [p,q,r]),
  Tk.same ((t_tv15.up _).up _) t_tv19 (fun x=>by by_cases p:In a.l x <;> by_cases q:In b.l x <;> by_cases r:In c.l x <;> simp [p,q,r]),
  Tk.same ((t_tv22.up _).up _) t_tv26 (fun x=>by by_cases p:In a.l x <;> by_cases q:In b.l x <;> by_cases r:In c.l x <;> simp [p,q,r]),
  Tk.same ((t_tv29.up _).up _) t_tv33 (fun x=>by by_cases p:In a.l x <;> by_cases q:In b.l x <;> by_cases r:In c.l x <;> simp [p,q,r]),
  Tk.same ((t_tv36.up _).up _) t_tv40 (fun x=>by by_cases p:In a.l x <;> by_cases q:In b.l x <;> by_cases r:In c.l x <;> simp [p,q,r]),
  Tk.same (((t_tv43.up _).up _).up _) t_tv48 (fun x=>by by_cases p:In a.l x <;> by_cases q:In b.l x <;> by_cases r:In c.l x <;> simp [p,q,r]),
  Tk.same t_tv51 (Tk.base (L:=(tL50 a b c)) ha) (fun x=>by by_cases p:In a.l x <;> by_cases q:In b.l x <;> by_cases r:In c.l x <;> simp [p,q,r]),?_,((((((((((((((((((((((((((((((t_tv1.up _).up _).up _).up _).up _).up _).up _).up _).up _).up _).up _).up _).up _).up _).up _).up _).up _).up _).up _).up _).up _).up _).up _).up _).up _).up _).up _).up _).up _).up _),(((((((((((((((((((((((((((((t_tv3.up _).up _).up _).up _).up _).up _).up _).up _).up _).up _).up _).up _).up _).up _).up _).up _).up _).up _).up _).up _).up _).up _).up _).up _).up _).up _).up _).up _).up _)⟩
 exact holds_of (Tk.empty t_tv54 (fun x=>by by_cases p:In a.l x <;> by_cases q:In b.l x <;> by_cases r:In c.l x <;> simp [p,q,r]))
theorem alg_tL4 (a b c:GS Sn) (ha:Ok a.l) (hb:Ok b.l) (hc:Ok c.l):zH (tL4 a b) (zw (tv1 a b) (tv5 a b))=true:=(alg_all a b c ha hb hc).1
theorem alg_tL6 (a b c:GS Sn) (ha:Ok a.l) (hb:Ok b.l) (hc:Ok c.l):zH (tL6 a b) (zw (tv3 a b) (tv7 a b))=true:=(alg_all a b c ha hb hc).2.1
theorem alg_tL12 (a b c:GS Sn) (ha:Ok a.l) (hb:Ok b.l) (hc:Ok c.l):zH (tL12 a b c) (zw (tv9 a b c) (tv13 a b c))=true:=(alg_all a b c ha hb hc).2.2.1
theorem alg_tL18 (a b c:GS Sn) (ha:Ok a.l) (hb:Ok b.l) (hc:Ok c.l):zH (tL18 a b c) (zw (tv15 a b c) (tv19 a b c))=true:=(alg_all a b c ha hb hc).2.2.2.1
theorem alg_tL25 (a b c:GS Sn) (ha:Ok a.l) (hb:Ok b.l) (hc:Ok c.l):zH (tL25 a b c) (zw (tv22 a b c) (tv26 a b c))=true:=(alg_all a b c ha hb hc).2.2.2.2.1
theorem alg_tL32 (a b c:GS Sn) (ha:Ok a.l) (hb:Ok b.l) (hc:Ok c.l):zH (tL32 a b c) (zw (tv29 a b c) (tv33 a b c))=true:=(alg_all a b c ha hb hc).2.2.2.2.2.1
theorem alg_tL39 (a b c:GS Sn) (ha:Ok a.l) (hb:Ok b.l) (hc:Ok c.l):zH (tL39 a b c) (zw (tv36 a b c) (tv40 a b c))=true:=(alg_all a b c ha hb hc).2.2.2.2.2.2.1
theorem alg_tL47 (a b c:GS Sn) (ha:Ok a.l) (hb:Ok b.l) (hc:Ok c.l):zH (tL47 a b c) (zw (tv43 a b c) (tv48 a b c))=true:=(alg_all a b c ha hb hc).2.2.2.2.2.2.2.1
theorem alg_tL50 (a b c:GS Sn) (ha:Ok a.l) (hb:Ok b.l) (hc:Ok c.l):zH (tL50 a b c) (zw (tv51 a b) a)=true:=(alg_all a b c ha hb hc).2.2.2.2.2.2.2.2.1
theorem alg_e (a b c:GS Sn) (ha:Ok a.l) (hb:Ok b.l) (hc:Ok c.l):zH (zu a b c) ((((tv54 a b).l.length:Nat):Int) == 0)=true:=(alg_all a b c ha hb hc).2.2.2.2.2.2.2.2.2.1
theorem alg_u (a b c:GS Sn) (ha:Ok a.l) (hb:Ok b.l) (hc:Ok c.l):Tk (zu a b c) (fun x=>In a.l x ∨ In b.l x) (tv1 a b):=(alg_all a b c ha hb hc).2.2.2.2.2.2.2.2.2.2.1
theorem alg_v (a b c:GS Sn) (ha:Ok a.l) (hb:Ok b.l) (hc:Ok c.l):Tk (zu a b c) (fun x=>In a.l x∧In b.l x) (tv3 a b):=(alg_all a b c ha hb hc).2.2.2.2.2.2.2.2.2.2.2
theorem alg_s (a b c:GS Sn) (ha:Ok a.l) (hb:Ok b.l) (hc:Ok c.l):zH (zu a b c) ((w64 (((zD a).1)+((zD b).1))) == (w64 (((zD (tv1 a b)).1)+((zD (tv3 a b)).1))))=true:=by
 refine holds_of ?_
 rcases alg_u a b c ha hb hc with h | ⟨o1,r1⟩
 ·exact .inl h
 rcases alg_v a b c ha hb hc with h | ⟨o3,r3⟩
 ·exact .inl h
 right
 rw [size_ok ha,size_ok hb,size_ok o1,size_ok o3]
 dsimp only
 rw [sz_algebra ha.1 hb.1 r1 r3 ha.2.1 hb.2.1]
 exact beq_self_eq_true _
theorem algF (a b c:GS Sn) (ha:Ok a.l) (hb:Ok b.l) (hc:Ok c.l):(zu a b c)=true ∨ ((zd (tv3 a b) a).1=true∧(zd a (tv1 a b)).1=true∧((zd a b).1=zw (tv1 a b) b)∧((zd a b).1=zw (tv3 a b) a)∧((zd a b).1=true→(zd b c).1=true→(zd a c).1=true)):=by
 have u:=alg_u a b c ha hb hc
 have v:=alg_v a b c ha hb hc
 rcases Bool.eq_false_or_eq_true (zu a b c) with hL | hL
 ·exact .inl hL
 right
 have no:∀ {p:Prop},((zu a b c)=true ∨ p)→p:=fun h=>h.elim (fun h=>by rw [hL] at h; cases h) id
 have ba:Tk (zu a b c) (In a.l) a:=Tk.base ha
 have bb:Tk (zu a b c) (In b.l) b:=Tk.base hb
 have bc:Tk (zu a b c) (In c.l) c:=Tk.base hc
 have w1:=no (Tk.within v ba)
 have w2:=no (Tk.within ba u)
 have w3:=no (Tk.within ba bb)
 have w4:=no (Tk.within bb bc)
 have w5:=no (Tk.within ba bc)
 have s1:=no (Tk.same_iff u bb)
 have s2:=no (Tk.same_iff v ba)
 refine ⟨w1.2 fun x h=>h.1,w2.2 fun x h=>.inl h,Bool.eq_iff_iff.2 ?_,Bool.eq_iff_iff.2 ?_,fun h k=>?_⟩
 ·rw [w3,s1]
  exact ⟨fun h x=>⟨fun k=>k.elim (h x) id,.inr⟩,fun h x k=>(h x).1 (.inl k)⟩
 ·rw [w3,s2]
  exact ⟨fun h x=>⟨And.left,fun k=>⟨k,h x k⟩⟩,fun h x k=>((h x).2 k).2⟩
 ·rw [w3] at h
  rw [w4] at k
  exact w5.2 fun x z=>k x (h x z)
theorem alg_f1 (a b c:GS Sn) (ha:Ok a.l) (hb:Ok b.l) (hc:Ok c.l) (h:(zd (tv3 a b) a).1=false):zH (zu a b c) false=true:=holds_of ((algF a b c ha hb hc).imp id fun k=>h.symm.trans k.1)
theorem alg_f2 (a b c:GS Sn) (ha:Ok a.l) (hb:Ok b.l) (hc:Ok c.l) (h:(zd a (tv1 a b)).1=false):zH (zu a b c) false=true:=holds_of ((algF a b c ha hb hc).imp id fun k=>h.symm.trans k.2.1)
theorem alg_f4 (a b c:GS Sn) (ha:Ok a.l) (hb:Ok b.l) (hc:Ok c.l) {v:Bool} (h3:(zd a b).1=v) (h:(v == zw (tv1 a b) b)=false):zH (zu a b c) false=true:=holds_of ((algF a b c ha hb hc).imp id fun k=>by
 rw [← h3,k.2.2.1,beq_self_eq_true] at h; cases h)
theorem alg_f5 (a b c:GS Sn) (ha:Ok a.l) (hb:Ok b.l) (hc:Ok c.l) {v:Bool} (h3:(zd a b).1=v) (h:(v == zw (tv3 a b) a)=false):zH (zu a b c) false=true:=holds_of ((algF a b c ha hb hc).imp id fun k=>by
 rw [← h3,k.2.2.2.1,beq_self_eq_true] at h; cases h)
theorem alg_f6 (a b c:GS Sn) (ha:Ok a.l) (hb:Ok b.l) (hc:Ok c.l) (h3:(zd a b).1=true) (h4:(zd b c).1=true) (h5:(zd a c).1=false):zH (zu a b c) false=true:=holds_of ((algF a b c ha hb hc).imp id fun k=>h5.symm.trans (k.2.2.2.2 h3 h4))
end Go.VS

