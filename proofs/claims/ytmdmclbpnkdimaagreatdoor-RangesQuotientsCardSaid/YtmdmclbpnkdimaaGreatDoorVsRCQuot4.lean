/- Nothing of a statement is proved in this text alone: it is part 4 of the proof's own tools, an evaluator of the code over deep values, its soundness, and what it makes of this seat's functions. Conditions: none beyond the statement's own. -/
import Derived.Test.YtmdmclbpnkdimaaGreatDoorVsRCQuot3
set_option linter.unusedSimpArgs false
set_option linter.unusedVariables false
namespace Go.VS
open Go Go.Proofs
set_option maxHeartbeats 0
set_option linter.unusedSimpArgs false
set_option linter.unusedVariables false
def z6 (x:Sn) (y:Sn):(GS Sn) × Bool :=
 bif decide ((((zd (zl x.lo y.lo) (imin x.hi y.hi)).l.length:Nat):Int) > 0) then
  ((zd (zl x.lo y.lo) (imin x.hi y.hi)),true)
 else
  ((zd (zl x.lo y.lo) (imin x.hi y.hi)),false)

theorem T_ranges_Within_1 (x:Sn) (y:Sn):(lim cfg).pure 92 [Sn.D x,Sn.D y]=some (.tup [GS.D Sn.D 2 ((z6 x y).1),B ((z6 x y).2)]):=by
 unfold z6
 cases h1:decide ((((zd (zl x.lo y.lo) (imin x.hi y.hi)).l.length:Nat):Int) > 0) with
 | true =>
  have g1:=of_decide_eq_true h1
  exact zo [.pure (.sl ((zd (zl x.lo y.lo) (imin x.hi y.hi)).nl) (((zd (zl x.lo y.lo) (imin x.hi y.hi)).l).map Sn.D) (zsl ((zd (zl x.lo y.lo) (imin x.hi y.hi)).nl) 2) none),.rw 20 (I (((zd (zl x.lo y.lo) (imin x.hi y.hi)).l.length:Nat):Int)),.dec true] (Ai h1 (Ai (zW Sn.D (zd (zl x.lo y.lo) (imin x.hi y.hi))) (Ai (T_ranges_some (zl x.lo y.lo) (imin x.hi y.hi)) trivial))) (by kernel_rfl)
 | false =>
  have g1:=of_decide_eq_false h1
  exact zo [.pure (.sl ((zd (zl x.lo y.lo) (imin x.hi y.hi)).nl) (((zd (zl x.lo y.lo) (imin x.hi y.hi)).l).map Sn.D) (zsl ((zd (zl x.lo y.lo) (imin x.hi y.hi)).nl) 2) none),.rw 20 (I (((zd (zl x.lo y.lo) (imin x.hi y.hi)).l.length:Nat):Int)),.dec false] (Ai h1 (Ai (zW Sn.D (zd (zl x.lo y.lo) (imin x.hi y.hi))) (Ai (T_ranges_some (zl x.lo y.lo) (imin x.hi y.hi)) trivial))) (by kernel_rfl)

theorem within1_len (x y:Sn):((z6 x y).1).l.length≤1:=by
 unfold z6
 cases decide ((((zd (zl x.lo y.lo) (imin x.hi y.hi)).l.length:Nat):Int) > 0) <;> exact some1 _ _

def sd179 (a:GS Sn) (xi:Nat) (yF:GS Sn) (yJ:Sn) (xQ:Nat) (x8:Sn) (yX:List Sn):St:=⟨40,[(22,I ((xQ+1:Nat):Int)),(37,I ((xQ+1:Nat):Int)),(36,B false),(7,.lsl 1 0 yX.length 2 none),(35,.lsl 1 0 yX.length 2 none),(34,.sl (((z6 yJ x8).1).nl) ((((z6 yJ x8).1).l).map Sn.D) (zsl (((z6 yJ x8).1).nl) 2) none),(33,.lsl 1 0 yX.length 2 none),(13,B false),(12,.sl (((z6 yJ x8).1).nl) ((((z6 yJ x8).1).l).map Sn.D) (zsl (((z6 yJ x8).1).nl) 2) none),(32,B false),(31,.sl (((z6 yJ x8).1).nl) ((((z6 yJ x8).1).l).map Sn.D) (zsl (((z6 yJ x8).1).nl) 2) none),(26,.tup [.sl (((z6 yJ x8).1).nl) ((((z6 yJ x8).1).l).map Sn.D) (zsl (((z6 yJ x8).1).nl) 2) none,B ((z6 yJ x8).2)]),(30,.tup [.sl (((z6 yJ x8).1).nl) ((((z6 yJ x8).1).l).map Sn.D) (zsl (((z6 yJ x8).1).nl) 2) none,B ((z6 yJ x8).2)]),(29,.agg [I x8.lo,I x8.hi]),(28,.agg [I yJ.lo,I yJ.hi]),(27,.fn (.func 92) [] []),(11,.lref 3 0 2 0),(25,.agg [I x8.lo,I x8.hi]),(24,.ptr (.agg [I x8.lo,I x8.hi])),(23,B true),(1,.sl yF.nl (yF.l.map Sn.D) (zsl yF.nl 2) none),(2,.fn (.func 92) [] []),(7,.lsl 1 0 yX.length 2 none),(9,.lref 2 0 2 0),(14,.sl a.nl (a.l.map Sn.D) (zsl a.nl 2) none),(15,I ((a.l.length:Nat):Int)),(16,I ((xi:Nat):Int)),(20,.sl yF.nl (yF.l.map Sn.D) (zsl yF.nl 2) none),(21,I ((yF.l.length:Nat):Int)),(22,I ((xQ:Nat):Int))],[(1,⟨yX.map Sn.D,2,false⟩),(2,⟨[.agg [I yJ.lo,I yJ.hi]],2,false⟩),(3,⟨[.agg [I x8.lo,I x8.hi]],2,false⟩)],4,1⟩

def sd180 (a:GS Sn) (xi:Nat) (yF:GS Sn) (yJ:Sn) (xQ:Nat) (x8:Sn) (yX:List Sn):St:=⟨40,[(22,I ((xQ+1:Nat):Int)),(37,I ((xQ+1:Nat):Int)),(36,B false),(7,.lsl 4 0 ((yX++(((z6 yJ x8).1).l)).length) 2 none),(35,.lsl 4 0 ((yX++(((z6 yJ x8).1).l)).length) 2 none),(34,.sl (((z6 yJ x8).1).nl) ((((z6 yJ x8).1).l).map Sn.D) (zsl (((z6 yJ x8).1).nl) 2) none),(33,.lsl 1 0 yX.length 2 none),(13,B false),(12,.sl (((z6 yJ x8).1).nl) ((((z6 yJ x8).1).l).map Sn.D) (zsl (((z6 yJ x8).1).nl) 2) none),(32,B false),(31,.sl (((z6 yJ x8).1).nl) ((((z6 yJ x8).1).l).map Sn.D) (zsl (((z6 yJ x8).1).nl) 2) none),(26,.tup [.sl (((z6 yJ x8).1).nl) ((((z6 yJ x8).1).l).map Sn.D) (zsl (((z6 yJ x8).1).nl) 2) none,B ((z6 yJ x8).2)]),(30,.tup [.sl (((z6 yJ x8).1).nl) ((((z6 yJ x8).1).l).map Sn.D) (zsl (((z6 yJ x8).1).nl) 2) none,B ((z6 yJ x8).2)]),(29,.agg [I x8.lo,I x8.hi]),(28,.agg [I yJ.lo,I yJ.hi]),(27,.fn (.func 92) [] []),(11,.lref 3 0 2 0),(25,.agg [I x8.lo,I x8.hi]),(24,.ptr (.agg [I x8.lo,I x8.hi])),(23,B true),(1,.sl yF.nl (yF.l.map Sn.D) (zsl yF.nl 2) none),(2,.fn (.func 92) [] []),(7,.lsl 1 0 yX.length 2 none),(9,.lref 2 0 2 0),(14,.sl a.nl (a.l.map Sn.D) (zsl a.nl 2) none),(15,I ((a.l.length:Nat):Int)),(16,I ((xi:Nat):Int)),(20,.sl yF.nl (yF.l.map Sn.D) (zsl yF.nl 2) none),(21,I ((yF.l.length:Nat):Int)),(22,I ((xQ:Nat):Int))],[(2,⟨[.agg [I yJ.lo,I yJ.hi]],2,false⟩),(3,⟨[.agg [I x8.lo,I x8.hi]],2,false⟩),(4,⟨(yX++(((z6 yJ x8).1).l)).map Sn.D,2,false⟩)],5,1⟩

inductive LR_ranges_pairs_6p8 where
 | x0 (yX:List Sn)
 | x1 (xQ:Nat) (x8:Sn) (yX:List Sn)
 | x2 (xQ:Nat) (x8:Sn) (yX:List Sn)
instance:Inhabited LR_ranges_pairs_6p8:=⟨.x0 default⟩
def ranges_pairs_6p8 (yJ:Sn):List Sn→Nat→(List Sn)→LR_ranges_pairs_6p8
 | [],xQ,yX=>.x0 yX
 | x8::xU,xQ,yX =>
  bif ((z6 yJ x8).2) then
   bif (((z6 yJ x8).1).l).isEmpty then
    .x1 xQ x8 yX
   else
    .x2 xQ x8 yX
  else
   bif (((z6 yJ x8).1).l).isEmpty then
    ranges_pairs_6p8 yJ xU (xQ+1) yX
   else
    ranges_pairs_6p8 yJ xU (xQ+1) (yX++(((z6 yJ x8).1).l))
def lr_ranges_pairs_6p8 (a:GS Sn) (xi:Nat) (yF:GS Sn) (yJ:Sn):LR_ranges_pairs_6p8→Exit × St
 | .x0 yX=>((.exit 2),⟨40,[(23,B false),(1,.sl yF.nl (yF.l.map Sn.D) (zsl yF.nl 2) none),(2,.fn (.func 92) [] []),(7,.lsl 1 0 yX.length 2 none),(9,.lref 2 0 2 0),(14,.sl a.nl (a.l.map Sn.D) (zsl a.nl 2) none),(15,I ((a.l.length:Nat):Int)),(16,I ((xi:Nat):Int)),(20,.sl yF.nl (yF.l.map Sn.D) (zsl yF.nl 2) none),(21,I ((yF.l.length:Nat):Int)),(22,I ((yF.l.length:Nat):Int))],[(1,⟨yX.map Sn.D,2,false⟩),(2,⟨[.agg [I yJ.lo,I yJ.hi]],2,false⟩)],3,1⟩)
 | .x1 xQ x8 yX=>((.exit 0),⟨40,[(36,B true),(7,.lsl 1 0 yX.length 2 none),(35,.lsl 1 0 yX.length 2 none),(34,.sl (((z6 yJ x8).1).nl) ((((z6 yJ x8).1).l).map Sn.D) (zsl (((z6 yJ x8).1).nl) 2) none),(33,.lsl 1 0 yX.length 2 none),(13,B true),(12,.sl (((z6 yJ x8).1).nl) ((((z6 yJ x8).1).l).map Sn.D) (zsl (((z6 yJ x8).1).nl) 2) none),(32,B true),(31,.sl (((z6 yJ x8).1).nl) ((((z6 yJ x8).1).l).map Sn.D) (zsl (((z6 yJ x8).1).nl) 2) none),(26,.tup [.sl (((z6 yJ x8).1).nl) ((((z6 yJ x8).1).l).map Sn.D) (zsl (((z6 yJ x8).1).nl) 2) none,B ((z6 yJ x8).2)]),(30,.tup [.sl (((z6 yJ x8).1).nl) ((((z6 yJ x8).1).l).map Sn.D) (zsl (((z6 yJ x8).1).nl) 2) none,B ((z6 yJ x8).2)]),(29,.agg [I x8.lo,I x8.hi]),(28,.agg [I yJ.lo,I yJ.hi]),(27,.fn (.func 92) [] []),(11,.lref 3 0 2 0),(25,.agg [I x8.lo,I x8.hi]),(24,.ptr (.agg [I x8.lo,I x8.hi])),(23,B true),(1,.sl yF.nl (yF.l.map Sn.D) (zsl yF.nl 2) none),(2,.fn (.func 92) [] []),(7,.lsl 1 0 yX.length 2 none),(9,.lref 2 0 2 0),(14,.sl a.nl (a.l.map Sn.D) (zsl a.nl 2) none),(15,I ((a.l.length:Nat):Int)),(16,I ((xi:Nat):Int)),(20,.sl yF.nl (yF.l.map Sn.D) (zsl yF.nl 2) none),(21,I ((yF.l.length:Nat):Int)),(22,I ((xQ:Nat):Int))],[(1,⟨yX.map Sn.D,2,false⟩),(2,⟨[.agg [I yJ.lo,I yJ.hi]],2,false⟩),(3,⟨[.agg [I x8.lo,I x8.hi]],2,false⟩)],4,1⟩)
 | .x2 xQ x8 yX=>((.exit 0),⟨40,[(36,B true),(7,.lsl 4 0 ((yX++(((z6 yJ x8).1).l)).length) 2 none),(35,.lsl 4 0 ((yX++(((z6 yJ x8).1).l)).length) 2 none),(34,.sl (((z6 yJ x8).1).nl) ((((z6 yJ x8).1).l).map Sn.D) (zsl (((z6 yJ x8).1).nl) 2) none),(33,.lsl 1 0 yX.length 2 none),(13,B true),(12,.sl (((z6 yJ x8).1).nl) ((((z6 yJ x8).1).l).map Sn.D) (zsl (((z6 yJ x8).1).nl) 2) none),(32,B true),(31,.sl (((z6 yJ x8).1).nl) ((((z6 yJ x8).1).l).map Sn.D) (zsl (((z6 yJ x8).1).nl) 2) none),(26,.tup [.sl (((z6 yJ x8).1).nl) ((((z6 yJ x8).1).l).map Sn.D) (zsl (((z6 yJ x8).1).nl) 2) none,B ((z6 yJ x8).2)]),(30,.tup [.sl (((z6 yJ x8).1).nl) ((((z6 yJ x8).1).l).map Sn.D) (zsl (((z6 yJ x8).1).nl) 2) none,B ((z6 yJ x8).2)]),(29,.agg [I x8.lo,I x8.hi]),(28,.agg [I yJ.lo,I yJ.hi]),(27,.fn (.func 92) [] []),(11,.lref 3 0 2 0),(25,.agg [I x8.lo,I x8.hi]),(24,.ptr (.agg [I x8.lo,I x8.hi])),(23,B true),(1,.sl yF.nl (yF.l.map Sn.D) (zsl yF.nl 2) none),(2,.fn (.func 92) [] []),(7,.lsl 1 0 yX.length 2 none),(9,.lref 2 0 2 0),(14,.sl a.nl (a.l.map Sn.D) (zsl a.nl 2) none),(15,I ((a.l.length:Nat):Int)),(16,I ((xi:Nat):Int)),(20,.sl yF.nl (yF.l.map Sn.D) (zsl yF.nl 2) none),(21,I ((yF.l.length:Nat):Int)),(22,I ((xQ:Nat):Int))],[(2,⟨[.agg [I yJ.lo,I yJ.hi]],2,false⟩),(3,⟨[.agg [I x8.lo,I x8.hi]],2,false⟩),(4,⟨(yX++(((z6 yJ x8).1).l)).map Sn.D,2,false⟩)],5,1⟩)
def iv_ranges_pairs_6p8 (a:GS Sn) (xi:Nat) (yF:GS Sn) (yJ:Sn):LR_ranges_pairs_6p8→Prop
 | .x0 yX=>(yX.length≤65 * xi+yF.l.length)
 | .x1 xQ x8 yX=>(yX.length≤65 * xi+xQ)
 | .x2 xQ x8 yX=>(yX.length≤65 * xi+xQ)
def ranges_pairs_6p8_l_o1 (yJ:Sn) (x8:Sn):List Ora:=[.dec true,.el (.agg [I x8.lo,I x8.hi]),.pure (.tup [.sl (((z6 yJ x8).1).nl) ((((z6 yJ x8).1).l).map Sn.D) (zsl (((z6 yJ x8).1).nl) 2) none,B ((z6 yJ x8).2)])]
theorem lp_ranges_pairs_6p8 (a:GS Sn) (xi:Nat) (yF:GS Sn) (yJ:Sn):∀ (xU:List Sn) (xQ:Nat) (yX:List Sn) (w5:yF.l.drop xQ=xU) (hi6p8:xQ≤yF.l.length) (hb65:yF.l.length≤65) (ho64:xi < 64) (hg6p8_v6p8_0:yX.length≤65 * xi+xQ) (hL6p8:yF.l.length≤1099511627776),(lim cfg).loop 87 lp87_6 ⟨40,[(1,.sl yF.nl (yF.l.map Sn.D) (zsl yF.nl 2) none),(2,.fn (.func 92) [] []),(7,.lsl 1 0 yX.length 2 none),(9,.lref 2 0 2 0),(14,.sl a.nl (a.l.map Sn.D) (zsl a.nl 2) none),(15,I ((a.l.length:Nat):Int)),(16,I ((xi:Nat):Int)),(20,.sl yF.nl (yF.l.map Sn.D) (zsl yF.nl 2) none),(21,I ((yF.l.length:Nat):Int)),(22,I ((xQ:Nat):Int))],[(1,⟨yX.map Sn.D,2,false⟩),(2,⟨[.agg [I yJ.lo,I yJ.hi]],2,false⟩)],3,1⟩=some (lr_ranges_pairs_6p8 a xi yF yJ (ranges_pairs_6p8 yJ xU xQ yX)):=by
 intro xU
 induction xU with
 | nil =>
  intro xQ yX w5 hi6p8 hb65 ho64 hg6p8_v6p8_0 hL6p8
  unfold ranges_pairs_6p8
  obtain rfl:xQ=yF.l.length:=nil_eq w5 hi6p8
  exact zy [.dec false] (Ai (lt_no w5) trivial) (by kernel_rfl)
 | cons x8 xU ih =>
  intro xQ yX w5 hi6p8 hb65 ho64 hg6p8_v6p8_0 hL6p8
  have hlt6p8:=zg w5
  have hlx:=within1_len yJ x8
  unfold ranges_pairs_6p8
  have p1:=(el_at (s:=yF) (f:=Sn.D) (k:=2) w5)
  cases h25:((z6 yJ x8).2) with
  | true =>
   cases h26:(((z6 yJ x8).1).l).isEmpty with
   | true =>
    exact zy ((ranges_pairs_6p8_l_o1 yJ x8)++[.dec true,.op (some 35) ⟨.lsl 1 0 yX.length 2 none,[],[],4⟩]) (Ai (app_none (te:=zS) (gO:=zt [(1,⟨yX.map Sn.D,2,false⟩),(2,⟨[.agg [I yJ.lo,I yJ.hi]],2,false⟩),(3,⟨[.agg [I x8.lo,I x8.hi]],2,false⟩)]) (nxt:=4) (f:=Sn.D) (sz:=2) (d:=.lsl 1 0 yX.length 2 none) ((z6 yJ x8).1) h26 rfl) (Ai h25 (Ai (T_ranges_Within_1 yJ x8) (Ai p1 (Ai (yb w5) trivial))))) (by kernel_rfl)
   | false =>
    exact zy ((ranges_pairs_6p8_l_o1 yJ x8)++[.dec true,.op (some 35) ⟨.lsl 4 0 ((yX++(((z6 yJ x8).1).l)).length) 2 none,[(1,none),(4,some ⟨(yX++(((z6 yJ x8).1).l)).map Sn.D,2,false⟩)],[1],5⟩]) (Ai (app_moreD (te:=zS) (gO:=zt [(1,⟨yX.map Sn.D,2,false⟩),(2,⟨[.agg [I yJ.lo,I yJ.hi]],2,false⟩),(3,⟨[.agg [I x8.lo,I x8.hi]],2,false⟩)]) (nxt:=4) (o:=1) (v:=yX) z7 ((z6 yJ x8).1) h26 (by kernel_rfl) rfl (by kernel_rfl) (by decide) ⟨by simp only [zS,big] <;> (first | assumption | omega | (exact two_bd (by omega) (by omega)) | (exact add_some (by omega)) | (exact add_some' (by omega)) | (exact one_some (by omega)) | (exact one_some' (by omega)) | (exact outside_len _ (by omega)) | (simp only [zO] at * <;> omega) | (simp only [yw,GS.some_l,List.length_set,List.length_append,List.length_cons,List.length_nil] at * <;> first | with_reducible assumption | omega) | (simp only [yw,GS.some_l,List.length_set,List.length_append,List.length_cons,List.length_nil,zO] at * <;> first | with_reducible assumption | omega) | (simp at * <;> omega)),by simp only [big] <;> (first | assumption | omega | (exact two_bd (by omega) (by omega)) | (exact add_some (by omega)) | (exact add_some' (by omega)) | (exact one_some (by omega)) | (exact one_some' (by omega)) | (exact outside_len _ (by omega)) | (simp only [zO] at * <;> omega) | (simp only [yw,GS.some_l,List.length_set,List.length_append,List.length_cons,List.length_nil] at * <;> first | with_reducible assumption | omega) | (simp only [yw,GS.some_l,List.length_set,List.length_append,List.length_cons,List.length_nil,zO] at * <;> first | with_reducible assumption | omega) | (simp at * <;> omega))⟩) (Ai h25 (Ai (T_ranges_Within_1 yJ x8) (Ai p1 (Ai (yb w5) trivial))))) (by kernel_rfl)
  | false =>
   cases h27:(((z6 yJ x8).1).l).isEmpty with
   | true =>
    exact zN (ks:=[1,2,7,9,14,15,16,20,21,22]) (st':=(sd179 a xi yF yJ xQ x8 yX)) ((ranges_pairs_6p8_l_o1 yJ x8)++[.dec false,.op (some 35) ⟨.lsl 1 0 yX.length 2 none,[],[],4⟩,.rw 37 (I ((xQ+1:Nat):Int))]) (Ai (ya (i:=xQ) (by have:=zg w5; omega)) (Ai (app_none (te:=zS) (gO:=zt [(1,⟨yX.map Sn.D,2,false⟩),(2,⟨[.agg [I yJ.lo,I yJ.hi]],2,false⟩),(3,⟨[.agg [I x8.lo,I x8.hi]],2,false⟩)]) (nxt:=4) (f:=Sn.D) (sz:=2) (d:=.lsl 1 0 yX.length 2 none) ((z6 yJ x8).1) h27 rfl) (Ai h25 (Ai (T_ranges_Within_1 yJ x8) (Ai p1 (Ai (yb w5) trivial)))))) (by kernel_rfl) (by (simp only [sd179,go_sem,List.length_set,Nat.reduceAdd,Nat.reduceEqDiff,Nat.reduceLT,Nat.reduceLeDiff,bI2,zc.idsL,zc.renL,zc.snapAll,z7.idsL,z7.renL,z7.snapAll]) <;> rfl) (ih (xQ+1) yX (zh w5) (zg w5) (by omega) (by omega) (by omega) (by omega)) (by kernel_rfl)
   | false =>
    exact zN (ks:=[1,2,7,9,14,15,16,20,21,22]) (st':=(sd180 a xi yF yJ xQ x8 yX)) ((ranges_pairs_6p8_l_o1 yJ x8)++[.dec false,.op (some 35) ⟨.lsl 4 0 ((yX++(((z6 yJ x8).1).l)).length) 2 none,[(1,none),(4,some ⟨(yX++(((z6 yJ x8).1).l)).map Sn.D,2,false⟩)],[1],5⟩,.rw 37 (I ((xQ+1:Nat):Int))]) (Ai (ya (i:=xQ) (by have:=zg w5; omega)) (Ai (app_moreD (te:=zS) (gO:=zt [(1,⟨yX.map Sn.D,2,false⟩),(2,⟨[.agg [I yJ.lo,I yJ.hi]],2,false⟩),(3,⟨[.agg [I x8.lo,I x8.hi]],2,false⟩)]) (nxt:=4) (o:=1) (v:=yX) z7 ((z6 yJ x8).1) h27 (by kernel_rfl) rfl (by kernel_rfl) (by decide) ⟨by simp only [zS,big] <;> (first | assumption | omega | (exact two_bd (by omega) (by omega)) | (exact add_some (by omega)) | (exact add_some' (by omega)) | (exact one_some (by omega)) | (exact one_some' (by omega)) | (exact outside_len _ (by omega)) | (simp only [zO] at * <;> omega) | (simp only [yw,GS.some_l,List.length_set,List.length_append,List.length_cons,List.length_nil] at * <;> first | with_reducible assumption | omega) | (simp only [yw,GS.some_l,List.length_set,List.length_append,List.length_cons,List.length_nil,zO] at * <;> first | with_reducible assumption | omega) | (simp at * <;> omega)),by simp only [big] <;> (first | assumption | omega | (exact two_bd (by omega) (by omega)) | (exact add_some (by omega)) | (exact add_some' (by omega)) | (exact one_some (by omega)) | (exact one_some' (by omega)) | (exact outside_len _ (by omega)) | (simp only [zO] at * <;> omega) | (simp only [yw,GS.some_l,List.length_set,List.length_append,List.length_cons,List.length_nil] at * <;> first | with_reducible assumption | omega) | (simp only [yw,GS.some_l,List.length_set,List.length_append,List.length_cons,List.length_nil,zO] at * <;> first | with_reducible assumption | omega) | (simp at * <;> omega))⟩) (Ai h25 (Ai (T_ranges_Within_1 yJ x8) (Ai p1 (Ai (yb w5) trivial)))))) (by kernel_rfl) (by (simp only [sd180,go_sem,List.length_set,Nat.reduceAdd,Nat.reduceEqDiff,Nat.reduceLT,Nat.reduceLeDiff,bI2,zc.idsL,zc.renL,zc.snapAll,z7.idsL,z7.renL,z7.snapAll]) <;> rfl) (ih (xQ+1) (yX++(((z6 yJ x8).1).l)) (zh w5) (zg w5) (by omega) (by omega) (by simp only [List.length_append,List.length_cons,List.length_nil] at * <;> omega) (by omega)) (by kernel_rfl)
theorem ivt_ranges_pairs_6p8 (a:GS Sn) (xi:Nat) (yF:GS Sn) (yJ:Sn):∀ (xU:List Sn) (xQ:Nat) (yX:List Sn) (w5:yF.l.drop xQ=xU) (hi6p8:xQ≤yF.l.length) (hb65:yF.l.length≤65) (ho64:xi < 64) (hg6p8_v6p8_0:yX.length≤65 * xi+xQ) (hL6p8:yF.l.length≤1099511627776),iv_ranges_pairs_6p8 a xi yF yJ (ranges_pairs_6p8 yJ xU xQ yX):=by
 intro xU
 induction xU with
 | nil =>
  intro xQ yX w5 hi6p8 hb65 ho64 hg6p8_v6p8_0 hL6p8
  unfold ranges_pairs_6p8
  obtain rfl:xQ=yF.l.length:=nil_eq w5 hi6p8
  exact hg6p8_v6p8_0
 | cons x8 xU ih =>
  intro xQ yX w5 hi6p8 hb65 ho64 hg6p8_v6p8_0 hL6p8
  have hlt6p8:=zg w5
  have hlx:=within1_len yJ x8
  unfold ranges_pairs_6p8
  cases h25:((z6 yJ x8).2) with
  | true =>
   cases h26:(((z6 yJ x8).1).l).isEmpty with
   | true =>
    exact hg6p8_v6p8_0
   | false =>
    exact hg6p8_v6p8_0
  | false =>
   cases h27:(((z6 yJ x8).1).l).isEmpty with
   | true =>
    exact ih (xQ+1) yX (zh w5) (zg w5) (by omega) (by omega) (by omega) (by omega)
   | false =>
    exact ih (xQ+1) (yX++(((z6 yJ x8).1).l)) (zh w5) (zg w5) (by omega) (by omega) (by simp only [List.length_append,List.length_cons,List.length_nil] at * <;> omega) (by omega)

def sd184 (a:GS Sn) (xi:Nat) (yF:GS Sn) (yJ:Sn) (xx:Nat) (yQ:Sn) (yR:List Sn):St:=⟨40,[(22,I ((xx+1:Nat):Int)),(37,I ((xx+1:Nat):Int)),(36,B false),(7,.lsl 1 0 yR.length 2 none),(35,.lsl 1 0 yR.length 2 none),(34,.sl (((z6 yJ yQ).1).nl) ((((z6 yJ yQ).1).l).map Sn.D) (zsl (((z6 yJ yQ).1).nl) 2) none),(33,.lsl 1 0 yR.length 2 none),(13,B false),(12,.sl (((z6 yJ yQ).1).nl) ((((z6 yJ yQ).1).l).map Sn.D) (zsl (((z6 yJ yQ).1).nl) 2) none),(32,B false),(31,.sl (((z6 yJ yQ).1).nl) ((((z6 yJ yQ).1).l).map Sn.D) (zsl (((z6 yJ yQ).1).nl) 2) none),(26,.tup [.sl (((z6 yJ yQ).1).nl) ((((z6 yJ yQ).1).l).map Sn.D) (zsl (((z6 yJ yQ).1).nl) 2) none,B ((z6 yJ yQ).2)]),(30,.tup [.sl (((z6 yJ yQ).1).nl) ((((z6 yJ yQ).1).l).map Sn.D) (zsl (((z6 yJ yQ).1).nl) 2) none,B ((z6 yJ yQ).2)]),(29,.agg [I yQ.lo,I yQ.hi]),(28,.agg [I yJ.lo,I yJ.hi]),(27,.fn (.func 92) [] []),(11,.lref 3 0 2 0),(25,.agg [I yQ.lo,I yQ.hi]),(24,.ptr (.agg [I yQ.lo,I yQ.hi])),(23,B true),(1,.sl yF.nl (yF.l.map Sn.D) (zsl yF.nl 2) none),(2,.fn (.func 92) [] []),(7,.lsl 1 0 yR.length 2 none),(9,.lref 2 0 2 0),(14,.sl a.nl (a.l.map Sn.D) (zsl a.nl 2) none),(15,I ((a.l.length:Nat):Int)),(16,I ((xi:Nat):Int)),(20,.sl yF.nl (yF.l.map Sn.D) (zsl yF.nl 2) none),(21,I ((yF.l.length:Nat):Int)),(22,I ((xx:Nat):Int))],[(1,⟨yR.map Sn.D,2,false⟩),(2,⟨[.agg [I yJ.lo,I yJ.hi]],2,false⟩),(3,⟨[.agg [I yQ.lo,I yQ.hi]],2,false⟩)],4,1⟩

def sd185 (a:GS Sn) (xi:Nat) (yF:GS Sn) (yJ:Sn) (xx:Nat) (yQ:Sn) (yR:List Sn):St:=⟨40,[(22,I ((xx+1:Nat):Int)),(37,I ((xx+1:Nat):Int)),(36,B false),(7,.lsl 4 0 ((yR++(((z6 yJ yQ).1).l)).length) 2 none),(35,.lsl 4 0 ((yR++(((z6 yJ yQ).1).l)).length) 2 none),(34,.sl (((z6 yJ yQ).1).nl) ((((z6 yJ yQ).1).l).map Sn.D) (zsl (((z6 yJ yQ).1).nl) 2) none),(33,.lsl 1 0 yR.length 2 none),(13,B false),(12,.sl (((z6 yJ yQ).1).nl) ((((z6 yJ yQ).1).l).map Sn.D) (zsl (((z6 yJ yQ).1).nl) 2) none),(32,B false),(31,.sl (((z6 yJ yQ).1).nl) ((((z6 yJ yQ).1).l).map Sn.D) (zsl (((z6 yJ yQ).1).nl) 2) none),(26,.tup [.sl (((z6 yJ yQ).1).nl) ((((z6 yJ yQ).1).l).map Sn.D) (zsl (((z6 yJ yQ).1).nl) 2) none,B ((z6 yJ yQ).2)]),(30,.tup [.sl (((z6 yJ yQ).1).nl) ((((z6 yJ yQ).1).l).map Sn.D) (zsl (((z6 yJ yQ).1).nl) 2) none,B ((z6 yJ yQ).2)]),(29,.agg [I yQ.lo,I yQ.hi]),(28,.agg [I yJ.lo,I yJ.hi]),(27,.fn (.func 92) [] []),(11,.lref 3 0 2 0),(25,.agg [I yQ.lo,I yQ.hi]),(24,.ptr (.agg [I yQ.lo,I yQ.hi])),(23,B true),(1,.sl yF.nl (yF.l.map Sn.D) (zsl yF.nl 2) none),(2,.fn (.func 92) [] []),(7,.lsl 1 0 yR.length 2 none),(9,.lref 2 0 2 0),(14,.sl a.nl (a.l.map Sn.D) (zsl a.nl 2) none),(15,I ((a.l.length:Nat):Int)),(16,I ((xi:Nat):Int)),(20,.sl yF.nl (yF.l.map Sn.D) (zsl yF.nl 2) none),(21,I ((yF.l.length:Nat):Int)),(22,I ((xx:Nat):Int))],[(2,⟨[.agg [I yJ.lo,I yJ.hi]],2,false⟩),(3,⟨[.agg [I yQ.lo,I yQ.hi]],2,false⟩),(4,⟨(yR++(((z6 yJ yQ).1).l)).map Sn.D,2,false⟩)],5,1⟩

def sd186 (a:GS Sn) (xi:Nat) (yF:GS Sn) (yJ:Sn) (xx:Nat) (yQ:Sn):St:=⟨40,[(22,I ((xx+1:Nat):Int)),(37,I ((xx+1:Nat):Int)),(36,B false),(7,.lsl 3 0 ((((z6 yJ yQ).1).l).length) 2 none),(35,.lsl 3 0 ((((z6 yJ yQ).1).l).length) 2 none),(34,.sl (((z6 yJ yQ).1).nl) ((((z6 yJ yQ).1).l).map Sn.D) (zsl (((z6 yJ yQ).1).nl) 2) none),(33,.sl true [] 0 none),(13,B false),(12,.sl (((z6 yJ yQ).1).nl) ((((z6 yJ yQ).1).l).map Sn.D) (zsl (((z6 yJ yQ).1).nl) 2) none),(32,B false),(31,.sl (((z6 yJ yQ).1).nl) ((((z6 yJ yQ).1).l).map Sn.D) (zsl (((z6 yJ yQ).1).nl) 2) none),(26,.tup [.sl (((z6 yJ yQ).1).nl) ((((z6 yJ yQ).1).l).map Sn.D) (zsl (((z6 yJ yQ).1).nl) 2) none,B ((z6 yJ yQ).2)]),(30,.tup [.sl (((z6 yJ yQ).1).nl) ((((z6 yJ yQ).1).l).map Sn.D) (zsl (((z6 yJ yQ).1).nl) 2) none,B ((z6 yJ yQ).2)]),(29,.agg [I yQ.lo,I yQ.hi]),(28,.agg [I yJ.lo,I yJ.hi]),(27,.fn (.func 92) [] []),(11,.lref 2 0 2 0),(25,.agg [I yQ.lo,I yQ.hi]),(24,.ptr (.agg [I yQ.lo,I yQ.hi])),(23,B true),(1,.sl yF.nl (yF.l.map Sn.D) (zsl yF.nl 2) none),(2,.fn (.func 92) [] []),(7,.sl true [] 0 none),(9,.lref 1 0 2 0),(14,.sl a.nl (a.l.map Sn.D) (zsl a.nl 2) none),(15,I ((a.l.length:Nat):Int)),(16,I ((xi:Nat):Int)),(20,.sl yF.nl (yF.l.map Sn.D) (zsl yF.nl 2) none),(21,I ((yF.l.length:Nat):Int)),(22,I ((xx:Nat):Int))],[(1,⟨[.agg [I yJ.lo,I yJ.hi]],2,false⟩),(2,⟨[.agg [I yQ.lo,I yQ.hi]],2,false⟩),(3,⟨(((z6 yJ yQ).1).l).map Sn.D,2,false⟩)],4,1⟩

inductive LR_ranges_pairs_6p9 where
 | x0 (yR:List Sn)
 | x1 (xx:Nat) (yQ:Sn) (yR:List Sn)
 | x2 (xx:Nat) (yQ:Sn) (yR:List Sn)
 | x3
 | x4 (xx:Nat) (yQ:Sn)
 | x5 (xx:Nat) (yQ:Sn)
instance:Inhabited LR_ranges_pairs_6p9:=⟨.x0 default⟩
def ranges_pairs_6p9a (yJ:Sn):List Sn→Nat→(List Sn)→LR_ranges_pairs_6p9
 | [],xx,yR=>.x0 yR
 | yQ::xE,xx,yR =>
  bif ((z6 yJ yQ).2) then
   bif (((z6 yJ yQ).1).l).isEmpty then
    .x1 xx yQ yR
   else
    .x2 xx yQ yR
  else
   bif (((z6 yJ yQ).1).l).isEmpty then
    ranges_pairs_6p9a yJ xE (xx+1) yR
   else
    ranges_pairs_6p9a yJ xE (xx+1) (yR++(((z6 yJ yQ).1).l))
def ranges_pairs_6p9 (yJ:Sn):List Sn→Nat→LR_ranges_pairs_6p9
 | [],xx=>.x3
 | yQ::xE,xx =>
  bif ((z6 yJ yQ).2) then
   bif (((z6 yJ yQ).1).l).isEmpty then
    .x4 xx yQ
   else
    .x5 xx yQ
  else
   bif (((z6 yJ yQ).1).l).isEmpty then
    ranges_pairs_6p9 yJ xE (xx+1)
   else
    ranges_pairs_6p9a yJ xE (xx+1) (((z6 yJ yQ).1).l)
def lr_ranges_pairs_6p9 (a:GS Sn) (xi:Nat) (yF:GS Sn) (yJ:Sn):LR_ranges_pairs_6p9→Exit × St
 | .x0 yR=>((.exit 2),⟨40,[(23,B false),(1,.sl yF.nl (yF.l.map Sn.D) (zsl yF.nl 2) none),(2,.fn (.func 92) [] []),(7,.lsl 1 0 yR.length 2 none),(9,.lref 2 0 2 0),(14,.sl a.nl (a.l.map Sn.D) (zsl a.nl 2) none),(15,I ((a.l.length:Nat):Int)),(16,I ((xi:Nat):Int)),(20,.sl yF.nl (yF.l.map Sn.D) (zsl yF.nl 2) none),(21,I ((yF.l.length:Nat):Int)),(22,I ((yF.l.length:Nat):Int))],[(1,⟨yR.map Sn.D,2,false⟩),(2,⟨[.agg [I yJ.lo,I yJ.hi]],2,false⟩)],3,1⟩)
 | .x1 xx yQ yR=>((.exit 0),⟨40,[(36,B true),(7,.lsl 1 0 yR.length 2 none),(35,.lsl 1 0 yR.length 2 none),(34,.sl (((z6 yJ yQ).1).nl) ((((z6 yJ yQ).1).l).map Sn.D) (zsl (((z6 yJ yQ).1).nl) 2) none),(33,.lsl 1 0 yR.length 2 none),(13,B true),(12,.sl (((z6 yJ yQ).1).nl) ((((z6 yJ yQ).1).l).map Sn.D) (zsl (((z6 yJ yQ).1).nl) 2) none),(32,B true),(31,.sl (((z6 yJ yQ).1).nl) ((((z6 yJ yQ).1).l).map Sn.D) (zsl (((z6 yJ yQ).1).nl) 2) none),(26,.tup [.sl (((z6 yJ yQ).1).nl) ((((z6 yJ yQ).1).l).map Sn.D) (zsl (((z6 yJ yQ).1).nl) 2) none,B ((z6 yJ yQ).2)]),(30,.tup [.sl (((z6 yJ yQ).1).nl) ((((z6 yJ yQ).1).l).map Sn.D) (zsl (((z6 yJ yQ).1).nl) 2) none,B ((z6 yJ yQ).2)]),(29,.agg [I yQ.lo,I yQ.hi]),(28,.agg [I yJ.lo,I yJ.hi]),(27,.fn (.func 92) [] []),(11,.lref 3 0 2 0),(25,.agg [I yQ.lo,I yQ.hi]),(24,.ptr (.agg [I yQ.lo,I yQ.hi])),(23,B true),(1,.sl yF.nl (yF.l.map Sn.D) (zsl yF.nl 2) none),(2,.fn (.func 92) [] []),(7,.lsl 1 0 yR.length 2 none),(9,.lref 2 0 2 0),(14,.sl a.nl (a.l.map Sn.D) (zsl a.nl 2) none),(15,I ((a.l.length:Nat):Int)),(16,I ((xi:Nat):Int)),(20,.sl yF.nl (yF.l.map Sn.D) (zsl yF.nl 2) none),(21,I ((yF.l.length:Nat):Int)),(22,I ((xx:Nat):Int))],[(1,⟨yR.map Sn.D,2,false⟩),(2,⟨[.agg [I yJ.lo,I yJ.hi]],2,false⟩),(3,⟨[.agg [I yQ.lo,I yQ.hi]],2,false⟩)],4,1⟩)
 | .x2 xx yQ yR=>((.exit 0),⟨40,[(36,B true),(7,.lsl 4 0 ((yR++(((z6 yJ yQ).1).l)).length) 2 none),(35,.lsl 4 0 ((yR++(((z6 yJ yQ).1).l)).length) 2 none),(34,.sl (((z6 yJ yQ).1).nl) ((((z6 yJ yQ).1).l).map Sn.D) (zsl (((z6 yJ yQ).1).nl) 2) none),(33,.lsl 1 0 yR.length 2 none),(13,B true),(12,.sl (((z6 yJ yQ).1).nl) ((((z6 yJ yQ).1).l).map Sn.D) (zsl (((z6 yJ yQ).1).nl) 2) none),(32,B true),(31,.sl (((z6 yJ yQ).1).nl) ((((z6 yJ yQ).1).l).map Sn.D) (zsl (((z6 yJ yQ).1).nl) 2) none),(26,.tup [.sl (((z6 yJ yQ).1).nl) ((((z6 yJ yQ).1).l).map Sn.D) (zsl (((z6 yJ yQ).1).nl) 2) none,B ((z6 yJ yQ).2)]),(30,.tup [.sl (((z6 yJ yQ).1).nl) ((((z6 yJ yQ).1).l).map Sn.D) (zsl (((z6 yJ yQ).1).nl) 2) none,B ((z6 yJ yQ).2)]),(29,.agg [I yQ.lo,I yQ.hi]),(28,.agg [I yJ.lo,I yJ.hi]),(27,.fn (.func 92) [] []),(11,.lref 3 0 2 0),(25,.agg [I yQ.lo,I yQ.hi]),(24,.ptr (.agg [I yQ.lo,I yQ.hi])),(23,B true),(1,.sl yF.nl (yF.l.map Sn.D) (zsl yF.nl 2) none),(2,.fn (.func 92) [] []),(7,.lsl 1 0 yR.length 2 none),(9,.lref 2 0 2 0),(14,.sl a.nl (a.l.map Sn.D) (zsl a.nl 2) none),(15,I ((a.l.length:Nat):Int)),(16,I ((xi:Nat):Int)),(20,.sl yF.nl (yF.l.map Sn.D) (zsl yF.nl 2) none),(21,I ((yF.l.length:Nat):Int)),(22,I ((xx:Nat):Int))],[(2,⟨[.agg [I yJ.lo,I yJ.hi]],2,false⟩),(3,⟨[.agg [I yQ.lo,I yQ.hi]],2,false⟩),(4,⟨(yR++(((z6 yJ yQ).1).l)).map Sn.D,2,false⟩)],5,1⟩)
 | .x3=>((.exit 2),⟨40,[(23,B false),(1,.sl yF.nl (yF.l.map Sn.D) (zsl yF.nl 2) none),(2,.fn (.func 92) [] []),(7,.sl true [] 0 none),(9,.lref 1 0 2 0),(14,.sl a.nl (a.l.map Sn.D) (zsl a.nl 2) none),(15,I ((a.l.length:Nat):Int)),(16,I ((xi:Nat):Int)),(20,.sl yF.nl (yF.l.map Sn.D) (zsl yF.nl 2) none),(21,I ((yF.l.length:Nat):Int)),(22,I ((yF.l.length:Nat):Int))],[(1,⟨[.agg [I yJ.lo,I yJ.hi]],2,false⟩)],2,1⟩)
 | .x4 xx yQ=>((.exit 0),⟨40,[(36,B true),(7,.sl true [] 0 none),(35,.sl true [] 0 none),(34,.sl (((z6 yJ yQ).1).nl) ((((z6 yJ yQ).1).l).map Sn.D) (zsl (((z6 yJ yQ).1).nl) 2) none),(33,.sl true [] 0 none),(13,B true),(12,.sl (((z6 yJ yQ).1).nl) ((((z6 yJ yQ).1).l).map Sn.D) (zsl (((z6 yJ yQ).1).nl) 2) none),(32,B true),(31,.sl (((z6 yJ yQ).1).nl) ((((z6 yJ yQ).1).l).map Sn.D) (zsl (((z6 yJ yQ).1).nl) 2) none),(26,.tup [.sl (((z6 yJ yQ).1).nl) ((((z6 yJ yQ).1).l).map Sn.D) (zsl (((z6 yJ yQ).1).nl) 2) none,B ((z6 yJ yQ).2)]),(30,.tup [.sl (((z6 yJ yQ).1).nl) ((((z6 yJ yQ).1).l).map Sn.D) (zsl (((z6 yJ yQ).1).nl) 2) none,B ((z6 yJ yQ).2)]),(29,.agg [I yQ.lo,I yQ.hi]),(28,.agg [I yJ.lo,I yJ.hi]),(27,.fn (.func 92) [] []),(11,.lref 2 0 2 0),(25,.agg [I yQ.lo,I yQ.hi]),(24,.ptr (.agg [I yQ.lo,I yQ.hi])),(23,B true),(1,.sl yF.nl (yF.l.map Sn.D) (zsl yF.nl 2) none),(2,.fn (.func 92) [] []),(7,.sl true [] 0 none),(9,.lref 1 0 2 0),(14,.sl a.nl (a.l.map Sn.D) (zsl a.nl 2) none),(15,I ((a.l.length:Nat):Int)),(16,I ((xi:Nat):Int)),(20,.sl yF.nl (yF.l.map Sn.D) (zsl yF.nl 2) none),(21,I ((yF.l.length:Nat):Int)),(22,I ((xx:Nat):Int))],[(1,⟨[.agg [I yJ.lo,I yJ.hi]],2,false⟩),(2,⟨[.agg [I yQ.lo,I yQ.hi]],2,false⟩)],3,1⟩)
 | .x5 xx yQ=>((.exit 0),⟨40,[(36,B true),(7,.lsl 3 0 ((((z6 yJ yQ).1).l).length) 2 none),(35,.lsl 3 0 ((((z6 yJ yQ).1).l).length) 2 none),(34,.sl (((z6 yJ yQ).1).nl) ((((z6 yJ yQ).1).l).map Sn.D) (zsl (((z6 yJ yQ).1).nl) 2) none),(33,.sl true [] 0 none),(13,B true),(12,.sl (((z6 yJ yQ).1).nl) ((((z6 yJ yQ).1).l).map Sn.D) (zsl (((z6 yJ yQ).1).nl) 2) none),(32,B true),(31,.sl (((z6 yJ yQ).1).nl) ((((z6 yJ yQ).1).l).map Sn.D) (zsl (((z6 yJ yQ).1).nl) 2) none),(26,.tup [.sl (((z6 yJ yQ).1).nl) ((((z6 yJ yQ).1).l).map Sn.D) (zsl (((z6 yJ yQ).1).nl) 2) none,B ((z6 yJ yQ).2)]),(30,.tup [.sl (((z6 yJ yQ).1).nl) ((((z6 yJ yQ).1).l).map Sn.D) (zsl (((z6 yJ yQ).1).nl) 2) none,B ((z6 yJ yQ).2)]),(29,.agg [I yQ.lo,I yQ.hi]),(28,.agg [I yJ.lo,I yJ.hi]),(27,.fn (.func 92) [] []),(11,.lref 2 0 2 0),(25,.agg [I yQ.lo,I yQ.hi]),(24,.ptr (.agg [I yQ.lo,I yQ.hi])),(23,B true),(1,.sl yF.nl (yF.l.map Sn.D) (zsl yF.nl 2) none),(2,.fn (.func 92) [] []),(7,.sl true [] 0 none),(9,.lref 1 0 2 0),(14,.sl a.nl (a.l.map Sn.D) (zsl a.nl 2) none),(15,I ((a.l.length:Nat):Int)),(16,I ((xi:Nat):Int)),(20,.sl yF.nl (yF.l.map Sn.D) (zsl yF.nl 2) none),(21,I ((yF.l.length:Nat):Int)),(22,I ((xx:Nat):Int))],[(1,⟨[.agg [I yJ.lo,I yJ.hi]],2,false⟩),(2,⟨[.agg [I yQ.lo,I yQ.hi]],2,false⟩),(3,⟨(((z6 yJ yQ).1).l).map Sn.D,2,false⟩)],4,1⟩)
def iv_ranges_pairs_6p9 (a:GS Sn) (xi:Nat) (yF:GS Sn) (yJ:Sn):LR_ranges_pairs_6p9→Prop
 | .x0 yR=>(yR.length≤65 * xi+yF.l.length)
 | .x1 xx yQ yR=>(yR.length≤65 * xi+xx)
 | .x2 xx yQ yR=>(yR.length≤65 * xi+xx)
 | .x3=>True
 | .x4 xx yQ=>True
 | .x5 xx yQ=>True
def ranges_pairs_6p9a_l_o1 (yJ:Sn) (yQ:Sn):List Ora:=[.dec true,.el (.agg [I yQ.lo,I yQ.hi]),.pure (.tup [.sl (((z6 yJ yQ).1).nl) ((((z6 yJ yQ).1).l).map Sn.D) (zsl (((z6 yJ yQ).1).nl) 2) none,B ((z6 yJ yQ).2)])]
theorem lp_ranges_pairs_6p9a (a:GS Sn) (xi:Nat) (yF:GS Sn) (yJ:Sn):∀ (xE:List Sn) (xx:Nat) (yR:List Sn) (xJ:yF.l.drop xx=xE) (hi6p9:xx≤yF.l.length) (hb65:yF.l.length≤65) (ho64:xi < 64) (hg6p9_va6p9_0:yR.length≤65 * xi+xx) (hL6p9:yF.l.length≤1099511627776),(lim cfg).loop 87 lp87_6 ⟨40,[(1,.sl yF.nl (yF.l.map Sn.D) (zsl yF.nl 2) none),(2,.fn (.func 92) [] []),(7,.lsl 1 0 yR.length 2 none),(9,.lref 2 0 2 0),(14,.sl a.nl (a.l.map Sn.D) (zsl a.nl 2) none),(15,I ((a.l.length:Nat):Int)),(16,I ((xi:Nat):Int)),(20,.sl yF.nl (yF.l.map Sn.D) (zsl yF.nl 2) none),(21,I ((yF.l.length:Nat):Int)),(22,I ((xx:Nat):Int))],[(1,⟨yR.map Sn.D,2,false⟩),(2,⟨[.agg [I yJ.lo,I yJ.hi]],2,false⟩)],3,1⟩=some (lr_ranges_pairs_6p9 a xi yF yJ (ranges_pairs_6p9a yJ xE xx yR)):=by
 intro xE
 induction xE with
 | nil =>
  intro xx yR xJ hi6p9 hb65 ho64 hg6p9_va6p9_0 hL6p9
  unfold ranges_pairs_6p9a
  obtain rfl:xx=yF.l.length:=nil_eq xJ hi6p9
  exact zy [.dec false] (Ai (lt_no xJ) trivial) (by kernel_rfl)
 | cons yQ xE ih =>
  intro xx yR xJ hi6p9 hb65 ho64 hg6p9_va6p9_0 hL6p9
  have hlt6p9:=zg xJ
  have hlx:=within1_len yJ yQ
  unfold ranges_pairs_6p9a
  have p1:=(el_at (s:=yF) (f:=Sn.D) (k:=2) xJ)
  cases h35:((z6 yJ yQ).2) with
  | true =>
   cases h36:(((z6 yJ yQ).1).l).isEmpty with
   | true =>
    exact zy ((ranges_pairs_6p9a_l_o1 yJ yQ)++[.dec true,.op (some 35) ⟨.lsl 1 0 yR.length 2 none,[],[],4⟩]) (Ai (app_none (te:=zS) (gO:=zt [(1,⟨yR.map Sn.D,2,false⟩),(2,⟨[.agg [I yJ.lo,I yJ.hi]],2,false⟩),(3,⟨[.agg [I yQ.lo,I yQ.hi]],2,false⟩)]) (nxt:=4) (f:=Sn.D) (sz:=2) (d:=.lsl 1 0 yR.length 2 none) ((z6 yJ yQ).1) h36 rfl) (Ai h35 (Ai (T_ranges_Within_1 yJ yQ) (Ai p1 (Ai (yb xJ) trivial))))) (by kernel_rfl)
   | false =>
    exact zy ((ranges_pairs_6p9a_l_o1 yJ yQ)++[.dec true,.op (some 35) ⟨.lsl 4 0 ((yR++(((z6 yJ yQ).1).l)).length) 2 none,[(1,none),(4,some ⟨(yR++(((z6 yJ yQ).1).l)).map Sn.D,2,false⟩)],[1],5⟩]) (Ai (app_moreD (te:=zS) (gO:=zt [(1,⟨yR.map Sn.D,2,false⟩),(2,⟨[.agg [I yJ.lo,I yJ.hi]],2,false⟩),(3,⟨[.agg [I yQ.lo,I yQ.hi]],2,false⟩)]) (nxt:=4) (o:=1) (v:=yR) z7 ((z6 yJ yQ).1) h36 (by kernel_rfl) rfl (by kernel_rfl) (by decide) ⟨by simp only [zS,big] <;> (first | assumption | omega | (exact two_bd (by omega) (by omega)) | (exact add_some (by omega)) | (exact add_some' (by omega)) | (exact one_some (by omega)) | (exact one_some' (by omega)) | (exact outside_len _ (by omega)) | (simp only [zO] at * <;> omega) | (simp only [yw,GS.some_l,List.length_set,List.length_append,List.length_cons,List.length_nil] at * <;> first | with_reducible assumption | omega) | (simp only [yw,GS.some_l,List.length_set,List.length_append,List.length_cons,List.length_nil,zO] at * <;> first | with_reducible assumption | omega) | (simp at * <;> omega)),by simp only [big] <;> (first | assumption | omega | (exact two_bd (by omega) (by omega)) | (exact add_some (by omega)) | (exact add_some' (by omega)) | (exact one_some (by omega)) | (exact one_some' (by omega)) | (exact outside_len _ (by omega)) | (simp only [zO] at * <;> omega) | (simp only [yw,GS.some_l,List.length_set,List.length_append,List.length_cons,List.length_nil] at * <;> first | with_reducible assumption | omega) | (simp only [yw,GS.some_l,List.length_set,List.length_append,List.length_cons,List.length_nil,zO] at * <;> first | with_reducible assumption | omega) | (simp at * <;> omega))⟩) (Ai h35 (Ai (T_ranges_Within_1 yJ yQ) (Ai p1 (Ai (yb xJ) trivial))))) (by kernel_rfl)
  | false =>
   cases h37:(((z6 yJ yQ).1).l).isEmpty with
   | true =>
    exact zN (ks:=[1,2,7,9,14,15,16,20,21,22]) (st':=(sd184 a xi yF yJ xx yQ yR)) ((ranges_pairs_6p9a_l_o1 yJ yQ)++[.dec false,.op (some 35) ⟨.lsl 1 0 yR.length 2 none,[],[],4⟩,.rw 37 (I ((xx+1:Nat):Int))]) (Ai (ya (i:=xx) (by have:=zg xJ; omega)) (Ai (app_none (te:=zS) (gO:=zt [(1,⟨yR.map Sn.D,2,false⟩),(2,⟨[.agg [I yJ.lo,I yJ.hi]],2,false⟩),(3,⟨[.agg [I yQ.lo,I yQ.hi]],2,false⟩)]) (nxt:=4) (f:=Sn.D) (sz:=2) (d:=.lsl 1 0 yR.length 2 none) ((z6 yJ yQ).1) h37 rfl) (Ai h35 (Ai (T_ranges_Within_1 yJ yQ) (Ai p1 (Ai (yb xJ) trivial)))))) (by kernel_rfl) (by (simp only [sd184,go_sem,List.length_set,Nat.reduceAdd,Nat.reduceEqDiff,Nat.reduceLT,Nat.reduceLeDiff,bI2,zc.idsL,zc.renL,zc.snapAll,z7.idsL,z7.renL,z7.snapAll]) <;> rfl) (ih (xx+1) yR (zh xJ) (zg xJ) (by omega) (by omega) (by omega) (by omega)) (by kernel_rfl)
   | false =>
    exact zN (ks:=[1,2,7,9,14,15,16,20,21,22]) (st':=(sd185 a xi yF yJ xx yQ yR)) ((ranges_pairs_6p9a_l_o1 yJ yQ)++[.dec false,.op (some 35) ⟨.lsl 4 0 ((yR++(((z6 yJ yQ).1).l)).length) 2 none,[(1,none),(4,some ⟨(yR++(((z6 yJ yQ).1).l)).map Sn.D,2,false⟩)],[1],5⟩,.rw 37 (I ((xx+1:Nat):Int))]) (Ai (ya (i:=xx) (by have:=zg xJ; omega)) (Ai (app_moreD (te:=zS) (gO:=zt [(1,⟨yR.map Sn.D,2,false⟩),(2,⟨[.agg [I yJ.lo,I yJ.hi]],2,false⟩),(3,⟨[.agg [I yQ.lo,I yQ.hi]],2,false⟩)]) (nxt:=4) (o:=1) (v:=yR) z7 ((z6 yJ yQ).1) h37 (by kernel_rfl) rfl (by kernel_rfl) (by decide) ⟨by simp only [zS,big] <;> (first | assumption | omega | (exact two_bd (by omega) (by omega)) | (exact add_some (by omega)) | (exact add_some' (by omega)) | (exact one_some (by omega)) | (exact one_some' (by omega)) | (exact outside_len _ (by omega)) | (simp only [zO] at * <;> omega) | (simp only [yw,GS.some_l,List.length_set,List.length_append,List.length_cons,List.length_nil] at * <;> first | with_reducible assumption | omega) | (simp only [yw,GS.some_l,List.length_set,List.length_append,List.length_cons,List.length_nil,zO] at * <;> first | with_reducible assumption | omega) | (simp at * <;> omega)),by simp only [big] <;> (first | assumption | omega | (exact two_bd (by omega) (by omega)) | (exact add_some (by omega)) | (exact add_some' (by omega)) | (exact one_some (by omega)) | (exact one_some' (by omega)) | (exact outside_len _ (by omega)) | (simp only [zO] at * <;> omega) | (simp only [yw,GS.some_l,List.length_set,List.length_append,List.length_cons,List.length_nil] at * <;> first | with_reducible assumption | omega) | (simp only [yw,GS.some_l,List.length_set,List.length_append,List.length_cons,List.length_nil,zO] at * <;> first | with_reducible assumption | omega) | (simp at * <;> omega))⟩) (Ai h35 (Ai (T_ranges_Within_1 yJ yQ) (Ai p1 (Ai (yb xJ) trivial)))))) (by kernel_rfl) (by (simp only [sd185,go_sem,List.length_set,Nat.reduceAdd,Nat.reduceEqDiff,Nat.reduceLT,Nat.reduceLeDiff,bI2,zc.idsL,zc.renL,zc.snapAll,z7.idsL,z7.renL,z7.snapAll]) <;> rfl) (ih (xx+1) (yR++(((z6 yJ yQ).1).l)) (zh xJ) (zg xJ) (by omega) (by omega) (by simp only [List.length_append,List.length_cons,List.length_nil] at * <;> omega) (by omega)) (by kernel_rfl)
theorem ivt_ranges_pairs_6p9a (a:GS Sn) (xi:Nat) (yF:GS Sn) (yJ:Sn):∀ (xE:List Sn) (xx:Nat) (yR:List Sn) (xJ:yF.l.drop xx=xE) (hi6p9:xx≤yF.l.length) (hb65:yF.l.length≤65) (ho64:xi < 64) (hg6p9_va6p9_0:yR.length≤65 * xi+xx) (hL6p9:yF.l.length≤1099511627776),iv_ranges_pairs_6p9 a xi yF yJ (ranges_pairs_6p9a yJ xE xx yR):=by
 intro xE
 induction xE with
 | nil =>
  intro xx yR xJ hi6p9 hb65 ho64 hg6p9_va6p9_0 hL6p9
  unfold ranges_pairs_6p9a
  obtain rfl:xx=yF.l.length:=nil_eq xJ hi6p9
  exact hg6p9_va6p9_0
 | cons yQ xE ih =>
  intro xx yR xJ hi6p9 hb65 ho64 hg6p9_va6p9_0 hL6p9
  have hlt6p9:=zg xJ
  have hlx:=within1_len yJ yQ
  unfold ranges_pairs_6p9a
  cases h35:((z6 yJ yQ).2) with
  | true =>
   cases h36:(((z6 yJ yQ).1).l).isEmpty with
   | true =>
    exact hg6p9_va6p9_0
   | false =>
    exact hg6p9_va6p9_0
  | false =>
   cases h37:(((z6 yJ yQ).1).l).isEmpty with
   | true =>
    exact ih (xx+1) yR (zh xJ) (zg xJ) (by omega) (by omega) (by omega) (by omega)
   | false =>
    exact ih (xx+1) (yR++(((z6 yJ yQ).1).l)) (zh xJ) (zg xJ) (by omega) (by omega) (by simp only [List.length_append,List.length_cons,List.length_nil] at * <;> omega) (by omega)
def ranges_pairs_6p9_l_o1 (yJ:Sn) (yQ:Sn):List Ora:=[.dec true,.el (.agg [I yQ.lo,I yQ.hi]),.pure (.tup [.sl (((z6 yJ yQ).1).nl) ((((z6 yJ yQ).1).l).map Sn.D) (zsl (((z6 yJ yQ).1).nl) 2) none,B ((z6 yJ yQ).2)])]
theorem lp_ranges_pairs_6p9 (a:GS Sn) (xi:Nat) (yF:GS Sn) (yJ:Sn):∀ (xE:List Sn) (xx:Nat) (xJ:yF.l.drop xx=xE) (hi6p9:xx≤yF.l.length) (hb65:yF.l.length≤65) (ho64:xi < 64) (hL6p9:yF.l.length≤1099511627776),(lim cfg).loop 87 lp87_6 ⟨40,[(1,.sl yF.nl (yF.l.map Sn.D) (zsl yF.nl 2) none),(2,.fn (.func 92) [] []),(7,.sl true [] 0 none),(9,.lref 1 0 2 0),(14,.sl a.nl (a.l.map Sn.D) (zsl a.nl 2) none),(15,I ((a.l.length:Nat):Int)),(16,I ((xi:Nat):Int)),(20,.sl yF.nl (yF.l.map Sn.D) (zsl yF.nl 2) none),(21,I ((yF.l.length:Nat):Int)),(22,I ((xx:Nat):Int))],[(1,⟨[.agg [I yJ.lo,I yJ.hi]],2,false⟩)],2,1⟩=some (lr_ranges_pairs_6p9 a xi yF yJ (ranges_pairs_6p9 yJ xE xx)):=by
 intro xE
 induction xE with
 | nil =>
  intro xx xJ hi6p9 hb65 ho64 hL6p9
  unfold ranges_pairs_6p9
  obtain rfl:xx=yF.l.length:=nil_eq xJ hi6p9
  exact zy [.dec false] (Ai (lt_no xJ) trivial) (by kernel_rfl)
 | cons yQ xE ih =>
  intro xx xJ hi6p9 hb65 ho64 hL6p9
  have hlt6p9:=zg xJ
  have hlx:=within1_len yJ yQ
  unfold ranges_pairs_6p9
  have p1:=(el_at (s:=yF) (f:=Sn.D) (k:=2) xJ)
  cases h38:((z6 yJ yQ).2) with
  | true =>
   cases h39:(((z6 yJ yQ).1).l).isEmpty with
   | true =>
    exact zy ((ranges_pairs_6p9_l_o1 yJ yQ)++[.dec true,.op (some 35) ⟨.sl true [] 0 none,[],[],3⟩]) (Ai (app_none (te:=zS) (gO:=zt [(1,⟨[.agg [I yJ.lo,I yJ.hi]],2,false⟩),(2,⟨[.agg [I yQ.lo,I yQ.hi]],2,false⟩)]) (nxt:=3) (f:=Sn.D) (sz:=2) (d:=.sl true [] 0 none) ((z6 yJ yQ).1) h39 rfl) (Ai h38 (Ai (T_ranges_Within_1 yJ yQ) (Ai p1 (Ai (yb xJ) trivial))))) (by kernel_rfl)
   | false =>
    exact zy ((ranges_pairs_6p9_l_o1 yJ yQ)++[.dec true,.op (some 35) ⟨.lsl 3 0 ((((z6 yJ yQ).1).l).length) 2 none,[(3,some ⟨(((z6 yJ yQ).1).l).map Sn.D,2,false⟩)],[],4⟩]) (Ai (app_newD (te:=zS) (gO:=zt [(1,⟨[.agg [I yJ.lo,I yJ.hi]],2,false⟩),(2,⟨[.agg [I yQ.lo,I yQ.hi]],2,false⟩)]) (nxt:=3) (els0:=[]) (sz0:=0) (cap0:=none) z7 ((z6 yJ yQ).1) h39 rfl (by kernel_rfl) (by decide) ⟨by simp only [zS,big] <;> (first | assumption | omega | (exact two_bd (by omega) (by omega)) | (exact add_some (by omega)) | (exact add_some' (by omega)) | (exact one_some (by omega)) | (exact one_some' (by omega)) | (exact outside_len _ (by omega)) | (simp only [zO] at * <;> omega) | (simp only [yw,GS.some_l,List.length_set,List.length_append,List.length_cons,List.length_nil] at * <;> first | with_reducible assumption | omega) | (simp only [yw,GS.some_l,List.length_set,List.length_append,List.length_cons,List.length_nil,zO] at * <;> first | with_reducible assumption | omega) | (simp at * <;> omega)),by simp only [big] <;> (first | assumption | omega | (exact two_bd (by omega) (by omega)) | (exact add_some (by omega)) | (exact add_some' (by omega)) | (exact one_some (by omega)) | (exact one_some' (by omega)) | (exact outside_len _ (by omega)) | (simp only [zO] at * <;> omega) | (simp only [yw,GS.some_l,List.length_set,List.length_append,List.length_cons,List.length_nil] at * <;> first | with_reducible assumption | omega) | (simp only [yw,GS.some_l,List.length_set,List.length_append,List.length_cons,List.length_nil,zO] at * <;> first | with_reducible assumption | omega) | (simp at * <;> omega))⟩) (Ai h38 (Ai (T_ranges_Within_1 yJ yQ) (Ai p1 (Ai (yb xJ) trivial))))) (by kernel_rfl)
  | false =>
   cases h40:(((z6 yJ yQ).1).l).isEmpty with
   | true =>
    exact po_turn ((ranges_pairs_6p9_l_o1 yJ yQ)++[.dec false,.op (some 35) ⟨.sl true [] 0 none,[],[],3⟩,.rw 37 (I ((xx+1:Nat):Int))]) (Ai (ya (i:=xx) (by have:=zg xJ; omega)) (Ai (app_none (te:=zS) (gO:=zt [(1,⟨[.agg [I yJ.lo,I yJ.hi]],2,false⟩),(2,⟨[.agg [I yQ.lo,I yQ.hi]],2,false⟩)]) (nxt:=3) (f:=Sn.D) (sz:=2) (d:=.sl true [] 0 none) ((z6 yJ yQ).1) h40 rfl) (Ai h38 (Ai (T_ranges_Within_1 yJ yQ) (Ai p1 (Ai (yb xJ) trivial)))))) (ih (xx+1) (zh xJ) (zg xJ) (by omega) (by omega) (by omega)) (by kernel_rfl)
   | false =>
    exact zN (ks:=[1,2,7,9,14,15,16,20,21,22]) (st':=(sd186 a xi yF yJ xx yQ)) ((ranges_pairs_6p9_l_o1 yJ yQ)++[.dec false,.op (some 35) ⟨.lsl 3 0 ((((z6 yJ yQ).1).l).length) 2 none,[(3,some ⟨(((z6 yJ yQ).1).l).map Sn.D,2,false⟩)],[],4⟩,.rw 37 (I ((xx+1:Nat):Int))]) (Ai (ya (i:=xx) (by have:=zg xJ; omega)) (Ai (app_newD (te:=zS) (gO:=zt [(1,⟨[.agg [I yJ.lo,I yJ.hi]],2,false⟩),(2,⟨[.agg [I yQ.lo,I yQ.hi]],2,false⟩)]) (nxt:=3) (els0:=[]) (sz0:=0) (cap0:=none) z7 ((z6 yJ yQ).1) h40 rfl (by kernel_rfl) (by decide) ⟨by simp only [zS,big] <;> (first | assumption | omega | (exact two_bd (by omega) (by omega)) | (exact add_some (by omega)) | (exact add_some' (by omega)) | (exact one_some (by omega)) | (exact one_some' (by omega)) | (exact outside_len _ (by omega)) | (simp only [zO] at * <;> omega) | (simp only [yw,GS.some_l,List.length_set,List.length_append,List.length_cons,List.length_nil] at * <;> first | with_reducible assumption | omega) | (simp only [yw,GS.some_l,List.length_set,List.length_append,List.length_cons,List.length_nil,zO] at * <;> first | with_reducible assumption | omega) | (simp at * <;> omega)),by simp only [big] <;> (first | assumption | omega | (exact two_bd (by omega) (by omega)) | (exact add_some (by omega)) | (exact add_some' (by omega)) | (exact one_some (by omega)) | (exact one_some' (by omega)) | (exact outside_len _ (by omega)) | (simp only [zO] at * <;> omega) | (simp only [yw,GS.some_l,List.length_set,List.length_append,List.length_cons,List.length_nil] at * <;> first | with_reducible assumption | omega) | (simp only [yw,GS.some_l,List.length_set,List.length_append,List.length_cons,List.length_nil,zO] at * <;> first | with_reducible assumption | omega) | (simp at * <;> omega))⟩) (Ai h38 (Ai (T_ranges_Within_1 yJ yQ) (Ai p1 (Ai (yb xJ) trivial)))))) (by kernel_rfl) (by (simp only [sd186,go_sem,List.length_set,Nat.reduceAdd,Nat.reduceEqDiff,Nat.reduceLT,Nat.reduceLeDiff,bI2,zc.idsL,zc.renL,zc.snapAll,z7.idsL,z7.renL,z7.snapAll]) <;> rfl) (lp_ranges_pairs_6p9a a xi yF yJ _ (xx+1) (((z6 yJ yQ).1).l) (zh xJ) (zg xJ) (by omega) (by omega) (by omega) (by omega)) (by kernel_rfl)
theorem ivt_ranges_pairs_6p9 (a:GS Sn) (xi:Nat) (yF:GS Sn) (yJ:Sn):∀ (xE:List Sn) (xx:Nat) (xJ:yF.l.drop xx=xE) (hi6p9:xx≤yF.l.length) (hb65:yF.l.length≤65) (ho64:xi < 64) (hL6p9:yF.l.length≤1099511627776),iv_ranges_pairs_6p9 a xi yF yJ (ranges_pairs_6p9 yJ xE xx):=by
 intro xE
 induction xE with
 | nil =>
  intro xx xJ hi6p9 hb65 ho64 hL6p9
  unfold ranges_pairs_6p9
  obtain rfl:xx=yF.l.length:=nil_eq xJ hi6p9
  exact trivial
 | cons yQ xE ih =>
  intro xx xJ hi6p9 hb65 ho64 hL6p9
  have hlt6p9:=zg xJ
  have hlx:=within1_len yJ yQ
  unfold ranges_pairs_6p9
  cases h38:((z6 yJ yQ).2) with
  | true =>
   cases h39:(((z6 yJ yQ).1).l).isEmpty with
   | true =>
    exact trivial
   | false =>
    exact trivial
  | false =>
   cases h40:(((z6 yJ yQ).1).l).isEmpty with
   | true =>
    exact ih (xx+1) (zh xJ) (zg xJ) (by omega) (by omega) (by omega)
   | false =>
    exact ivt_ranges_pairs_6p9a a xi yF yJ _ (xx+1) (((z6 yJ yQ).1).l) (zh xJ) (zg xJ) (by omega) (by omega) (by omega) (by omega)

def sd174 (a:GS Sn) (xi:Nat) (yF:GS Sn) (yJ:Sn) (yM:List Sn):St:=⟨40,[(22,I 0),(21,I ((yF.l.length:Nat):Int)),(20,.sl yF.nl (yF.l.map Sn.D) (zsl yF.nl 2) none),(9,.lref 2 0 2 0),(19,.agg [I yJ.lo,I yJ.hi]),(18,.ptr (.agg [I yJ.lo,I yJ.hi])),(17,B true),(1,.sl yF.nl (yF.l.map Sn.D) (zsl yF.nl 2) none),(2,.fn (.func 92) [] []),(7,.lsl 1 0 yM.length 2 none),(14,.sl a.nl (a.l.map Sn.D) (zsl a.nl 2) none),(15,I ((a.l.length:Nat):Int)),(16,I ((xi:Nat):Int))],[(1,⟨yM.map Sn.D,2,false⟩),(2,⟨[.agg [I yJ.lo,I yJ.hi]],2,false⟩)],3,1⟩

def sd175 (a:GS Sn) (xi:Nat) (yF:GS Sn) (yJ:Sn) (yM:List Sn):St:=⟨40,[(1,.sl yF.nl (yF.l.map Sn.D) (zsl yF.nl 2) none),(2,.fn (.func 92) [] []),(7,.lsl 1 0 yM.length 2 none),(9,.lref 2 0 2 0),(14,.sl a.nl (a.l.map Sn.D) (zsl a.nl 2) none),(15,I ((a.l.length:Nat):Int)),(16,I ((xi:Nat):Int)),(20,.sl yF.nl (yF.l.map Sn.D) (zsl yF.nl 2) none),(21,I ((yF.l.length:Nat):Int)),(22,I 0)],[(1,⟨yM.map Sn.D,2,false⟩),(2,⟨[.agg [I yJ.lo,I yJ.hi]],2,false⟩)],3,1⟩

def sd192 (a:GS Sn) (xi:Nat) (yF:GS Sn) (yJ:Sn) (yX:List Sn):St:=⟨40,[(16,I ((xi+1:Nat):Int)),(38,I ((xi+1:Nat):Int)),(23,B false),(1,.sl yF.nl (yF.l.map Sn.D) (zsl yF.nl 2) none),(2,.fn (.func 92) [] []),(7,.lsl 1 0 yX.length 2 none),(9,.lref 2 0 2 0),(14,.sl a.nl (a.l.map Sn.D) (zsl a.nl 2) none),(15,I ((a.l.length:Nat):Int)),(16,I ((xi:Nat):Int)),(20,.sl yF.nl (yF.l.map Sn.D) (zsl yF.nl 2) none),(21,I ((yF.l.length:Nat):Int)),(22,I ((yF.l.length:Nat):Int))],[(1,⟨yX.map Sn.D,2,false⟩),(2,⟨[.agg [I yJ.lo,I yJ.hi]],2,false⟩)],3,1⟩

def sd181 (a:GS Sn) (xi:Nat) (yF:GS Sn) (yJ:Sn) (yX:List Sn):St:=⟨40,[(23,B false),(1,.sl yF.nl (yF.l.map Sn.D) (zsl yF.nl 2) none),(2,.fn (.func 92) [] []),(7,.lsl 1 0 yX.length 2 none),(9,.lref 2 0 2 0),(14,.sl a.nl (a.l.map Sn.D) (zsl a.nl 2) none),(15,I ((a.l.length:Nat):Int)),(16,I ((xi:Nat):Int)),(20,.sl yF.nl (yF.l.map Sn.D) (zsl yF.nl 2) none),(21,I ((yF.l.length:Nat):Int)),(22,I ((yF.l.length:Nat):Int))],[(1,⟨yX.map Sn.D,2,false⟩),(2,⟨[.agg [I yJ.lo,I yJ.hi]],2,false⟩)],3,1⟩

def sd182 (a:GS Sn) (xi:Nat) (yF:GS Sn) (yJ:Sn) (xQ:Nat) (x8:Sn) (yX:List Sn):St:=⟨40,[(36,B true),(7,.lsl 1 0 yX.length 2 none),(35,.lsl 1 0 yX.length 2 none),(34,.sl (((z6 yJ x8).1).nl) ((((z6 yJ x8).1).l).map Sn.D) (zsl (((z6 yJ x8).1).nl) 2) none),(33,.lsl 1 0 yX.length 2 none),(13,B true),(12,.sl (((z6 yJ x8).1).nl) ((((z6 yJ x8).1).l).map Sn.D) (zsl (((z6 yJ x8).1).nl) 2) none),(32,B true),(31,.sl (((z6 yJ x8).1).nl) ((((z6 yJ x8).1).l).map Sn.D) (zsl (((z6 yJ x8).1).nl) 2) none),(26,.tup [.sl (((z6 yJ x8).1).nl) ((((z6 yJ x8).1).l).map Sn.D) (zsl (((z6 yJ x8).1).nl) 2) none,B ((z6 yJ x8).2)]),(30,.tup [.sl (((z6 yJ x8).1).nl) ((((z6 yJ x8).1).l).map Sn.D) (zsl (((z6 yJ x8).1).nl) 2) none,B ((z6 yJ x8).2)]),(29,.agg [I x8.lo,I x8.hi]),(28,.agg [I yJ.lo,I yJ.hi]),(27,.fn (.func 92) [] []),(11,.lref 3 0 2 0),(25,.agg [I x8.lo,I x8.hi]),(24,.ptr (.agg [I x8.lo,I x8.hi])),(23,B true),(1,.sl yF.nl (yF.l.map Sn.D) (zsl yF.nl 2) none),(2,.fn (.func 92) [] []),(7,.lsl 1 0 yX.length 2 none),(9,.lref 2 0 2 0),(14,.sl a.nl (a.l.map Sn.D) (zsl a.nl 2) none),(15,I ((a.l.length:Nat):Int)),(16,I ((xi:Nat):Int)),(20,.sl yF.nl (yF.l.map Sn.D) (zsl yF.nl 2) none),(21,I ((yF.l.length:Nat):Int)),(22,I ((xQ:Nat):Int))],[(1,⟨yX.map Sn.D,2,false⟩),(2,⟨[.agg [I yJ.lo,I yJ.hi]],2,false⟩),(3,⟨[.agg [I x8.lo,I x8.hi]],2,false⟩)],4,1⟩

def sd183 (a:GS Sn) (xi:Nat) (yF:GS Sn) (yJ:Sn) (xQ:Nat) (x8:Sn) (yX:List Sn):St:=⟨40,[(36,B true),(7,.lsl 4 0 ((yX++(((z6 yJ x8).1).l)).length) 2 none),(35,.lsl 4 0 ((yX++(((z6 yJ x8).1).l)).length) 2 none),(34,.sl (((z6 yJ x8).1).nl) ((((z6 yJ x8).1).l).map Sn.D) (zsl (((z6 yJ x8).1).nl) 2) none),(33,.lsl 1 0 yX.length 2 none),(13,B true),(12,.sl (((z6 yJ x8).1).nl) ((((z6 yJ x8).1).l).map Sn.D) (zsl (((z6 yJ x8).1).nl) 2) none),(32,B true),(31,.sl (((z6 yJ x8).1).nl) ((((z6 yJ x8).1).l).map Sn.D) (zsl (((z6 yJ x8).1).nl) 2) none),(26,.tup [.sl (((z6 yJ x8).1).nl) ((((z6 yJ x8).1).l).map Sn.D) (zsl (((z6 yJ x8).1).nl) 2) none,B ((z6 yJ x8).2)]),(30,.tup [.sl (((z6 yJ x8).1).nl) ((((z6 yJ x8).1).l).map Sn.D) (zsl (((z6 yJ x8).1).nl) 2) none,B ((z6 yJ x8).2)]),(29,.agg [I x8.lo,I x8.hi]),(28,.agg [I yJ.lo,I yJ.hi]),(27,.fn (.func 92) [] []),(11,.lref 3 0 2 0),(25,.agg [I x8.lo,I x8.hi]),(24,.ptr (.agg [I x8.lo,I x8.hi])),(23,B true),(1,.sl yF.nl (yF.l.map Sn.D) (zsl yF.nl 2) none),(2,.fn (.func 92) [] []),(7,.lsl 1 0 yX.length 2 none),(9,.lref 2 0 2 0),(14,.sl a.nl (a.l.map Sn.D) (zsl a.nl 2) none),(15,I ((a.l.length:Nat):Int)),(16,I ((xi:Nat):Int)),(20,.sl yF.nl (yF.l.map Sn.D) (zsl yF.nl 2) none),(21,I ((yF.l.length:Nat):Int)),(22,I ((xQ:Nat):Int))],[(2,⟨[.agg [I yJ.lo,I yJ.hi]],2,false⟩),(3,⟨[.agg [I x8.lo,I x8.hi]],2,false⟩),(4,⟨(yX++(((z6 yJ x8).1).l)).map Sn.D,2,false⟩)],5,1⟩

def sd193 (a:GS Sn) (xi:Nat) (yF:GS Sn) (yJ:Sn) (yR:List Sn):St:=⟨40,[(16,I ((xi+1:Nat):Int)),(38,I ((xi+1:Nat):Int)),(23,B false),(1,.sl yF.nl (yF.l.map Sn.D) (zsl yF.nl 2) none),(2,.fn (.func 92) [] []),(7,.lsl 1 0 yR.length 2 none),(9,.lref 2 0 2 0),(14,.sl a.nl (a.l.map Sn.D) (zsl a.nl 2) none),(15,I ((a.l.length:Nat):Int)),(16,I ((xi:Nat):Int)),(20,.sl yF.nl (yF.l.map Sn.D) (zsl yF.nl 2) none),(21,I ((yF.l.length:Nat):Int)),(22,I ((yF.l.length:Nat):Int))],[(1,⟨yR.map Sn.D,2,false⟩),(2,⟨[.agg [I yJ.lo,I yJ.hi]],2,false⟩)],3,1⟩

def sd187 (a:GS Sn) (xi:Nat) (yF:GS Sn) (yJ:Sn) (yR:List Sn):St:=⟨40,[(23,B false),(1,.sl yF.nl (yF.l.map Sn.D) (zsl yF.nl 2) none),(2,.fn (.func 92) [] []),(7,.lsl 1 0 yR.length 2 none),(9,.lref 2 0 2 0),(14,.sl a.nl (a.l.map Sn.D) (zsl a.nl 2) none),(15,I ((a.l.length:Nat):Int)),(16,I ((xi:Nat):Int)),(20,.sl yF.nl (yF.l.map Sn.D) (zsl yF.nl 2) none),(21,I ((yF.l.length:Nat):Int)),(22,I ((yF.l.length:Nat):Int))],[(1,⟨yR.map Sn.D,2,false⟩),(2,⟨[.agg [I yJ.lo,I yJ.hi]],2,false⟩)],3,1⟩

def sd188 (a:GS Sn) (xi:Nat) (yF:GS Sn) (yJ:Sn) (xx:Nat) (yQ:Sn) (yR:List Sn):St:=⟨40,[(36,B true),(7,.lsl 1 0 yR.length 2 none),(35,.lsl 1 0 yR.length 2 none),(34,.sl (((z6 yJ yQ).1).nl) ((((z6 yJ yQ).1).l).map Sn.D) (zsl (((z6 yJ yQ).1).nl) 2) none),(33,.lsl 1 0 yR.length 2 none),(13,B true),(12,.sl (((z6 yJ yQ).1).nl) ((((z6 yJ yQ).1).l).map Sn.D) (zsl (((z6 yJ yQ).1).nl) 2) none),(32,B true),(31,.sl (((z6 yJ yQ).1).nl) ((((z6 yJ yQ).1).l).map Sn.D) (zsl (((z6 yJ yQ).1).nl) 2) none),(26,.tup [.sl (((z6 yJ yQ).1).nl) ((((z6 yJ yQ).1).l).map Sn.D) (zsl (((z6 yJ yQ).1).nl) 2) none,B ((z6 yJ yQ).2)]),(30,.tup [.sl (((z6 yJ yQ).1).nl) ((((z6 yJ yQ).1).l).map Sn.D) (zsl (((z6 yJ yQ).1).nl) 2) none,B ((z6 yJ yQ).2)]),(29,.agg [I yQ.lo,I yQ.hi]),(28,.agg [I yJ.lo,I yJ.hi]),(27,.fn (.func 92) [] []),(11,.lref 3 0 2 0),(25,.agg [I yQ.lo,I yQ.hi]),(24,.ptr (.agg [I yQ.lo,I yQ.hi])),(23,B true),(1,.sl yF.nl (yF.l.map Sn.D) (zsl yF.nl 2) none),(2,.fn (.func 92) [] []),(7,.lsl 1 0 yR.length 2 none),(9,.lref 2 0 2 0),(14,.sl a.nl (a.l.map Sn.D) (zsl a.nl 2) none),(15,I ((a.l.length:Nat):Int)),(16,I ((xi:Nat):Int)),(20,.sl yF.nl (yF.l.map Sn.D) (zsl yF.nl 2) none),(21,I ((yF.l.length:Nat):Int)),(22,I ((xx:Nat):Int))],[(1,⟨yR.map Sn.D,2,false⟩),(2,⟨[.agg [I yJ.lo,I yJ.hi]],2,false⟩),(3,⟨[.agg [I yQ.lo,I yQ.hi]],2,false⟩)],4,1⟩

def sd189 (a:GS Sn) (xi:Nat) (yF:GS Sn) (yJ:Sn) (xx:Nat) (yQ:Sn) (yR:List Sn):St:=⟨40,[(36,B true),(7,.lsl 4 0 ((yR++(((z6 yJ yQ).1).l)).length) 2 none),(35,.lsl 4 0 ((yR++(((z6 yJ yQ).1).l)).length) 2 none),(34,.sl (((z6 yJ yQ).1).nl) ((((z6 yJ yQ).1).l).map Sn.D) (zsl (((z6 yJ yQ).1).nl) 2) none),(33,.lsl 1 0 yR.length 2 none),(13,B true),(12,.sl (((z6 yJ yQ).1).nl) ((((z6 yJ yQ).1).l).map Sn.D) (zsl (((z6 yJ yQ).1).nl) 2) none),(32,B true),(31,.sl (((z6 yJ yQ).1).nl) ((((z6 yJ yQ).1).l).map Sn.D) (zsl (((z6 yJ yQ).1).nl) 2) none),(26,.tup [.sl (((z6 yJ yQ).1).nl) ((((z6 yJ yQ).1).l).map Sn.D) (zsl (((z6 yJ yQ).1).nl) 2) none,B ((z6 yJ yQ).2)]),(30,.tup [.sl (((z6 yJ yQ).1).nl) ((((z6 yJ yQ).1).l).map Sn.D) (zsl (((z6 yJ yQ).1).nl) 2) none,B ((z6 yJ yQ).2)]),(29,.agg [I yQ.lo,I yQ.hi]),(28,.agg [I yJ.lo,I yJ.hi]),(27,.fn (.func 92) [] []),(11,.lref 3 0 2 0),(25,.agg [I yQ.lo,I yQ.hi]),(24,.ptr (.agg [I yQ.lo,I yQ.hi])),(23,B true),(1,.sl yF.nl (yF.l.map Sn.D) (zsl yF.nl 2) none),(2,.fn (.func 92) [] []),(7,.lsl 1 0 yR.length 2 none),(9,.lref 2 0 2 0),(14,.sl a.nl (a.l.map Sn.D) (zsl a.nl 2) none),(15,I ((a.l.length:Nat):Int)),(16,I ((xi:Nat):Int)),(20,.sl yF.nl (yF.l.map Sn.D) (zsl yF.nl 2) none),(21,I ((yF.l.length:Nat):Int)),(22,I ((xx:Nat):Int))],[(2,⟨[.agg [I yJ.lo,I yJ.hi]],2,false⟩),(3,⟨[.agg [I yQ.lo,I yQ.hi]],2,false⟩),(4,⟨(yR++(((z6 yJ yQ).1).l)).map Sn.D,2,false⟩)],5,1⟩

def sd169 (a:GS Sn) (xi:Nat) (yF:GS Sn) (yJ:Sn):St:=⟨40,[(23,B false),(1,.sl yF.nl (yF.l.map Sn.D) (zsl yF.nl 2) none),(2,.fn (.func 92) [] []),(7,.sl true [] 0 none),(9,.lref 1 0 2 0),(14,.sl a.nl (a.l.map Sn.D) (zsl a.nl 2) none),(15,I ((a.l.length:Nat):Int)),(16,I ((xi:Nat):Int)),(20,.sl yF.nl (yF.l.map Sn.D) (zsl yF.nl 2) none),(21,I ((yF.l.length:Nat):Int)),(22,I ((yF.l.length:Nat):Int))],[(1,⟨[.agg [I yJ.lo,I yJ.hi]],2,false⟩)],2,1⟩

def sd190 (a:GS Sn) (xi:Nat) (yF:GS Sn) (yJ:Sn) (xx:Nat) (yQ:Sn):St:=⟨40,[(36,B true),(7,.sl true [] 0 none),(35,.sl true [] 0 none),(34,.sl (((z6 yJ yQ).1).nl) ((((z6 yJ yQ).1).l).map Sn.D) (zsl (((z6 yJ yQ).1).nl) 2) none),(33,.sl true [] 0 none),(13,B true),(12,.sl (((z6 yJ yQ).1).nl) ((((z6 yJ yQ).1).l).map Sn.D) (zsl (((z6 yJ yQ).1).nl) 2) none),(32,B true),(31,.sl (((z6 yJ yQ).1).nl) ((((z6 yJ yQ).1).l).map Sn.D) (zsl (((z6 yJ yQ).1).nl) 2) none),(26,.tup [.sl (((z6 yJ yQ).1).nl) ((((z6 yJ yQ).1).l).map Sn.D) (zsl (((z6 yJ yQ).1).nl) 2) none,B ((z6 yJ yQ).2)]),(30,.tup [.sl (((z6 yJ yQ).1).nl) ((((z6 yJ yQ).1).l).map Sn.D) (zsl (((z6 yJ yQ).1).nl) 2) none,B ((z6 yJ yQ).2)]),(29,.agg [I yQ.lo,I yQ.hi]),(28,.agg [I yJ.lo,I yJ.hi]),(27,.fn (.func 92) [] []),(11,.lref 2 0 2 0),(25,.agg [I yQ.lo,I yQ.hi]),(24,.ptr (.agg [I yQ.lo,I yQ.hi])),(23,B true),(1,.sl yF.nl (yF.l.map Sn.D) (zsl yF.nl 2) none),(2,.fn (.func 92) [] []),(7,.sl true [] 0 none),(9,.lref 1 0 2 0),(14,.sl a.nl (a.l.map Sn.D) (zsl a.nl 2) none),(15,I ((a.l.length:Nat):Int)),(16,I ((xi:Nat):Int)),(20,.sl yF.nl (yF.l.map Sn.D) (zsl yF.nl 2) none),(21,I ((yF.l.length:Nat):Int)),(22,I ((xx:Nat):Int))],[(1,⟨[.agg [I yJ.lo,I yJ.hi]],2,false⟩),(2,⟨[.agg [I yQ.lo,I yQ.hi]],2,false⟩)],3,1⟩

def sd191 (a:GS Sn) (xi:Nat) (yF:GS Sn) (yJ:Sn) (xx:Nat) (yQ:Sn):St:=⟨40,[(36,B true),(7,.lsl 3 0 ((((z6 yJ yQ).1).l).length) 2 none),(35,.lsl 3 0 ((((z6 yJ yQ).1).l).length) 2 none),(34,.sl (((z6 yJ yQ).1).nl) ((((z6 yJ yQ).1).l).map Sn.D) (zsl (((z6 yJ yQ).1).nl) 2) none),(33,.sl true [] 0 none),(13,B true),(12,.sl (((z6 yJ yQ).1).nl) ((((z6 yJ yQ).1).l).map Sn.D) (zsl (((z6 yJ yQ).1).nl) 2) none),(32,B true),(31,.sl (((z6 yJ yQ).1).nl) ((((z6 yJ yQ).1).l).map Sn.D) (zsl (((z6 yJ yQ).1).nl) 2) none),(26,.tup [.sl (((z6 yJ yQ).1).nl) ((((z6 yJ yQ).1).l).map Sn.D) (zsl (((z6 yJ yQ).1).nl) 2) none,B ((z6 yJ yQ).2)]),(30,.tup [.sl (((z6 yJ yQ).1).nl) ((((z6 yJ yQ).1).l).map Sn.D) (zsl (((z6 yJ yQ).1).nl) 2) none,B ((z6 yJ yQ).2)]),(29,.agg [I yQ.lo,I yQ.hi]),(28,.agg [I yJ.lo,I yJ.hi]),(27,.fn (.func 92) [] []),(11,.lref 2 0 2 0),(25,.agg [I yQ.lo,I yQ.hi]),(24,.ptr (.agg [I yQ.lo,I yQ.hi])),(23,B true),(1,.sl yF.nl (yF.l.map Sn.D) (zsl yF.nl 2) none),(2,.fn (.func 92) [] []),(7,.sl true [] 0 none),(9,.lref 1 0 2 0),(14,.sl a.nl (a.l.map Sn.D) (zsl a.nl 2) none),(15,I ((a.l.length:Nat):Int)),(16,I ((xi:Nat):Int)),(20,.sl yF.nl (yF.l.map Sn.D) (zsl yF.nl 2) none),(21,I ((yF.l.length:Nat):Int)),(22,I ((xx:Nat):Int))],[(1,⟨[.agg [I yJ.lo,I yJ.hi]],2,false⟩),(2,⟨[.agg [I yQ.lo,I yQ.hi]],2,false⟩),(3,⟨(((z6 yJ yQ).1).l).map Sn.D,2,false⟩)],4,1⟩

inductive LR_ranges_pairs_3p4 where
 | x0 (yM:List Sn)
 | x1 (xi:Nat) (yJ:Sn) (xQ:Nat) (x8:Sn) (yX:List Sn)
 | x2 (xi:Nat) (yJ:Sn) (xQ:Nat) (x8:Sn) (yX:List Sn)
 | x3
 | x4 (xi:Nat) (yJ:Sn) (xx:Nat) (yQ:Sn) (yR:List Sn)
 | x5 (xi:Nat) (yJ:Sn) (xx:Nat) (yQ:Sn) (yR:List Sn)
 | x6 (xi:Nat) (yJ:Sn) (xx:Nat) (yQ:Sn)
 | x7 (xi:Nat) (yJ:Sn) (xx:Nat) (yQ:Sn)
instance:Inhabited LR_ranges_pairs_3p4:=⟨.x0 default⟩
def ranges_pairs_3p4a (yF:GS Sn):List Sn→Nat→(List Sn)→LR_ranges_pairs_3p4
 | [],xi,yM=>.x0 yM
 | yJ::xj,xi,yM =>
  match ranges_pairs_6p8 yJ yF.l 0 yM with
  | .x0 yX =>
   ranges_pairs_3p4a yF xj (xi+1) yX
  | .x1 xQ x8 yX =>
   .x1 xi yJ xQ x8 yX
  | .x2 xQ x8 yX =>
   .x2 xi yJ xQ x8 yX
def ranges_pairs_3p4 (yF:GS Sn):List Sn→Nat→LR_ranges_pairs_3p4
 | [],xi=>.x3
 | yJ::xj,xi =>
  match ranges_pairs_6p9 yJ yF.l 0 with
  | .x0 yR =>
   ranges_pairs_3p4a yF xj (xi+1) yR
  | .x1 xx yQ yR =>
   .x4 xi yJ xx yQ yR
  | .x2 xx yQ yR =>
   .x5 xi yJ xx yQ yR
  | .x3 =>
   ranges_pairs_3p4 yF xj (xi+1)
  | .x4 xx yQ =>
   .x6 xi yJ xx yQ
  | .x5 xx yQ =>
   .x7 xi yJ xx yQ
def lr_ranges_pairs_3p4 (a:GS Sn) (yF:GS Sn):LR_ranges_pairs_3p4→Exit × St
 | .x0 yM=>((.exit 0),⟨40,[(17,B false),(1,.sl yF.nl (yF.l.map Sn.D) (zsl yF.nl 2) none),(2,.fn (.func 92) [] []),(7,.lsl 1 0 yM.length 2 none),(14,.sl a.nl (a.l.map Sn.D) (zsl a.nl 2) none),(15,I ((a.l.length:Nat):Int)),(16,I ((a.l.length:Nat):Int))],[(1,⟨yM.map Sn.D,2,false⟩)],2,1⟩)
 | .x1 xi yJ xQ x8 yX=>((.exit 0),⟨40,[(36,B true),(7,.lsl 1 0 yX.length 2 none),(35,.lsl 1 0 yX.length 2 none),(34,.sl (((z6 yJ x8).1).nl) ((((z6 yJ x8).1).l).map Sn.D) (zsl (((z6 yJ x8).1).nl) 2) none),(33,.lsl 1 0 yX.length 2 none),(13,B true),(12,.sl (((z6 yJ x8).1).nl) ((((z6 yJ x8).1).l).map Sn.D) (zsl (((z6 yJ x8).1).nl) 2) none),(32,B true),(31,.sl (((z6 yJ x8).1).nl) ((((z6 yJ x8).1).l).map Sn.D) (zsl (((z6 yJ x8).1).nl) 2) none),(26,.tup [.sl (((z6 yJ x8).1).nl) ((((z6 yJ x8).1).l).map Sn.D) (zsl (((z6 yJ x8).1).nl) 2) none,B ((z6 yJ x8).2)]),(30,.tup [.sl (((z6 yJ x8).1).nl) ((((z6 yJ x8).1).l).map Sn.D) (zsl (((z6 yJ x8).1).nl) 2) none,B ((z6 yJ x8).2)]),(29,.agg [I x8.lo,I x8.hi]),(28,.agg [I yJ.lo,I yJ.hi]),(27,.fn (.func 92) [] []),(11,.lref 3 0 2 0),(25,.agg [I x8.lo,I x8.hi]),(24,.ptr (.agg [I x8.lo,I x8.hi])),(23,B true),(1,.sl yF.nl (yF.l.map Sn.D) (zsl yF.nl 2) none),(2,.fn (.func 92) [] []),(7,.lsl 1 0 yX.length 2 none),(9,.lref 2 0 2 0),(14,.sl a.nl (a.l.map Sn.D) (zsl a.nl 2) none),(15,I ((a.l.length:Nat):Int)),(16,I ((xi:Nat):Int)),(20,.sl yF.nl (yF.l.map Sn.D) (zsl yF.nl 2) none),(21,I ((yF.l.length:Nat):Int)),(22,I ((xQ:Nat):Int))],[(1,⟨yX.map Sn.D,2,false⟩),(2,⟨[.agg [I yJ.lo,I yJ.hi]],2,false⟩),(3,⟨[.agg [I x8.lo,I x8.hi]],2,false⟩)],4,1⟩)
 | .x2 xi yJ xQ x8 yX=>((.exit 0),⟨40,[(36,B true),(7,.lsl 4 0 ((yX++(((z6 yJ x8).1).l)).length) 2 none),(35,.lsl 4 0 ((yX++(((z6 yJ x8).1).l)).length) 2 none),(34,.sl (((z6 yJ x8).1).nl) ((((z6 yJ x8).1).l).map Sn.D) (zsl (((z6 yJ x8).1).nl) 2) none),(33,.lsl 1 0 yX.length 2 none),(13,B true),(12,.sl (((z6 yJ x8).1).nl) ((((z6 yJ x8).1).l).map Sn.D) (zsl (((z6 yJ x8).1).nl) 2) none),(32,B true),(31,.sl (((z6 yJ x8).1).nl) ((((z6 yJ x8).1).l).map Sn.D) (zsl (((z6 yJ x8).1).nl) 2) none),(26,.tup [.sl (((z6 yJ x8).1).nl) ((((z6 yJ x8).1).l).map Sn.D) (zsl (((z6 yJ x8).1).nl) 2) none,B ((z6 yJ x8).2)]),(30,.tup [.sl (((z6 yJ x8).1).nl) ((((z6 yJ x8).1).l).map Sn.D) (zsl (((z6 yJ x8).1).nl) 2) none,B ((z6 yJ x8).2)]),(29,.agg [I x8.lo,I x8.hi]),(28,.agg [I yJ.lo,I yJ.hi]),(27,.fn (.func 92) [] []),(11,.lref 3 0 2 0),(25,.agg [I x8.lo,I x8.hi]),(24,.ptr (.agg [I x8.lo,I x8.hi])),(23,B true),(1,.sl yF.nl (yF.l.map Sn.D) (zsl yF.nl 2) none),(2,.fn (.func 92) [] []),(7,.lsl 1 0 yX.length 2 none),(9,.lref 2 0 2 0),(14,.sl a.nl (a.l.map Sn.D) (zsl a.nl 2) none),(15,I ((a.l.length:Nat):Int)),(16,I ((xi:Nat):Int)),(20,.sl yF.nl (yF.l.map Sn.D) (zsl yF.nl 2) none),(21,I ((yF.l.length:Nat):Int)),(22,I ((xQ:Nat):Int))],[(2,⟨[.agg [I yJ.lo,I yJ.hi]],2,false⟩),(3,⟨[.agg [I x8.lo,I x8.hi]],2,false⟩),(4,⟨(yX++(((z6 yJ x8).1).l)).map Sn.D,2,false⟩)],5,1⟩)
 | .x3=>((.exit 0),⟨40,[(17,B false),(1,.sl yF.nl (yF.l.map Sn.D) (zsl yF.nl 2) none),(2,.fn (.func 92) [] []),(7,.sl true [] 0 none),(14,.sl a.nl (a.l.map Sn.D) (zsl a.nl 2) none),(15,I ((a.l.length:Nat):Int)),(16,I ((a.l.length:Nat):Int))],[],1,1⟩)
 | .x4 xi yJ xx yQ yR=>((.exit 0),⟨40,[(36,B true),(7,.lsl 1 0 yR.length 2 none),(35,.lsl 1 0 yR.length 2 none),(34,.sl (((z6 yJ yQ).1).nl) ((((z6 yJ yQ).1).l).map Sn.D) (zsl (((z6 yJ yQ).1).nl) 2) none),(33,.lsl 1 0 yR.length 2 none),(13,B true),(12,.sl (((z6 yJ yQ).1).nl) ((((z6 yJ yQ).1).l).map Sn.D) (zsl (((z6 yJ yQ).1).nl) 2) none),(32,B true),(31,.sl (((z6 yJ yQ).1).nl) ((((z6 yJ yQ).1).l).map Sn.D) (zsl (((z6 yJ yQ).1).nl) 2) none),(26,.tup [.sl (((z6 yJ yQ).1).nl) ((((z6 yJ yQ).1).l).map Sn.D) (zsl (((z6 yJ yQ).1).nl) 2) none,B ((z6 yJ yQ).2)]),(30,.tup [.sl (((z6 yJ yQ).1).nl) ((((z6 yJ yQ).1).l).map Sn.D) (zsl (((z6 yJ yQ).1).nl) 2) none,B ((z6 yJ yQ).2)]),(29,.agg [I yQ.lo,I yQ.hi]),(28,.agg [I yJ.lo,I yJ.hi]),(27,.fn (.func 92) [] []),(11,.lref 3 0 2 0),(25,.agg [I yQ.lo,I yQ.hi]),(24,.ptr (.agg [I yQ.lo,I yQ.hi])),(23,B true),(1,.sl yF.nl (yF.l.map Sn.D) (zsl yF.nl 2) none),(2,.fn (.func 92) [] []),(7,.lsl 1 0 yR.length 2 none),(9,.lref 2 0 2 0),(14,.sl a.nl (a.l.map Sn.D) (zsl a.nl 2) none),(15,I ((a.l.length:Nat):Int)),(16,I ((xi:Nat):Int)),(20,.sl yF.nl (yF.l.map Sn.D) (zsl yF.nl 2) none),(21,I ((yF.l.length:Nat):Int)),(22,I ((xx:Nat):Int))],[(1,⟨yR.map Sn.D,2,false⟩),(2,⟨[.agg [I yJ.lo,I yJ.hi]],2,false⟩),(3,⟨[.agg [I yQ.lo,I yQ.hi]],2,false⟩)],4,1⟩)
 | .x5 xi yJ xx yQ yR=>((.exit 0),⟨40,[(36,B true),(7,.lsl 4 0 ((yR++(((z6 yJ yQ).1).l)).length) 2 none),(35,.lsl 4 0 ((yR++(((z6 yJ yQ).1).l)).length) 2 none),(34,.sl (((z6 yJ yQ).1).nl) ((((z6 yJ yQ).1).l).map Sn.D) (zsl (((z6 yJ yQ).1).nl) 2) none),(33,.lsl 1 0 yR.length 2 none),(13,B true),(12,.sl (((z6 yJ yQ).1).nl) ((((z6 yJ yQ).1).l).map Sn.D) (zsl (((z6 yJ yQ).1).nl) 2) none),(32,B true),(31,.sl (((z6 yJ yQ).1).nl) ((((z6 yJ yQ).1).l).map Sn.D) (zsl (((z6 yJ yQ).1).nl) 2) none),(26,.tup [.sl (((z6 yJ yQ).1).nl) ((((z6 yJ yQ).1).l).map Sn.D) (zsl (((z6 yJ yQ).1).nl) 2) none,B ((z6 yJ yQ).2)]),(30,.tup [.sl (((z6 yJ yQ).1).nl) ((((z6 yJ yQ).1).l).map Sn.D) (zsl (((z6 yJ yQ).1).nl) 2) none,B ((z6 yJ yQ).2)]),(29,.agg [I yQ.lo,I yQ.hi]),(28,.agg [I yJ.lo,I yJ.hi]),(27,.fn (.func 92) [] []),(11,.lref 3 0 2 0),(25,.agg [I yQ.lo,I yQ.hi]),(24,.ptr (.agg [I yQ.lo,I yQ.hi])),(23,B true),(1,.sl yF.nl (yF.l.map Sn.D) (zsl yF.nl 2) none),(2,.fn (.func 92) [] []),(7,.lsl 1 0 yR.length 2 none),(9,.lref 2 0 2 0),(14,.sl a.nl (a.l.map Sn.D) (zsl a.nl 2) none),(15,I ((a.l.length:Nat):Int)),(16,I ((xi:Nat):Int)),(20,.sl yF.nl (yF.l.map Sn.D) (zsl yF.nl 2) none),(21,I ((yF.l.length:Nat):Int)),(22,I ((xx:Nat):Int))],[(2,⟨[.agg [I yJ.lo,I yJ.hi]],2,false⟩),(3,⟨[.agg [I yQ.lo,I yQ.hi]],2,false⟩),(4,⟨(yR++(((z6 yJ yQ).1).l)).map Sn.D,2,false⟩)],5,1⟩)
 | .x6 xi yJ xx yQ=>((.exit 0),⟨40,[(36,B true),(7,.sl true [] 0 none),(35,.sl true [] 0 none),(34,.sl (((z6 yJ yQ).1).nl) ((((z6 yJ yQ).1).l).map Sn.D) (zsl (((z6 yJ yQ).1).nl) 2) none),(33,.sl true [] 0 none),(13,B true),(12,.sl (((z6 yJ yQ).1).nl) ((((z6 yJ yQ).1).l).map Sn.D) (zsl (((z6 yJ yQ).1).nl) 2) none),(32,B true),(31,.sl (((z6 yJ yQ).1).nl) ((((z6 yJ yQ).1).l).map Sn.D) (zsl (((z6 yJ yQ).1).nl) 2) none),(26,.tup [.sl (((z6 yJ yQ).1).nl) ((((z6 yJ yQ).1).l).map Sn.D) (zsl (((z6 yJ yQ).1).nl) 2) none,B ((z6 yJ yQ).2)]),(30,.tup [.sl (((z6 yJ yQ).1).nl) ((((z6 yJ yQ).1).l).map Sn.D) (zsl (((z6 yJ yQ).1).nl) 2) none,B ((z6 yJ yQ).2)]),(29,.agg [I yQ.lo,I yQ.hi]),(28,.agg [I yJ.lo,I yJ.hi]),(27,.fn (.func 92) [] []),(11,.lref 2 0 2 0),(25,.agg [I yQ.lo,I yQ.hi]),(24,.ptr (.agg [I yQ.lo,I yQ.hi])),(23,B true),(1,.sl yF.nl (yF.l.map Sn.D) (zsl yF.nl 2) none),(2,.fn (.func 92) [] []),(7,.sl true [] 0 none),(9,.lref 1 0 2 0),(14,.sl a.nl (a.l.map Sn.D) (zsl a.nl 2) none),(15,I ((a.l.length:Nat):Int)),(16,I ((xi:Nat):Int)),(20,.sl yF.nl (yF.l.map Sn.D) (zsl yF.nl 2) none),(21,I ((yF.l.length:Nat):Int)),(22,I ((xx:Nat):Int))],[(1,⟨[.agg [I yJ.lo,I yJ.hi]],2,false⟩),(2,⟨[.agg [I yQ.lo,I yQ.hi]],2,false⟩)],3,1⟩)
 | .x7 xi yJ xx yQ=>((.exit 0),⟨40,[(36,B true),(7,.lsl 3 0 ((((z6 yJ yQ).1).l).length) 2 none),(35,.lsl 3 0 ((((z6 yJ yQ).1).l).length) 2 none),(34,.sl (((z6 yJ yQ).1).nl) ((((z6 yJ yQ).1).l).map Sn.D) (zsl (((z6 yJ yQ).1).nl) 2) none),(33,.sl true [] 0 none),(13,B true),(12,.sl (((z6 yJ yQ).1).nl) ((((z6 yJ yQ).1).l).map Sn.D) (zsl (((z6 yJ yQ).1).nl) 2) none),(32,B true),(31,.sl (((z6 yJ yQ).1).nl) ((((z6 yJ yQ).1).l).map Sn.D) (zsl (((z6 yJ yQ).1).nl) 2) none),(26,.tup [.sl (((z6 yJ yQ).1).nl) ((((z6 yJ yQ).1).l).map Sn.D) (zsl (((z6 yJ yQ).1).nl) 2) none,B ((z6 yJ yQ).2)]),(30,.tup [.sl (((z6 yJ yQ).1).nl) ((((z6 yJ yQ).1).l).map Sn.D) (zsl (((z6 yJ yQ).1).nl) 2) none,B ((z6 yJ yQ).2)]),(29,.agg [I yQ.lo,I yQ.hi]),(28,.agg [I yJ.lo,I yJ.hi]),(27,.fn (.func 92) [] []),(11,.lref 2 0 2 0),(25,.agg [I yQ.lo,I yQ.hi]),(24,.ptr (.agg [I yQ.lo,I yQ.hi])),(23,B true),(1,.sl yF.nl (yF.l.map Sn.D) (zsl yF.nl 2) none),(2,.fn (.func 92) [] []),(7,.sl true [] 0 none),(9,.lref 1 0 2 0),(14,.sl a.nl (a.l.map Sn.D) (zsl a.nl 2) none),(15,I ((a.l.length:Nat):Int)),(16,I ((xi:Nat):Int)),(20,.sl yF.nl (yF.l.map Sn.D) (zsl yF.nl 2) none),(21,I ((yF.l.length:Nat):Int)),(22,I ((xx:Nat):Int))],[(1,⟨[.agg [I yJ.lo,I yJ.hi]],2,false⟩),(2,⟨[.agg [I yQ.lo,I yQ.hi]],2,false⟩),(3,⟨(((z6 yJ yQ).1).l).map Sn.D,2,false⟩)],4,1⟩)
def iv_ranges_pairs_3p4 (a:GS Sn) (yF:GS Sn):LR_ranges_pairs_3p4→Prop
 | .x0 yM=>(yM.length≤65 * a.l.length)
 | .x1 xi yJ xQ x8 yX=>True
 | .x2 xi yJ xQ x8 yX=>True
 | .x3=>True
 | .x4 xi yJ xx yQ yR=>True
 | .x5 xi yJ xx yQ yR=>True
 | .x6 xi yJ xx yQ=>True
 | .x7 xi yJ xx yQ=>True
theorem lp_ranges_pairs_3p4a (a:GS Sn) (yF:GS Sn):∀ (xj:List Sn) (xi:Nat) (yM:List Sn) (xK:a.l.drop xi=xj) (hi3p4:xi≤a.l.length) (xV:a.l.length≤64) (hb65:yF.l.length≤65) (hg3p4_va3p4_0:yM.length≤65 * xi) (hL3p4:a.l.length≤1099511627776),(lim cfg).loop 87 lp87_3 ⟨40,[(1,.sl yF.nl (yF.l.map Sn.D) (zsl yF.nl 2) none),(2,.fn (.func 92) [] []),(7,.lsl 1 0 yM.length 2 none),(14,.sl a.nl (a.l.map Sn.D) (zsl a.nl 2) none),(15,I ((a.l.length:Nat):Int)),(16,I ((xi:Nat):Int))],[(1,⟨yM.map Sn.D,2,false⟩)],2,1⟩=some (lr_ranges_pairs_3p4 a yF (ranges_pairs_3p4a yF xj xi yM)):=by
 intro xj
 induction xj with
 | nil =>
  intro xi yM xK hi3p4 xV hb65 hg3p4_va3p4_0 hL3p4
  unfold ranges_pairs_3p4a
  obtain rfl:xi=a.l.length:=nil_eq xK hi3p4
  exact zy [.dec false] (Ai (lt_no xK) trivial) (by kernel_rfl)
 | cons yJ xj ih =>
  intro xi yM xK hi3p4 xV hb65 hg3p4_va3p4_0 hL3p4
  have hlt3p4:=zg xK
  unfold ranges_pairs_3p4a
  have p1:=(el_at (s:=a) (f:=Sn.D) (k:=2) xK)
  have p2:=(gc_of (C:=cfg) (f:=87) (a:=lp87_6) (ks:=[1,2,7,9,14,15,16,20,21,22]) (st:=(sd174 a xi yF yJ yM)) (st1:=(sd175 a xi yF yJ yM)) (by kernel_rfl) (by (simp only [sd174,sd175,go_sem,List.length_set,Nat.reduceAdd,Nat.reduceEqDiff,Nat.reduceLT,Nat.reduceLeDiff,bI2,zc.idsL,zc.renL,zc.snapAll,z7.idsL,z7.renL,z7.snapAll]) <;> rfl))
  cases h28:ranges_pairs_6p8 yJ yF.l 0 yM with
  | x0 yX =>
   try dsimp only
   have xH:=ivt_ranges_pairs_6p8 a xi yF yJ yF.l 0 yM (List.drop_zero) (Nat.zero_le _) (by omega) (by omega) (by omega) (by omega)
   rw [h28] at xH
   have xF:=xH
   try dsimp only [iv_ranges_pairs_6p8] at xF
   exact zN (ks:=[1,2,7,14,15,16]) (st':=(sd192 a xi yF yJ yX)) [.dec true,.el (.agg [I yJ.lo,I yJ.hi]),.rw 21 (I ((yF.l.length:Nat):Int)),.gloop (sd175 a xi yF yJ yM) (.exit 2) (sd181 a xi yF yJ yX),.rw 38 (I ((xi+1:Nat):Int))] (Ai (ya (i:=xi) (by have:=zg xK; omega)) (Ai (zF (q:=lr_ranges_pairs_6p8 a xi yF yJ) (lp_ranges_pairs_6p8 a xi yF yJ yF.l 0 yM (List.drop_zero) (Nat.zero_le _) (by omega) (by omega) (by omega) (by omega)) h28) (Ai p2 (Ai (zW Sn.D yF) (Ai p1 (Ai (yb xK) trivial)))))) (by kernel_rfl) (by (simp only [sd192,go_sem,List.length_set,Nat.reduceAdd,Nat.reduceEqDiff,Nat.reduceLT,Nat.reduceLeDiff,bI2,zc.idsL,zc.renL,zc.snapAll,z7.idsL,z7.renL,z7.snapAll]) <;> rfl) (ih (xi+1) yX (zh xK) (zg xK) (by omega) (by omega) (by omega) (by omega)) (by kernel_rfl)
  | x1 xQ x8 yX =>
   try dsimp only
   have xH:=ivt_ranges_pairs_6p8 a xi yF yJ yF.l 0 yM (List.drop_zero) (Nat.zero_le _) (by omega) (by omega) (by omega) (by omega)
   rw [h28] at xH
   have xF:=xH
   try dsimp only [iv_ranges_pairs_6p8] at xF
   exact zy [.dec true,.el (.agg [I yJ.lo,I yJ.hi]),.rw 21 (I ((yF.l.length:Nat):Int)),.gloop (sd175 a xi yF yJ yM) (.exit 0) (sd182 a xi yF yJ xQ x8 yX)] (Ai (zF (q:=lr_ranges_pairs_6p8 a xi yF yJ) (lp_ranges_pairs_6p8 a xi yF yJ yF.l 0 yM (List.drop_zero) (Nat.zero_le _) (by omega) (by omega) (by omega) (by omega)) h28) (Ai p2 (Ai (zW Sn.D yF) (Ai p1 (Ai (yb xK) trivial))))) (by kernel_rfl)
  | x2 xQ x8 yX =>
   try dsimp only
   have xH:=ivt_ranges_pairs_6p8 a xi yF yJ yF.l 0 yM (List.drop_zero) (Nat.zero_le _) (by omega) (by omega) (by omega) (by omega)
   rw [h28] at xH
   have xF:=xH
   try dsimp only [iv_ranges_pairs_6p8] at xF
   exact zy [.dec true,.el (.agg [I yJ.lo,I yJ.hi]),.rw 21 (I ((yF.l.length:Nat):Int)),.gloop (sd175 a xi yF yJ yM) (.exit 0) (sd183 a xi yF yJ xQ x8 yX)] (Ai (zF (q:=lr_ranges_pairs_6p8 a xi yF yJ) (lp_ranges_pairs_6p8 a xi yF yJ yF.l 0 yM (List.drop_zero) (Nat.zero_le _) (by omega) (by omega) (by omega) (by omega)) h28) (Ai p2 (Ai (zW Sn.D yF) (Ai p1 (Ai (yb xK) trivial))))) (by kernel_rfl)
theorem ivt_ranges_pairs_3p4a (a:GS Sn) (yF:GS Sn):∀ (xj:List Sn) (xi:Nat) (yM:List Sn) (xK:a.l.drop xi=xj) (hi3p4:xi≤a.l.length) (xV:a.l.length≤64) (hb65:yF.l.length≤65) (hg3p4_va3p4_0:yM.length≤65 * xi) (hL3p4:a.l.length≤1099511627776),iv_ranges_pairs_3p4 a yF (ranges_pairs_3p4a yF xj xi yM):=by
 intro xj
 induction xj with
 | nil =>
  intro xi yM xK hi3p4 xV hb65 hg3p4_va3p4_0 hL3p4
  unfold ranges_pairs_3p4a
  obtain rfl:xi=a.l.length:=nil_eq xK hi3p4
  exact hg3p4_va3p4_0
 | cons yJ xj ih =>
  intro xi yM xK hi3p4 xV hb65 hg3p4_va3p4_0 hL3p4
  have hlt3p4:=zg xK
  unfold ranges_pairs_3p4a
  cases h28:ranges_pairs_6p8 yJ yF.l 0 yM with
  | x0 yX =>
   try dsimp only
   have xH:=ivt_ranges_pairs_6p8 a xi yF yJ yF.l 0 yM (List.drop_zero) (Nat.zero_le _) (by omega) (by omega) (by omega) (by omega)
   rw [h28] at xH
   have xF:=xH
   try dsimp only [iv_ranges_pairs_6p8] at xF
   exact ih (xi+1) yX (zh xK) (zg xK) (by omega) (by omega) (by omega) (by omega)
  | x1 xQ x8 yX =>
   try dsimp only
   have xH:=ivt_ranges_pairs_6p8 a xi yF yJ yF.l 0 yM (List.drop_zero) (Nat.zero_le _) (by omega) (by omega) (by omega) (by omega)
   rw [h28] at xH
   have xF:=xH
   try dsimp only [iv_ranges_pairs_6p8] at xF
   exact trivial
  | x2 xQ x8 yX =>
   try dsimp only
   have xH:=ivt_ranges_pairs_6p8 a xi yF yJ yF.l 0 yM (List.drop_zero) (Nat.zero_le _) (by omega) (by omega) (by omega) (by omega)
   rw [h28] at xH
   have xF:=xH
   try dsimp only [iv_ranges_pairs_6p8] at xF
   exact trivial
theorem lp_ranges_pairs_3p4 (a:GS Sn) (yF:GS Sn):∀ (xj:List Sn) (xi:Nat) (xK:a.l.drop xi=xj) (hi3p4:xi≤a.l.length) (xV:a.l.length≤64) (hb65:yF.l.length≤65) (hL3p4:a.l.length≤1099511627776),(lim cfg).loop 87 lp87_3 ⟨40,[(1,.sl yF.nl (yF.l.map Sn.D) (zsl yF.nl 2) none),(2,.fn (.func 92) [] []),(7,.sl true [] 0 none),(14,.sl a.nl (a.l.map Sn.D) (zsl a.nl 2) none),(15,I ((a.l.length:Nat):Int)),(16,I ((xi:Nat):Int))],[],1,1⟩=some (lr_ranges_pairs_3p4 a yF (ranges_pairs_3p4 yF xj xi)):=by
 intro xj
 induction xj with
 | nil =>
  intro xi xK hi3p4 xV hb65 hL3p4
  unfold ranges_pairs_3p4
  obtain rfl:xi=a.l.length:=nil_eq xK hi3p4
  exact zy [.dec false] (Ai (lt_no xK) trivial) (by kernel_rfl)
 | cons yJ xj ih =>
  intro xi xK hi3p4 xV hb65 hL3p4
  have hlt3p4:=zg xK
  unfold ranges_pairs_3p4
  have p1:=(el_at (s:=a) (f:=Sn.D) (k:=2) xK)
  cases h41:ranges_pairs_6p9 yJ yF.l 0 with
  | x0 yR =>
   try dsimp only
   have xY:=ivt_ranges_pairs_6p9 a xi yF yJ yF.l 0 (List.drop_zero) (Nat.zero_le _) (by omega) (by omega) (by omega)
   rw [h41] at xY
   have xW:=xY
   try dsimp only [iv_ranges_pairs_6p9] at xW
   exact zN (ks:=[1,2,7,14,15,16]) (st':=(sd193 a xi yF yJ yR)) [.dec true,.el (.agg [I yJ.lo,I yJ.hi]),.rw 21 (I ((yF.l.length:Nat):Int)),.loop (.exit 2) (sd187 a xi yF yJ yR),.rw 38 (I ((xi+1:Nat):Int))] (Ai (ya (i:=xi) (by have:=zg xK; omega)) (Ai (zF (q:=lr_ranges_pairs_6p9 a xi yF yJ) (lp_ranges_pairs_6p9 a xi yF yJ yF.l 0 (List.drop_zero) (Nat.zero_le _) (by omega) (by omega) (by omega)) h41) (Ai (zW Sn.D yF) (Ai p1 (Ai (yb xK) trivial))))) (by kernel_rfl) (by (simp only [sd193,go_sem,List.length_set,Nat.reduceAdd,Nat.reduceEqDiff,Nat.reduceLT,Nat.reduceLeDiff,bI2,zc.idsL,zc.renL,zc.snapAll,z7.idsL,z7.renL,z7.snapAll]) <;> rfl) (lp_ranges_pairs_3p4a a yF _ (xi+1) yR (zh xK) (zg xK) (by omega) (by omega) (by omega) (by omega)) (by kernel_rfl)
  | x1 xx yQ yR =>
   try dsimp only
   have xY:=ivt_ranges_pairs_6p9 a xi yF yJ yF.l 0 (List.drop_zero) (Nat.zero_le _) (by omega) (by omega) (by omega)
   rw [h41] at xY
   have xW:=xY
   try dsimp only [iv_ranges_pairs_6p9] at xW
   exact zy [.dec true,.el (.agg [I yJ.lo,I yJ.hi]),.rw 21 (I ((yF.l.length:Nat):Int)),.loop (.exit 0) (sd188 a xi yF yJ xx yQ yR)] (Ai (zF (q:=lr_ranges_pairs_6p9 a xi yF yJ) (lp_ranges_pairs_6p9 a xi yF yJ yF.l 0 (List.drop_zero) (Nat.zero_le _) (by omega) (by omega) (by omega)) h41) (Ai (zW Sn.D yF) (Ai p1 (Ai (yb xK) trivial)))) (by kernel_rfl)
  | x2 xx yQ yR =>
   try dsimp only
   have xY:=ivt_ranges_pairs_6p9 a xi yF yJ yF.l 0 (List.drop_zero) (Nat.zero_le _) (by omega) (by omega) (by omega)
   rw [h41] at xY
   have xW:=xY
   try dsimp only [iv_ranges_pairs_6p9] at xW
   exact zy [.dec true,.el (.agg [I yJ.lo,I yJ.hi]),.rw 21 (I ((yF.l.length:Nat):Int)),.loop (.exit 0) (sd189 a xi yF yJ xx yQ yR)] (Ai (zF (q:=lr_ranges_pairs_6p9 a xi yF yJ) (lp_ranges_pairs_6p9 a xi yF yJ yF.l 0 (List.drop_zero) (Nat.zero_le _) (by omega) (by omega) (by omega)) h41) (Ai (zW Sn.D yF) (Ai p1 (Ai (yb xK) trivial)))) (by kernel_rfl)
  | x3 =>
   try dsimp only
   exact po_turn [.dec true,.el (.agg [I yJ.lo,I yJ.hi]),.rw 21 (I ((yF.l.length:Nat):Int)),.loop (.exit 2) (sd169 a xi yF yJ),.rw 38 (I ((xi+1:Nat):Int))] (Ai (ya (i:=xi) (by have:=zg xK; omega)) (Ai (zF (q:=lr_ranges_pairs_6p9 a xi yF yJ) (lp_ranges_pairs_6p9 a xi yF yJ yF.l 0 (List.drop_zero) (Nat.zero_le _) (by omega) (by omega) (by omega)) h41) (Ai (zW Sn.D yF) (Ai p1 (Ai (yb xK) trivial))))) (ih (xi+1) (zh xK) (zg xK) (by omega) (by omega) (by omega)) (by kernel_rfl)
  | x4 xx yQ =>
   try dsimp only
   exact zy [.dec true,.el (.agg [I yJ.lo,I yJ.hi]),.rw 21 (I ((yF.l.length:Nat):Int)),.loop (.exit 0) (sd190 a xi yF yJ xx yQ)] (Ai (zF (q:=lr_ranges_pairs_6p9 a xi yF yJ) (lp_ranges_pairs_6p9 a xi yF yJ yF.l 0 (List.drop_zero) (Nat.zero_le _) (by omega) (by omega) (by omega)) h41) (Ai (zW Sn.D yF) (Ai p1 (Ai (yb xK) trivial)))) (by kernel_rfl)
  | x5 xx yQ =>
   try dsimp only
   exact zy [.dec true,.el (.agg [I yJ.lo,I yJ.hi]),.rw 21 (I ((yF.l.length:Nat):Int)),.loop (.exit 0) (sd191 a xi yF yJ xx yQ)] (Ai (zF (q:=lr_ranges_pairs_6p9 a xi yF yJ) (lp_ranges_pairs_6p9 a xi yF yJ yF.l 0 (List.drop_zero) (Nat.zero_le _) (by omega) (by omega) (by omega)) h41) (Ai (zW Sn.D yF) (Ai p1 (Ai (yb xK) trivial)))) (by kernel_rfl)
theorem ivt_ranges_pairs_3p4 (a:GS Sn) (yF:GS Sn):∀ (xj:List Sn) (xi:Nat) (xK:a.l.drop xi=xj) (hi3p4:xi≤a.l.length) (xV:a.l.length≤64) (hb65:yF.l.length≤65) (hL3p4:a.l.length≤1099511627776),iv_ranges_pairs_3p4 a yF (ranges_pairs_3p4 yF xj xi):=by
 intro xj
 induction xj with
 | nil =>
  intro xi xK hi3p4 xV hb65 hL3p4
  unfold ranges_pairs_3p4
  obtain rfl:xi=a.l.length:=nil_eq xK hi3p4
  exact trivial
 | cons yJ xj ih =>
  intro xi xK hi3p4 xV hb65 hL3p4
  have hlt3p4:=zg xK
  unfold ranges_pairs_3p4
  cases h41:ranges_pairs_6p9 yJ yF.l 0 with
  | x0 yR =>
   try dsimp only
   have xY:=ivt_ranges_pairs_6p9 a xi yF yJ yF.l 0 (List.drop_zero) (Nat.zero_le _) (by omega) (by omega) (by omega)
   rw [h41] at xY
   have xW:=xY
   try dsimp only [iv_ranges_pairs_6p9] at xW
   exact ivt_ranges_pairs_3p4a a yF _ (xi+1) yR (zh xK) (zg xK) (by omega) (by omega) (by omega) (by omega)
  | x1 xx yQ yR =>
   try dsimp only
   have xY:=ivt_ranges_pairs_6p9 a xi yF yJ yF.l 0 (List.drop_zero) (Nat.zero_le _) (by omega) (by omega) (by omega)
   rw [h41] at xY
   have xW:=xY
   try dsimp only [iv_ranges_pairs_6p9] at xW
   exact trivial
  | x2 xx yQ yR =>
   try dsimp only
   have xY:=ivt_ranges_pairs_6p9 a xi yF yJ yF.l 0 (List.drop_zero) (Nat.zero_le _) (by omega) (by omega) (by omega)
   rw [h41] at xY
   have xW:=xY
   try dsimp only [iv_ranges_pairs_6p9] at xW
   exact trivial
  | x3 =>
   try dsimp only
   exact ih (xi+1) (zh xK) (zg xK) (by omega) (by omega) (by omega)
  | x4 xx yQ =>
   try dsimp only
   exact trivial
  | x5 xx yQ =>
   try dsimp only
   exact trivial

def zq (a:GS Sn) (b:GS Sn):Bool × Int :=
 bif ((ranges_check (GS.some [a,b])) != 0) then
  (false,(ranges_check (GS.some [a,b])))
 else
  match ranges_pairs_3p4 (ze b) a.l 0 with
  | .x0 yM =>
   bif (((yM.length:Nat):Int) == 0) then
    (true,0)
   else
    (false,0)
  | .x1 xi yJ xQ x8 yX =>
   bif (((yX.length:Nat):Int) == 0) then
    (true,0)
   else
    (false,0)
  | .x2 xi yJ xQ x8 yX =>
   bif ((((yX++(((z6 yJ x8).1).l)).length:Nat):Int) == 0) then
    (true,0)
   else
    (false,0)
  | .x3 =>
   (true,0)
  | .x4 xi yJ xx yQ yR =>
   bif (((yR.length:Nat):Int) == 0) then
    (true,0)
   else
    (false,0)
  | .x5 xi yJ xx yQ yR =>
   bif ((((yR++(((z6 yJ yQ).1).l)).length:Nat):Int) == 0) then
    (true,0)
   else
    (false,0)
  | .x6 xi yJ xx yQ =>
   (true,0)
  | .x7 xi yJ xx yQ =>
   bif ((((((z6 yJ yQ).1).l).length:Nat):Int) == 0) then
    (true,0)
   else
    (false,0)

def yy (a:GS Sn) (b:GS Sn):List Ora:=[.pure (I (ranges_check (GS.some [a,b]))),.dec false,.pure (.sl ((ze b).nl) (((ze b).l).map Sn.D) (zsl ((ze b).nl) 2) none)]

def ranges_Within_o2 (yJ:Sn) (x8:Sn) (yX:List Sn):List Ora:=[.inl (.lsl 1 0 yX.length 2 none) [(1,⟨yX.map Sn.D,2,false⟩),(2,⟨[.agg [I yJ.lo,I yJ.hi]],2,false⟩),(3,⟨[.agg [I x8.lo,I x8.hi]],2,false⟩)] 4]

def ranges_Within_o3 (yJ:Sn) (x8:Sn) (yX:List Sn):List Ora:=[.inl (.lsl 4 0 ((yX++(((z6 yJ x8).1).l)).length) 2 none) [(2,⟨[.agg [I yJ.lo,I yJ.hi]],2,false⟩),(3,⟨[.agg [I x8.lo,I x8.hi]],2,false⟩),(4,⟨(yX++(((z6 yJ x8).1).l)).map Sn.D,2,false⟩)] 5]

def ranges_Within_o4 (yJ:Sn) (yQ:Sn) (yR:List Sn):List Ora:=[.inl (.lsl 1 0 yR.length 2 none) [(1,⟨yR.map Sn.D,2,false⟩),(2,⟨[.agg [I yJ.lo,I yJ.hi]],2,false⟩),(3,⟨[.agg [I yQ.lo,I yQ.hi]],2,false⟩)] 4]

def ranges_Within_o5 (yJ:Sn) (yQ:Sn) (yR:List Sn):List Ora:=[.inl (.lsl 4 0 ((yR++(((z6 yJ yQ).1).l)).length) 2 none) [(2,⟨[.agg [I yJ.lo,I yJ.hi]],2,false⟩),(3,⟨[.agg [I yQ.lo,I yQ.hi]],2,false⟩),(4,⟨(yR++(((z6 yJ yQ).1).l)).map Sn.D,2,false⟩)] 5]

def ranges_Within_o6 (yJ:Sn) (yQ:Sn):List Ora:=[.inl (.lsl 3 0 ((((z6 yJ yQ).1).l).length) 2 none) [(1,⟨[.agg [I yJ.lo,I yJ.hi]],2,false⟩),(2,⟨[.agg [I yQ.lo,I yQ.hi]],2,false⟩),(3,⟨(((z6 yJ yQ).1).l).map Sn.D,2,false⟩)] 4]

def sd194 (a:GS Sn) (b:GS Sn) (yM:List Sn):St:=⟨40,[(17,B false),(1,.sl ((ze b).nl) (((ze b).l).map Sn.D) (zsl ((ze b).nl) 2) none),(2,.fn (.func 92) [] []),(7,.lsl 1 0 yM.length 2 none),(14,.sl a.nl (a.l.map Sn.D) (zsl a.nl 2) none),(15,I ((a.l.length:Nat):Int)),(16,I ((a.l.length:Nat):Int))],[(1,⟨yM.map Sn.D,2,false⟩)],2,1⟩

def sd195 (a:GS Sn) (b:GS Sn) (xi:Nat) (yJ:Sn) (xQ:Nat) (x8:Sn) (yX:List Sn):St:=⟨40,[(36,B true),(7,.lsl 1 0 yX.length 2 none),(35,.lsl 1 0 yX.length 2 none),(34,.sl (((z6 yJ x8).1).nl) ((((z6 yJ x8).1).l).map Sn.D) (zsl (((z6 yJ x8).1).nl) 2) none),(33,.lsl 1 0 yX.length 2 none),(13,B true),(12,.sl (((z6 yJ x8).1).nl) ((((z6 yJ x8).1).l).map Sn.D) (zsl (((z6 yJ x8).1).nl) 2) none),(32,B true),(31,.sl (((z6 yJ x8).1).nl) ((((z6 yJ x8).1).l).map Sn.D) (zsl (((z6 yJ x8).1).nl) 2) none),(26,.tup [.sl (((z6 yJ x8).1).nl) ((((z6 yJ x8).1).l).map Sn.D) (zsl (((z6 yJ x8).1).nl) 2) none,B ((z6 yJ x8).2)]),(30,.tup [.sl (((z6 yJ x8).1).nl) ((((z6 yJ x8).1).l).map Sn.D) (zsl (((z6 yJ x8).1).nl) 2) none,B ((z6 yJ x8).2)]),(29,.agg [I x8.lo,I x8.hi]),(28,.agg [I yJ.lo,I yJ.hi]),(27,.fn (.func 92) [] []),(11,.lref 3 0 2 0),(25,.agg [I x8.lo,I x8.hi]),(24,.ptr (.agg [I x8.lo,I x8.hi])),(23,B true),(1,.sl ((ze b).nl) (((ze b).l).map Sn.D) (zsl ((ze b).nl) 2) none),(2,.fn (.func 92) [] []),(7,.lsl 1 0 yX.length 2 none),(9,.lref 2 0 2 0),(14,.sl a.nl (a.l.map Sn.D) (zsl a.nl 2) none),(15,I ((a.l.length:Nat):Int)),(16,I ((xi:Nat):Int)),(20,.sl ((ze b).nl) (((ze b).l).map Sn.D) (zsl ((ze b).nl) 2) none),(21,I (((ze b).l.length:Nat):Int)),(22,I ((xQ:Nat):Int))],[(1,⟨yX.map Sn.D,2,false⟩),(2,⟨[.agg [I yJ.lo,I yJ.hi]],2,false⟩),(3,⟨[.agg [I x8.lo,I x8.hi]],2,false⟩)],4,1⟩

def sd196 (a:GS Sn) (b:GS Sn) (xi:Nat) (yJ:Sn) (xQ:Nat) (x8:Sn) (yX:List Sn):St:=⟨40,[(36,B true),(7,.lsl 4 0 ((yX++(((z6 yJ x8).1).l)).length) 2 none),(35,.lsl 4 0 ((yX++(((z6 yJ x8).1).l)).length) 2 none),(34,.sl (((z6 yJ x8).1).nl) ((((z6 yJ x8).1).l).map Sn.D) (zsl (((z6 yJ x8).1).nl) 2) none),(33,.lsl 1 0 yX.length 2 none),(13,B true),(12,.sl (((z6 yJ x8).1).nl) ((((z6 yJ x8).1).l).map Sn.D) (zsl (((z6 yJ x8).1).nl) 2) none),(32,B true),(31,.sl (((z6 yJ x8).1).nl) ((((z6 yJ x8).1).l).map Sn.D) (zsl (((z6 yJ x8).1).nl) 2) none),(26,.tup [.sl (((z6 yJ x8).1).nl) ((((z6 yJ x8).1).l).map Sn.D) (zsl (((z6 yJ x8).1).nl) 2) none,B ((z6 yJ x8).2)]),(30,.tup [.sl (((z6 yJ x8).1).nl) ((((z6 yJ x8).1).l).map Sn.D) (zsl (((z6 yJ x8).1).nl) 2) none,B ((z6 yJ x8).2)]),(29,.agg [I x8.lo,I x8.hi]),(28,.agg [I yJ.lo,I yJ.hi]),(27,.fn (.func 92) [] []),(11,.lref 3 0 2 0),(25,.agg [I x8.lo,I x8.hi]),(24,.ptr (.agg [I x8.lo,I x8.hi])),(23,B true),(1,.sl ((ze b).nl) (((ze b).l).map Sn.D) (zsl ((ze b).nl) 2) none),(2,.fn (.func 92) [] []),(7,.lsl 1 0 yX.length 2 none),(9,.lref 2 0 2 0),(14,.sl a.nl (a.l.map Sn.D) (zsl a.nl 2) none),(15,I ((a.l.length:Nat):Int)),(16,I ((xi:Nat):Int)),(20,.sl ((ze b).nl) (((ze b).l).map Sn.D) (zsl ((ze b).nl) 2) none),(21,I (((ze b).l.length:Nat):Int)),(22,I ((xQ:Nat):Int))],[(2,⟨[.agg [I yJ.lo,I yJ.hi]],2,false⟩),(3,⟨[.agg [I x8.lo,I x8.hi]],2,false⟩),(4,⟨(yX++(((z6 yJ x8).1).l)).map Sn.D,2,false⟩)],5,1⟩

def sd197 (a:GS Sn) (b:GS Sn):St:=⟨40,[(17,B false),(1,.sl ((ze b).nl) (((ze b).l).map Sn.D) (zsl ((ze b).nl) 2) none),(2,.fn (.func 92) [] []),(7,.sl true [] 0 none),(14,.sl a.nl (a.l.map Sn.D) (zsl a.nl 2) none),(15,I ((a.l.length:Nat):Int)),(16,I ((a.l.length:Nat):Int))],[],1,1⟩

def sd198 (a:GS Sn) (b:GS Sn) (xi:Nat) (yJ:Sn) (xx:Nat) (yQ:Sn) (yR:List Sn):St:=⟨40,[(36,B true),(7,.lsl 1 0 yR.length 2 none),(35,.lsl 1 0 yR.length 2 none),(34,.sl (((z6 yJ yQ).1).nl) ((((z6 yJ yQ).1).l).map Sn.D) (zsl (((z6 yJ yQ).1).nl) 2) none),(33,.lsl 1 0 yR.length 2 none),(13,B true),(12,.sl (((z6 yJ yQ).1).nl) ((((z6 yJ yQ).1).l).map Sn.D) (zsl (((z6 yJ yQ).1).nl) 2) none),(32,B true),(31,.sl (((z6 yJ yQ).1).nl) ((((z6 yJ yQ).1).l).map Sn.D) (zsl (((z6 yJ yQ).1).nl) 2) none),(26,.tup [.sl (((z6 yJ yQ).1).nl) ((((z6 yJ yQ).1).l).map Sn.D) (zsl (((z6 yJ yQ).1).nl) 2) none,B ((z6 yJ yQ).2)]),(30,.tup [.sl (((z6 yJ yQ).1).nl) ((((z6 yJ yQ).1).l).map Sn.D) (zsl (((z6 yJ yQ).1).nl) 2) none,B ((z6 yJ yQ).2)]),(29,.agg [I yQ.lo,I yQ.hi]),(28,.agg [I yJ.lo,I yJ.hi]),(27,.fn (.func 92) [] []),(11,.lref 3 0 2 0),(25,.agg [I yQ.lo,I yQ.hi]),(24,.ptr (.agg [I yQ.lo,I yQ.hi])),(23,B true),(1,.sl ((ze b).nl) (((ze b).l).map Sn.D) (zsl ((ze b).nl) 2) none),(2,.fn (.func 92) [] []),(7,.lsl 1 0 yR.length 2 none),(9,.lref 2 0 2 0),(14,.sl a.nl (a.l.map Sn.D) (zsl a.nl 2) none),(15,I ((a.l.length:Nat):Int)),(16,I ((xi:Nat):Int)),(20,.sl ((ze b).nl) (((ze b).l).map Sn.D) (zsl ((ze b).nl) 2) none),(21,I (((ze b).l.length:Nat):Int)),(22,I ((xx:Nat):Int))],[(1,⟨yR.map Sn.D,2,false⟩),(2,⟨[.agg [I yJ.lo,I yJ.hi]],2,false⟩),(3,⟨[.agg [I yQ.lo,I yQ.hi]],2,false⟩)],4,1⟩

def sd199 (a:GS Sn) (b:GS Sn) (xi:Nat) (yJ:Sn) (xx:Nat) (yQ:Sn) (yR:List Sn):St:=⟨40,[(36,B true),(7,.lsl 4 0 ((yR++(((z6 yJ yQ).1).l)).length) 2 none),(35,.lsl 4 0 ((yR++(((z6 yJ yQ).1).l)).length) 2 none),(34,.sl (((z6 yJ yQ).1).nl) ((((z6 yJ yQ).1).l).map Sn.D) (zsl (((z6 yJ yQ).1).nl) 2) none),(33,.lsl 1 0 yR.length 2 none),(13,B true),(12,.sl (((z6 yJ yQ).1).nl) ((((z6 yJ yQ).1).l).map Sn.D) (zsl (((z6 yJ yQ).1).nl) 2) none),(32,B true),(31,.sl (((z6 yJ yQ).1).nl) ((((z6 yJ yQ).1).l).map Sn.D) (zsl (((z6 yJ yQ).1).nl) 2) none),(26,.tup [.sl (((z6 yJ yQ).1).nl) ((((z6 yJ yQ).1).l).map Sn.D) (zsl (((z6 yJ yQ).1).nl) 2) none,B ((z6 yJ yQ).2)]),(30,.tup [.sl (((z6 yJ yQ).1).nl) ((((z6 yJ yQ).1).l).map Sn.D) (zsl (((z6 yJ yQ).1).nl) 2) none,B ((z6 yJ yQ).2)]),(29,.agg [I yQ.lo,I yQ.hi]),(28,.agg [I yJ.lo,I yJ.hi]),(27,.fn (.func 92) [] []),(11,.lref 3 0 2 0),(25,.agg [I yQ.lo,I yQ.hi]),(24,.ptr (.agg [I yQ.lo,I yQ.hi])),(23,B true),(1,.sl ((ze b).nl) (((ze b).l).map Sn.D) (zsl ((ze b).nl) 2) none),(2,.fn (.func 92) [] []),(7,.lsl 1 0 yR.length 2 none),(9,.lref 2 0 2 0),(14,.sl a.nl (a.l.map Sn.D) (zsl a.nl 2) none),(15,I ((a.l.length:Nat):Int)),(16,I ((xi:Nat):Int)),(20,.sl ((ze b).nl) (((ze b).l).map Sn.D) (zsl ((ze b).nl) 2) none),(21,I (((ze b).l.length:Nat):Int)),(22,I ((xx:Nat):Int))],[(2,⟨[.agg [I yJ.lo,I yJ.hi]],2,false⟩),(3,⟨[.agg [I yQ.lo,I yQ.hi]],2,false⟩),(4,⟨(yR++(((z6 yJ yQ).1).l)).map Sn.D,2,false⟩)],5,1⟩

def sd200 (a:GS Sn) (b:GS Sn) (xi:Nat) (yJ:Sn) (xx:Nat) (yQ:Sn):St:=⟨40,[(36,B true),(7,.sl true [] 0 none),(35,.sl true [] 0 none),(34,.sl (((z6 yJ yQ).1).nl) ((((z6 yJ yQ).1).l).map Sn.D) (zsl (((z6 yJ yQ).1).nl) 2) none),(33,.sl true [] 0 none),(13,B true),(12,.sl (((z6 yJ yQ).1).nl) ((((z6 yJ yQ).1).l).map Sn.D) (zsl (((z6 yJ yQ).1).nl) 2) none),(32,B true),(31,.sl (((z6 yJ yQ).1).nl) ((((z6 yJ yQ).1).l).map Sn.D) (zsl (((z6 yJ yQ).1).nl) 2) none),(26,.tup [.sl (((z6 yJ yQ).1).nl) ((((z6 yJ yQ).1).l).map Sn.D) (zsl (((z6 yJ yQ).1).nl) 2) none,B ((z6 yJ yQ).2)]),(30,.tup [.sl (((z6 yJ yQ).1).nl) ((((z6 yJ yQ).1).l).map Sn.D) (zsl (((z6 yJ yQ).1).nl) 2) none,B ((z6 yJ yQ).2)]),(29,.agg [I yQ.lo,I yQ.hi]),(28,.agg [I yJ.lo,I yJ.hi]),(27,.fn (.func 92) [] []),(11,.lref 2 0 2 0),(25,.agg [I yQ.lo,I yQ.hi]),(24,.ptr (.agg [I yQ.lo,I yQ.hi])),(23,B true),(1,.sl ((ze b).nl) (((ze b).l).map Sn.D) (zsl ((ze b).nl) 2) none),(2,.fn (.func 92) [] []),(7,.sl true [] 0 none),(9,.lref 1 0 2 0),(14,.sl a.nl (a.l.map Sn.D) (zsl a.nl 2) none),(15,I ((a.l.length:Nat):Int)),(16,I ((xi:Nat):Int)),(20,.sl ((ze b).nl) (((ze b).l).map Sn.D) (zsl ((ze b).nl) 2) none),(21,I (((ze b).l.length:Nat):Int)),(22,I ((xx:Nat):Int))],[(1,⟨[.agg [I yJ.lo,I yJ.hi]],2,false⟩),(2,⟨[.agg [I yQ.lo,I yQ.hi]],2,false⟩)],3,1⟩

def sd201 (a:GS Sn) (b:GS Sn) (xi:Nat) (yJ:Sn) (xx:Nat) (yQ:Sn):St:=⟨40,[(36,B true),(7,.lsl 3 0 ((((z6 yJ yQ).1).l).length) 2 none),(35,.lsl 3 0 ((((z6 yJ yQ).1).l).length) 2 none),(34,.sl (((z6 yJ yQ).1).nl) ((((z6 yJ yQ).1).l).map Sn.D) (zsl (((z6 yJ yQ).1).nl) 2) none),(33,.sl true [] 0 none),(13,B true),(12,.sl (((z6 yJ yQ).1).nl) ((((z6 yJ yQ).1).l).map Sn.D) (zsl (((z6 yJ yQ).1).nl) 2) none),(32,B true),(31,.sl (((z6 yJ yQ).1).nl) ((((z6 yJ yQ).1).l).map Sn.D) (zsl (((z6 yJ yQ).1).nl) 2) none),(26,.tup [.sl (((z6 yJ yQ).1).nl) ((((z6 yJ yQ).1).l).map Sn.D) (zsl (((z6 yJ yQ).1).nl) 2) none,B ((z6 yJ yQ).2)]),(30,.tup [.sl (((z6 yJ yQ).1).nl) ((((z6 yJ yQ).1).l).map Sn.D) (zsl (((z6 yJ yQ).1).nl) 2) none,B ((z6 yJ yQ).2)]),(29,.agg [I yQ.lo,I yQ.hi]),(28,.agg [I yJ.lo,I yJ.hi]),(27,.fn (.func 92) [] []),(11,.lref 2 0 2 0),(25,.agg [I yQ.lo,I yQ.hi]),(24,.ptr (.agg [I yQ.lo,I yQ.hi])),(23,B true),(1,.sl ((ze b).nl) (((ze b).l).map Sn.D) (zsl ((ze b).nl) 2) none),(2,.fn (.func 92) [] []),(7,.sl true [] 0 none),(9,.lref 1 0 2 0),(14,.sl a.nl (a.l.map Sn.D) (zsl a.nl 2) none),(15,I ((a.l.length:Nat):Int)),(16,I ((xi:Nat):Int)),(20,.sl ((ze b).nl) (((ze b).l).map Sn.D) (zsl ((ze b).nl) 2) none),(21,I (((ze b).l.length:Nat):Int)),(22,I ((xx:Nat):Int))],[(1,⟨[.agg [I yJ.lo,I yJ.hi]],2,false⟩),(2,⟨[.agg [I yQ.lo,I yQ.hi]],2,false⟩),(3,⟨(((z6 yJ yQ).1).l).map Sn.D,2,false⟩)],4,1⟩

theorem T_ranges_Within (a:GS Sn) (b:GS Sn) (hLa:a.l.length≤9223372036854775807) (hLb:b.l.length≤9223372036854775807) (hL_b:b.l.length≤1099511627776):(lim cfg).pure 35 [GS.D Sn.D 2 a,GS.D Sn.D 2 b]=some (.tup [B ((zq a b).1),I ((zq a b).2)]):=by
 unfold zq
 have p1:=(T_ranges_check (GS.some [a,b]) (by exact two_bd (by omega) (by omega)) (by simp only [yw,GS.some_l,List.length_set,List.length_append,List.length_cons,List.length_nil] at * <;> first | with_reducible assumption | omega))
 cases h1:((ranges_check (GS.some [a,b])) != 0) with
 | true =>
  have g1:=bne_true h1
  exact zo [.pure (I (ranges_check (GS.some [a,b]))),.dec true] (Ai h1 (Ai p1 trivial)) (by kernel_rfl)
 | false =>
  have g1:=check2_len (bne_false h1)
  have p2:=(T_ranges_outside b (by omega) (by omega))
  cases h42:ranges_pairs_3p4 (ze b) a.l 0 with
  | x0 yM =>
   try dsimp only
   have hv_h42:=ivt_ranges_pairs_3p4 a (ze b) a.l 0 (List.drop_zero) (Nat.zero_le _) (by omega) (by exact outside_len _ (by omega)) (by omega)
   rw [h42] at hv_h42
   have hv_h42_0:=hv_h42
   try dsimp only [iv_ranges_pairs_3p4] at hv_h42_0
   have p3:=(show (lim cfg).inl 87 [.sl a.nl (a.l.map Sn.D) (zsl a.nl 2) none,.sl ((ze b).nl) (((ze b).l).map Sn.D) (zsl ((ze b).nl) 2) none,.fn (.func 92) [] []] [] 1=some (.lsl 1 0 yM.length 2 none,[(1,⟨yM.map Sn.D,2,false⟩)],2) from zH [.rw 15 (I ((a.l.length:Nat):Int)),.loop (.exit 0) (sd194 a b yM)] (Ai (zF (q:=lr_ranges_pairs_3p4 a (ze b)) (lp_ranges_pairs_3p4 a (ze b) a.l 0 (List.drop_zero) (Nat.zero_le _) (by omega) (by exact outside_len _ (by omega)) (by omega)) h42) (Ai (zW Sn.D a) trivial)) (by kernel_rfl))
   cases h43:(((yM.length:Nat):Int) == 0) with
   | true =>
    have g43:=eq_of_beq h43
    exact zo ((yy a b)++[.inl (.lsl 1 0 yM.length 2 none) [(1,⟨yM.map Sn.D,2,false⟩)] 2,.dec true]) (Ai h43 (Ai p3 (Ai p2 (Ai h1 (Ai p1 trivial))))) (by kernel_rfl)
   | false =>
    have g43:=ne_of_beq_false h43
    exact zo ((yy a b)++[.inl (.lsl 1 0 yM.length 2 none) [(1,⟨yM.map Sn.D,2,false⟩)] 2,.dec false]) (Ai h43 (Ai p3 (Ai p2 (Ai h1 (Ai p1 trivial))))) (by kernel_rfl)
  | x1 xi yJ xQ x8 yX =>
   try dsimp only
   have p4:=(show (lim cfg).inl 87 [.sl a.nl (a.l.map Sn.D) (zsl a.nl 2) none,.sl ((ze b).nl) (((ze b).l).map Sn.D) (zsl ((ze b).nl) 2) none,.fn (.func 92) [] []] [] 1=some (.lsl 1 0 yX.length 2 none,[(1,⟨yX.map Sn.D,2,false⟩),(2,⟨[.agg [I yJ.lo,I yJ.hi]],2,false⟩),(3,⟨[.agg [I x8.lo,I x8.hi]],2,false⟩)],4) from zH [.rw 15 (I ((a.l.length:Nat):Int)),.loop (.exit 0) (sd195 a b xi yJ xQ x8 yX)] (Ai (zF (q:=lr_ranges_pairs_3p4 a (ze b)) (lp_ranges_pairs_3p4 a (ze b) a.l 0 (List.drop_zero) (Nat.zero_le _) (by omega) (by exact outside_len _ (by omega)) (by omega)) h42) (Ai (zW Sn.D a) trivial)) (by kernel_rfl))
   cases h44:(((yX.length:Nat):Int) == 0) with
   | true =>
    have g44:=eq_of_beq h44
    exact zo ((yy a b)++((ranges_Within_o2 yJ x8 yX)++[.dec true])) (Ai h44 (Ai p4 (Ai p2 (Ai h1 (Ai p1 trivial))))) (by kernel_rfl)
   | false =>
    have g44:=ne_of_beq_false h44
    exact zo ((yy a b)++((ranges_Within_o2 yJ x8 yX)++[.dec false])) (Ai h44 (Ai p4 (Ai p2 (Ai h1 (Ai p1 trivial))))) (by kernel_rfl)
  | x2 xi yJ xQ x8 yX =>
   try dsimp only
   have p5:=(show (lim cfg).inl 87 [.sl a.nl (a.l.map Sn.D) (zsl a.nl 2) none,.sl ((ze b).nl) (((ze b).l).map Sn.D) (zsl ((ze b).nl) 2) none,.fn (.func 92) [] []] [] 1=some (.lsl 4 0 ((yX++(((z6 yJ x8).1).l)).length) 2 none,[(2,⟨[.agg [I yJ.lo,I yJ.hi]],2,false⟩),(3,⟨[.agg [I x8.lo,I x8.hi]],2,false⟩),(4,⟨(yX++(((z6 yJ x8).1).l)).map Sn.D,2,false⟩)],5) from zH [.rw 15 (I ((a.l.length:Nat):Int)),.loop (.exit 0) (sd196 a b xi yJ xQ x8 yX)] (Ai (zF (q:=lr_ranges_pairs_3p4 a (ze b)) (lp_ranges_pairs_3p4 a (ze b) a.l 0 (List.drop_zero) (Nat.zero_le _) (by omega) (by exact outside_len _ (by omega)) (by omega)) h42) (Ai (zW Sn.D a) trivial)) (by kernel_rfl))
   cases h45:((((yX++(((z6 yJ x8).1).l)).length:Nat):Int) == 0) with
   | true =>
    have g45:=eq_of_beq h45
    exact zo ((yy a b)++((ranges_Within_o3 yJ x8 yX)++[.dec true])) (Ai h45 (Ai p5 (Ai p2 (Ai h1 (Ai p1 trivial))))) (by kernel_rfl)
   | false =>
    have g45:=ne_of_beq_false h45
    exact zo ((yy a b)++((ranges_Within_o3 yJ x8 yX)++[.dec false])) (Ai h45 (Ai p5 (Ai p2 (Ai h1 (Ai p1 trivial))))) (by kernel_rfl)
  | x3 =>
   try dsimp only
   exact zo ((yy a b)++[.inl (.sl true [] 0 none) [] 1,.dec true]) (Ai (Eq.refl true) (Ai (show (lim cfg).inl 87 [.sl a.nl (a.l.map Sn.D) (zsl a.nl 2) none,.sl ((ze b).nl) (((ze b).l).map Sn.D) (zsl ((ze b).nl) 2) none,.fn (.func 92) [] []] [] 1=some (.sl true [] 0 none,[],1) from zH [.rw 15 (I ((a.l.length:Nat):Int)),.loop (.exit 0) (sd197 a b)] (Ai (zF (q:=lr_ranges_pairs_3p4 a (ze b)) (lp_ranges_pairs_3p4 a (ze b) a.l 0 (List.drop_zero) (Nat.zero_le _) (by omega) (by exact outside_len _ (by omega)) (by omega)) h42) (Ai (zW Sn.D a) trivial)) (by kernel_rfl)) (Ai p2 (Ai h1 (Ai p1 trivial))))) (by kernel_rfl)
  | x4 xi yJ xx yQ yR =>
   try dsimp only
   have p6:=(show (lim cfg).inl 87 [.sl a.nl (a.l.map Sn.D) (zsl a.nl 2) none,.sl ((ze b).nl) (((ze b).l).map Sn.D) (zsl ((ze b).nl) 2) none,.fn (.func 92) [] []] [] 1=some (.lsl 1 0 yR.length 2 none,[(1,⟨yR.map Sn.D,2,false⟩),(2,⟨[.agg [I yJ.lo,I yJ.hi]],2,false⟩),(3,⟨[.agg [I yQ.lo,I yQ.hi]],2,false⟩)],4) from zH [.rw 15 (I ((a.l.length:Nat):Int)),.loop (.exit 0) (sd198 a b xi yJ xx yQ yR)] (Ai (zF (q:=lr_ranges_pairs_3p4 a (ze b)) (lp_ranges_pairs_3p4 a (ze b) a.l 0 (List.drop_zero) (Nat.zero_le _) (by omega) (by exact outside_len _ (by omega)) (by omega)) h42) (Ai (zW Sn.D a) trivial)) (by kernel_rfl))
   cases h46:(((yR.length:Nat):Int) == 0) with
   | true =>
    have g46:=eq_of_beq h46
    exact zo ((yy a b)++((ranges_Within_o4 yJ yQ yR)++[.dec true])) (Ai h46 (Ai p6 (Ai p2 (Ai h1 (Ai p1 trivial))))) (by kernel_rfl)
   | false =>
    have g46:=ne_of_beq_false h46
    exact zo ((yy a b)++((ranges_Within_o4 yJ yQ yR)++[.dec false])) (Ai h46 (Ai p6 (Ai p2 (Ai h1 (Ai p1 trivial))))) (by kernel_rfl)
  | x5 xi yJ xx yQ yR =>
   try dsimp only
   have p7:=(show (lim cfg).inl 87 [.sl a.nl (a.l.map Sn.D) (zsl a.nl 2) none,.sl ((ze b).nl) (((ze b).l).map Sn.D) (zsl ((ze b).nl) 2) none,.fn (.func 92) [] []] [] 1=some (.lsl 4 0 ((yR++(((z6 yJ yQ).1).l)).length) 2 none,[(2,⟨[.agg [I yJ.lo,I yJ.hi]],2,false⟩),(3,⟨[.agg [I yQ.lo,I yQ.hi]],2,false⟩),(4,⟨(yR++(((z6 yJ yQ).1).l)).map Sn.D,2,false⟩)],5) from zH [.rw 15 (I ((a.l.length:Nat):Int)),.loop (.exit 0) (sd199 a b xi yJ xx yQ yR)] (Ai (zF (q:=lr_ranges_pairs_3p4 a (ze b)) (lp_ranges_pairs_3p4 a (ze b) a.l 0 (List.drop_zero) (Nat.zero_le _) (by omega) (by exact outside_len _ (by omega)) (by omega)) h42) (Ai (zW Sn.D a) trivial)) (by kernel_rfl))
   cases h47:((((yR++(((z6 yJ yQ).1).l)).length:Nat):Int) == 0) with
   | true =>
    have g47:=eq_of_beq h47
    exact zo ((yy a b)++((ranges_Within_o5 yJ yQ yR)++[.dec true])) (Ai h47 (Ai p7 (Ai p2 (Ai h1 (Ai p1 trivial))))) (by kernel_rfl)
   | false =>
    have g47:=ne_of_beq_false h47
    exact zo ((yy a b)++((ranges_Within_o5 yJ yQ yR)++[.dec false])) (Ai h47 (Ai p7 (Ai p2 (Ai h1 (Ai p1 trivial))))) (by kernel_rfl)
  | x6 xi yJ xx yQ =>
   try dsimp only
   exact zo ((yy a b)++[.inl (.sl true [] 0 none) [(1,⟨[.agg [I yJ.lo,I yJ.hi]],2,false⟩),(2,⟨[.agg [I yQ.lo,I yQ.hi]],2,false⟩)] 3,.dec true]) (Ai (Eq.refl true) (Ai (show (lim cfg).inl 87 [.sl a.nl (a.l.map Sn.D) (zsl a.nl 2) none,.sl ((ze b).nl) (((ze b).l).map Sn.D) (zsl ((ze b).nl) 2) none,.fn (.func 92) [] []] [] 1=some (.sl true [] 0 none,[(1,⟨[.agg [I yJ.lo,I yJ.hi]],2,false⟩),(2,⟨[.agg [I yQ.lo,I yQ.hi]],2,false⟩)],3) from zH [.rw 15 (I ((a.l.length:Nat):Int)),.loop (.exit 0) (sd200 a b xi yJ xx yQ)] (Ai (zF (q:=lr_ranges_pairs_3p4 a (ze b)) (lp_ranges_pairs_3p4 a (ze b) a.l 0 (List.drop_zero) (Nat.zero_le _) (by omega) (by exact outside_len _ (by omega)) (by omega)) h42) (Ai (zW Sn.D a) trivial)) (by kernel_rfl)) (Ai p2 (Ai h1 (Ai p1 trivial))))) (by kernel_rfl)
  | x7 xi yJ xx yQ =>
   try dsimp only
   have p8:=(show (lim cfg).inl 87 [.sl a.nl (a.l.map Sn.D) (zsl a.nl 2) none,.sl ((ze b).nl) (((ze b).l).map Sn.D) (zsl ((ze b).nl) 2) none,.fn (.func 92) [] []] [] 1=some (.lsl 3 0 ((((z6 yJ yQ).1).l).length) 2 none,[(1,⟨[.agg [I yJ.lo,I yJ.hi]],2,false⟩),(2,⟨[.agg [I yQ.lo,I yQ.hi]],2,false⟩),(3,⟨(((z6 yJ yQ).1).l).map Sn.D,2,false⟩)],4) from zH [.rw 15 (I ((a.l.length:Nat):Int)),.loop (.exit 0) (sd201 a b xi yJ xx yQ)] (Ai (zF (q:=lr_ranges_pairs_3p4 a (ze b)) (lp_ranges_pairs_3p4 a (ze b) a.l 0 (List.drop_zero) (Nat.zero_le _) (by omega) (by exact outside_len _ (by omega)) (by omega)) h42) (Ai (zW Sn.D a) trivial)) (by kernel_rfl))
   cases h48:((((((z6 yJ yQ).1).l).length:Nat):Int) == 0) with
   | true =>
    have g48:=eq_of_beq h48
    exact zo ((yy a b)++((ranges_Within_o6 yJ yQ)++[.dec true])) (Ai h48 (Ai p8 (Ai p2 (Ai h1 (Ai p1 trivial))))) (by kernel_rfl)
   | false =>
    have g48:=ne_of_beq_false h48
    exact zo ((yy a b)++((ranges_Within_o6 yJ yQ)++[.dec false])) (Ai h48 (Ai p8 (Ai p2 (Ai h1 (Ai p1 trivial))))) (by kernel_rfl)
end Go.VS

namespace Go.VS
open Go
set_option maxHeartbeats 0
def Di (m z:Int):Int:=max (z - m) (m - z)
def Nst (m:Int) (S:Int→Prop) (v:Int):Prop:=S v∧∀ z,S z→Di m v≤Di m z∧(Di m z=Di m v→v≤z)
theorem Nst.congr {m:Int} {S T:Int→Prop} {v:Int} (h:Nst m S v) (e:∀ z,S z↔T z):Nst m T v:=⟨(e v).1 h.1,fun z hz=>h.2 z ((e z).2 hz)⟩
end Go.VS

namespace Go.VS
open Go
section
variable {r:GS Sn} (h:r_Valid r=true)
include h
end
end Go.VS

namespace Go.VS
open Go
def takeR (r:GS Sn) (e:Int):GS Sn:=bif (e == 2) then GS.nil else r
def takeL (L:Bool) (e:Int):Bool:=bif (e == 2) then true else L
def holdsB (L z:Bool):Bool:=bif L then true else z
def Tkn (r:GS Sn) (e:Int):Prop:=(e=2∧r=GS.nil) ∨ (e=0∧Ok r.l)
theorem tk_e {r:GS Sn} {e:Int} (h:Tkn r e) (h2:(e == 2)=false):(e != 0)=false:=by
 rcases h with ⟨rfl,_⟩ | ⟨rfl,_⟩
 ·cases h2
 ·rfl
theorem tk_r {r:GS Sn} {e:Int} (h:Tkn r e) (h2:(e == 2)=false):((r_Check r) != 0)=false:=by
 rcases h with ⟨rfl,_⟩ | ⟨rfl,h⟩
 ·cases h2
 ·rw [← same_check,check_iff.2 h]; rfl
theorem tkn_len {r:GS Sn} {e:Int} (h:Tkn r e):r.l.length≤9223372036854775807:=by
 rcases h with ⟨_,rfl⟩ | ⟨_,h⟩
 ·simp [GS.nil]
 ·exact Nat.le_trans h.2.2 (by decide)
theorem ok64 {r:GS Sn} (h:Ok r.l):r.l.length≤64:=h.2.2
theorem ok_nil:Ok (GS.nil:GS Sn).l:=⟨trivial,(fun s hs=>by cases hs),by simp [GS.nil]⟩
theorem ok_take {r:GS Sn} {e:Int} (h:Tkn r e):Ok (takeR r e).l:=by
 unfold takeR
 rcases h with ⟨rfl,_⟩ | ⟨rfl,h⟩
 ·exact ok_nil
 ·exact h
theorem tk_res {S:Int→Prop} {res:GS Sn × Int} (h:Res S res):Tkn res.1 res.2:=by
 rcases h with ⟨h1,h2,_⟩ | h
 ·exact .inr ⟨h1,h2⟩
 ·rw [h]; exact .inl ⟨rfl,rfl⟩
def Tk (L:Bool) (S:Int→Prop) (r:GS Sn):Prop:=L=true ∨ (Ok r.l∧Rg S r.l)
theorem Tk.take {L:Bool} {S:Int→Prop} {res:GS Sn × Int} (h:Res S res):Tk (takeL L res.2) S (takeR res.1 res.2):=by
 unfold takeL takeR
 rcases h with ⟨h1,h2,h3⟩ | h
 ·right; rw [h1]; exact ⟨h2,h3⟩
 ·left; rw [h]; rfl
theorem Tk.up {L:Bool} {S:Int→Prop} {r:GS Sn} (h:Tk L S r) (e:Int):Tk (takeL L e) S r:=by
 unfold takeL
 rcases h with h | h
 ·left; rw [h]; cases (e == 2) <;> rfl
 ·exact .inr h
theorem holds_of {L z:Bool} (h:L=true ∨ z=true):holdsB L z=true:=by
 unfold holdsB
 rcases h with h | h <;> rw [h]
 ·rfl
 ·cases L <;> rfl
end Go.VS

namespace Go.VS
open Go
set_option maxHeartbeats 0

def ofF (s:Sn):List Sn:=someS s.lo s.hi
def sh1 (k:Int) (s:Sn):List Sn:=(zG s k).l
theorem each3c_eq (k:Int):∀ (l v:List Sn),yx k l v=.x0 (v++l.flatMap (sh1 k))
 | [],v=>by simp [yx]
 | y::l,v=>by
  unfold yx
  rw [emp_app (fun z=>yx k l z),each3c_eq k l _,List.flatMap_cons,List.append_assoc,Bool.cond_self]; rfl
theorem each3a'_eq (k:Int):∀ (l v:List Sn),ranges_each_3p1a k l v=.x0 (v++l.flatMap (sh1 k)) ∨ ranges_each_3p1a k l v=.x1 (v++l.flatMap (sh1 k))
 | [],v=>by right; simp [ranges_each_3p1a]
 | y::l,v=>by
  unfold ranges_each_3p1a
  rw [emp_app (fun z=>ranges_each_3p1a k l z),emp_app (fun z=>yx k l z),each3c_eq k l _,List.flatMap_cons,← List.append_assoc]
  cases (zG y k).nl with
  | false=>exact .inl rfl
  | true=>exact each3a'_eq k l _
theorem each3b_eq (k:Int):∀ (l:List Sn),(l.flatMap (sh1 k)=[]∧ranges_each_3p1b k l=.x2) ∨ (l.flatMap (sh1 k) ≠ []∧ranges_each_3p1b k l=.x0 (l.flatMap (sh1 k)))
 | []=>.inl ⟨rfl,rfl⟩
 | y::l=>by
  unfold ranges_each_3p1b
  rw [Bool.cond_self]
  cases h:((zG y k).l).isEmpty with
  | true =>
   rw [flat_cons_emp (f:=sh1 k) h]
   exact each3b_eq k l
  | false =>
   right
   simp only [cond_false]
   rw [each3c_eq,List.flatMap_cons]
   refine ⟨fun z=>?_,rfl⟩
   have h2:(zG y k).l=[]:=(List.append_eq_nil_iff.1 z).1
   rw [h2] at h; cases h
theorem each3'_eq (k:Int):∀ (l:List Sn),(l.flatMap (sh1 k)=[]∧(ranges_each_3p1 k l=.x2 ∨ ranges_each_3p1 k l=.x3)) ∨ (l.flatMap (sh1 k) ≠ []∧(ranges_each_3p1 k l=.x0 (l.flatMap (sh1 k)) ∨ ranges_each_3p1 k l=.x1 (l.flatMap (sh1 k))))
 | []=>.inl ⟨rfl,.inr rfl⟩
 | y::l=>by
  unfold ranges_each_3p1
  cases h:((zG y k).l).isEmpty with
  | true =>
   rw [flat_cons_emp (f:=sh1 k) h]
   cases (zG y k).nl with
   | true=>exact each3'_eq k l
   | false =>
    rcases each3b_eq k l with ⟨h1,h2⟩ | ⟨h1,h2⟩
    ·exact .inl ⟨h1,.inl h2⟩
    ·exact .inr ⟨h1,.inl h2⟩
  | false =>
   right
   refine ⟨fun z=>?_,?_⟩
   ·rw [List.flatMap_cons] at z
    have h2:(zG y k).l=[]:=(List.append_eq_nil_iff.1 z).1
    rw [h2] at h; cases h
   ·rw [List.flatMap_cons]
    cases (zG y k).nl with
    | true=>exact each3a'_eq k l _
    | false=>exact .inl (each3c_eq k l _)
theorem Shift_emp {r:GS Sn} {k:Int} (h:r.l=[]):ranges_Shift r k=(GS.nil,0):=by
 have hr:Ok r.l:=by rw [h]; exact ⟨trivial,(fun s hs=>by cases hs),by simp⟩
 unfold ranges_Shift
 rw [check_iff.2 hr,h]
 rfl
theorem Shift_far {r:GS Sn} {k:Int} (hr:Ok r.l) (h:r.l ≠ []) (hk:¬ (-2199023255552≤k∧k≤2199023255552)):ranges_Shift r k=(GS.nil,2):=by
 unfold ranges_Shift
 have e:ranges_in k (-2199023255552) 2199023255552=false:=by
  cases h:ranges_in k (-2199023255552) 2199023255552
  ·rfl
  ·exact absurd (in_iff.1 h) hk
 have hp:decide (((r.l.length:Nat):Int) > 0)=true:=decide_eq_true (by have:=List.length_pos_iff.2 h; omega)
 rw [check_iff.2 hr,e,hp]; rfl
theorem shi_len (k:Int):∀ l:List Sn,(l.flatMap (sh1 k)).length≤l.length
 | []=>Nat.le_refl _
 | y::l=>by
  rw [List.flatMap_cons,List.length_append,List.length_cons]
  have:=shi_len k l
  have:(sh1 k y).length≤1:=shift1_len _ _
  omega
theorem Shift_gr {r:GS Sn} {k:Int} (hr:Ok r.l) (hk:-2199023255552≤k∧k≤2199023255552):GR (shiL r.l k) (ranges_Shift r k):=by
 by_cases hne:r.l=[]
 ·rw [Shift_emp hne,hne]; exact GR_nil
 have hq:r.l.flatMap (sh1 k)=shiL r.l k:=by
  have:∀ l:List Sn,(∀ s∈l,s.lo≤s.hi∧-1099511627776≤s.lo∧s.hi≤1099511627776)→l.flatMap (sh1 k)=shiL l k:=by
   intro l
   induction l with
   | nil=>intro _; rfl
   | cons s l ih =>
    intro h
    have hs:=h s List.mem_cons_self
    rw [List.flatMap_cons,ih fun t ht=>h t (List.mem_cons_of_mem _ ht)]
    unfold sh1 zG
    rw [y9 (by omega) (by omega),y9 (by omega) (by omega),some_l]
    unfold shiL
    rw [List.flatMap_cons]
  exact this r.l fun s hs=>(by have h1:=cn_mem hr.1 hs; have h2:=hr.2.1 s hs; omega)
 have hp:decide (((r.l.length:Nat):Int) > 0)=true:=decide_eq_true (by have:=List.length_pos_iff.2 hne; omega)
 unfold ranges_Shift
 rw [check_iff.2 hr,hp,in_iff.2 hk]
 simp only [bne_self_eq_false,cond_false,cond_true]
 have hl:=shi_len k r.l
 have hl2:=hr.2.2
 rw [← hq]
 rcases each3'_eq k r.l with ⟨k1,k2 | k2⟩ | ⟨k1,k2 | k2⟩ <;> rw [k2] <;> dsimp only
 ·rw [k1]; exact GR_nil
 ·rw [k1]; exact GR_nil
 ·generalize r.l.flatMap (sh1 k)=q at *
  rcases ranges_gathered_4p1_at (l:=q) k1 (by omega) with ⟨g1,g2⟩ | ⟨g1,g2⟩
  ·rw [g2]; exact GR_end g1
  ·refine .inr ⟨.inl g1,?_⟩
   revert g2
   cases zA (zz zx q) 0 <;> intro g2 <;> first | rfl | cases g2
 ·generalize r.l.flatMap (sh1 k)=q at *
  rcases ranges_gathered_4p1_at (l:=q) k1 (by omega) with ⟨g1,g2⟩ | ⟨g1,g2⟩
  ·rw [g2]; exact GR_end g1
  ·refine .inr ⟨.inl g1,?_⟩
   revert g2
   cases zA (zz zx q) 0 <;> intro g2 <;> first | rfl | cases g2
theorem shift_res {r:GS Sn} {k:Int} (hr:Ok r.l):Res (fun x=>In r.l (x - k)) (ranges_Shift r k):=by
 by_cases hk:-2199023255552≤k∧k≤2199023255552
 ·exact ((Shift_gr hr hk).res (flat_ne fun a _=>some_ne)).congr fun x=>In_shift
 ·by_cases hne:r.l=[]
  ·rw [Shift_emp hne,hne]
   exact .inl ⟨rfl,⟨trivial,(fun s hs=>by cases hs),by simp [GS.nil]⟩,trivial,fun x=>⟨fun h=>absurd h In_nil,fun h=>absurd h In_nil⟩⟩
  ·rw [Shift_far hr hne hk]; exact .inr rfl

theorem within1 (x y:Sn):((z6 x y).1).l=comF x y∧(z6 x y).2=!(comF x y).isEmpty:=by
 have e:(zd (zl x.lo y.lo) (imin x.hi y.hi)).l=comF x y:=by rw [some_l,imax_eq,imin_eq]; rfl
 unfold z6
 rw [e]
 cases h:comF x y with
 | nil=>exact ⟨e.trans h,rfl⟩
 | cons s l =>
  rw [decide_eq_true (by simp only [List.length_cons]; omega)]
  exact ⟨e.trans h,rfl⟩
theorem p69_eq (x:Sn):∀ (l:List Sn) (i:Nat),(l.flatMap (comF x)=[]∧ranges_pairs_6p9 x l i=.x3) ∨ (∃ j y,ranges_pairs_6p9 x l i=.x5 j y∧comF x y ≠ []∧l.flatMap (comF x) ≠ [])
 | [],i=>.inl ⟨rfl,rfl⟩
 | y::l,i=>by
  unfold ranges_pairs_6p9
  rw [(within1 x y).1,(within1 x y).2]
  cases h:(comF x y).isEmpty with
  | true =>
   rw [flat_cons_emp h]
   exact p69_eq x l (i+1)
  | false =>
   right
   have hne:comF x y ≠ []:=by simpa using h
   refine ⟨i,y,rfl,hne,fun k=>?_⟩
   rw [List.flatMap_cons] at k
   exact hne (List.append_eq_nil_iff.1 k).1
theorem p34_eq (q:GS Sn):∀ (l:List Sn) (i:Nat),(pairsL l q.l comF=[]∧ranges_pairs_3p4 q l i=.x3) ∨ (∃ j x k y,ranges_pairs_3p4 q l i=.x7 j x k y∧comF x y ≠ []∧pairsL l q.l comF ≠ [])
 | [],i=>.inl ⟨rfl,rfl⟩
 | x::l,i=>by
  unfold ranges_pairs_3p4
  have e:pairsL (x::l) q.l comF=q.l.flatMap (comF x)++pairsL l q.l comF:=rfl
  rw [e]
  rcases p69_eq x q.l 0 with ⟨h1,h2⟩ | ⟨j,y,h2,h3,h4⟩ <;> rw [h2] <;> dsimp only
  ·rw [h1]; exact p34_eq q l (i+1)
  ·exact .inr ⟨i,x,j,y,rfl,h3,fun k=>h4 (List.append_eq_nil_iff.1 k).1⟩
theorem within_ok {a b:GS Sn} (ha:Ok a.l) (hb:Ok b.l):∃ z,zq a b=(z,0)∧(z=true↔∀ x,In a.l x→In b.l x):=by
 unfold zq
 rw [check2_iff.2 ⟨ha,hb⟩]
 simp only [bne_self_eq_false,cond_false]
 have w:=within_iff ha.1 ha.2.1 hb.1 hb.2.1
 rw [← outside_eq hb.2.1] at w
 rcases p34_eq (ze b) a.l 0 with ⟨h1,h2⟩ | ⟨j,x,k,y,h2,h3,h4⟩ <;> rw [h2] <;> dsimp only
 ·exact ⟨true,rfl,fun _=>w.1 h1,fun _=>rfl⟩
 ·rw [(within1 x y).1]
  refine ⟨false,?_,fun z=>(by cases z),fun z=>absurd (w.2 z) h4⟩
  cases hc:comF x y with
  | nil=>exact absurd hc h3
  | cons s l =>
   have:((((s::l).length:Nat):Int) == 0)=false:=by simp only [List.length_cons]; exact beq_eq_false_iff_ne.2 (by omega)
   rw [this]; rfl
end Go.VS

namespace Go.VS
open Go
set_option maxHeartbeats 0
end Go.VS

namespace Go.VS
open Go
set_option maxHeartbeats 0
theorem Tk.lift {L:Bool} {S:Int→Prop} {res:GS Sn × Int} (h:L=true ∨ Res S res):Tk (takeL L res.2) S (takeR res.1 res.2):=by
 rcases h with h | h
 ·left; rw [h]; unfold takeL; cases (res.2 == 2) <;> rfl
 ·exact Tk.take h
theorem Tk.base {L:Bool} {r:GS Sn} (h:Ok r.l):Tk L (In r.l) r:=.inr ⟨h,h.1,fun _=>Iff.rfl⟩
section
variable {L:Bool} {S T:Int→Prop} {a b:GS Sn}
theorem Tk.shift (k:Int) (ha:Tk L S a):Tk (takeL L (ranges_Shift a k).2) (fun x=>S (x - k)) (takeR (ranges_Shift a k).1 (ranges_Shift a k).2):=by
 refine Tk.lift ?_
 rcases ha with h | ⟨ha,ra⟩
 ·exact .inl h
 exact .inr ((shift_res ha).congr fun x=>ra.2 _)
theorem Tk.same (ha:Tk L S a) (hb:Tk L T b) (h:∀ x,S x↔T x):holdsB L (r_Same a b)=true:=by
 refine holds_of ?_
 rcases ha with h | ⟨ha,ra⟩
 ·exact .inl h
 rcases hb with h | ⟨hb,rb⟩
 ·exact .inl h
 exact .inr (same_refl (ra.eq rb h))
theorem err_within0 (ha:Ok a.l) (hb:Ok b.l):((zq a b).2 == 0)=true:=by
 obtain ⟨z,e,_⟩:=within_ok ha hb
 rw [e]; rfl
theorem Tk.within (ha:Tk L S a) (hb:Tk L T b):L=true ∨ ((zq a b).1=true↔∀ x,S x→T x):=by
 rcases ha with h | ⟨ha,ra⟩
 ·exact .inl h
 rcases hb with h | ⟨hb,rb⟩
 ·exact .inl h
 obtain ⟨z,e,k⟩:=within_ok ha hb
 right
 rw [e]
 simp only [ra.2,rb.2] at k
 exact k
theorem Tk.same_iff (ha:Tk L S a) (hb:Tk L T b):L=true ∨ (r_Same a b=true↔∀ x,S x↔T x):=by
 rcases ha with h | ⟨ha,ra⟩
 ·exact .inl h
 rcases hb with h | ⟨hb,rb⟩
 ·exact .inl h
 right
 rw [_root_.Go.VS.same_iff]
 constructor
 ·intro h x
  rw [← ra.2,← rb.2,h]
 ·exact fun h=>ra.eq rb h
end
end Go.VS

