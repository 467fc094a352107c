/- Nothing of a statement is proved in this text alone: it is part 7 of the proof's own tools, an evaluator of the code over deep values, its soundness, and what it makes of this seat's functions. Conditions: none beyond the statement's own. -/
import Derived.Test.YtpkjnefhnedfdaaGreatDoorVsRCSets6
import Derived.Test.YtpkjnefhnedfdaaGreatDoorRows
import Derived.Test.YtpkjnefhnedfdaaGreatDoorTie
import Derived.WalkKit
import Derived.ProofKit
import Derived.Deep.DeepHandedRow
import Derived.Lib.LaidTab
set_option linter.unusedSimpArgs false
set_option linter.unusedVariables false
set_option maxHeartbeats 0
namespace Go.VS
open List (length_set length_append length_cons length_nil)
open Go Go.Proofs
def z6 (x:Sn) (y:Sn):(GS Sn) × Bool :=
 bif decide ((((zh (zN x.lo y.lo) (imin x.hi y.hi)).l.length:Nat):Int)>0) then
  ((zh (zN x.lo y.lo) (imin x.hi y.hi)),true)
 else
  ((zh (zN x.lo y.lo) (imin x.hi y.hi)),false)

theorem T_ranges_Within_1 (x:Sn) (y:Sn):(lim cfg).pure 92 [Sn.D x,Sn.D y]=some (.tup [GS.D Sn.D 2 ((z6 x y).1),B ((z6 x y).2)]):=by
 unfold z6
 cases h1:decide ((((zh (zN x.lo y.lo) (imin x.hi y.hi)).l.length:Nat):Int)>0) with
 |true =>
  have g1:=of_decide_eq_true h1
  exact zp [.pure (.sl ((zh (zN x.lo y.lo) (imin x.hi y.hi)).nl) (((zh (zN x.lo y.lo) (imin x.hi y.hi)).l).map Sn.D) (zsl ((zh (zN x.lo y.lo) (imin x.hi y.hi)).nl) 2) none),.rw 20 (I (((zh (zN x.lo y.lo) (imin x.hi y.hi)).l.length:Nat):Int)),.dec true] (Ai h1 (Ai (zk Sn.D (zh (zN x.lo y.lo) (imin x.hi y.hi))) (Ai (T_ranges_some (zN x.lo y.lo) (imin x.hi y.hi)) trivial))) (by kernel_rfl)
 |false =>
  have g1:=of_decide_eq_false h1
  exact zp [.pure (.sl ((zh (zN x.lo y.lo) (imin x.hi y.hi)).nl) (((zh (zN x.lo y.lo) (imin x.hi y.hi)).l).map Sn.D) (zsl ((zh (zN x.lo y.lo) (imin x.hi y.hi)).nl) 2) none),.rw 20 (I (((zh (zN x.lo y.lo) (imin x.hi y.hi)).l.length:Nat):Int)),.dec false] (Ai h1 (Ai (zk Sn.D (zh (zN x.lo y.lo) (imin x.hi y.hi))) (Ai (T_ranges_some (zN x.lo y.lo) (imin x.hi y.hi)) trivial))) (by kernel_rfl)

theorem within1_len (x y:Sn):((z6 x y).1).l.length≤1:=by
 unfold z6
 cases decide ((((zh (zN x.lo y.lo) (imin x.hi y.hi)).l.length:Nat):Int)>0)<;>exact some1 _ _

def sd179 (a:GS Sn) (yR:Nat) (yt:GS Sn) (yv:Sn) (xU:Nat) (yH:Sn) (yG:List Sn):St:=⟨40,[(22,I ((xU+1:Nat):Int)),(37,I ((xU+1:Nat):Int)),(36,B false),(7,.lsl 1 0 yG.length 2 none),(35,.lsl 1 0 yG.length 2 none),(34,.sl (((z6 yv yH).1).nl) ((((z6 yv yH).1).l).map Sn.D) (zsl (((z6 yv yH).1).nl) 2) none),(33,.lsl 1 0 yG.length 2 none),(13,B false),(12,.sl (((z6 yv yH).1).nl) ((((z6 yv yH).1).l).map Sn.D) (zsl (((z6 yv yH).1).nl) 2) none),(32,B false),(31,.sl (((z6 yv yH).1).nl) ((((z6 yv yH).1).l).map Sn.D) (zsl (((z6 yv yH).1).nl) 2) none),(26,.tup [.sl (((z6 yv yH).1).nl) ((((z6 yv yH).1).l).map Sn.D) (zsl (((z6 yv yH).1).nl) 2) none,B ((z6 yv yH).2)]),(30,.tup [.sl (((z6 yv yH).1).nl) ((((z6 yv yH).1).l).map Sn.D) (zsl (((z6 yv yH).1).nl) 2) none,B ((z6 yv yH).2)]),(29,.agg [I yH.lo,I yH.hi]),(28,.agg [I yv.lo,I yv.hi]),(27,.fn (.func 92) [] []),(11,.lref 3 0 2 0),(25,.agg [I yH.lo,I yH.hi]),(24,.ptr (.agg [I yH.lo,I yH.hi])),(23,B true),(1,.sl yt.nl (yt.l.map Sn.D) (zsl yt.nl 2) none),(2,.fn (.func 92) [] []),(7,.lsl 1 0 yG.length 2 none),(9,.lref 2 0 2 0),(14,.sl a.nl (a.l.map Sn.D) (zsl a.nl 2) none),(15,I (a.l.length:Int)),(16,I (yR:Int)),(20,.sl yt.nl (yt.l.map Sn.D) (zsl yt.nl 2) none),(21,I (yt.l.length:Int)),(22,I (xU:Int))],[(1,⟨yG.map Sn.D,2,false⟩),(2,⟨[.agg [I yv.lo,I yv.hi]],2,false⟩),(3,⟨[.agg [I yH.lo,I yH.hi]],2,false⟩)],4,1⟩

def sd180 (a:GS Sn) (yR:Nat) (yt:GS Sn) (yv:Sn) (xU:Nat) (yH:Sn) (yG:List Sn):St:=⟨40,[(22,I ((xU+1:Nat):Int)),(37,I ((xU+1:Nat):Int)),(36,B false),(7,.lsl 4 0 ((yG++(((z6 yv yH).1).l)).length) 2 none),(35,.lsl 4 0 ((yG++(((z6 yv yH).1).l)).length) 2 none),(34,.sl (((z6 yv yH).1).nl) ((((z6 yv yH).1).l).map Sn.D) (zsl (((z6 yv yH).1).nl) 2) none),(33,.lsl 1 0 yG.length 2 none),(13,B false),(12,.sl (((z6 yv yH).1).nl) ((((z6 yv yH).1).l).map Sn.D) (zsl (((z6 yv yH).1).nl) 2) none),(32,B false),(31,.sl (((z6 yv yH).1).nl) ((((z6 yv yH).1).l).map Sn.D) (zsl (((z6 yv yH).1).nl) 2) none),(26,.tup [.sl (((z6 yv yH).1).nl) ((((z6 yv yH).1).l).map Sn.D) (zsl (((z6 yv yH).1).nl) 2) none,B ((z6 yv yH).2)]),(30,.tup [.sl (((z6 yv yH).1).nl) ((((z6 yv yH).1).l).map Sn.D) (zsl (((z6 yv yH).1).nl) 2) none,B ((z6 yv yH).2)]),(29,.agg [I yH.lo,I yH.hi]),(28,.agg [I yv.lo,I yv.hi]),(27,.fn (.func 92) [] []),(11,.lref 3 0 2 0),(25,.agg [I yH.lo,I yH.hi]),(24,.ptr (.agg [I yH.lo,I yH.hi])),(23,B true),(1,.sl yt.nl (yt.l.map Sn.D) (zsl yt.nl 2) none),(2,.fn (.func 92) [] []),(7,.lsl 1 0 yG.length 2 none),(9,.lref 2 0 2 0),(14,.sl a.nl (a.l.map Sn.D) (zsl a.nl 2) none),(15,I (a.l.length:Int)),(16,I (yR:Int)),(20,.sl yt.nl (yt.l.map Sn.D) (zsl yt.nl 2) none),(21,I (yt.l.length:Int)),(22,I (xU:Int))],[(2,⟨[.agg [I yv.lo,I yv.hi]],2,false⟩),(3,⟨[.agg [I yH.lo,I yH.hi]],2,false⟩),(4,⟨(yG++(((z6 yv yH).1).l)).map Sn.D,2,false⟩)],5,1⟩

inductive LR_ranges_pairs_6p8 where
 |x0 (yG:List Sn)
 |x1 (xU:Nat) (yH:Sn) (yG:List Sn)
 |x2 (xU:Nat) (yH:Sn) (yG:List Sn)
instance:Inhabited LR_ranges_pairs_6p8:=⟨.x0 default⟩
def ranges_pairs_6p8 (yv:Sn):List Sn→Nat→(List Sn)→LR_ranges_pairs_6p8
 |[],xU,yG=>.x0 yG
 |yH::w8,xU,yG =>
  bif ((z6 yv yH).2) then
   bif (((z6 yv yH).1).l).isEmpty then
    .x1 xU yH yG
   else
    .x2 xU yH yG
  else
   bif (((z6 yv yH).1).l).isEmpty then
    ranges_pairs_6p8 yv w8 (xU+1) yG
   else
    ranges_pairs_6p8 yv w8 (xU+1) (yG++(((z6 yv yH).1).l))
def lr_ranges_pairs_6p8 (a:GS Sn) (yR:Nat) (yt:GS Sn) (yv:Sn):LR_ranges_pairs_6p8→Exit × St
 |.x0 yG=>((.exit 2),⟨40,[(23,B false),(1,.sl yt.nl (yt.l.map Sn.D) (zsl yt.nl 2) none),(2,.fn (.func 92) [] []),(7,.lsl 1 0 yG.length 2 none),(9,.lref 2 0 2 0),(14,.sl a.nl (a.l.map Sn.D) (zsl a.nl 2) none),(15,I (a.l.length:Int)),(16,I (yR:Int)),(20,.sl yt.nl (yt.l.map Sn.D) (zsl yt.nl 2) none),(21,I (yt.l.length:Int)),(22,I (yt.l.length:Int))],[(1,⟨yG.map Sn.D,2,false⟩),(2,⟨[.agg [I yv.lo,I yv.hi]],2,false⟩)],3,1⟩)
 |.x1 xU yH yG=>((.exit 0),⟨40,[(36,B true),(7,.lsl 1 0 yG.length 2 none),(35,.lsl 1 0 yG.length 2 none),(34,.sl (((z6 yv yH).1).nl) ((((z6 yv yH).1).l).map Sn.D) (zsl (((z6 yv yH).1).nl) 2) none),(33,.lsl 1 0 yG.length 2 none),(13,B true),(12,.sl (((z6 yv yH).1).nl) ((((z6 yv yH).1).l).map Sn.D) (zsl (((z6 yv yH).1).nl) 2) none),(32,B true),(31,.sl (((z6 yv yH).1).nl) ((((z6 yv yH).1).l).map Sn.D) (zsl (((z6 yv yH).1).nl) 2) none),(26,.tup [.sl (((z6 yv yH).1).nl) ((((z6 yv yH).1).l).map Sn.D) (zsl (((z6 yv yH).1).nl) 2) none,B ((z6 yv yH).2)]),(30,.tup [.sl (((z6 yv yH).1).nl) ((((z6 yv yH).1).l).map Sn.D) (zsl (((z6 yv yH).1).nl) 2) none,B ((z6 yv yH).2)]),(29,.agg [I yH.lo,I yH.hi]),(28,.agg [I yv.lo,I yv.hi]),(27,.fn (.func 92) [] []),(11,.lref 3 0 2 0),(25,.agg [I yH.lo,I yH.hi]),(24,.ptr (.agg [I yH.lo,I yH.hi])),(23,B true),(1,.sl yt.nl (yt.l.map Sn.D) (zsl yt.nl 2) none),(2,.fn (.func 92) [] []),(7,.lsl 1 0 yG.length 2 none),(9,.lref 2 0 2 0),(14,.sl a.nl (a.l.map Sn.D) (zsl a.nl 2) none),(15,I (a.l.length:Int)),(16,I (yR:Int)),(20,.sl yt.nl (yt.l.map Sn.D) (zsl yt.nl 2) none),(21,I (yt.l.length:Int)),(22,I (xU:Int))],[(1,⟨yG.map Sn.D,2,false⟩),(2,⟨[.agg [I yv.lo,I yv.hi]],2,false⟩),(3,⟨[.agg [I yH.lo,I yH.hi]],2,false⟩)],4,1⟩)
 |.x2 xU yH yG=>((.exit 0),⟨40,[(36,B true),(7,.lsl 4 0 ((yG++(((z6 yv yH).1).l)).length) 2 none),(35,.lsl 4 0 ((yG++(((z6 yv yH).1).l)).length) 2 none),(34,.sl (((z6 yv yH).1).nl) ((((z6 yv yH).1).l).map Sn.D) (zsl (((z6 yv yH).1).nl) 2) none),(33,.lsl 1 0 yG.length 2 none),(13,B true),(12,.sl (((z6 yv yH).1).nl) ((((z6 yv yH).1).l).map Sn.D) (zsl (((z6 yv yH).1).nl) 2) none),(32,B true),(31,.sl (((z6 yv yH).1).nl) ((((z6 yv yH).1).l).map Sn.D) (zsl (((z6 yv yH).1).nl) 2) none),(26,.tup [.sl (((z6 yv yH).1).nl) ((((z6 yv yH).1).l).map Sn.D) (zsl (((z6 yv yH).1).nl) 2) none,B ((z6 yv yH).2)]),(30,.tup [.sl (((z6 yv yH).1).nl) ((((z6 yv yH).1).l).map Sn.D) (zsl (((z6 yv yH).1).nl) 2) none,B ((z6 yv yH).2)]),(29,.agg [I yH.lo,I yH.hi]),(28,.agg [I yv.lo,I yv.hi]),(27,.fn (.func 92) [] []),(11,.lref 3 0 2 0),(25,.agg [I yH.lo,I yH.hi]),(24,.ptr (.agg [I yH.lo,I yH.hi])),(23,B true),(1,.sl yt.nl (yt.l.map Sn.D) (zsl yt.nl 2) none),(2,.fn (.func 92) [] []),(7,.lsl 1 0 yG.length 2 none),(9,.lref 2 0 2 0),(14,.sl a.nl (a.l.map Sn.D) (zsl a.nl 2) none),(15,I (a.l.length:Int)),(16,I (yR:Int)),(20,.sl yt.nl (yt.l.map Sn.D) (zsl yt.nl 2) none),(21,I (yt.l.length:Int)),(22,I (xU:Int))],[(2,⟨[.agg [I yv.lo,I yv.hi]],2,false⟩),(3,⟨[.agg [I yH.lo,I yH.hi]],2,false⟩),(4,⟨(yG++(((z6 yv yH).1).l)).map Sn.D,2,false⟩)],5,1⟩)
def iv_ranges_pairs_6p8 (a:GS Sn) (yR:Nat) (yt:GS Sn) (yv:Sn):LR_ranges_pairs_6p8→Prop
 |.x0 yG=>(yG.length≤65 * yR+yt.l.length)
 |.x1 xU yH yG=>(yG.length≤65 * yR+xU)
 |.x2 xU yH yG=>(yG.length≤65 * yR+xU)
def ranges_pairs_6p8_l_o1 (yv:Sn) (yH:Sn):List Ora:=[.dec true,.el (.agg [I yH.lo,I yH.hi]),.pure (.tup [.sl (((z6 yv yH).1).nl) ((((z6 yv yH).1).l).map Sn.D) (zsl (((z6 yv yH).1).nl) 2) none,B ((z6 yv yH).2)])]
theorem lp_ranges_pairs_6p8 (a:GS Sn) (yR:Nat) (yt:GS Sn) (yv:Sn):∀(w8:List Sn) (xU:Nat) (yG:List Sn) (wh:yt.l.drop xU=w8) (hi6p8:xU≤yt.l.length) (xO:yt.l.length≤65) (wd:yR < 64) (hg6p8_v6p8_0:yG.length≤65 * yR+xU) (hL6p8:yt.l.length≤1099511627776),(lim cfg).loop 87 lp87_6 ⟨40,[(1,.sl yt.nl (yt.l.map Sn.D) (zsl yt.nl 2) none),(2,.fn (.func 92) [] []),(7,.lsl 1 0 yG.length 2 none),(9,.lref 2 0 2 0),(14,.sl a.nl (a.l.map Sn.D) (zsl a.nl 2) none),(15,I (a.l.length:Int)),(16,I (yR:Int)),(20,.sl yt.nl (yt.l.map Sn.D) (zsl yt.nl 2) none),(21,I (yt.l.length:Int)),(22,I (xU:Int))],[(1,⟨yG.map Sn.D,2,false⟩),(2,⟨[.agg [I yv.lo,I yv.hi]],2,false⟩)],3,1⟩=some (lr_ranges_pairs_6p8 a yR yt yv (ranges_pairs_6p8 yv w8 xU yG)):=by
 intro w8
 induction w8 with
 |nil =>
  intro xU yG wh hi6p8 xO wd hg6p8_v6p8_0 hL6p8
  unfold ranges_pairs_6p8
  obtain rfl:xU=yt.l.length:=zW wh hi6p8
  exact zD [.dec false] (Ai (lt_no wh) trivial) (by kernel_rfl)
 |cons yH w8 ih =>
  intro xU yG wh hi6p8 xO wd hg6p8_v6p8_0 hL6p8
  have hlt6p8:=zg wh
  have hlx:=within1_len yv yH
  unfold ranges_pairs_6p8
  have p1:=(zS (s:=yt) (f:=Sn.D) (k:=2) wh)
  cases h25:((z6 yv yH).2) with
  |true =>
   cases h26:(((z6 yv yH).1).l).isEmpty with
   |true =>
    exact zD ((ranges_pairs_6p8_l_o1 yv yH)++[.dec true,.op (some 35) ⟨.lsl 1 0 yG.length 2 none,[],[],4⟩]) (Ai (app_none (te:=zR) (gO:=zw [(1,⟨yG.map Sn.D,2,false⟩),(2,⟨[.agg [I yv.lo,I yv.hi]],2,false⟩),(3,⟨[.agg [I yH.lo,I yH.hi]],2,false⟩)]) (nxt:=4) (f:=Sn.D) (sz:=2) (d:=.lsl 1 0 yG.length 2 none) ((z6 yv yH).1) h26 rfl) (Ai h25 (Ai (T_ranges_Within_1 yv yH) (Ai p1 (Ai (zT wh) trivial))))) (by kernel_rfl)
   |false =>
    exact zD ((ranges_pairs_6p8_l_o1 yv yH)++[.dec true,.op (some 35) ⟨.lsl 4 0 ((yG++(((z6 yv yH).1).l)).length) 2 none,[(1,none),(4,some ⟨(yG++(((z6 yv yH).1).l)).map Sn.D,2,false⟩)],[1],5⟩]) (Ai (app_moreD (te:=zR) (gO:=zw [(1,⟨yG.map Sn.D,2,false⟩),(2,⟨[.agg [I yv.lo,I yv.hi]],2,false⟩),(3,⟨[.agg [I yH.lo,I yH.hi]],2,false⟩)]) (nxt:=4) (o:=1) (v:=yG) z7 ((z6 yv yH).1) h26 (by kernel_rfl) rfl (by kernel_rfl) (by decide) ⟨by simp only [zR,big]<;>(first|assumption|omega|(exact zF (by omega) (by omega))|(exact zt (by omega))|(exact zm (by omega))|(exact zu (by omega))|(exact zn (by omega))|(exact zl _ (by omega))|(simp only [zd] at *<;>omega)|(simp only [zv,GS.some_l,length_set,length_append,length_cons,length_nil] at *<;>first|assumption|omega)|(simp only [zv,GS.some_l,length_set,length_append,length_cons,length_nil,zd] at *<;>first|assumption|omega)|(simp at *<;>omega)),by simp only [big]<;>(first|assumption|omega|(exact zF (by omega) (by omega))|(exact zt (by omega))|(exact zm (by omega))|(exact zu (by omega))|(exact zn (by omega))|(exact zl _ (by omega))|(simp only [zd] at *<;>omega)|(simp only [zv,GS.some_l,length_set,length_append,length_cons,length_nil] at *<;>first|assumption|omega)|(simp only [zv,GS.some_l,length_set,length_append,length_cons,length_nil,zd] at *<;>first|assumption|omega)|(simp at *<;>omega))⟩) (Ai h25 (Ai (T_ranges_Within_1 yv yH) (Ai p1 (Ai (zT wh) trivial))))) (by kernel_rfl)
  |false =>
   cases h27:(((z6 yv yH).1).l).isEmpty with
   |true =>
    exact zz (ks:=[1,2,7,9,14,15,16,20,21,22]) (st':=(sd179 a yR yt yv xU yH yG)) ((ranges_pairs_6p8_l_o1 yv yH)++[.dec false,.op (some 35) ⟨.lsl 1 0 yG.length 2 none,[],[],4⟩,.rw 37 (I ((xU+1:Nat):Int))]) (Ai (zM (i:=xU) (by have:=zg wh;omega)) (Ai (app_none (te:=zR) (gO:=zw [(1,⟨yG.map Sn.D,2,false⟩),(2,⟨[.agg [I yv.lo,I yv.hi]],2,false⟩),(3,⟨[.agg [I yH.lo,I yH.hi]],2,false⟩)]) (nxt:=4) (f:=Sn.D) (sz:=2) (d:=.lsl 1 0 yG.length 2 none) ((z6 yv yH).1) h27 rfl) (Ai h25 (Ai (T_ranges_Within_1 yv yH) (Ai p1 (Ai (zT wh) trivial)))))) (by kernel_rfl) (by (simp only [sd179,go_sem,length_set,Nat.reduceAdd,Nat.reduceEqDiff,Nat.reduceLT,Nat.reduceLeDiff,bI2,ze.idsL,ze.renL,ze.snapAll,z7.idsL,z7.renL,z7.snapAll])<;>rfl) (ih (xU+1) yG (zi wh) (zg wh) (by omega) (by omega) (by omega) (by omega)) (by kernel_rfl)
   |false =>
    exact zz (ks:=[1,2,7,9,14,15,16,20,21,22]) (st':=(sd180 a yR yt yv xU yH yG)) ((ranges_pairs_6p8_l_o1 yv yH)++[.dec false,.op (some 35) ⟨.lsl 4 0 ((yG++(((z6 yv yH).1).l)).length) 2 none,[(1,none),(4,some ⟨(yG++(((z6 yv yH).1).l)).map Sn.D,2,false⟩)],[1],5⟩,.rw 37 (I ((xU+1:Nat):Int))]) (Ai (zM (i:=xU) (by have:=zg wh;omega)) (Ai (app_moreD (te:=zR) (gO:=zw [(1,⟨yG.map Sn.D,2,false⟩),(2,⟨[.agg [I yv.lo,I yv.hi]],2,false⟩),(3,⟨[.agg [I yH.lo,I yH.hi]],2,false⟩)]) (nxt:=4) (o:=1) (v:=yG) z7 ((z6 yv yH).1) h27 (by kernel_rfl) rfl (by kernel_rfl) (by decide) ⟨by simp only [zR,big]<;>(first|assumption|omega|(exact zF (by omega) (by omega))|(exact zt (by omega))|(exact zm (by omega))|(exact zu (by omega))|(exact zn (by omega))|(exact zl _ (by omega))|(simp only [zd] at *<;>omega)|(simp only [zv,GS.some_l,length_set,length_append,length_cons,length_nil] at *<;>first|assumption|omega)|(simp only [zv,GS.some_l,length_set,length_append,length_cons,length_nil,zd] at *<;>first|assumption|omega)|(simp at *<;>omega)),by simp only [big]<;>(first|assumption|omega|(exact zF (by omega) (by omega))|(exact zt (by omega))|(exact zm (by omega))|(exact zu (by omega))|(exact zn (by omega))|(exact zl _ (by omega))|(simp only [zd] at *<;>omega)|(simp only [zv,GS.some_l,length_set,length_append,length_cons,length_nil] at *<;>first|assumption|omega)|(simp only [zv,GS.some_l,length_set,length_append,length_cons,length_nil,zd] at *<;>first|assumption|omega)|(simp at *<;>omega))⟩) (Ai h25 (Ai (T_ranges_Within_1 yv yH) (Ai p1 (Ai (zT wh) trivial)))))) (by kernel_rfl) (by (simp only [sd180,go_sem,length_set,Nat.reduceAdd,Nat.reduceEqDiff,Nat.reduceLT,Nat.reduceLeDiff,bI2,ze.idsL,ze.renL,ze.snapAll,z7.idsL,z7.renL,z7.snapAll])<;>rfl) (ih (xU+1) (yG++(((z6 yv yH).1).l)) (zi wh) (zg wh) (by omega) (by omega) (by simp only [length_append,length_cons,length_nil] at *<;>omega) (by omega)) (by kernel_rfl)
theorem ivt_ranges_pairs_6p8 (a:GS Sn) (yR:Nat) (yt:GS Sn) (yv:Sn):∀(w8:List Sn) (xU:Nat) (yG:List Sn) (wh:yt.l.drop xU=w8) (hi6p8:xU≤yt.l.length) (xO:yt.l.length≤65) (wd:yR < 64) (hg6p8_v6p8_0:yG.length≤65 * yR+xU) (hL6p8:yt.l.length≤1099511627776),iv_ranges_pairs_6p8 a yR yt yv (ranges_pairs_6p8 yv w8 xU yG):=by
 intro w8
 induction w8 with
 |nil =>
  intro xU yG wh hi6p8 xO wd hg6p8_v6p8_0 hL6p8
  unfold ranges_pairs_6p8
  obtain rfl:xU=yt.l.length:=zW wh hi6p8
  exact hg6p8_v6p8_0
 |cons yH w8 ih =>
  intro xU yG wh hi6p8 xO wd hg6p8_v6p8_0 hL6p8
  have hlt6p8:=zg wh
  have hlx:=within1_len yv yH
  unfold ranges_pairs_6p8
  cases h25:((z6 yv yH).2) with
  |true =>
   cases h26:(((z6 yv yH).1).l).isEmpty with
   |true =>
    exact hg6p8_v6p8_0
   |false =>
    exact hg6p8_v6p8_0
  |false =>
   cases h27:(((z6 yv yH).1).l).isEmpty with
   |true =>
    exact ih (xU+1) yG (zi wh) (zg wh) (by omega) (by omega) (by omega) (by omega)
   |false =>
    exact ih (xU+1) (yG++(((z6 yv yH).1).l)) (zi wh) (zg wh) (by omega) (by omega) (by simp only [length_append,length_cons,length_nil] at *<;>omega) (by omega)

def sd184 (a:GS Sn) (yR:Nat) (yt:GS Sn) (yv:Sn) (xe:Nat) (yC:Sn) (yE:List Sn):St:=⟨40,[(22,I ((xe+1:Nat):Int)),(37,I ((xe+1:Nat):Int)),(36,B false),(7,.lsl 1 0 yE.length 2 none),(35,.lsl 1 0 yE.length 2 none),(34,.sl (((z6 yv yC).1).nl) ((((z6 yv yC).1).l).map Sn.D) (zsl (((z6 yv yC).1).nl) 2) none),(33,.lsl 1 0 yE.length 2 none),(13,B false),(12,.sl (((z6 yv yC).1).nl) ((((z6 yv yC).1).l).map Sn.D) (zsl (((z6 yv yC).1).nl) 2) none),(32,B false),(31,.sl (((z6 yv yC).1).nl) ((((z6 yv yC).1).l).map Sn.D) (zsl (((z6 yv yC).1).nl) 2) none),(26,.tup [.sl (((z6 yv yC).1).nl) ((((z6 yv yC).1).l).map Sn.D) (zsl (((z6 yv yC).1).nl) 2) none,B ((z6 yv yC).2)]),(30,.tup [.sl (((z6 yv yC).1).nl) ((((z6 yv yC).1).l).map Sn.D) (zsl (((z6 yv yC).1).nl) 2) none,B ((z6 yv yC).2)]),(29,.agg [I yC.lo,I yC.hi]),(28,.agg [I yv.lo,I yv.hi]),(27,.fn (.func 92) [] []),(11,.lref 3 0 2 0),(25,.agg [I yC.lo,I yC.hi]),(24,.ptr (.agg [I yC.lo,I yC.hi])),(23,B true),(1,.sl yt.nl (yt.l.map Sn.D) (zsl yt.nl 2) none),(2,.fn (.func 92) [] []),(7,.lsl 1 0 yE.length 2 none),(9,.lref 2 0 2 0),(14,.sl a.nl (a.l.map Sn.D) (zsl a.nl 2) none),(15,I (a.l.length:Int)),(16,I (yR:Int)),(20,.sl yt.nl (yt.l.map Sn.D) (zsl yt.nl 2) none),(21,I (yt.l.length:Int)),(22,I (xe:Int))],[(1,⟨yE.map Sn.D,2,false⟩),(2,⟨[.agg [I yv.lo,I yv.hi]],2,false⟩),(3,⟨[.agg [I yC.lo,I yC.hi]],2,false⟩)],4,1⟩

def sd185 (a:GS Sn) (yR:Nat) (yt:GS Sn) (yv:Sn) (xe:Nat) (yC:Sn) (yE:List Sn):St:=⟨40,[(22,I ((xe+1:Nat):Int)),(37,I ((xe+1:Nat):Int)),(36,B false),(7,.lsl 4 0 ((yE++(((z6 yv yC).1).l)).length) 2 none),(35,.lsl 4 0 ((yE++(((z6 yv yC).1).l)).length) 2 none),(34,.sl (((z6 yv yC).1).nl) ((((z6 yv yC).1).l).map Sn.D) (zsl (((z6 yv yC).1).nl) 2) none),(33,.lsl 1 0 yE.length 2 none),(13,B false),(12,.sl (((z6 yv yC).1).nl) ((((z6 yv yC).1).l).map Sn.D) (zsl (((z6 yv yC).1).nl) 2) none),(32,B false),(31,.sl (((z6 yv yC).1).nl) ((((z6 yv yC).1).l).map Sn.D) (zsl (((z6 yv yC).1).nl) 2) none),(26,.tup [.sl (((z6 yv yC).1).nl) ((((z6 yv yC).1).l).map Sn.D) (zsl (((z6 yv yC).1).nl) 2) none,B ((z6 yv yC).2)]),(30,.tup [.sl (((z6 yv yC).1).nl) ((((z6 yv yC).1).l).map Sn.D) (zsl (((z6 yv yC).1).nl) 2) none,B ((z6 yv yC).2)]),(29,.agg [I yC.lo,I yC.hi]),(28,.agg [I yv.lo,I yv.hi]),(27,.fn (.func 92) [] []),(11,.lref 3 0 2 0),(25,.agg [I yC.lo,I yC.hi]),(24,.ptr (.agg [I yC.lo,I yC.hi])),(23,B true),(1,.sl yt.nl (yt.l.map Sn.D) (zsl yt.nl 2) none),(2,.fn (.func 92) [] []),(7,.lsl 1 0 yE.length 2 none),(9,.lref 2 0 2 0),(14,.sl a.nl (a.l.map Sn.D) (zsl a.nl 2) none),(15,I (a.l.length:Int)),(16,I (yR:Int)),(20,.sl yt.nl (yt.l.map Sn.D) (zsl yt.nl 2) none),(21,I (yt.l.length:Int)),(22,I (xe:Int))],[(2,⟨[.agg [I yv.lo,I yv.hi]],2,false⟩),(3,⟨[.agg [I yC.lo,I yC.hi]],2,false⟩),(4,⟨(yE++(((z6 yv yC).1).l)).map Sn.D,2,false⟩)],5,1⟩

def sd186 (a:GS Sn) (yR:Nat) (yt:GS Sn) (yv:Sn) (xe:Nat) (yC:Sn):St:=⟨40,[(22,I ((xe+1:Nat):Int)),(37,I ((xe+1:Nat):Int)),(36,B false),(7,.lsl 3 0 ((((z6 yv yC).1).l).length) 2 none),(35,.lsl 3 0 ((((z6 yv yC).1).l).length) 2 none),(34,.sl (((z6 yv yC).1).nl) ((((z6 yv yC).1).l).map Sn.D) (zsl (((z6 yv yC).1).nl) 2) none),(33,.sl true [] 0 none),(13,B false),(12,.sl (((z6 yv yC).1).nl) ((((z6 yv yC).1).l).map Sn.D) (zsl (((z6 yv yC).1).nl) 2) none),(32,B false),(31,.sl (((z6 yv yC).1).nl) ((((z6 yv yC).1).l).map Sn.D) (zsl (((z6 yv yC).1).nl) 2) none),(26,.tup [.sl (((z6 yv yC).1).nl) ((((z6 yv yC).1).l).map Sn.D) (zsl (((z6 yv yC).1).nl) 2) none,B ((z6 yv yC).2)]),(30,.tup [.sl (((z6 yv yC).1).nl) ((((z6 yv yC).1).l).map Sn.D) (zsl (((z6 yv yC).1).nl) 2) none,B ((z6 yv yC).2)]),(29,.agg [I yC.lo,I yC.hi]),(28,.agg [I yv.lo,I yv.hi]),(27,.fn (.func 92) [] []),(11,.lref 2 0 2 0),(25,.agg [I yC.lo,I yC.hi]),(24,.ptr (.agg [I yC.lo,I yC.hi])),(23,B true),(1,.sl yt.nl (yt.l.map Sn.D) (zsl yt.nl 2) none),(2,.fn (.func 92) [] []),(7,.sl true [] 0 none),(9,.lref 1 0 2 0),(14,.sl a.nl (a.l.map Sn.D) (zsl a.nl 2) none),(15,I (a.l.length:Int)),(16,I (yR:Int)),(20,.sl yt.nl (yt.l.map Sn.D) (zsl yt.nl 2) none),(21,I (yt.l.length:Int)),(22,I (xe:Int))],[(1,⟨[.agg [I yv.lo,I yv.hi]],2,false⟩),(2,⟨[.agg [I yC.lo,I yC.hi]],2,false⟩),(3,⟨(((z6 yv yC).1).l).map Sn.D,2,false⟩)],4,1⟩

inductive LR_ranges_pairs_6p9 where
 |x0 (yE:List Sn)
 |x1 (xe:Nat) (yC:Sn) (yE:List Sn)
 |x2 (xe:Nat) (yC:Sn) (yE:List Sn)
 |x3
 |x4 (xe:Nat) (yC:Sn)
 |x5 (xe:Nat) (yC:Sn)
instance:Inhabited LR_ranges_pairs_6p9:=⟨.x0 default⟩
def ranges_pairs_6p9a (yv:Sn):List Sn→Nat→(List Sn)→LR_ranges_pairs_6p9
 |[],xe,yE=>.x0 yE
 |yC::xx,xe,yE =>
  bif ((z6 yv yC).2) then
   bif (((z6 yv yC).1).l).isEmpty then
    .x1 xe yC yE
   else
    .x2 xe yC yE
  else
   bif (((z6 yv yC).1).l).isEmpty then
    ranges_pairs_6p9a yv xx (xe+1) yE
   else
    ranges_pairs_6p9a yv xx (xe+1) (yE++(((z6 yv yC).1).l))
def ranges_pairs_6p9 (yv:Sn):List Sn→Nat→LR_ranges_pairs_6p9
 |[],xe=>.x3
 |yC::xx,xe =>
  bif ((z6 yv yC).2) then
   bif (((z6 yv yC).1).l).isEmpty then
    .x4 xe yC
   else
    .x5 xe yC
  else
   bif (((z6 yv yC).1).l).isEmpty then
    ranges_pairs_6p9 yv xx (xe+1)
   else
    ranges_pairs_6p9a yv xx (xe+1) (((z6 yv yC).1).l)
def lr_ranges_pairs_6p9 (a:GS Sn) (yR:Nat) (yt:GS Sn) (yv:Sn):LR_ranges_pairs_6p9→Exit × St
 |.x0 yE=>((.exit 2),⟨40,[(23,B false),(1,.sl yt.nl (yt.l.map Sn.D) (zsl yt.nl 2) none),(2,.fn (.func 92) [] []),(7,.lsl 1 0 yE.length 2 none),(9,.lref 2 0 2 0),(14,.sl a.nl (a.l.map Sn.D) (zsl a.nl 2) none),(15,I (a.l.length:Int)),(16,I (yR:Int)),(20,.sl yt.nl (yt.l.map Sn.D) (zsl yt.nl 2) none),(21,I (yt.l.length:Int)),(22,I (yt.l.length:Int))],[(1,⟨yE.map Sn.D,2,false⟩),(2,⟨[.agg [I yv.lo,I yv.hi]],2,false⟩)],3,1⟩)
 |.x1 xe yC yE=>((.exit 0),⟨40,[(36,B true),(7,.lsl 1 0 yE.length 2 none),(35,.lsl 1 0 yE.length 2 none),(34,.sl (((z6 yv yC).1).nl) ((((z6 yv yC).1).l).map Sn.D) (zsl (((z6 yv yC).1).nl) 2) none),(33,.lsl 1 0 yE.length 2 none),(13,B true),(12,.sl (((z6 yv yC).1).nl) ((((z6 yv yC).1).l).map Sn.D) (zsl (((z6 yv yC).1).nl) 2) none),(32,B true),(31,.sl (((z6 yv yC).1).nl) ((((z6 yv yC).1).l).map Sn.D) (zsl (((z6 yv yC).1).nl) 2) none),(26,.tup [.sl (((z6 yv yC).1).nl) ((((z6 yv yC).1).l).map Sn.D) (zsl (((z6 yv yC).1).nl) 2) none,B ((z6 yv yC).2)]),(30,.tup [.sl (((z6 yv yC).1).nl) ((((z6 yv yC).1).l).map Sn.D) (zsl (((z6 yv yC).1).nl) 2) none,B ((z6 yv yC).2)]),(29,.agg [I yC.lo,I yC.hi]),(28,.agg [I yv.lo,I yv.hi]),(27,.fn (.func 92) [] []),(11,.lref 3 0 2 0),(25,.agg [I yC.lo,I yC.hi]),(24,.ptr (.agg [I yC.lo,I yC.hi])),(23,B true),(1,.sl yt.nl (yt.l.map Sn.D) (zsl yt.nl 2) none),(2,.fn (.func 92) [] []),(7,.lsl 1 0 yE.length 2 none),(9,.lref 2 0 2 0),(14,.sl a.nl (a.l.map Sn.D) (zsl a.nl 2) none),(15,I (a.l.length:Int)),(16,I (yR:Int)),(20,.sl yt.nl (yt.l.map Sn.D) (zsl yt.nl 2) none),(21,I (yt.l.length:Int)),(22,I (xe:Int))],[(1,⟨yE.map Sn.D,2,false⟩),(2,⟨[.agg [I yv.lo,I yv.hi]],2,false⟩),(3,⟨[.agg [I yC.lo,I yC.hi]],2,false⟩)],4,1⟩)
 |.x2 xe yC yE=>((.exit 0),⟨40,[(36,B true),(7,.lsl 4 0 ((yE++(((z6 yv yC).1).l)).length) 2 none),(35,.lsl 4 0 ((yE++(((z6 yv yC).1).l)).length) 2 none),(34,.sl (((z6 yv yC).1).nl) ((((z6 yv yC).1).l).map Sn.D) (zsl (((z6 yv yC).1).nl) 2) none),(33,.lsl 1 0 yE.length 2 none),(13,B true),(12,.sl (((z6 yv yC).1).nl) ((((z6 yv yC).1).l).map Sn.D) (zsl (((z6 yv yC).1).nl) 2) none),(32,B true),(31,.sl (((z6 yv yC).1).nl) ((((z6 yv yC).1).l).map Sn.D) (zsl (((z6 yv yC).1).nl) 2) none),(26,.tup [.sl (((z6 yv yC).1).nl) ((((z6 yv yC).1).l).map Sn.D) (zsl (((z6 yv yC).1).nl) 2) none,B ((z6 yv yC).2)]),(30,.tup [.sl (((z6 yv yC).1).nl) ((((z6 yv yC).1).l).map Sn.D) (zsl (((z6 yv yC).1).nl) 2) none,B ((z6 yv yC).2)]),(29,.agg [I yC.lo,I yC.hi]),(28,.agg [I yv.lo,I yv.hi]),(27,.fn (.func 92) [] []),(11,.lref 3 0 2 0),(25,.agg [I yC.lo,I yC.hi]),(24,.ptr (.agg [I yC.lo,I yC.hi])),(23,B true),(1,.sl yt.nl (yt.l.map Sn.D) (zsl yt.nl 2) none),(2,.fn (.func 92) [] []),(7,.lsl 1 0 yE.length 2 none),(9,.lref 2 0 2 0),(14,.sl a.nl (a.l.map Sn.D) (zsl a.nl 2) none),(15,I (a.l.length:Int)),(16,I (yR:Int)),(20,.sl yt.nl (yt.l.map Sn.D) (zsl yt.nl 2) none),(21,I (yt.l.length:Int)),(22,I (xe:Int))],[(2,⟨[.agg [I yv.lo,I yv.hi]],2,false⟩),(3,⟨[.agg [I yC.lo,I yC.hi]],2,false⟩),(4,⟨(yE++(((z6 yv yC).1).l)).map Sn.D,2,false⟩)],5,1⟩)
 |.x3=>((.exit 2),⟨40,[(23,B false),(1,.sl yt.nl (yt.l.map Sn.D) (zsl yt.nl 2) none),(2,.fn (.func 92) [] []),(7,.sl true [] 0 none),(9,.lref 1 0 2 0),(14,.sl a.nl (a.l.map Sn.D) (zsl a.nl 2) none),(15,I (a.l.length:Int)),(16,I (yR:Int)),(20,.sl yt.nl (yt.l.map Sn.D) (zsl yt.nl 2) none),(21,I (yt.l.length:Int)),(22,I (yt.l.length:Int))],[(1,⟨[.agg [I yv.lo,I yv.hi]],2,false⟩)],2,1⟩)
 |.x4 xe yC=>((.exit 0),⟨40,[(36,B true),(7,.sl true [] 0 none),(35,.sl true [] 0 none),(34,.sl (((z6 yv yC).1).nl) ((((z6 yv yC).1).l).map Sn.D) (zsl (((z6 yv yC).1).nl) 2) none),(33,.sl true [] 0 none),(13,B true),(12,.sl (((z6 yv yC).1).nl) ((((z6 yv yC).1).l).map Sn.D) (zsl (((z6 yv yC).1).nl) 2) none),(32,B true),(31,.sl (((z6 yv yC).1).nl) ((((z6 yv yC).1).l).map Sn.D) (zsl (((z6 yv yC).1).nl) 2) none),(26,.tup [.sl (((z6 yv yC).1).nl) ((((z6 yv yC).1).l).map Sn.D) (zsl (((z6 yv yC).1).nl) 2) none,B ((z6 yv yC).2)]),(30,.tup [.sl (((z6 yv yC).1).nl) ((((z6 yv yC).1).l).map Sn.D) (zsl (((z6 yv yC).1).nl) 2) none,B ((z6 yv yC).2)]),(29,.agg [I yC.lo,I yC.hi]),(28,.agg [I yv.lo,I yv.hi]),(27,.fn (.func 92) [] []),(11,.lref 2 0 2 0),(25,.agg [I yC.lo,I yC.hi]),(24,.ptr (.agg [I yC.lo,I yC.hi])),(23,B true),(1,.sl yt.nl (yt.l.map Sn.D) (zsl yt.nl 2) none),(2,.fn (.func 92) [] []),(7,.sl true [] 0 none),(9,.lref 1 0 2 0),(14,.sl a.nl (a.l.map Sn.D) (zsl a.nl 2) none),(15,I (a.l.length:Int)),(16,I (yR:Int)),(20,.sl yt.nl (yt.l.map Sn.D) (zsl yt.nl 2) none),(21,I (yt.l.length:Int)),(22,I (xe:Int))],[(1,⟨[.agg [I yv.lo,I yv.hi]],2,false⟩),(2,⟨[.agg [I yC.lo,I yC.hi]],2,false⟩)],3,1⟩)
 |.x5 xe yC=>((.exit 0),⟨40,[(36,B true),(7,.lsl 3 0 ((((z6 yv yC).1).l).length) 2 none),(35,.lsl 3 0 ((((z6 yv yC).1).l).length) 2 none),(34,.sl (((z6 yv yC).1).nl) ((((z6 yv yC).1).l).map Sn.D) (zsl (((z6 yv yC).1).nl) 2) none),(33,.sl true [] 0 none),(13,B true),(12,.sl (((z6 yv yC).1).nl) ((((z6 yv yC).1).l).map Sn.D) (zsl (((z6 yv yC).1).nl) 2) none),(32,B true),(31,.sl (((z6 yv yC).1).nl) ((((z6 yv yC).1).l).map Sn.D) (zsl (((z6 yv yC).1).nl) 2) none),(26,.tup [.sl (((z6 yv yC).1).nl) ((((z6 yv yC).1).l).map Sn.D) (zsl (((z6 yv yC).1).nl) 2) none,B ((z6 yv yC).2)]),(30,.tup [.sl (((z6 yv yC).1).nl) ((((z6 yv yC).1).l).map Sn.D) (zsl (((z6 yv yC).1).nl) 2) none,B ((z6 yv yC).2)]),(29,.agg [I yC.lo,I yC.hi]),(28,.agg [I yv.lo,I yv.hi]),(27,.fn (.func 92) [] []),(11,.lref 2 0 2 0),(25,.agg [I yC.lo,I yC.hi]),(24,.ptr (.agg [I yC.lo,I yC.hi])),(23,B true),(1,.sl yt.nl (yt.l.map Sn.D) (zsl yt.nl 2) none),(2,.fn (.func 92) [] []),(7,.sl true [] 0 none),(9,.lref 1 0 2 0),(14,.sl a.nl (a.l.map Sn.D) (zsl a.nl 2) none),(15,I (a.l.length:Int)),(16,I (yR:Int)),(20,.sl yt.nl (yt.l.map Sn.D) (zsl yt.nl 2) none),(21,I (yt.l.length:Int)),(22,I (xe:Int))],[(1,⟨[.agg [I yv.lo,I yv.hi]],2,false⟩),(2,⟨[.agg [I yC.lo,I yC.hi]],2,false⟩),(3,⟨(((z6 yv yC).1).l).map Sn.D,2,false⟩)],4,1⟩)
def iv_ranges_pairs_6p9 (a:GS Sn) (yR:Nat) (yt:GS Sn) (yv:Sn):LR_ranges_pairs_6p9→Prop
 |.x0 yE=>(yE.length≤65 * yR+yt.l.length)
 |.x1 xe yC yE=>(yE.length≤65 * yR+xe)
 |.x2 xe yC yE=>(yE.length≤65 * yR+xe)
 |.x3=>True
 |.x4 xe yC=>True
 |.x5 xe yC=>True
def ranges_pairs_6p9a_l_o1 (yv:Sn) (yC:Sn):List Ora:=[.dec true,.el (.agg [I yC.lo,I yC.hi]),.pure (.tup [.sl (((z6 yv yC).1).nl) ((((z6 yv yC).1).l).map Sn.D) (zsl (((z6 yv yC).1).nl) 2) none,B ((z6 yv yC).2)])]
theorem lp_ranges_pairs_6p9a (a:GS Sn) (yR:Nat) (yt:GS Sn) (yv:Sn):∀(xx:List Sn) (xe:Nat) (yE:List Sn) (xE:yt.l.drop xe=xx) (hi6p9:xe≤yt.l.length) (xO:yt.l.length≤65) (wd:yR < 64) (hg6p9_va6p9_0:yE.length≤65 * yR+xe) (hL6p9:yt.l.length≤1099511627776),(lim cfg).loop 87 lp87_6 ⟨40,[(1,.sl yt.nl (yt.l.map Sn.D) (zsl yt.nl 2) none),(2,.fn (.func 92) [] []),(7,.lsl 1 0 yE.length 2 none),(9,.lref 2 0 2 0),(14,.sl a.nl (a.l.map Sn.D) (zsl a.nl 2) none),(15,I (a.l.length:Int)),(16,I (yR:Int)),(20,.sl yt.nl (yt.l.map Sn.D) (zsl yt.nl 2) none),(21,I (yt.l.length:Int)),(22,I (xe:Int))],[(1,⟨yE.map Sn.D,2,false⟩),(2,⟨[.agg [I yv.lo,I yv.hi]],2,false⟩)],3,1⟩=some (lr_ranges_pairs_6p9 a yR yt yv (ranges_pairs_6p9a yv xx xe yE)):=by
 intro xx
 induction xx with
 |nil =>
  intro xe yE xE hi6p9 xO wd hg6p9_va6p9_0 hL6p9
  unfold ranges_pairs_6p9a
  obtain rfl:xe=yt.l.length:=zW xE hi6p9
  exact zD [.dec false] (Ai (lt_no xE) trivial) (by kernel_rfl)
 |cons yC xx ih =>
  intro xe yE xE hi6p9 xO wd hg6p9_va6p9_0 hL6p9
  have hlt6p9:=zg xE
  have hlx:=within1_len yv yC
  unfold ranges_pairs_6p9a
  have p1:=(zS (s:=yt) (f:=Sn.D) (k:=2) xE)
  cases h35:((z6 yv yC).2) with
  |true =>
   cases h36:(((z6 yv yC).1).l).isEmpty with
   |true =>
    exact zD ((ranges_pairs_6p9a_l_o1 yv yC)++[.dec true,.op (some 35) ⟨.lsl 1 0 yE.length 2 none,[],[],4⟩]) (Ai (app_none (te:=zR) (gO:=zw [(1,⟨yE.map Sn.D,2,false⟩),(2,⟨[.agg [I yv.lo,I yv.hi]],2,false⟩),(3,⟨[.agg [I yC.lo,I yC.hi]],2,false⟩)]) (nxt:=4) (f:=Sn.D) (sz:=2) (d:=.lsl 1 0 yE.length 2 none) ((z6 yv yC).1) h36 rfl) (Ai h35 (Ai (T_ranges_Within_1 yv yC) (Ai p1 (Ai (zT xE) trivial))))) (by kernel_rfl)
   |false =>
    exact zD ((ranges_pairs_6p9a_l_o1 yv yC)++[.dec true,.op (some 35) ⟨.lsl 4 0 ((yE++(((z6 yv yC).1).l)).length) 2 none,[(1,none),(4,some ⟨(yE++(((z6 yv yC).1).l)).map Sn.D,2,false⟩)],[1],5⟩]) (Ai (app_moreD (te:=zR) (gO:=zw [(1,⟨yE.map Sn.D,2,false⟩),(2,⟨[.agg [I yv.lo,I yv.hi]],2,false⟩),(3,⟨[.agg [I yC.lo,I yC.hi]],2,false⟩)]) (nxt:=4) (o:=1) (v:=yE) z7 ((z6 yv yC).1) h36 (by kernel_rfl) rfl (by kernel_rfl) (by decide) ⟨by simp only [zR,big]<;>(first|assumption|omega|(exact zF (by omega) (by omega))|(exact zt (by omega))|(exact zm (by omega))|(exact zu (by omega))|(exact zn (by omega))|(exact zl _ (by omega))|(simp only [zd] at *<;>omega)|(simp only [zv,GS.some_l,length_set,length_append,length_cons,length_nil] at *<;>first|assumption|omega)|(simp only [zv,GS.some_l,length_set,length_append,length_cons,length_nil,zd] at *<;>first|assumption|omega)|(simp at *<;>omega)),by simp only [big]<;>(first|assumption|omega|(exact zF (by omega) (by omega))|(exact zt (by omega))|(exact zm (by omega))|(exact zu (by omega))|(exact zn (by omega))|(exact zl _ (by omega))|(simp only [zd] at *<;>omega)|(simp only [zv,GS.some_l,length_set,length_append,length_cons,length_nil] at *<;>first|assumption|omega)|(simp only [zv,GS.some_l,length_set,length_append,length_cons,length_nil,zd] at *<;>first|assumption|omega)|(simp at *<;>omega))⟩) (Ai h35 (Ai (T_ranges_Within_1 yv yC) (Ai p1 (Ai (zT xE) trivial))))) (by kernel_rfl)
  |false =>
   cases h37:(((z6 yv yC).1).l).isEmpty with
   |true =>
    exact zz (ks:=[1,2,7,9,14,15,16,20,21,22]) (st':=(sd184 a yR yt yv xe yC yE)) ((ranges_pairs_6p9a_l_o1 yv yC)++[.dec false,.op (some 35) ⟨.lsl 1 0 yE.length 2 none,[],[],4⟩,.rw 37 (I ((xe+1:Nat):Int))]) (Ai (zM (i:=xe) (by have:=zg xE;omega)) (Ai (app_none (te:=zR) (gO:=zw [(1,⟨yE.map Sn.D,2,false⟩),(2,⟨[.agg [I yv.lo,I yv.hi]],2,false⟩),(3,⟨[.agg [I yC.lo,I yC.hi]],2,false⟩)]) (nxt:=4) (f:=Sn.D) (sz:=2) (d:=.lsl 1 0 yE.length 2 none) ((z6 yv yC).1) h37 rfl) (Ai h35 (Ai (T_ranges_Within_1 yv yC) (Ai p1 (Ai (zT xE) trivial)))))) (by kernel_rfl) (by (simp only [sd184,go_sem,length_set,Nat.reduceAdd,Nat.reduceEqDiff,Nat.reduceLT,Nat.reduceLeDiff,bI2,ze.idsL,ze.renL,ze.snapAll,z7.idsL,z7.renL,z7.snapAll])<;>rfl) (ih (xe+1) yE (zi xE) (zg xE) (by omega) (by omega) (by omega) (by omega)) (by kernel_rfl)
   |false =>
    exact zz (ks:=[1,2,7,9,14,15,16,20,21,22]) (st':=(sd185 a yR yt yv xe yC yE)) ((ranges_pairs_6p9a_l_o1 yv yC)++[.dec false,.op (some 35) ⟨.lsl 4 0 ((yE++(((z6 yv yC).1).l)).length) 2 none,[(1,none),(4,some ⟨(yE++(((z6 yv yC).1).l)).map Sn.D,2,false⟩)],[1],5⟩,.rw 37 (I ((xe+1:Nat):Int))]) (Ai (zM (i:=xe) (by have:=zg xE;omega)) (Ai (app_moreD (te:=zR) (gO:=zw [(1,⟨yE.map Sn.D,2,false⟩),(2,⟨[.agg [I yv.lo,I yv.hi]],2,false⟩),(3,⟨[.agg [I yC.lo,I yC.hi]],2,false⟩)]) (nxt:=4) (o:=1) (v:=yE) z7 ((z6 yv yC).1) h37 (by kernel_rfl) rfl (by kernel_rfl) (by decide) ⟨by simp only [zR,big]<;>(first|assumption|omega|(exact zF (by omega) (by omega))|(exact zt (by omega))|(exact zm (by omega))|(exact zu (by omega))|(exact zn (by omega))|(exact zl _ (by omega))|(simp only [zd] at *<;>omega)|(simp only [zv,GS.some_l,length_set,length_append,length_cons,length_nil] at *<;>first|assumption|omega)|(simp only [zv,GS.some_l,length_set,length_append,length_cons,length_nil,zd] at *<;>first|assumption|omega)|(simp at *<;>omega)),by simp only [big]<;>(first|assumption|omega|(exact zF (by omega) (by omega))|(exact zt (by omega))|(exact zm (by omega))|(exact zu (by omega))|(exact zn (by omega))|(exact zl _ (by omega))|(simp only [zd] at *<;>omega)|(simp only [zv,GS.some_l,length_set,length_append,length_cons,length_nil] at *<;>first|assumption|omega)|(simp only [zv,GS.some_l,length_set,length_append,length_cons,length_nil,zd] at *<;>first|assumption|omega)|(simp at *<;>omega))⟩) (Ai h35 (Ai (T_ranges_Within_1 yv yC) (Ai p1 (Ai (zT xE) trivial)))))) (by kernel_rfl) (by (simp only [sd185,go_sem,length_set,Nat.reduceAdd,Nat.reduceEqDiff,Nat.reduceLT,Nat.reduceLeDiff,bI2,ze.idsL,ze.renL,ze.snapAll,z7.idsL,z7.renL,z7.snapAll])<;>rfl) (ih (xe+1) (yE++(((z6 yv yC).1).l)) (zi xE) (zg xE) (by omega) (by omega) (by simp only [length_append,length_cons,length_nil] at *<;>omega) (by omega)) (by kernel_rfl)
theorem ivt_ranges_pairs_6p9a (a:GS Sn) (yR:Nat) (yt:GS Sn) (yv:Sn):∀(xx:List Sn) (xe:Nat) (yE:List Sn) (xE:yt.l.drop xe=xx) (hi6p9:xe≤yt.l.length) (xO:yt.l.length≤65) (wd:yR < 64) (hg6p9_va6p9_0:yE.length≤65 * yR+xe) (hL6p9:yt.l.length≤1099511627776),iv_ranges_pairs_6p9 a yR yt yv (ranges_pairs_6p9a yv xx xe yE):=by
 intro xx
 induction xx with
 |nil =>
  intro xe yE xE hi6p9 xO wd hg6p9_va6p9_0 hL6p9
  unfold ranges_pairs_6p9a
  obtain rfl:xe=yt.l.length:=zW xE hi6p9
  exact hg6p9_va6p9_0
 |cons yC xx ih =>
  intro xe yE xE hi6p9 xO wd hg6p9_va6p9_0 hL6p9
  have hlt6p9:=zg xE
  have hlx:=within1_len yv yC
  unfold ranges_pairs_6p9a
  cases h35:((z6 yv yC).2) with
  |true =>
   cases h36:(((z6 yv yC).1).l).isEmpty with
   |true =>
    exact hg6p9_va6p9_0
   |false =>
    exact hg6p9_va6p9_0
  |false =>
   cases h37:(((z6 yv yC).1).l).isEmpty with
   |true =>
    exact ih (xe+1) yE (zi xE) (zg xE) (by omega) (by omega) (by omega) (by omega)
   |false =>
    exact ih (xe+1) (yE++(((z6 yv yC).1).l)) (zi xE) (zg xE) (by omega) (by omega) (by simp only [length_append,length_cons,length_nil] at *<;>omega) (by omega)
def ranges_pairs_6p9_l_o1 (yv:Sn) (yC:Sn):List Ora:=[.dec true,.el (.agg [I yC.lo,I yC.hi]),.pure (.tup [.sl (((z6 yv yC).1).nl) ((((z6 yv yC).1).l).map Sn.D) (zsl (((z6 yv yC).1).nl) 2) none,B ((z6 yv yC).2)])]
theorem lp_ranges_pairs_6p9 (a:GS Sn) (yR:Nat) (yt:GS Sn) (yv:Sn):∀(xx:List Sn) (xe:Nat) (xE:yt.l.drop xe=xx) (hi6p9:xe≤yt.l.length) (xO:yt.l.length≤65) (wd:yR < 64) (hL6p9:yt.l.length≤1099511627776),(lim cfg).loop 87 lp87_6 ⟨40,[(1,.sl yt.nl (yt.l.map Sn.D) (zsl yt.nl 2) none),(2,.fn (.func 92) [] []),(7,.sl true [] 0 none),(9,.lref 1 0 2 0),(14,.sl a.nl (a.l.map Sn.D) (zsl a.nl 2) none),(15,I (a.l.length:Int)),(16,I (yR:Int)),(20,.sl yt.nl (yt.l.map Sn.D) (zsl yt.nl 2) none),(21,I (yt.l.length:Int)),(22,I (xe:Int))],[(1,⟨[.agg [I yv.lo,I yv.hi]],2,false⟩)],2,1⟩=some (lr_ranges_pairs_6p9 a yR yt yv (ranges_pairs_6p9 yv xx xe)):=by
 intro xx
 induction xx with
 |nil =>
  intro xe xE hi6p9 xO wd hL6p9
  unfold ranges_pairs_6p9
  obtain rfl:xe=yt.l.length:=zW xE hi6p9
  exact zD [.dec false] (Ai (lt_no xE) trivial) (by kernel_rfl)
 |cons yC xx ih =>
  intro xe xE hi6p9 xO wd hL6p9
  have hlt6p9:=zg xE
  have hlx:=within1_len yv yC
  unfold ranges_pairs_6p9
  have p1:=(zS (s:=yt) (f:=Sn.D) (k:=2) xE)
  cases h38:((z6 yv yC).2) with
  |true =>
   cases h39:(((z6 yv yC).1).l).isEmpty with
   |true =>
    exact zD ((ranges_pairs_6p9_l_o1 yv yC)++[.dec true,.op (some 35) ⟨.sl true [] 0 none,[],[],3⟩]) (Ai (app_none (te:=zR) (gO:=zw [(1,⟨[.agg [I yv.lo,I yv.hi]],2,false⟩),(2,⟨[.agg [I yC.lo,I yC.hi]],2,false⟩)]) (nxt:=3) (f:=Sn.D) (sz:=2) (d:=.sl true [] 0 none) ((z6 yv yC).1) h39 rfl) (Ai h38 (Ai (T_ranges_Within_1 yv yC) (Ai p1 (Ai (zT xE) trivial))))) (by kernel_rfl)
   |false =>
    exact zD ((ranges_pairs_6p9_l_o1 yv yC)++[.dec true,.op (some 35) ⟨.lsl 3 0 ((((z6 yv yC).1).l).length) 2 none,[(3,some ⟨(((z6 yv yC).1).l).map Sn.D,2,false⟩)],[],4⟩]) (Ai (app_newD (te:=zR) (gO:=zw [(1,⟨[.agg [I yv.lo,I yv.hi]],2,false⟩),(2,⟨[.agg [I yC.lo,I yC.hi]],2,false⟩)]) (nxt:=3) (els0:=[]) (sz0:=0) (cap0:=none) z7 ((z6 yv yC).1) h39 rfl (by kernel_rfl) (by decide) ⟨by simp only [zR,big]<;>(first|assumption|omega|(exact zF (by omega) (by omega))|(exact zt (by omega))|(exact zm (by omega))|(exact zu (by omega))|(exact zn (by omega))|(exact zl _ (by omega))|(simp only [zd] at *<;>omega)|(simp only [zv,GS.some_l,length_set,length_append,length_cons,length_nil] at *<;>first|assumption|omega)|(simp only [zv,GS.some_l,length_set,length_append,length_cons,length_nil,zd] at *<;>first|assumption|omega)|(simp at *<;>omega)),by simp only [big]<;>(first|assumption|omega|(exact zF (by omega) (by omega))|(exact zt (by omega))|(exact zm (by omega))|(exact zu (by omega))|(exact zn (by omega))|(exact zl _ (by omega))|(simp only [zd] at *<;>omega)|(simp only [zv,GS.some_l,length_set,length_append,length_cons,length_nil] at *<;>first|assumption|omega)|(simp only [zv,GS.some_l,length_set,length_append,length_cons,length_nil,zd] at *<;>first|assumption|omega)|(simp at *<;>omega))⟩) (Ai h38 (Ai (T_ranges_Within_1 yv yC) (Ai p1 (Ai (zT xE) trivial))))) (by kernel_rfl)
  |false =>
   cases h40:(((z6 yv yC).1).l).isEmpty with
   |true =>
    exact po_turn ((ranges_pairs_6p9_l_o1 yv yC)++[.dec false,.op (some 35) ⟨.sl true [] 0 none,[],[],3⟩,.rw 37 (I ((xe+1:Nat):Int))]) (Ai (zM (i:=xe) (by have:=zg xE;omega)) (Ai (app_none (te:=zR) (gO:=zw [(1,⟨[.agg [I yv.lo,I yv.hi]],2,false⟩),(2,⟨[.agg [I yC.lo,I yC.hi]],2,false⟩)]) (nxt:=3) (f:=Sn.D) (sz:=2) (d:=.sl true [] 0 none) ((z6 yv yC).1) h40 rfl) (Ai h38 (Ai (T_ranges_Within_1 yv yC) (Ai p1 (Ai (zT xE) trivial)))))) (ih (xe+1) (zi xE) (zg xE) (by omega) (by omega) (by omega)) (by kernel_rfl)
   |false =>
    exact zz (ks:=[1,2,7,9,14,15,16,20,21,22]) (st':=(sd186 a yR yt yv xe yC)) ((ranges_pairs_6p9_l_o1 yv yC)++[.dec false,.op (some 35) ⟨.lsl 3 0 ((((z6 yv yC).1).l).length) 2 none,[(3,some ⟨(((z6 yv yC).1).l).map Sn.D,2,false⟩)],[],4⟩,.rw 37 (I ((xe+1:Nat):Int))]) (Ai (zM (i:=xe) (by have:=zg xE;omega)) (Ai (app_newD (te:=zR) (gO:=zw [(1,⟨[.agg [I yv.lo,I yv.hi]],2,false⟩),(2,⟨[.agg [I yC.lo,I yC.hi]],2,false⟩)]) (nxt:=3) (els0:=[]) (sz0:=0) (cap0:=none) z7 ((z6 yv yC).1) h40 rfl (by kernel_rfl) (by decide) ⟨by simp only [zR,big]<;>(first|assumption|omega|(exact zF (by omega) (by omega))|(exact zt (by omega))|(exact zm (by omega))|(exact zu (by omega))|(exact zn (by omega))|(exact zl _ (by omega))|(simp only [zd] at *<;>omega)|(simp only [zv,GS.some_l,length_set,length_append,length_cons,length_nil] at *<;>first|assumption|omega)|(simp only [zv,GS.some_l,length_set,length_append,length_cons,length_nil,zd] at *<;>first|assumption|omega)|(simp at *<;>omega)),by simp only [big]<;>(first|assumption|omega|(exact zF (by omega) (by omega))|(exact zt (by omega))|(exact zm (by omega))|(exact zu (by omega))|(exact zn (by omega))|(exact zl _ (by omega))|(simp only [zd] at *<;>omega)|(simp only [zv,GS.some_l,length_set,length_append,length_cons,length_nil] at *<;>first|assumption|omega)|(simp only [zv,GS.some_l,length_set,length_append,length_cons,length_nil,zd] at *<;>first|assumption|omega)|(simp at *<;>omega))⟩) (Ai h38 (Ai (T_ranges_Within_1 yv yC) (Ai p1 (Ai (zT xE) trivial)))))) (by kernel_rfl) (by (simp only [sd186,go_sem,length_set,Nat.reduceAdd,Nat.reduceEqDiff,Nat.reduceLT,Nat.reduceLeDiff,bI2,ze.idsL,ze.renL,ze.snapAll,z7.idsL,z7.renL,z7.snapAll])<;>rfl) (lp_ranges_pairs_6p9a a yR yt yv _ (xe+1) (((z6 yv yC).1).l) (zi xE) (zg xE) (by omega) (by omega) (by omega) (by omega)) (by kernel_rfl)
theorem ivt_ranges_pairs_6p9 (a:GS Sn) (yR:Nat) (yt:GS Sn) (yv:Sn):∀(xx:List Sn) (xe:Nat) (xE:yt.l.drop xe=xx) (hi6p9:xe≤yt.l.length) (xO:yt.l.length≤65) (wd:yR < 64) (hL6p9:yt.l.length≤1099511627776),iv_ranges_pairs_6p9 a yR yt yv (ranges_pairs_6p9 yv xx xe):=by
 intro xx
 induction xx with
 |nil =>
  intro xe xE hi6p9 xO wd hL6p9
  unfold ranges_pairs_6p9
  obtain rfl:xe=yt.l.length:=zW xE hi6p9
  exact trivial
 |cons yC xx ih =>
  intro xe xE hi6p9 xO wd hL6p9
  have hlt6p9:=zg xE
  have hlx:=within1_len yv yC
  unfold ranges_pairs_6p9
  cases h38:((z6 yv yC).2) with
  |true =>
   cases h39:(((z6 yv yC).1).l).isEmpty with
   |true =>
    exact trivial
   |false =>
    exact trivial
  |false =>
   cases h40:(((z6 yv yC).1).l).isEmpty with
   |true =>
    exact ih (xe+1) (zi xE) (zg xE) (by omega) (by omega) (by omega)
   |false =>
    exact ivt_ranges_pairs_6p9a a yR yt yv _ (xe+1) (((z6 yv yC).1).l) (zi xE) (zg xE) (by omega) (by omega) (by omega) (by omega)

def sd174 (a:GS Sn) (yR:Nat) (yt:GS Sn) (yv:Sn) (yS:List Sn):St:=⟨40,[(22,I 0),(21,I (yt.l.length:Int)),(20,.sl yt.nl (yt.l.map Sn.D) (zsl yt.nl 2) none),(9,.lref 2 0 2 0),(19,.agg [I yv.lo,I yv.hi]),(18,.ptr (.agg [I yv.lo,I yv.hi])),(17,B true),(1,.sl yt.nl (yt.l.map Sn.D) (zsl yt.nl 2) none),(2,.fn (.func 92) [] []),(7,.lsl 1 0 yS.length 2 none),(14,.sl a.nl (a.l.map Sn.D) (zsl a.nl 2) none),(15,I (a.l.length:Int)),(16,I (yR:Int))],[(1,⟨yS.map Sn.D,2,false⟩),(2,⟨[.agg [I yv.lo,I yv.hi]],2,false⟩)],3,1⟩

def sd175 (a:GS Sn) (yR:Nat) (yt:GS Sn) (yv:Sn) (yS:List Sn):St:=⟨40,[(1,.sl yt.nl (yt.l.map Sn.D) (zsl yt.nl 2) none),(2,.fn (.func 92) [] []),(7,.lsl 1 0 yS.length 2 none),(9,.lref 2 0 2 0),(14,.sl a.nl (a.l.map Sn.D) (zsl a.nl 2) none),(15,I (a.l.length:Int)),(16,I (yR:Int)),(20,.sl yt.nl (yt.l.map Sn.D) (zsl yt.nl 2) none),(21,I (yt.l.length:Int)),(22,I 0)],[(1,⟨yS.map Sn.D,2,false⟩),(2,⟨[.agg [I yv.lo,I yv.hi]],2,false⟩)],3,1⟩

def sd192 (a:GS Sn) (yR:Nat) (yt:GS Sn) (yv:Sn) (yG:List Sn):St:=⟨40,[(16,I ((yR+1:Nat):Int)),(38,I ((yR+1:Nat):Int)),(23,B false),(1,.sl yt.nl (yt.l.map Sn.D) (zsl yt.nl 2) none),(2,.fn (.func 92) [] []),(7,.lsl 1 0 yG.length 2 none),(9,.lref 2 0 2 0),(14,.sl a.nl (a.l.map Sn.D) (zsl a.nl 2) none),(15,I (a.l.length:Int)),(16,I (yR:Int)),(20,.sl yt.nl (yt.l.map Sn.D) (zsl yt.nl 2) none),(21,I (yt.l.length:Int)),(22,I (yt.l.length:Int))],[(1,⟨yG.map Sn.D,2,false⟩),(2,⟨[.agg [I yv.lo,I yv.hi]],2,false⟩)],3,1⟩

def sd181 (a:GS Sn) (yR:Nat) (yt:GS Sn) (yv:Sn) (yG:List Sn):St:=⟨40,[(23,B false),(1,.sl yt.nl (yt.l.map Sn.D) (zsl yt.nl 2) none),(2,.fn (.func 92) [] []),(7,.lsl 1 0 yG.length 2 none),(9,.lref 2 0 2 0),(14,.sl a.nl (a.l.map Sn.D) (zsl a.nl 2) none),(15,I (a.l.length:Int)),(16,I (yR:Int)),(20,.sl yt.nl (yt.l.map Sn.D) (zsl yt.nl 2) none),(21,I (yt.l.length:Int)),(22,I (yt.l.length:Int))],[(1,⟨yG.map Sn.D,2,false⟩),(2,⟨[.agg [I yv.lo,I yv.hi]],2,false⟩)],3,1⟩

def sd182 (a:GS Sn) (yR:Nat) (yt:GS Sn) (yv:Sn) (xU:Nat) (yH:Sn) (yG:List Sn):St:=⟨40,[(36,B true),(7,.lsl 1 0 yG.length 2 none),(35,.lsl 1 0 yG.length 2 none),(34,.sl (((z6 yv yH).1).nl) ((((z6 yv yH).1).l).map Sn.D) (zsl (((z6 yv yH).1).nl) 2) none),(33,.lsl 1 0 yG.length 2 none),(13,B true),(12,.sl (((z6 yv yH).1).nl) ((((z6 yv yH).1).l).map Sn.D) (zsl (((z6 yv yH).1).nl) 2) none),(32,B true),(31,.sl (((z6 yv yH).1).nl) ((((z6 yv yH).1).l).map Sn.D) (zsl (((z6 yv yH).1).nl) 2) none),(26,.tup [.sl (((z6 yv yH).1).nl) ((((z6 yv yH).1).l).map Sn.D) (zsl (((z6 yv yH).1).nl) 2) none,B ((z6 yv yH).2)]),(30,.tup [.sl (((z6 yv yH).1).nl) ((((z6 yv yH).1).l).map Sn.D) (zsl (((z6 yv yH).1).nl) 2) none,B ((z6 yv yH).2)]),(29,.agg [I yH.lo,I yH.hi]),(28,.agg [I yv.lo,I yv.hi]),(27,.fn (.func 92) [] []),(11,.lref 3 0 2 0),(25,.agg [I yH.lo,I yH.hi]),(24,.ptr (.agg [I yH.lo,I yH.hi])),(23,B true),(1,.sl yt.nl (yt.l.map Sn.D) (zsl yt.nl 2) none),(2,.fn (.func 92) [] []),(7,.lsl 1 0 yG.length 2 none),(9,.lref 2 0 2 0),(14,.sl a.nl (a.l.map Sn.D) (zsl a.nl 2) none),(15,I (a.l.length:Int)),(16,I (yR:Int)),(20,.sl yt.nl (yt.l.map Sn.D) (zsl yt.nl 2) none),(21,I (yt.l.length:Int)),(22,I (xU:Int))],[(1,⟨yG.map Sn.D,2,false⟩),(2,⟨[.agg [I yv.lo,I yv.hi]],2,false⟩),(3,⟨[.agg [I yH.lo,I yH.hi]],2,false⟩)],4,1⟩

def sd183 (a:GS Sn) (yR:Nat) (yt:GS Sn) (yv:Sn) (xU:Nat) (yH:Sn) (yG:List Sn):St:=⟨40,[(36,B true),(7,.lsl 4 0 ((yG++(((z6 yv yH).1).l)).length) 2 none),(35,.lsl 4 0 ((yG++(((z6 yv yH).1).l)).length) 2 none),(34,.sl (((z6 yv yH).1).nl) ((((z6 yv yH).1).l).map Sn.D) (zsl (((z6 yv yH).1).nl) 2) none),(33,.lsl 1 0 yG.length 2 none),(13,B true),(12,.sl (((z6 yv yH).1).nl) ((((z6 yv yH).1).l).map Sn.D) (zsl (((z6 yv yH).1).nl) 2) none),(32,B true),(31,.sl (((z6 yv yH).1).nl) ((((z6 yv yH).1).l).map Sn.D) (zsl (((z6 yv yH).1).nl) 2) none),(26,.tup [.sl (((z6 yv yH).1).nl) ((((z6 yv yH).1).l).map Sn.D) (zsl (((z6 yv yH).1).nl) 2) none,B ((z6 yv yH).2)]),(30,.tup [.sl (((z6 yv yH).1).nl) ((((z6 yv yH).1).l).map Sn.D) (zsl (((z6 yv yH).1).nl) 2) none,B ((z6 yv yH).2)]),(29,.agg [I yH.lo,I yH.hi]),(28,.agg [I yv.lo,I yv.hi]),(27,.fn (.func 92) [] []),(11,.lref 3 0 2 0),(25,.agg [I yH.lo,I yH.hi]),(24,.ptr (.agg [I yH.lo,I yH.hi])),(23,B true),(1,.sl yt.nl (yt.l.map Sn.D) (zsl yt.nl 2) none),(2,.fn (.func 92) [] []),(7,.lsl 1 0 yG.length 2 none),(9,.lref 2 0 2 0),(14,.sl a.nl (a.l.map Sn.D) (zsl a.nl 2) none),(15,I (a.l.length:Int)),(16,I (yR:Int)),(20,.sl yt.nl (yt.l.map Sn.D) (zsl yt.nl 2) none),(21,I (yt.l.length:Int)),(22,I (xU:Int))],[(2,⟨[.agg [I yv.lo,I yv.hi]],2,false⟩),(3,⟨[.agg [I yH.lo,I yH.hi]],2,false⟩),(4,⟨(yG++(((z6 yv yH).1).l)).map Sn.D,2,false⟩)],5,1⟩

def sd193 (a:GS Sn) (yR:Nat) (yt:GS Sn) (yv:Sn) (yE:List Sn):St:=⟨40,[(16,I ((yR+1:Nat):Int)),(38,I ((yR+1:Nat):Int)),(23,B false),(1,.sl yt.nl (yt.l.map Sn.D) (zsl yt.nl 2) none),(2,.fn (.func 92) [] []),(7,.lsl 1 0 yE.length 2 none),(9,.lref 2 0 2 0),(14,.sl a.nl (a.l.map Sn.D) (zsl a.nl 2) none),(15,I (a.l.length:Int)),(16,I (yR:Int)),(20,.sl yt.nl (yt.l.map Sn.D) (zsl yt.nl 2) none),(21,I (yt.l.length:Int)),(22,I (yt.l.length:Int))],[(1,⟨yE.map Sn.D,2,false⟩),(2,⟨[.agg [I yv.lo,I yv.hi]],2,false⟩)],3,1⟩

def sd187 (a:GS Sn) (yR:Nat) (yt:GS Sn) (yv:Sn) (yE:List Sn):St:=⟨40,[(23,B false),(1,.sl yt.nl (yt.l.map Sn.D) (zsl yt.nl 2) none),(2,.fn (.func 92) [] []),(7,.lsl 1 0 yE.length 2 none),(9,.lref 2 0 2 0),(14,.sl a.nl (a.l.map Sn.D) (zsl a.nl 2) none),(15,I (a.l.length:Int)),(16,I (yR:Int)),(20,.sl yt.nl (yt.l.map Sn.D) (zsl yt.nl 2) none),(21,I (yt.l.length:Int)),(22,I (yt.l.length:Int))],[(1,⟨yE.map Sn.D,2,false⟩),(2,⟨[.agg [I yv.lo,I yv.hi]],2,false⟩)],3,1⟩

def sd188 (a:GS Sn) (yR:Nat) (yt:GS Sn) (yv:Sn) (xe:Nat) (yC:Sn) (yE:List Sn):St:=⟨40,[(36,B true),(7,.lsl 1 0 yE.length 2 none),(35,.lsl 1 0 yE.length 2 none),(34,.sl (((z6 yv yC).1).nl) ((((z6 yv yC).1).l).map Sn.D) (zsl (((z6 yv yC).1).nl) 2) none),(33,.lsl 1 0 yE.length 2 none),(13,B true),(12,.sl (((z6 yv yC).1).nl) ((((z6 yv yC).1).l).map Sn.D) (zsl (((z6 yv yC).1).nl) 2) none),(32,B true),(31,.sl (((z6 yv yC).1).nl) ((((z6 yv yC).1).l).map Sn.D) (zsl (((z6 yv yC).1).nl) 2) none),(26,.tup [.sl (((z6 yv yC).1).nl) ((((z6 yv yC).1).l).map Sn.D) (zsl (((z6 yv yC).1).nl) 2) none,B ((z6 yv yC).2)]),(30,.tup [.sl (((z6 yv yC).1).nl) ((((z6 yv yC).1).l).map Sn.D) (zsl (((z6 yv yC).1).nl) 2) none,B ((z6 yv yC).2)]),(29,.agg [I yC.lo,I yC.hi]),(28,.agg [I yv.lo,I yv.hi]),(27,.fn (.func 92) [] []),(11,.lref 3 0 2 0),(25,.agg [I yC.lo,I yC.hi]),(24,.ptr (.agg [I yC.lo,I yC.hi])),(23,B true),(1,.sl yt.nl (yt.l.map Sn.D) (zsl yt.nl 2) none),(2,.fn (.func 92) [] []),(7,.lsl 1 0 yE.length 2 none),(9,.lref 2 0 2 0),(14,.sl a.nl (a.l.map Sn.D) (zsl a.nl 2) none),(15,I (a.l.length:Int)),(16,I (yR:Int)),(20,.sl yt.nl (yt.l.map Sn.D) (zsl yt.nl 2) none),(21,I (yt.l.length:Int)),(22,I (xe:Int))],[(1,⟨yE.map Sn.D,2,false⟩),(2,⟨[.agg [I yv.lo,I yv.hi]],2,false⟩),(3,⟨[.agg [I yC.lo,I yC.hi]],2,false⟩)],4,1⟩

def sd189 (a:GS Sn) (yR:Nat) (yt:GS Sn) (yv:Sn) (xe:Nat) (yC:Sn) (yE:List Sn):St:=⟨40,[(36,B true),(7,.lsl 4 0 ((yE++(((z6 yv yC).1).l)).length) 2 none),(35,.lsl 4 0 ((yE++(((z6 yv yC).1).l)).length) 2 none),(34,.sl (((z6 yv yC).1).nl) ((((z6 yv yC).1).l).map Sn.D) (zsl (((z6 yv yC).1).nl) 2) none),(33,.lsl 1 0 yE.length 2 none),(13,B true),(12,.sl (((z6 yv yC).1).nl) ((((z6 yv yC).1).l).map Sn.D) (zsl (((z6 yv yC).1).nl) 2) none),(32,B true),(31,.sl (((z6 yv yC).1).nl) ((((z6 yv yC).1).l).map Sn.D) (zsl (((z6 yv yC).1).nl) 2) none),(26,.tup [.sl (((z6 yv yC).1).nl) ((((z6 yv yC).1).l).map Sn.D) (zsl (((z6 yv yC).1).nl) 2) none,B ((z6 yv yC).2)]),(30,.tup [.sl (((z6 yv yC).1).nl) ((((z6 yv yC).1).l).map Sn.D) (zsl (((z6 yv yC).1).nl) 2) none,B ((z6 yv yC).2)]),(29,.agg [I yC.lo,I yC.hi]),(28,.agg [I yv.lo,I yv.hi]),(27,.fn (.func 92) [] []),(11,.lref 3 0 2 0),(25,.agg [I yC.lo,I yC.hi]),(24,.ptr (.agg [I yC.lo,I yC.hi])),(23,B true),(1,.sl yt.nl (yt.l.map Sn.D) (zsl yt.nl 2) none),(2,.fn (.func 92) [] []),(7,.lsl 1 0 yE.length 2 none),(9,.lref 2 0 2 0),(14,.sl a.nl (a.l.map Sn.D) (zsl a.nl 2) none),(15,I (a.l.length:Int)),(16,I (yR:Int)),(20,.sl yt.nl (yt.l.map Sn.D) (zsl yt.nl 2) none),(21,I (yt.l.length:Int)),(22,I (xe:Int))],[(2,⟨[.agg [I yv.lo,I yv.hi]],2,false⟩),(3,⟨[.agg [I yC.lo,I yC.hi]],2,false⟩),(4,⟨(yE++(((z6 yv yC).1).l)).map Sn.D,2,false⟩)],5,1⟩

def sd169 (a:GS Sn) (yR:Nat) (yt:GS Sn) (yv:Sn):St:=⟨40,[(23,B false),(1,.sl yt.nl (yt.l.map Sn.D) (zsl yt.nl 2) none),(2,.fn (.func 92) [] []),(7,.sl true [] 0 none),(9,.lref 1 0 2 0),(14,.sl a.nl (a.l.map Sn.D) (zsl a.nl 2) none),(15,I (a.l.length:Int)),(16,I (yR:Int)),(20,.sl yt.nl (yt.l.map Sn.D) (zsl yt.nl 2) none),(21,I (yt.l.length:Int)),(22,I (yt.l.length:Int))],[(1,⟨[.agg [I yv.lo,I yv.hi]],2,false⟩)],2,1⟩

def sd190 (a:GS Sn) (yR:Nat) (yt:GS Sn) (yv:Sn) (xe:Nat) (yC:Sn):St:=⟨40,[(36,B true),(7,.sl true [] 0 none),(35,.sl true [] 0 none),(34,.sl (((z6 yv yC).1).nl) ((((z6 yv yC).1).l).map Sn.D) (zsl (((z6 yv yC).1).nl) 2) none),(33,.sl true [] 0 none),(13,B true),(12,.sl (((z6 yv yC).1).nl) ((((z6 yv yC).1).l).map Sn.D) (zsl (((z6 yv yC).1).nl) 2) none),(32,B true),(31,.sl (((z6 yv yC).1).nl) ((((z6 yv yC).1).l).map Sn.D) (zsl (((z6 yv yC).1).nl) 2) none),(26,.tup [.sl (((z6 yv yC).1).nl) ((((z6 yv yC).1).l).map Sn.D) (zsl (((z6 yv yC).1).nl) 2) none,B ((z6 yv yC).2)]),(30,.tup [.sl (((z6 yv yC).1).nl) ((((z6 yv yC).1).l).map Sn.D) (zsl (((z6 yv yC).1).nl) 2) none,B ((z6 yv yC).2)]),(29,.agg [I yC.lo,I yC.hi]),(28,.agg [I yv.lo,I yv.hi]),(27,.fn (.func 92) [] []),(11,.lref 2 0 2 0),(25,.agg [I yC.lo,I yC.hi]),(24,.ptr (.agg [I yC.lo,I yC.hi])),(23,B true),(1,.sl yt.nl (yt.l.map Sn.D) (zsl yt.nl 2) none),(2,.fn (.func 92) [] []),(7,.sl true [] 0 none),(9,.lref 1 0 2 0),(14,.sl a.nl (a.l.map Sn.D) (zsl a.nl 2) none),(15,I (a.l.length:Int)),(16,I (yR:Int)),(20,.sl yt.nl (yt.l.map Sn.D) (zsl yt.nl 2) none),(21,I (yt.l.length:Int)),(22,I (xe:Int))],[(1,⟨[.agg [I yv.lo,I yv.hi]],2,false⟩),(2,⟨[.agg [I yC.lo,I yC.hi]],2,false⟩)],3,1⟩

def sd191 (a:GS Sn) (yR:Nat) (yt:GS Sn) (yv:Sn) (xe:Nat) (yC:Sn):St:=⟨40,[(36,B true),(7,.lsl 3 0 ((((z6 yv yC).1).l).length) 2 none),(35,.lsl 3 0 ((((z6 yv yC).1).l).length) 2 none),(34,.sl (((z6 yv yC).1).nl) ((((z6 yv yC).1).l).map Sn.D) (zsl (((z6 yv yC).1).nl) 2) none),(33,.sl true [] 0 none),(13,B true),(12,.sl (((z6 yv yC).1).nl) ((((z6 yv yC).1).l).map Sn.D) (zsl (((z6 yv yC).1).nl) 2) none),(32,B true),(31,.sl (((z6 yv yC).1).nl) ((((z6 yv yC).1).l).map Sn.D) (zsl (((z6 yv yC).1).nl) 2) none),(26,.tup [.sl (((z6 yv yC).1).nl) ((((z6 yv yC).1).l).map Sn.D) (zsl (((z6 yv yC).1).nl) 2) none,B ((z6 yv yC).2)]),(30,.tup [.sl (((z6 yv yC).1).nl) ((((z6 yv yC).1).l).map Sn.D) (zsl (((z6 yv yC).1).nl) 2) none,B ((z6 yv yC).2)]),(29,.agg [I yC.lo,I yC.hi]),(28,.agg [I yv.lo,I yv.hi]),(27,.fn (.func 92) [] []),(11,.lref 2 0 2 0),(25,.agg [I yC.lo,I yC.hi]),(24,.ptr (.agg [I yC.lo,I yC.hi])),(23,B true),(1,.sl yt.nl (yt.l.map Sn.D) (zsl yt.nl 2) none),(2,.fn (.func 92) [] []),(7,.sl true [] 0 none),(9,.lref 1 0 2 0),(14,.sl a.nl (a.l.map Sn.D) (zsl a.nl 2) none),(15,I (a.l.length:Int)),(16,I (yR:Int)),(20,.sl yt.nl (yt.l.map Sn.D) (zsl yt.nl 2) none),(21,I (yt.l.length:Int)),(22,I (xe:Int))],[(1,⟨[.agg [I yv.lo,I yv.hi]],2,false⟩),(2,⟨[.agg [I yC.lo,I yC.hi]],2,false⟩),(3,⟨(((z6 yv yC).1).l).map Sn.D,2,false⟩)],4,1⟩

inductive LR_ranges_pairs_3p4 where
 |x0 (yS:List Sn)
 |x1 (yR:Nat) (yv:Sn) (xU:Nat) (yH:Sn) (yG:List Sn)
 |x2 (yR:Nat) (yv:Sn) (xU:Nat) (yH:Sn) (yG:List Sn)
 |x3
 |x4 (yR:Nat) (yv:Sn) (xe:Nat) (yC:Sn) (yE:List Sn)
 |x5 (yR:Nat) (yv:Sn) (xe:Nat) (yC:Sn) (yE:List Sn)
 |x6 (yR:Nat) (yv:Sn) (xe:Nat) (yC:Sn)
 |x7 (yR:Nat) (yv:Sn) (xe:Nat) (yC:Sn)
instance:Inhabited LR_ranges_pairs_3p4:=⟨.x0 default⟩
def ranges_pairs_3p4a (yt:GS Sn):List Sn→Nat→(List Sn)→LR_ranges_pairs_3p4
 |[],yR,yS=>.x0 yS
 |yv::xA,yR,yS =>
  match ranges_pairs_6p8 yv yt.l 0 yS with
  |.x0 yG =>
   ranges_pairs_3p4a yt xA (yR+1) yG
  |.x1 xU yH yG =>
   .x1 yR yv xU yH yG
  |.x2 xU yH yG =>
   .x2 yR yv xU yH yG
def ranges_pairs_3p4 (yt:GS Sn):List Sn→Nat→LR_ranges_pairs_3p4
 |[],yR=>.x3
 |yv::xA,yR =>
  match ranges_pairs_6p9 yv yt.l 0 with
  |.x0 yE =>
   ranges_pairs_3p4a yt xA (yR+1) yE
  |.x1 xe yC yE =>
   .x4 yR yv xe yC yE
  |.x2 xe yC yE =>
   .x5 yR yv xe yC yE
  |.x3 =>
   ranges_pairs_3p4 yt xA (yR+1)
  |.x4 xe yC =>
   .x6 yR yv xe yC
  |.x5 xe yC =>
   .x7 yR yv xe yC
def lr_ranges_pairs_3p4 (a:GS Sn) (yt:GS Sn):LR_ranges_pairs_3p4→Exit × St
 |.x0 yS=>((.exit 0),⟨40,[(17,B false),(1,.sl yt.nl (yt.l.map Sn.D) (zsl yt.nl 2) none),(2,.fn (.func 92) [] []),(7,.lsl 1 0 yS.length 2 none),(14,.sl a.nl (a.l.map Sn.D) (zsl a.nl 2) none),(15,I (a.l.length:Int)),(16,I (a.l.length:Int))],[(1,⟨yS.map Sn.D,2,false⟩)],2,1⟩)
 |.x1 yR yv xU yH yG=>((.exit 0),⟨40,[(36,B true),(7,.lsl 1 0 yG.length 2 none),(35,.lsl 1 0 yG.length 2 none),(34,.sl (((z6 yv yH).1).nl) ((((z6 yv yH).1).l).map Sn.D) (zsl (((z6 yv yH).1).nl) 2) none),(33,.lsl 1 0 yG.length 2 none),(13,B true),(12,.sl (((z6 yv yH).1).nl) ((((z6 yv yH).1).l).map Sn.D) (zsl (((z6 yv yH).1).nl) 2) none),(32,B true),(31,.sl (((z6 yv yH).1).nl) ((((z6 yv yH).1).l).map Sn.D) (zsl (((z6 yv yH).1).nl) 2) none),(26,.tup [.sl (((z6 yv yH).1).nl) ((((z6 yv yH).1).l).map Sn.D) (zsl (((z6 yv yH).1).nl) 2) none,B ((z6 yv yH).2)]),(30,.tup [.sl (((z6 yv yH).1).nl) ((((z6 yv yH).1).l).map Sn.D) (zsl (((z6 yv yH).1).nl) 2) none,B ((z6 yv yH).2)]),(29,.agg [I yH.lo,I yH.hi]),(28,.agg [I yv.lo,I yv.hi]),(27,.fn (.func 92) [] []),(11,.lref 3 0 2 0),(25,.agg [I yH.lo,I yH.hi]),(24,.ptr (.agg [I yH.lo,I yH.hi])),(23,B true),(1,.sl yt.nl (yt.l.map Sn.D) (zsl yt.nl 2) none),(2,.fn (.func 92) [] []),(7,.lsl 1 0 yG.length 2 none),(9,.lref 2 0 2 0),(14,.sl a.nl (a.l.map Sn.D) (zsl a.nl 2) none),(15,I (a.l.length:Int)),(16,I (yR:Int)),(20,.sl yt.nl (yt.l.map Sn.D) (zsl yt.nl 2) none),(21,I (yt.l.length:Int)),(22,I (xU:Int))],[(1,⟨yG.map Sn.D,2,false⟩),(2,⟨[.agg [I yv.lo,I yv.hi]],2,false⟩),(3,⟨[.agg [I yH.lo,I yH.hi]],2,false⟩)],4,1⟩)
 |.x2 yR yv xU yH yG=>((.exit 0),⟨40,[(36,B true),(7,.lsl 4 0 ((yG++(((z6 yv yH).1).l)).length) 2 none),(35,.lsl 4 0 ((yG++(((z6 yv yH).1).l)).length) 2 none),(34,.sl (((z6 yv yH).1).nl) ((((z6 yv yH).1).l).map Sn.D) (zsl (((z6 yv yH).1).nl) 2) none),(33,.lsl 1 0 yG.length 2 none),(13,B true),(12,.sl (((z6 yv yH).1).nl) ((((z6 yv yH).1).l).map Sn.D) (zsl (((z6 yv yH).1).nl) 2) none),(32,B true),(31,.sl (((z6 yv yH).1).nl) ((((z6 yv yH).1).l).map Sn.D) (zsl (((z6 yv yH).1).nl) 2) none),(26,.tup [.sl (((z6 yv yH).1).nl) ((((z6 yv yH).1).l).map Sn.D) (zsl (((z6 yv yH).1).nl) 2) none,B ((z6 yv yH).2)]),(30,.tup [.sl (((z6 yv yH).1).nl) ((((z6 yv yH).1).l).map Sn.D) (zsl (((z6 yv yH).1).nl) 2) none,B ((z6 yv yH).2)]),(29,.agg [I yH.lo,I yH.hi]),(28,.agg [I yv.lo,I yv.hi]),(27,.fn (.func 92) [] []),(11,.lref 3 0 2 0),(25,.agg [I yH.lo,I yH.hi]),(24,.ptr (.agg [I yH.lo,I yH.hi])),(23,B true),(1,.sl yt.nl (yt.l.map Sn.D) (zsl yt.nl 2) none),(2,.fn (.func 92) [] []),(7,.lsl 1 0 yG.length 2 none),(9,.lref 2 0 2 0),(14,.sl a.nl (a.l.map Sn.D) (zsl a.nl 2) none),(15,I (a.l.length:Int)),(16,I (yR:Int)),(20,.sl yt.nl (yt.l.map Sn.D) (zsl yt.nl 2) none),(21,I (yt.l.length:Int)),(22,I (xU:Int))],[(2,⟨[.agg [I yv.lo,I yv.hi]],2,false⟩),(3,⟨[.agg [I yH.lo,I yH.hi]],2,false⟩),(4,⟨(yG++(((z6 yv yH).1).l)).map Sn.D,2,false⟩)],5,1⟩)
 |.x3=>((.exit 0),⟨40,[(17,B false),(1,.sl yt.nl (yt.l.map Sn.D) (zsl yt.nl 2) none),(2,.fn (.func 92) [] []),(7,.sl true [] 0 none),(14,.sl a.nl (a.l.map Sn.D) (zsl a.nl 2) none),(15,I (a.l.length:Int)),(16,I (a.l.length:Int))],[],1,1⟩)
 |.x4 yR yv xe yC yE=>((.exit 0),⟨40,[(36,B true),(7,.lsl 1 0 yE.length 2 none),(35,.lsl 1 0 yE.length 2 none),(34,.sl (((z6 yv yC).1).nl) ((((z6 yv yC).1).l).map Sn.D) (zsl (((z6 yv yC).1).nl) 2) none),(33,.lsl 1 0 yE.length 2 none),(13,B true),(12,.sl (((z6 yv yC).1).nl) ((((z6 yv yC).1).l).map Sn.D) (zsl (((z6 yv yC).1).nl) 2) none),(32,B true),(31,.sl (((z6 yv yC).1).nl) ((((z6 yv yC).1).l).map Sn.D) (zsl (((z6 yv yC).1).nl) 2) none),(26,.tup [.sl (((z6 yv yC).1).nl) ((((z6 yv yC).1).l).map Sn.D) (zsl (((z6 yv yC).1).nl) 2) none,B ((z6 yv yC).2)]),(30,.tup [.sl (((z6 yv yC).1).nl) ((((z6 yv yC).1).l).map Sn.D) (zsl (((z6 yv yC).1).nl) 2) none,B ((z6 yv yC).2)]),(29,.agg [I yC.lo,I yC.hi]),(28,.agg [I yv.lo,I yv.hi]),(27,.fn (.func 92) [] []),(11,.lref 3 0 2 0),(25,.agg [I yC.lo,I yC.hi]),(24,.ptr (.agg [I yC.lo,I yC.hi])),(23,B true),(1,.sl yt.nl (yt.l.map Sn.D) (zsl yt.nl 2) none),(2,.fn (.func 92) [] []),(7,.lsl 1 0 yE.length 2 none),(9,.lref 2 0 2 0),(14,.sl a.nl (a.l.map Sn.D) (zsl a.nl 2) none),(15,I (a.l.length:Int)),(16,I (yR:Int)),(20,.sl yt.nl (yt.l.map Sn.D) (zsl yt.nl 2) none),(21,I (yt.l.length:Int)),(22,I (xe:Int))],[(1,⟨yE.map Sn.D,2,false⟩),(2,⟨[.agg [I yv.lo,I yv.hi]],2,false⟩),(3,⟨[.agg [I yC.lo,I yC.hi]],2,false⟩)],4,1⟩)
 |.x5 yR yv xe yC yE=>((.exit 0),⟨40,[(36,B true),(7,.lsl 4 0 ((yE++(((z6 yv yC).1).l)).length) 2 none),(35,.lsl 4 0 ((yE++(((z6 yv yC).1).l)).length) 2 none),(34,.sl (((z6 yv yC).1).nl) ((((z6 yv yC).1).l).map Sn.D) (zsl (((z6 yv yC).1).nl) 2) none),(33,.lsl 1 0 yE.length 2 none),(13,B true),(12,.sl (((z6 yv yC).1).nl) ((((z6 yv yC).1).l).map Sn.D) (zsl (((z6 yv yC).1).nl) 2) none),(32,B true),(31,.sl (((z6 yv yC).1).nl) ((((z6 yv yC).1).l).map Sn.D) (zsl (((z6 yv yC).1).nl) 2) none),(26,.tup [.sl (((z6 yv yC).1).nl) ((((z6 yv yC).1).l).map Sn.D) (zsl (((z6 yv yC).1).nl) 2) none,B ((z6 yv yC).2)]),(30,.tup [.sl (((z6 yv yC).1).nl) ((((z6 yv yC).1).l).map Sn.D) (zsl (((z6 yv yC).1).nl) 2) none,B ((z6 yv yC).2)]),(29,.agg [I yC.lo,I yC.hi]),(28,.agg [I yv.lo,I yv.hi]),(27,.fn (.func 92) [] []),(11,.lref 3 0 2 0),(25,.agg [I yC.lo,I yC.hi]),(24,.ptr (.agg [I yC.lo,I yC.hi])),(23,B true),(1,.sl yt.nl (yt.l.map Sn.D) (zsl yt.nl 2) none),(2,.fn (.func 92) [] []),(7,.lsl 1 0 yE.length 2 none),(9,.lref 2 0 2 0),(14,.sl a.nl (a.l.map Sn.D) (zsl a.nl 2) none),(15,I (a.l.length:Int)),(16,I (yR:Int)),(20,.sl yt.nl (yt.l.map Sn.D) (zsl yt.nl 2) none),(21,I (yt.l.length:Int)),(22,I (xe:Int))],[(2,⟨[.agg [I yv.lo,I yv.hi]],2,false⟩),(3,⟨[.agg [I yC.lo,I yC.hi]],2,false⟩),(4,⟨(yE++(((z6 yv yC).1).l)).map Sn.D,2,false⟩)],5,1⟩)
 |.x6 yR yv xe yC=>((.exit 0),⟨40,[(36,B true),(7,.sl true [] 0 none),(35,.sl true [] 0 none),(34,.sl (((z6 yv yC).1).nl) ((((z6 yv yC).1).l).map Sn.D) (zsl (((z6 yv yC).1).nl) 2) none),(33,.sl true [] 0 none),(13,B true),(12,.sl (((z6 yv yC).1).nl) ((((z6 yv yC).1).l).map Sn.D) (zsl (((z6 yv yC).1).nl) 2) none),(32,B true),(31,.sl (((z6 yv yC).1).nl) ((((z6 yv yC).1).l).map Sn.D) (zsl (((z6 yv yC).1).nl) 2) none),(26,.tup [.sl (((z6 yv yC).1).nl) ((((z6 yv yC).1).l).map Sn.D) (zsl (((z6 yv yC).1).nl) 2) none,B ((z6 yv yC).2)]),(30,.tup [.sl (((z6 yv yC).1).nl) ((((z6 yv yC).1).l).map Sn.D) (zsl (((z6 yv yC).1).nl) 2) none,B ((z6 yv yC).2)]),(29,.agg [I yC.lo,I yC.hi]),(28,.agg [I yv.lo,I yv.hi]),(27,.fn (.func 92) [] []),(11,.lref 2 0 2 0),(25,.agg [I yC.lo,I yC.hi]),(24,.ptr (.agg [I yC.lo,I yC.hi])),(23,B true),(1,.sl yt.nl (yt.l.map Sn.D) (zsl yt.nl 2) none),(2,.fn (.func 92) [] []),(7,.sl true [] 0 none),(9,.lref 1 0 2 0),(14,.sl a.nl (a.l.map Sn.D) (zsl a.nl 2) none),(15,I (a.l.length:Int)),(16,I (yR:Int)),(20,.sl yt.nl (yt.l.map Sn.D) (zsl yt.nl 2) none),(21,I (yt.l.length:Int)),(22,I (xe:Int))],[(1,⟨[.agg [I yv.lo,I yv.hi]],2,false⟩),(2,⟨[.agg [I yC.lo,I yC.hi]],2,false⟩)],3,1⟩)
 |.x7 yR yv xe yC=>((.exit 0),⟨40,[(36,B true),(7,.lsl 3 0 ((((z6 yv yC).1).l).length) 2 none),(35,.lsl 3 0 ((((z6 yv yC).1).l).length) 2 none),(34,.sl (((z6 yv yC).1).nl) ((((z6 yv yC).1).l).map Sn.D) (zsl (((z6 yv yC).1).nl) 2) none),(33,.sl true [] 0 none),(13,B true),(12,.sl (((z6 yv yC).1).nl) ((((z6 yv yC).1).l).map Sn.D) (zsl (((z6 yv yC).1).nl) 2) none),(32,B true),(31,.sl (((z6 yv yC).1).nl) ((((z6 yv yC).1).l).map Sn.D) (zsl (((z6 yv yC).1).nl) 2) none),(26,.tup [.sl (((z6 yv yC).1).nl) ((((z6 yv yC).1).l).map Sn.D) (zsl (((z6 yv yC).1).nl) 2) none,B ((z6 yv yC).2)]),(30,.tup [.sl (((z6 yv yC).1).nl) ((((z6 yv yC).1).l).map Sn.D) (zsl (((z6 yv yC).1).nl) 2) none,B ((z6 yv yC).2)]),(29,.agg [I yC.lo,I yC.hi]),(28,.agg [I yv.lo,I yv.hi]),(27,.fn (.func 92) [] []),(11,.lref 2 0 2 0),(25,.agg [I yC.lo,I yC.hi]),(24,.ptr (.agg [I yC.lo,I yC.hi])),(23,B true),(1,.sl yt.nl (yt.l.map Sn.D) (zsl yt.nl 2) none),(2,.fn (.func 92) [] []),(7,.sl true [] 0 none),(9,.lref 1 0 2 0),(14,.sl a.nl (a.l.map Sn.D) (zsl a.nl 2) none),(15,I (a.l.length:Int)),(16,I (yR:Int)),(20,.sl yt.nl (yt.l.map Sn.D) (zsl yt.nl 2) none),(21,I (yt.l.length:Int)),(22,I (xe:Int))],[(1,⟨[.agg [I yv.lo,I yv.hi]],2,false⟩),(2,⟨[.agg [I yC.lo,I yC.hi]],2,false⟩),(3,⟨(((z6 yv yC).1).l).map Sn.D,2,false⟩)],4,1⟩)
def iv_ranges_pairs_3p4 (a:GS Sn) (yt:GS Sn):LR_ranges_pairs_3p4→Prop
 |.x0 yS=>(yS.length≤65 * a.l.length)
 |.x1 yR yv xU yH yG=>True
 |.x2 yR yv xU yH yG=>True
 |.x3=>True
 |.x4 yR yv xe yC yE=>True
 |.x5 yR yv xe yC yE=>True
 |.x6 yR yv xe yC=>True
 |.x7 yR yv xe yC=>True
theorem lp_ranges_pairs_3p4a (a:GS Sn) (yt:GS Sn):∀(xA:List Sn) (yR:Nat) (yS:List Sn) (xL:a.l.drop yR=xA) (hi3p4:yR≤a.l.length) (xF:a.l.length≤64) (xO:yt.l.length≤65) (hg3p4_va3p4_0:yS.length≤65 * yR) (hL3p4:a.l.length≤1099511627776),(lim cfg).loop 87 lp87_3 ⟨40,[(1,.sl yt.nl (yt.l.map Sn.D) (zsl yt.nl 2) none),(2,.fn (.func 92) [] []),(7,.lsl 1 0 yS.length 2 none),(14,.sl a.nl (a.l.map Sn.D) (zsl a.nl 2) none),(15,I (a.l.length:Int)),(16,I (yR:Int))],[(1,⟨yS.map Sn.D,2,false⟩)],2,1⟩=some (lr_ranges_pairs_3p4 a yt (ranges_pairs_3p4a yt xA yR yS)):=by
 intro xA
 induction xA with
 |nil =>
  intro yR yS xL hi3p4 xF xO hg3p4_va3p4_0 hL3p4
  unfold ranges_pairs_3p4a
  obtain rfl:yR=a.l.length:=zW xL hi3p4
  exact zD [.dec false] (Ai (lt_no xL) trivial) (by kernel_rfl)
 |cons yv xA ih =>
  intro yR yS xL hi3p4 xF xO hg3p4_va3p4_0 hL3p4
  have hlt3p4:=zg xL
  unfold ranges_pairs_3p4a
  have p1:=(zS (s:=a) (f:=Sn.D) (k:=2) xL)
  have p2:=(gc_of (C:=cfg) (f:=87) (a:=lp87_6) (ks:=[1,2,7,9,14,15,16,20,21,22]) (st:=(sd174 a yR yt yv yS)) (st1:=(sd175 a yR yt yv yS)) (by kernel_rfl) (by (simp only [sd174,sd175,go_sem,length_set,Nat.reduceAdd,Nat.reduceEqDiff,Nat.reduceLT,Nat.reduceLeDiff,bI2,ze.idsL,ze.renL,ze.snapAll,z7.idsL,z7.renL,z7.snapAll])<;>rfl))
  cases h28:ranges_pairs_6p8 yv yt.l 0 yS with
  |x0 yG =>
   try dsimp only
   have we:=ivt_ranges_pairs_6p8 a yR yt yv yt.l 0 yS (List.drop_zero) (Nat.zero_le _) (by omega) (by omega) (by omega) (by omega)
   rw [h28] at we
   have w9:=we
   try dsimp only [iv_ranges_pairs_6p8] at w9
   exact zz (ks:=[1,2,7,14,15,16]) (st':=(sd192 a yR yt yv yG)) [.dec true,.el (.agg [I yv.lo,I yv.hi]),.rw 21 (I (yt.l.length:Int)),.gloop (sd175 a yR yt yv yS) (.exit 2) (sd181 a yR yt yv yG),.rw 38 (I ((yR+1:Nat):Int))] (Ai (zM (i:=yR) (by have:=zg xL;omega)) (Ai (y8 (q:=lr_ranges_pairs_6p8 a yR yt yv) (lp_ranges_pairs_6p8 a yR yt yv yt.l 0 yS (List.drop_zero) (Nat.zero_le _) (by omega) (by omega) (by omega) (by omega)) h28) (Ai p2 (Ai (zk Sn.D yt) (Ai p1 (Ai (zT xL) trivial)))))) (by kernel_rfl) (by (simp only [sd192,go_sem,length_set,Nat.reduceAdd,Nat.reduceEqDiff,Nat.reduceLT,Nat.reduceLeDiff,bI2,ze.idsL,ze.renL,ze.snapAll,z7.idsL,z7.renL,z7.snapAll])<;>rfl) (ih (yR+1) yG (zi xL) (zg xL) (by omega) (by omega) (by omega) (by omega)) (by kernel_rfl)
  |x1 xU yH yG =>
   try dsimp only
   have we:=ivt_ranges_pairs_6p8 a yR yt yv yt.l 0 yS (List.drop_zero) (Nat.zero_le _) (by omega) (by omega) (by omega) (by omega)
   rw [h28] at we
   have w9:=we
   try dsimp only [iv_ranges_pairs_6p8] at w9
   exact zD [.dec true,.el (.agg [I yv.lo,I yv.hi]),.rw 21 (I (yt.l.length:Int)),.gloop (sd175 a yR yt yv yS) (.exit 0) (sd182 a yR yt yv xU yH yG)] (Ai (y8 (q:=lr_ranges_pairs_6p8 a yR yt yv) (lp_ranges_pairs_6p8 a yR yt yv yt.l 0 yS (List.drop_zero) (Nat.zero_le _) (by omega) (by omega) (by omega) (by omega)) h28) (Ai p2 (Ai (zk Sn.D yt) (Ai p1 (Ai (zT xL) trivial))))) (by kernel_rfl)
  |x2 xU yH yG =>
   try dsimp only
   have we:=ivt_ranges_pairs_6p8 a yR yt yv yt.l 0 yS (List.drop_zero) (Nat.zero_le _) (by omega) (by omega) (by omega) (by omega)
   rw [h28] at we
   have w9:=we
   try dsimp only [iv_ranges_pairs_6p8] at w9
   exact zD [.dec true,.el (.agg [I yv.lo,I yv.hi]),.rw 21 (I (yt.l.length:Int)),.gloop (sd175 a yR yt yv yS) (.exit 0) (sd183 a yR yt yv xU yH yG)] (Ai (y8 (q:=lr_ranges_pairs_6p8 a yR yt yv) (lp_ranges_pairs_6p8 a yR yt yv yt.l 0 yS (List.drop_zero) (Nat.zero_le _) (by omega) (by omega) (by omega) (by omega)) h28) (Ai p2 (Ai (zk Sn.D yt) (Ai p1 (Ai (zT xL) trivial))))) (by kernel_rfl)
theorem ivt_ranges_pairs_3p4a (a:GS Sn) (yt:GS Sn):∀(xA:List Sn) (yR:Nat) (yS:List Sn) (xL:a.l.drop yR=xA) (hi3p4:yR≤a.l.length) (xF:a.l.length≤64) (xO:yt.l.length≤65) (hg3p4_va3p4_0:yS.length≤65 * yR) (hL3p4:a.l.length≤1099511627776),iv_ranges_pairs_3p4 a yt (ranges_pairs_3p4a yt xA yR yS):=by
 intro xA
 induction xA with
 |nil =>
  intro yR yS xL hi3p4 xF xO hg3p4_va3p4_0 hL3p4
  unfold ranges_pairs_3p4a
  obtain rfl:yR=a.l.length:=zW xL hi3p4
  exact hg3p4_va3p4_0
 |cons yv xA ih =>
  intro yR yS xL hi3p4 xF xO hg3p4_va3p4_0 hL3p4
  have hlt3p4:=zg xL
  unfold ranges_pairs_3p4a
  cases h28:ranges_pairs_6p8 yv yt.l 0 yS with
  |x0 yG =>
   try dsimp only
   have we:=ivt_ranges_pairs_6p8 a yR yt yv yt.l 0 yS (List.drop_zero) (Nat.zero_le _) (by omega) (by omega) (by omega) (by omega)
   rw [h28] at we
   have w9:=we
   try dsimp only [iv_ranges_pairs_6p8] at w9
   exact ih (yR+1) yG (zi xL) (zg xL) (by omega) (by omega) (by omega) (by omega)
  |x1 xU yH yG =>
   try dsimp only
   have we:=ivt_ranges_pairs_6p8 a yR yt yv yt.l 0 yS (List.drop_zero) (Nat.zero_le _) (by omega) (by omega) (by omega) (by omega)
   rw [h28] at we
   have w9:=we
   try dsimp only [iv_ranges_pairs_6p8] at w9
   exact trivial
  |x2 xU yH yG =>
   try dsimp only
   have we:=ivt_ranges_pairs_6p8 a yR yt yv yt.l 0 yS (List.drop_zero) (Nat.zero_le _) (by omega) (by omega) (by omega) (by omega)
   rw [h28] at we
   have w9:=we
   try dsimp only [iv_ranges_pairs_6p8] at w9
   exact trivial
theorem lp_ranges_pairs_3p4 (a:GS Sn) (yt:GS Sn):∀(xA:List Sn) (yR:Nat) (xL:a.l.drop yR=xA) (hi3p4:yR≤a.l.length) (xF:a.l.length≤64) (xO:yt.l.length≤65) (hL3p4:a.l.length≤1099511627776),(lim cfg).loop 87 lp87_3 ⟨40,[(1,.sl yt.nl (yt.l.map Sn.D) (zsl yt.nl 2) none),(2,.fn (.func 92) [] []),(7,.sl true [] 0 none),(14,.sl a.nl (a.l.map Sn.D) (zsl a.nl 2) none),(15,I (a.l.length:Int)),(16,I (yR:Int))],[],1,1⟩=some (lr_ranges_pairs_3p4 a yt (ranges_pairs_3p4 yt xA yR)):=by
 intro xA
 induction xA with
 |nil =>
  intro yR xL hi3p4 xF xO hL3p4
  unfold ranges_pairs_3p4
  obtain rfl:yR=a.l.length:=zW xL hi3p4
  exact zD [.dec false] (Ai (lt_no xL) trivial) (by kernel_rfl)
 |cons yv xA ih =>
  intro yR xL hi3p4 xF xO hL3p4
  have hlt3p4:=zg xL
  unfold ranges_pairs_3p4
  have p1:=(zS (s:=a) (f:=Sn.D) (k:=2) xL)
  cases h41:ranges_pairs_6p9 yv yt.l 0 with
  |x0 yE =>
   try dsimp only
   have wg:=ivt_ranges_pairs_6p9 a yR yt yv yt.l 0 (List.drop_zero) (Nat.zero_le _) (by omega) (by omega) (by omega)
   rw [h41] at wg
   have wa:=wg
   try dsimp only [iv_ranges_pairs_6p9] at wa
   exact zz (ks:=[1,2,7,14,15,16]) (st':=(sd193 a yR yt yv yE)) [.dec true,.el (.agg [I yv.lo,I yv.hi]),.rw 21 (I (yt.l.length:Int)),.loop (.exit 2) (sd187 a yR yt yv yE),.rw 38 (I ((yR+1:Nat):Int))] (Ai (zM (i:=yR) (by have:=zg xL;omega)) (Ai (y8 (q:=lr_ranges_pairs_6p9 a yR yt yv) (lp_ranges_pairs_6p9 a yR yt yv yt.l 0 (List.drop_zero) (Nat.zero_le _) (by omega) (by omega) (by omega)) h41) (Ai (zk Sn.D yt) (Ai p1 (Ai (zT xL) trivial))))) (by kernel_rfl) (by (simp only [sd193,go_sem,length_set,Nat.reduceAdd,Nat.reduceEqDiff,Nat.reduceLT,Nat.reduceLeDiff,bI2,ze.idsL,ze.renL,ze.snapAll,z7.idsL,z7.renL,z7.snapAll])<;>rfl) (lp_ranges_pairs_3p4a a yt _ (yR+1) yE (zi xL) (zg xL) (by omega) (by omega) (by omega) (by omega)) (by kernel_rfl)
  |x1 xe yC yE =>
   try dsimp only
   have wg:=ivt_ranges_pairs_6p9 a yR yt yv yt.l 0 (List.drop_zero) (Nat.zero_le _) (by omega) (by omega) (by omega)
   rw [h41] at wg
   have wa:=wg
   try dsimp only [iv_ranges_pairs_6p9] at wa
   exact zD [.dec true,.el (.agg [I yv.lo,I yv.hi]),.rw 21 (I (yt.l.length:Int)),.loop (.exit 0) (sd188 a yR yt yv xe yC yE)] (Ai (y8 (q:=lr_ranges_pairs_6p9 a yR yt yv) (lp_ranges_pairs_6p9 a yR yt yv yt.l 0 (List.drop_zero) (Nat.zero_le _) (by omega) (by omega) (by omega)) h41) (Ai (zk Sn.D yt) (Ai p1 (Ai (zT xL) trivial)))) (by kernel_rfl)
  |x2 xe yC yE =>
   try dsimp only
   have wg:=ivt_ranges_pairs_6p9 a yR yt yv yt.l 0 (List.drop_zero) (Nat.zero_le _) (by omega) (by omega) (by omega)
   rw [h41] at wg
   have wa:=wg
   try dsimp only [iv_ranges_pairs_6p9] at wa
   exact zD [.dec true,.el (.agg [I yv.lo,I yv.hi]),.rw 21 (I (yt.l.length:Int)),.loop (.exit 0) (sd189 a yR yt yv xe yC yE)] (Ai (y8 (q:=lr_ranges_pairs_6p9 a yR yt yv) (lp_ranges_pairs_6p9 a yR yt yv yt.l 0 (List.drop_zero) (Nat.zero_le _) (by omega) (by omega) (by omega)) h41) (Ai (zk Sn.D yt) (Ai p1 (Ai (zT xL) trivial)))) (by kernel_rfl)
  |x3 =>
   try dsimp only
   exact po_turn [.dec true,.el (.agg [I yv.lo,I yv.hi]),.rw 21 (I (yt.l.length:Int)),.loop (.exit 2) (sd169 a yR yt yv),.rw 38 (I ((yR+1:Nat):Int))] (Ai (zM (i:=yR) (by have:=zg xL;omega)) (Ai (y8 (q:=lr_ranges_pairs_6p9 a yR yt yv) (lp_ranges_pairs_6p9 a yR yt yv yt.l 0 (List.drop_zero) (Nat.zero_le _) (by omega) (by omega) (by omega)) h41) (Ai (zk Sn.D yt) (Ai p1 (Ai (zT xL) trivial))))) (ih (yR+1) (zi xL) (zg xL) (by omega) (by omega) (by omega)) (by kernel_rfl)
  |x4 xe yC =>
   try dsimp only
   exact zD [.dec true,.el (.agg [I yv.lo,I yv.hi]),.rw 21 (I (yt.l.length:Int)),.loop (.exit 0) (sd190 a yR yt yv xe yC)] (Ai (y8 (q:=lr_ranges_pairs_6p9 a yR yt yv) (lp_ranges_pairs_6p9 a yR yt yv yt.l 0 (List.drop_zero) (Nat.zero_le _) (by omega) (by omega) (by omega)) h41) (Ai (zk Sn.D yt) (Ai p1 (Ai (zT xL) trivial)))) (by kernel_rfl)
  |x5 xe yC =>
   try dsimp only
   exact zD [.dec true,.el (.agg [I yv.lo,I yv.hi]),.rw 21 (I (yt.l.length:Int)),.loop (.exit 0) (sd191 a yR yt yv xe yC)] (Ai (y8 (q:=lr_ranges_pairs_6p9 a yR yt yv) (lp_ranges_pairs_6p9 a yR yt yv yt.l 0 (List.drop_zero) (Nat.zero_le _) (by omega) (by omega) (by omega)) h41) (Ai (zk Sn.D yt) (Ai p1 (Ai (zT xL) trivial)))) (by kernel_rfl)
theorem ivt_ranges_pairs_3p4 (a:GS Sn) (yt:GS Sn):∀(xA:List Sn) (yR:Nat) (xL:a.l.drop yR=xA) (hi3p4:yR≤a.l.length) (xF:a.l.length≤64) (xO:yt.l.length≤65) (hL3p4:a.l.length≤1099511627776),iv_ranges_pairs_3p4 a yt (ranges_pairs_3p4 yt xA yR):=by
 intro xA
 induction xA with
 |nil =>
  intro yR xL hi3p4 xF xO hL3p4
  unfold ranges_pairs_3p4
  obtain rfl:yR=a.l.length:=zW xL hi3p4
  exact trivial
 |cons yv xA ih =>
  intro yR xL hi3p4 xF xO hL3p4
  have hlt3p4:=zg xL
  unfold ranges_pairs_3p4
  cases h41:ranges_pairs_6p9 yv yt.l 0 with
  |x0 yE =>
   try dsimp only
   have wg:=ivt_ranges_pairs_6p9 a yR yt yv yt.l 0 (List.drop_zero) (Nat.zero_le _) (by omega) (by omega) (by omega)
   rw [h41] at wg
   have wa:=wg
   try dsimp only [iv_ranges_pairs_6p9] at wa
   exact ivt_ranges_pairs_3p4a a yt _ (yR+1) yE (zi xL) (zg xL) (by omega) (by omega) (by omega) (by omega)
  |x1 xe yC yE =>
   try dsimp only
   have wg:=ivt_ranges_pairs_6p9 a yR yt yv yt.l 0 (List.drop_zero) (Nat.zero_le _) (by omega) (by omega) (by omega)
   rw [h41] at wg
   have wa:=wg
   try dsimp only [iv_ranges_pairs_6p9] at wa
   exact trivial
  |x2 xe yC yE =>
   try dsimp only
   have wg:=ivt_ranges_pairs_6p9 a yR yt yv yt.l 0 (List.drop_zero) (Nat.zero_le _) (by omega) (by omega) (by omega)
   rw [h41] at wg
   have wa:=wg
   try dsimp only [iv_ranges_pairs_6p9] at wa
   exact trivial
  |x3 =>
   try dsimp only
   exact ih (yR+1) (zi xL) (zg xL) (by omega) (by omega) (by omega)
  |x4 xe yC =>
   try dsimp only
   exact trivial
  |x5 xe yC =>
   try dsimp only
   exact trivial

def ranges_Within (a:GS Sn) (b:GS Sn):Bool × Int :=
 bif ((zJ (GS.some [a,b])) != 0) then
  (false,(zJ (GS.some [a,b])))
 else
  match ranges_pairs_3p4 (zc b) a.l 0 with
  |.x0 yS =>
   bif ((yS.length:Int) == 0) then
    (true,0)
   else
    (false,0)
  |.x1 yR yv xU yH yG =>
   bif ((yG.length:Int) == 0) then
    (true,0)
   else
    (false,0)
  |.x2 yR yv xU yH yG =>
   bif ((((yG++(((z6 yv yH).1).l)).length:Nat):Int) == 0) then
    (true,0)
   else
    (false,0)
  |.x3 =>
   (true,0)
  |.x4 yR yv xe yC yE =>
   bif ((yE.length:Int) == 0) then
    (true,0)
   else
    (false,0)
  |.x5 yR yv xe yC yE =>
   bif ((((yE++(((z6 yv yC).1).l)).length:Nat):Int) == 0) then
    (true,0)
   else
    (false,0)
  |.x6 yR yv xe yC =>
   (true,0)
  |.x7 yR yv xe yC =>
   bif ((((((z6 yv yC).1).l).length:Nat):Int) == 0) then
    (true,0)
   else
    (false,0)

def yp (a:GS Sn) (b:GS Sn):List Ora:=[.pure (I (zJ (GS.some [a,b]))),.dec false,.pure (.sl ((zc b).nl) (((zc b).l).map Sn.D) (zsl ((zc b).nl) 2) none)]

def ranges_Within_o2 (yv:Sn) (yH:Sn) (yG:List Sn):List Ora:=[.inl (.lsl 1 0 yG.length 2 none) [(1,⟨yG.map Sn.D,2,false⟩),(2,⟨[.agg [I yv.lo,I yv.hi]],2,false⟩),(3,⟨[.agg [I yH.lo,I yH.hi]],2,false⟩)] 4]

def ranges_Within_o3 (yv:Sn) (yH:Sn) (yG:List Sn):List Ora:=[.inl (.lsl 4 0 ((yG++(((z6 yv yH).1).l)).length) 2 none) [(2,⟨[.agg [I yv.lo,I yv.hi]],2,false⟩),(3,⟨[.agg [I yH.lo,I yH.hi]],2,false⟩),(4,⟨(yG++(((z6 yv yH).1).l)).map Sn.D,2,false⟩)] 5]

def ranges_Within_o4 (yv:Sn) (yC:Sn) (yE:List Sn):List Ora:=[.inl (.lsl 1 0 yE.length 2 none) [(1,⟨yE.map Sn.D,2,false⟩),(2,⟨[.agg [I yv.lo,I yv.hi]],2,false⟩),(3,⟨[.agg [I yC.lo,I yC.hi]],2,false⟩)] 4]

def ranges_Within_o5 (yv:Sn) (yC:Sn) (yE:List Sn):List Ora:=[.inl (.lsl 4 0 ((yE++(((z6 yv yC).1).l)).length) 2 none) [(2,⟨[.agg [I yv.lo,I yv.hi]],2,false⟩),(3,⟨[.agg [I yC.lo,I yC.hi]],2,false⟩),(4,⟨(yE++(((z6 yv yC).1).l)).map Sn.D,2,false⟩)] 5]

def ranges_Within_o6 (yv:Sn) (yC:Sn):List Ora:=[.inl (.lsl 3 0 ((((z6 yv yC).1).l).length) 2 none) [(1,⟨[.agg [I yv.lo,I yv.hi]],2,false⟩),(2,⟨[.agg [I yC.lo,I yC.hi]],2,false⟩),(3,⟨(((z6 yv yC).1).l).map Sn.D,2,false⟩)] 4]

def sd194 (a:GS Sn) (b:GS Sn) (yS:List Sn):St:=⟨40,[(17,B false),(1,.sl ((zc b).nl) (((zc b).l).map Sn.D) (zsl ((zc b).nl) 2) none),(2,.fn (.func 92) [] []),(7,.lsl 1 0 yS.length 2 none),(14,.sl a.nl (a.l.map Sn.D) (zsl a.nl 2) none),(15,I (a.l.length:Int)),(16,I (a.l.length:Int))],[(1,⟨yS.map Sn.D,2,false⟩)],2,1⟩

def sd195 (a:GS Sn) (b:GS Sn) (yR:Nat) (yv:Sn) (xU:Nat) (yH:Sn) (yG:List Sn):St:=⟨40,[(36,B true),(7,.lsl 1 0 yG.length 2 none),(35,.lsl 1 0 yG.length 2 none),(34,.sl (((z6 yv yH).1).nl) ((((z6 yv yH).1).l).map Sn.D) (zsl (((z6 yv yH).1).nl) 2) none),(33,.lsl 1 0 yG.length 2 none),(13,B true),(12,.sl (((z6 yv yH).1).nl) ((((z6 yv yH).1).l).map Sn.D) (zsl (((z6 yv yH).1).nl) 2) none),(32,B true),(31,.sl (((z6 yv yH).1).nl) ((((z6 yv yH).1).l).map Sn.D) (zsl (((z6 yv yH).1).nl) 2) none),(26,.tup [.sl (((z6 yv yH).1).nl) ((((z6 yv yH).1).l).map Sn.D) (zsl (((z6 yv yH).1).nl) 2) none,B ((z6 yv yH).2)]),(30,.tup [.sl (((z6 yv yH).1).nl) ((((z6 yv yH).1).l).map Sn.D) (zsl (((z6 yv yH).1).nl) 2) none,B ((z6 yv yH).2)]),(29,.agg [I yH.lo,I yH.hi]),(28,.agg [I yv.lo,I yv.hi]),(27,.fn (.func 92) [] []),(11,.lref 3 0 2 0),(25,.agg [I yH.lo,I yH.hi]),(24,.ptr (.agg [I yH.lo,I yH.hi])),(23,B true),(1,.sl ((zc b).nl) (((zc b).l).map Sn.D) (zsl ((zc b).nl) 2) none),(2,.fn (.func 92) [] []),(7,.lsl 1 0 yG.length 2 none),(9,.lref 2 0 2 0),(14,.sl a.nl (a.l.map Sn.D) (zsl a.nl 2) none),(15,I (a.l.length:Int)),(16,I (yR:Int)),(20,.sl ((zc b).nl) (((zc b).l).map Sn.D) (zsl ((zc b).nl) 2) none),(21,I (((zc b).l.length:Nat):Int)),(22,I (xU:Int))],[(1,⟨yG.map Sn.D,2,false⟩),(2,⟨[.agg [I yv.lo,I yv.hi]],2,false⟩),(3,⟨[.agg [I yH.lo,I yH.hi]],2,false⟩)],4,1⟩

def sd196 (a:GS Sn) (b:GS Sn) (yR:Nat) (yv:Sn) (xU:Nat) (yH:Sn) (yG:List Sn):St:=⟨40,[(36,B true),(7,.lsl 4 0 ((yG++(((z6 yv yH).1).l)).length) 2 none),(35,.lsl 4 0 ((yG++(((z6 yv yH).1).l)).length) 2 none),(34,.sl (((z6 yv yH).1).nl) ((((z6 yv yH).1).l).map Sn.D) (zsl (((z6 yv yH).1).nl) 2) none),(33,.lsl 1 0 yG.length 2 none),(13,B true),(12,.sl (((z6 yv yH).1).nl) ((((z6 yv yH).1).l).map Sn.D) (zsl (((z6 yv yH).1).nl) 2) none),(32,B true),(31,.sl (((z6 yv yH).1).nl) ((((z6 yv yH).1).l).map Sn.D) (zsl (((z6 yv yH).1).nl) 2) none),(26,.tup [.sl (((z6 yv yH).1).nl) ((((z6 yv yH).1).l).map Sn.D) (zsl (((z6 yv yH).1).nl) 2) none,B ((z6 yv yH).2)]),(30,.tup [.sl (((z6 yv yH).1).nl) ((((z6 yv yH).1).l).map Sn.D) (zsl (((z6 yv yH).1).nl) 2) none,B ((z6 yv yH).2)]),(29,.agg [I yH.lo,I yH.hi]),(28,.agg [I yv.lo,I yv.hi]),(27,.fn (.func 92) [] []),(11,.lref 3 0 2 0),(25,.agg [I yH.lo,I yH.hi]),(24,.ptr (.agg [I yH.lo,I yH.hi])),(23,B true),(1,.sl ((zc b).nl) (((zc b).l).map Sn.D) (zsl ((zc b).nl) 2) none),(2,.fn (.func 92) [] []),(7,.lsl 1 0 yG.length 2 none),(9,.lref 2 0 2 0),(14,.sl a.nl (a.l.map Sn.D) (zsl a.nl 2) none),(15,I (a.l.length:Int)),(16,I (yR:Int)),(20,.sl ((zc b).nl) (((zc b).l).map Sn.D) (zsl ((zc b).nl) 2) none),(21,I (((zc b).l.length:Nat):Int)),(22,I (xU:Int))],[(2,⟨[.agg [I yv.lo,I yv.hi]],2,false⟩),(3,⟨[.agg [I yH.lo,I yH.hi]],2,false⟩),(4,⟨(yG++(((z6 yv yH).1).l)).map Sn.D,2,false⟩)],5,1⟩

def sd197 (a:GS Sn) (b:GS Sn):St:=⟨40,[(17,B false),(1,.sl ((zc b).nl) (((zc b).l).map Sn.D) (zsl ((zc b).nl) 2) none),(2,.fn (.func 92) [] []),(7,.sl true [] 0 none),(14,.sl a.nl (a.l.map Sn.D) (zsl a.nl 2) none),(15,I (a.l.length:Int)),(16,I (a.l.length:Int))],[],1,1⟩

def sd198 (a:GS Sn) (b:GS Sn) (yR:Nat) (yv:Sn) (xe:Nat) (yC:Sn) (yE:List Sn):St:=⟨40,[(36,B true),(7,.lsl 1 0 yE.length 2 none),(35,.lsl 1 0 yE.length 2 none),(34,.sl (((z6 yv yC).1).nl) ((((z6 yv yC).1).l).map Sn.D) (zsl (((z6 yv yC).1).nl) 2) none),(33,.lsl 1 0 yE.length 2 none),(13,B true),(12,.sl (((z6 yv yC).1).nl) ((((z6 yv yC).1).l).map Sn.D) (zsl (((z6 yv yC).1).nl) 2) none),(32,B true),(31,.sl (((z6 yv yC).1).nl) ((((z6 yv yC).1).l).map Sn.D) (zsl (((z6 yv yC).1).nl) 2) none),(26,.tup [.sl (((z6 yv yC).1).nl) ((((z6 yv yC).1).l).map Sn.D) (zsl (((z6 yv yC).1).nl) 2) none,B ((z6 yv yC).2)]),(30,.tup [.sl (((z6 yv yC).1).nl) ((((z6 yv yC).1).l).map Sn.D) (zsl (((z6 yv yC).1).nl) 2) none,B ((z6 yv yC).2)]),(29,.agg [I yC.lo,I yC.hi]),(28,.agg [I yv.lo,I yv.hi]),(27,.fn (.func 92) [] []),(11,.lref 3 0 2 0),(25,.agg [I yC.lo,I yC.hi]),(24,.ptr (.agg [I yC.lo,I yC.hi])),(23,B true),(1,.sl ((zc b).nl) (((zc b).l).map Sn.D) (zsl ((zc b).nl) 2) none),(2,.fn (.func 92) [] []),(7,.lsl 1 0 yE.length 2 none),(9,.lref 2 0 2 0),(14,.sl a.nl (a.l.map Sn.D) (zsl a.nl 2) none),(15,I (a.l.length:Int)),(16,I (yR:Int)),(20,.sl ((zc b).nl) (((zc b).l).map Sn.D) (zsl ((zc b).nl) 2) none),(21,I (((zc b).l.length:Nat):Int)),(22,I (xe:Int))],[(1,⟨yE.map Sn.D,2,false⟩),(2,⟨[.agg [I yv.lo,I yv.hi]],2,false⟩),(3,⟨[.agg [I yC.lo,I yC.hi]],2,false⟩)],4,1⟩

def sd199 (a:GS Sn) (b:GS Sn) (yR:Nat) (yv:Sn) (xe:Nat) (yC:Sn) (yE:List Sn):St:=⟨40,[(36,B true),(7,.lsl 4 0 ((yE++(((z6 yv yC).1).l)).length) 2 none),(35,.lsl 4 0 ((yE++(((z6 yv yC).1).l)).length) 2 none),(34,.sl (((z6 yv yC).1).nl) ((((z6 yv yC).1).l).map Sn.D) (zsl (((z6 yv yC).1).nl) 2) none),(33,.lsl 1 0 yE.length 2 none),(13,B true),(12,.sl (((z6 yv yC).1).nl) ((((z6 yv yC).1).l).map Sn.D) (zsl (((z6 yv yC).1).nl) 2) none),(32,B true),(31,.sl (((z6 yv yC).1).nl) ((((z6 yv yC).1).l).map Sn.D) (zsl (((z6 yv yC).1).nl) 2) none),(26,.tup [.sl (((z6 yv yC).1).nl) ((((z6 yv yC).1).l).map Sn.D) (zsl (((z6 yv yC).1).nl) 2) none,B ((z6 yv yC).2)]),(30,.tup [.sl (((z6 yv yC).1).nl) ((((z6 yv yC).1).l).map Sn.D) (zsl (((z6 yv yC).1).nl) 2) none,B ((z6 yv yC).2)]),(29,.agg [I yC.lo,I yC.hi]),(28,.agg [I yv.lo,I yv.hi]),(27,.fn (.func 92) [] []),(11,.lref 3 0 2 0),(25,.agg [I yC.lo,I yC.hi]),(24,.ptr (.agg [I yC.lo,I yC.hi])),(23,B true),(1,.sl ((zc b).nl) (((zc b).l).map Sn.D) (zsl ((zc b).nl) 2) none),(2,.fn (.func 92) [] []),(7,.lsl 1 0 yE.length 2 none),(9,.lref 2 0 2 0),(14,.sl a.nl (a.l.map Sn.D) (zsl a.nl 2) none),(15,I (a.l.length:Int)),(16,I (yR:Int)),(20,.sl ((zc b).nl) (((zc b).l).map Sn.D) (zsl ((zc b).nl) 2) none),(21,I (((zc b).l.length:Nat):Int)),(22,I (xe:Int))],[(2,⟨[.agg [I yv.lo,I yv.hi]],2,false⟩),(3,⟨[.agg [I yC.lo,I yC.hi]],2,false⟩),(4,⟨(yE++(((z6 yv yC).1).l)).map Sn.D,2,false⟩)],5,1⟩

def sd200 (a:GS Sn) (b:GS Sn) (yR:Nat) (yv:Sn) (xe:Nat) (yC:Sn):St:=⟨40,[(36,B true),(7,.sl true [] 0 none),(35,.sl true [] 0 none),(34,.sl (((z6 yv yC).1).nl) ((((z6 yv yC).1).l).map Sn.D) (zsl (((z6 yv yC).1).nl) 2) none),(33,.sl true [] 0 none),(13,B true),(12,.sl (((z6 yv yC).1).nl) ((((z6 yv yC).1).l).map Sn.D) (zsl (((z6 yv yC).1).nl) 2) none),(32,B true),(31,.sl (((z6 yv yC).1).nl) ((((z6 yv yC).1).l).map Sn.D) (zsl (((z6 yv yC).1).nl) 2) none),(26,.tup [.sl (((z6 yv yC).1).nl) ((((z6 yv yC).1).l).map Sn.D) (zsl (((z6 yv yC).1).nl) 2) none,B ((z6 yv yC).2)]),(30,.tup [.sl (((z6 yv yC).1).nl) ((((z6 yv yC).1).l).map Sn.D) (zsl (((z6 yv yC).1).nl) 2) none,B ((z6 yv yC).2)]),(29,.agg [I yC.lo,I yC.hi]),(28,.agg [I yv.lo,I yv.hi]),(27,.fn (.func 92) [] []),(11,.lref 2 0 2 0),(25,.agg [I yC.lo,I yC.hi]),(24,.ptr (.agg [I yC.lo,I yC.hi])),(23,B true),(1,.sl ((zc b).nl) (((zc b).l).map Sn.D) (zsl ((zc b).nl) 2) none),(2,.fn (.func 92) [] []),(7,.sl true [] 0 none),(9,.lref 1 0 2 0),(14,.sl a.nl (a.l.map Sn.D) (zsl a.nl 2) none),(15,I (a.l.length:Int)),(16,I (yR:Int)),(20,.sl ((zc b).nl) (((zc b).l).map Sn.D) (zsl ((zc b).nl) 2) none),(21,I (((zc b).l.length:Nat):Int)),(22,I (xe:Int))],[(1,⟨[.agg [I yv.lo,I yv.hi]],2,false⟩),(2,⟨[.agg [I yC.lo,I yC.hi]],2,false⟩)],3,1⟩

def sd201 (a:GS Sn) (b:GS Sn) (yR:Nat) (yv:Sn) (xe:Nat) (yC:Sn):St:=⟨40,[(36,B true),(7,.lsl 3 0 ((((z6 yv yC).1).l).length) 2 none),(35,.lsl 3 0 ((((z6 yv yC).1).l).length) 2 none),(34,.sl (((z6 yv yC).1).nl) ((((z6 yv yC).1).l).map Sn.D) (zsl (((z6 yv yC).1).nl) 2) none),(33,.sl true [] 0 none),(13,B true),(12,.sl (((z6 yv yC).1).nl) ((((z6 yv yC).1).l).map Sn.D) (zsl (((z6 yv yC).1).nl) 2) none),(32,B true),(31,.sl (((z6 yv yC).1).nl) ((((z6 yv yC).1).l).map Sn.D) (zsl (((z6 yv yC).1).nl) 2) none),(26,.tup [.sl (((z6 yv yC).1).nl) ((((z6 yv yC).1).l).map Sn.D) (zsl (((z6 yv yC).1).nl) 2) none,B ((z6 yv yC).2)]),(30,.tup [.sl (((z6 yv yC).1).nl) ((((z6 yv yC).1).l).map Sn.D) (zsl (((z6 yv yC).1).nl) 2) none,B ((z6 yv yC).2)]),(29,.agg [I yC.lo,I yC.hi]),(28,.agg [I yv.lo,I yv.hi]),(27,.fn (.func 92) [] []),(11,.lref 2 0 2 0),(25,.agg [I yC.lo,I yC.hi]),(24,.ptr (.agg [I yC.lo,I yC.hi])),(23,B true),(1,.sl ((zc b).nl) (((zc b).l).map Sn.D) (zsl ((zc b).nl) 2) none),(2,.fn (.func 92) [] []),(7,.sl true [] 0 none),(9,.lref 1 0 2 0),(14,.sl a.nl (a.l.map Sn.D) (zsl a.nl 2) none),(15,I (a.l.length:Int)),(16,I (yR:Int)),(20,.sl ((zc b).nl) (((zc b).l).map Sn.D) (zsl ((zc b).nl) 2) none),(21,I (((zc b).l.length:Nat):Int)),(22,I (xe:Int))],[(1,⟨[.agg [I yv.lo,I yv.hi]],2,false⟩),(2,⟨[.agg [I yC.lo,I yC.hi]],2,false⟩),(3,⟨(((z6 yv yC).1).l).map Sn.D,2,false⟩)],4,1⟩

theorem T_ranges_Within (a:GS Sn) (b:GS Sn) (hLa:a.l.length≤9223372036854775807) (hLb:b.l.length≤9223372036854775807) (hL_b:b.l.length≤1099511627776):(lim cfg).pure 35 [GS.D Sn.D 2 a,GS.D Sn.D 2 b]=some (.tup [B ((ranges_Within a b).1),I ((ranges_Within a b).2)]):=by
 unfold ranges_Within
 have p1:=(T_ranges_check (GS.some [a,b]) (by exact zF (by omega) (by omega)) (by simp only [zv,GS.some_l,length_set,length_append,length_cons,length_nil] at *<;>first|assumption|omega))
 cases h1:((zJ (GS.some [a,b])) != 0) with
 |true =>
  have g1:=bne_true h1
  exact zp [.pure (I (zJ (GS.some [a,b]))),.dec true] (Ai h1 (Ai p1 trivial)) (by kernel_rfl)
 |false =>
  have g1:=check2_len (bne_false h1)
  have p2:=(T_ranges_outside b (by omega) (by omega))
  cases h42:ranges_pairs_3p4 (zc b) a.l 0 with
  |x0 yS =>
   try dsimp only
   have hv_h42:=ivt_ranges_pairs_3p4 a (zc b) a.l 0 (List.drop_zero) (Nat.zero_le _) (by omega) (by exact zl _ (by omega)) (by omega)
   rw [h42] at hv_h42
   have hv_h42_0:=hv_h42
   try dsimp only [iv_ranges_pairs_3p4] at hv_h42_0
   have p3:=(show (lim cfg).inl 87 [.sl a.nl (a.l.map Sn.D) (zsl a.nl 2) none,.sl ((zc b).nl) (((zc b).l).map Sn.D) (zsl ((zc b).nl) 2) none,.fn (.func 92) [] []] [] 1=some (.lsl 1 0 yS.length 2 none,[(1,⟨yS.map Sn.D,2,false⟩)],2) from po_inl [.rw 15 (I (a.l.length:Int)),.loop (.exit 0) (sd194 a b yS)] (Ai (y8 (q:=lr_ranges_pairs_3p4 a (zc b)) (lp_ranges_pairs_3p4 a (zc b) a.l 0 (List.drop_zero) (Nat.zero_le _) (by omega) (by exact zl _ (by omega)) (by omega)) h42) (Ai (zk Sn.D a) trivial)) (by kernel_rfl))
   cases h43:((yS.length:Int) == 0) with
   |true =>
    have g43:=eq_of_beq h43
    exact zp ((yp a b)++[.inl (.lsl 1 0 yS.length 2 none) [(1,⟨yS.map Sn.D,2,false⟩)] 2,.dec true]) (Ai h43 (Ai p3 (Ai p2 (Ai h1 (Ai p1 trivial))))) (by kernel_rfl)
   |false =>
    have g43:=ne_of_beq_false h43
    exact zp ((yp a b)++[.inl (.lsl 1 0 yS.length 2 none) [(1,⟨yS.map Sn.D,2,false⟩)] 2,.dec false]) (Ai h43 (Ai p3 (Ai p2 (Ai h1 (Ai p1 trivial))))) (by kernel_rfl)
  |x1 yR yv xU yH yG =>
   try dsimp only
   have p4:=(show (lim cfg).inl 87 [.sl a.nl (a.l.map Sn.D) (zsl a.nl 2) none,.sl ((zc b).nl) (((zc b).l).map Sn.D) (zsl ((zc b).nl) 2) none,.fn (.func 92) [] []] [] 1=some (.lsl 1 0 yG.length 2 none,[(1,⟨yG.map Sn.D,2,false⟩),(2,⟨[.agg [I yv.lo,I yv.hi]],2,false⟩),(3,⟨[.agg [I yH.lo,I yH.hi]],2,false⟩)],4) from po_inl [.rw 15 (I (a.l.length:Int)),.loop (.exit 0) (sd195 a b yR yv xU yH yG)] (Ai (y8 (q:=lr_ranges_pairs_3p4 a (zc b)) (lp_ranges_pairs_3p4 a (zc b) a.l 0 (List.drop_zero) (Nat.zero_le _) (by omega) (by exact zl _ (by omega)) (by omega)) h42) (Ai (zk Sn.D a) trivial)) (by kernel_rfl))
   cases h44:((yG.length:Int) == 0) with
   |true =>
    have g44:=eq_of_beq h44
    exact zp ((yp a b)++((ranges_Within_o2 yv yH yG)++[.dec true])) (Ai h44 (Ai p4 (Ai p2 (Ai h1 (Ai p1 trivial))))) (by kernel_rfl)
   |false =>
    have g44:=ne_of_beq_false h44
    exact zp ((yp a b)++((ranges_Within_o2 yv yH yG)++[.dec false])) (Ai h44 (Ai p4 (Ai p2 (Ai h1 (Ai p1 trivial))))) (by kernel_rfl)
  |x2 yR yv xU yH yG =>
   try dsimp only
   have p5:=(show (lim cfg).inl 87 [.sl a.nl (a.l.map Sn.D) (zsl a.nl 2) none,.sl ((zc b).nl) (((zc b).l).map Sn.D) (zsl ((zc b).nl) 2) none,.fn (.func 92) [] []] [] 1=some (.lsl 4 0 ((yG++(((z6 yv yH).1).l)).length) 2 none,[(2,⟨[.agg [I yv.lo,I yv.hi]],2,false⟩),(3,⟨[.agg [I yH.lo,I yH.hi]],2,false⟩),(4,⟨(yG++(((z6 yv yH).1).l)).map Sn.D,2,false⟩)],5) from po_inl [.rw 15 (I (a.l.length:Int)),.loop (.exit 0) (sd196 a b yR yv xU yH yG)] (Ai (y8 (q:=lr_ranges_pairs_3p4 a (zc b)) (lp_ranges_pairs_3p4 a (zc b) a.l 0 (List.drop_zero) (Nat.zero_le _) (by omega) (by exact zl _ (by omega)) (by omega)) h42) (Ai (zk Sn.D a) trivial)) (by kernel_rfl))
   cases h45:((((yG++(((z6 yv yH).1).l)).length:Nat):Int) == 0) with
   |true =>
    have g45:=eq_of_beq h45
    exact zp ((yp a b)++((ranges_Within_o3 yv yH yG)++[.dec true])) (Ai h45 (Ai p5 (Ai p2 (Ai h1 (Ai p1 trivial))))) (by kernel_rfl)
   |false =>
    have g45:=ne_of_beq_false h45
    exact zp ((yp a b)++((ranges_Within_o3 yv yH yG)++[.dec false])) (Ai h45 (Ai p5 (Ai p2 (Ai h1 (Ai p1 trivial))))) (by kernel_rfl)
  |x3 =>
   try dsimp only
   exact zp ((yp a b)++[.inl (.sl true [] 0 none) [] 1,.dec true]) (Ai (Eq.refl true) (Ai (show (lim cfg).inl 87 [.sl a.nl (a.l.map Sn.D) (zsl a.nl 2) none,.sl ((zc b).nl) (((zc b).l).map Sn.D) (zsl ((zc b).nl) 2) none,.fn (.func 92) [] []] [] 1=some (.sl true [] 0 none,[],1) from po_inl [.rw 15 (I (a.l.length:Int)),.loop (.exit 0) (sd197 a b)] (Ai (y8 (q:=lr_ranges_pairs_3p4 a (zc b)) (lp_ranges_pairs_3p4 a (zc b) a.l 0 (List.drop_zero) (Nat.zero_le _) (by omega) (by exact zl _ (by omega)) (by omega)) h42) (Ai (zk Sn.D a) trivial)) (by kernel_rfl)) (Ai p2 (Ai h1 (Ai p1 trivial))))) (by kernel_rfl)
  |x4 yR yv xe yC yE =>
   try dsimp only
   have p6:=(show (lim cfg).inl 87 [.sl a.nl (a.l.map Sn.D) (zsl a.nl 2) none,.sl ((zc b).nl) (((zc b).l).map Sn.D) (zsl ((zc b).nl) 2) none,.fn (.func 92) [] []] [] 1=some (.lsl 1 0 yE.length 2 none,[(1,⟨yE.map Sn.D,2,false⟩),(2,⟨[.agg [I yv.lo,I yv.hi]],2,false⟩),(3,⟨[.agg [I yC.lo,I yC.hi]],2,false⟩)],4) from po_inl [.rw 15 (I (a.l.length:Int)),.loop (.exit 0) (sd198 a b yR yv xe yC yE)] (Ai (y8 (q:=lr_ranges_pairs_3p4 a (zc b)) (lp_ranges_pairs_3p4 a (zc b) a.l 0 (List.drop_zero) (Nat.zero_le _) (by omega) (by exact zl _ (by omega)) (by omega)) h42) (Ai (zk Sn.D a) trivial)) (by kernel_rfl))
   cases h46:((yE.length:Int) == 0) with
   |true =>
    have g46:=eq_of_beq h46
    exact zp ((yp a b)++((ranges_Within_o4 yv yC yE)++[.dec true])) (Ai h46 (Ai p6 (Ai p2 (Ai h1 (Ai p1 trivial))))) (by kernel_rfl)
   |false =>
    have g46:=ne_of_beq_false h46
    exact zp ((yp a b)++((ranges_Within_o4 yv yC yE)++[.dec false])) (Ai h46 (Ai p6 (Ai p2 (Ai h1 (Ai p1 trivial))))) (by kernel_rfl)
  |x5 yR yv xe yC yE =>
   try dsimp only
   have p7:=(show (lim cfg).inl 87 [.sl a.nl (a.l.map Sn.D) (zsl a.nl 2) none,.sl ((zc b).nl) (((zc b).l).map Sn.D) (zsl ((zc b).nl) 2) none,.fn (.func 92) [] []] [] 1=some (.lsl 4 0 ((yE++(((z6 yv yC).1).l)).length) 2 none,[(2,⟨[.agg [I yv.lo,I yv.hi]],2,false⟩),(3,⟨[.agg [I yC.lo,I yC.hi]],2,false⟩),(4,⟨(yE++(((z6 yv yC).1).l)).map Sn.D,2,false⟩)],5) from po_inl [.rw 15 (I (a.l.length:Int)),.loop (.exit 0) (sd199 a b yR yv xe yC yE)] (Ai (y8 (q:=lr_ranges_pairs_3p4 a (zc b)) (lp_ranges_pairs_3p4 a (zc b) a.l 0 (List.drop_zero) (Nat.zero_le _) (by omega) (by exact zl _ (by omega)) (by omega)) h42) (Ai (zk Sn.D a) trivial)) (by kernel_rfl))
   cases h47:((((yE++(((z6 yv yC).1).l)).length:Nat):Int) == 0) with
   |true =>
    have g47:=eq_of_beq h47
    exact zp ((yp a b)++((ranges_Within_o5 yv yC yE)++[.dec true])) (Ai h47 (Ai p7 (Ai p2 (Ai h1 (Ai p1 trivial))))) (by kernel_rfl)
   |false =>
    have g47:=ne_of_beq_false h47
    exact zp ((yp a b)++((ranges_Within_o5 yv yC yE)++[.dec false])) (Ai h47 (Ai p7 (Ai p2 (Ai h1 (Ai p1 trivial))))) (by kernel_rfl)
  |x6 yR yv xe yC =>
   try dsimp only
   exact zp ((yp a b)++[.inl (.sl true [] 0 none) [(1,⟨[.agg [I yv.lo,I yv.hi]],2,false⟩),(2,⟨[.agg [I yC.lo,I yC.hi]],2,false⟩)] 3,.dec true]) (Ai (Eq.refl true) (Ai (show (lim cfg).inl 87 [.sl a.nl (a.l.map Sn.D) (zsl a.nl 2) none,.sl ((zc b).nl) (((zc b).l).map Sn.D) (zsl ((zc b).nl) 2) none,.fn (.func 92) [] []] [] 1=some (.sl true [] 0 none,[(1,⟨[.agg [I yv.lo,I yv.hi]],2,false⟩),(2,⟨[.agg [I yC.lo,I yC.hi]],2,false⟩)],3) from po_inl [.rw 15 (I (a.l.length:Int)),.loop (.exit 0) (sd200 a b yR yv xe yC)] (Ai (y8 (q:=lr_ranges_pairs_3p4 a (zc b)) (lp_ranges_pairs_3p4 a (zc b) a.l 0 (List.drop_zero) (Nat.zero_le _) (by omega) (by exact zl _ (by omega)) (by omega)) h42) (Ai (zk Sn.D a) trivial)) (by kernel_rfl)) (Ai p2 (Ai h1 (Ai p1 trivial))))) (by kernel_rfl)
  |x7 yR yv xe yC =>
   try dsimp only
   have p8:=(show (lim cfg).inl 87 [.sl a.nl (a.l.map Sn.D) (zsl a.nl 2) none,.sl ((zc b).nl) (((zc b).l).map Sn.D) (zsl ((zc b).nl) 2) none,.fn (.func 92) [] []] [] 1=some (.lsl 3 0 ((((z6 yv yC).1).l).length) 2 none,[(1,⟨[.agg [I yv.lo,I yv.hi]],2,false⟩),(2,⟨[.agg [I yC.lo,I yC.hi]],2,false⟩),(3,⟨(((z6 yv yC).1).l).map Sn.D,2,false⟩)],4) from po_inl [.rw 15 (I (a.l.length:Int)),.loop (.exit 0) (sd201 a b yR yv xe yC)] (Ai (y8 (q:=lr_ranges_pairs_3p4 a (zc b)) (lp_ranges_pairs_3p4 a (zc b) a.l 0 (List.drop_zero) (Nat.zero_le _) (by omega) (by exact zl _ (by omega)) (by omega)) h42) (Ai (zk Sn.D a) trivial)) (by kernel_rfl))
   cases h48:((((((z6 yv yC).1).l).length:Nat):Int) == 0) with
   |true =>
    have g48:=eq_of_beq h48
    exact zp ((yp a b)++((ranges_Within_o6 yv yC)++[.dec true])) (Ai h48 (Ai p8 (Ai p2 (Ai h1 (Ai p1 trivial))))) (by kernel_rfl)
   |false =>
    have g48:=ne_of_beq_false h48
    exact zp ((yp a b)++((ranges_Within_o6 yv yC)++[.dec false])) (Ai h48 (Ai p8 (Ai p2 (Ai h1 (Ai p1 trivial))))) (by kernel_rfl)
end Go.VS

namespace Go.VS
open Go
def Di (m z:Int):Int:=max (z - m) (m - z)
def Nst (m:Int) (S:Int→Prop) (v:Int):Prop:=S v∧∀z,S z→Di m v≤Di m z∧(Di m z=Di m v→v≤z)
theorem Nst.congr {m:Int} {S T:Int→Prop} {v:Int} (h:Nst m S v) (e:∀z,S z↔T z):Nst m T v:=⟨(e v).1 h.1,fun z hz=>h.2 z ((e z).2 hz)⟩
end Go.VS

namespace Go.VS
open Go
section
variable {r:GS Sn} (h:zC r=true)
include h
end
end Go.VS

namespace Go.VS
open Go
def takeR (r:GS Sn) (e:Int):GS Sn:=bif (e == 2) then GS.nil else r
def takeL (L:Bool) (e:Int):Bool:=bif (e == 2) then true else L
theorem gr_len {l:List Sn} {res:GS Sn × Int} (h:GR l res):res.1.l.length≤64:=by
 rcases h with ⟨_,h2,h3,_⟩|⟨_,h⟩
 ·rw [h3];exact h2
 ·rw [h];simp [GS.nil]
def Tk (L:Bool) (S:Int→Prop) (r:GS Sn):Prop:=L=true∨(Ok r.l∧Rg S r.l)
theorem Tk.take {L:Bool} {S:Int→Prop} {res:GS Sn × Int} (h:Res S res):Tk (takeL L res.2) S (takeR res.1 res.2):=by
 unfold takeL takeR
 rcases h with ⟨h1,h2,h3⟩|h
 ·right;rw [h1];exact ⟨h2,h3⟩
 ·left;rw [h];rfl
end Go.VS

namespace Go.VS
open List (length_append length_cons)
open Go

theorem Union_no {a b:GS Sn} (h:¬(Ok a.l∧Ok b.l)):y7 a b=(GS.nil,20):=by
 unfold y7
 have e:zJ (GS.some [a,b])=20:=by
  rw [← ym,← ym] at h
  rw [check2]
  cases ha:zC a<;>cases hb:zC b<;>simp [ha,hb] at h ⊢
 rw [e];rfl
theorem Union_gr {a b:GS Sn} (ha:Ok a.l) (hb:Ok b.l):GR (a.l++b.l) (y7 a b):=by
 have la:=ha.2.2
 have lb:=hb.2.2
 unfold y7
 rw [check2_iff.2 ⟨ha,hb⟩]
 simp only [bne_self_eq_false,cond_false]
 cases h1:(a.l++b.l).isEmpty with
 |true =>
  have e:a.l++b.l=[]:=by simpa using h1
  rw [e];exact GR_nil
 |false =>
  have hne:a.l++b.l≠[]:=by rw [List.isEmpty_eq_false_iff] at h1;exact h1
  simp only [cond_false]
  rcases ranges_gathered_4p2_at (l:=(a.l++b.l)) hne (by rw [length_append];omega) with ⟨g1,g2⟩|⟨g1,g2⟩
  ·rw [g2];exact GR_end g1
  ·refine .inr ⟨.inl g1,?_⟩
   revert g2
   cases yj (zB zx (a.l++b.l)) 0<;>intro g2<;>first|rfl|cases g2
def ofF (s:Sn):List Sn:=someS s.lo s.hi
theorem Within_no {a b:GS Sn} (h:¬(Ok a.l∧Ok b.l)):ranges_Within a b=(false,20):=by
 unfold ranges_Within
 have e:zJ (GS.some [a,b])=20:=by
  rw [← ym,← ym] at h
  rw [check2]
  cases ha:zC a<;>cases hb:zC b<;>simp [ha,hb] at h ⊢
 rw [e];rfl
theorem within1 (x y:Sn):((z6 x y).1).l=comF x y∧(z6 x y).2=!(comF x y).isEmpty:=by
 have e:(zh (zN x.lo y.lo) (imin x.hi y.hi)).l=comF x y:=by rw [some_l,imax_eq,imin_eq];rfl
 unfold z6
 rw [e]
 cases h:comF x y with
 |nil=>exact ⟨e.trans h,rfl⟩
 |cons s l =>
  rw [decide_eq_true (by simp only [length_cons];omega)]
  exact ⟨e.trans h,rfl⟩
theorem p69_eq (x:Sn):∀(l:List Sn) (i:Nat),(l.flatMap (comF x)=[]∧ranges_pairs_6p9 x l i=.x3)∨(∃j y,ranges_pairs_6p9 x l i=.x5 j y∧comF x y≠[]∧l.flatMap (comF x)≠[])
 |[],i=>.inl ⟨rfl,rfl⟩
 |y::l,i=>by
  unfold ranges_pairs_6p9
  rw [(within1 x y).1,(within1 x y).2]
  cases h:(comF x y).isEmpty with
  |true =>
   rw [flat_cons_emp h]
   exact p69_eq x l (i+1)
  |false =>
   right
   have hne:comF x y≠[]:=by simpa using h
   refine ⟨i,y,rfl,hne,fun k=>?_⟩
   rw [List.flatMap_cons] at k
   exact hne (List.append_eq_nil_iff.1 k).1
theorem p34_eq (q:GS Sn):∀(l:List Sn) (i:Nat),(yd l q.l comF=[]∧ranges_pairs_3p4 q l i=.x3)∨(∃j x k y,ranges_pairs_3p4 q l i=.x7 j x k y∧comF x y≠[]∧yd l q.l comF≠[])
 |[],i=>.inl ⟨rfl,rfl⟩
 |x::l,i=>by
  unfold ranges_pairs_3p4
  have e:yd (x::l) q.l comF=q.l.flatMap (comF x)++yd l q.l comF:=rfl
  rw [e]
  rcases p69_eq x q.l 0 with ⟨h1,h2⟩|⟨j,y,h2,h3,h4⟩<;>rw [h2]<;>dsimp only
  ·rw [h1];exact p34_eq q l (i+1)
  ·exact .inr ⟨i,x,j,y,rfl,h3,fun k=>h4 (List.append_eq_nil_iff.1 k).1⟩
theorem within_ok {a b:GS Sn} (ha:Ok a.l) (hb:Ok b.l):∃z,ranges_Within a b=(z,0)∧(z=true↔∀x,In a.l x→In b.l x):=by
 unfold ranges_Within
 rw [check2_iff.2 ⟨ha,hb⟩]
 simp only [bne_self_eq_false,cond_false]
 have w:=within_iff ha.1 ha.2.1 hb.1 hb.2.1
 rw [← outside_eq hb.2.1] at w
 rcases p34_eq (zc b) a.l 0 with ⟨h1,h2⟩|⟨j,x,k,y,h2,h3,h4⟩<;>rw [h2]<;>dsimp only
 ·exact ⟨true,rfl,fun _=>w.1 h1,fun _=>rfl⟩
 ·rw [(within1 x y).1]
  refine ⟨false,?_,fun z=>(by cases z),fun z=>absurd (w.2 z) h4⟩
  cases hc:comF x y with
  |nil=>exact absurd hc h3
  |cons s l =>
   have:((((s::l).length:Nat):Int) == 0)=false:=by simp only [length_cons];exact beq_eq_false_iff_ne.2 (by omega)
   rw [this];rfl
end Go.VS

namespace Go.VS
open List (length_append)
open Go
theorem cn_first {c:Sn} {r:List Sn} (h:cn (c::r)):∀s∈c::r,c.lo≤s.lo:=fun s hs=>by
 rcases List.mem_cons.1 hs with rfl|hs
 ·exact Int.le_refl _
 ·have:=h.1;have:=h.2.1 s hs;omega
theorem cn_last:∀{l:List Sn} (hn:l≠[]),cn l→∀s∈l,s.hi≤(l.getLast hn).hi
 |[s],_,_,t,ht=>by rw [List.mem_singleton.1 ht];exact Int.le_refl _
 |s::u::r,hn,h,t,ht=>by
  have ih:=cn_last (l:=u::r) (by simp) h.2.2
  rw [List.getLast_cons (by simp)]
  rcases List.mem_cons.1 ht with rfl|ht
  ·have h1:=h.2.1 u List.mem_cons_self
   have h2:=ih u List.mem_cons_self
   have h3:=cn_mem h.2.2 (s:=u) List.mem_cons_self
   omega
  ·exact ih t ht
theorem at_last {l:GS Sn} (hn:l.l≠[]) (hl:l.l.length≤1073741824):GS.at l (w64 ((l.l.length:Int) - 1))=l.l.getLast hn:=by
 have hp:=List.length_pos_iff.2 hn
 rw [w64_eq (by omega) (by omega)]
 have e:(l.l.length:Int) - 1=((l.l.length - 1:Nat):Int):=by omega
 rw [e]
 unfold GS.at
 rw [Int.toNat_natCast,List.getD_eq_getElem?_getD,List.getElem?_eq_getElem (by omega),List.getLast_eq_getElem];rfl
theorem fit_of {J:GS Sn} {l:List Sn} (hJ:J.l=can zx l) (hl:∀s∈l,s.lo≤s.hi) (hb:J.l.length≤1073741824):GR l (zX J):=by
 have hr:=can_rg gcmp_lo hl
 rw [← hJ] at hr
 unfold GR
 rw [← hJ]
 unfold zX
 by_cases h1:64 < J.l.length
 ·rw [decide_eq_true (show (J.l.length:Int)>64 by omega),cond_true]
  exact .inr ⟨.inr h1,rfl⟩
 rw [decide_eq_false (show ¬(J.l.length:Int)>64 by omega),cond_false]
 by_cases h2:J.l=[]
 ·have hnil:l=[]:=by
   cases l with
   |nil=>rfl
   |cons s r =>
    exfalso
    have:=(hr.2 s.lo).2 ⟨s,List.mem_cons_self,Int.le_refl _,hl s List.mem_cons_self⟩
    rw [h2] at this
    exact In_nil this
  rw [h2,hnil]
  left
  refine ⟨(fun s hs=>by cases hs),by simp,h2,rfl⟩
 have hp:=List.length_pos_iff.2 h2
 rw [decide_eq_true (show (J.l.length:Int)>0 by omega),cond_true,at_last h2 hb]
 have h0:GS.at J 0=J.l.head h2:=by
  unfold GS.at
  show J.l.getD 0 default=_
  rw [List.getD_eq_getElem?_getD,List.getElem?_eq_getElem hp,List.head_eq_getElem];rfl
 rw [h0]
 have hfst:∀s∈J.l,(J.l.head h2).lo≤s.lo:=by
  generalize J.l=q at *
  cases q with
  |nil=>exact absurd rfl h2
  |cons s r=>exact cn_first hr.1
 have hlst:=cn_last h2 hr.1
 have mf:=List.head_mem h2
 have ml:=List.getLast_mem h2
 by_cases h3:(J.l.head h2).lo < -1099511627776
 ·rw [decide_eq_true h3,cond_true]
  refine .inr ⟨.inl fun h=>?_,rfl⟩
  obtain ⟨s,hs,k1,k2⟩:=(hr.2 _).1 ⟨_,mf,Int.le_refl _,cn_mem hr.1 mf⟩
  have:=(h s hs).1
  unfold Ar at this
  omega
 rw [decide_eq_false h3,cond_false]
 by_cases h4:(J.l.getLast h2).hi>1099511627776
 ·rw [decide_eq_true h4,cond_true]
  refine .inr ⟨.inl fun h=>?_,rfl⟩
  obtain ⟨s,hs,k1,k2⟩:=(hr.2 _).1 ⟨_,ml,cn_mem hr.1 ml,Int.le_refl _⟩
  have:=(h s hs).2
  unfold Ar at this
  omega
 rw [decide_eq_false h4,cond_false]
 refine .inl ⟨fun s hs=>?_,by omega,rfl,rfl⟩
 have hn:=hl s hs
 obtain ⟨t,ht,k1,k2⟩:=(hr.2 s.lo).2 ⟨s,hs,Int.le_refl _,hn⟩
 obtain ⟨u,hu,k3,k4⟩:=(hr.2 s.hi).2 ⟨s,hs,hn,Int.le_refl _⟩
 have b1:=hfst t ht
 have b2:=hlst u hu
 unfold Ar
 omega
theorem bd_ne {l:List Sn} (h:Bd l):∀s∈l,s.lo≤s.hi:=fun s hs=>(h s hs).2.1
theorem fit_gr {l:GS Sn} (h1:l.l.length≤1073741824) (h2:Bd l.l):GR l.l (zX (JJ l)) :=
 fit_of (JJ_l h1 h2) (bd_ne h2) (by have:=JJ_len l;omega)
theorem GR.det {l l':List Sn} {r r':GS Sn × Int} (h:GR l r) (h':GR l' r') (hl:∀s∈l,s.lo≤s.hi) (hl':∀s∈l',s.lo≤s.hi) (hi:∀x,In l x↔In l' x):r.2=r'.2∧r.1.l=r'.1.l:=by
 have hc:can zx l=can zx l':=((can_rg gcmp_lo hl).congr hi).unique (can_rg gcmp_lo hl')
 have ar:∀{p q:List Sn},(∀s∈q,s.lo≤s.hi)→(∀x,In p x↔In q x)→ArL p→ArL q:=fun {p q} hq hi hp s hs=>by
  obtain ⟨t,ht,k1,k2⟩:=(hi s.lo).2 ⟨s,hs,Int.le_refl _,hq s hs⟩
  obtain ⟨u,hu,k3,k4⟩:=(hi s.hi).2 ⟨s,hs,hq s hs,Int.le_refl _⟩
  have b1:=hp t ht
  have b2:=hp u hu
  unfold Ar at *
  omega
 have ha:ArL l↔ArL l':=⟨ar hl' hi,ar hl fun x=>(hi x).symm⟩
 unfold GR at h h'
 rw [← hc,← ha] at h'
 rcases h with ⟨h1,h2,h3,h4⟩|⟨h1,h2⟩<;>rcases h' with ⟨k1,k2,k3,k4⟩|⟨k1,k2⟩
 ·exact ⟨h4.trans k4.symm,h3.trans k3.symm⟩
 ·exfalso
  rcases k1 with k1|k1
  ·exact k1 h1
  ·omega
 ·exfalso
  rcases h1 with h1|h1
  ·exact h1 k1
  ·omega
 ·rw [h2,k2];exact ⟨rfl,rfl⟩
theorem ok_bd {a:GS Sn} (h:Ok a.l):Bd a.l:=fun s hs=>by
 have h1:=cn_mem h.1 hs
 have h2:=h.2.1 s hs
 omega
theorem rUnion_no {a b:GS Sn} (h:¬(Ok a.l∧Ok b.l)):r_Union a b=(GS.nil,20):=by
 rw [← ym,← ym] at h
 unfold r_Union
 cases ha:zC a<;>cases hb:zC b<;>simp [ha,hb] at h ⊢
theorem rUnion_gr {a b:GS Sn} (ha:Ok a.l) (hb:Ok b.l):GR (a.l++b.l) (r_Union a b):=by
 have la:=ha.2.2
 have lb:=hb.2.2
 unfold r_Union
 rw [ym.2 ha,ym.2 hb]
 simp only [cond_true,Bool.cond_self]
 have hab:Bd (a.l++b.l):=fun s hs=>by
  rcases List.mem_append.1 hs with k|k
  ·exact ok_bd ha s k
  ·exact ok_bd hb s k
 cases h1:a.l.isEmpty<;>cases h2:b.l.isEmpty<;>simp only [cond_true,cond_false]
 ·exact fit_gr (l:=GS.some (a.l++b.l)) (by simp only [GS.some_l,length_append];omega) hab
 ·have e:b.l=[]:=by simpa using h2
  rw [e,List.append_nil]
  exact fit_gr (l:=GS.some a.l) (by simp only [GS.some_l];omega) (ok_bd ha)
 ·have e:a.l=[]:=by simpa using h1
  rw [e,List.nil_append]
  exact fit_gr (l:=GS.some b.l) (by simp only [GS.some_l];omega) (ok_bd hb)
 ·have e:b.l=[]:=by simpa using h2
  have e':a.l=[]:=by simpa using h1
  rw [e,e']
  exact fit_gr (l:=GS.some []) (by simp [GS.some]) (fun s hs=>by cases hs)
theorem nil_gr:GR [] (zX (JJ GS.nil)):=fit_gr (l:=GS.nil) (by simp [GS.nil]) (fun s hs=>by cases hs)
theorem rw8 (x:Sn):∀(l:List Sn) (v:Bool),∃w,r_Within_8 x l v=.x0 w∧(w=true↔v=true∨∃t∈l,t.lo≤x.lo∧x.hi≤t.hi)
 |[],v=>⟨v,rfl,by simp⟩
 |t::l,v=>by
  unfold r_Within_8
  cases v with
  |true =>
   obtain ⟨w,e,k⟩:=rw8 x l true
   exact ⟨w,e,by rw [k];simp⟩
  |false =>
   simp only [cond_false]
   by_cases h1:t.lo≤x.lo
   ·rw [decide_eq_true h1,cond_true]
    by_cases h2:x.hi≤t.hi
    ·rw [decide_eq_true h2,cond_true]
     obtain ⟨w,e,k⟩:=rw8 x l true
     refine ⟨w,e,?_⟩
     rw [k]
     exact ⟨fun _=>.inr ⟨t,List.mem_cons_self,h1,h2⟩,fun _=>.inl rfl⟩
    ·rw [decide_eq_false h2,cond_false]
     obtain ⟨w,e,k⟩:=rw8 x l false
     refine ⟨w,e,?_⟩
     rw [k]
     constructor
     ·rintro (h|⟨u,hu,h⟩)
      ·cases h
      ·exact .inr ⟨u,List.mem_cons_of_mem _ hu,h⟩
     ·rintro (h|⟨u,hu,h⟩)
      ·cases h
      ·rcases List.mem_cons.1 hu with rfl|hu
       ·exact absurd h.2 h2
       ·exact .inr ⟨u,hu,h⟩
   ·rw [decide_eq_false h1,cond_false]
    obtain ⟨w,e,k⟩:=rw8 x l false
    refine ⟨w,e,?_⟩
    rw [k]
    constructor
    ·rintro (h|⟨u,hu,h⟩)
     ·cases h
     ·exact .inr ⟨u,List.mem_cons_of_mem _ hu,h⟩
    ·rintro (h|⟨u,hu,h⟩)
     ·cases h
     ·rcases List.mem_cons.1 hu with rfl|hu
      ·exact absurd h.1 h1
      ·exact .inr ⟨u,hu,h⟩
theorem rw4 (b:GS Sn):∀(l:List Sn) (i:Nat),((∀s∈l,∃t∈b.l,t.lo≤s.lo∧s.hi≤t.hi)∧r_Within_4 b l i=.x0)∨(¬(∀s∈l,∃t∈b.l,t.lo≤s.lo∧s.hi≤t.hi)∧∃j w,r_Within_4 b l i=.x1 j w)
 |[],i=>.inl ⟨(fun s hs=>by cases hs),rfl⟩
 |x::l,i=>by
  unfold r_Within_4
  obtain ⟨w,e,k⟩:=rw8 x b.l false
  rw [e]
  dsimp only
  cases w with
  |true =>
   rw [cond_true]
   have hx:∃t∈b.l,t.lo≤x.lo∧x.hi≤t.hi:=by
    rcases k.1 rfl with h|h
    ·cases h
    ·exact h
   rcases rw4 b l (i+1) with ⟨h1,h2⟩|⟨h1,h2⟩
   ·refine .inl ⟨fun s hs=>?_,h2⟩
    rcases List.mem_cons.1 hs with rfl|hs
    ·exact hx
    ·exact h1 s hs
   ·exact .inr ⟨fun h=>h1 fun s hs=>h s (List.mem_cons_of_mem _ hs),h2⟩
  |false =>
   refine .inr ⟨fun h=>?_,_,_,rfl⟩
   have:=k.2 (.inr (h x List.mem_cons_self))
   cases this
theorem cn_gap:∀{l:List Sn},cn l→∀t∈l,¬In l (t.hi+1)
 |s::l,h,t,ht,hin=>by
  rw [In_cons] at hin
  rcases List.mem_cons.1 ht with rfl|ht
  ·rcases hin with hin|hin
   ·omega
   ·have:=cn_above h hin;omega
  ·rcases hin with hin|hin
   ·have:=h.2.1 t ht
    have:=cn_mem h.2.2 ht
    omega
   ·exact cn_gap h.2.2 t ht hin
theorem span_in {l:List Sn} (h:cn l) {s:Sn} (hs:s.lo≤s.hi):(∀x,s.lo≤x→x≤s.hi→In l x)↔∃t∈l,t.lo≤s.lo∧s.hi≤t.hi:=by
 constructor
 ·intro k
  obtain ⟨t,ht,h1,h2⟩:=k s.lo (Int.le_refl _) hs
  refine ⟨t,ht,h1,?_⟩
  by_cases hh:s.hi≤t.hi
  ·exact hh
  ·exact absurd (k (t.hi+1) (by omega) (by omega)) (cn_gap h t ht)
 ·rintro ⟨t,ht,h1,h2⟩ x h3 h4
  exact ⟨t,ht,by omega,by omega⟩
theorem rWithin_ok {a b:GS Sn} (ha:Ok a.l) (hb:Ok b.l):∃z,r_Within a b=(z,0)∧(z=true↔∀x,In a.l x→In b.l x):=by
 have key:(∀s∈a.l,∃t∈b.l,t.lo≤s.lo∧s.hi≤t.hi)↔∀x,In a.l x→In b.l x:=by
  constructor
  ·rintro h x ⟨s,hs,h1,h2⟩
   obtain ⟨t,ht,h3,h4⟩:=h s hs
   exact ⟨t,ht,by omega,by omega⟩
  ·intro h s hs
   exact (span_in hb.1 (cn_mem ha.1 hs)).1 fun x h1 h2=>h x ⟨s,hs,h1,h2⟩
 unfold r_Within
 rw [ym.2 ha,ym.2 hb]
 simp only [cond_true]
 rcases rw4 b a.l 0 with ⟨h1,h2⟩|⟨h1,j,w,h2⟩<;>rw [h2]<;>dsimp only
 ·exact ⟨true,rfl,fun _=>key.1 h1,fun _=>rfl⟩
 ·exact ⟨false,rfl,fun h=>(by cases h),fun h=>absurd (key.2 h) h1⟩
theorem rWithin_no {a b:GS Sn} (h:¬(Ok a.l∧Ok b.l)):r_Within a b=(false,20):=by
 rw [← ym,← ym] at h
 unfold r_Within
 cases ha:zC a<;>cases hb:zC b<;>simp [ha,hb] at h ⊢
end Go.VS

namespace Go.VS
open List (length_set length_append length_cons length_nil)
open Go Go.Proofs
def l_same (a:GS Sn) (e:Int) (b:GS Sn) (f:Int):Bool :=
 bif (e == f) then
  bif (r_Same a b) then
   true
  else
   false
 else
  false

theorem T_l_same (a:GS Sn) (e:Int) (b:GS Sn) (f:Int) (hL_a:a.l.length≤9223372036854775807):(lim cfg).pure 21 [GS.D Sn.D 2 a,I e,GS.D Sn.D 2 b,I f]=some (B (l_same a e b f)):=by
 unfold l_same
 cases h1:(e == f) with
 |true =>
  have g1:=eq_of_beq h1
  cases h2:(r_Same a b) with
  |true =>
   exact zp [.dec true,.pure (B (r_Same a b)),.dec true] (Ai h2 (Ai (T_r_Same a b (by first|assumption|omega|(exact zF (by omega) (by omega))|(exact zt (by omega))|(exact zm (by omega))|(exact zu (by omega))|(exact zn (by omega))|(exact zl _ (by omega))|(exact Nat.le_trans (hJl _) (by rw [zj];omega))|(exact drop_tl (by assumption))|(simp only [zd] at *<;>omega)|(simp only [zv,zj,GS.some_l,length_set,length_append,length_cons,length_nil] at *<;>first|assumption|omega)|(simp only [zv,zj,GS.some_l,length_set,length_append,length_cons,length_nil,zd] at *<;>first|assumption|omega)|(simp at *<;>omega))) (Ai h1 trivial))) (by kernel_rfl)
  |false =>
   exact zp [.dec true,.pure (B (r_Same a b)),.dec false] (Ai h2 (Ai (T_r_Same a b (by first|assumption|omega|(exact zF (by omega) (by omega))|(exact zt (by omega))|(exact zm (by omega))|(exact zu (by omega))|(exact zn (by omega))|(exact zl _ (by omega))|(exact Nat.le_trans (hJl _) (by rw [zj];omega))|(exact drop_tl (by assumption))|(simp only [zd] at *<;>omega)|(simp only [zv,zj,GS.some_l,length_set,length_append,length_cons,length_nil] at *<;>first|assumption|omega)|(simp only [zv,zj,GS.some_l,length_set,length_append,length_cons,length_nil,zd] at *<;>first|assumption|omega)|(simp at *<;>omega))) (Ai h1 trivial))) (by kernel_rfl)
 |false =>
  have g1:=ne_of_beq_false h1
  exact zp [.dec false] (Ai h1 trivial) (by kernel_rfl)
end Go.VS

namespace Go.VS
open List (length_append length_cons)
open Go
theorem bif_app {β:Type} (c:Bool) (F:List Sn→β) (v w:List Sn):(bif c then F (v++w) else F v)=F (v++(bif c then w else [])):=by cases c<;>simp

def gCommon (x y:Sn):List Sn:=bif decide ((zN x.lo y.lo)≤(imin x.hi y.hi)) then [⟨zN x.lo y.lo,imin x.hi y.hi⟩] else []
theorem jCommon_8 (x:Sn):∀(l v:List Sn),r_Common_8 x l v=.x0 (v++l.flatMap (gCommon x))
 |[],v=>by simp [r_Common_8]
 |y::l,v=>by
  unfold r_Common_8
  rw [bif_app _ (fun z=>r_Common_8 x l z)]
  rw [jCommon_8 x l _,List.flatMap_cons,List.append_assoc];rfl
theorem jCommon_8p1a (x:Sn):∀(l v:List Sn),r_Common_8p1a x l v=.x0 (v++l.flatMap (gCommon x))
 |[],v=>by simp [r_Common_8p1a]
 |y::l,v=>by
  unfold r_Common_8p1a
  rw [bif_app _ (fun z=>r_Common_8p1a x l z)]
  rw [jCommon_8p1a x l _,List.flatMap_cons,List.append_assoc];rfl
theorem jCommon_8p1 (x:Sn):∀(l:List Sn),(l.flatMap (gCommon x)=[]∧r_Common_8p1 x l=.x1)∨r_Common_8p1 x l=.x0 (l.flatMap (gCommon x))
 |[]=>.inl ⟨rfl,rfl⟩
 |y::l=>by
  unfold r_Common_8p1
  rw [List.flatMap_cons]
  unfold gCommon
  cases decide ((zN x.lo y.lo)≤(imin x.hi y.hi)) with
  |true=>right;rw [cond_true,jCommon_8p1a];rfl
  |false=>exact jCommon_8p1 x l
theorem jCommon_5a (b:GS Sn):∀(l v:List Sn),r_Common_5a b l v=.x0 (v++yd l b.l gCommon)
 |[],v=>by simp [r_Common_5a,yd]
 |x::l,v=>by
  unfold r_Common_5a
  rw [jCommon_8]
  dsimp only
  rw [jCommon_5a b l _,List.append_assoc];rfl
theorem jCommon_5 (b:GS Sn):∀(l:List Sn),(yd l b.l gCommon=[]∧r_Common_5 b l=.x1)∨r_Common_5 b l=.x0 (yd l b.l gCommon)
 |[]=>.inl ⟨rfl,rfl⟩
 |x::l=>by
  unfold r_Common_5
  have e:yd (x::l) b.l gCommon=b.l.flatMap (gCommon x)++yd l b.l gCommon:=rfl
  rw [e]
  rcases jCommon_8p1 x b.l with ⟨h1,h2⟩|h2<;>rw [h2]<;>dsimp only
  ·rw [h1];exact jCommon_5 b l
  ·right;rw [jCommon_5a]
theorem rCommon_no {a b:GS Sn} (h:¬(Ok a.l∧Ok b.l)):r_Common a b=(GS.nil,20):=by
 rw [← ym,← ym] at h
 unfold r_Common
 cases ha:zC a<;>cases hb:zC b<;>simp [ha,hb] at h ⊢
theorem rCommon_gr {a b:GS Sn} (ha:Ok a.l) (hb:Ok b.l):GR (yd a.l b.l comF) (r_Common a b):=by
 have hf:yd a.l b.l gCommon=yd a.l b.l comF:=pairs_congr fun s hs t ht=>by
  have h1:=ha.2.1 s hs
  have h2:=hb.2.1 t ht
  have h3:=cn_mem ha.1 hs
  have h4:=cn_mem hb.1 ht
  unfold gCommon comF someS
  rw [imax_eq,imin_eq]
  by_cases h:max s.lo t.lo≤min s.hi t.hi
  ·rw [decide_eq_true h,if_neg (by omega)];rfl
  ·rw [decide_eq_false h,if_pos (by omega)];rfl
 have hl:(yd a.l b.l comF).length≤64 * 64:=Nat.le_trans (pairs_len fun s t=>some_len) (Nat.mul_le_mul ha.2.2 hb.2.2)
 have hd:Bd (yd a.l b.l comF):=fun u hu=>by
  unfold yd at hu
  obtain ⟨s,hs,hu⟩:=List.mem_flatMap.1 hu
  obtain ⟨t,ht,hu⟩:=List.mem_flatMap.1 hu
  have h1:=ha.2.1 s hs
  have h2:=hb.2.1 t ht
  have h3:=some_ne u hu
  unfold comF someS at hu
  split at hu
  ·cases hu
  ·rw [List.mem_singleton.1 hu] at h3 ⊢
   simp only at h3 ⊢
   omega
 unfold r_Common
 rw [ym.2 ha,ym.2 hb]
 simp only [cond_true]
 rcases jCommon_5 b a.l with ⟨h1,h2⟩|h2<;>rw [h2]<;>dsimp only
 ·rw [← hf,h1];exact nil_gr
 ·rw [Bool.cond_self,hf]
  exact fit_gr (l:=GS.some (yd a.l b.l comF)) (by simp only [GS.some_l];omega) hd

def minV (x:Sn):List Sn→Int→List Sn × Int
 |[],f=>([],f)
 |t::l,f=>if t.hi < f then minV x l f else if t.lo>x.hi then minV x l f else if t.lo>f then (⟨f,t.lo - 1⟩::(minV x l (t.hi+1)).1,(minV x l (t.hi+1)).2) else minV x l (t.hi+1)
theorem minV_in (x:Sn):∀(l:List Sn) (f:Int),cn l→∀z,(In (minV x l f).1 z∨((minV x l f).2≤z∧z≤x.hi))↔(f≤z∧z≤x.hi∧¬In l z)
 |[],f,_,z=>by
  simp only [minV]
  have:=@In_nil z
  constructor
  ·rintro (h|h)
   ·exact absurd h this
   ·exact ⟨h.1,h.2,this⟩
  ·rintro ⟨h1,h2,_⟩
   exact .inr ⟨h1,h2⟩
 |t::l,f,h,z=>by
  unfold minV
  have hin:¬In (t::l) z↔¬(t.lo≤z∧z≤t.hi)∧¬In l z:=by rw [In_cons,not_or]
  have ha:In l z→t.hi+1 < z:=fun k=>cn_above h k
  have ht:=h.1
  rw [hin]
  split
  ·rw [minV_in x l f h.2.2 z]
   constructor
   ·rintro ⟨a,b,c⟩;exact ⟨a,b,by omega,c⟩
   ·rintro ⟨a,b,_,c⟩;exact ⟨a,b,c⟩
  ·split
   ·rw [minV_in x l f h.2.2 z]
    constructor
    ·rintro ⟨a,b,c⟩;exact ⟨a,b,by omega,c⟩
    ·rintro ⟨a,b,_,c⟩;exact ⟨a,b,c⟩
   ·have ih:=minV_in x l (t.hi+1) h.2.2 z
    split
    ·simp only
     rw [In_cons,or_assoc,ih]
     simp only
     constructor
     ·rintro (a|⟨a,b,c⟩)
      ·exact ⟨a.1,by omega,by omega,fun k=>by have:=ha k;omega⟩
      ·exact ⟨by omega,b,by omega,c⟩
     ·rintro ⟨a,b,c,d⟩
      by_cases hz:z≤t.lo - 1
      ·exact .inl ⟨a,hz⟩
      ·exact .inr ⟨by omega,b,d⟩
    ·rw [ih]
     constructor
     ·rintro ⟨a,b,c⟩;exact ⟨by omega,b,by omega,c⟩
     ·rintro ⟨a,b,c,d⟩;exact ⟨by omega,b,d⟩
theorem minV_bd (x:Sn) (hx:x.hi≤1099511627776):∀(l:List Sn) (f:Int),bd l→-1099511627776≤f→f≤1099511627777→Bd (minV x l f).1∧-1099511627776≤(minV x l f).2∧(minV x l f).2≤1099511627777
 |[],f,_,h1,h2=>⟨(fun s hs=>by cases hs),h1,h2⟩
 |t::l,f,h,h1,h2=>by
  have ht:=h t List.mem_cons_self
  have hl:bd l:=fun s hs=>h s (List.mem_cons_of_mem _ hs)
  unfold minV
  split
  ·exact minV_bd x hx l f hl h1 h2
  ·split
   ·exact minV_bd x hx l f hl h1 h2
   ·have ih:=minV_bd x hx l (t.hi+1) hl (by omega) (by omega)
    split
    ·refine ⟨fun s hs=>?_,ih.2⟩
     rcases List.mem_cons.1 hs with rfl|hs
     ·simp only;omega
     ·exact ih.1 s hs
    ·exact ih
theorem minV_len (x:Sn):∀(l:List Sn) (f:Int),(minV x l f).1.length≤l.length
 |[],f=>Nat.le_refl _
 |t::l,f=>by
  unfold minV
  have h1:=minV_len x l f
  have h2:=minV_len x l (t.hi+1)
  simp only [length_cons]
  split
  ·omega
  ·split
   ·omega
   ·split
    ·simp only [length_cons];omega
    ·omega
section
variable (x:Sn)
theorem jMinus_9:∀(l:List Sn) (v:List Sn) (f:Int),bd l→r_Minus_9 x l v f=.x0 (v++(minV x l f).1) (minV x l f).2
 |[],v,f,_=>by simp [r_Minus_9,minV]
 |t::l,v,f,h=>by
  have ht:=h t List.mem_cons_self
  have hl:bd l:=fun s hs=>h s (List.mem_cons_of_mem _ hs)
  unfold r_Minus_9 minV
  by_cases h1:t.hi < f
  ·rw [decide_eq_true h1,cond_true,if_pos h1];exact jMinus_9 l v f hl
  ·rw [decide_eq_false h1,cond_false,if_neg h1]
   by_cases h2:t.lo>x.hi
   ·rw [decide_eq_true h2,cond_true,if_pos h2];exact jMinus_9 l v f hl
   ·rw [decide_eq_false h2,cond_false,if_neg h2,w64_eq (n:=t.hi+1) (by omega) (by omega)]
    by_cases h3:t.lo>f
    ·rw [decide_eq_true h3,cond_true,if_pos h3,w64_eq (by omega) (by omega),jMinus_9 l _ _ hl,List.append_assoc];rfl
    ·rw [decide_eq_false h3,cond_false,if_neg h3];exact jMinus_9 l v _ hl
theorem jMinus_9a:∀(l:List Sn) (v:List Sn) (f:Int),bd l→r_Minus_9p1a x l v f=.x0 (v++(minV x l f).1) (minV x l f).2
 |[],v,f,_=>by simp [r_Minus_9p1a,minV]
 |t::l,v,f,h=>by
  have ht:=h t List.mem_cons_self
  have hl:bd l:=fun s hs=>h s (List.mem_cons_of_mem _ hs)
  unfold r_Minus_9p1a minV
  by_cases h1:t.hi < f
  ·rw [decide_eq_true h1,cond_true,if_pos h1];exact jMinus_9a l v f hl
  ·rw [decide_eq_false h1,cond_false,if_neg h1]
   by_cases h2:t.lo>x.hi
   ·rw [decide_eq_true h2,cond_true,if_pos h2];exact jMinus_9a l v f hl
   ·rw [decide_eq_false h2,cond_false,if_neg h2,w64_eq (n:=t.hi+1) (by omega) (by omega)]
    by_cases h3:t.lo>f
    ·rw [decide_eq_true h3,cond_true,if_pos h3,w64_eq (by omega) (by omega),jMinus_9a l _ _ hl,List.append_assoc];rfl
    ·rw [decide_eq_false h3,cond_false,if_neg h3];exact jMinus_9a l v _ hl
theorem jMinus_9p1:∀(l:List Sn) (f:Int),bd l→((minV x l f).1=[]∧r_Minus_9p1 x l f=.x1 (minV x l f).2)∨r_Minus_9p1 x l f=.x0 (minV x l f).1 (minV x l f).2
 |[],f,_=>.inl ⟨rfl,rfl⟩
 |t::l,f,h=>by
  have ht:=h t List.mem_cons_self
  have hl:bd l:=fun s hs=>h s (List.mem_cons_of_mem _ hs)
  unfold r_Minus_9p1 minV
  by_cases h1:t.hi < f
  ·rw [decide_eq_true h1,cond_true,if_pos h1];exact jMinus_9p1 l f hl
  ·rw [decide_eq_false h1,cond_false,if_neg h1]
   by_cases h2:t.lo>x.hi
   ·rw [decide_eq_true h2,cond_true,if_pos h2];exact jMinus_9p1 l f hl
   ·rw [decide_eq_false h2,cond_false,if_neg h2,w64_eq (n:=t.hi+1) (by omega) (by omega)]
    by_cases h3:t.lo>f
    ·rw [decide_eq_true h3,cond_true,if_pos h3,w64_eq (by omega) (by omega),jMinus_9a x l _ _ hl]
     right;rfl
    ·rw [decide_eq_false h3,cond_false,if_neg h3];exact jMinus_9p1 l _ hl
end
def minS (b:List Sn) (x:Sn):List Sn:=(minV x b x.lo).1++someS (minV x b x.lo).2 x.hi
theorem end_app {β:Type} (F:List Sn→β) (v:List Sn) (f h:Int):(bif decide (f≤h) then F (v++[(⟨f,h⟩:Sn)]) else F v)=F (v++someS f h):=by
 unfold someS
 by_cases k:f≤h
 ·rw [decide_eq_true k,if_neg (by omega)];rfl
 ·rw [decide_eq_false k,if_pos (by omega)];simp
theorem jMinus_5a {b:GS Sn} (hb:bd b.l):∀(l v:List Sn),r_Minus_5a b l v=.x0 (v++l.flatMap (minS b.l))
 |[],v=>by simp [r_Minus_5a]
 |x::l,v=>by
  unfold r_Minus_5a
  rw [jMinus_9 x b.l v x.lo hb]
  dsimp only
  rw [end_app (fun z=>r_Minus_5a b l z),jMinus_5a hb l _,List.flatMap_cons]
  unfold minS
  simp only [List.append_assoc]
theorem jMinus_5 {b:GS Sn} (hb:bd b.l):∀(l:List Sn),(l.flatMap (minS b.l)=[]∧r_Minus_5 b l=.x1)∨r_Minus_5 b l=.x0 (l.flatMap (minS b.l))
 |[]=>.inl ⟨rfl,rfl⟩
 |x::l=>by
  unfold r_Minus_5
  rw [List.flatMap_cons]
  rcases jMinus_9p1 x b.l x.lo hb with ⟨h1,h2⟩|h2<;>rw [h2]<;>dsimp only
  ·unfold minS
   rw [h1,List.nil_append]
   unfold someS
   by_cases k:(minV x b.l x.lo).2≤x.hi
   ·rw [decide_eq_true k,cond_true,if_neg (by omega),jMinus_5a hb];exact .inr rfl
   ·rw [decide_eq_false k,cond_false,if_pos (by omega)];exact jMinus_5 hb l
  ·right
   rw [end_app (fun z=>r_Minus_5a b l z),jMinus_5a hb];rfl
theorem rMinus_no {a b:GS Sn} (h:¬(Ok a.l∧Ok b.l)):r_Minus a b=(GS.nil,20):=by
 rw [← ym,← ym] at h
 unfold r_Minus
 cases ha:zC a<;>cases hb:zC b<;>simp [ha,hb] at h ⊢
theorem In_minS {a b:List Sn} (ha:∀s∈a,s.lo≤s.hi) (hb:cn b) {z:Int}:In (a.flatMap (minS b)) z↔In a z∧¬In b z:=by
 rw [In_flat]
 have key:∀s,In (minS b s) z↔s.lo≤z∧z≤s.hi∧¬In b z:=fun s=>by
  unfold minS
  rw [In_append,In_some]
  exact minV_in s b s.lo hb z
 constructor
 ·rintro ⟨s,hs,h⟩
  obtain ⟨h1,h2,h3⟩:=(key s).1 h
  exact ⟨⟨s,hs,h1,h2⟩,h3⟩
 ·rintro ⟨⟨s,hs,h1,h2⟩,h3⟩
  exact ⟨s,hs,(key s).2 ⟨h1,h2,h3⟩⟩
theorem minS_bd {a b:GS Sn} (ha:Ok a.l) (hb:Ok b.l):Bd (a.l.flatMap (minS b.l)):=fun u hu=>by
 obtain ⟨s,hs,hu⟩:=List.mem_flatMap.1 hu
 have h1:=ha.2.1 s hs
 obtain ⟨k1,k2,k3⟩:=minV_bd s (by omega) b.l s.lo hb.2.1 (by omega) (by omega)
 unfold minS at hu
 rcases List.mem_append.1 hu with h|h
 ·exact k1 u h
 ·have h3:=some_ne u h
  unfold someS at h
  split at h
  ·cases h
  ·rw [List.mem_singleton.1 h] at h3 ⊢
   simp only at h3 ⊢
   omega
theorem minS_len {b:List Sn}:∀(a:List Sn),(a.flatMap (minS b)).length≤a.length * (b.length+1)
 |[]=>Nat.zero_le _
 |s::a=>by
  rw [List.flatMap_cons,length_append,length_cons]
  have h1:=minS_len (b:=b) a
  have h2:=minV_len s b s.lo
  have h3:(someS (minV s b s.lo).2 s.hi).length≤1:=some_len
  have h4:(minS b s).length≤b.length+1:=by unfold minS;rw [length_append];omega
  rw [Nat.add_mul]
  omega
theorem rMinus_gr {a b:GS Sn} (ha:Ok a.l) (hb:Ok b.l):GR (a.l.flatMap (minS b.l)) (r_Minus a b):=by
 have hl:(a.l.flatMap (minS b.l)).length≤64 * 65:=Nat.le_trans (minS_len a.l) (Nat.mul_le_mul ha.2.2 (by have:=hb.2.2;omega))
 unfold r_Minus
 rw [ym.2 ha,ym.2 hb]
 simp only [cond_true]
 rcases jMinus_5 hb.2.1 a.l with ⟨h1,h2⟩|h2<;>rw [h2]<;>dsimp only
 ·rw [h1];exact nil_gr
 ·rw [Bool.cond_self]
  exact fit_gr (l:=GS.some (a.l.flatMap (minS b.l))) (by simp only [GS.some_l];omega) (minS_bd ha hb)
end Go.VS

namespace Go.VS
open Go
theorem same_of {x y:GS Sn × Int} (h:x.2=y.2∧x.1.l=y.1.l):l_same x.1 x.2 y.1 y.2=true:=by
 unfold l_same
 rw [h.1,beq_self_eq_true,same_refl h.2];rfl
theorem same_eq {x y:GS Sn × Int} (h:x=y):l_same x.1 x.2 y.1 y.2=true:=same_of (by rw [h];exact ⟨rfl,rfl⟩)
theorem short_nil:(GS.nil:GS Sn).l.length≤9223372036854775807:=by simp [GS.nil]
theorem len_Union (a b:GS Sn):(y7 a b).1.l.length≤9223372036854775807:=by
 by_cases h:Ok a.l∧Ok b.l
 ·exact Nat.le_trans (gr_len (Union_gr h.1 h.2)) (by decide)
 ·rw [Union_no h];exact short_nil
theorem len_Common (a b:GS Sn):(zQ a b).1.l.length≤9223372036854775807:=by
 by_cases h:Ok a.l∧Ok b.l
 ·exact Nat.le_trans (gr_len (Common_gr h.1 h.2)) (by decide)
 ·rw [Common_no h];exact short_nil
theorem len_Minus (a b:GS Sn):(y5 a b).1.l.length≤9223372036854775807:=by
 by_cases h:Ok a.l∧Ok b.l
 ·exact Nat.le_trans (gr_len (Minus_gr h.1 h.2)) (by decide)
 ·rw [Minus_no h];exact short_nil
theorem app_ne {a b:GS Sn} (ha:Ok a.l) (hb:Ok b.l):∀s∈a.l++b.l,s.lo≤s.hi:=fun s hs=>by
 rcases List.mem_append.1 hs with h|h
 ·exact cn_mem ha.1 h
 ·exact cn_mem hb.1 h
theorem same_Union (a b:GS Sn):l_same (y7 a b).1 (y7 a b).2 (r_Union a b).1 (r_Union a b).2=true:=by
 by_cases h:Ok a.l∧Ok b.l
 ·exact same_of ((Union_gr h.1 h.2).det (rUnion_gr h.1 h.2) (app_ne h.1 h.2) (app_ne h.1 h.2) fun _=>Iff.rfl)
 ·exact same_eq (by rw [Union_no h,rUnion_no h])
theorem same_Common (a b:GS Sn):l_same (zQ a b).1 (zQ a b).2 (r_Common a b).1 (r_Common a b).2=true:=by
 by_cases h:Ok a.l∧Ok b.l
 ·have hn:∀s∈yd a.l b.l comF,s.lo≤s.hi:=pairs_ne fun s _ t _=>some_ne
  exact same_of ((Common_gr h.1 h.2).det (rCommon_gr h.1 h.2) hn hn fun _=>Iff.rfl)
 ·exact same_eq (by rw [Common_no h,rCommon_no h])
theorem same_Minus (a b:GS Sn):l_same (y5 a b).1 (y5 a b).2 (r_Minus a b).1 (r_Minus a b).2=true:=by
 by_cases h:Ok a.l∧Ok b.l
 ·have hn:∀s∈yd a.l (outS (-1099511627776) b.l) comF,s.lo≤s.hi:=pairs_ne fun s _ t _=>some_ne
  refine same_of ((Minus_gr h.1 h.2).det (rMinus_gr h.1 h.2) hn (bd_ne (minS_bd h.1 h.2)) fun x=>?_)
  rw [In_minus h.1.2.1 h.2.1 h.2.2.1,In_minS (fun s hs=>cn_mem h.1.1 hs) h.2.1]
 ·exact same_eq (by rw [Minus_no h,rMinus_no h])
theorem same_Within (a b:GS Sn):r_Within a b=ranges_Within a b:=by
 by_cases h:Ok a.l∧Ok b.l
 ·obtain ⟨z,e,k⟩:=within_ok h.1 h.2
  obtain ⟨y,f,j⟩:=rWithin_ok h.1 h.2
  rw [e,f]
  have:y=z:=Bool.eq_iff_iff.2 (by rw [k,j])
  rw [this]
 ·rw [Within_no h,rWithin_no h]
theorem within_e (a b:GS Sn):((ranges_Within a b).2 == (r_Within a b).2)=true:=by rw [same_Within];exact beq_self_eq_true _
theorem within_b (a b:GS Sn):(r_Within a b).1=(ranges_Within a b).1:=by rw [same_Within]
end Go.VS

namespace Go.VS
open Go Go.Proofs
def l_RangesSets (a:GS Sn) (b:GS Sn):Bool :=
 bif decide ((a.l.length:Int)>2000) then
  true
 else
  bif decide ((b.l.length:Int)>2000) then
   true
  else
   bif ((ranges_Within a b).1) then
    true
   else
    true

def l_RangesSets_o1 (a:GS Sn) (b:GS Sn):List Ora:=[.pure (B true),.dec true,.rw 24 (I (a.l.length:Int)),.dec false,.rw 28 (I (b.l.length:Int)),.dec false,.pure (.tup [.sl (((y7 a b).1).nl) ((((y7 a b).1).l).map Sn.D) (zsl (((y7 a b).1).nl) 2) none,I ((y7 a b).2)]),.pure (.tup [.sl (((r_Union a b).1).nl) ((((r_Union a b).1).l).map Sn.D) (zsl (((r_Union a b).1).nl) 2) none,I ((r_Union a b).2)]),.pure (.tup [.sl (((zQ a b).1).nl) ((((zQ a b).1).l).map Sn.D) (zsl (((zQ a b).1).nl) 2) none,I ((zQ a b).2)]),.pure (.tup [.sl (((r_Common a b).1).nl) ((((r_Common a b).1).l).map Sn.D) (zsl (((r_Common a b).1).nl) 2) none,I ((r_Common a b).2)]),.pure (.tup [.sl (((y5 a b).1).nl) ((((y5 a b).1).l).map Sn.D) (zsl (((y5 a b).1).nl) 2) none,I ((y5 a b).2)]),.pure (.tup [.sl (((r_Minus a b).1).nl) ((((r_Minus a b).1).l).map Sn.D) (zsl (((r_Minus a b).1).nl) 2) none,I ((r_Minus a b).2)]),.pure (.tup [B ((ranges_Within a b).1),I ((ranges_Within a b).2)])]

theorem T_l_RangesSets (a:GS Sn) (b:GS Sn) (hLa:a.l.length≤9223372036854775807) (hLb:b.l.length≤9223372036854775807):(lim cfg).pure 14 [GS.D Sn.D 2 a,GS.D Sn.D 2 b]=some (B (l_RangesSets a b)):=by
 unfold l_RangesSets
 cases h1:decide ((a.l.length:Int)>2000) with
 |true =>
  have g1:=of_decide_eq_true h1
  exact zp [.pure (B true),.dec true,.rw 24 (I (a.l.length:Int)),.dec true] (Ai h1 (Ai (zk Sn.D a) (Ai (Eq.refl true) (Ai sane_ok trivial)))) (by kernel_rfl)
 |false =>
  have g1:=of_decide_eq_false h1
  cases h2:decide ((b.l.length:Int)>2000) with
  |true =>
   have g2:=of_decide_eq_true h2
   exact zp [.pure (B true),.dec true,.rw 24 (I (a.l.length:Int)),.dec false,.rw 28 (I (b.l.length:Int)),.dec true] (Ai h2 (Ai (zk Sn.D b) (Ai h1 (Ai (zk Sn.D a) (Ai (Eq.refl true) (Ai sane_ok trivial)))))) (by kernel_rfl)
  |false =>
   have g2:=of_decide_eq_false h2
   have p1:=(T_ranges_Union a b (by omega) (by omega))
   have p2:=(T_r_Union a b (by omega) (by omega))
   have p3:=(T_ranges_Common a b (by omega) (by omega))
   have p4:=(T_r_Common a b (by omega) (by omega))
   have p5:=(T_ranges_Minus a b (by omega) (by omega) (by omega))
   have p6:=(T_r_Minus a b (by omega) (by omega))
   have p7:=(T_ranges_Within a b (by omega) (by omega) (by omega))
   cases h3:((ranges_Within a b).1) with
   |true =>
    exact zp ((l_RangesSets_o1 a b)++[.dec true,.pure (.tup [B ((r_Within a b).1),I ((r_Within a b).2)]),.dec true,.pure (B (l_same ((y7 a b).1) ((y7 a b).2) ((r_Union a b).1) ((r_Union a b).2))),.dec true,.pure (B (l_same ((zQ a b).1) ((zQ a b).2) ((r_Common a b).1) ((r_Common a b).2))),.dec true,.pure (B (l_same ((y5 a b).1) ((y5 a b).2) ((r_Minus a b).1) ((r_Minus a b).2))),.dec true,.dec true,.dec true]) (Ai (show (((ranges_Within a b).2) == ((r_Within a b).2))=true from (within_e a b)) (Ai (Eq.refl true) (Ai (show (l_same ((y5 a b).1) ((y5 a b).2) ((r_Minus a b).1) ((r_Minus a b).2))=true from (same_Minus a b)) (Ai (T_l_same ((y5 a b).1) ((y5 a b).2) ((r_Minus a b).1) ((r_Minus a b).2) (len_Minus a b)) (Ai (show (l_same ((zQ a b).1) ((zQ a b).2) ((r_Common a b).1) ((r_Common a b).2))=true from (same_Common a b)) (Ai (T_l_same ((zQ a b).1) ((zQ a b).2) ((r_Common a b).1) ((r_Common a b).2) (len_Common a b)) (Ai (show (l_same ((y7 a b).1) ((y7 a b).2) ((r_Union a b).1) ((r_Union a b).2))=true from (same_Union a b)) (Ai (T_l_same ((y7 a b).1) ((y7 a b).2) ((r_Union a b).1) ((r_Union a b).2) (len_Union a b)) (Ai (show ((r_Within a b).1)=true from ((within_b a b).trans h3)) (Ai (T_r_Within a b (by omega) (by omega)) (Ai h3 (Ai p7 (Ai p6 (Ai p5 (Ai p4 (Ai p3 (Ai p2 (Ai p1 (Ai h2 (Ai (zk Sn.D b) (Ai h1 (Ai (zk Sn.D a) (Ai (Eq.refl true) (Ai sane_ok trivial)))))))))))))))))))))))) (by kernel_rfl)
   |false =>
    exact zp ((l_RangesSets_o1 a b)++[.dec false,.pure (.tup [B ((r_Within a b).1),I ((r_Within a b).2)]),.dec false,.pure (B (l_same ((y7 a b).1) ((y7 a b).2) ((r_Union a b).1) ((r_Union a b).2))),.dec true,.pure (B (l_same ((zQ a b).1) ((zQ a b).2) ((r_Common a b).1) ((r_Common a b).2))),.dec true,.pure (B (l_same ((y5 a b).1) ((y5 a b).2) ((r_Minus a b).1) ((r_Minus a b).2))),.dec true,.dec true,.dec true]) (Ai (show (((ranges_Within a b).2) == ((r_Within a b).2))=true from (within_e a b)) (Ai (Eq.refl true) (Ai (show (l_same ((y5 a b).1) ((y5 a b).2) ((r_Minus a b).1) ((r_Minus a b).2))=true from (same_Minus a b)) (Ai (T_l_same ((y5 a b).1) ((y5 a b).2) ((r_Minus a b).1) ((r_Minus a b).2) (len_Minus a b)) (Ai (show (l_same ((zQ a b).1) ((zQ a b).2) ((r_Common a b).1) ((r_Common a b).2))=true from (same_Common a b)) (Ai (T_l_same ((zQ a b).1) ((zQ a b).2) ((r_Common a b).1) ((r_Common a b).2) (len_Common a b)) (Ai (show (l_same ((y7 a b).1) ((y7 a b).2) ((r_Union a b).1) ((r_Union a b).2))=true from (same_Union a b)) (Ai (T_l_same ((y7 a b).1) ((y7 a b).2) ((r_Union a b).1) ((r_Union a b).2) (len_Union a b)) (Ai (show ((r_Within a b).1)=false from ((within_b a b).trans h3)) (Ai (T_r_Within a b (by omega) (by omega)) (Ai h3 (Ai p7 (Ai p6 (Ai p5 (Ai p4 (Ai p3 (Ai p2 (Ai p1 (Ai h2 (Ai (zk Sn.D b) (Ai h1 (Ai (zk Sn.D a) (Ai (Eq.refl true) (Ai sane_ok trivial)))))))))))))))))))))))) (by kernel_rfl)
end Go.VS

namespace Go.VS
open List (length_map)
open Go Go.Proofs Go.RowKit Go.ChangeShapes Go.WideShapes
set_option maxRecDepth 100000
theorem laid_out:laidOutB Tryz.prog=true:=by kernel_rfl
theorem maps_rowed:mapsRowed Tryz.prog=true:=by kernel_rfl
theorem sl_full:∀t e,t < Tryz.prog.types.size→Tryz.prog.underlying t=some (.slice e)→0 < Tryz.prog.cellsOf e:=slices_full_of Tryz.prog (by kernel_rfl)
theorem i64_min:IntKind.i64.min=-9223372036854775808:=by rfl
theorem i64_max:IntKind.i64.max=9223372036854775807:=by rfl
def R64 (n:Int):Prop:=-9223372036854775808≤n∧n≤9223372036854775807
section
variable {H:Type} {enc:TypeId × Value→H} {w:World} {base base':Nat} {sp:Nat→Bool} {held:Bool} {t:TypeId} {v:Value} {d:DataW H} {p:List MemPlace} {r:Reach}
theorem arg_rep (h:DataW.Trod enc Tryz.prog w base sp held t v d p) (hv:Value.okWide Tryz.prog w r base' t v) (ht:topT cfg 8 t=true) (hr:rowedT cfg 8 t=true) :
  ∃ds,zI (memOf w) noLoc ds v.cells.toList∧Sh cfg 8 t ds:=by
 obtain ⟨n,hn⟩:=h
 exact trod_rep (C:=cfg) (fun t ty h=>tyTab_ok.find h) 8 n t _ _ hn ht hr (.inl (plain_arg hv))
theorem repL_one {M:Mem} {m:Loc} {d:D} {cs:List Value} (h:zI M m [d] cs):∃v,cs=[v]∧Rep M m d v:=by
 simp only [zI] at h
 obtain ⟨v,r,h1,h2,rfl⟩:=h
 exact ⟨v,h1,h2⟩
theorem one_cell {x u:Value} (h:x.cells.toList=[u]) (hp:∀cs,x≠.agg cs):x=u:=by
 cases x<;>simp [Value.cells] at h<;>first|exact h|exact absurd rfl (hp _)
theorem ok_notAgg (hv:Value.okWide Tryz.prog w r base' t v) (hs:∀fs,Tryz.prog.underlying t≠some (.struct fs)) (ha:∀n e,Tryz.prog.underlying t≠some (.array n e)):∀cs,v≠.agg cs:=by
 rintro cs rfl
 unfold Value.okWide at hv
 split at hv
 ·rename_i h;exact hs _ h
 ·rename_i h;exact ha _ _ h
 ·unfold Cell.okWide at hv
  split at hv<;>try (rename_i h1 h2;cases h2;done)
  unfold Cell.ok at hv
  split at hv<;>first|(rename_i h1 h2;cases h2;done)|cases hv
end
theorem sh3 {f:Nat} {ds:List D} (h:Sh cfg (f+1) 3 ds):∃x:Int,ds=[I x]∧R64 x:=by
 rw [Sh,cfg_ty,cty3] at h
 simp only [ty3] at h
 obtain ⟨n,h1,h2,h3⟩:=h
 rw [i64_min] at h2
 rw [i64_max] at h3
 exact ⟨n,h1,h2,h3⟩
theorem sh25 {f:Nat} {ds:List D} (h:Sh cfg (f+2) 25 ds):∃x:Sn,ds=[I x.lo,I x.hi]∧True:=by
 rw [Sh,cfg_ty,cty25] at h
 simp only [zR] at h
 obtain ⟨hl,hf⟩:=h
 obtain ⟨t0,q0,z0⟩:=hf (3,0) (by simp)
 obtain rfl:t0=ty3:=(Option.some.inj (cty3.symm.trans q0)).symm
 obtain ⟨x0,e0,r0⟩:=sh3 (f:=f+0) z0
 obtain ⟨t1,q1,z1⟩:=hf (3,1) (by simp)
 obtain rfl:t1=ty3:=(Option.some.inj (cty3.symm.trans q1)).symm
 obtain ⟨x1,e1,r1⟩:=sh3 (f:=f+0) z1
 rcases ds with _|⟨c0,_|⟨c1,_|⟨y,r⟩⟩⟩
 all_goals simp at hl
 simp [ty3] at e0
 simp [ty3] at e1
 exact ⟨⟨x0,x1⟩,by simp [*],trivial⟩
theorem sh23 {f:Nat} {ds:List D} (h:Sh cfg (f+3) 23 ds):∃x:GS Sn,ds=[.sl x.nl (x.l.map Sn.D) (zsl x.nl 2) none]∧x.l.length≤9223372036854775807:=by
 rw [Sh,cfg_ty,cty23] at h
 simp only [ty23] at h
 rcases h with h|⟨els,te,h1,h2,h3,h4⟩
 ·exact ⟨GS.nil,h,by simp [GS.nil]⟩
 ·obtain rfl:te=zR:=(Option.some.inj (cty25.symm.trans h1)).symm
  have key:∀els:List D,(∀d∈els,Sh cfg (f+2) 25 d.cells∧(zR.isAgg=true→d=.agg d.cells)∧(zR.isAgg=false→d.cells=[d]))→∃l:List Sn,els=l.map Sn.D:=by
   intro els
   induction els with
   |nil=>intro _;exact ⟨[],rfl⟩
   |cons d els ih =>
    intro hd
    obtain ⟨l,hl⟩:=ih fun d' h'=>hd d' (List.mem_cons_of_mem _ h')
    obtain ⟨q1,q2,q3⟩:=hd d (by simp)
    obtain ⟨a,e,_⟩:=sh25 (f:=f+0) q1
    have hx:d=Sn.D a:=by rw [q2 rfl,e];rfl
    exact ⟨a::l,by rw [List.map_cons,← hx,← hl]⟩
  obtain ⟨l,rfl⟩:=key els h4
  refine ⟨GS.some l,h2,?_⟩
  simp only [length_map,maxLen] at h3
  simp only [GS.some]
  omega
theorem arg23 {H:Type} {enc:TypeId × Value→H} {w:World} {base base':Nat} {sp:Nat→Bool} {held:Bool} {v:Value} {d:DataW H} {p:List MemPlace} {r:Reach} (h:DataW.Trod enc Tryz.prog w base sp held 23 v d p) (hv:Value.okWide Tryz.prog w r base' 23 v):∃x:GS Sn,Rep (memOf w) noLoc (GS.D Sn.D 2 x) v∧x.l.length≤9223372036854775807:=by
 obtain ⟨ds,h1,h2⟩:=arg_rep h hv (by kernel_rfl) (by kernel_rfl)
 obtain ⟨x,rfl,hx⟩:=sh23 (f:=5) h2
 obtain ⟨u,e,hu⟩:=repL_one h1
 exact ⟨x,by rw [one_cell e (ok_notAgg hv (by rw [Tryz.underlying23];simp) (by rw [Tryz.underlying23];simp))];exact hu,hx⟩
open Go.Lib in
theorem tab_ok {W : World} (h : laidMetH Tryz.prog [("math/bits.deBruijn32tab", YtpkjnefhnedfdaaGreatDoor.Rows.laid_math_bits_deBruijn32tab), ("math/bits.deBruijn64tab", YtpkjnefhnedfdaaGreatDoor.Rows.laid_math_bits_deBruijn64tab), ("internal/strconv.uint64pow10", YtpkjnefhnedfdaaGreatDoor.Rows.laid_internal_strconv_uint64pow10), ("unicode/utf8.acceptRanges", YtpkjnefhnedfdaaGreatDoor.Rows.laid_unicode_utf8_acceptRanges), ("strconv.ErrRange", YtpkjnefhnedfdaaGreatDoor.Rows.laid_strconv_ErrRange), ("strconv.ErrSyntax", YtpkjnefhnedfdaaGreatDoor.Rows.laid_strconv_ErrSyntax), ("unicode/utf8.first", YtpkjnefhnedfdaaGreatDoor.Rows.laid_unicode_utf8_first)] W) : TabOK cfg W := by
 obtain ⟨ps, h, _⟩ : laidMet Tryz.prog [("math/bits.deBruijn32tab", YtpkjnefhnedfdaaGreatDoor.Rows.laid_math_bits_deBruijn32tab), ("math/bits.deBruijn64tab", YtpkjnefhnedfdaaGreatDoor.Rows.laid_math_bits_deBruijn64tab), ("internal/strconv.uint64pow10", YtpkjnefhnedfdaaGreatDoor.Rows.laid_internal_strconv_uint64pow10), ("unicode/utf8.acceptRanges", YtpkjnefhnedfdaaGreatDoor.Rows.laid_unicode_utf8_acceptRanges), ("strconv.ErrRange", YtpkjnefhnedfdaaGreatDoor.Rows.laid_strconv_ErrRange), ("strconv.ErrSyntax", YtpkjnefhnedfdaaGreatDoor.Rows.laid_strconv_ErrSyntax), ("unicode/utf8.first", YtpkjnefhnedfdaaGreatDoor.Rows.laid_unicode_utf8_first)] W := h
 obtain ⟨_,_,_,_,_,q,_,_,_,_,h,_⟩:=h
 obtain ⟨_,_,_,_,_,q,_,_,_,_,h,_⟩:=h
 obtain ⟨g',t',cs,fuel,p,q,hg',ht',hvar,hd,_⟩:=h
 intro g cs' hc
 have hg:g=F1.gPow∧cs'=F1.powTab:=by
  have hc':(bif eqb g F1.gPow then some F1.powTab else none)=some cs':=hc
  cases he:eqb g F1.gPow with
  |false=>rw [he] at hc';cases hc'
  |true=>rw [he] at hc';cases hc';exact ⟨yl.1 he,rfl⟩
 obtain ⟨rfl,rfl⟩:=hg
 obtain rfl:=Option.some.inj (F1.gPow_is.symm.trans hg')
 have hgt:(Tryz.prog.globals[F1.gPow]?).map (·.type)=some 166:=by kernel_rfl
 obtain rfl:=Option.some.inj (hgt.symm.trans ht')
 have hz:(YtpkjnefhnedfdaaGreatDoor.Rows.laid_internal_strconv_uint64pow10:DataW Unit)=Lib.tabData .u64 Lib.pow10Tab:=by kernel_rfl
 rw [hz] at hd
 have hcs:=cells_of_tab (n:=20) Tryz.underlying166 Tryz.underlying140 (by kernel_rfl) (by kernel_rfl) hd
 unfold World.var? at hvar
 rw [F1.gPow_is,Option.bind_some] at hvar
 split at hvar
 ·rename_i c t fr hh
  cases hvar
  exact ⟨t,fr,by rw [hh,F1.powTab_is,← hcs]⟩
 ·cases hvar
noncomputable def laidWorld (os:Os):World :=
 let n:=(World.settled Tryz.prog os).heap.size
 { World.holding Tryz.prog os ⟨#[.cells #[.string ⟨#[118,97,108,117,101,32,111,117,116,32,111,102,32,114,97,110,103,101]⟩] 174 (0,0),.cells #[.string ⟨#[105,110,118,97,108,105,100,32,115,121,110,116,97,120]⟩] 174 (0,0)],#[],[]⟩ with heap:=((((((((World.holding Tryz.prog os ⟨#[.cells #[.string ⟨#[118,97,108,117,101,32,111,117,116,32,111,102,32,114,97,110,103,101]⟩] 174 (0,0),.cells #[.string ⟨#[105,110,118,97,108,105,100,32,115,121,110,116,97,120]⟩] 174 (0,0)],#[],[]⟩).heap.modify 6 fun|.cells _ t fr=>.cells (#[.int .u8 0,.int .u8 1,.int .u8 28,.int .u8 2,.int .u8 29,.int .u8 14,.int .u8 24,.int .u8 3,.int .u8 30,.int .u8 22,.int .u8 20,.int .u8 15,.int .u8 25,.int .u8 17,.int .u8 4,.int .u8 8,.int .u8 31,.int .u8 27,.int .u8 13,.int .u8 23,.int .u8 21,.int .u8 19,.int .u8 16,.int .u8 7,.int .u8 26,.int .u8 12,.int .u8 18,.int .u8 6,.int .u8 11,.int .u8 5,.int .u8 10,.int .u8 9]) t fr|o=>o).modify 7 fun|.cells _ t fr=>.cells (#[.int .u8 0,.int .u8 1,.int .u8 56,.int .u8 2,.int .u8 57,.int .u8 49,.int .u8 28,.int .u8 3,.int .u8 61,.int .u8 58,.int .u8 42,.int .u8 50,.int .u8 38,.int .u8 29,.int .u8 17,.int .u8 4,.int .u8 62,.int .u8 47,.int .u8 59,.int .u8 36,.int .u8 45,.int .u8 43,.int .u8 51,.int .u8 22,.int .u8 53,.int .u8 39,.int .u8 33,.int .u8 30,.int .u8 24,.int .u8 18,.int .u8 12,.int .u8 5,.int .u8 63,.int .u8 55,.int .u8 48,.int .u8 27,.int .u8 60,.int .u8 41,.int .u8 37,.int .u8 16,.int .u8 46,.int .u8 35,.int .u8 44,.int .u8 21,.int .u8 52,.int .u8 32,.int .u8 23,.int .u8 11,.int .u8 54,.int .u8 26,.int .u8 40,.int .u8 15,.int .u8 34,.int .u8 20,.int .u8 31,.int .u8 10,.int .u8 25,.int .u8 14,.int .u8 19,.int .u8 9,.int .u8 13,.int .u8 8,.int .u8 7,.int .u8 6]) t fr|o=>o).modify 3 fun|.cells _ t fr=>.cells (#[.int .u64 1,.int .u64 10,.int .u64 100,.int .u64 1000,.int .u64 10000,.int .u64 100000,.int .u64 1000000,.int .u64 10000000,.int .u64 100000000,.int .u64 1000000000,.int .u64 10000000000,.int .u64 100000000000,.int .u64 1000000000000,.int .u64 10000000000000,.int .u64 100000000000000,.int .u64 1000000000000000,.int .u64 10000000000000000,.int .u64 100000000000000000,.int .u64 1000000000000000000,.int .u64 10000000000000000000]) t fr|o=>o).modify 5 fun|.cells _ t fr=>.cells (#[.int .u8 128,.int .u8 191,.int .u8 160,.int .u8 191,.int .u8 128,.int .u8 159,.int .u8 144,.int .u8 191,.int .u8 128,.int .u8 143,.int .u8 0,.int .u8 0,.int .u8 0,.int .u8 0,.int .u8 0,.int .u8 0,.int .u8 0,.int .u8 0,.int .u8 0,.int .u8 0,.int .u8 0,.int .u8 0,.int .u8 0,.int .u8 0,.int .u8 0,.int .u8 0,.int .u8 0,.int .u8 0,.int .u8 0,.int .u8 0,.int .u8 0,.int .u8 0]) t fr|o=>o).modify 2 fun|.cells _ t fr=>.cells (#[.iface 172 (.pointer (some ⟨n+0,0,none⟩))]) t fr|o=>o).modify 1 fun|.cells _ t fr=>.cells (#[.iface 172 (.pointer (some ⟨n+1,0,none⟩))]) t fr|o=>o).modify 4 fun|.cells _ t fr=>.cells ((Go.Pinned.utf8FirstZ.map fun z=>Value.int .u8 (Int.ofNat z)).toArray) t fr|o=>o) }
end Go.VS

namespace Go.VS
open Go
theorem law_sets (a b:GS Sn):a.l.length≤9223372036854775807→b.l.length≤9223372036854775807→(lim cfg).pure 14 [GS.D Sn.D 2 a,GS.D Sn.D 2 b]=some (B true):=fun h1 h2=>by
 rw [T_l_RangesSets a b h1 h2]
 unfold l_RangesSets
 simp only [Bool.cond_self]
end Go.VS

