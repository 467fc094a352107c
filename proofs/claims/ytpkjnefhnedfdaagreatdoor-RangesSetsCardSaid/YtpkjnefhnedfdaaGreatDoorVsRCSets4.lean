/- Nothing of a statement is proved in this text alone: it is part 4 of the proof's own tools, an evaluator of the code over deep values, its soundness, and what it makes of this seat's functions. Conditions: none beyond the statement's own. -/
import Derived.Test.YtpkjnefhnedfdaaGreatDoorVsRCSets3
set_option linter.unusedSimpArgs false
set_option linter.unusedVariables false
set_option maxHeartbeats 0
namespace Go.VS
open List (length_set length_append length_cons length_nil)
open Go Go.Proofs
def sd115 (a:GS Sn) (b:GS Sn) (xn:Nat) (yL:Sn) (i6p4:Nat) (xM:Sn) (yW:List Sn):St:=⟨40,[(22,I ((i6p4+1:Nat):Int)),(37,I ((i6p4+1:Nat):Int)),(36,B false),(7,.lsl 1 0 yW.length 2 none),(35,.lsl 1 0 yW.length 2 none),(34,.sl (((za yL xM).1).nl) ((((za yL xM).1).l).map Sn.D) (zsl (((za yL xM).1).nl) 2) none),(33,.lsl 1 0 yW.length 2 none),(13,B false),(12,.sl (((za yL xM).1).nl) ((((za yL xM).1).l).map Sn.D) (zsl (((za yL xM).1).nl) 2) none),(32,B false),(31,.sl (((za yL xM).1).nl) ((((za yL xM).1).l).map Sn.D) (zsl (((za yL xM).1).nl) 2) none),(26,.tup [.sl (((za yL xM).1).nl) ((((za yL xM).1).l).map Sn.D) (zsl (((za yL xM).1).nl) 2) none,B ((za yL xM).2)]),(30,.tup [.sl (((za yL xM).1).nl) ((((za yL xM).1).l).map Sn.D) (zsl (((za yL xM).1).nl) 2) none,B ((za yL xM).2)]),(29,.agg [I xM.lo,I xM.hi]),(28,.agg [I yL.lo,I yL.hi]),(27,.fn (.func 93) [] []),(11,.lref 3 0 2 0),(25,.agg [I xM.lo,I xM.hi]),(24,.ptr (.agg [I xM.lo,I xM.hi])),(23,B true),(1,.sl b.nl (b.l.map Sn.D) (zsl b.nl 2) none),(2,.fn (.func 93) [] []),(7,.lsl 1 0 yW.length 2 none),(9,.lref 2 0 2 0),(14,.sl a.nl (a.l.map Sn.D) (zsl a.nl 2) none),(15,I (a.l.length:Int)),(16,I (xn:Int)),(20,.sl b.nl (b.l.map Sn.D) (zsl b.nl 2) none),(21,I (b.l.length:Int)),(22,I (i6p4:Int))],[(1,⟨yW.map Sn.D,2,false⟩),(2,⟨[.agg [I yL.lo,I yL.hi]],2,false⟩),(3,⟨[.agg [I xM.lo,I xM.hi]],2,false⟩)],4,1⟩

def sd116 (a:GS Sn) (b:GS Sn) (xn:Nat) (yL:Sn) (i6p4:Nat) (xM:Sn) (yW:List Sn):St:=⟨40,[(22,I ((i6p4+1:Nat):Int)),(37,I ((i6p4+1:Nat):Int)),(36,B false),(7,.lsl 4 0 ((yW++(((za yL xM).1).l)).length) 2 none),(35,.lsl 4 0 ((yW++(((za yL xM).1).l)).length) 2 none),(34,.sl (((za yL xM).1).nl) ((((za yL xM).1).l).map Sn.D) (zsl (((za yL xM).1).nl) 2) none),(33,.lsl 1 0 yW.length 2 none),(13,B false),(12,.sl (((za yL xM).1).nl) ((((za yL xM).1).l).map Sn.D) (zsl (((za yL xM).1).nl) 2) none),(32,B false),(31,.sl (((za yL xM).1).nl) ((((za yL xM).1).l).map Sn.D) (zsl (((za yL xM).1).nl) 2) none),(26,.tup [.sl (((za yL xM).1).nl) ((((za yL xM).1).l).map Sn.D) (zsl (((za yL xM).1).nl) 2) none,B ((za yL xM).2)]),(30,.tup [.sl (((za yL xM).1).nl) ((((za yL xM).1).l).map Sn.D) (zsl (((za yL xM).1).nl) 2) none,B ((za yL xM).2)]),(29,.agg [I xM.lo,I xM.hi]),(28,.agg [I yL.lo,I yL.hi]),(27,.fn (.func 93) [] []),(11,.lref 3 0 2 0),(25,.agg [I xM.lo,I xM.hi]),(24,.ptr (.agg [I xM.lo,I xM.hi])),(23,B true),(1,.sl b.nl (b.l.map Sn.D) (zsl b.nl 2) none),(2,.fn (.func 93) [] []),(7,.lsl 1 0 yW.length 2 none),(9,.lref 2 0 2 0),(14,.sl a.nl (a.l.map Sn.D) (zsl a.nl 2) none),(15,I (a.l.length:Int)),(16,I (xn:Int)),(20,.sl b.nl (b.l.map Sn.D) (zsl b.nl 2) none),(21,I (b.l.length:Int)),(22,I (i6p4:Int))],[(2,⟨[.agg [I yL.lo,I yL.hi]],2,false⟩),(3,⟨[.agg [I xM.lo,I xM.hi]],2,false⟩),(4,⟨(yW++(((za yL xM).1).l)).map Sn.D,2,false⟩)],5,1⟩

inductive LR_ranges_pairs_6p4 where
 |x0 (yW:List Sn)
instance:Inhabited LR_ranges_pairs_6p4:=⟨.x0 default⟩
def yg (yL:Sn):List Sn→(List Sn)→LR_ranges_pairs_6p4
 |[],yW=>.x0 yW
 |xM::w5,yW =>
  bif (((za yL xM).1).l).isEmpty then
   yg yL w5 yW
  else
   yg yL w5 (yW++(((za yL xM).1).l))
def lr_ranges_pairs_6p4 (a:GS Sn) (b:GS Sn) (xn:Nat) (yL:Sn):LR_ranges_pairs_6p4→Exit × St
 |.x0 yW=>((.exit 2),⟨40,[(23,B false),(1,.sl b.nl (b.l.map Sn.D) (zsl b.nl 2) none),(2,.fn (.func 93) [] []),(7,.lsl 1 0 yW.length 2 none),(9,.lref 2 0 2 0),(14,.sl a.nl (a.l.map Sn.D) (zsl a.nl 2) none),(15,I (a.l.length:Int)),(16,I (xn:Int)),(20,.sl b.nl (b.l.map Sn.D) (zsl b.nl 2) none),(21,I (b.l.length:Int)),(22,I (b.l.length:Int))],[(1,⟨yW.map Sn.D,2,false⟩),(2,⟨[.agg [I yL.lo,I yL.hi]],2,false⟩)],3,1⟩)
def iv_ranges_pairs_6p4 (a:GS Sn) (b:GS Sn) (xn:Nat) (yL:Sn):LR_ranges_pairs_6p4→Prop
 |.x0 yW=>(yW.length≤65 * xn+b.l.length)
theorem lp_ranges_pairs_6p4 (a:GS Sn) (b:GS Sn) (xn:Nat) (yL:Sn):∀(w5:List Sn) (i6p4:Nat) (yW:List Sn) (wl:b.l.drop i6p4=w5) (hi6p4:i6p4≤b.l.length) (xO:b.l.length≤65) (wd:xn < 64) (hg6p4_v6p4_0:yW.length≤65 * xn+i6p4) (hL6p4:b.l.length≤1099511627776),(lim cfg).loop 87 lp87_6 ⟨40,[(1,.sl b.nl (b.l.map Sn.D) (zsl b.nl 2) none),(2,.fn (.func 93) [] []),(7,.lsl 1 0 yW.length 2 none),(9,.lref 2 0 2 0),(14,.sl a.nl (a.l.map Sn.D) (zsl a.nl 2) none),(15,I (a.l.length:Int)),(16,I (xn:Int)),(20,.sl b.nl (b.l.map Sn.D) (zsl b.nl 2) none),(21,I (b.l.length:Int)),(22,I (i6p4:Int))],[(1,⟨yW.map Sn.D,2,false⟩),(2,⟨[.agg [I yL.lo,I yL.hi]],2,false⟩)],3,1⟩=some (lr_ranges_pairs_6p4 a b xn yL (yg yL w5 yW)):=by
 intro w5
 induction w5 with
 |nil =>
  intro i6p4 yW wl hi6p4 xO wd hg6p4_v6p4_0 hL6p4
  unfold yg
  obtain rfl:i6p4=b.l.length:=zW wl hi6p4
  exact zD [.dec false] (Ai (lt_no wl) trivial) (by kernel_rfl)
 |cons xM w5 ih =>
  intro i6p4 yW wl hi6p4 xO wd hg6p4_v6p4_0 hL6p4
  have hlt6p4:=zg wl
  have hlx:=common1_len yL xM
  unfold yg
  cases h11:(((za yL xM).1).l).isEmpty with
  |true =>
   exact zz (ks:=[1,2,7,9,14,15,16,20,21,22]) (st':=(sd115 a b xn yL i6p4 xM yW)) [.dec true,.el (.agg [I xM.lo,I xM.hi]),.pure (.tup [.sl (((za yL xM).1).nl) ((((za yL xM).1).l).map Sn.D) (zsl (((za yL xM).1).nl) 2) none,B ((za yL xM).2)]),.dec false,.op (some 35) ⟨.lsl 1 0 yW.length 2 none,[],[],4⟩,.rw 37 (I ((i6p4+1:Nat):Int))] (Ai (zM (i:=i6p4) (by have:=zg wl;omega)) (Ai (app_none (te:=zR) (gO:=zw [(1,⟨yW.map Sn.D,2,false⟩),(2,⟨[.agg [I yL.lo,I yL.hi]],2,false⟩),(3,⟨[.agg [I xM.lo,I xM.hi]],2,false⟩)]) (nxt:=4) (f:=Sn.D) (sz:=2) (d:=.lsl 1 0 yW.length 2 none) ((za yL xM).1) h11 rfl) (Ai (show ((za yL xM).2)=false from rfl) (Ai (T_ranges_Common_1 yL xM) (Ai (zS (s:=b) (f:=Sn.D) (k:=2) wl) (Ai (zT wl) trivial)))))) (by kernel_rfl) (by (simp only [sd115,go_sem,length_set,Nat.reduceAdd,Nat.reduceEqDiff,Nat.reduceLT,Nat.reduceLeDiff,bI2,ze.idsL,ze.renL,ze.snapAll,z7.idsL,z7.renL,z7.snapAll])<;>rfl) (ih (i6p4+1) yW (zi wl) (zg wl) (by omega) (by omega) (by omega) (by omega)) (by kernel_rfl)
  |false =>
   exact zz (ks:=[1,2,7,9,14,15,16,20,21,22]) (st':=(sd116 a b xn yL i6p4 xM yW)) [.dec true,.el (.agg [I xM.lo,I xM.hi]),.pure (.tup [.sl (((za yL xM).1).nl) ((((za yL xM).1).l).map Sn.D) (zsl (((za yL xM).1).nl) 2) none,B ((za yL xM).2)]),.dec false,.op (some 35) ⟨.lsl 4 0 ((yW++(((za yL xM).1).l)).length) 2 none,[(1,none),(4,some ⟨(yW++(((za yL xM).1).l)).map Sn.D,2,false⟩)],[1],5⟩,.rw 37 (I ((i6p4+1:Nat):Int))] (Ai (zM (i:=i6p4) (by have:=zg wl;omega)) (Ai (app_moreD (te:=zR) (gO:=zw [(1,⟨yW.map Sn.D,2,false⟩),(2,⟨[.agg [I yL.lo,I yL.hi]],2,false⟩),(3,⟨[.agg [I xM.lo,I xM.hi]],2,false⟩)]) (nxt:=4) (o:=1) (v:=yW) z7 ((za yL xM).1) h11 (by kernel_rfl) rfl (by kernel_rfl) (by decide) ⟨by simp only [zR,big]<;>(first|assumption|omega|(exact zF (by omega) (by omega))|(exact zt (by omega))|(exact zm (by omega))|(exact zu (by omega))|(exact zn (by omega))|(simp only [zd] at *<;>omega)|(simp only [zv,GS.some_l,length_set,length_append,length_cons,length_nil] at *<;>first|assumption|omega)|(simp only [zv,GS.some_l,length_set,length_append,length_cons,length_nil,zd] at *<;>first|assumption|omega)|(simp at *<;>omega)),by simp only [big]<;>(first|assumption|omega|(exact zF (by omega) (by omega))|(exact zt (by omega))|(exact zm (by omega))|(exact zu (by omega))|(exact zn (by omega))|(simp only [zd] at *<;>omega)|(simp only [zv,GS.some_l,length_set,length_append,length_cons,length_nil] at *<;>first|assumption|omega)|(simp only [zv,GS.some_l,length_set,length_append,length_cons,length_nil,zd] at *<;>first|assumption|omega)|(simp at *<;>omega))⟩) (Ai (show ((za yL xM).2)=false from rfl) (Ai (T_ranges_Common_1 yL xM) (Ai (zS (s:=b) (f:=Sn.D) (k:=2) wl) (Ai (zT wl) trivial)))))) (by kernel_rfl) (by (simp only [sd116,go_sem,length_set,Nat.reduceAdd,Nat.reduceEqDiff,Nat.reduceLT,Nat.reduceLeDiff,bI2,ze.idsL,ze.renL,ze.snapAll,z7.idsL,z7.renL,z7.snapAll])<;>rfl) (ih (i6p4+1) (yW++(((za yL xM).1).l)) (zi wl) (zg wl) (by omega) (by omega) (by simp only [length_append,length_cons,length_nil] at *<;>omega) (by omega)) (by kernel_rfl)
theorem ivt_ranges_pairs_6p4 (a:GS Sn) (b:GS Sn) (xn:Nat) (yL:Sn):∀(w5:List Sn) (i6p4:Nat) (yW:List Sn) (wl:b.l.drop i6p4=w5) (hi6p4:i6p4≤b.l.length) (xO:b.l.length≤65) (wd:xn < 64) (hg6p4_v6p4_0:yW.length≤65 * xn+i6p4) (hL6p4:b.l.length≤1099511627776),iv_ranges_pairs_6p4 a b xn yL (yg yL w5 yW):=by
 intro w5
 induction w5 with
 |nil =>
  intro i6p4 yW wl hi6p4 xO wd hg6p4_v6p4_0 hL6p4
  unfold yg
  obtain rfl:i6p4=b.l.length:=zW wl hi6p4
  exact hg6p4_v6p4_0
 |cons xM w5 ih =>
  intro i6p4 yW wl hi6p4 xO wd hg6p4_v6p4_0 hL6p4
  have hlt6p4:=zg wl
  have hlx:=common1_len yL xM
  unfold yg
  cases h11:(((za yL xM).1).l).isEmpty with
  |true =>
   exact ih (i6p4+1) yW (zi wl) (zg wl) (by omega) (by omega) (by omega) (by omega)
  |false =>
   exact ih (i6p4+1) (yW++(((za yL xM).1).l)) (zi wl) (zg wl) (by omega) (by omega) (by simp only [length_append,length_cons,length_nil] at *<;>omega) (by omega)

def sd118 (a:GS Sn) (b:GS Sn) (xn:Nat) (yL:Sn) (wb:Nat) (xc:Sn) (yP:List Sn):St:=⟨40,[(22,I ((wb+1:Nat):Int)),(37,I ((wb+1:Nat):Int)),(36,B false),(7,.lsl 1 0 yP.length 2 none),(35,.lsl 1 0 yP.length 2 none),(34,.sl (((za yL xc).1).nl) ((((za yL xc).1).l).map Sn.D) (zsl (((za yL xc).1).nl) 2) none),(33,.lsl 1 0 yP.length 2 none),(13,B false),(12,.sl (((za yL xc).1).nl) ((((za yL xc).1).l).map Sn.D) (zsl (((za yL xc).1).nl) 2) none),(32,B false),(31,.sl (((za yL xc).1).nl) ((((za yL xc).1).l).map Sn.D) (zsl (((za yL xc).1).nl) 2) none),(26,.tup [.sl (((za yL xc).1).nl) ((((za yL xc).1).l).map Sn.D) (zsl (((za yL xc).1).nl) 2) none,B ((za yL xc).2)]),(30,.tup [.sl (((za yL xc).1).nl) ((((za yL xc).1).l).map Sn.D) (zsl (((za yL xc).1).nl) 2) none,B ((za yL xc).2)]),(29,.agg [I xc.lo,I xc.hi]),(28,.agg [I yL.lo,I yL.hi]),(27,.fn (.func 93) [] []),(11,.lref 3 0 2 0),(25,.agg [I xc.lo,I xc.hi]),(24,.ptr (.agg [I xc.lo,I xc.hi])),(23,B true),(1,.sl b.nl (b.l.map Sn.D) (zsl b.nl 2) none),(2,.fn (.func 93) [] []),(7,.lsl 1 0 yP.length 2 none),(9,.lref 2 0 2 0),(14,.sl a.nl (a.l.map Sn.D) (zsl a.nl 2) none),(15,I (a.l.length:Int)),(16,I (xn:Int)),(20,.sl b.nl (b.l.map Sn.D) (zsl b.nl 2) none),(21,I (b.l.length:Int)),(22,I (wb:Int))],[(1,⟨yP.map Sn.D,2,false⟩),(2,⟨[.agg [I yL.lo,I yL.hi]],2,false⟩),(3,⟨[.agg [I xc.lo,I xc.hi]],2,false⟩)],4,1⟩

def sd119 (a:GS Sn) (b:GS Sn) (xn:Nat) (yL:Sn) (wb:Nat) (xc:Sn) (yP:List Sn):St:=⟨40,[(22,I ((wb+1:Nat):Int)),(37,I ((wb+1:Nat):Int)),(36,B false),(7,.lsl 4 0 ((yP++(((za yL xc).1).l)).length) 2 none),(35,.lsl 4 0 ((yP++(((za yL xc).1).l)).length) 2 none),(34,.sl (((za yL xc).1).nl) ((((za yL xc).1).l).map Sn.D) (zsl (((za yL xc).1).nl) 2) none),(33,.lsl 1 0 yP.length 2 none),(13,B false),(12,.sl (((za yL xc).1).nl) ((((za yL xc).1).l).map Sn.D) (zsl (((za yL xc).1).nl) 2) none),(32,B false),(31,.sl (((za yL xc).1).nl) ((((za yL xc).1).l).map Sn.D) (zsl (((za yL xc).1).nl) 2) none),(26,.tup [.sl (((za yL xc).1).nl) ((((za yL xc).1).l).map Sn.D) (zsl (((za yL xc).1).nl) 2) none,B ((za yL xc).2)]),(30,.tup [.sl (((za yL xc).1).nl) ((((za yL xc).1).l).map Sn.D) (zsl (((za yL xc).1).nl) 2) none,B ((za yL xc).2)]),(29,.agg [I xc.lo,I xc.hi]),(28,.agg [I yL.lo,I yL.hi]),(27,.fn (.func 93) [] []),(11,.lref 3 0 2 0),(25,.agg [I xc.lo,I xc.hi]),(24,.ptr (.agg [I xc.lo,I xc.hi])),(23,B true),(1,.sl b.nl (b.l.map Sn.D) (zsl b.nl 2) none),(2,.fn (.func 93) [] []),(7,.lsl 1 0 yP.length 2 none),(9,.lref 2 0 2 0),(14,.sl a.nl (a.l.map Sn.D) (zsl a.nl 2) none),(15,I (a.l.length:Int)),(16,I (xn:Int)),(20,.sl b.nl (b.l.map Sn.D) (zsl b.nl 2) none),(21,I (b.l.length:Int)),(22,I (wb:Int))],[(2,⟨[.agg [I yL.lo,I yL.hi]],2,false⟩),(3,⟨[.agg [I xc.lo,I xc.hi]],2,false⟩),(4,⟨(yP++(((za yL xc).1).l)).map Sn.D,2,false⟩)],5,1⟩

def sd120 (a:GS Sn) (b:GS Sn) (xn:Nat) (yL:Sn) (wb:Nat) (xc:Sn):St:=⟨40,[(22,I ((wb+1:Nat):Int)),(37,I ((wb+1:Nat):Int)),(36,B false),(7,.lsl 3 0 ((((za yL xc).1).l).length) 2 none),(35,.lsl 3 0 ((((za yL xc).1).l).length) 2 none),(34,.sl (((za yL xc).1).nl) ((((za yL xc).1).l).map Sn.D) (zsl (((za yL xc).1).nl) 2) none),(33,.sl true [] 0 none),(13,B false),(12,.sl (((za yL xc).1).nl) ((((za yL xc).1).l).map Sn.D) (zsl (((za yL xc).1).nl) 2) none),(32,B false),(31,.sl (((za yL xc).1).nl) ((((za yL xc).1).l).map Sn.D) (zsl (((za yL xc).1).nl) 2) none),(26,.tup [.sl (((za yL xc).1).nl) ((((za yL xc).1).l).map Sn.D) (zsl (((za yL xc).1).nl) 2) none,B ((za yL xc).2)]),(30,.tup [.sl (((za yL xc).1).nl) ((((za yL xc).1).l).map Sn.D) (zsl (((za yL xc).1).nl) 2) none,B ((za yL xc).2)]),(29,.agg [I xc.lo,I xc.hi]),(28,.agg [I yL.lo,I yL.hi]),(27,.fn (.func 93) [] []),(11,.lref 2 0 2 0),(25,.agg [I xc.lo,I xc.hi]),(24,.ptr (.agg [I xc.lo,I xc.hi])),(23,B true),(1,.sl b.nl (b.l.map Sn.D) (zsl b.nl 2) none),(2,.fn (.func 93) [] []),(7,.sl true [] 0 none),(9,.lref 1 0 2 0),(14,.sl a.nl (a.l.map Sn.D) (zsl a.nl 2) none),(15,I (a.l.length:Int)),(16,I (xn:Int)),(20,.sl b.nl (b.l.map Sn.D) (zsl b.nl 2) none),(21,I (b.l.length:Int)),(22,I (wb:Int))],[(1,⟨[.agg [I yL.lo,I yL.hi]],2,false⟩),(2,⟨[.agg [I xc.lo,I xc.hi]],2,false⟩),(3,⟨(((za yL xc).1).l).map Sn.D,2,false⟩)],4,1⟩

inductive LR_ranges_pairs_6p5 where
 |x0 (yP:List Sn)
 |x1
instance:Inhabited LR_ranges_pairs_6p5:=⟨.x0 default⟩
def yn (yL:Sn):List Sn→(List Sn)→LR_ranges_pairs_6p5
 |[],yP=>.x0 yP
 |xc::xt,yP =>
  bif (((za yL xc).1).l).isEmpty then
   yn yL xt yP
  else
   yn yL xt (yP++(((za yL xc).1).l))
def ranges_pairs_6p5 (yL:Sn):List Sn→LR_ranges_pairs_6p5
 |[]=>.x1
 |xc::xt =>
  bif (((za yL xc).1).l).isEmpty then
   ranges_pairs_6p5 yL xt
  else
   yn yL xt (((za yL xc).1).l)
def lr_ranges_pairs_6p5 (a:GS Sn) (b:GS Sn) (xn:Nat) (yL:Sn):LR_ranges_pairs_6p5→Exit × St
 |.x0 yP=>((.exit 2),⟨40,[(23,B false),(1,.sl b.nl (b.l.map Sn.D) (zsl b.nl 2) none),(2,.fn (.func 93) [] []),(7,.lsl 1 0 yP.length 2 none),(9,.lref 2 0 2 0),(14,.sl a.nl (a.l.map Sn.D) (zsl a.nl 2) none),(15,I (a.l.length:Int)),(16,I (xn:Int)),(20,.sl b.nl (b.l.map Sn.D) (zsl b.nl 2) none),(21,I (b.l.length:Int)),(22,I (b.l.length:Int))],[(1,⟨yP.map Sn.D,2,false⟩),(2,⟨[.agg [I yL.lo,I yL.hi]],2,false⟩)],3,1⟩)
 |.x1=>((.exit 2),⟨40,[(23,B false),(1,.sl b.nl (b.l.map Sn.D) (zsl b.nl 2) none),(2,.fn (.func 93) [] []),(7,.sl true [] 0 none),(9,.lref 1 0 2 0),(14,.sl a.nl (a.l.map Sn.D) (zsl a.nl 2) none),(15,I (a.l.length:Int)),(16,I (xn:Int)),(20,.sl b.nl (b.l.map Sn.D) (zsl b.nl 2) none),(21,I (b.l.length:Int)),(22,I (b.l.length:Int))],[(1,⟨[.agg [I yL.lo,I yL.hi]],2,false⟩)],2,1⟩)
def iv_ranges_pairs_6p5 (a:GS Sn) (b:GS Sn) (xn:Nat) (yL:Sn):LR_ranges_pairs_6p5→Prop
 |.x0 yP=>(yP.length≤65 * xn+b.l.length)
 |.x1=>True
theorem lp_ranges_pairs_6p5a (a:GS Sn) (b:GS Sn) (xn:Nat) (yL:Sn):∀(xt:List Sn) (wb:Nat) (yP:List Sn) (xI:b.l.drop wb=xt) (hi6p5:wb≤b.l.length) (xO:b.l.length≤65) (wd:xn < 64) (hg6p5_va6p5_0:yP.length≤65 * xn+wb) (hL6p5:b.l.length≤1099511627776),(lim cfg).loop 87 lp87_6 ⟨40,[(1,.sl b.nl (b.l.map Sn.D) (zsl b.nl 2) none),(2,.fn (.func 93) [] []),(7,.lsl 1 0 yP.length 2 none),(9,.lref 2 0 2 0),(14,.sl a.nl (a.l.map Sn.D) (zsl a.nl 2) none),(15,I (a.l.length:Int)),(16,I (xn:Int)),(20,.sl b.nl (b.l.map Sn.D) (zsl b.nl 2) none),(21,I (b.l.length:Int)),(22,I (wb:Int))],[(1,⟨yP.map Sn.D,2,false⟩),(2,⟨[.agg [I yL.lo,I yL.hi]],2,false⟩)],3,1⟩=some (lr_ranges_pairs_6p5 a b xn yL (yn yL xt yP)):=by
 intro xt
 induction xt with
 |nil =>
  intro wb yP xI hi6p5 xO wd hg6p5_va6p5_0 hL6p5
  unfold yn
  obtain rfl:wb=b.l.length:=zW xI hi6p5
  exact zD [.dec false] (Ai (lt_no xI) trivial) (by kernel_rfl)
 |cons xc xt ih =>
  intro wb yP xI hi6p5 xO wd hg6p5_va6p5_0 hL6p5
  have hlt6p5:=zg xI
  have hlx:=common1_len yL xc
  unfold yn
  cases h15:(((za yL xc).1).l).isEmpty with
  |true =>
   exact zz (ks:=[1,2,7,9,14,15,16,20,21,22]) (st':=(sd118 a b xn yL wb xc yP)) [.dec true,.el (.agg [I xc.lo,I xc.hi]),.pure (.tup [.sl (((za yL xc).1).nl) ((((za yL xc).1).l).map Sn.D) (zsl (((za yL xc).1).nl) 2) none,B ((za yL xc).2)]),.dec false,.op (some 35) ⟨.lsl 1 0 yP.length 2 none,[],[],4⟩,.rw 37 (I ((wb+1:Nat):Int))] (Ai (zM (i:=wb) (by have:=zg xI;omega)) (Ai (app_none (te:=zR) (gO:=zw [(1,⟨yP.map Sn.D,2,false⟩),(2,⟨[.agg [I yL.lo,I yL.hi]],2,false⟩),(3,⟨[.agg [I xc.lo,I xc.hi]],2,false⟩)]) (nxt:=4) (f:=Sn.D) (sz:=2) (d:=.lsl 1 0 yP.length 2 none) ((za yL xc).1) h15 rfl) (Ai (show ((za yL xc).2)=false from rfl) (Ai (T_ranges_Common_1 yL xc) (Ai (zS (s:=b) (f:=Sn.D) (k:=2) xI) (Ai (zT xI) trivial)))))) (by kernel_rfl) (by (simp only [sd118,go_sem,length_set,Nat.reduceAdd,Nat.reduceEqDiff,Nat.reduceLT,Nat.reduceLeDiff,bI2,ze.idsL,ze.renL,ze.snapAll,z7.idsL,z7.renL,z7.snapAll])<;>rfl) (ih (wb+1) yP (zi xI) (zg xI) (by omega) (by omega) (by omega) (by omega)) (by kernel_rfl)
  |false =>
   exact zz (ks:=[1,2,7,9,14,15,16,20,21,22]) (st':=(sd119 a b xn yL wb xc yP)) [.dec true,.el (.agg [I xc.lo,I xc.hi]),.pure (.tup [.sl (((za yL xc).1).nl) ((((za yL xc).1).l).map Sn.D) (zsl (((za yL xc).1).nl) 2) none,B ((za yL xc).2)]),.dec false,.op (some 35) ⟨.lsl 4 0 ((yP++(((za yL xc).1).l)).length) 2 none,[(1,none),(4,some ⟨(yP++(((za yL xc).1).l)).map Sn.D,2,false⟩)],[1],5⟩,.rw 37 (I ((wb+1:Nat):Int))] (Ai (zM (i:=wb) (by have:=zg xI;omega)) (Ai (app_moreD (te:=zR) (gO:=zw [(1,⟨yP.map Sn.D,2,false⟩),(2,⟨[.agg [I yL.lo,I yL.hi]],2,false⟩),(3,⟨[.agg [I xc.lo,I xc.hi]],2,false⟩)]) (nxt:=4) (o:=1) (v:=yP) z7 ((za yL xc).1) h15 (by kernel_rfl) rfl (by kernel_rfl) (by decide) ⟨by simp only [zR,big]<;>(first|assumption|omega|(exact zF (by omega) (by omega))|(exact zt (by omega))|(exact zm (by omega))|(exact zu (by omega))|(exact zn (by omega))|(simp only [zd] at *<;>omega)|(simp only [zv,GS.some_l,length_set,length_append,length_cons,length_nil] at *<;>first|assumption|omega)|(simp only [zv,GS.some_l,length_set,length_append,length_cons,length_nil,zd] at *<;>first|assumption|omega)|(simp at *<;>omega)),by simp only [big]<;>(first|assumption|omega|(exact zF (by omega) (by omega))|(exact zt (by omega))|(exact zm (by omega))|(exact zu (by omega))|(exact zn (by omega))|(simp only [zd] at *<;>omega)|(simp only [zv,GS.some_l,length_set,length_append,length_cons,length_nil] at *<;>first|assumption|omega)|(simp only [zv,GS.some_l,length_set,length_append,length_cons,length_nil,zd] at *<;>first|assumption|omega)|(simp at *<;>omega))⟩) (Ai (show ((za yL xc).2)=false from rfl) (Ai (T_ranges_Common_1 yL xc) (Ai (zS (s:=b) (f:=Sn.D) (k:=2) xI) (Ai (zT xI) trivial)))))) (by kernel_rfl) (by (simp only [sd119,go_sem,length_set,Nat.reduceAdd,Nat.reduceEqDiff,Nat.reduceLT,Nat.reduceLeDiff,bI2,ze.idsL,ze.renL,ze.snapAll,z7.idsL,z7.renL,z7.snapAll])<;>rfl) (ih (wb+1) (yP++(((za yL xc).1).l)) (zi xI) (zg xI) (by omega) (by omega) (by simp only [length_append,length_cons,length_nil] at *<;>omega) (by omega)) (by kernel_rfl)
theorem ivt_ranges_pairs_6p5a (a:GS Sn) (b:GS Sn) (xn:Nat) (yL:Sn):∀(xt:List Sn) (wb:Nat) (yP:List Sn) (xI:b.l.drop wb=xt) (hi6p5:wb≤b.l.length) (xO:b.l.length≤65) (wd:xn < 64) (hg6p5_va6p5_0:yP.length≤65 * xn+wb) (hL6p5:b.l.length≤1099511627776),iv_ranges_pairs_6p5 a b xn yL (yn yL xt yP):=by
 intro xt
 induction xt with
 |nil =>
  intro wb yP xI hi6p5 xO wd hg6p5_va6p5_0 hL6p5
  unfold yn
  obtain rfl:wb=b.l.length:=zW xI hi6p5
  exact hg6p5_va6p5_0
 |cons xc xt ih =>
  intro wb yP xI hi6p5 xO wd hg6p5_va6p5_0 hL6p5
  have hlt6p5:=zg xI
  have hlx:=common1_len yL xc
  unfold yn
  cases h15:(((za yL xc).1).l).isEmpty with
  |true =>
   exact ih (wb+1) yP (zi xI) (zg xI) (by omega) (by omega) (by omega) (by omega)
  |false =>
   exact ih (wb+1) (yP++(((za yL xc).1).l)) (zi xI) (zg xI) (by omega) (by omega) (by simp only [length_append,length_cons,length_nil] at *<;>omega) (by omega)
theorem lp_ranges_pairs_6p5 (a:GS Sn) (b:GS Sn) (xn:Nat) (yL:Sn):∀(xt:List Sn) (wb:Nat) (xI:b.l.drop wb=xt) (hi6p5:wb≤b.l.length) (xO:b.l.length≤65) (wd:xn < 64) (hL6p5:b.l.length≤1099511627776),(lim cfg).loop 87 lp87_6 ⟨40,[(1,.sl b.nl (b.l.map Sn.D) (zsl b.nl 2) none),(2,.fn (.func 93) [] []),(7,.sl true [] 0 none),(9,.lref 1 0 2 0),(14,.sl a.nl (a.l.map Sn.D) (zsl a.nl 2) none),(15,I (a.l.length:Int)),(16,I (xn:Int)),(20,.sl b.nl (b.l.map Sn.D) (zsl b.nl 2) none),(21,I (b.l.length:Int)),(22,I (wb:Int))],[(1,⟨[.agg [I yL.lo,I yL.hi]],2,false⟩)],2,1⟩=some (lr_ranges_pairs_6p5 a b xn yL (ranges_pairs_6p5 yL xt)):=by
 intro xt
 induction xt with
 |nil =>
  intro wb xI hi6p5 xO wd hL6p5
  unfold ranges_pairs_6p5
  obtain rfl:wb=b.l.length:=zW xI hi6p5
  exact zD [.dec false] (Ai (lt_no xI) trivial) (by kernel_rfl)
 |cons xc xt ih =>
  intro wb xI hi6p5 xO wd hL6p5
  have hlt6p5:=zg xI
  have hlx:=common1_len yL xc
  unfold ranges_pairs_6p5
  cases h16:(((za yL xc).1).l).isEmpty with
  |true =>
   exact po_turn [.dec true,.el (.agg [I xc.lo,I xc.hi]),.pure (.tup [.sl (((za yL xc).1).nl) ((((za yL xc).1).l).map Sn.D) (zsl (((za yL xc).1).nl) 2) none,B ((za yL xc).2)]),.dec false,.op (some 35) ⟨.sl true [] 0 none,[],[],3⟩,.rw 37 (I ((wb+1:Nat):Int))] (Ai (zM (i:=wb) (by have:=zg xI;omega)) (Ai (app_none (te:=zR) (gO:=zw [(1,⟨[.agg [I yL.lo,I yL.hi]],2,false⟩),(2,⟨[.agg [I xc.lo,I xc.hi]],2,false⟩)]) (nxt:=3) (f:=Sn.D) (sz:=2) (d:=.sl true [] 0 none) ((za yL xc).1) h16 rfl) (Ai (show ((za yL xc).2)=false from rfl) (Ai (T_ranges_Common_1 yL xc) (Ai (zS (s:=b) (f:=Sn.D) (k:=2) xI) (Ai (zT xI) trivial)))))) (ih (wb+1) (zi xI) (zg xI) (by omega) (by omega) (by omega)) (by kernel_rfl)
  |false =>
   exact zz (ks:=[1,2,7,9,14,15,16,20,21,22]) (st':=(sd120 a b xn yL wb xc)) [.dec true,.el (.agg [I xc.lo,I xc.hi]),.pure (.tup [.sl (((za yL xc).1).nl) ((((za yL xc).1).l).map Sn.D) (zsl (((za yL xc).1).nl) 2) none,B ((za yL xc).2)]),.dec false,.op (some 35) ⟨.lsl 3 0 ((((za yL xc).1).l).length) 2 none,[(3,some ⟨(((za yL xc).1).l).map Sn.D,2,false⟩)],[],4⟩,.rw 37 (I ((wb+1:Nat):Int))] (Ai (zM (i:=wb) (by have:=zg xI;omega)) (Ai (app_newD (te:=zR) (gO:=zw [(1,⟨[.agg [I yL.lo,I yL.hi]],2,false⟩),(2,⟨[.agg [I xc.lo,I xc.hi]],2,false⟩)]) (nxt:=3) (els0:=[]) (sz0:=0) (cap0:=none) z7 ((za yL xc).1) h16 rfl (by kernel_rfl) (by decide) ⟨by simp only [zR,big]<;>(first|assumption|omega|(exact zF (by omega) (by omega))|(exact zt (by omega))|(exact zm (by omega))|(exact zu (by omega))|(exact zn (by omega))|(simp only [zd] at *<;>omega)|(simp only [zv,GS.some_l,length_set,length_append,length_cons,length_nil] at *<;>first|assumption|omega)|(simp only [zv,GS.some_l,length_set,length_append,length_cons,length_nil,zd] at *<;>first|assumption|omega)|(simp at *<;>omega)),by simp only [big]<;>(first|assumption|omega|(exact zF (by omega) (by omega))|(exact zt (by omega))|(exact zm (by omega))|(exact zu (by omega))|(exact zn (by omega))|(simp only [zd] at *<;>omega)|(simp only [zv,GS.some_l,length_set,length_append,length_cons,length_nil] at *<;>first|assumption|omega)|(simp only [zv,GS.some_l,length_set,length_append,length_cons,length_nil,zd] at *<;>first|assumption|omega)|(simp at *<;>omega))⟩) (Ai (show ((za yL xc).2)=false from rfl) (Ai (T_ranges_Common_1 yL xc) (Ai (zS (s:=b) (f:=Sn.D) (k:=2) xI) (Ai (zT xI) trivial)))))) (by kernel_rfl) (by (simp only [sd120,go_sem,length_set,Nat.reduceAdd,Nat.reduceEqDiff,Nat.reduceLT,Nat.reduceLeDiff,bI2,ze.idsL,ze.renL,ze.snapAll,z7.idsL,z7.renL,z7.snapAll])<;>rfl) (lp_ranges_pairs_6p5a a b xn yL _ (wb+1) (((za yL xc).1).l) (zi xI) (zg xI) (by omega) (by omega) (by omega) (by omega)) (by kernel_rfl)
theorem ivt_ranges_pairs_6p5 (a:GS Sn) (b:GS Sn) (xn:Nat) (yL:Sn):∀(xt:List Sn) (wb:Nat) (xI:b.l.drop wb=xt) (hi6p5:wb≤b.l.length) (xO:b.l.length≤65) (wd:xn < 64) (hL6p5:b.l.length≤1099511627776),iv_ranges_pairs_6p5 a b xn yL (ranges_pairs_6p5 yL xt):=by
 intro xt
 induction xt with
 |nil =>
  intro wb xI hi6p5 xO wd hL6p5
  unfold ranges_pairs_6p5
  obtain rfl:wb=b.l.length:=zW xI hi6p5
  exact trivial
 |cons xc xt ih =>
  intro wb xI hi6p5 xO wd hL6p5
  have hlt6p5:=zg xI
  have hlx:=common1_len yL xc
  unfold ranges_pairs_6p5
  cases h16:(((za yL xc).1).l).isEmpty with
  |true =>
   exact ih (wb+1) (zi xI) (zg xI) (by omega) (by omega) (by omega)
  |false =>
   exact ivt_ranges_pairs_6p5a a b xn yL _ (wb+1) (((za yL xc).1).l) (zi xI) (zg xI) (by omega) (by omega) (by omega) (by omega)

def sd122 (a:GS Sn) (b:GS Sn) (xn:Nat) (yL:Sn) (yW:List Sn):St:=⟨40,[(16,I ((xn+1:Nat):Int)),(38,I ((xn+1:Nat):Int)),(23,B false),(1,.sl b.nl (b.l.map Sn.D) (zsl b.nl 2) none),(2,.fn (.func 93) [] []),(7,.lsl 1 0 yW.length 2 none),(9,.lref 2 0 2 0),(14,.sl a.nl (a.l.map Sn.D) (zsl a.nl 2) none),(15,I (a.l.length:Int)),(16,I (xn:Int)),(20,.sl b.nl (b.l.map Sn.D) (zsl b.nl 2) none),(21,I (b.l.length:Int)),(22,I (b.l.length:Int))],[(1,⟨yW.map Sn.D,2,false⟩),(2,⟨[.agg [I yL.lo,I yL.hi]],2,false⟩)],3,1⟩

def sd113 (a:GS Sn) (b:GS Sn) (xn:Nat) (yL:Sn) (yz:List Sn):St:=⟨40,[(1,.sl b.nl (b.l.map Sn.D) (zsl b.nl 2) none),(2,.fn (.func 93) [] []),(7,.lsl 1 0 yz.length 2 none),(9,.lref 2 0 2 0),(14,.sl a.nl (a.l.map Sn.D) (zsl a.nl 2) none),(15,I (a.l.length:Int)),(16,I (xn:Int)),(20,.sl b.nl (b.l.map Sn.D) (zsl b.nl 2) none),(21,I (b.l.length:Int)),(22,I 0)],[(1,⟨yz.map Sn.D,2,false⟩),(2,⟨[.agg [I yL.lo,I yL.hi]],2,false⟩)],3,1⟩

def sd117 (a:GS Sn) (b:GS Sn) (xn:Nat) (yL:Sn) (yW:List Sn):St:=⟨40,[(23,B false),(1,.sl b.nl (b.l.map Sn.D) (zsl b.nl 2) none),(2,.fn (.func 93) [] []),(7,.lsl 1 0 yW.length 2 none),(9,.lref 2 0 2 0),(14,.sl a.nl (a.l.map Sn.D) (zsl a.nl 2) none),(15,I (a.l.length:Int)),(16,I (xn:Int)),(20,.sl b.nl (b.l.map Sn.D) (zsl b.nl 2) none),(21,I (b.l.length:Int)),(22,I (b.l.length:Int))],[(1,⟨yW.map Sn.D,2,false⟩),(2,⟨[.agg [I yL.lo,I yL.hi]],2,false⟩)],3,1⟩

def sd112 (a:GS Sn) (b:GS Sn) (xn:Nat) (yL:Sn) (yz:List Sn):St:=⟨40,[(22,I 0),(21,I (b.l.length:Int)),(20,.sl b.nl (b.l.map Sn.D) (zsl b.nl 2) none),(9,.lref 2 0 2 0),(19,.agg [I yL.lo,I yL.hi]),(18,.ptr (.agg [I yL.lo,I yL.hi])),(17,B true),(1,.sl b.nl (b.l.map Sn.D) (zsl b.nl 2) none),(2,.fn (.func 93) [] []),(7,.lsl 1 0 yz.length 2 none),(14,.sl a.nl (a.l.map Sn.D) (zsl a.nl 2) none),(15,I (a.l.length:Int)),(16,I (xn:Int))],[(1,⟨yz.map Sn.D,2,false⟩),(2,⟨[.agg [I yL.lo,I yL.hi]],2,false⟩)],3,1⟩

def sd123 (a:GS Sn) (b:GS Sn) (xn:Nat) (yL:Sn) (yP:List Sn):St:=⟨40,[(16,I ((xn+1:Nat):Int)),(38,I ((xn+1:Nat):Int)),(23,B false),(1,.sl b.nl (b.l.map Sn.D) (zsl b.nl 2) none),(2,.fn (.func 93) [] []),(7,.lsl 1 0 yP.length 2 none),(9,.lref 2 0 2 0),(14,.sl a.nl (a.l.map Sn.D) (zsl a.nl 2) none),(15,I (a.l.length:Int)),(16,I (xn:Int)),(20,.sl b.nl (b.l.map Sn.D) (zsl b.nl 2) none),(21,I (b.l.length:Int)),(22,I (b.l.length:Int))],[(1,⟨yP.map Sn.D,2,false⟩),(2,⟨[.agg [I yL.lo,I yL.hi]],2,false⟩)],3,1⟩

def sd121 (a:GS Sn) (b:GS Sn) (xn:Nat) (yL:Sn) (yP:List Sn):St:=⟨40,[(23,B false),(1,.sl b.nl (b.l.map Sn.D) (zsl b.nl 2) none),(2,.fn (.func 93) [] []),(7,.lsl 1 0 yP.length 2 none),(9,.lref 2 0 2 0),(14,.sl a.nl (a.l.map Sn.D) (zsl a.nl 2) none),(15,I (a.l.length:Int)),(16,I (xn:Int)),(20,.sl b.nl (b.l.map Sn.D) (zsl b.nl 2) none),(21,I (b.l.length:Int)),(22,I (b.l.length:Int))],[(1,⟨yP.map Sn.D,2,false⟩),(2,⟨[.agg [I yL.lo,I yL.hi]],2,false⟩)],3,1⟩

def sd109 (a:GS Sn) (b:GS Sn) (xn:Nat) (yL:Sn):St:=⟨40,[(23,B false),(1,.sl b.nl (b.l.map Sn.D) (zsl b.nl 2) none),(2,.fn (.func 93) [] []),(7,.sl true [] 0 none),(9,.lref 1 0 2 0),(14,.sl a.nl (a.l.map Sn.D) (zsl a.nl 2) none),(15,I (a.l.length:Int)),(16,I (xn:Int)),(20,.sl b.nl (b.l.map Sn.D) (zsl b.nl 2) none),(21,I (b.l.length:Int)),(22,I (b.l.length:Int))],[(1,⟨[.agg [I yL.lo,I yL.hi]],2,false⟩)],2,1⟩

inductive LR_ranges_pairs_3p2 where
 |x0 (yz:List Sn)
 |x1
instance:Inhabited LR_ranges_pairs_3p2:=⟨.x0 default⟩
def ranges_pairs_3p2a (b:GS Sn):List Sn→(List Sn)→LR_ranges_pairs_3p2
 |[],yz=>.x0 yz
 |yL::xy,yz =>
  match yg yL b.l yz with
  |.x0 yW =>
   ranges_pairs_3p2a b xy yW
def ranges_pairs_3p2 (b:GS Sn):List Sn→LR_ranges_pairs_3p2
 |[]=>.x1
 |yL::xy =>
  match ranges_pairs_6p5 yL b.l with
  |.x0 yP =>
   ranges_pairs_3p2a b xy yP
  |.x1 =>
   ranges_pairs_3p2 b xy
def lr_ranges_pairs_3p2 (a:GS Sn) (b:GS Sn):LR_ranges_pairs_3p2→Exit × St
 |.x0 yz=>((.exit 0),⟨40,[(17,B false),(1,.sl b.nl (b.l.map Sn.D) (zsl b.nl 2) none),(2,.fn (.func 93) [] []),(7,.lsl 1 0 yz.length 2 none),(14,.sl a.nl (a.l.map Sn.D) (zsl a.nl 2) none),(15,I (a.l.length:Int)),(16,I (a.l.length:Int))],[(1,⟨yz.map Sn.D,2,false⟩)],2,1⟩)
 |.x1=>((.exit 0),⟨40,[(17,B false),(1,.sl b.nl (b.l.map Sn.D) (zsl b.nl 2) none),(2,.fn (.func 93) [] []),(7,.sl true [] 0 none),(14,.sl a.nl (a.l.map Sn.D) (zsl a.nl 2) none),(15,I (a.l.length:Int)),(16,I (a.l.length:Int))],[],1,1⟩)
def iv_ranges_pairs_3p2 (a:GS Sn) (b:GS Sn):LR_ranges_pairs_3p2→Prop
 |.x0 yz=>(yz.length≤65 * a.l.length)
 |.x1=>True
theorem lp_ranges_pairs_3p2a (a:GS Sn) (b:GS Sn):∀(xy:List Sn) (xn:Nat) (yz:List Sn) (xQ:a.l.drop xn=xy) (hi3p2:xn≤a.l.length) (xF:a.l.length≤64) (xO:b.l.length≤65) (hg3p2_va3p2_0:yz.length≤65 * xn) (hL3p2:a.l.length≤1099511627776),(lim cfg).loop 87 lp87_3 ⟨40,[(1,.sl b.nl (b.l.map Sn.D) (zsl b.nl 2) none),(2,.fn (.func 93) [] []),(7,.lsl 1 0 yz.length 2 none),(14,.sl a.nl (a.l.map Sn.D) (zsl a.nl 2) none),(15,I (a.l.length:Int)),(16,I (xn:Int))],[(1,⟨yz.map Sn.D,2,false⟩)],2,1⟩=some (lr_ranges_pairs_3p2 a b (ranges_pairs_3p2a b xy yz)):=by
 intro xy
 induction xy with
 |nil =>
  intro xn yz xQ hi3p2 xF xO hg3p2_va3p2_0 hL3p2
  unfold ranges_pairs_3p2a
  obtain rfl:xn=a.l.length:=zW xQ hi3p2
  exact zD [.dec false] (Ai (lt_no xQ) trivial) (by kernel_rfl)
 |cons yL xy ih =>
  intro xn yz xQ hi3p2 xF xO hg3p2_va3p2_0 hL3p2
  have hlt3p2:=zg xQ
  unfold ranges_pairs_3p2a
  cases h12:yg yL b.l yz with
  |x0 yW =>
   try dsimp only
   have hv_h12:=ivt_ranges_pairs_6p4 a b xn yL b.l 0 yz (List.drop_zero) (Nat.zero_le _) (by omega) (by omega) (by omega) (by omega)
   rw [h12] at hv_h12
   have wn:=hv_h12
   try dsimp only [iv_ranges_pairs_6p4] at wn
   exact zz (ks:=[1,2,7,14,15,16]) (st':=(sd122 a b xn yL yW)) [.dec true,.el (.agg [I yL.lo,I yL.hi]),.rw 21 (I (b.l.length:Int)),.gloop (sd113 a b xn yL yz) (.exit 2) (sd117 a b xn yL yW),.rw 38 (I ((xn+1:Nat):Int))] (Ai (zM (i:=xn) (by have:=zg xQ;omega)) (Ai (y8 (q:=lr_ranges_pairs_6p4 a b xn yL) (lp_ranges_pairs_6p4 a b xn yL b.l 0 yz (List.drop_zero) (Nat.zero_le _) (by omega) (by omega) (by omega) (by omega)) h12) (Ai (gc_of (C:=cfg) (f:=87) (a:=lp87_6) (ks:=[1,2,7,9,14,15,16,20,21,22]) (st:=(sd112 a b xn yL yz)) (st1:=(sd113 a b xn yL yz)) (by kernel_rfl) (by (simp only [sd112,sd113,go_sem,length_set,Nat.reduceAdd,Nat.reduceEqDiff,Nat.reduceLT,Nat.reduceLeDiff,bI2,ze.idsL,ze.renL,ze.snapAll,z7.idsL,z7.renL,z7.snapAll])<;>rfl)) (Ai (zk Sn.D b) (Ai (zS (s:=a) (f:=Sn.D) (k:=2) xQ) (Ai (zT xQ) trivial)))))) (by kernel_rfl) (by (simp only [sd122,go_sem,length_set,Nat.reduceAdd,Nat.reduceEqDiff,Nat.reduceLT,Nat.reduceLeDiff,bI2,ze.idsL,ze.renL,ze.snapAll,z7.idsL,z7.renL,z7.snapAll])<;>rfl) (ih (xn+1) yW (zi xQ) (zg xQ) (by omega) (by omega) (by omega) (by omega)) (by kernel_rfl)
theorem ivt_ranges_pairs_3p2a (a:GS Sn) (b:GS Sn):∀(xy:List Sn) (xn:Nat) (yz:List Sn) (xQ:a.l.drop xn=xy) (hi3p2:xn≤a.l.length) (xF:a.l.length≤64) (xO:b.l.length≤65) (hg3p2_va3p2_0:yz.length≤65 * xn) (hL3p2:a.l.length≤1099511627776),iv_ranges_pairs_3p2 a b (ranges_pairs_3p2a b xy yz):=by
 intro xy
 induction xy with
 |nil =>
  intro xn yz xQ hi3p2 xF xO hg3p2_va3p2_0 hL3p2
  unfold ranges_pairs_3p2a
  obtain rfl:xn=a.l.length:=zW xQ hi3p2
  exact hg3p2_va3p2_0
 |cons yL xy ih =>
  intro xn yz xQ hi3p2 xF xO hg3p2_va3p2_0 hL3p2
  have hlt3p2:=zg xQ
  unfold ranges_pairs_3p2a
  cases h12:yg yL b.l yz with
  |x0 yW =>
   try dsimp only
   have hv_h12:=ivt_ranges_pairs_6p4 a b xn yL b.l 0 yz (List.drop_zero) (Nat.zero_le _) (by omega) (by omega) (by omega) (by omega)
   rw [h12] at hv_h12
   have wn:=hv_h12
   try dsimp only [iv_ranges_pairs_6p4] at wn
   exact ih (xn+1) yW (zi xQ) (zg xQ) (by omega) (by omega) (by omega) (by omega)
theorem lp_ranges_pairs_3p2 (a:GS Sn) (b:GS Sn):∀(xy:List Sn) (xn:Nat) (xQ:a.l.drop xn=xy) (hi3p2:xn≤a.l.length) (xF:a.l.length≤64) (xO:b.l.length≤65) (hL3p2:a.l.length≤1099511627776),(lim cfg).loop 87 lp87_3 ⟨40,[(1,.sl b.nl (b.l.map Sn.D) (zsl b.nl 2) none),(2,.fn (.func 93) [] []),(7,.sl true [] 0 none),(14,.sl a.nl (a.l.map Sn.D) (zsl a.nl 2) none),(15,I (a.l.length:Int)),(16,I (xn:Int))],[],1,1⟩=some (lr_ranges_pairs_3p2 a b (ranges_pairs_3p2 b xy)):=by
 intro xy
 induction xy with
 |nil =>
  intro xn xQ hi3p2 xF xO hL3p2
  unfold ranges_pairs_3p2
  obtain rfl:xn=a.l.length:=zW xQ hi3p2
  exact zD [.dec false] (Ai (lt_no xQ) trivial) (by kernel_rfl)
 |cons yL xy ih =>
  intro xn xQ hi3p2 xF xO hL3p2
  have hlt3p2:=zg xQ
  unfold ranges_pairs_3p2
  cases h17:ranges_pairs_6p5 yL b.l with
  |x0 yP =>
   try dsimp only
   have hv_h17:=ivt_ranges_pairs_6p5 a b xn yL b.l 0 (List.drop_zero) (Nat.zero_le _) (by omega) (by omega) (by omega)
   rw [h17] at hv_h17
   have wo:=hv_h17
   try dsimp only [iv_ranges_pairs_6p5] at wo
   exact zz (ks:=[1,2,7,14,15,16]) (st':=(sd123 a b xn yL yP)) [.dec true,.el (.agg [I yL.lo,I yL.hi]),.rw 21 (I (b.l.length:Int)),.loop (.exit 2) (sd121 a b xn yL yP),.rw 38 (I ((xn+1:Nat):Int))] (Ai (zM (i:=xn) (by have:=zg xQ;omega)) (Ai (y8 (q:=lr_ranges_pairs_6p5 a b xn yL) (lp_ranges_pairs_6p5 a b xn yL b.l 0 (List.drop_zero) (Nat.zero_le _) (by omega) (by omega) (by omega)) h17) (Ai (zk Sn.D b) (Ai (zS (s:=a) (f:=Sn.D) (k:=2) xQ) (Ai (zT xQ) trivial))))) (by kernel_rfl) (by (simp only [sd123,go_sem,length_set,Nat.reduceAdd,Nat.reduceEqDiff,Nat.reduceLT,Nat.reduceLeDiff,bI2,ze.idsL,ze.renL,ze.snapAll,z7.idsL,z7.renL,z7.snapAll])<;>rfl) (lp_ranges_pairs_3p2a a b _ (xn+1) yP (zi xQ) (zg xQ) (by omega) (by omega) (by omega) (by omega)) (by kernel_rfl)
  |x1 =>
   try dsimp only
   exact po_turn [.dec true,.el (.agg [I yL.lo,I yL.hi]),.rw 21 (I (b.l.length:Int)),.loop (.exit 2) (sd109 a b xn yL),.rw 38 (I ((xn+1:Nat):Int))] (Ai (zM (i:=xn) (by have:=zg xQ;omega)) (Ai (y8 (q:=lr_ranges_pairs_6p5 a b xn yL) (lp_ranges_pairs_6p5 a b xn yL b.l 0 (List.drop_zero) (Nat.zero_le _) (by omega) (by omega) (by omega)) h17) (Ai (zk Sn.D b) (Ai (zS (s:=a) (f:=Sn.D) (k:=2) xQ) (Ai (zT xQ) trivial))))) (ih (xn+1) (zi xQ) (zg xQ) (by omega) (by omega) (by omega)) (by kernel_rfl)
theorem ivt_ranges_pairs_3p2 (a:GS Sn) (b:GS Sn):∀(xy:List Sn) (xn:Nat) (xQ:a.l.drop xn=xy) (hi3p2:xn≤a.l.length) (xF:a.l.length≤64) (xO:b.l.length≤65) (hL3p2:a.l.length≤1099511627776),iv_ranges_pairs_3p2 a b (ranges_pairs_3p2 b xy):=by
 intro xy
 induction xy with
 |nil =>
  intro xn xQ hi3p2 xF xO hL3p2
  unfold ranges_pairs_3p2
  obtain rfl:xn=a.l.length:=zW xQ hi3p2
  exact trivial
 |cons yL xy ih =>
  intro xn xQ hi3p2 xF xO hL3p2
  have hlt3p2:=zg xQ
  unfold ranges_pairs_3p2
  cases h17:ranges_pairs_6p5 yL b.l with
  |x0 yP =>
   try dsimp only
   have hv_h17:=ivt_ranges_pairs_6p5 a b xn yL b.l 0 (List.drop_zero) (Nat.zero_le _) (by omega) (by omega) (by omega)
   rw [h17] at hv_h17
   have wo:=hv_h17
   try dsimp only [iv_ranges_pairs_6p5] at wo
   exact ivt_ranges_pairs_3p2a a b _ (xn+1) yP (zi xQ) (zg xQ) (by omega) (by omega) (by omega) (by omega)
  |x1 =>
   try dsimp only
   exact ih (xn+1) (zi xQ) (zg xQ) (by omega) (by omega) (by omega)

def zQ (a:GS Sn) (b:GS Sn):(GS Sn) × Int :=
 bif ((zJ (GS.some [a,b])) != 0) then
  (GS.nil,(zJ (GS.some [a,b])))
 else
  match ranges_pairs_3p2 b a.l with
  |.x0 yz =>
   match zY (zB zx yz) 0 with
   |.x0 yu =>
    bif decide ((yu.length:Int)>64) then
     (GS.nil,2)
    else
     (GS.some yu,0)
   |.x1 yY yN yu =>
    (GS.nil,2)
   |.x2 yY yN yu =>
    (GS.nil,2)
   |.x3 =>
    (GS.nil,0)
   |.x4 yY yN =>
    (GS.nil,2)
   |.x5 yY yN =>
    (GS.nil,2)
  |.x1 =>
   (GS.nil,0)

def ranges_Common_o1 (a:GS Sn) (b:GS Sn) (yz:List Sn):List Ora:=[.pure (I (zJ (GS.some [a,b]))),.dec false,.inl (.lsl 1 0 yz.length 2 none) [(1,⟨yz.map Sn.D,2,false⟩)] 2]

def sd124 (a:GS Sn) (b:GS Sn) (yz:List Sn):St:=⟨40,[(17,B false),(1,.sl b.nl (b.l.map Sn.D) (zsl b.nl 2) none),(2,.fn (.func 93) [] []),(7,.lsl 1 0 yz.length 2 none),(14,.sl a.nl (a.l.map Sn.D) (zsl a.nl 2) none),(15,I (a.l.length:Int)),(16,I (a.l.length:Int))],[(1,⟨yz.map Sn.D,2,false⟩)],2,1⟩

def sd126 (yz:List Sn):St:=⟨65,[(4,.sl true [] 0 none),(10,.lsl 1 0 yz.length 2 none),(11,I (yz.length:Int)),(12,I 0)],[(1,⟨(zB zx yz).map Sn.D,2,false⟩)],2,2⟩

def sd127 (yz:List Sn) (yu:List Sn):St:=⟨65,[(13,B false),(4,.lsl 2 0 yu.length 2 none),(10,.lsl 1 0 yz.length 2 none),(11,I (yz.length:Int)),(12,I (((zB zx yz).length:Nat):Int))],[(1,⟨(zB zx yz).map Sn.D,2,false⟩),(2,⟨yu.map Sn.D,2,false⟩)],3,2⟩

def sd125 (yz:List Sn):St:=⟨65,[(12,I 0),(11,I (yz.length:Int)),(10,.lsl 1 0 yz.length 2 none),(4,.sl true [] 0 none),(9,.tup []),(8,.lsl 1 0 yz.length 2 none),(3,I 0),(2,.sl true [] 0 none),(0,.lsl 1 0 yz.length 2 none)],[(1,⟨(zB zx yz).map Sn.D,2,false⟩)],2,2⟩

def sd128 (yz:List Sn) (yu:List Sn) (yY:Nat) (yN:Sn):St:=⟨65,[(3,I 2),(2,.sl true [] 0 none),(25,B true),(24,B true),(23,B false),(22,I yN.hi),(21,.lref 3 0 2 1),(20,B false),(19,B false),(18,B true),(17,I yN.lo),(16,.lref 3 0 2 0),(6,.lref 3 0 2 0),(15,.agg [I yN.lo,I yN.hi]),(14,.lref 1 yY 2 0),(13,B true),(4,.lsl 2 0 yu.length 2 none),(10,.lsl 1 0 yz.length 2 none),(11,I (yz.length:Int)),(12,I (yY:Int))],[(1,⟨(zB zx yz).map Sn.D,2,false⟩),(2,⟨yu.map Sn.D,2,false⟩),(3,⟨[.agg [I yN.lo,I yN.hi]],2,false⟩)],4,2⟩

def sd129 (yz:List Sn) (yu:List Sn) (yY:Nat) (yN:Sn):St:=⟨65,[(3,I 2),(2,.sl true [] 0 none),(25,B true),(24,.tup []),(23,.tup []),(22,.tup []),(21,.tup []),(20,B true),(19,B true),(18,B false),(17,I yN.lo),(16,.lref 3 0 2 0),(6,.lref 3 0 2 0),(15,.agg [I yN.lo,I yN.hi]),(14,.lref 1 yY 2 0),(13,B true),(4,.lsl 2 0 yu.length 2 none),(10,.lsl 1 0 yz.length 2 none),(11,I (yz.length:Int)),(12,I (yY:Int))],[(1,⟨(zB zx yz).map Sn.D,2,false⟩),(2,⟨yu.map Sn.D,2,false⟩),(3,⟨[.agg [I yN.lo,I yN.hi]],2,false⟩)],4,2⟩

def sd130 (yz:List Sn):St:=⟨65,[(13,B false),(4,.sl true [] 0 none),(10,.lsl 1 0 yz.length 2 none),(11,I (yz.length:Int)),(12,I (((zB zx yz).length:Nat):Int))],[(1,⟨(zB zx yz).map Sn.D,2,false⟩)],2,2⟩

def sd131 (yz:List Sn) (yY:Nat) (yN:Sn):St:=⟨65,[(3,I 2),(2,.sl true [] 0 none),(25,B true),(24,B true),(23,B false),(22,I yN.hi),(21,.lref 2 0 2 1),(20,B false),(19,B false),(18,B true),(17,I yN.lo),(16,.lref 2 0 2 0),(6,.lref 2 0 2 0),(15,.agg [I yN.lo,I yN.hi]),(14,.lref 1 yY 2 0),(13,B true),(4,.sl true [] 0 none),(10,.lsl 1 0 yz.length 2 none),(11,I (yz.length:Int)),(12,I (yY:Int))],[(1,⟨(zB zx yz).map Sn.D,2,false⟩),(2,⟨[.agg [I yN.lo,I yN.hi]],2,false⟩)],3,2⟩

def sd132 (yz:List Sn) (yY:Nat) (yN:Sn):St:=⟨65,[(3,I 2),(2,.sl true [] 0 none),(25,B true),(24,.tup []),(23,.tup []),(22,.tup []),(21,.tup []),(20,B true),(19,B true),(18,B false),(17,I yN.lo),(16,.lref 2 0 2 0),(6,.lref 2 0 2 0),(15,.agg [I yN.lo,I yN.hi]),(14,.lref 1 yY 2 0),(13,B true),(4,.sl true [] 0 none),(10,.lsl 1 0 yz.length 2 none),(11,I (yz.length:Int)),(12,I (yY:Int))],[(1,⟨(zB zx yz).map Sn.D,2,false⟩),(2,⟨[.agg [I yN.lo,I yN.hi]],2,false⟩)],3,2⟩

def sd133 (a:GS Sn) (b:GS Sn):St:=⟨40,[(17,B false),(1,.sl b.nl (b.l.map Sn.D) (zsl b.nl 2) none),(2,.fn (.func 93) [] []),(7,.sl true [] 0 none),(14,.sl a.nl (a.l.map Sn.D) (zsl a.nl 2) none),(15,I (a.l.length:Int)),(16,I (a.l.length:Int))],[],1,1⟩

theorem T_ranges_Common (a:GS Sn) (b:GS Sn) (hLa:a.l.length≤9223372036854775807) (hLb:b.l.length≤9223372036854775807):(lim cfg).pure 37 [GS.D Sn.D 2 a,GS.D Sn.D 2 b]=some (.tup [GS.D Sn.D 2 ((zQ a b).1),I ((zQ a b).2)]):=by
 unfold zQ
 have p1:=(T_ranges_check (GS.some [a,b]) (by exact zF (by omega) (by omega)) (by simp only [zv,GS.some_l,length_set,length_append,length_cons,length_nil] at *<;>first|assumption|omega))
 cases h1:((zJ (GS.some [a,b])) != 0) with
 |true =>
  have g1:=bne_true h1
  exact zp [.pure (I (zJ (GS.some [a,b]))),.dec true] (Ai h1 (Ai p1 trivial)) (by kernel_rfl)
 |false =>
  have g1:=check2_len (bne_false h1)
  cases h18:ranges_pairs_3p2 b a.l with
  |x0 yz =>
   try dsimp only
   have hv_h18:=ivt_ranges_pairs_3p2 a b a.l 0 (List.drop_zero) (Nat.zero_le _) (by omega) (by omega) (by omega)
   rw [h18] at hv_h18
   have wq:=hv_h18
   try dsimp only [iv_ranges_pairs_3p2] at wq
   have p2:=(show (lim cfg).inl 87 [.sl a.nl (a.l.map Sn.D) (zsl a.nl 2) none,.sl b.nl (b.l.map Sn.D) (zsl b.nl 2) none,.fn (.func 93) [] []] [] 1=some (.lsl 1 0 yz.length 2 none,[(1,⟨yz.map Sn.D,2,false⟩)],2) from po_inl [.rw 15 (I (a.l.length:Int)),.loop (.exit 0) (sd124 a b yz)] (Ai (y8 (q:=lr_ranges_pairs_3p2 a b) (lp_ranges_pairs_3p2 a b a.l 0 (List.drop_zero) (Nat.zero_le _) (by omega) (by omega) (by omega)) h18) (Ai (zk Sn.D a) trivial)) (by kernel_rfl))
   cases h19:zY (zB zx yz) 0 with
   |x0 yu =>
    try dsimp only
    have xY:=ivt_ranges_gathered_4p1 yz (zB zx yz) (zB zx yz) 0 (List.drop_zero) (Nat.zero_le _) (by simp only [zv,GS.some_l,length_set,length_append,length_cons,length_nil] at *<;>first|assumption|omega) (by simp only [zv,GS.some_l,length_set,length_append,length_cons,length_nil] at *<;>first|assumption|omega)
    rw [h19] at xY
    obtain ⟨xW,w6⟩:=xY
    try dsimp only [zP] at xW
    try dsimp only [zP] at w6
    cases h20:decide ((yu.length:Int)>64) with
    |true =>
     have g20:=of_decide_eq_true h20
     exact zp ((ranges_Common_o1 a b yz)++[.inlS [1] (.tup [.sl true [] 0 none,I 2]) [(1,⟨(zB zx yz).map Sn.D,2,false⟩),(2,⟨yu.map Sn.D,2,false⟩)] 3]) (Ai (Ai (show zo [(0,⟨[.sl a.nl (a.l.map Sn.D) (zsl a.nl 2) none,.sl b.nl (b.l.map Sn.D) (zsl b.nl 2) none],1,false⟩),(1,⟨yz.map Sn.D,2,false⟩)] 256 [1] []=some [1] from (by (simp only [zo,go_sem,length_set,Nat.reduceAdd,Nat.reduceEqDiff,Nat.reduceLT,Nat.reduceLeDiff,bI2,ze.idsL,ze.renL,ze.snapAll,z7.idsL,z7.renL,z7.snapAll])<;>rfl)) (show (lim cfg).inl 69 [.lsl 1 0 yz.length 2 none] [(1,⟨yz.map Sn.D,2,false⟩)] 2=some (.tup [.sl true [] 0 none,I 2],[(1,⟨(zB zx yz).map Sn.D,2,false⟩),(2,⟨yu.map Sn.D,2,false⟩)],3) from po_inl [.inlS [1] (.tup []) [(1,⟨(zB zx yz).map Sn.D,2,false⟩)] 2,.gloop (sd126 yz) (.exit 0) (sd127 yz yu),.dec true] (Ai h20 (Ai (y8 (q:=zH yz (zB zx yz)) (lp_ranges_gathered_4p1 yz (zB zx yz) (zB zx yz) 0 (List.drop_zero) (Nat.zero_le _) (by simp only [zv,GS.some_l,length_set,length_append,length_cons,length_nil] at *<;>first|assumption|omega) (by simp only [zv,GS.some_l,length_set,length_append,length_cons,length_nil] at *<;>first|assumption|omega)) h19) (Ai (gc_of (C:=cfg) (f:=69) (a:=lp69_4) (ks:=[4,10,11,12]) (st:=(sd125 yz)) (st1:=(sd126 yz)) (by kernel_rfl) (by (simp only [sd125,sd126,go_sem,length_set,Nat.reduceAdd,Nat.reduceEqDiff,Nat.reduceLT,Nat.reduceLeDiff,bI2,ze.idsL,ze.renL,ze.snapAll,z7.idsL,z7.renL,z7.snapAll])<;>rfl)) (Ai (Ai (show zo [(1,⟨yz.map Sn.D,2,false⟩)] 256 [1] []=some [1] from (by (simp only [zo,go_sem,length_set,Nat.reduceAdd,Nat.reduceEqDiff,Nat.reduceLT,Nat.reduceLeDiff,bI2,ze.idsL,ze.renL,ze.snapAll,z7.idsL,z7.renL,z7.snapAll])<;>rfl)) (T_sort 1 2 none yz (by omega))) trivial)))) (by kernel_rfl))) (Ai p2 (Ai h1 (Ai p1 trivial)))) (by kernel_rfl)
    |false =>
     have g20:=of_decide_eq_false h20
     exact po_pureS ((ranges_Common_o1 a b yz)++[.inlS [1] (.tup [.lsl 2 0 yu.length 2 none,I 0]) [(1,⟨(zB zx yz).map Sn.D,2,false⟩),(2,⟨yu.map Sn.D,2,false⟩)] 3]) [(2,.sl false (yu.map Sn.D) 2 none,[2])] (Ai (snap_row (gO:=zw [(0,⟨[.sl a.nl (a.l.map Sn.D) (zsl a.nl 2) none,.sl b.nl (b.l.map Sn.D) (zsl b.nl 2) none],1,false⟩),(1,⟨(zB zx yz).map Sn.D,2,false⟩),(2,⟨yu.map Sn.D,2,false⟩)]) (o:=2) (len:=yu.length) (cap:=none) (fz:=false) z7 yu (by kernel_rfl) (by omega)) (Ai (Ai (show zo [(0,⟨[.sl a.nl (a.l.map Sn.D) (zsl a.nl 2) none,.sl b.nl (b.l.map Sn.D) (zsl b.nl 2) none],1,false⟩),(1,⟨yz.map Sn.D,2,false⟩)] 256 [1] []=some [1] from (by (simp only [zo,go_sem,length_set,Nat.reduceAdd,Nat.reduceEqDiff,Nat.reduceLT,Nat.reduceLeDiff,bI2,ze.idsL,ze.renL,ze.snapAll,z7.idsL,z7.renL,z7.snapAll])<;>rfl)) (show (lim cfg).inl 69 [.lsl 1 0 yz.length 2 none] [(1,⟨yz.map Sn.D,2,false⟩)] 2=some (.tup [.lsl 2 0 yu.length 2 none,I 0],[(1,⟨(zB zx yz).map Sn.D,2,false⟩),(2,⟨yu.map Sn.D,2,false⟩)],3) from po_inl [.inlS [1] (.tup []) [(1,⟨(zB zx yz).map Sn.D,2,false⟩)] 2,.gloop (sd126 yz) (.exit 0) (sd127 yz yu),.dec false] (Ai h20 (Ai (y8 (q:=zH yz (zB zx yz)) (lp_ranges_gathered_4p1 yz (zB zx yz) (zB zx yz) 0 (List.drop_zero) (Nat.zero_le _) (by simp only [zv,GS.some_l,length_set,length_append,length_cons,length_nil] at *<;>first|assumption|omega) (by simp only [zv,GS.some_l,length_set,length_append,length_cons,length_nil] at *<;>first|assumption|omega)) h19) (Ai (gc_of (C:=cfg) (f:=69) (a:=lp69_4) (ks:=[4,10,11,12]) (st:=(sd125 yz)) (st1:=(sd126 yz)) (by kernel_rfl) (by (simp only [sd125,sd126,go_sem,length_set,Nat.reduceAdd,Nat.reduceEqDiff,Nat.reduceLT,Nat.reduceLeDiff,bI2,ze.idsL,ze.renL,ze.snapAll,z7.idsL,z7.renL,z7.snapAll])<;>rfl)) (Ai (Ai (show zo [(1,⟨yz.map Sn.D,2,false⟩)] 256 [1] []=some [1] from (by (simp only [zo,go_sem,length_set,Nat.reduceAdd,Nat.reduceEqDiff,Nat.reduceLT,Nat.reduceLeDiff,bI2,ze.idsL,ze.renL,ze.snapAll,z7.idsL,z7.renL,z7.snapAll])<;>rfl)) (T_sort 1 2 none yz (by omega))) trivial)))) (by kernel_rfl))) (Ai p2 (Ai h1 (Ai p1 trivial))))) (by kernel_rfl)
   |x1 yY yN yu =>
    try dsimp only
    have xY:=ivt_ranges_gathered_4p1 yz (zB zx yz) (zB zx yz) 0 (List.drop_zero) (Nat.zero_le _) (by simp only [zv,GS.some_l,length_set,length_append,length_cons,length_nil] at *<;>first|assumption|omega) (by simp only [zv,GS.some_l,length_set,length_append,length_cons,length_nil] at *<;>first|assumption|omega)
    rw [h19] at xY
    obtain ⟨xW,w6⟩:=xY
    try dsimp only [zP] at xW
    try dsimp only [zP] at w6
    exact zp ((ranges_Common_o1 a b yz)++[.inlS [1] (.tup [.sl true [] 0 none,I 2]) [(1,⟨(zB zx yz).map Sn.D,2,false⟩),(2,⟨yu.map Sn.D,2,false⟩),(3,⟨[.agg [I yN.lo,I yN.hi]],2,false⟩)] 4]) (Ai (Ai (show zo [(0,⟨[.sl a.nl (a.l.map Sn.D) (zsl a.nl 2) none,.sl b.nl (b.l.map Sn.D) (zsl b.nl 2) none],1,false⟩),(1,⟨yz.map Sn.D,2,false⟩)] 256 [1] []=some [1] from (by (simp only [zo,go_sem,length_set,Nat.reduceAdd,Nat.reduceEqDiff,Nat.reduceLT,Nat.reduceLeDiff,bI2,ze.idsL,ze.renL,ze.snapAll,z7.idsL,z7.renL,z7.snapAll])<;>rfl)) (show (lim cfg).inl 69 [.lsl 1 0 yz.length 2 none] [(1,⟨yz.map Sn.D,2,false⟩)] 2=some (.tup [.sl true [] 0 none,I 2],[(1,⟨(zB zx yz).map Sn.D,2,false⟩),(2,⟨yu.map Sn.D,2,false⟩),(3,⟨[.agg [I yN.lo,I yN.hi]],2,false⟩)],4) from po_inl [.inlS [1] (.tup []) [(1,⟨(zB zx yz).map Sn.D,2,false⟩)] 2,.gloop (sd126 yz) .ret (sd128 yz yu yY yN)] (Ai (y8 (q:=zH yz (zB zx yz)) (lp_ranges_gathered_4p1 yz (zB zx yz) (zB zx yz) 0 (List.drop_zero) (Nat.zero_le _) (by simp only [zv,GS.some_l,length_set,length_append,length_cons,length_nil] at *<;>first|assumption|omega) (by simp only [zv,GS.some_l,length_set,length_append,length_cons,length_nil] at *<;>first|assumption|omega)) h19) (Ai (gc_of (C:=cfg) (f:=69) (a:=lp69_4) (ks:=[4,10,11,12]) (st:=(sd125 yz)) (st1:=(sd126 yz)) (by kernel_rfl) (by (simp only [sd125,sd126,go_sem,length_set,Nat.reduceAdd,Nat.reduceEqDiff,Nat.reduceLT,Nat.reduceLeDiff,bI2,ze.idsL,ze.renL,ze.snapAll,z7.idsL,z7.renL,z7.snapAll])<;>rfl)) (Ai (Ai (show zo [(1,⟨yz.map Sn.D,2,false⟩)] 256 [1] []=some [1] from (by (simp only [zo,go_sem,length_set,Nat.reduceAdd,Nat.reduceEqDiff,Nat.reduceLT,Nat.reduceLeDiff,bI2,ze.idsL,ze.renL,ze.snapAll,z7.idsL,z7.renL,z7.snapAll])<;>rfl)) (T_sort 1 2 none yz (by omega))) trivial))) (by kernel_rfl))) (Ai p2 (Ai h1 (Ai p1 trivial)))) (by kernel_rfl)
   |x2 yY yN yu =>
    try dsimp only
    have xY:=ivt_ranges_gathered_4p1 yz (zB zx yz) (zB zx yz) 0 (List.drop_zero) (Nat.zero_le _) (by simp only [zv,GS.some_l,length_set,length_append,length_cons,length_nil] at *<;>first|assumption|omega) (by simp only [zv,GS.some_l,length_set,length_append,length_cons,length_nil] at *<;>first|assumption|omega)
    rw [h19] at xY
    obtain ⟨xW,w6⟩:=xY
    try dsimp only [zP] at xW
    try dsimp only [zP] at w6
    exact zp ((ranges_Common_o1 a b yz)++[.inlS [1] (.tup [.sl true [] 0 none,I 2]) [(1,⟨(zB zx yz).map Sn.D,2,false⟩),(2,⟨yu.map Sn.D,2,false⟩),(3,⟨[.agg [I yN.lo,I yN.hi]],2,false⟩)] 4]) (Ai (Ai (show zo [(0,⟨[.sl a.nl (a.l.map Sn.D) (zsl a.nl 2) none,.sl b.nl (b.l.map Sn.D) (zsl b.nl 2) none],1,false⟩),(1,⟨yz.map Sn.D,2,false⟩)] 256 [1] []=some [1] from (by (simp only [zo,go_sem,length_set,Nat.reduceAdd,Nat.reduceEqDiff,Nat.reduceLT,Nat.reduceLeDiff,bI2,ze.idsL,ze.renL,ze.snapAll,z7.idsL,z7.renL,z7.snapAll])<;>rfl)) (show (lim cfg).inl 69 [.lsl 1 0 yz.length 2 none] [(1,⟨yz.map Sn.D,2,false⟩)] 2=some (.tup [.sl true [] 0 none,I 2],[(1,⟨(zB zx yz).map Sn.D,2,false⟩),(2,⟨yu.map Sn.D,2,false⟩),(3,⟨[.agg [I yN.lo,I yN.hi]],2,false⟩)],4) from po_inl [.inlS [1] (.tup []) [(1,⟨(zB zx yz).map Sn.D,2,false⟩)] 2,.gloop (sd126 yz) .ret (sd129 yz yu yY yN)] (Ai (y8 (q:=zH yz (zB zx yz)) (lp_ranges_gathered_4p1 yz (zB zx yz) (zB zx yz) 0 (List.drop_zero) (Nat.zero_le _) (by simp only [zv,GS.some_l,length_set,length_append,length_cons,length_nil] at *<;>first|assumption|omega) (by simp only [zv,GS.some_l,length_set,length_append,length_cons,length_nil] at *<;>first|assumption|omega)) h19) (Ai (gc_of (C:=cfg) (f:=69) (a:=lp69_4) (ks:=[4,10,11,12]) (st:=(sd125 yz)) (st1:=(sd126 yz)) (by kernel_rfl) (by (simp only [sd125,sd126,go_sem,length_set,Nat.reduceAdd,Nat.reduceEqDiff,Nat.reduceLT,Nat.reduceLeDiff,bI2,ze.idsL,ze.renL,ze.snapAll,z7.idsL,z7.renL,z7.snapAll])<;>rfl)) (Ai (Ai (show zo [(1,⟨yz.map Sn.D,2,false⟩)] 256 [1] []=some [1] from (by (simp only [zo,go_sem,length_set,Nat.reduceAdd,Nat.reduceEqDiff,Nat.reduceLT,Nat.reduceLeDiff,bI2,ze.idsL,ze.renL,ze.snapAll,z7.idsL,z7.renL,z7.snapAll])<;>rfl)) (T_sort 1 2 none yz (by omega))) trivial))) (by kernel_rfl))) (Ai p2 (Ai h1 (Ai p1 trivial)))) (by kernel_rfl)
   |x3 =>
    try dsimp only
    exact zp ((ranges_Common_o1 a b yz)++[.inlS [1] (.tup [.sl true [] 0 none,I 0]) [(1,⟨(zB zx yz).map Sn.D,2,false⟩)] 2]) (Ai (Ai (show zo [(0,⟨[.sl a.nl (a.l.map Sn.D) (zsl a.nl 2) none,.sl b.nl (b.l.map Sn.D) (zsl b.nl 2) none],1,false⟩),(1,⟨yz.map Sn.D,2,false⟩)] 256 [1] []=some [1] from (by (simp only [zo,go_sem,length_set,Nat.reduceAdd,Nat.reduceEqDiff,Nat.reduceLT,Nat.reduceLeDiff,bI2,ze.idsL,ze.renL,ze.snapAll,z7.idsL,z7.renL,z7.snapAll])<;>rfl)) (show (lim cfg).inl 69 [.lsl 1 0 yz.length 2 none] [(1,⟨yz.map Sn.D,2,false⟩)] 2=some (.tup [.sl true [] 0 none,I 0],[(1,⟨(zB zx yz).map Sn.D,2,false⟩)],2) from po_inl [.inlS [1] (.tup []) [(1,⟨(zB zx yz).map Sn.D,2,false⟩)] 2,.gloop (sd126 yz) (.exit 0) (sd130 yz),.dec false] (Ai (Eq.refl false) (Ai (y8 (q:=zH yz (zB zx yz)) (lp_ranges_gathered_4p1 yz (zB zx yz) (zB zx yz) 0 (List.drop_zero) (Nat.zero_le _) (by simp only [zv,GS.some_l,length_set,length_append,length_cons,length_nil] at *<;>first|assumption|omega) (by simp only [zv,GS.some_l,length_set,length_append,length_cons,length_nil] at *<;>first|assumption|omega)) h19) (Ai (gc_of (C:=cfg) (f:=69) (a:=lp69_4) (ks:=[4,10,11,12]) (st:=(sd125 yz)) (st1:=(sd126 yz)) (by kernel_rfl) (by (simp only [sd125,sd126,go_sem,length_set,Nat.reduceAdd,Nat.reduceEqDiff,Nat.reduceLT,Nat.reduceLeDiff,bI2,ze.idsL,ze.renL,ze.snapAll,z7.idsL,z7.renL,z7.snapAll])<;>rfl)) (Ai (Ai (show zo [(1,⟨yz.map Sn.D,2,false⟩)] 256 [1] []=some [1] from (by (simp only [zo,go_sem,length_set,Nat.reduceAdd,Nat.reduceEqDiff,Nat.reduceLT,Nat.reduceLeDiff,bI2,ze.idsL,ze.renL,ze.snapAll,z7.idsL,z7.renL,z7.snapAll])<;>rfl)) (T_sort 1 2 none yz (by omega))) trivial)))) (by kernel_rfl))) (Ai p2 (Ai h1 (Ai p1 trivial)))) (by kernel_rfl)
   |x4 yY yN =>
    try dsimp only
    exact zp ((ranges_Common_o1 a b yz)++[.inlS [1] (.tup [.sl true [] 0 none,I 2]) [(1,⟨(zB zx yz).map Sn.D,2,false⟩),(2,⟨[.agg [I yN.lo,I yN.hi]],2,false⟩)] 3]) (Ai (Ai (show zo [(0,⟨[.sl a.nl (a.l.map Sn.D) (zsl a.nl 2) none,.sl b.nl (b.l.map Sn.D) (zsl b.nl 2) none],1,false⟩),(1,⟨yz.map Sn.D,2,false⟩)] 256 [1] []=some [1] from (by (simp only [zo,go_sem,length_set,Nat.reduceAdd,Nat.reduceEqDiff,Nat.reduceLT,Nat.reduceLeDiff,bI2,ze.idsL,ze.renL,ze.snapAll,z7.idsL,z7.renL,z7.snapAll])<;>rfl)) (show (lim cfg).inl 69 [.lsl 1 0 yz.length 2 none] [(1,⟨yz.map Sn.D,2,false⟩)] 2=some (.tup [.sl true [] 0 none,I 2],[(1,⟨(zB zx yz).map Sn.D,2,false⟩),(2,⟨[.agg [I yN.lo,I yN.hi]],2,false⟩)],3) from po_inl [.inlS [1] (.tup []) [(1,⟨(zB zx yz).map Sn.D,2,false⟩)] 2,.gloop (sd126 yz) .ret (sd131 yz yY yN)] (Ai (y8 (q:=zH yz (zB zx yz)) (lp_ranges_gathered_4p1 yz (zB zx yz) (zB zx yz) 0 (List.drop_zero) (Nat.zero_le _) (by simp only [zv,GS.some_l,length_set,length_append,length_cons,length_nil] at *<;>first|assumption|omega) (by simp only [zv,GS.some_l,length_set,length_append,length_cons,length_nil] at *<;>first|assumption|omega)) h19) (Ai (gc_of (C:=cfg) (f:=69) (a:=lp69_4) (ks:=[4,10,11,12]) (st:=(sd125 yz)) (st1:=(sd126 yz)) (by kernel_rfl) (by (simp only [sd125,sd126,go_sem,length_set,Nat.reduceAdd,Nat.reduceEqDiff,Nat.reduceLT,Nat.reduceLeDiff,bI2,ze.idsL,ze.renL,ze.snapAll,z7.idsL,z7.renL,z7.snapAll])<;>rfl)) (Ai (Ai (show zo [(1,⟨yz.map Sn.D,2,false⟩)] 256 [1] []=some [1] from (by (simp only [zo,go_sem,length_set,Nat.reduceAdd,Nat.reduceEqDiff,Nat.reduceLT,Nat.reduceLeDiff,bI2,ze.idsL,ze.renL,ze.snapAll,z7.idsL,z7.renL,z7.snapAll])<;>rfl)) (T_sort 1 2 none yz (by omega))) trivial))) (by kernel_rfl))) (Ai p2 (Ai h1 (Ai p1 trivial)))) (by kernel_rfl)
   |x5 yY yN =>
    try dsimp only
    exact zp ((ranges_Common_o1 a b yz)++[.inlS [1] (.tup [.sl true [] 0 none,I 2]) [(1,⟨(zB zx yz).map Sn.D,2,false⟩),(2,⟨[.agg [I yN.lo,I yN.hi]],2,false⟩)] 3]) (Ai (Ai (show zo [(0,⟨[.sl a.nl (a.l.map Sn.D) (zsl a.nl 2) none,.sl b.nl (b.l.map Sn.D) (zsl b.nl 2) none],1,false⟩),(1,⟨yz.map Sn.D,2,false⟩)] 256 [1] []=some [1] from (by (simp only [zo,go_sem,length_set,Nat.reduceAdd,Nat.reduceEqDiff,Nat.reduceLT,Nat.reduceLeDiff,bI2,ze.idsL,ze.renL,ze.snapAll,z7.idsL,z7.renL,z7.snapAll])<;>rfl)) (show (lim cfg).inl 69 [.lsl 1 0 yz.length 2 none] [(1,⟨yz.map Sn.D,2,false⟩)] 2=some (.tup [.sl true [] 0 none,I 2],[(1,⟨(zB zx yz).map Sn.D,2,false⟩),(2,⟨[.agg [I yN.lo,I yN.hi]],2,false⟩)],3) from po_inl [.inlS [1] (.tup []) [(1,⟨(zB zx yz).map Sn.D,2,false⟩)] 2,.gloop (sd126 yz) .ret (sd132 yz yY yN)] (Ai (y8 (q:=zH yz (zB zx yz)) (lp_ranges_gathered_4p1 yz (zB zx yz) (zB zx yz) 0 (List.drop_zero) (Nat.zero_le _) (by simp only [zv,GS.some_l,length_set,length_append,length_cons,length_nil] at *<;>first|assumption|omega) (by simp only [zv,GS.some_l,length_set,length_append,length_cons,length_nil] at *<;>first|assumption|omega)) h19) (Ai (gc_of (C:=cfg) (f:=69) (a:=lp69_4) (ks:=[4,10,11,12]) (st:=(sd125 yz)) (st1:=(sd126 yz)) (by kernel_rfl) (by (simp only [sd125,sd126,go_sem,length_set,Nat.reduceAdd,Nat.reduceEqDiff,Nat.reduceLT,Nat.reduceLeDiff,bI2,ze.idsL,ze.renL,ze.snapAll,z7.idsL,z7.renL,z7.snapAll])<;>rfl)) (Ai (Ai (show zo [(1,⟨yz.map Sn.D,2,false⟩)] 256 [1] []=some [1] from (by (simp only [zo,go_sem,length_set,Nat.reduceAdd,Nat.reduceEqDiff,Nat.reduceLT,Nat.reduceLeDiff,bI2,ze.idsL,ze.renL,ze.snapAll,z7.idsL,z7.renL,z7.snapAll])<;>rfl)) (T_sort 1 2 none yz (by omega))) trivial))) (by kernel_rfl))) (Ai p2 (Ai h1 (Ai p1 trivial)))) (by kernel_rfl)
  |x1 =>
   try dsimp only
   exact zp [.pure (I (zJ (GS.some [a,b]))),.dec false,.inl (.sl true [] 0 none) [] 1,.inl (.tup [.sl true [] 0 none,I 0]) [] 1] (Ai (show (lim cfg).inl 69 [.sl true [] 0 none] [] 1=some (.tup [.sl true [] 0 none,I 0],[],1) from po_inl [.inl (.tup []) [] 1,.loop (.exit 0) ⟨65,[(13,B false),(4,.sl true [] 0 none),(10,.sl true [] 0 none),(11,I 0),(12,I 0)],[],1,1⟩,.dec false] (Ai (Eq.refl false) (Ai (show (lim cfg).loop 69 lp69_4 ⟨65,[(4,.sl true [] 0 none),(10,.sl true [] 0 none),(11,I 0),(12,I 0)],[],1,1⟩=some ((.exit 0),⟨65,[(13,B false),(4,.sl true [] 0 none),(10,.sl true [] 0 none),(11,I 0),(12,I 0)],[],1,1⟩) from (zD [.dec false] (Ai (Eq.refl false) trivial) (by kernel_rfl))) (Ai (T_sort_nil 1) trivial))) (by kernel_rfl)) (Ai (show (lim cfg).inl 87 [.sl a.nl (a.l.map Sn.D) (zsl a.nl 2) none,.sl b.nl (b.l.map Sn.D) (zsl b.nl 2) none,.fn (.func 93) [] []] [] 1=some (.sl true [] 0 none,[],1) from po_inl [.rw 15 (I (a.l.length:Int)),.loop (.exit 0) (sd133 a b)] (Ai (y8 (q:=lr_ranges_pairs_3p2 a b) (lp_ranges_pairs_3p2 a b a.l 0 (List.drop_zero) (Nat.zero_le _) (by omega) (by omega) (by omega)) h18) (Ai (zk Sn.D a) trivial)) (by kernel_rfl)) (Ai h1 (Ai p1 trivial)))) (by kernel_rfl)
end Go.VS

namespace Go.VS
open List (length_append length_cons)
open Go
theorem some_l (lo hi:Int):(zh lo hi).l=someS lo hi:=by
 unfold zh someS
 by_cases h:lo>hi
 ·rw [decide_eq_true h,if_pos h];rfl
 ·rw [decide_eq_false h,if_neg h];rfl
theorem emp_app {α:Type} {v l:List α} {β:Type} (f:List α→β):(bif l.isEmpty then f v else f (v++l))=f (v++l):=by
 cases l<;>simp
theorem out4a_len:∀(l v:List Sn) (f:Int),∃v' f',y9 l v f=.x0 v' f'∧v'.length≤v.length+l.length
 |[],v,f=>⟨v,f,rfl,Nat.le_refl _⟩
 |x::l,v,f=>by
  unfold y9
  rw [emp_app (fun z=>y9 l z (w64 (x.hi+1)))]
  obtain ⟨v',f',e,h⟩:=out4a_len l (v++(zh f (w64 (x.lo - 1))).l) (w64 (x.hi+1))
  refine ⟨v',f',e,?_⟩
  have:=some1 f (w64 (x.lo - 1))
  simp only [length_append,length_cons] at h ⊢
  omega
theorem out4_len:∀(l:List Sn) (f:Int),(∃v' f',yf l f=.x0 v' f'∧v'.length≤l.length)∨∃f',yf l f=.x1 f'
 |[],f=>.inr ⟨f,rfl⟩
 |x::l,f=>by
  unfold yf
  cases he:((zh f (w64 (x.lo - 1))).l).isEmpty with
  |true =>
   rcases out4_len l (w64 (x.hi+1)) with ⟨v',f',e,h⟩|⟨f',e⟩
   ·exact .inl ⟨v',f',e,by simp only [length_cons];omega⟩
   ·exact .inr ⟨f',e⟩
  |false =>
   obtain ⟨v',f',e,h⟩:=out4a_len l ((zh f (w64 (x.lo - 1))).l) (w64 (x.hi+1))
   have:=some1 f (w64 (x.lo - 1))
   exact .inl ⟨v',f',e,by simp only [length_cons];omega⟩
theorem outsideLen (r:GS Sn) (h:r.l.length≤64):(zc r).l.length≤65:=by
 unfold zc
 rcases out4_len r.l (-1099511627776) with ⟨v',f',e,h'⟩|⟨f',e⟩<;>rw [e]<;>dsimp only
 ·have:=some1 f' 1099511627776
  cases ((zh f' 1099511627776).l).isEmpty<;>simp [GS.some]<;>omega
 ·have:=some1 f' 1099511627776
  cases ((zh f' 1099511627776).l).isEmpty<;>simp [GS.some,GS.nil]<;>omega
theorem out4a_eq:∀(l v:List Sn) (f:Int),bd l→∃v' f',y9 l v f=.x0 v' f'∧v'++someS f' 1099511627776=v++outS f l
 |[],v,f,_=>⟨v,f,rfl,rfl⟩
 |x::l,v,f,h=>by
  have hx:=h x List.mem_cons_self
  unfold y9
  rw [emp_app (fun z=>y9 l z (w64 (x.hi+1))),w64_eq (by omega) (by omega),w64_eq (by omega) (by omega),some_l]
  obtain ⟨v',f',e,k⟩:=out4a_eq l (v++someS f (x.lo - 1)) (x.hi+1) (fun t ht=>h t (List.mem_cons_of_mem _ ht))
  exact ⟨v',f',e,by rw [k,List.append_assoc];rfl⟩
theorem out4_eq:∀(l:List Sn) (f:Int),bd l→(∃v' f',yf l f=.x0 v' f'∧v'++someS f' 1099511627776=outS f l)∨∃f',yf l f=.x1 f'∧someS f' 1099511627776=outS f l
 |[],f,_=>.inr ⟨f,rfl,rfl⟩
 |x::l,f,h=>by
  have hx:=h x List.mem_cons_self
  have h':=fun t ht=>h t (List.mem_cons_of_mem _ ht)
  unfold yf
  rw [w64_eq (by omega) (by omega),w64_eq (by omega) (by omega),some_l]
  cases he:(someS f (x.lo - 1)).isEmpty with
  |true =>
   have e0:someS f (x.lo - 1)=[]:=by simpa using he
   have e1:outS f (x::l)=outS (x.hi+1) l:=by
    show someS f (x.lo - 1)++outS (x.hi+1) l=_
    rw [e0];rfl
   rw [e1]
   exact out4_eq l (x.hi+1) h'
  |false =>
   obtain ⟨v',f',e,k⟩:=out4a_eq l (someS f (x.lo - 1)) (x.hi+1) h'
   exact .inl ⟨v',f',e,k⟩
theorem outside_eq {r : GS Sn} (h : bd r.l) : (zc r).l = outS (-1099511627776) r.l := by
  unfold zc
  rcases out4_eq r.l (-1099511627776) h with ⟨v', f', e, k⟩ | ⟨f', e, k⟩ <;> rw [e] <;> dsimp only <;> rw [some_l, ← k]
  · cases he : (someS f' 1099511627776).isEmpty with
    | true => have e0 : someS f' 1099511627776 = [] := by simpa using he
              rw [e0]; simp [GS.some]
    | false => rfl
  · cases he : (someS f' 1099511627776).isEmpty with
    | true => have e0 : someS f' 1099511627776 = [] := by simpa using he
              rw [e0]; rfl
    | false => rfl
end Go.VS

namespace Go.VS
open List (length_set length_append length_cons length_nil)
open Go Go.Proofs
theorem zl (r:GS Sn) (h:r.l.length≤64):(zc r).l.length≤65:=outsideLen r h

def sd144 (a:GS Sn) (xo:Nat) (yA:GS Sn) (yM:Sn) (i6p6:Nat) (xN:Sn) (yX:List Sn):St:=⟨40,[(22,I ((i6p6+1:Nat):Int)),(37,I ((i6p6+1:Nat):Int)),(36,B false),(7,.lsl 1 0 yX.length 2 none),(35,.lsl 1 0 yX.length 2 none),(34,.sl (((zb yM xN).1).nl) ((((zb yM xN).1).l).map Sn.D) (zsl (((zb yM xN).1).nl) 2) none),(33,.lsl 1 0 yX.length 2 none),(13,B false),(12,.sl (((zb yM xN).1).nl) ((((zb yM xN).1).l).map Sn.D) (zsl (((zb yM xN).1).nl) 2) none),(32,B false),(31,.sl (((zb yM xN).1).nl) ((((zb yM xN).1).l).map Sn.D) (zsl (((zb yM xN).1).nl) 2) none),(26,.tup [.sl (((zb yM xN).1).nl) ((((zb yM xN).1).l).map Sn.D) (zsl (((zb yM xN).1).nl) 2) none,B ((zb yM xN).2)]),(30,.tup [.sl (((zb yM xN).1).nl) ((((zb yM xN).1).l).map Sn.D) (zsl (((zb yM xN).1).nl) 2) none,B ((zb yM xN).2)]),(29,.agg [I xN.lo,I xN.hi]),(28,.agg [I yM.lo,I yM.hi]),(27,.fn (.func 97) [] []),(11,.lref 3 0 2 0),(25,.agg [I xN.lo,I xN.hi]),(24,.ptr (.agg [I xN.lo,I xN.hi])),(23,B true),(1,.sl yA.nl (yA.l.map Sn.D) (zsl yA.nl 2) none),(2,.fn (.func 97) [] []),(7,.lsl 1 0 yX.length 2 none),(9,.lref 2 0 2 0),(14,.sl a.nl (a.l.map Sn.D) (zsl a.nl 2) none),(15,I (a.l.length:Int)),(16,I (xo:Int)),(20,.sl yA.nl (yA.l.map Sn.D) (zsl yA.nl 2) none),(21,I (yA.l.length:Int)),(22,I (i6p6:Int))],[(1,⟨yX.map Sn.D,2,false⟩),(2,⟨[.agg [I yM.lo,I yM.hi]],2,false⟩),(3,⟨[.agg [I xN.lo,I xN.hi]],2,false⟩)],4,1⟩

def sd145 (a:GS Sn) (xo:Nat) (yA:GS Sn) (yM:Sn) (i6p6:Nat) (xN:Sn) (yX:List Sn):St:=⟨40,[(22,I ((i6p6+1:Nat):Int)),(37,I ((i6p6+1:Nat):Int)),(36,B false),(7,.lsl 4 0 ((yX++(((zb yM xN).1).l)).length) 2 none),(35,.lsl 4 0 ((yX++(((zb yM xN).1).l)).length) 2 none),(34,.sl (((zb yM xN).1).nl) ((((zb yM xN).1).l).map Sn.D) (zsl (((zb yM xN).1).nl) 2) none),(33,.lsl 1 0 yX.length 2 none),(13,B false),(12,.sl (((zb yM xN).1).nl) ((((zb yM xN).1).l).map Sn.D) (zsl (((zb yM xN).1).nl) 2) none),(32,B false),(31,.sl (((zb yM xN).1).nl) ((((zb yM xN).1).l).map Sn.D) (zsl (((zb yM xN).1).nl) 2) none),(26,.tup [.sl (((zb yM xN).1).nl) ((((zb yM xN).1).l).map Sn.D) (zsl (((zb yM xN).1).nl) 2) none,B ((zb yM xN).2)]),(30,.tup [.sl (((zb yM xN).1).nl) ((((zb yM xN).1).l).map Sn.D) (zsl (((zb yM xN).1).nl) 2) none,B ((zb yM xN).2)]),(29,.agg [I xN.lo,I xN.hi]),(28,.agg [I yM.lo,I yM.hi]),(27,.fn (.func 97) [] []),(11,.lref 3 0 2 0),(25,.agg [I xN.lo,I xN.hi]),(24,.ptr (.agg [I xN.lo,I xN.hi])),(23,B true),(1,.sl yA.nl (yA.l.map Sn.D) (zsl yA.nl 2) none),(2,.fn (.func 97) [] []),(7,.lsl 1 0 yX.length 2 none),(9,.lref 2 0 2 0),(14,.sl a.nl (a.l.map Sn.D) (zsl a.nl 2) none),(15,I (a.l.length:Int)),(16,I (xo:Int)),(20,.sl yA.nl (yA.l.map Sn.D) (zsl yA.nl 2) none),(21,I (yA.l.length:Int)),(22,I (i6p6:Int))],[(2,⟨[.agg [I yM.lo,I yM.hi]],2,false⟩),(3,⟨[.agg [I xN.lo,I xN.hi]],2,false⟩),(4,⟨(yX++(((zb yM xN).1).l)).map Sn.D,2,false⟩)],5,1⟩

inductive LR_ranges_pairs_6p6 where
 |x0 (yX:List Sn)
instance:Inhabited LR_ranges_pairs_6p6:=⟨.x0 default⟩
def yh (yM:Sn):List Sn→(List Sn)→LR_ranges_pairs_6p6
 |[],yX=>.x0 yX
 |xN::w7,yX =>
  bif (((zb yM xN).1).l).isEmpty then
   yh yM w7 yX
  else
   yh yM w7 (yX++(((zb yM xN).1).l))
def lr_ranges_pairs_6p6 (a:GS Sn) (xo:Nat) (yA:GS Sn) (yM:Sn):LR_ranges_pairs_6p6→Exit × St
 |.x0 yX=>((.exit 2),⟨40,[(23,B false),(1,.sl yA.nl (yA.l.map Sn.D) (zsl yA.nl 2) none),(2,.fn (.func 97) [] []),(7,.lsl 1 0 yX.length 2 none),(9,.lref 2 0 2 0),(14,.sl a.nl (a.l.map Sn.D) (zsl a.nl 2) none),(15,I (a.l.length:Int)),(16,I (xo:Int)),(20,.sl yA.nl (yA.l.map Sn.D) (zsl yA.nl 2) none),(21,I (yA.l.length:Int)),(22,I (yA.l.length:Int))],[(1,⟨yX.map Sn.D,2,false⟩),(2,⟨[.agg [I yM.lo,I yM.hi]],2,false⟩)],3,1⟩)
def iv_ranges_pairs_6p6 (a:GS Sn) (xo:Nat) (yA:GS Sn) (yM:Sn):LR_ranges_pairs_6p6→Prop
 |.x0 yX=>(yX.length≤65 * xo+yA.l.length)
theorem lp_ranges_pairs_6p6 (a:GS Sn) (xo:Nat) (yA:GS Sn) (yM:Sn):∀(w7:List Sn) (i6p6:Nat) (yX:List Sn) (wm:yA.l.drop i6p6=w7) (hi6p6:i6p6≤yA.l.length) (xO:yA.l.length≤65) (wd:xo < 64) (hg6p6_v6p6_0:yX.length≤65 * xo+i6p6) (hL6p6:yA.l.length≤1099511627776),(lim cfg).loop 87 lp87_6 ⟨40,[(1,.sl yA.nl (yA.l.map Sn.D) (zsl yA.nl 2) none),(2,.fn (.func 97) [] []),(7,.lsl 1 0 yX.length 2 none),(9,.lref 2 0 2 0),(14,.sl a.nl (a.l.map Sn.D) (zsl a.nl 2) none),(15,I (a.l.length:Int)),(16,I (xo:Int)),(20,.sl yA.nl (yA.l.map Sn.D) (zsl yA.nl 2) none),(21,I (yA.l.length:Int)),(22,I (i6p6:Int))],[(1,⟨yX.map Sn.D,2,false⟩),(2,⟨[.agg [I yM.lo,I yM.hi]],2,false⟩)],3,1⟩=some (lr_ranges_pairs_6p6 a xo yA yM (yh yM w7 yX)):=by
 intro w7
 induction w7 with
 |nil =>
  intro i6p6 yX wm hi6p6 xO wd hg6p6_v6p6_0 hL6p6
  unfold yh
  obtain rfl:i6p6=yA.l.length:=zW wm hi6p6
  exact zD [.dec false] (Ai (lt_no wm) trivial) (by kernel_rfl)
 |cons xN w7 ih =>
  intro i6p6 yX wm hi6p6 xO wd hg6p6_v6p6_0 hL6p6
  have hlt6p6:=zg wm
  have hlx:=minus1_len yM xN
  unfold yh
  cases h11:(((zb yM xN).1).l).isEmpty with
  |true =>
   exact zz (ks:=[1,2,7,9,14,15,16,20,21,22]) (st':=(sd144 a xo yA yM i6p6 xN yX)) [.dec true,.el (.agg [I xN.lo,I xN.hi]),.pure (.tup [.sl (((zb yM xN).1).nl) ((((zb yM xN).1).l).map Sn.D) (zsl (((zb yM xN).1).nl) 2) none,B ((zb yM xN).2)]),.dec false,.op (some 35) ⟨.lsl 1 0 yX.length 2 none,[],[],4⟩,.rw 37 (I ((i6p6+1:Nat):Int))] (Ai (zM (i:=i6p6) (by have:=zg wm;omega)) (Ai (app_none (te:=zR) (gO:=zw [(1,⟨yX.map Sn.D,2,false⟩),(2,⟨[.agg [I yM.lo,I yM.hi]],2,false⟩),(3,⟨[.agg [I xN.lo,I xN.hi]],2,false⟩)]) (nxt:=4) (f:=Sn.D) (sz:=2) (d:=.lsl 1 0 yX.length 2 none) ((zb yM xN).1) h11 rfl) (Ai (show ((zb yM xN).2)=false from rfl) (Ai (T_ranges_Minus_1 yM xN) (Ai (zS (s:=yA) (f:=Sn.D) (k:=2) wm) (Ai (zT wm) trivial)))))) (by kernel_rfl) (by (simp only [sd144,go_sem,length_set,Nat.reduceAdd,Nat.reduceEqDiff,Nat.reduceLT,Nat.reduceLeDiff,bI2,ze.idsL,ze.renL,ze.snapAll,z7.idsL,z7.renL,z7.snapAll])<;>rfl) (ih (i6p6+1) yX (zi wm) (zg wm) (by omega) (by omega) (by omega) (by omega)) (by kernel_rfl)
  |false =>
   exact zz (ks:=[1,2,7,9,14,15,16,20,21,22]) (st':=(sd145 a xo yA yM i6p6 xN yX)) [.dec true,.el (.agg [I xN.lo,I xN.hi]),.pure (.tup [.sl (((zb yM xN).1).nl) ((((zb yM xN).1).l).map Sn.D) (zsl (((zb yM xN).1).nl) 2) none,B ((zb yM xN).2)]),.dec false,.op (some 35) ⟨.lsl 4 0 ((yX++(((zb yM xN).1).l)).length) 2 none,[(1,none),(4,some ⟨(yX++(((zb yM xN).1).l)).map Sn.D,2,false⟩)],[1],5⟩,.rw 37 (I ((i6p6+1:Nat):Int))] (Ai (zM (i:=i6p6) (by have:=zg wm;omega)) (Ai (app_moreD (te:=zR) (gO:=zw [(1,⟨yX.map Sn.D,2,false⟩),(2,⟨[.agg [I yM.lo,I yM.hi]],2,false⟩),(3,⟨[.agg [I xN.lo,I xN.hi]],2,false⟩)]) (nxt:=4) (o:=1) (v:=yX) z7 ((zb yM xN).1) h11 (by kernel_rfl) rfl (by kernel_rfl) (by decide) ⟨by simp only [zR,big]<;>(first|assumption|omega|(exact zF (by omega) (by omega))|(exact zt (by omega))|(exact zm (by omega))|(exact zu (by omega))|(exact zn (by omega))|(exact zl _ (by omega))|(simp only [zd] at *<;>omega)|(simp only [zv,GS.some_l,length_set,length_append,length_cons,length_nil] at *<;>first|assumption|omega)|(simp only [zv,GS.some_l,length_set,length_append,length_cons,length_nil,zd] at *<;>first|assumption|omega)|(simp at *<;>omega)),by simp only [big]<;>(first|assumption|omega|(exact zF (by omega) (by omega))|(exact zt (by omega))|(exact zm (by omega))|(exact zu (by omega))|(exact zn (by omega))|(exact zl _ (by omega))|(simp only [zd] at *<;>omega)|(simp only [zv,GS.some_l,length_set,length_append,length_cons,length_nil] at *<;>first|assumption|omega)|(simp only [zv,GS.some_l,length_set,length_append,length_cons,length_nil,zd] at *<;>first|assumption|omega)|(simp at *<;>omega))⟩) (Ai (show ((zb yM xN).2)=false from rfl) (Ai (T_ranges_Minus_1 yM xN) (Ai (zS (s:=yA) (f:=Sn.D) (k:=2) wm) (Ai (zT wm) trivial)))))) (by kernel_rfl) (by (simp only [sd145,go_sem,length_set,Nat.reduceAdd,Nat.reduceEqDiff,Nat.reduceLT,Nat.reduceLeDiff,bI2,ze.idsL,ze.renL,ze.snapAll,z7.idsL,z7.renL,z7.snapAll])<;>rfl) (ih (i6p6+1) (yX++(((zb yM xN).1).l)) (zi wm) (zg wm) (by omega) (by omega) (by simp only [length_append,length_cons,length_nil] at *<;>omega) (by omega)) (by kernel_rfl)
theorem ivt_ranges_pairs_6p6 (a:GS Sn) (xo:Nat) (yA:GS Sn) (yM:Sn):∀(w7:List Sn) (i6p6:Nat) (yX:List Sn) (wm:yA.l.drop i6p6=w7) (hi6p6:i6p6≤yA.l.length) (xO:yA.l.length≤65) (wd:xo < 64) (hg6p6_v6p6_0:yX.length≤65 * xo+i6p6) (hL6p6:yA.l.length≤1099511627776),iv_ranges_pairs_6p6 a xo yA yM (yh yM w7 yX):=by
 intro w7
 induction w7 with
 |nil =>
  intro i6p6 yX wm hi6p6 xO wd hg6p6_v6p6_0 hL6p6
  unfold yh
  obtain rfl:i6p6=yA.l.length:=zW wm hi6p6
  exact hg6p6_v6p6_0
 |cons xN w7 ih =>
  intro i6p6 yX wm hi6p6 xO wd hg6p6_v6p6_0 hL6p6
  have hlt6p6:=zg wm
  have hlx:=minus1_len yM xN
  unfold yh
  cases h11:(((zb yM xN).1).l).isEmpty with
  |true =>
   exact ih (i6p6+1) yX (zi wm) (zg wm) (by omega) (by omega) (by omega) (by omega)
  |false =>
   exact ih (i6p6+1) (yX++(((zb yM xN).1).l)) (zi wm) (zg wm) (by omega) (by omega) (by simp only [length_append,length_cons,length_nil] at *<;>omega) (by omega)

def sd147 (a:GS Sn) (xo:Nat) (yA:GS Sn) (yM:Sn) (wc:Nat) (xd:Sn) (yQ:List Sn):St:=⟨40,[(22,I ((wc+1:Nat):Int)),(37,I ((wc+1:Nat):Int)),(36,B false),(7,.lsl 1 0 yQ.length 2 none),(35,.lsl 1 0 yQ.length 2 none),(34,.sl (((zb yM xd).1).nl) ((((zb yM xd).1).l).map Sn.D) (zsl (((zb yM xd).1).nl) 2) none),(33,.lsl 1 0 yQ.length 2 none),(13,B false),(12,.sl (((zb yM xd).1).nl) ((((zb yM xd).1).l).map Sn.D) (zsl (((zb yM xd).1).nl) 2) none),(32,B false),(31,.sl (((zb yM xd).1).nl) ((((zb yM xd).1).l).map Sn.D) (zsl (((zb yM xd).1).nl) 2) none),(26,.tup [.sl (((zb yM xd).1).nl) ((((zb yM xd).1).l).map Sn.D) (zsl (((zb yM xd).1).nl) 2) none,B ((zb yM xd).2)]),(30,.tup [.sl (((zb yM xd).1).nl) ((((zb yM xd).1).l).map Sn.D) (zsl (((zb yM xd).1).nl) 2) none,B ((zb yM xd).2)]),(29,.agg [I xd.lo,I xd.hi]),(28,.agg [I yM.lo,I yM.hi]),(27,.fn (.func 97) [] []),(11,.lref 3 0 2 0),(25,.agg [I xd.lo,I xd.hi]),(24,.ptr (.agg [I xd.lo,I xd.hi])),(23,B true),(1,.sl yA.nl (yA.l.map Sn.D) (zsl yA.nl 2) none),(2,.fn (.func 97) [] []),(7,.lsl 1 0 yQ.length 2 none),(9,.lref 2 0 2 0),(14,.sl a.nl (a.l.map Sn.D) (zsl a.nl 2) none),(15,I (a.l.length:Int)),(16,I (xo:Int)),(20,.sl yA.nl (yA.l.map Sn.D) (zsl yA.nl 2) none),(21,I (yA.l.length:Int)),(22,I (wc:Int))],[(1,⟨yQ.map Sn.D,2,false⟩),(2,⟨[.agg [I yM.lo,I yM.hi]],2,false⟩),(3,⟨[.agg [I xd.lo,I xd.hi]],2,false⟩)],4,1⟩

def sd148 (a:GS Sn) (xo:Nat) (yA:GS Sn) (yM:Sn) (wc:Nat) (xd:Sn) (yQ:List Sn):St:=⟨40,[(22,I ((wc+1:Nat):Int)),(37,I ((wc+1:Nat):Int)),(36,B false),(7,.lsl 4 0 ((yQ++(((zb yM xd).1).l)).length) 2 none),(35,.lsl 4 0 ((yQ++(((zb yM xd).1).l)).length) 2 none),(34,.sl (((zb yM xd).1).nl) ((((zb yM xd).1).l).map Sn.D) (zsl (((zb yM xd).1).nl) 2) none),(33,.lsl 1 0 yQ.length 2 none),(13,B false),(12,.sl (((zb yM xd).1).nl) ((((zb yM xd).1).l).map Sn.D) (zsl (((zb yM xd).1).nl) 2) none),(32,B false),(31,.sl (((zb yM xd).1).nl) ((((zb yM xd).1).l).map Sn.D) (zsl (((zb yM xd).1).nl) 2) none),(26,.tup [.sl (((zb yM xd).1).nl) ((((zb yM xd).1).l).map Sn.D) (zsl (((zb yM xd).1).nl) 2) none,B ((zb yM xd).2)]),(30,.tup [.sl (((zb yM xd).1).nl) ((((zb yM xd).1).l).map Sn.D) (zsl (((zb yM xd).1).nl) 2) none,B ((zb yM xd).2)]),(29,.agg [I xd.lo,I xd.hi]),(28,.agg [I yM.lo,I yM.hi]),(27,.fn (.func 97) [] []),(11,.lref 3 0 2 0),(25,.agg [I xd.lo,I xd.hi]),(24,.ptr (.agg [I xd.lo,I xd.hi])),(23,B true),(1,.sl yA.nl (yA.l.map Sn.D) (zsl yA.nl 2) none),(2,.fn (.func 97) [] []),(7,.lsl 1 0 yQ.length 2 none),(9,.lref 2 0 2 0),(14,.sl a.nl (a.l.map Sn.D) (zsl a.nl 2) none),(15,I (a.l.length:Int)),(16,I (xo:Int)),(20,.sl yA.nl (yA.l.map Sn.D) (zsl yA.nl 2) none),(21,I (yA.l.length:Int)),(22,I (wc:Int))],[(2,⟨[.agg [I yM.lo,I yM.hi]],2,false⟩),(3,⟨[.agg [I xd.lo,I xd.hi]],2,false⟩),(4,⟨(yQ++(((zb yM xd).1).l)).map Sn.D,2,false⟩)],5,1⟩

def sd149 (a:GS Sn) (xo:Nat) (yA:GS Sn) (yM:Sn) (wc:Nat) (xd:Sn):St:=⟨40,[(22,I ((wc+1:Nat):Int)),(37,I ((wc+1:Nat):Int)),(36,B false),(7,.lsl 3 0 ((((zb yM xd).1).l).length) 2 none),(35,.lsl 3 0 ((((zb yM xd).1).l).length) 2 none),(34,.sl (((zb yM xd).1).nl) ((((zb yM xd).1).l).map Sn.D) (zsl (((zb yM xd).1).nl) 2) none),(33,.sl true [] 0 none),(13,B false),(12,.sl (((zb yM xd).1).nl) ((((zb yM xd).1).l).map Sn.D) (zsl (((zb yM xd).1).nl) 2) none),(32,B false),(31,.sl (((zb yM xd).1).nl) ((((zb yM xd).1).l).map Sn.D) (zsl (((zb yM xd).1).nl) 2) none),(26,.tup [.sl (((zb yM xd).1).nl) ((((zb yM xd).1).l).map Sn.D) (zsl (((zb yM xd).1).nl) 2) none,B ((zb yM xd).2)]),(30,.tup [.sl (((zb yM xd).1).nl) ((((zb yM xd).1).l).map Sn.D) (zsl (((zb yM xd).1).nl) 2) none,B ((zb yM xd).2)]),(29,.agg [I xd.lo,I xd.hi]),(28,.agg [I yM.lo,I yM.hi]),(27,.fn (.func 97) [] []),(11,.lref 2 0 2 0),(25,.agg [I xd.lo,I xd.hi]),(24,.ptr (.agg [I xd.lo,I xd.hi])),(23,B true),(1,.sl yA.nl (yA.l.map Sn.D) (zsl yA.nl 2) none),(2,.fn (.func 97) [] []),(7,.sl true [] 0 none),(9,.lref 1 0 2 0),(14,.sl a.nl (a.l.map Sn.D) (zsl a.nl 2) none),(15,I (a.l.length:Int)),(16,I (xo:Int)),(20,.sl yA.nl (yA.l.map Sn.D) (zsl yA.nl 2) none),(21,I (yA.l.length:Int)),(22,I (wc:Int))],[(1,⟨[.agg [I yM.lo,I yM.hi]],2,false⟩),(2,⟨[.agg [I xd.lo,I xd.hi]],2,false⟩),(3,⟨(((zb yM xd).1).l).map Sn.D,2,false⟩)],4,1⟩

inductive LR_ranges_pairs_6p7 where
 |x0 (yQ:List Sn)
 |x1
instance:Inhabited LR_ranges_pairs_6p7:=⟨.x0 default⟩
def yo (yM:Sn):List Sn→(List Sn)→LR_ranges_pairs_6p7
 |[],yQ=>.x0 yQ
 |xd::xu,yQ =>
  bif (((zb yM xd).1).l).isEmpty then
   yo yM xu yQ
  else
   yo yM xu (yQ++(((zb yM xd).1).l))
def ranges_pairs_6p7 (yM:Sn):List Sn→LR_ranges_pairs_6p7
 |[]=>.x1
 |xd::xu =>
  bif (((zb yM xd).1).l).isEmpty then
   ranges_pairs_6p7 yM xu
  else
   yo yM xu (((zb yM xd).1).l)
def lr_ranges_pairs_6p7 (a:GS Sn) (xo:Nat) (yA:GS Sn) (yM:Sn):LR_ranges_pairs_6p7→Exit × St
 |.x0 yQ=>((.exit 2),⟨40,[(23,B false),(1,.sl yA.nl (yA.l.map Sn.D) (zsl yA.nl 2) none),(2,.fn (.func 97) [] []),(7,.lsl 1 0 yQ.length 2 none),(9,.lref 2 0 2 0),(14,.sl a.nl (a.l.map Sn.D) (zsl a.nl 2) none),(15,I (a.l.length:Int)),(16,I (xo:Int)),(20,.sl yA.nl (yA.l.map Sn.D) (zsl yA.nl 2) none),(21,I (yA.l.length:Int)),(22,I (yA.l.length:Int))],[(1,⟨yQ.map Sn.D,2,false⟩),(2,⟨[.agg [I yM.lo,I yM.hi]],2,false⟩)],3,1⟩)
 |.x1=>((.exit 2),⟨40,[(23,B false),(1,.sl yA.nl (yA.l.map Sn.D) (zsl yA.nl 2) none),(2,.fn (.func 97) [] []),(7,.sl true [] 0 none),(9,.lref 1 0 2 0),(14,.sl a.nl (a.l.map Sn.D) (zsl a.nl 2) none),(15,I (a.l.length:Int)),(16,I (xo:Int)),(20,.sl yA.nl (yA.l.map Sn.D) (zsl yA.nl 2) none),(21,I (yA.l.length:Int)),(22,I (yA.l.length:Int))],[(1,⟨[.agg [I yM.lo,I yM.hi]],2,false⟩)],2,1⟩)
def iv_ranges_pairs_6p7 (a:GS Sn) (xo:Nat) (yA:GS Sn) (yM:Sn):LR_ranges_pairs_6p7→Prop
 |.x0 yQ=>(yQ.length≤65 * xo+yA.l.length)
 |.x1=>True
theorem lp_ranges_pairs_6p7a (a:GS Sn) (xo:Nat) (yA:GS Sn) (yM:Sn):∀(xu:List Sn) (wc:Nat) (yQ:List Sn) (xJ:yA.l.drop wc=xu) (hi6p7:wc≤yA.l.length) (xO:yA.l.length≤65) (wd:xo < 64) (hg6p7_va6p7_0:yQ.length≤65 * xo+wc) (hL6p7:yA.l.length≤1099511627776),(lim cfg).loop 87 lp87_6 ⟨40,[(1,.sl yA.nl (yA.l.map Sn.D) (zsl yA.nl 2) none),(2,.fn (.func 97) [] []),(7,.lsl 1 0 yQ.length 2 none),(9,.lref 2 0 2 0),(14,.sl a.nl (a.l.map Sn.D) (zsl a.nl 2) none),(15,I (a.l.length:Int)),(16,I (xo:Int)),(20,.sl yA.nl (yA.l.map Sn.D) (zsl yA.nl 2) none),(21,I (yA.l.length:Int)),(22,I (wc:Int))],[(1,⟨yQ.map Sn.D,2,false⟩),(2,⟨[.agg [I yM.lo,I yM.hi]],2,false⟩)],3,1⟩=some (lr_ranges_pairs_6p7 a xo yA yM (yo yM xu yQ)):=by
 intro xu
 induction xu with
 |nil =>
  intro wc yQ xJ hi6p7 xO wd hg6p7_va6p7_0 hL6p7
  unfold yo
  obtain rfl:wc=yA.l.length:=zW xJ hi6p7
  exact zD [.dec false] (Ai (lt_no xJ) trivial) (by kernel_rfl)
 |cons xd xu ih =>
  intro wc yQ xJ hi6p7 xO wd hg6p7_va6p7_0 hL6p7
  have hlt6p7:=zg xJ
  have hlx:=minus1_len yM xd
  unfold yo
  cases h15:(((zb yM xd).1).l).isEmpty with
  |true =>
   exact zz (ks:=[1,2,7,9,14,15,16,20,21,22]) (st':=(sd147 a xo yA yM wc xd yQ)) [.dec true,.el (.agg [I xd.lo,I xd.hi]),.pure (.tup [.sl (((zb yM xd).1).nl) ((((zb yM xd).1).l).map Sn.D) (zsl (((zb yM xd).1).nl) 2) none,B ((zb yM xd).2)]),.dec false,.op (some 35) ⟨.lsl 1 0 yQ.length 2 none,[],[],4⟩,.rw 37 (I ((wc+1:Nat):Int))] (Ai (zM (i:=wc) (by have:=zg xJ;omega)) (Ai (app_none (te:=zR) (gO:=zw [(1,⟨yQ.map Sn.D,2,false⟩),(2,⟨[.agg [I yM.lo,I yM.hi]],2,false⟩),(3,⟨[.agg [I xd.lo,I xd.hi]],2,false⟩)]) (nxt:=4) (f:=Sn.D) (sz:=2) (d:=.lsl 1 0 yQ.length 2 none) ((zb yM xd).1) h15 rfl) (Ai (show ((zb yM xd).2)=false from rfl) (Ai (T_ranges_Minus_1 yM xd) (Ai (zS (s:=yA) (f:=Sn.D) (k:=2) xJ) (Ai (zT xJ) trivial)))))) (by kernel_rfl) (by (simp only [sd147,go_sem,length_set,Nat.reduceAdd,Nat.reduceEqDiff,Nat.reduceLT,Nat.reduceLeDiff,bI2,ze.idsL,ze.renL,ze.snapAll,z7.idsL,z7.renL,z7.snapAll])<;>rfl) (ih (wc+1) yQ (zi xJ) (zg xJ) (by omega) (by omega) (by omega) (by omega)) (by kernel_rfl)
  |false =>
   exact zz (ks:=[1,2,7,9,14,15,16,20,21,22]) (st':=(sd148 a xo yA yM wc xd yQ)) [.dec true,.el (.agg [I xd.lo,I xd.hi]),.pure (.tup [.sl (((zb yM xd).1).nl) ((((zb yM xd).1).l).map Sn.D) (zsl (((zb yM xd).1).nl) 2) none,B ((zb yM xd).2)]),.dec false,.op (some 35) ⟨.lsl 4 0 ((yQ++(((zb yM xd).1).l)).length) 2 none,[(1,none),(4,some ⟨(yQ++(((zb yM xd).1).l)).map Sn.D,2,false⟩)],[1],5⟩,.rw 37 (I ((wc+1:Nat):Int))] (Ai (zM (i:=wc) (by have:=zg xJ;omega)) (Ai (app_moreD (te:=zR) (gO:=zw [(1,⟨yQ.map Sn.D,2,false⟩),(2,⟨[.agg [I yM.lo,I yM.hi]],2,false⟩),(3,⟨[.agg [I xd.lo,I xd.hi]],2,false⟩)]) (nxt:=4) (o:=1) (v:=yQ) z7 ((zb yM xd).1) h15 (by kernel_rfl) rfl (by kernel_rfl) (by decide) ⟨by simp only [zR,big]<;>(first|assumption|omega|(exact zF (by omega) (by omega))|(exact zt (by omega))|(exact zm (by omega))|(exact zu (by omega))|(exact zn (by omega))|(exact zl _ (by omega))|(simp only [zd] at *<;>omega)|(simp only [zv,GS.some_l,length_set,length_append,length_cons,length_nil] at *<;>first|assumption|omega)|(simp only [zv,GS.some_l,length_set,length_append,length_cons,length_nil,zd] at *<;>first|assumption|omega)|(simp at *<;>omega)),by simp only [big]<;>(first|assumption|omega|(exact zF (by omega) (by omega))|(exact zt (by omega))|(exact zm (by omega))|(exact zu (by omega))|(exact zn (by omega))|(exact zl _ (by omega))|(simp only [zd] at *<;>omega)|(simp only [zv,GS.some_l,length_set,length_append,length_cons,length_nil] at *<;>first|assumption|omega)|(simp only [zv,GS.some_l,length_set,length_append,length_cons,length_nil,zd] at *<;>first|assumption|omega)|(simp at *<;>omega))⟩) (Ai (show ((zb yM xd).2)=false from rfl) (Ai (T_ranges_Minus_1 yM xd) (Ai (zS (s:=yA) (f:=Sn.D) (k:=2) xJ) (Ai (zT xJ) trivial)))))) (by kernel_rfl) (by (simp only [sd148,go_sem,length_set,Nat.reduceAdd,Nat.reduceEqDiff,Nat.reduceLT,Nat.reduceLeDiff,bI2,ze.idsL,ze.renL,ze.snapAll,z7.idsL,z7.renL,z7.snapAll])<;>rfl) (ih (wc+1) (yQ++(((zb yM xd).1).l)) (zi xJ) (zg xJ) (by omega) (by omega) (by simp only [length_append,length_cons,length_nil] at *<;>omega) (by omega)) (by kernel_rfl)
theorem ivt_ranges_pairs_6p7a (a:GS Sn) (xo:Nat) (yA:GS Sn) (yM:Sn):∀(xu:List Sn) (wc:Nat) (yQ:List Sn) (xJ:yA.l.drop wc=xu) (hi6p7:wc≤yA.l.length) (xO:yA.l.length≤65) (wd:xo < 64) (hg6p7_va6p7_0:yQ.length≤65 * xo+wc) (hL6p7:yA.l.length≤1099511627776),iv_ranges_pairs_6p7 a xo yA yM (yo yM xu yQ):=by
 intro xu
 induction xu with
 |nil =>
  intro wc yQ xJ hi6p7 xO wd hg6p7_va6p7_0 hL6p7
  unfold yo
  obtain rfl:wc=yA.l.length:=zW xJ hi6p7
  exact hg6p7_va6p7_0
 |cons xd xu ih =>
  intro wc yQ xJ hi6p7 xO wd hg6p7_va6p7_0 hL6p7
  have hlt6p7:=zg xJ
  have hlx:=minus1_len yM xd
  unfold yo
  cases h15:(((zb yM xd).1).l).isEmpty with
  |true =>
   exact ih (wc+1) yQ (zi xJ) (zg xJ) (by omega) (by omega) (by omega) (by omega)
  |false =>
   exact ih (wc+1) (yQ++(((zb yM xd).1).l)) (zi xJ) (zg xJ) (by omega) (by omega) (by simp only [length_append,length_cons,length_nil] at *<;>omega) (by omega)
theorem lp_ranges_pairs_6p7 (a:GS Sn) (xo:Nat) (yA:GS Sn) (yM:Sn):∀(xu:List Sn) (wc:Nat) (xJ:yA.l.drop wc=xu) (hi6p7:wc≤yA.l.length) (xO:yA.l.length≤65) (wd:xo < 64) (hL6p7:yA.l.length≤1099511627776),(lim cfg).loop 87 lp87_6 ⟨40,[(1,.sl yA.nl (yA.l.map Sn.D) (zsl yA.nl 2) none),(2,.fn (.func 97) [] []),(7,.sl true [] 0 none),(9,.lref 1 0 2 0),(14,.sl a.nl (a.l.map Sn.D) (zsl a.nl 2) none),(15,I (a.l.length:Int)),(16,I (xo:Int)),(20,.sl yA.nl (yA.l.map Sn.D) (zsl yA.nl 2) none),(21,I (yA.l.length:Int)),(22,I (wc:Int))],[(1,⟨[.agg [I yM.lo,I yM.hi]],2,false⟩)],2,1⟩=some (lr_ranges_pairs_6p7 a xo yA yM (ranges_pairs_6p7 yM xu)):=by
 intro xu
 induction xu with
 |nil =>
  intro wc xJ hi6p7 xO wd hL6p7
  unfold ranges_pairs_6p7
  obtain rfl:wc=yA.l.length:=zW xJ hi6p7
  exact zD [.dec false] (Ai (lt_no xJ) trivial) (by kernel_rfl)
 |cons xd xu ih =>
  intro wc xJ hi6p7 xO wd hL6p7
  have hlt6p7:=zg xJ
  have hlx:=minus1_len yM xd
  unfold ranges_pairs_6p7
  cases h16:(((zb yM xd).1).l).isEmpty with
  |true =>
   exact po_turn [.dec true,.el (.agg [I xd.lo,I xd.hi]),.pure (.tup [.sl (((zb yM xd).1).nl) ((((zb yM xd).1).l).map Sn.D) (zsl (((zb yM xd).1).nl) 2) none,B ((zb yM xd).2)]),.dec false,.op (some 35) ⟨.sl true [] 0 none,[],[],3⟩,.rw 37 (I ((wc+1:Nat):Int))] (Ai (zM (i:=wc) (by have:=zg xJ;omega)) (Ai (app_none (te:=zR) (gO:=zw [(1,⟨[.agg [I yM.lo,I yM.hi]],2,false⟩),(2,⟨[.agg [I xd.lo,I xd.hi]],2,false⟩)]) (nxt:=3) (f:=Sn.D) (sz:=2) (d:=.sl true [] 0 none) ((zb yM xd).1) h16 rfl) (Ai (show ((zb yM xd).2)=false from rfl) (Ai (T_ranges_Minus_1 yM xd) (Ai (zS (s:=yA) (f:=Sn.D) (k:=2) xJ) (Ai (zT xJ) trivial)))))) (ih (wc+1) (zi xJ) (zg xJ) (by omega) (by omega) (by omega)) (by kernel_rfl)
  |false =>
   exact zz (ks:=[1,2,7,9,14,15,16,20,21,22]) (st':=(sd149 a xo yA yM wc xd)) [.dec true,.el (.agg [I xd.lo,I xd.hi]),.pure (.tup [.sl (((zb yM xd).1).nl) ((((zb yM xd).1).l).map Sn.D) (zsl (((zb yM xd).1).nl) 2) none,B ((zb yM xd).2)]),.dec false,.op (some 35) ⟨.lsl 3 0 ((((zb yM xd).1).l).length) 2 none,[(3,some ⟨(((zb yM xd).1).l).map Sn.D,2,false⟩)],[],4⟩,.rw 37 (I ((wc+1:Nat):Int))] (Ai (zM (i:=wc) (by have:=zg xJ;omega)) (Ai (app_newD (te:=zR) (gO:=zw [(1,⟨[.agg [I yM.lo,I yM.hi]],2,false⟩),(2,⟨[.agg [I xd.lo,I xd.hi]],2,false⟩)]) (nxt:=3) (els0:=[]) (sz0:=0) (cap0:=none) z7 ((zb yM xd).1) h16 rfl (by kernel_rfl) (by decide) ⟨by simp only [zR,big]<;>(first|assumption|omega|(exact zF (by omega) (by omega))|(exact zt (by omega))|(exact zm (by omega))|(exact zu (by omega))|(exact zn (by omega))|(exact zl _ (by omega))|(simp only [zd] at *<;>omega)|(simp only [zv,GS.some_l,length_set,length_append,length_cons,length_nil] at *<;>first|assumption|omega)|(simp only [zv,GS.some_l,length_set,length_append,length_cons,length_nil,zd] at *<;>first|assumption|omega)|(simp at *<;>omega)),by simp only [big]<;>(first|assumption|omega|(exact zF (by omega) (by omega))|(exact zt (by omega))|(exact zm (by omega))|(exact zu (by omega))|(exact zn (by omega))|(exact zl _ (by omega))|(simp only [zd] at *<;>omega)|(simp only [zv,GS.some_l,length_set,length_append,length_cons,length_nil] at *<;>first|assumption|omega)|(simp only [zv,GS.some_l,length_set,length_append,length_cons,length_nil,zd] at *<;>first|assumption|omega)|(simp at *<;>omega))⟩) (Ai (show ((zb yM xd).2)=false from rfl) (Ai (T_ranges_Minus_1 yM xd) (Ai (zS (s:=yA) (f:=Sn.D) (k:=2) xJ) (Ai (zT xJ) trivial)))))) (by kernel_rfl) (by (simp only [sd149,go_sem,length_set,Nat.reduceAdd,Nat.reduceEqDiff,Nat.reduceLT,Nat.reduceLeDiff,bI2,ze.idsL,ze.renL,ze.snapAll,z7.idsL,z7.renL,z7.snapAll])<;>rfl) (lp_ranges_pairs_6p7a a xo yA yM _ (wc+1) (((zb yM xd).1).l) (zi xJ) (zg xJ) (by omega) (by omega) (by omega) (by omega)) (by kernel_rfl)
theorem ivt_ranges_pairs_6p7 (a:GS Sn) (xo:Nat) (yA:GS Sn) (yM:Sn):∀(xu:List Sn) (wc:Nat) (xJ:yA.l.drop wc=xu) (hi6p7:wc≤yA.l.length) (xO:yA.l.length≤65) (wd:xo < 64) (hL6p7:yA.l.length≤1099511627776),iv_ranges_pairs_6p7 a xo yA yM (ranges_pairs_6p7 yM xu):=by
 intro xu
 induction xu with
 |nil =>
  intro wc xJ hi6p7 xO wd hL6p7
  unfold ranges_pairs_6p7
  obtain rfl:wc=yA.l.length:=zW xJ hi6p7
  exact trivial
 |cons xd xu ih =>
  intro wc xJ hi6p7 xO wd hL6p7
  have hlt6p7:=zg xJ
  have hlx:=minus1_len yM xd
  unfold ranges_pairs_6p7
  cases h16:(((zb yM xd).1).l).isEmpty with
  |true =>
   exact ih (wc+1) (zi xJ) (zg xJ) (by omega) (by omega) (by omega)
  |false =>
   exact ivt_ranges_pairs_6p7a a xo yA yM _ (wc+1) (((zb yM xd).1).l) (zi xJ) (zg xJ) (by omega) (by omega) (by omega) (by omega)

def sd151 (a:GS Sn) (xo:Nat) (yA:GS Sn) (yM:Sn) (yX:List Sn):St:=⟨40,[(16,I ((xo+1:Nat):Int)),(38,I ((xo+1:Nat):Int)),(23,B false),(1,.sl yA.nl (yA.l.map Sn.D) (zsl yA.nl 2) none),(2,.fn (.func 97) [] []),(7,.lsl 1 0 yX.length 2 none),(9,.lref 2 0 2 0),(14,.sl a.nl (a.l.map Sn.D) (zsl a.nl 2) none),(15,I (a.l.length:Int)),(16,I (xo:Int)),(20,.sl yA.nl (yA.l.map Sn.D) (zsl yA.nl 2) none),(21,I (yA.l.length:Int)),(22,I (yA.l.length:Int))],[(1,⟨yX.map Sn.D,2,false⟩),(2,⟨[.agg [I yM.lo,I yM.hi]],2,false⟩)],3,1⟩

def sd142 (a:GS Sn) (xo:Nat) (yA:GS Sn) (yM:Sn) (yy:List Sn):St:=⟨40,[(1,.sl yA.nl (yA.l.map Sn.D) (zsl yA.nl 2) none),(2,.fn (.func 97) [] []),(7,.lsl 1 0 yy.length 2 none),(9,.lref 2 0 2 0),(14,.sl a.nl (a.l.map Sn.D) (zsl a.nl 2) none),(15,I (a.l.length:Int)),(16,I (xo:Int)),(20,.sl yA.nl (yA.l.map Sn.D) (zsl yA.nl 2) none),(21,I (yA.l.length:Int)),(22,I 0)],[(1,⟨yy.map Sn.D,2,false⟩),(2,⟨[.agg [I yM.lo,I yM.hi]],2,false⟩)],3,1⟩

def sd146 (a:GS Sn) (xo:Nat) (yA:GS Sn) (yM:Sn) (yX:List Sn):St:=⟨40,[(23,B false),(1,.sl yA.nl (yA.l.map Sn.D) (zsl yA.nl 2) none),(2,.fn (.func 97) [] []),(7,.lsl 1 0 yX.length 2 none),(9,.lref 2 0 2 0),(14,.sl a.nl (a.l.map Sn.D) (zsl a.nl 2) none),(15,I (a.l.length:Int)),(16,I (xo:Int)),(20,.sl yA.nl (yA.l.map Sn.D) (zsl yA.nl 2) none),(21,I (yA.l.length:Int)),(22,I (yA.l.length:Int))],[(1,⟨yX.map Sn.D,2,false⟩),(2,⟨[.agg [I yM.lo,I yM.hi]],2,false⟩)],3,1⟩

def sd141 (a:GS Sn) (xo:Nat) (yA:GS Sn) (yM:Sn) (yy:List Sn):St:=⟨40,[(22,I 0),(21,I (yA.l.length:Int)),(20,.sl yA.nl (yA.l.map Sn.D) (zsl yA.nl 2) none),(9,.lref 2 0 2 0),(19,.agg [I yM.lo,I yM.hi]),(18,.ptr (.agg [I yM.lo,I yM.hi])),(17,B true),(1,.sl yA.nl (yA.l.map Sn.D) (zsl yA.nl 2) none),(2,.fn (.func 97) [] []),(7,.lsl 1 0 yy.length 2 none),(14,.sl a.nl (a.l.map Sn.D) (zsl a.nl 2) none),(15,I (a.l.length:Int)),(16,I (xo:Int))],[(1,⟨yy.map Sn.D,2,false⟩),(2,⟨[.agg [I yM.lo,I yM.hi]],2,false⟩)],3,1⟩

def sd152 (a:GS Sn) (xo:Nat) (yA:GS Sn) (yM:Sn) (yQ:List Sn):St:=⟨40,[(16,I ((xo+1:Nat):Int)),(38,I ((xo+1:Nat):Int)),(23,B false),(1,.sl yA.nl (yA.l.map Sn.D) (zsl yA.nl 2) none),(2,.fn (.func 97) [] []),(7,.lsl 1 0 yQ.length 2 none),(9,.lref 2 0 2 0),(14,.sl a.nl (a.l.map Sn.D) (zsl a.nl 2) none),(15,I (a.l.length:Int)),(16,I (xo:Int)),(20,.sl yA.nl (yA.l.map Sn.D) (zsl yA.nl 2) none),(21,I (yA.l.length:Int)),(22,I (yA.l.length:Int))],[(1,⟨yQ.map Sn.D,2,false⟩),(2,⟨[.agg [I yM.lo,I yM.hi]],2,false⟩)],3,1⟩

def sd150 (a:GS Sn) (xo:Nat) (yA:GS Sn) (yM:Sn) (yQ:List Sn):St:=⟨40,[(23,B false),(1,.sl yA.nl (yA.l.map Sn.D) (zsl yA.nl 2) none),(2,.fn (.func 97) [] []),(7,.lsl 1 0 yQ.length 2 none),(9,.lref 2 0 2 0),(14,.sl a.nl (a.l.map Sn.D) (zsl a.nl 2) none),(15,I (a.l.length:Int)),(16,I (xo:Int)),(20,.sl yA.nl (yA.l.map Sn.D) (zsl yA.nl 2) none),(21,I (yA.l.length:Int)),(22,I (yA.l.length:Int))],[(1,⟨yQ.map Sn.D,2,false⟩),(2,⟨[.agg [I yM.lo,I yM.hi]],2,false⟩)],3,1⟩

def sd138 (a:GS Sn) (xo:Nat) (yA:GS Sn) (yM:Sn):St:=⟨40,[(23,B false),(1,.sl yA.nl (yA.l.map Sn.D) (zsl yA.nl 2) none),(2,.fn (.func 97) [] []),(7,.sl true [] 0 none),(9,.lref 1 0 2 0),(14,.sl a.nl (a.l.map Sn.D) (zsl a.nl 2) none),(15,I (a.l.length:Int)),(16,I (xo:Int)),(20,.sl yA.nl (yA.l.map Sn.D) (zsl yA.nl 2) none),(21,I (yA.l.length:Int)),(22,I (yA.l.length:Int))],[(1,⟨[.agg [I yM.lo,I yM.hi]],2,false⟩)],2,1⟩

inductive LR_ranges_pairs_3p3 where
 |x0 (yy:List Sn)
 |x1
instance:Inhabited LR_ranges_pairs_3p3:=⟨.x0 default⟩
def ranges_pairs_3p3a (yA:GS Sn):List Sn→(List Sn)→LR_ranges_pairs_3p3
 |[],yy=>.x0 yy
 |yM::xz,yy =>
  match yh yM yA.l yy with
  |.x0 yX =>
   ranges_pairs_3p3a yA xz yX
def ranges_pairs_3p3 (yA:GS Sn):List Sn→LR_ranges_pairs_3p3
 |[]=>.x1
 |yM::xz =>
  match ranges_pairs_6p7 yM yA.l with
  |.x0 yQ =>
   ranges_pairs_3p3a yA xz yQ
  |.x1 =>
   ranges_pairs_3p3 yA xz
def lr_ranges_pairs_3p3 (a:GS Sn) (yA:GS Sn):LR_ranges_pairs_3p3→Exit × St
 |.x0 yy=>((.exit 0),⟨40,[(17,B false),(1,.sl yA.nl (yA.l.map Sn.D) (zsl yA.nl 2) none),(2,.fn (.func 97) [] []),(7,.lsl 1 0 yy.length 2 none),(14,.sl a.nl (a.l.map Sn.D) (zsl a.nl 2) none),(15,I (a.l.length:Int)),(16,I (a.l.length:Int))],[(1,⟨yy.map Sn.D,2,false⟩)],2,1⟩)
 |.x1=>((.exit 0),⟨40,[(17,B false),(1,.sl yA.nl (yA.l.map Sn.D) (zsl yA.nl 2) none),(2,.fn (.func 97) [] []),(7,.sl true [] 0 none),(14,.sl a.nl (a.l.map Sn.D) (zsl a.nl 2) none),(15,I (a.l.length:Int)),(16,I (a.l.length:Int))],[],1,1⟩)
def iv_ranges_pairs_3p3 (a:GS Sn) (yA:GS Sn):LR_ranges_pairs_3p3→Prop
 |.x0 yy=>(yy.length≤65 * a.l.length)
 |.x1=>True
theorem lp_ranges_pairs_3p3a (a:GS Sn) (yA:GS Sn):∀(xz:List Sn) (xo:Nat) (yy:List Sn) (xR:a.l.drop xo=xz) (hi3p3:xo≤a.l.length) (xF:a.l.length≤64) (xO:yA.l.length≤65) (hg3p3_va3p3_0:yy.length≤65 * xo) (hL3p3:a.l.length≤1099511627776),(lim cfg).loop 87 lp87_3 ⟨40,[(1,.sl yA.nl (yA.l.map Sn.D) (zsl yA.nl 2) none),(2,.fn (.func 97) [] []),(7,.lsl 1 0 yy.length 2 none),(14,.sl a.nl (a.l.map Sn.D) (zsl a.nl 2) none),(15,I (a.l.length:Int)),(16,I (xo:Int))],[(1,⟨yy.map Sn.D,2,false⟩)],2,1⟩=some (lr_ranges_pairs_3p3 a yA (ranges_pairs_3p3a yA xz yy)):=by
 intro xz
 induction xz with
 |nil =>
  intro xo yy xR hi3p3 xF xO hg3p3_va3p3_0 hL3p3
  unfold ranges_pairs_3p3a
  obtain rfl:xo=a.l.length:=zW xR hi3p3
  exact zD [.dec false] (Ai (lt_no xR) trivial) (by kernel_rfl)
 |cons yM xz ih =>
  intro xo yy xR hi3p3 xF xO hg3p3_va3p3_0 hL3p3
  have hlt3p3:=zg xR
  unfold ranges_pairs_3p3a
  cases h12:yh yM yA.l yy with
  |x0 yX =>
   try dsimp only
   have hv_h12:=ivt_ranges_pairs_6p6 a xo yA yM yA.l 0 yy (List.drop_zero) (Nat.zero_le _) (by omega) (by omega) (by omega) (by omega)
   rw [h12] at hv_h12
   have wn:=hv_h12
   try dsimp only [iv_ranges_pairs_6p6] at wn
   exact zz (ks:=[1,2,7,14,15,16]) (st':=(sd151 a xo yA yM yX)) [.dec true,.el (.agg [I yM.lo,I yM.hi]),.rw 21 (I (yA.l.length:Int)),.gloop (sd142 a xo yA yM yy) (.exit 2) (sd146 a xo yA yM yX),.rw 38 (I ((xo+1:Nat):Int))] (Ai (zM (i:=xo) (by have:=zg xR;omega)) (Ai (y8 (q:=lr_ranges_pairs_6p6 a xo yA yM) (lp_ranges_pairs_6p6 a xo yA yM yA.l 0 yy (List.drop_zero) (Nat.zero_le _) (by omega) (by omega) (by omega) (by omega)) h12) (Ai (gc_of (C:=cfg) (f:=87) (a:=lp87_6) (ks:=[1,2,7,9,14,15,16,20,21,22]) (st:=(sd141 a xo yA yM yy)) (st1:=(sd142 a xo yA yM yy)) (by kernel_rfl) (by (simp only [sd141,sd142,go_sem,length_set,Nat.reduceAdd,Nat.reduceEqDiff,Nat.reduceLT,Nat.reduceLeDiff,bI2,ze.idsL,ze.renL,ze.snapAll,z7.idsL,z7.renL,z7.snapAll])<;>rfl)) (Ai (zk Sn.D yA) (Ai (zS (s:=a) (f:=Sn.D) (k:=2) xR) (Ai (zT xR) trivial)))))) (by kernel_rfl) (by (simp only [sd151,go_sem,length_set,Nat.reduceAdd,Nat.reduceEqDiff,Nat.reduceLT,Nat.reduceLeDiff,bI2,ze.idsL,ze.renL,ze.snapAll,z7.idsL,z7.renL,z7.snapAll])<;>rfl) (ih (xo+1) yX (zi xR) (zg xR) (by omega) (by omega) (by omega) (by omega)) (by kernel_rfl)
theorem ivt_ranges_pairs_3p3a (a:GS Sn) (yA:GS Sn):∀(xz:List Sn) (xo:Nat) (yy:List Sn) (xR:a.l.drop xo=xz) (hi3p3:xo≤a.l.length) (xF:a.l.length≤64) (xO:yA.l.length≤65) (hg3p3_va3p3_0:yy.length≤65 * xo) (hL3p3:a.l.length≤1099511627776),iv_ranges_pairs_3p3 a yA (ranges_pairs_3p3a yA xz yy):=by
 intro xz
 induction xz with
 |nil =>
  intro xo yy xR hi3p3 xF xO hg3p3_va3p3_0 hL3p3
  unfold ranges_pairs_3p3a
  obtain rfl:xo=a.l.length:=zW xR hi3p3
  exact hg3p3_va3p3_0
 |cons yM xz ih =>
  intro xo yy xR hi3p3 xF xO hg3p3_va3p3_0 hL3p3
  have hlt3p3:=zg xR
  unfold ranges_pairs_3p3a
  cases h12:yh yM yA.l yy with
  |x0 yX =>
   try dsimp only
   have hv_h12:=ivt_ranges_pairs_6p6 a xo yA yM yA.l 0 yy (List.drop_zero) (Nat.zero_le _) (by omega) (by omega) (by omega) (by omega)
   rw [h12] at hv_h12
   have wn:=hv_h12
   try dsimp only [iv_ranges_pairs_6p6] at wn
   exact ih (xo+1) yX (zi xR) (zg xR) (by omega) (by omega) (by omega) (by omega)
theorem lp_ranges_pairs_3p3 (a:GS Sn) (yA:GS Sn):∀(xz:List Sn) (xo:Nat) (xR:a.l.drop xo=xz) (hi3p3:xo≤a.l.length) (xF:a.l.length≤64) (xO:yA.l.length≤65) (hL3p3:a.l.length≤1099511627776),(lim cfg).loop 87 lp87_3 ⟨40,[(1,.sl yA.nl (yA.l.map Sn.D) (zsl yA.nl 2) none),(2,.fn (.func 97) [] []),(7,.sl true [] 0 none),(14,.sl a.nl (a.l.map Sn.D) (zsl a.nl 2) none),(15,I (a.l.length:Int)),(16,I (xo:Int))],[],1,1⟩=some (lr_ranges_pairs_3p3 a yA (ranges_pairs_3p3 yA xz)):=by
 intro xz
 induction xz with
 |nil =>
  intro xo xR hi3p3 xF xO hL3p3
  unfold ranges_pairs_3p3
  obtain rfl:xo=a.l.length:=zW xR hi3p3
  exact zD [.dec false] (Ai (lt_no xR) trivial) (by kernel_rfl)
 |cons yM xz ih =>
  intro xo xR hi3p3 xF xO hL3p3
  have hlt3p3:=zg xR
  unfold ranges_pairs_3p3
  cases h17:ranges_pairs_6p7 yM yA.l with
  |x0 yQ =>
   try dsimp only
   have hv_h17:=ivt_ranges_pairs_6p7 a xo yA yM yA.l 0 (List.drop_zero) (Nat.zero_le _) (by omega) (by omega) (by omega)
   rw [h17] at hv_h17
   have wo:=hv_h17
   try dsimp only [iv_ranges_pairs_6p7] at wo
   exact zz (ks:=[1,2,7,14,15,16]) (st':=(sd152 a xo yA yM yQ)) [.dec true,.el (.agg [I yM.lo,I yM.hi]),.rw 21 (I (yA.l.length:Int)),.loop (.exit 2) (sd150 a xo yA yM yQ),.rw 38 (I ((xo+1:Nat):Int))] (Ai (zM (i:=xo) (by have:=zg xR;omega)) (Ai (y8 (q:=lr_ranges_pairs_6p7 a xo yA yM) (lp_ranges_pairs_6p7 a xo yA yM yA.l 0 (List.drop_zero) (Nat.zero_le _) (by omega) (by omega) (by omega)) h17) (Ai (zk Sn.D yA) (Ai (zS (s:=a) (f:=Sn.D) (k:=2) xR) (Ai (zT xR) trivial))))) (by kernel_rfl) (by (simp only [sd152,go_sem,length_set,Nat.reduceAdd,Nat.reduceEqDiff,Nat.reduceLT,Nat.reduceLeDiff,bI2,ze.idsL,ze.renL,ze.snapAll,z7.idsL,z7.renL,z7.snapAll])<;>rfl) (lp_ranges_pairs_3p3a a yA _ (xo+1) yQ (zi xR) (zg xR) (by omega) (by omega) (by omega) (by omega)) (by kernel_rfl)
  |x1 =>
   try dsimp only
   exact po_turn [.dec true,.el (.agg [I yM.lo,I yM.hi]),.rw 21 (I (yA.l.length:Int)),.loop (.exit 2) (sd138 a xo yA yM),.rw 38 (I ((xo+1:Nat):Int))] (Ai (zM (i:=xo) (by have:=zg xR;omega)) (Ai (y8 (q:=lr_ranges_pairs_6p7 a xo yA yM) (lp_ranges_pairs_6p7 a xo yA yM yA.l 0 (List.drop_zero) (Nat.zero_le _) (by omega) (by omega) (by omega)) h17) (Ai (zk Sn.D yA) (Ai (zS (s:=a) (f:=Sn.D) (k:=2) xR) (Ai (zT xR) trivial))))) (ih (xo+1) (zi xR) (zg xR) (by omega) (by omega) (by omega)) (by kernel_rfl)
theorem ivt_ranges_pairs_3p3 (a:GS Sn) (yA:GS Sn):∀(xz:List Sn) (xo:Nat) (xR:a.l.drop xo=xz) (hi3p3:xo≤a.l.length) (xF:a.l.length≤64) (xO:yA.l.length≤65) (hL3p3:a.l.length≤1099511627776),iv_ranges_pairs_3p3 a yA (ranges_pairs_3p3 yA xz):=by
 intro xz
 induction xz with
 |nil =>
  intro xo xR hi3p3 xF xO hL3p3
  unfold ranges_pairs_3p3
  obtain rfl:xo=a.l.length:=zW xR hi3p3
  exact trivial
 |cons yM xz ih =>
  intro xo xR hi3p3 xF xO hL3p3
  have hlt3p3:=zg xR
  unfold ranges_pairs_3p3
  cases h17:ranges_pairs_6p7 yM yA.l with
  |x0 yQ =>
   try dsimp only
   have hv_h17:=ivt_ranges_pairs_6p7 a xo yA yM yA.l 0 (List.drop_zero) (Nat.zero_le _) (by omega) (by omega) (by omega)
   rw [h17] at hv_h17
   have wo:=hv_h17
   try dsimp only [iv_ranges_pairs_6p7] at wo
   exact ivt_ranges_pairs_3p3a a yA _ (xo+1) yQ (zi xR) (zg xR) (by omega) (by omega) (by omega) (by omega)
  |x1 =>
   try dsimp only
   exact ih (xo+1) (zi xR) (zg xR) (by omega) (by omega) (by omega)

def y5 (a:GS Sn) (b:GS Sn):(GS Sn) × Int :=
 bif ((zJ (GS.some [a,b])) != 0) then
  (GS.nil,(zJ (GS.some [a,b])))
 else
  match ranges_pairs_3p3 (zc b) a.l with
  |.x0 yy =>
   match zY (zB zx yy) 0 with
   |.x0 yu =>
    bif decide ((yu.length:Int)>64) then
     (GS.nil,2)
    else
     (GS.some yu,0)
   |.x1 yY yN yu =>
    (GS.nil,2)
   |.x2 yY yN yu =>
    (GS.nil,2)
   |.x3 =>
    (GS.nil,0)
   |.x4 yY yN =>
    (GS.nil,2)
   |.x5 yY yN =>
    (GS.nil,2)
  |.x1 =>
   (GS.nil,0)

def ranges_Minus_o1 (a:GS Sn) (b:GS Sn):List Ora:=[.pure (I (zJ (GS.some [a,b]))),.dec false,.pure (.sl ((zc b).nl) (((zc b).l).map Sn.D) (zsl ((zc b).nl) 2) none)]

def sd153 (a:GS Sn) (b:GS Sn) (yy:List Sn):St:=⟨40,[(17,B false),(1,.sl ((zc b).nl) (((zc b).l).map Sn.D) (zsl ((zc b).nl) 2) none),(2,.fn (.func 97) [] []),(7,.lsl 1 0 yy.length 2 none),(14,.sl a.nl (a.l.map Sn.D) (zsl a.nl 2) none),(15,I (a.l.length:Int)),(16,I (a.l.length:Int))],[(1,⟨yy.map Sn.D,2,false⟩)],2,1⟩

def sd155 (yy:List Sn):St:=⟨65,[(4,.sl true [] 0 none),(10,.lsl 1 0 yy.length 2 none),(11,I (yy.length:Int)),(12,I 0)],[(1,⟨(zB zx yy).map Sn.D,2,false⟩)],2,2⟩

def sd156 (yy:List Sn) (yu:List Sn):St:=⟨65,[(13,B false),(4,.lsl 2 0 yu.length 2 none),(10,.lsl 1 0 yy.length 2 none),(11,I (yy.length:Int)),(12,I (((zB zx yy).length:Nat):Int))],[(1,⟨(zB zx yy).map Sn.D,2,false⟩),(2,⟨yu.map Sn.D,2,false⟩)],3,2⟩

def sd154 (yy:List Sn):St:=⟨65,[(12,I 0),(11,I (yy.length:Int)),(10,.lsl 1 0 yy.length 2 none),(4,.sl true [] 0 none),(9,.tup []),(8,.lsl 1 0 yy.length 2 none),(3,I 0),(2,.sl true [] 0 none),(0,.lsl 1 0 yy.length 2 none)],[(1,⟨(zB zx yy).map Sn.D,2,false⟩)],2,2⟩

def sd157 (yy:List Sn) (yu:List Sn) (yY:Nat) (yN:Sn):St:=⟨65,[(3,I 2),(2,.sl true [] 0 none),(25,B true),(24,B true),(23,B false),(22,I yN.hi),(21,.lref 3 0 2 1),(20,B false),(19,B false),(18,B true),(17,I yN.lo),(16,.lref 3 0 2 0),(6,.lref 3 0 2 0),(15,.agg [I yN.lo,I yN.hi]),(14,.lref 1 yY 2 0),(13,B true),(4,.lsl 2 0 yu.length 2 none),(10,.lsl 1 0 yy.length 2 none),(11,I (yy.length:Int)),(12,I (yY:Int))],[(1,⟨(zB zx yy).map Sn.D,2,false⟩),(2,⟨yu.map Sn.D,2,false⟩),(3,⟨[.agg [I yN.lo,I yN.hi]],2,false⟩)],4,2⟩

def sd158 (yy:List Sn) (yu:List Sn) (yY:Nat) (yN:Sn):St:=⟨65,[(3,I 2),(2,.sl true [] 0 none),(25,B true),(24,.tup []),(23,.tup []),(22,.tup []),(21,.tup []),(20,B true),(19,B true),(18,B false),(17,I yN.lo),(16,.lref 3 0 2 0),(6,.lref 3 0 2 0),(15,.agg [I yN.lo,I yN.hi]),(14,.lref 1 yY 2 0),(13,B true),(4,.lsl 2 0 yu.length 2 none),(10,.lsl 1 0 yy.length 2 none),(11,I (yy.length:Int)),(12,I (yY:Int))],[(1,⟨(zB zx yy).map Sn.D,2,false⟩),(2,⟨yu.map Sn.D,2,false⟩),(3,⟨[.agg [I yN.lo,I yN.hi]],2,false⟩)],4,2⟩

def sd159 (yy:List Sn):St:=⟨65,[(13,B false),(4,.sl true [] 0 none),(10,.lsl 1 0 yy.length 2 none),(11,I (yy.length:Int)),(12,I (((zB zx yy).length:Nat):Int))],[(1,⟨(zB zx yy).map Sn.D,2,false⟩)],2,2⟩

def sd160 (yy:List Sn) (yY:Nat) (yN:Sn):St:=⟨65,[(3,I 2),(2,.sl true [] 0 none),(25,B true),(24,B true),(23,B false),(22,I yN.hi),(21,.lref 2 0 2 1),(20,B false),(19,B false),(18,B true),(17,I yN.lo),(16,.lref 2 0 2 0),(6,.lref 2 0 2 0),(15,.agg [I yN.lo,I yN.hi]),(14,.lref 1 yY 2 0),(13,B true),(4,.sl true [] 0 none),(10,.lsl 1 0 yy.length 2 none),(11,I (yy.length:Int)),(12,I (yY:Int))],[(1,⟨(zB zx yy).map Sn.D,2,false⟩),(2,⟨[.agg [I yN.lo,I yN.hi]],2,false⟩)],3,2⟩

def sd161 (yy:List Sn) (yY:Nat) (yN:Sn):St:=⟨65,[(3,I 2),(2,.sl true [] 0 none),(25,B true),(24,.tup []),(23,.tup []),(22,.tup []),(21,.tup []),(20,B true),(19,B true),(18,B false),(17,I yN.lo),(16,.lref 2 0 2 0),(6,.lref 2 0 2 0),(15,.agg [I yN.lo,I yN.hi]),(14,.lref 1 yY 2 0),(13,B true),(4,.sl true [] 0 none),(10,.lsl 1 0 yy.length 2 none),(11,I (yy.length:Int)),(12,I (yY:Int))],[(1,⟨(zB zx yy).map Sn.D,2,false⟩),(2,⟨[.agg [I yN.lo,I yN.hi]],2,false⟩)],3,2⟩

def sd162 (a:GS Sn) (b:GS Sn):St:=⟨40,[(17,B false),(1,.sl ((zc b).nl) (((zc b).l).map Sn.D) (zsl ((zc b).nl) 2) none),(2,.fn (.func 97) [] []),(7,.sl true [] 0 none),(14,.sl a.nl (a.l.map Sn.D) (zsl a.nl 2) none),(15,I (a.l.length:Int)),(16,I (a.l.length:Int))],[],1,1⟩

theorem T_ranges_Minus (a:GS Sn) (b:GS Sn) (hLa:a.l.length≤9223372036854775807) (hLb:b.l.length≤9223372036854775807) (hL_b:b.l.length≤1099511627776):(lim cfg).pure 57 [GS.D Sn.D 2 a,GS.D Sn.D 2 b]=some (.tup [GS.D Sn.D 2 ((y5 a b).1),I ((y5 a b).2)]):=by
 unfold y5
 have p1:=(T_ranges_check (GS.some [a,b]) (by exact zF (by omega) (by omega)) (by simp only [zv,GS.some_l,length_set,length_append,length_cons,length_nil] at *<;>first|assumption|omega))
 cases h1:((zJ (GS.some [a,b])) != 0) with
 |true =>
  have g1:=bne_true h1
  exact zp [.pure (I (zJ (GS.some [a,b]))),.dec true] (Ai h1 (Ai p1 trivial)) (by kernel_rfl)
 |false =>
  have g1:=check2_len (bne_false h1)
  have p2:=(T_ranges_outside b (by omega) (by omega))
  cases h18:ranges_pairs_3p3 (zc b) a.l with
  |x0 yy =>
   try dsimp only
   have hv_h18:=ivt_ranges_pairs_3p3 a (zc b) a.l 0 (List.drop_zero) (Nat.zero_le _) (by omega) (by exact zl _ (by omega)) (by omega)
   rw [h18] at hv_h18
   have wq:=hv_h18
   try dsimp only [iv_ranges_pairs_3p3] at wq
   have p3:=(show (lim cfg).inl 87 [.sl a.nl (a.l.map Sn.D) (zsl a.nl 2) none,.sl ((zc b).nl) (((zc b).l).map Sn.D) (zsl ((zc b).nl) 2) none,.fn (.func 97) [] []] [] 1=some (.lsl 1 0 yy.length 2 none,[(1,⟨yy.map Sn.D,2,false⟩)],2) from po_inl [.rw 15 (I (a.l.length:Int)),.loop (.exit 0) (sd153 a b yy)] (Ai (y8 (q:=lr_ranges_pairs_3p3 a (zc b)) (lp_ranges_pairs_3p3 a (zc b) a.l 0 (List.drop_zero) (Nat.zero_le _) (by omega) (by exact zl _ (by omega)) (by omega)) h18) (Ai (zk Sn.D a) trivial)) (by kernel_rfl))
   cases h19:zY (zB zx yy) 0 with
   |x0 yu =>
    try dsimp only
    have xY:=ivt_ranges_gathered_4p1 yy (zB zx yy) (zB zx yy) 0 (List.drop_zero) (Nat.zero_le _) (by simp only [zv,GS.some_l,length_set,length_append,length_cons,length_nil] at *<;>first|assumption|omega) (by simp only [zv,GS.some_l,length_set,length_append,length_cons,length_nil] at *<;>first|assumption|omega)
    rw [h19] at xY
    obtain ⟨xW,w6⟩:=xY
    try dsimp only [zP] at xW
    try dsimp only [zP] at w6
    cases h20:decide ((yu.length:Int)>64) with
    |true =>
     have g20:=of_decide_eq_true h20
     exact zp ((ranges_Minus_o1 a b)++[.inl (.lsl 1 0 yy.length 2 none) [(1,⟨yy.map Sn.D,2,false⟩)] 2,.inlS [1] (.tup [.sl true [] 0 none,I 2]) [(1,⟨(zB zx yy).map Sn.D,2,false⟩),(2,⟨yu.map Sn.D,2,false⟩)] 3]) (Ai (Ai (show zo [(0,⟨[.sl a.nl (a.l.map Sn.D) (zsl a.nl 2) none,.sl b.nl (b.l.map Sn.D) (zsl b.nl 2) none],1,false⟩),(1,⟨yy.map Sn.D,2,false⟩)] 256 [1] []=some [1] from (by (simp only [zo,go_sem,length_set,Nat.reduceAdd,Nat.reduceEqDiff,Nat.reduceLT,Nat.reduceLeDiff,bI2,ze.idsL,ze.renL,ze.snapAll,z7.idsL,z7.renL,z7.snapAll])<;>rfl)) (show (lim cfg).inl 69 [.lsl 1 0 yy.length 2 none] [(1,⟨yy.map Sn.D,2,false⟩)] 2=some (.tup [.sl true [] 0 none,I 2],[(1,⟨(zB zx yy).map Sn.D,2,false⟩),(2,⟨yu.map Sn.D,2,false⟩)],3) from po_inl [.inlS [1] (.tup []) [(1,⟨(zB zx yy).map Sn.D,2,false⟩)] 2,.gloop (sd155 yy) (.exit 0) (sd156 yy yu),.dec true] (Ai h20 (Ai (y8 (q:=zH yy (zB zx yy)) (lp_ranges_gathered_4p1 yy (zB zx yy) (zB zx yy) 0 (List.drop_zero) (Nat.zero_le _) (by simp only [zv,GS.some_l,length_set,length_append,length_cons,length_nil] at *<;>first|assumption|omega) (by simp only [zv,GS.some_l,length_set,length_append,length_cons,length_nil] at *<;>first|assumption|omega)) h19) (Ai (gc_of (C:=cfg) (f:=69) (a:=lp69_4) (ks:=[4,10,11,12]) (st:=(sd154 yy)) (st1:=(sd155 yy)) (by kernel_rfl) (by (simp only [sd154,sd155,go_sem,length_set,Nat.reduceAdd,Nat.reduceEqDiff,Nat.reduceLT,Nat.reduceLeDiff,bI2,ze.idsL,ze.renL,ze.snapAll,z7.idsL,z7.renL,z7.snapAll])<;>rfl)) (Ai (Ai (show zo [(1,⟨yy.map Sn.D,2,false⟩)] 256 [1] []=some [1] from (by (simp only [zo,go_sem,length_set,Nat.reduceAdd,Nat.reduceEqDiff,Nat.reduceLT,Nat.reduceLeDiff,bI2,ze.idsL,ze.renL,ze.snapAll,z7.idsL,z7.renL,z7.snapAll])<;>rfl)) (T_sort 1 2 none yy (by omega))) trivial)))) (by kernel_rfl))) (Ai p3 (Ai p2 (Ai h1 (Ai p1 trivial))))) (by kernel_rfl)
    |false =>
     have g20:=of_decide_eq_false h20
     exact po_pureS ((ranges_Minus_o1 a b)++[.inl (.lsl 1 0 yy.length 2 none) [(1,⟨yy.map Sn.D,2,false⟩)] 2,.inlS [1] (.tup [.lsl 2 0 yu.length 2 none,I 0]) [(1,⟨(zB zx yy).map Sn.D,2,false⟩),(2,⟨yu.map Sn.D,2,false⟩)] 3]) [(2,.sl false (yu.map Sn.D) 2 none,[2])] (Ai (snap_row (gO:=zw [(0,⟨[.sl a.nl (a.l.map Sn.D) (zsl a.nl 2) none,.sl b.nl (b.l.map Sn.D) (zsl b.nl 2) none],1,false⟩),(1,⟨(zB zx yy).map Sn.D,2,false⟩),(2,⟨yu.map Sn.D,2,false⟩)]) (o:=2) (len:=yu.length) (cap:=none) (fz:=false) z7 yu (by kernel_rfl) (by omega)) (Ai (Ai (show zo [(0,⟨[.sl a.nl (a.l.map Sn.D) (zsl a.nl 2) none,.sl b.nl (b.l.map Sn.D) (zsl b.nl 2) none],1,false⟩),(1,⟨yy.map Sn.D,2,false⟩)] 256 [1] []=some [1] from (by (simp only [zo,go_sem,length_set,Nat.reduceAdd,Nat.reduceEqDiff,Nat.reduceLT,Nat.reduceLeDiff,bI2,ze.idsL,ze.renL,ze.snapAll,z7.idsL,z7.renL,z7.snapAll])<;>rfl)) (show (lim cfg).inl 69 [.lsl 1 0 yy.length 2 none] [(1,⟨yy.map Sn.D,2,false⟩)] 2=some (.tup [.lsl 2 0 yu.length 2 none,I 0],[(1,⟨(zB zx yy).map Sn.D,2,false⟩),(2,⟨yu.map Sn.D,2,false⟩)],3) from po_inl [.inlS [1] (.tup []) [(1,⟨(zB zx yy).map Sn.D,2,false⟩)] 2,.gloop (sd155 yy) (.exit 0) (sd156 yy yu),.dec false] (Ai h20 (Ai (y8 (q:=zH yy (zB zx yy)) (lp_ranges_gathered_4p1 yy (zB zx yy) (zB zx yy) 0 (List.drop_zero) (Nat.zero_le _) (by simp only [zv,GS.some_l,length_set,length_append,length_cons,length_nil] at *<;>first|assumption|omega) (by simp only [zv,GS.some_l,length_set,length_append,length_cons,length_nil] at *<;>first|assumption|omega)) h19) (Ai (gc_of (C:=cfg) (f:=69) (a:=lp69_4) (ks:=[4,10,11,12]) (st:=(sd154 yy)) (st1:=(sd155 yy)) (by kernel_rfl) (by (simp only [sd154,sd155,go_sem,length_set,Nat.reduceAdd,Nat.reduceEqDiff,Nat.reduceLT,Nat.reduceLeDiff,bI2,ze.idsL,ze.renL,ze.snapAll,z7.idsL,z7.renL,z7.snapAll])<;>rfl)) (Ai (Ai (show zo [(1,⟨yy.map Sn.D,2,false⟩)] 256 [1] []=some [1] from (by (simp only [zo,go_sem,length_set,Nat.reduceAdd,Nat.reduceEqDiff,Nat.reduceLT,Nat.reduceLeDiff,bI2,ze.idsL,ze.renL,ze.snapAll,z7.idsL,z7.renL,z7.snapAll])<;>rfl)) (T_sort 1 2 none yy (by omega))) trivial)))) (by kernel_rfl))) (Ai p3 (Ai p2 (Ai h1 (Ai p1 trivial)))))) (by kernel_rfl)
   |x1 yY yN yu =>
    try dsimp only
    have xY:=ivt_ranges_gathered_4p1 yy (zB zx yy) (zB zx yy) 0 (List.drop_zero) (Nat.zero_le _) (by simp only [zv,GS.some_l,length_set,length_append,length_cons,length_nil] at *<;>first|assumption|omega) (by simp only [zv,GS.some_l,length_set,length_append,length_cons,length_nil] at *<;>first|assumption|omega)
    rw [h19] at xY
    obtain ⟨xW,w6⟩:=xY
    try dsimp only [zP] at xW
    try dsimp only [zP] at w6
    exact zp ((ranges_Minus_o1 a b)++[.inl (.lsl 1 0 yy.length 2 none) [(1,⟨yy.map Sn.D,2,false⟩)] 2,.inlS [1] (.tup [.sl true [] 0 none,I 2]) [(1,⟨(zB zx yy).map Sn.D,2,false⟩),(2,⟨yu.map Sn.D,2,false⟩),(3,⟨[.agg [I yN.lo,I yN.hi]],2,false⟩)] 4]) (Ai (Ai (show zo [(0,⟨[.sl a.nl (a.l.map Sn.D) (zsl a.nl 2) none,.sl b.nl (b.l.map Sn.D) (zsl b.nl 2) none],1,false⟩),(1,⟨yy.map Sn.D,2,false⟩)] 256 [1] []=some [1] from (by (simp only [zo,go_sem,length_set,Nat.reduceAdd,Nat.reduceEqDiff,Nat.reduceLT,Nat.reduceLeDiff,bI2,ze.idsL,ze.renL,ze.snapAll,z7.idsL,z7.renL,z7.snapAll])<;>rfl)) (show (lim cfg).inl 69 [.lsl 1 0 yy.length 2 none] [(1,⟨yy.map Sn.D,2,false⟩)] 2=some (.tup [.sl true [] 0 none,I 2],[(1,⟨(zB zx yy).map Sn.D,2,false⟩),(2,⟨yu.map Sn.D,2,false⟩),(3,⟨[.agg [I yN.lo,I yN.hi]],2,false⟩)],4) from po_inl [.inlS [1] (.tup []) [(1,⟨(zB zx yy).map Sn.D,2,false⟩)] 2,.gloop (sd155 yy) .ret (sd157 yy yu yY yN)] (Ai (y8 (q:=zH yy (zB zx yy)) (lp_ranges_gathered_4p1 yy (zB zx yy) (zB zx yy) 0 (List.drop_zero) (Nat.zero_le _) (by simp only [zv,GS.some_l,length_set,length_append,length_cons,length_nil] at *<;>first|assumption|omega) (by simp only [zv,GS.some_l,length_set,length_append,length_cons,length_nil] at *<;>first|assumption|omega)) h19) (Ai (gc_of (C:=cfg) (f:=69) (a:=lp69_4) (ks:=[4,10,11,12]) (st:=(sd154 yy)) (st1:=(sd155 yy)) (by kernel_rfl) (by (simp only [sd154,sd155,go_sem,length_set,Nat.reduceAdd,Nat.reduceEqDiff,Nat.reduceLT,Nat.reduceLeDiff,bI2,ze.idsL,ze.renL,ze.snapAll,z7.idsL,z7.renL,z7.snapAll])<;>rfl)) (Ai (Ai (show zo [(1,⟨yy.map Sn.D,2,false⟩)] 256 [1] []=some [1] from (by (simp only [zo,go_sem,length_set,Nat.reduceAdd,Nat.reduceEqDiff,Nat.reduceLT,Nat.reduceLeDiff,bI2,ze.idsL,ze.renL,ze.snapAll,z7.idsL,z7.renL,z7.snapAll])<;>rfl)) (T_sort 1 2 none yy (by omega))) trivial))) (by kernel_rfl))) (Ai p3 (Ai p2 (Ai h1 (Ai p1 trivial))))) (by kernel_rfl)
   |x2 yY yN yu =>
    try dsimp only
    have xY:=ivt_ranges_gathered_4p1 yy (zB zx yy) (zB zx yy) 0 (List.drop_zero) (Nat.zero_le _) (by simp only [zv,GS.some_l,length_set,length_append,length_cons,length_nil] at *<;>first|assumption|omega) (by simp only [zv,GS.some_l,length_set,length_append,length_cons,length_nil] at *<;>first|assumption|omega)
    rw [h19] at xY
    obtain ⟨xW,w6⟩:=xY
    try dsimp only [zP] at xW
    try dsimp only [zP] at w6
    exact zp ((ranges_Minus_o1 a b)++[.inl (.lsl 1 0 yy.length 2 none) [(1,⟨yy.map Sn.D,2,false⟩)] 2,.inlS [1] (.tup [.sl true [] 0 none,I 2]) [(1,⟨(zB zx yy).map Sn.D,2,false⟩),(2,⟨yu.map Sn.D,2,false⟩),(3,⟨[.agg [I yN.lo,I yN.hi]],2,false⟩)] 4]) (Ai (Ai (show zo [(0,⟨[.sl a.nl (a.l.map Sn.D) (zsl a.nl 2) none,.sl b.nl (b.l.map Sn.D) (zsl b.nl 2) none],1,false⟩),(1,⟨yy.map Sn.D,2,false⟩)] 256 [1] []=some [1] from (by (simp only [zo,go_sem,length_set,Nat.reduceAdd,Nat.reduceEqDiff,Nat.reduceLT,Nat.reduceLeDiff,bI2,ze.idsL,ze.renL,ze.snapAll,z7.idsL,z7.renL,z7.snapAll])<;>rfl)) (show (lim cfg).inl 69 [.lsl 1 0 yy.length 2 none] [(1,⟨yy.map Sn.D,2,false⟩)] 2=some (.tup [.sl true [] 0 none,I 2],[(1,⟨(zB zx yy).map Sn.D,2,false⟩),(2,⟨yu.map Sn.D,2,false⟩),(3,⟨[.agg [I yN.lo,I yN.hi]],2,false⟩)],4) from po_inl [.inlS [1] (.tup []) [(1,⟨(zB zx yy).map Sn.D,2,false⟩)] 2,.gloop (sd155 yy) .ret (sd158 yy yu yY yN)] (Ai (y8 (q:=zH yy (zB zx yy)) (lp_ranges_gathered_4p1 yy (zB zx yy) (zB zx yy) 0 (List.drop_zero) (Nat.zero_le _) (by simp only [zv,GS.some_l,length_set,length_append,length_cons,length_nil] at *<;>first|assumption|omega) (by simp only [zv,GS.some_l,length_set,length_append,length_cons,length_nil] at *<;>first|assumption|omega)) h19) (Ai (gc_of (C:=cfg) (f:=69) (a:=lp69_4) (ks:=[4,10,11,12]) (st:=(sd154 yy)) (st1:=(sd155 yy)) (by kernel_rfl) (by (simp only [sd154,sd155,go_sem,length_set,Nat.reduceAdd,Nat.reduceEqDiff,Nat.reduceLT,Nat.reduceLeDiff,bI2,ze.idsL,ze.renL,ze.snapAll,z7.idsL,z7.renL,z7.snapAll])<;>rfl)) (Ai (Ai (show zo [(1,⟨yy.map Sn.D,2,false⟩)] 256 [1] []=some [1] from (by (simp only [zo,go_sem,length_set,Nat.reduceAdd,Nat.reduceEqDiff,Nat.reduceLT,Nat.reduceLeDiff,bI2,ze.idsL,ze.renL,ze.snapAll,z7.idsL,z7.renL,z7.snapAll])<;>rfl)) (T_sort 1 2 none yy (by omega))) trivial))) (by kernel_rfl))) (Ai p3 (Ai p2 (Ai h1 (Ai p1 trivial))))) (by kernel_rfl)
   |x3 =>
    try dsimp only
    exact zp ((ranges_Minus_o1 a b)++[.inl (.lsl 1 0 yy.length 2 none) [(1,⟨yy.map Sn.D,2,false⟩)] 2,.inlS [1] (.tup [.sl true [] 0 none,I 0]) [(1,⟨(zB zx yy).map Sn.D,2,false⟩)] 2]) (Ai (Ai (show zo [(0,⟨[.sl a.nl (a.l.map Sn.D) (zsl a.nl 2) none,.sl b.nl (b.l.map Sn.D) (zsl b.nl 2) none],1,false⟩),(1,⟨yy.map Sn.D,2,false⟩)] 256 [1] []=some [1] from (by (simp only [zo,go_sem,length_set,Nat.reduceAdd,Nat.reduceEqDiff,Nat.reduceLT,Nat.reduceLeDiff,bI2,ze.idsL,ze.renL,ze.snapAll,z7.idsL,z7.renL,z7.snapAll])<;>rfl)) (show (lim cfg).inl 69 [.lsl 1 0 yy.length 2 none] [(1,⟨yy.map Sn.D,2,false⟩)] 2=some (.tup [.sl true [] 0 none,I 0],[(1,⟨(zB zx yy).map Sn.D,2,false⟩)],2) from po_inl [.inlS [1] (.tup []) [(1,⟨(zB zx yy).map Sn.D,2,false⟩)] 2,.gloop (sd155 yy) (.exit 0) (sd159 yy),.dec false] (Ai (Eq.refl false) (Ai (y8 (q:=zH yy (zB zx yy)) (lp_ranges_gathered_4p1 yy (zB zx yy) (zB zx yy) 0 (List.drop_zero) (Nat.zero_le _) (by simp only [zv,GS.some_l,length_set,length_append,length_cons,length_nil] at *<;>first|assumption|omega) (by simp only [zv,GS.some_l,length_set,length_append,length_cons,length_nil] at *<;>first|assumption|omega)) h19) (Ai (gc_of (C:=cfg) (f:=69) (a:=lp69_4) (ks:=[4,10,11,12]) (st:=(sd154 yy)) (st1:=(sd155 yy)) (by kernel_rfl) (by (simp only [sd154,sd155,go_sem,length_set,Nat.reduceAdd,Nat.reduceEqDiff,Nat.reduceLT,Nat.reduceLeDiff,bI2,ze.idsL,ze.renL,ze.snapAll,z7.idsL,z7.renL,z7.snapAll])<;>rfl)) (Ai (Ai (show zo [(1,⟨yy.map Sn.D,2,false⟩)] 256 [1] []=some [1] from (by (simp only [zo,go_sem,length_set,Nat.reduceAdd,Nat.reduceEqDiff,Nat.reduceLT,Nat.reduceLeDiff,bI2,ze.idsL,ze.renL,ze.snapAll,z7.idsL,z7.renL,z7.snapAll])<;>rfl)) (T_sort 1 2 none yy (by omega))) trivial)))) (by kernel_rfl))) (Ai p3 (Ai p2 (Ai h1 (Ai p1 trivial))))) (by kernel_rfl)
   |x4 yY yN =>
    try dsimp only
    exact zp ((ranges_Minus_o1 a b)++[.inl (.lsl 1 0 yy.length 2 none) [(1,⟨yy.map Sn.D,2,false⟩)] 2,.inlS [1] (.tup [.sl true [] 0 none,I 2]) [(1,⟨(zB zx yy).map Sn.D,2,false⟩),(2,⟨[.agg [I yN.lo,I yN.hi]],2,false⟩)] 3]) (Ai (Ai (show zo [(0,⟨[.sl a.nl (a.l.map Sn.D) (zsl a.nl 2) none,.sl b.nl (b.l.map Sn.D) (zsl b.nl 2) none],1,false⟩),(1,⟨yy.map Sn.D,2,false⟩)] 256 [1] []=some [1] from (by (simp only [zo,go_sem,length_set,Nat.reduceAdd,Nat.reduceEqDiff,Nat.reduceLT,Nat.reduceLeDiff,bI2,ze.idsL,ze.renL,ze.snapAll,z7.idsL,z7.renL,z7.snapAll])<;>rfl)) (show (lim cfg).inl 69 [.lsl 1 0 yy.length 2 none] [(1,⟨yy.map Sn.D,2,false⟩)] 2=some (.tup [.sl true [] 0 none,I 2],[(1,⟨(zB zx yy).map Sn.D,2,false⟩),(2,⟨[.agg [I yN.lo,I yN.hi]],2,false⟩)],3) from po_inl [.inlS [1] (.tup []) [(1,⟨(zB zx yy).map Sn.D,2,false⟩)] 2,.gloop (sd155 yy) .ret (sd160 yy yY yN)] (Ai (y8 (q:=zH yy (zB zx yy)) (lp_ranges_gathered_4p1 yy (zB zx yy) (zB zx yy) 0 (List.drop_zero) (Nat.zero_le _) (by simp only [zv,GS.some_l,length_set,length_append,length_cons,length_nil] at *<;>first|assumption|omega) (by simp only [zv,GS.some_l,length_set,length_append,length_cons,length_nil] at *<;>first|assumption|omega)) h19) (Ai (gc_of (C:=cfg) (f:=69) (a:=lp69_4) (ks:=[4,10,11,12]) (st:=(sd154 yy)) (st1:=(sd155 yy)) (by kernel_rfl) (by (simp only [sd154,sd155,go_sem,length_set,Nat.reduceAdd,Nat.reduceEqDiff,Nat.reduceLT,Nat.reduceLeDiff,bI2,ze.idsL,ze.renL,ze.snapAll,z7.idsL,z7.renL,z7.snapAll])<;>rfl)) (Ai (Ai (show zo [(1,⟨yy.map Sn.D,2,false⟩)] 256 [1] []=some [1] from (by (simp only [zo,go_sem,length_set,Nat.reduceAdd,Nat.reduceEqDiff,Nat.reduceLT,Nat.reduceLeDiff,bI2,ze.idsL,ze.renL,ze.snapAll,z7.idsL,z7.renL,z7.snapAll])<;>rfl)) (T_sort 1 2 none yy (by omega))) trivial))) (by kernel_rfl))) (Ai p3 (Ai p2 (Ai h1 (Ai p1 trivial))))) (by kernel_rfl)
   |x5 yY yN =>
    try dsimp only
    exact zp ((ranges_Minus_o1 a b)++[.inl (.lsl 1 0 yy.length 2 none) [(1,⟨yy.map Sn.D,2,false⟩)] 2,.inlS [1] (.tup [.sl true [] 0 none,I 2]) [(1,⟨(zB zx yy).map Sn.D,2,false⟩),(2,⟨[.agg [I yN.lo,I yN.hi]],2,false⟩)] 3]) (Ai (Ai (show zo [(0,⟨[.sl a.nl (a.l.map Sn.D) (zsl a.nl 2) none,.sl b.nl (b.l.map Sn.D) (zsl b.nl 2) none],1,false⟩),(1,⟨yy.map Sn.D,2,false⟩)] 256 [1] []=some [1] from (by (simp only [zo,go_sem,length_set,Nat.reduceAdd,Nat.reduceEqDiff,Nat.reduceLT,Nat.reduceLeDiff,bI2,ze.idsL,ze.renL,ze.snapAll,z7.idsL,z7.renL,z7.snapAll])<;>rfl)) (show (lim cfg).inl 69 [.lsl 1 0 yy.length 2 none] [(1,⟨yy.map Sn.D,2,false⟩)] 2=some (.tup [.sl true [] 0 none,I 2],[(1,⟨(zB zx yy).map Sn.D,2,false⟩),(2,⟨[.agg [I yN.lo,I yN.hi]],2,false⟩)],3) from po_inl [.inlS [1] (.tup []) [(1,⟨(zB zx yy).map Sn.D,2,false⟩)] 2,.gloop (sd155 yy) .ret (sd161 yy yY yN)] (Ai (y8 (q:=zH yy (zB zx yy)) (lp_ranges_gathered_4p1 yy (zB zx yy) (zB zx yy) 0 (List.drop_zero) (Nat.zero_le _) (by simp only [zv,GS.some_l,length_set,length_append,length_cons,length_nil] at *<;>first|assumption|omega) (by simp only [zv,GS.some_l,length_set,length_append,length_cons,length_nil] at *<;>first|assumption|omega)) h19) (Ai (gc_of (C:=cfg) (f:=69) (a:=lp69_4) (ks:=[4,10,11,12]) (st:=(sd154 yy)) (st1:=(sd155 yy)) (by kernel_rfl) (by (simp only [sd154,sd155,go_sem,length_set,Nat.reduceAdd,Nat.reduceEqDiff,Nat.reduceLT,Nat.reduceLeDiff,bI2,ze.idsL,ze.renL,ze.snapAll,z7.idsL,z7.renL,z7.snapAll])<;>rfl)) (Ai (Ai (show zo [(1,⟨yy.map Sn.D,2,false⟩)] 256 [1] []=some [1] from (by (simp only [zo,go_sem,length_set,Nat.reduceAdd,Nat.reduceEqDiff,Nat.reduceLT,Nat.reduceLeDiff,bI2,ze.idsL,ze.renL,ze.snapAll,z7.idsL,z7.renL,z7.snapAll])<;>rfl)) (T_sort 1 2 none yy (by omega))) trivial))) (by kernel_rfl))) (Ai p3 (Ai p2 (Ai h1 (Ai p1 trivial))))) (by kernel_rfl)
  |x1 =>
   try dsimp only
   exact zp ((ranges_Minus_o1 a b)++[.inl (.sl true [] 0 none) [] 1,.inl (.tup [.sl true [] 0 none,I 0]) [] 1]) (Ai (show (lim cfg).inl 69 [.sl true [] 0 none] [] 1=some (.tup [.sl true [] 0 none,I 0],[],1) from po_inl [.inl (.tup []) [] 1,.loop (.exit 0) ⟨65,[(13,B false),(4,.sl true [] 0 none),(10,.sl true [] 0 none),(11,I 0),(12,I 0)],[],1,1⟩,.dec false] (Ai (Eq.refl false) (Ai (show (lim cfg).loop 69 lp69_4 ⟨65,[(4,.sl true [] 0 none),(10,.sl true [] 0 none),(11,I 0),(12,I 0)],[],1,1⟩=some ((.exit 0),⟨65,[(13,B false),(4,.sl true [] 0 none),(10,.sl true [] 0 none),(11,I 0),(12,I 0)],[],1,1⟩) from (zD [.dec false] (Ai (Eq.refl false) trivial) (by kernel_rfl))) (Ai (T_sort_nil 1) trivial))) (by kernel_rfl)) (Ai (show (lim cfg).inl 87 [.sl a.nl (a.l.map Sn.D) (zsl a.nl 2) none,.sl ((zc b).nl) (((zc b).l).map Sn.D) (zsl ((zc b).nl) 2) none,.fn (.func 97) [] []] [] 1=some (.sl true [] 0 none,[],1) from po_inl [.rw 15 (I (a.l.length:Int)),.loop (.exit 0) (sd162 a b)] (Ai (y8 (q:=lr_ranges_pairs_3p3 a (zc b)) (lp_ranges_pairs_3p3 a (zc b) a.l 0 (List.drop_zero) (Nat.zero_le _) (by omega) (by exact zl _ (by omega)) (by omega)) h18) (Ai (zk Sn.D a) trivial)) (by kernel_rfl)) (Ai p2 (Ai h1 (Ai p1 trivial))))) (by kernel_rfl)
end Go.VS

namespace Go.VS
open List (length_set length_append length_cons length_nil)
open Go Go.Proofs
theorem zadd_rw {x:Nat} (h:x≤9223372036854775807):I (w64 (0+(x:Int)))=I (x:Int):=by
 congr 1;unfold w64;rw [IntKind.wrap_i64];omega
theorem add_rw {x y:Nat} (h:x+y≤9223372036854775807):I (w64 ((x:Int)+(y:Int)))=I ((x+y:Nat):Int):=by
 congr 1;unfold w64;rw [IntKind.wrap_i64];omega
theorem sub0_rw {x:Nat} (h:x≤9223372036854775807):I (w64 ((x:Int) - 0))=I (x:Int):=by
 congr 1;unfold w64;rw [IntKind.wrap_i64];omega

theorem nemp_add {a b:List Sn} (h:decide (((a.length+b.length:Nat):Int)>0)=true) (ha:a.isEmpty=true):b.isEmpty=false:=by
 have h:=of_decide_eq_true h
 cases a with
 |nil=>cases b with
  |nil=>simp at h
  |cons=>rfl
 |cons=>cases ha
theorem emp1 {a b:List Sn} (h:decide (((a.length+b.length:Nat):Int)>0)=false):a.isEmpty=true:=by
 have h:=of_decide_eq_false h
 cases a with
 |nil=>rfl
 |cons=>simp at h;omega
theorem emp2 {a b:List Sn} (h:decide (((a.length+b.length:Nat):Int)>0)=false):b.isEmpty=true:=by
 have h:=of_decide_eq_false h
 cases b with
 |nil=>rfl
 |cons=>simp at h;omega

theorem cat_no0 {a b:List Sn} (h:decide (((a.length+b.length:Nat):Int)>0)=false):(a++b).isEmpty=true:=by
 have h1:a=[]:=by simpa using emp1 h
 have h2:b=[]:=by simpa using emp2 h
 rw [h1,h2];rfl
theorem cat_no1 {a b:List Sn} (h:decide (((a.length+b.length:Nat):Int)>0)=true):(a++b).isEmpty=false:=by
 have:=of_decide_eq_true h
 cases a with
 |nil=>cases b with
  |nil=>simp at this
  |cons=>rfl
 |cons=>rfl
theorem nil_cat {a b:List Sn} (h:a.isEmpty=true):b=a++b:=by
 have:a=[]:=by simpa using h
 rw [this];rfl
theorem cat_nil {a b:List Sn} (h:b.isEmpty=true):a=a++b:=by
 have:b=[]:=by simpa using h
 rw [this,List.append_nil]

def sd225 (a:GS Sn) (b:GS Sn):St:=⟨36,[(12,B false),(0,.lsl 1 0 2 1 (some 2)),(3,I ((a.l.length+b.l.length:Nat):Int)),(9,.lsl 1 0 2 1 (some 2)),(10,I 2),(11,I 2)],[(1,⟨[.sl a.nl (a.l.map Sn.D) (zsl a.nl 2) none,.sl b.nl (b.l.map Sn.D) (zsl b.nl 2) none],1,false⟩)],2,2⟩

def cat_o1 (a:GS Sn) (b:GS Sn):List Ora:=[.loop (.exit 0) (sd225 a b),.inl (.lsl 2 0 0 2 none) [(2,⟨(List.replicate (a.l.length+b.l.length) (⟨0,0⟩:Sn)).map Sn.D,2,false⟩)] 3]

noncomputable def lp96_3:Code:=subC [1,1,0,1,0,0] (bodyC Tryz.f96)

def sd223 (a:GS Sn) (b:GS Sn):St:=⟨36,[(0,.lsl 1 0 2 1 (some 2)),(3,I (a.l.length:Int)),(9,.lsl 1 0 2 1 (some 2)),(10,I 2),(11,I 1)],[(1,⟨[.sl a.nl (a.l.map Sn.D) (zsl a.nl 2) none,.sl b.nl (b.l.map Sn.D) (zsl b.nl 2) none],1,false⟩)],2,2⟩

def sd222 (a:GS Sn) (b:GS Sn):St:=⟨36,[(0,.lsl 1 0 2 1 (some 2)),(3,I 0),(9,.lsl 1 0 2 1 (some 2)),(10,I 2),(11,I 0)],[(1,⟨[.sl a.nl (a.l.map Sn.D) (zsl a.nl 2) none,.sl b.nl (b.l.map Sn.D) (zsl b.nl 2) none],1,false⟩)],2,2⟩

def sd224 (a:GS Sn) (b:GS Sn):St:=⟨36,[(0,.lsl 1 0 2 1 (some 2)),(3,I ((a.l.length+b.l.length:Nat):Int)),(9,.lsl 1 0 2 1 (some 2)),(10,I 2),(11,I 2)],[(1,⟨[.sl a.nl (a.l.map Sn.D) (zsl a.nl 2) none,.sl b.nl (b.l.map Sn.D) (zsl b.nl 2) none],1,false⟩)],2,2⟩

noncomputable def lp96_11:Code:=subC [1,1,1,1,0,1,0,0] (bodyC Tryz.f96)

def sd244 (a:GS Sn) (b:GS Sn):St:=⟨36,[(6,.sl true [] 0 none),(25,.lsl 1 0 2 1 (some 2)),(26,I 2),(27,I 1)],[(1,⟨[.sl a.nl (a.l.map Sn.D) (zsl a.nl 2) none,.sl b.nl (b.l.map Sn.D) (zsl b.nl 2) none],1,false⟩)],2,2⟩

def sd243 (a:GS Sn) (b:GS Sn):St:=⟨36,[(6,.sl true [] 0 none),(25,.lsl 1 0 2 1 (some 2)),(26,I 2),(27,I 0)],[(1,⟨[.sl a.nl (a.l.map Sn.D) (zsl a.nl 2) none,.sl b.nl (b.l.map Sn.D) (zsl b.nl 2) none],1,false⟩)],2,2⟩

def sd245 (a:GS Sn) (b:GS Sn):St:=⟨36,[(6,.sl true [] 0 none),(25,.lsl 1 0 2 1 (some 2)),(26,I 2),(27,I 2)],[(1,⟨[.sl a.nl (a.l.map Sn.D) (zsl a.nl 2) none,.sl b.nl (b.l.map Sn.D) (zsl b.nl 2) none],1,false⟩)],2,2⟩

def sd246 (a:GS Sn) (b:GS Sn):St:=⟨36,[(28,B false),(6,.sl true [] 0 none),(25,.lsl 1 0 2 1 (some 2)),(26,I 2),(27,I 2)],[(1,⟨[.sl a.nl (a.l.map Sn.D) (zsl a.nl 2) none,.sl b.nl (b.l.map Sn.D) (zsl b.nl 2) none],1,false⟩)],2,2⟩

theorem T_cat0 (a:GS Sn) (b:GS Sn) (ha:a.l.length≤64) (hb:b.l.length≤64) (h:(a.l++b.l).isEmpty=true):(lim cfg).inl 96 [.lsl 1 0 2 1 (some 2)] [(1,⟨[.sl a.nl (a.l.map Sn.D) (zsl a.nl 2) none,.sl b.nl (b.l.map Sn.D) (zsl b.nl 2) none],1,false⟩)] 2=some (.sl true [] 0 none,[(1,⟨[.sl a.nl (a.l.map Sn.D) (zsl a.nl 2) none,.sl b.nl (b.l.map Sn.D) (zsl b.nl 2) none],1,false⟩)],2):=by
 have l1:=(show decide ((a.l.length:Int) < 0)=false from (decide_eq_false (by omega)))
 have l2:=(show ∀q,(lim cfg).loop 96 lp96_3 (sd223 a b)=some q→(lim cfg).loop 96 lp96_3 (sd222 a b)=some q from fun q hq=>po_turn (st1:=(sd223 a b)) [.dec true,.rw 17 (I (a.l.length:Int)),.rw 18 (I (a.l.length:Int)),.dec false,.rw 22 (I 1)] (Ai (zadd_rw (x:=1) (by omega)) (Ai (l1) (Ai (zadd_rw (x:=a.l.length) (by omega)) (Ai (zk Sn.D a) (Ai (Eq.refl true) trivial))))) hq (by kernel_rfl))
 have l3:=(show decide (((a.l.length+b.l.length:Nat):Int) < 0)=false from (decide_eq_false (by omega)))
 have l4:=(show ∀q,(lim cfg).loop 96 lp96_3 (sd224 a b)=some q→(lim cfg).loop 96 lp96_3 (sd223 a b)=some q from fun q hq=>po_turn (st1:=(sd224 a b)) [.dec true,.rw 17 (I (b.l.length:Int)),.rw 18 (I ((a.l.length+b.l.length:Nat):Int)),.dec false] (Ai (l3) (Ai (add_rw (x:=a.l.length) (y:=b.l.length) (by omega)) (Ai (zk Sn.D b) (Ai (Eq.refl true) trivial)))) hq (by kernel_rfl))
 have p1:=(show (lim cfg).loop 96 lp96_3 (sd222 a b)=some ((.exit 0),(sd225 a b)) from (l2 _ (l4 _ (zD [.dec false] (Ai (Eq.refl false) trivial) (by kernel_rfl)))))
 cases h1:decide (((a.l.length+b.l.length:Nat):Int)>0) with
 |true =>
  have g1:=of_decide_eq_true h1
  exact absurd (cat_no1 (by assumption)) (by rw [h];decide)
 |false =>
  have g1:=of_decide_eq_false h1
  have l17:=(app_none (te:=zR) (gO:=zw [(1,⟨[.sl a.nl (a.l.map Sn.D) (zsl a.nl 2) none,.sl b.nl (b.l.map Sn.D) (zsl b.nl 2) none],1,false⟩)]) (nxt:=2) (f:=Sn.D) (sz:=2) (d:=.sl true [] 0 none) a (show a.l.isEmpty=true from (emp1 h1)) rfl)
  have l18:=(show ∀q,(lim cfg).loop 96 lp96_11 (sd244 a b)=some q→(lim cfg).loop 96 lp96_11 (sd243 a b)=some q from fun q hq=>po_turn (st1:=(sd244 a b)) [.dec true,.op (some 33) ⟨.sl true [] 0 none,[],[],2⟩,.rw 34 (I 1)] (Ai (zadd_rw (x:=1) (by omega)) (Ai (l17) (Ai (Eq.refl true) trivial))) hq (by kernel_rfl))
  have l19:=(app_none (te:=zR) (gO:=zw [(1,⟨[.sl a.nl (a.l.map Sn.D) (zsl a.nl 2) none,.sl b.nl (b.l.map Sn.D) (zsl b.nl 2) none],1,false⟩)]) (nxt:=2) (f:=Sn.D) (sz:=2) (d:=.sl true [] 0 none) b (show b.l.isEmpty=true from (emp2 h1)) rfl)
  have l20:=(show ∀q,(lim cfg).loop 96 lp96_11 (sd245 a b)=some q→(lim cfg).loop 96 lp96_11 (sd244 a b)=some q from fun q hq=>po_turn (st1:=(sd245 a b)) [.dec true,.op (some 33) ⟨.sl true [] 0 none,[],[],2⟩] (Ai (l19) (Ai (Eq.refl true) trivial)) hq (by kernel_rfl))
  exact po_inl [.loop (.exit 0) (sd225 a b),.inl (.sl true [] 0 none) [] 2,.loop (.exit 2) (sd246 a b)] (Ai (show (lim cfg).loop 96 lp96_11 (sd243 a b)=some ((.exit 2),(sd246 a b)) from (l18 _ (l20 _ (zD [.dec false] (Ai (Eq.refl false) trivial) (by kernel_rfl))))) (Ai (show (lim cfg).inl 108 [.sl true [] 0 none,I ((a.l.length+b.l.length:Nat):Int)] [] 2=some (.sl true [] 0 none,[],2) from po_inl [.dec false,.rw 14 (I ((a.l.length+b.l.length:Nat):Int)),.dec false] (Ai h1 (Ai (sub0_rw (x:=a.l.length+b.l.length) (by omega)) (Ai (show decide (((a.l.length+b.l.length:Nat):Int) < 0)=false from (decide_eq_false (by omega))) trivial))) (by kernel_rfl)) (Ai p1 trivial))) (by kernel_rfl)

def sd232 (a:GS Sn) (b:GS Sn):St:=⟨36,[(27,I 0),(26,I 2),(25,.lsl 1 0 2 1 (some 2)),(6,.lsl 2 0 0 2 none),(24,.lsl 2 0 0 2 none),(23,I ((a.l.length+b.l.length:Nat):Int)),(12,B false),(0,.lsl 1 0 2 1 (some 2)),(3,I ((a.l.length+b.l.length:Nat):Int)),(9,.lsl 1 0 2 1 (some 2)),(10,I 2),(11,I 2)],[(1,⟨[.sl a.nl (a.l.map Sn.D) (zsl a.nl 2) none,.sl b.nl (b.l.map Sn.D) (zsl b.nl 2) none],1,false⟩),(2,⟨(List.replicate (a.l.length+b.l.length) (⟨0,0⟩:Sn)).map Sn.D,2,false⟩)],3,2⟩

def sd226 (a:GS Sn) (b:GS Sn):St:=⟨36,[(6,.lsl 2 0 0 2 none),(25,.lsl 1 0 2 1 (some 2)),(26,I 2),(27,I 0)],[(1,⟨[.sl a.nl (a.l.map Sn.D) (zsl a.nl 2) none,.sl b.nl (b.l.map Sn.D) (zsl b.nl 2) none],1,false⟩),(2,⟨(List.replicate (a.l.length+b.l.length) (⟨0,0⟩:Sn)).map Sn.D,2,false⟩)],3,2⟩

def sd227 (a:GS Sn) (b:GS Sn):St:=⟨36,[(6,.lsl 2 0 0 2 none),(25,.lsl 1 0 2 1 (some 2)),(26,I 2),(27,I 1)],[(1,⟨[.sl a.nl (a.l.map Sn.D) (zsl a.nl 2) none,.sl b.nl (b.l.map Sn.D) (zsl b.nl 2) none],1,false⟩),(2,⟨(List.replicate (a.l.length+b.l.length) (⟨0,0⟩:Sn)).map Sn.D,2,false⟩)],3,2⟩

def sd228 (a:GS Sn) (b:GS Sn):St:=⟨36,[(27,I 1),(34,I 1),(6,.lsl 2 0 0 2 none),(33,.lsl 2 0 0 2 none),(32,.sl a.nl (a.l.map Sn.D) (zsl a.nl 2) none),(31,.lsl 2 0 0 2 none),(8,.sl a.nl (a.l.map Sn.D) (zsl a.nl 2) none),(30,.sl a.nl (a.l.map Sn.D) (zsl a.nl 2) none),(29,.lref 1 0 1 0),(28,B true),(6,.lsl 2 0 0 2 none),(25,.lsl 1 0 2 1 (some 2)),(26,I 2),(27,I 0)],[(1,⟨[.sl a.nl (a.l.map Sn.D) (zsl a.nl 2) none,.sl b.nl (b.l.map Sn.D) (zsl b.nl 2) none],1,false⟩),(2,⟨(List.replicate (a.l.length+b.l.length) (⟨0,0⟩:Sn)).map Sn.D,2,false⟩)],3,2⟩

def sd229 (a:GS Sn) (b:GS Sn):St:=⟨36,[(6,.lsl 2 0 b.l.length 2 none),(25,.lsl 1 0 2 1 (some 2)),(26,I 2),(27,I 2)],[(1,⟨[.sl a.nl (a.l.map Sn.D) (zsl a.nl 2) none,.sl b.nl (b.l.map Sn.D) (zsl b.nl 2) none],1,false⟩),(2,⟨b.l.map Sn.D,2,false⟩)],3,2⟩

def sd230 (a:GS Sn) (b:GS Sn):St:=⟨36,[(27,I 2),(34,I 2),(6,.lsl 2 0 b.l.length 2 none),(33,.lsl 2 0 b.l.length 2 none),(32,.sl b.nl (b.l.map Sn.D) (zsl b.nl 2) none),(31,.lsl 2 0 0 2 none),(8,.sl b.nl (b.l.map Sn.D) (zsl b.nl 2) none),(30,.sl b.nl (b.l.map Sn.D) (zsl b.nl 2) none),(29,.lref 1 1 1 0),(28,B true),(6,.lsl 2 0 0 2 none),(25,.lsl 1 0 2 1 (some 2)),(26,I 2),(27,I 1)],[(1,⟨[.sl a.nl (a.l.map Sn.D) (zsl a.nl 2) none,.sl b.nl (b.l.map Sn.D) (zsl b.nl 2) none],1,false⟩),(2,⟨b.l.map Sn.D,2,false⟩)],3,2⟩

def sd231 (a:GS Sn) (b:GS Sn):St:=⟨36,[(28,B false),(6,.lsl 2 0 b.l.length 2 none),(25,.lsl 1 0 2 1 (some 2)),(26,I 2),(27,I 2)],[(1,⟨[.sl a.nl (a.l.map Sn.D) (zsl a.nl 2) none,.sl b.nl (b.l.map Sn.D) (zsl b.nl 2) none],1,false⟩),(2,⟨b.l.map Sn.D,2,false⟩)],3,2⟩

def sd233 (a:GS Sn) (b:GS Sn):St:=⟨36,[(6,.lsl 2 0 a.l.length 2 none),(25,.lsl 1 0 2 1 (some 2)),(26,I 2),(27,I 1)],[(1,⟨[.sl a.nl (a.l.map Sn.D) (zsl a.nl 2) none,.sl b.nl (b.l.map Sn.D) (zsl b.nl 2) none],1,false⟩),(2,⟨a.l.map Sn.D,2,false⟩)],3,2⟩

def sd234 (a:GS Sn) (b:GS Sn):St:=⟨36,[(27,I 1),(34,I 1),(6,.lsl 2 0 a.l.length 2 none),(33,.lsl 2 0 a.l.length 2 none),(32,.sl a.nl (a.l.map Sn.D) (zsl a.nl 2) none),(31,.lsl 2 0 0 2 none),(8,.sl a.nl (a.l.map Sn.D) (zsl a.nl 2) none),(30,.sl a.nl (a.l.map Sn.D) (zsl a.nl 2) none),(29,.lref 1 0 1 0),(28,B true),(6,.lsl 2 0 0 2 none),(25,.lsl 1 0 2 1 (some 2)),(26,I 2),(27,I 0)],[(1,⟨[.sl a.nl (a.l.map Sn.D) (zsl a.nl 2) none,.sl b.nl (b.l.map Sn.D) (zsl b.nl 2) none],1,false⟩),(2,⟨a.l.map Sn.D,2,false⟩)],3,2⟩

def sd235 (a:GS Sn) (b:GS Sn):St:=⟨36,[(6,.lsl 2 0 a.l.length 2 none),(25,.lsl 1 0 2 1 (some 2)),(26,I 2),(27,I 2)],[(1,⟨[.sl a.nl (a.l.map Sn.D) (zsl a.nl 2) none,.sl b.nl (b.l.map Sn.D) (zsl b.nl 2) none],1,false⟩),(2,⟨a.l.map Sn.D,2,false⟩)],3,2⟩

def sd236 (a:GS Sn) (b:GS Sn):St:=⟨36,[(27,I 2),(34,I 2),(6,.lsl 2 0 a.l.length 2 none),(33,.lsl 2 0 a.l.length 2 none),(32,.sl b.nl (b.l.map Sn.D) (zsl b.nl 2) none),(31,.lsl 2 0 a.l.length 2 none),(8,.sl b.nl (b.l.map Sn.D) (zsl b.nl 2) none),(30,.sl b.nl (b.l.map Sn.D) (zsl b.nl 2) none),(29,.lref 1 1 1 0),(28,B true),(6,.lsl 2 0 a.l.length 2 none),(25,.lsl 1 0 2 1 (some 2)),(26,I 2),(27,I 1)],[(1,⟨[.sl a.nl (a.l.map Sn.D) (zsl a.nl 2) none,.sl b.nl (b.l.map Sn.D) (zsl b.nl 2) none],1,false⟩),(2,⟨a.l.map Sn.D,2,false⟩)],3,2⟩

def sd237 (a:GS Sn) (b:GS Sn):St:=⟨36,[(28,B false),(6,.lsl 2 0 a.l.length 2 none),(25,.lsl 1 0 2 1 (some 2)),(26,I 2),(27,I 2)],[(1,⟨[.sl a.nl (a.l.map Sn.D) (zsl a.nl 2) none,.sl b.nl (b.l.map Sn.D) (zsl b.nl 2) none],1,false⟩),(2,⟨a.l.map Sn.D,2,false⟩)],3,2⟩

def sd238 (a:GS Sn) (b:GS Sn):St:=⟨36,[(6,.lsl 2 0 a.l.length 2 none),(25,.lsl 1 0 2 1 (some 2)),(26,I 2),(27,I 1)],[(1,⟨[.sl a.nl (a.l.map Sn.D) (zsl a.nl 2) none,.sl b.nl (b.l.map Sn.D) (zsl b.nl 2) none],1,false⟩),(2,⟨(a.l++List.replicate ((a.l.length+b.l.length) - a.l.length) (⟨0,0⟩:Sn)).map Sn.D,2,false⟩)],3,2⟩

def sd239 (a:GS Sn) (b:GS Sn):St:=⟨36,[(27,I 1),(34,I 1),(6,.lsl 2 0 a.l.length 2 none),(33,.lsl 2 0 a.l.length 2 none),(32,.sl a.nl (a.l.map Sn.D) (zsl a.nl 2) none),(31,.lsl 2 0 0 2 none),(8,.sl a.nl (a.l.map Sn.D) (zsl a.nl 2) none),(30,.sl a.nl (a.l.map Sn.D) (zsl a.nl 2) none),(29,.lref 1 0 1 0),(28,B true),(6,.lsl 2 0 0 2 none),(25,.lsl 1 0 2 1 (some 2)),(26,I 2),(27,I 0)],[(1,⟨[.sl a.nl (a.l.map Sn.D) (zsl a.nl 2) none,.sl b.nl (b.l.map Sn.D) (zsl b.nl 2) none],1,false⟩),(2,⟨(a.l++List.replicate ((a.l.length+b.l.length) - a.l.length) (⟨0,0⟩:Sn)).map Sn.D,2,false⟩)],3,2⟩

def sd240 (a:GS Sn) (b:GS Sn):St:=⟨36,[(6,.lsl 2 0 ((a.l++b.l).length) 2 none),(25,.lsl 1 0 2 1 (some 2)),(26,I 2),(27,I 2)],[(1,⟨[.sl a.nl (a.l.map Sn.D) (zsl a.nl 2) none,.sl b.nl (b.l.map Sn.D) (zsl b.nl 2) none],1,false⟩),(2,⟨(a.l++b.l).map Sn.D,2,false⟩)],3,2⟩

def sd241 (a:GS Sn) (b:GS Sn):St:=⟨36,[(27,I 2),(34,I 2),(6,.lsl 2 0 ((a.l++b.l).length) 2 none),(33,.lsl 2 0 ((a.l++b.l).length) 2 none),(32,.sl b.nl (b.l.map Sn.D) (zsl b.nl 2) none),(31,.lsl 2 0 a.l.length 2 none),(8,.sl b.nl (b.l.map Sn.D) (zsl b.nl 2) none),(30,.sl b.nl (b.l.map Sn.D) (zsl b.nl 2) none),(29,.lref 1 1 1 0),(28,B true),(6,.lsl 2 0 a.l.length 2 none),(25,.lsl 1 0 2 1 (some 2)),(26,I 2),(27,I 1)],[(1,⟨[.sl a.nl (a.l.map Sn.D) (zsl a.nl 2) none,.sl b.nl (b.l.map Sn.D) (zsl b.nl 2) none],1,false⟩),(2,⟨(a.l++b.l).map Sn.D,2,false⟩)],3,2⟩

def sd242 (a:GS Sn) (b:GS Sn):St:=⟨36,[(28,B false),(6,.lsl 2 0 ((a.l++b.l).length) 2 none),(25,.lsl 1 0 2 1 (some 2)),(26,I 2),(27,I 2)],[(1,⟨[.sl a.nl (a.l.map Sn.D) (zsl a.nl 2) none,.sl b.nl (b.l.map Sn.D) (zsl b.nl 2) none],1,false⟩),(2,⟨(a.l++b.l).map Sn.D,2,false⟩)],3,2⟩

theorem T_cat1 (a:GS Sn) (b:GS Sn) (ha:a.l.length≤64) (hb:b.l.length≤64) (h:(a.l++b.l).isEmpty=false):(lim cfg).inl 96 [.lsl 1 0 2 1 (some 2)] [(1,⟨[.sl a.nl (a.l.map Sn.D) (zsl a.nl 2) none,.sl b.nl (b.l.map Sn.D) (zsl b.nl 2) none],1,false⟩)] 2=some (.lsl 2 0 (a.l++b.l).length 2 none,[(1,⟨[.sl a.nl (a.l.map Sn.D) (zsl a.nl 2) none,.sl b.nl (b.l.map Sn.D) (zsl b.nl 2) none],1,false⟩),(2,⟨(a.l++b.l).map Sn.D,2,false⟩)],3):=by
 have l1:=(show decide ((a.l.length:Int) < 0)=false from (decide_eq_false (by omega)))
 have l2:=(show ∀q,(lim cfg).loop 96 lp96_3 (sd223 a b)=some q→(lim cfg).loop 96 lp96_3 (sd222 a b)=some q from fun q hq=>po_turn (st1:=(sd223 a b)) [.dec true,.rw 17 (I (a.l.length:Int)),.rw 18 (I (a.l.length:Int)),.dec false,.rw 22 (I 1)] (Ai (zadd_rw (x:=1) (by omega)) (Ai (l1) (Ai (zadd_rw (x:=a.l.length) (by omega)) (Ai (zk Sn.D a) (Ai (Eq.refl true) trivial))))) hq (by kernel_rfl))
 have l3:=(show decide (((a.l.length+b.l.length:Nat):Int) < 0)=false from (decide_eq_false (by omega)))
 have l4:=(show ∀q,(lim cfg).loop 96 lp96_3 (sd224 a b)=some q→(lim cfg).loop 96 lp96_3 (sd223 a b)=some q from fun q hq=>po_turn (st1:=(sd224 a b)) [.dec true,.rw 17 (I (b.l.length:Int)),.rw 18 (I ((a.l.length+b.l.length:Nat):Int)),.dec false] (Ai (l3) (Ai (add_rw (x:=a.l.length) (y:=b.l.length) (by omega)) (Ai (zk Sn.D b) (Ai (Eq.refl true) trivial)))) hq (by kernel_rfl))
 have p1:=(show (lim cfg).loop 96 lp96_3 (sd222 a b)=some ((.exit 0),(sd225 a b)) from (l2 _ (l4 _ (zD [.dec false] (Ai (Eq.refl false) trivial) (by kernel_rfl)))))
 cases h1:decide (((a.l.length+b.l.length:Nat):Int)>0) with
 |true =>
  have g1:=of_decide_eq_true h1
  have p2:=(show (lim cfg).inl 108 [.sl true [] 0 none,I ((a.l.length+b.l.length:Nat):Int)] [] 2=some (.lsl 2 0 0 2 none,[(2,⟨(List.replicate (a.l.length+b.l.length) (⟨0,0⟩:Sn)).map Sn.D,2,false⟩)],3) from po_inl [.dec false,.rw 14 (I ((a.l.length+b.l.length:Nat):Int)),.dec true,.op (some 22) ⟨.lsl 2 0 (a.l.length+b.l.length) 2 none,[(2,some ⟨(List.replicate (a.l.length+b.l.length) (⟨0,0⟩:Sn)).map Sn.D,2,false⟩)],[],3⟩,.op (some 25) ⟨.lsl 2 0 0 2 none,[],[2],3⟩] (Ai (cut_zero (C:=cfg) (objs:=[(2,⟨(List.replicate (a.l.length+b.l.length) (⟨0,0⟩:Sn)).map Sn.D,2,false⟩)]) (t:=22) (nxt:=3) (o:=2) (sz:=2) (len:=(a.l.length+b.l.length)) rfl rfl rfl rfl (by omega)) (Ai (app_zero (C:=cfg) (gO:=zw []) (nxt:=2) (t:=22) (t':=3) (te:=zR) (f:=Sn.D) (sz:=2) (k:=.i64) (n:=((a.l.length+b.l.length:Nat):Int)) (els0:=[]) (sz0:=0) (cap0:=none) (⟨0,0⟩:Sn) rfl rfl rfl rfl rfl (by kernel_rfl) (by decide) rfl (by omega) ⟨by simp only [zR,big]<;>(first|assumption|omega|(exact zF (by omega) (by omega))|(exact zt (by omega))|(exact zm (by omega))|(exact zu (by omega))|(exact zn (by omega))|(exact zl _ (by omega))|(simp only [zd] at *<;>omega)|(simp only [zv,GS.some_l,length_set,length_append,length_cons,length_nil] at *<;>first|assumption|omega)|(simp only [zv,GS.some_l,length_set,length_append,length_cons,length_nil,zd] at *<;>first|assumption|omega)|(simp at *<;>omega)),by simp only [big]<;>(first|assumption|omega|(exact zF (by omega) (by omega))|(exact zt (by omega))|(exact zm (by omega))|(exact zu (by omega))|(exact zn (by omega))|(exact zl _ (by omega))|(simp only [zd] at *<;>omega)|(simp only [zv,GS.some_l,length_set,length_append,length_cons,length_nil] at *<;>first|assumption|omega)|(simp only [zv,GS.some_l,length_set,length_append,length_cons,length_nil,zd] at *<;>first|assumption|omega)|(simp at *<;>omega))⟩) (Ai h1 (Ai (sub0_rw (x:=a.l.length+b.l.length) (by omega)) (Ai (show decide (((a.l.length+b.l.length:Nat):Int) < 0)=false from (decide_eq_false (by omega))) trivial))))) (by kernel_rfl))
  have p3:=(gc_of (C:=cfg) (f:=96) (a:=lp96_11) (ks:=[6,25,26,27]) (st:=(sd232 a b)) (st1:=(sd226 a b)) (by kernel_rfl) (by (simp only [sd226,sd232,go_sem,length_set,Nat.reduceAdd,Nat.reduceEqDiff,Nat.reduceLT,Nat.reduceLeDiff,bI2,ze.idsL,ze.renL,ze.snapAll,z7.idsL,z7.renL,z7.snapAll])<;>rfl))
  cases h2:a.l.isEmpty with
  |true =>
   have l5:=(app_none (te:=zR) (gO:=zw [(1,⟨[.sl a.nl (a.l.map Sn.D) (zsl a.nl 2) none,.sl b.nl (b.l.map Sn.D) (zsl b.nl 2) none],1,false⟩),(2,⟨(List.replicate (a.l.length+b.l.length) (⟨0,0⟩:Sn)).map Sn.D,2,false⟩)]) (nxt:=3) (f:=Sn.D) (sz:=2) (d:=.lsl 2 0 0 2 none) a h2 rfl)
   have l6:=(show ∀q,(lim cfg).loop 96 lp96_11 (sd227 a b)=some q→(lim cfg).loop 96 lp96_11 (sd226 a b)=some q from fun q hq=>zz (ks:=[6,25,26,27]) (st':=(sd228 a b)) (st1:=(sd227 a b)) [.dec true,.op (some 33) ⟨.lsl 2 0 0 2 none,[],[],3⟩,.rw 34 (I 1)] (Ai (zadd_rw (x:=1) (by omega)) (Ai (l5) (Ai (Eq.refl true) trivial))) (by kernel_rfl) (by (simp only [sd227,sd228,go_sem,length_set,Nat.reduceAdd,Nat.reduceEqDiff,Nat.reduceLT,Nat.reduceLeDiff,bI2,ze.idsL,ze.renL,ze.snapAll,z7.idsL,z7.renL,z7.snapAll])<;>rfl) hq (by kernel_rfl))
   have l7:=(app_fullD (te:=zR) (gO:=zw [(1,⟨[.sl a.nl (a.l.map Sn.D) (zsl a.nl 2) none,.sl b.nl (b.l.map Sn.D) (zsl b.nl 2) none],1,false⟩),(2,⟨(List.replicate (a.l.length+b.l.length) (⟨0,0⟩:Sn)).map Sn.D,2,false⟩)]) (nxt:=3) (o:=2) (v:=[]) (z:=(⟨0,0⟩:Sn)) (n:=(a.l.length+b.l.length)) z7 b (show b.l.isEmpty=false from (nemp_add h1 h2)) (by kernel_rfl) rfl (by kernel_rfl) (by decide) (by simp at *<;>omega) ⟨by simp only [zR,big]<;>(first|assumption|omega|(exact zF (by omega) (by omega))|(exact zt (by omega))|(exact zm (by omega))|(exact zu (by omega))|(exact zn (by omega))|(exact zl _ (by omega))|(simp only [zd] at *<;>omega)|(simp only [zv,GS.some_l,length_set,length_append,length_cons,length_nil] at *<;>first|assumption|omega)|(simp only [zv,GS.some_l,length_set,length_append,length_cons,length_nil,zd] at *<;>first|assumption|omega)|(simp at *<;>omega)),by simp only [big]<;>(first|assumption|omega|(exact zF (by omega) (by omega))|(exact zt (by omega))|(exact zm (by omega))|(exact zu (by omega))|(exact zn (by omega))|(exact zl _ (by omega))|(simp only [zd] at *<;>omega)|(simp only [zv,GS.some_l,length_set,length_append,length_cons,length_nil] at *<;>first|assumption|omega)|(simp only [zv,GS.some_l,length_set,length_append,length_cons,length_nil,zd] at *<;>first|assumption|omega)|(simp at *<;>omega))⟩)
   have l8:=(show ∀q,(lim cfg).loop 96 lp96_11 (sd229 a b)=some q→(lim cfg).loop 96 lp96_11 (sd227 a b)=some q from fun q hq=>zz (ks:=[6,25,26,27]) (st':=(sd230 a b)) (st1:=(sd229 a b)) [.dec true,.op (some 33) ⟨.lsl 2 0 b.l.length 2 none,[(2,some ⟨b.l.map Sn.D,2,false⟩)],[2],3⟩] (Ai (l7) (Ai (Eq.refl true) trivial)) (by kernel_rfl) (by (simp only [sd229,sd230,go_sem,length_set,Nat.reduceAdd,Nat.reduceEqDiff,Nat.reduceLT,Nat.reduceLeDiff,bI2,ze.idsL,ze.renL,ze.snapAll,z7.idsL,z7.renL,z7.snapAll])<;>rfl) hq (by kernel_rfl))
   exact Eq.trans (show (lim cfg).inl 96 [.lsl 1 0 2 1 (some 2)] [(1,⟨[.sl a.nl (a.l.map Sn.D) (zsl a.nl 2) none,.sl b.nl (b.l.map Sn.D) (zsl b.nl 2) none],1,false⟩)] 2=some (.lsl 2 0 (b.l).length 2 none,[(1,⟨[.sl a.nl (a.l.map Sn.D) (zsl a.nl 2) none,.sl b.nl (b.l.map Sn.D) (zsl b.nl 2) none],1,false⟩),(2,⟨(b.l).map Sn.D,2,false⟩)],3) from po_inl ((cat_o1 a b)++[.gloop (sd226 a b) (.exit 2) (sd231 a b)]) (Ai (show (lim cfg).loop 96 lp96_11 (sd226 a b)=some ((.exit 2),(sd231 a b)) from (l6 _ (l8 _ (zD [.dec false] (Ai (Eq.refl false) trivial) (by kernel_rfl))))) (Ai p3 (Ai p2 (Ai p1 trivial)))) (by kernel_rfl)) (congrArg (fun z:List Sn=>(some (.lsl 2 0 (z).length 2 none,[(1,⟨[.sl a.nl (a.l.map Sn.D) (zsl a.nl 2) none,.sl b.nl (b.l.map Sn.D) (zsl b.nl 2) none],1,false⟩),(2,⟨(z).map Sn.D,2,false⟩)],3):Option (VS.D × List (Nat × Ob) × Nat))) (nil_cat (by assumption)))
  |false =>
   cases h3:b.l.isEmpty with
   |true =>
    have l9:=(app_fullD (te:=zR) (gO:=zw [(1,⟨[.sl a.nl (a.l.map Sn.D) (zsl a.nl 2) none,.sl b.nl (b.l.map Sn.D) (zsl b.nl 2) none],1,false⟩),(2,⟨(List.replicate (a.l.length+b.l.length) (⟨0,0⟩:Sn)).map Sn.D,2,false⟩)]) (nxt:=3) (o:=2) (v:=[]) (z:=(⟨0,0⟩:Sn)) (n:=(a.l.length+b.l.length)) z7 a h2 (by kernel_rfl) rfl (by kernel_rfl) (by decide) (by simp at *<;>omega) ⟨by simp only [zR,big]<;>(first|assumption|omega|(exact zF (by omega) (by omega))|(exact zt (by omega))|(exact zm (by omega))|(exact zu (by omega))|(exact zn (by omega))|(exact zl _ (by omega))|(simp only [zd] at *<;>omega)|(simp only [zv,GS.some_l,length_set,length_append,length_cons,length_nil] at *<;>first|assumption|omega)|(simp only [zv,GS.some_l,length_set,length_append,length_cons,length_nil,zd] at *<;>first|assumption|omega)|(simp at *<;>omega)),by simp only [big]<;>(first|assumption|omega|(exact zF (by omega) (by omega))|(exact zt (by omega))|(exact zm (by omega))|(exact zu (by omega))|(exact zn (by omega))|(exact zl _ (by omega))|(simp only [zd] at *<;>omega)|(simp only [zv,GS.some_l,length_set,length_append,length_cons,length_nil] at *<;>first|assumption|omega)|(simp only [zv,GS.some_l,length_set,length_append,length_cons,length_nil,zd] at *<;>first|assumption|omega)|(simp at *<;>omega))⟩)
    have l10:=(show ∀q,(lim cfg).loop 96 lp96_11 (sd233 a b)=some q→(lim cfg).loop 96 lp96_11 (sd226 a b)=some q from fun q hq=>zz (ks:=[6,25,26,27]) (st':=(sd234 a b)) (st1:=(sd233 a b)) [.dec true,.op (some 33) ⟨.lsl 2 0 a.l.length 2 none,[(2,some ⟨a.l.map Sn.D,2,false⟩)],[2],3⟩,.rw 34 (I 1)] (Ai (zadd_rw (x:=1) (by omega)) (Ai (l9) (Ai (Eq.refl true) trivial))) (by kernel_rfl) (by (simp only [sd233,sd234,go_sem,length_set,Nat.reduceAdd,Nat.reduceEqDiff,Nat.reduceLT,Nat.reduceLeDiff,bI2,ze.idsL,ze.renL,ze.snapAll,z7.idsL,z7.renL,z7.snapAll])<;>rfl) hq (by kernel_rfl))
    have l11:=(app_none (te:=zR) (gO:=zw [(1,⟨[.sl a.nl (a.l.map Sn.D) (zsl a.nl 2) none,.sl b.nl (b.l.map Sn.D) (zsl b.nl 2) none],1,false⟩),(2,⟨a.l.map Sn.D,2,false⟩)]) (nxt:=3) (f:=Sn.D) (sz:=2) (d:=.lsl 2 0 a.l.length 2 none) b h3 rfl)
    have l12:=(show ∀q,(lim cfg).loop 96 lp96_11 (sd235 a b)=some q→(lim cfg).loop 96 lp96_11 (sd233 a b)=some q from fun q hq=>zz (ks:=[6,25,26,27]) (st':=(sd236 a b)) (st1:=(sd235 a b)) [.dec true,.op (some 33) ⟨.lsl 2 0 a.l.length 2 none,[],[],3⟩] (Ai (l11) (Ai (Eq.refl true) trivial)) (by kernel_rfl) (by (simp only [sd235,sd236,go_sem,length_set,Nat.reduceAdd,Nat.reduceEqDiff,Nat.reduceLT,Nat.reduceLeDiff,bI2,ze.idsL,ze.renL,ze.snapAll,z7.idsL,z7.renL,z7.snapAll])<;>rfl) hq (by kernel_rfl))
    exact Eq.trans (show (lim cfg).inl 96 [.lsl 1 0 2 1 (some 2)] [(1,⟨[.sl a.nl (a.l.map Sn.D) (zsl a.nl 2) none,.sl b.nl (b.l.map Sn.D) (zsl b.nl 2) none],1,false⟩)] 2=some (.lsl 2 0 (a.l).length 2 none,[(1,⟨[.sl a.nl (a.l.map Sn.D) (zsl a.nl 2) none,.sl b.nl (b.l.map Sn.D) (zsl b.nl 2) none],1,false⟩),(2,⟨(a.l).map Sn.D,2,false⟩)],3) from po_inl ((cat_o1 a b)++[.gloop (sd226 a b) (.exit 2) (sd237 a b)]) (Ai (show (lim cfg).loop 96 lp96_11 (sd226 a b)=some ((.exit 2),(sd237 a b)) from (l10 _ (l12 _ (zD [.dec false] (Ai (Eq.refl false) trivial) (by kernel_rfl))))) (Ai p3 (Ai p2 (Ai p1 trivial)))) (by kernel_rfl)) (congrArg (fun z:List Sn=>(some (.lsl 2 0 (z).length 2 none,[(1,⟨[.sl a.nl (a.l.map Sn.D) (zsl a.nl 2) none,.sl b.nl (b.l.map Sn.D) (zsl b.nl 2) none],1,false⟩),(2,⟨(z).map Sn.D,2,false⟩)],3):Option (VS.D × List (Nat × Ob) × Nat))) (cat_nil (by assumption)))
   |false =>
    have l13:=(app_fillD (te:=zR) (gO:=zw [(1,⟨[.sl a.nl (a.l.map Sn.D) (zsl a.nl 2) none,.sl b.nl (b.l.map Sn.D) (zsl b.nl 2) none],1,false⟩),(2,⟨(List.replicate (a.l.length+b.l.length) (⟨0,0⟩:Sn)).map Sn.D,2,false⟩)]) (nxt:=3) (o:=2) (v:=[]) (z:=(⟨0,0⟩:Sn)) (n:=(a.l.length+b.l.length)) z7 a h2 (by kernel_rfl) rfl (by kernel_rfl) (by decide) (by omega) ⟨by simp only [zR,big]<;>(first|assumption|omega|(exact zF (by omega) (by omega))|(exact zt (by omega))|(exact zm (by omega))|(exact zu (by omega))|(exact zn (by omega))|(exact zl _ (by omega))|(simp only [zd] at *<;>omega)|(simp only [zv,GS.some_l,length_set,length_append,length_cons,length_nil] at *<;>first|assumption|omega)|(simp only [zv,GS.some_l,length_set,length_append,length_cons,length_nil,zd] at *<;>first|assumption|omega)|(simp at *<;>omega)),by simp only [big]<;>(first|assumption|omega|(exact zF (by omega) (by omega))|(exact zt (by omega))|(exact zm (by omega))|(exact zu (by omega))|(exact zn (by omega))|(exact zl _ (by omega))|(simp only [zd] at *<;>omega)|(simp only [zv,GS.some_l,length_set,length_append,length_cons,length_nil] at *<;>first|assumption|omega)|(simp only [zv,GS.some_l,length_set,length_append,length_cons,length_nil,zd] at *<;>first|assumption|omega)|(simp at *<;>omega))⟩)
    have l14:=(show ∀q,(lim cfg).loop 96 lp96_11 (sd238 a b)=some q→(lim cfg).loop 96 lp96_11 (sd226 a b)=some q from fun q hq=>zz (ks:=[6,25,26,27]) (st':=(sd239 a b)) (st1:=(sd238 a b)) [.dec true,.op (some 33) ⟨.lsl 2 0 a.l.length 2 none,[(2,some ⟨(a.l++List.replicate ((a.l.length+b.l.length) - a.l.length) (⟨0,0⟩:Sn)).map Sn.D,2,false⟩)],[2],3⟩,.rw 34 (I 1)] (Ai (zadd_rw (x:=1) (by omega)) (Ai (l13) (Ai (Eq.refl true) trivial))) (by kernel_rfl) (by (simp only [sd238,sd239,go_sem,length_set,Nat.reduceAdd,Nat.reduceEqDiff,Nat.reduceLT,Nat.reduceLeDiff,bI2,ze.idsL,ze.renL,ze.snapAll,z7.idsL,z7.renL,z7.snapAll])<;>rfl) hq (by kernel_rfl))
    have l15:=(app_fullD (te:=zR) (gO:=zw [(1,⟨[.sl a.nl (a.l.map Sn.D) (zsl a.nl 2) none,.sl b.nl (b.l.map Sn.D) (zsl b.nl 2) none],1,false⟩),(2,⟨(a.l++List.replicate ((a.l.length+b.l.length) - a.l.length) (⟨0,0⟩:Sn)).map Sn.D,2,false⟩)]) (nxt:=3) (o:=2) (v:=a.l) (z:=(⟨0,0⟩:Sn)) (n:=((a.l.length+b.l.length) - a.l.length)) z7 b h3 (by kernel_rfl) rfl (by kernel_rfl) (by decide) (by omega) ⟨by simp only [zR,big]<;>(first|assumption|omega|(exact zF (by omega) (by omega))|(exact zt (by omega))|(exact zm (by omega))|(exact zu (by omega))|(exact zn (by omega))|(exact zl _ (by omega))|(simp only [zd] at *<;>omega)|(simp only [zv,GS.some_l,length_set,length_append,length_cons,length_nil] at *<;>first|assumption|omega)|(simp only [zv,GS.some_l,length_set,length_append,length_cons,length_nil,zd] at *<;>first|assumption|omega)|(simp at *<;>omega)),by simp only [big]<;>(first|assumption|omega|(exact zF (by omega) (by omega))|(exact zt (by omega))|(exact zm (by omega))|(exact zu (by omega))|(exact zn (by omega))|(exact zl _ (by omega))|(simp only [zd] at *<;>omega)|(simp only [zv,GS.some_l,length_set,length_append,length_cons,length_nil] at *<;>first|assumption|omega)|(simp only [zv,GS.some_l,length_set,length_append,length_cons,length_nil,zd] at *<;>first|assumption|omega)|(simp at *<;>omega))⟩)
    have l16:=(show ∀q,(lim cfg).loop 96 lp96_11 (sd240 a b)=some q→(lim cfg).loop 96 lp96_11 (sd238 a b)=some q from fun q hq=>zz (ks:=[6,25,26,27]) (st':=(sd241 a b)) (st1:=(sd240 a b)) [.dec true,.op (some 33) ⟨.lsl 2 0 ((a.l++b.l).length) 2 none,[(2,some ⟨(a.l++b.l).map Sn.D,2,false⟩)],[2],3⟩] (Ai (l15) (Ai (Eq.refl true) trivial)) (by kernel_rfl) (by (simp only [sd240,sd241,go_sem,length_set,Nat.reduceAdd,Nat.reduceEqDiff,Nat.reduceLT,Nat.reduceLeDiff,bI2,ze.idsL,ze.renL,ze.snapAll,z7.idsL,z7.renL,z7.snapAll])<;>rfl) hq (by kernel_rfl))
    exact Eq.trans (show (lim cfg).inl 96 [.lsl 1 0 2 1 (some 2)] [(1,⟨[.sl a.nl (a.l.map Sn.D) (zsl a.nl 2) none,.sl b.nl (b.l.map Sn.D) (zsl b.nl 2) none],1,false⟩)] 2=some (.lsl 2 0 ((a.l++b.l)).length 2 none,[(1,⟨[.sl a.nl (a.l.map Sn.D) (zsl a.nl 2) none,.sl b.nl (b.l.map Sn.D) (zsl b.nl 2) none],1,false⟩),(2,⟨((a.l++b.l)).map Sn.D,2,false⟩)],3) from po_inl ((cat_o1 a b)++[.gloop (sd226 a b) (.exit 2) (sd242 a b)]) (Ai (show (lim cfg).loop 96 lp96_11 (sd226 a b)=some ((.exit 2),(sd242 a b)) from (l14 _ (l16 _ (zD [.dec false] (Ai (Eq.refl false) trivial) (by kernel_rfl))))) (Ai p3 (Ai p2 (Ai p1 trivial)))) (by kernel_rfl)) (congrArg (fun z:List Sn=>(some (.lsl 2 0 (z).length 2 none,[(1,⟨[.sl a.nl (a.l.map Sn.D) (zsl a.nl 2) none,.sl b.nl (b.l.map Sn.D) (zsl b.nl 2) none],1,false⟩),(2,⟨(z).map Sn.D,2,false⟩)],3):Option (VS.D × List (Nat × Ob) × Nat))) rfl)
 |false =>
  have g1:=of_decide_eq_false h1
  exact absurd (cat_no0 (by assumption)) (by rw [h];decide)

def sd247 (a:GS Sn) (b:GS Sn) (xi:Nat) (yV:List Sn) (yO:Sn) (yw:List Sn):St:=⟨65,[(12,I ((xi+1:Nat):Int)),(60,I ((xi+1:Nat):Int)),(55,.lref 3 ((w64 ((yw.length:Int) - 1)).toNat) 2 1),(54,.lref 3 ((w64 ((yw.length:Int) - 1)).toNat) 2 0),(53,I (zN ((yw.getD ((w64 ((yw.length:Int) - 1)).toNat) default).hi) yO.hi)),(52,I yO.hi),(51,.lref 4 0 2 1),(50,I ((yw.getD ((w64 ((yw.length:Int) - 1)).toNat) default).hi)),(49,.lref 3 ((w64 ((yw.length:Int) - 1)).toNat) 2 1),(48,.lref 3 ((w64 ((yw.length:Int) - 1)).toNat) 2 0),(47,I (w64 ((yw.length:Int) - 1))),(46,I (yw.length:Int)),(45,.lsl 3 0 yw.length 2 none),(44,I (w64 ((yw.length:Int) - 1))),(43,I (yw.length:Int)),(42,.lsl 3 0 yw.length 2 none),(41,B true),(40,B true),(39,I (w64 (((yw.getD ((w64 ((yw.length:Int) - 1)).toNat) default).hi)+1))),(38,I ((yw.getD ((w64 ((yw.length:Int) - 1)).toNat) default).hi)),(37,.lref 3 ((w64 ((yw.length:Int) - 1)).toNat) 2 1),(36,.lref 3 ((w64 ((yw.length:Int) - 1)).toNat) 2 0),(35,I (w64 ((yw.length:Int) - 1))),(34,I (yw.length:Int)),(33,.lsl 3 0 yw.length 2 none),(32,I yO.lo),(31,.lref 4 0 2 0),(30,B true),(29,B true),(28,I (yw.length:Int)),(7,I (yw.length:Int)),(27,I (yw.length:Int)),(26,.lsl 3 0 yw.length 2 none),(25,B false),(24,B false),(23,B true),(22,I yO.hi),(21,.lref 4 0 2 1),(20,B false),(19,B false),(18,B true),(17,I yO.lo),(16,.lref 4 0 2 0),(6,.lref 4 0 2 0),(15,.agg [I yO.lo,I yO.hi]),(14,.lref 2 xi 2 0),(13,B true),(4,.lsl 3 0 yw.length 2 none),(10,.lsl 2 0 ((a.l++b.l).length) 2 none),(11,I (((a.l++b.l).length:Nat):Int)),(12,I (xi:Int))],[(2,⟨yV.map Sn.D,2,false⟩),(3,⟨(yw.set ((w64 ((yw.length:Int) - 1)).toNat) (⟨(yw.getD ((w64 ((yw.length:Int) - 1)).toNat) default).lo,zN ((yw.getD ((w64 ((yw.length:Int) - 1)).toNat) default).hi) yO.hi⟩:Sn)).map Sn.D,2,false⟩),(4,⟨[.agg [I yO.lo,I yO.hi]],2,false⟩)],5,3⟩

def sd248 (a:GS Sn) (b:GS Sn) (xi:Nat) (yV:List Sn) (yO:Sn) (yw:List Sn):St:=⟨65,[(12,I ((xi+1:Nat):Int)),(60,I ((xi+1:Nat):Int)),(4,.lsl 6 0 ((yw++[yO]).length) 2 none),(59,.lsl 6 0 ((yw++[yO]).length) 2 none),(58,.lsl 5 0 1 2 (some 1)),(57,.agg [I yO.lo,I yO.hi]),(56,.lsl 3 0 yw.length 2 none),(41,B false),(40,B false),(39,I (w64 (((yw.getD ((w64 ((yw.length:Int) - 1)).toNat) default).hi)+1))),(38,I ((yw.getD ((w64 ((yw.length:Int) - 1)).toNat) default).hi)),(37,.lref 3 ((w64 ((yw.length:Int) - 1)).toNat) 2 1),(36,.lref 3 ((w64 ((yw.length:Int) - 1)).toNat) 2 0),(35,I (w64 ((yw.length:Int) - 1))),(34,I (yw.length:Int)),(33,.lsl 3 0 yw.length 2 none),(32,I yO.lo),(31,.lref 4 0 2 0),(30,B true),(29,B true),(28,I (yw.length:Int)),(7,I (yw.length:Int)),(27,I (yw.length:Int)),(26,.lsl 3 0 yw.length 2 none),(25,B false),(24,B false),(23,B true),(22,I yO.hi),(21,.lref 4 0 2 1),(20,B false),(19,B false),(18,B true),(17,I yO.lo),(16,.lref 4 0 2 0),(6,.lref 4 0 2 0),(15,.agg [I yO.lo,I yO.hi]),(14,.lref 2 xi 2 0),(13,B true),(4,.lsl 3 0 yw.length 2 none),(10,.lsl 2 0 ((a.l++b.l).length) 2 none),(11,I (((a.l++b.l).length:Nat):Int)),(12,I (xi:Int))],[(2,⟨yV.map Sn.D,2,false⟩),(4,⟨[.agg [I yO.lo,I yO.hi]],2,false⟩),(5,⟨[.agg [I yO.lo,I yO.hi]],2,false⟩),(6,⟨(yw++[yO]).map Sn.D,2,false⟩)],7,3⟩

def sd249 (a:GS Sn) (b:GS Sn) (xi:Nat) (yV:List Sn) (yO:Sn) (yw:List Sn):St:=⟨65,[(12,I ((xi+1:Nat):Int)),(60,I ((xi+1:Nat):Int)),(4,.lsl 6 0 ((yw++[yO]).length) 2 none),(59,.lsl 6 0 ((yw++[yO]).length) 2 none),(58,.lsl 5 0 1 2 (some 1)),(57,.agg [I yO.lo,I yO.hi]),(56,.lsl 3 0 yw.length 2 none),(41,B false),(40,.tup []),(39,.tup []),(38,.tup []),(37,.tup []),(36,.tup []),(35,.tup []),(34,.tup []),(33,.tup []),(32,.tup []),(31,.tup []),(30,B false),(29,B false),(28,I (yw.length:Int)),(7,I (yw.length:Int)),(27,I (yw.length:Int)),(26,.lsl 3 0 yw.length 2 none),(25,B false),(24,B false),(23,B true),(22,I yO.hi),(21,.lref 4 0 2 1),(20,B false),(19,B false),(18,B true),(17,I yO.lo),(16,.lref 4 0 2 0),(6,.lref 4 0 2 0),(15,.agg [I yO.lo,I yO.hi]),(14,.lref 2 xi 2 0),(13,B true),(4,.lsl 3 0 yw.length 2 none),(10,.lsl 2 0 ((a.l++b.l).length) 2 none),(11,I (((a.l++b.l).length:Nat):Int)),(12,I (xi:Int))],[(2,⟨yV.map Sn.D,2,false⟩),(4,⟨[.agg [I yO.lo,I yO.hi]],2,false⟩),(5,⟨[.agg [I yO.lo,I yO.hi]],2,false⟩),(6,⟨(yw++[yO]).map Sn.D,2,false⟩)],7,3⟩

def sd250 (a:GS Sn) (b:GS Sn) (xi:Nat) (yV:List Sn) (yO:Sn):St:=⟨65,[(12,I ((xi+1:Nat):Int)),(60,I ((xi+1:Nat):Int)),(4,.lsl 5 0 1 2 none),(59,.lsl 5 0 1 2 none),(58,.lsl 4 0 1 2 (some 1)),(57,.agg [I yO.lo,I yO.hi]),(56,.sl true [] 0 none),(41,B false),(40,.tup []),(39,.tup []),(38,.tup []),(37,.tup []),(36,.tup []),(35,.tup []),(34,.tup []),(33,.tup []),(32,.tup []),(31,.tup []),(30,B false),(29,B false),(28,I 0),(7,I 0),(27,I 0),(26,.sl true [] 0 none),(25,B false),(24,B false),(23,B true),(22,I yO.hi),(21,.lref 3 0 2 1),(20,B false),(19,B false),(18,B true),(17,I yO.lo),(16,.lref 3 0 2 0),(6,.lref 3 0 2 0),(15,.agg [I yO.lo,I yO.hi]),(14,.lref 2 xi 2 0),(13,B true),(4,.sl true [] 0 none),(10,.lsl 2 0 ((a.l++b.l).length) 2 none),(11,I (((a.l++b.l).length:Nat):Int)),(12,I (xi:Int))],[(2,⟨yV.map Sn.D,2,false⟩),(3,⟨[.agg [I yO.lo,I yO.hi]],2,false⟩),(4,⟨[.agg [I yO.lo,I yO.hi]],2,false⟩),(5,⟨[.agg [I yO.lo,I yO.hi]],2,false⟩)],6,3⟩

inductive LR_ranges_gathered_4p2 where
 |x0 (yw:List Sn)
 |x1 (xi:Nat) (yO:Sn) (yw:List Sn)
 |x2 (xi:Nat) (yO:Sn) (yw:List Sn)
 |x3
 |x4 (xi:Nat) (yO:Sn)
 |x5 (xi:Nat) (yO:Sn)
instance:Inhabited LR_ranges_gathered_4p2:=⟨.x0 default⟩
def y6:List Sn→Nat→(List Sn)→LR_ranges_gathered_4p2
 |[],xi,yw=>.x0 yw
 |yO::xv,xi,yw =>
  bif (zq yO.lo) then
   bif (zq yO.hi) then
    bif decide ((yw.length:Int)>0) then
     bif decide (yO.lo≤(w64 (((yw.getD ((w64 ((yw.length:Int) - 1)).toNat) default).hi)+1))) then
      y6 xv (xi+1) (yw.set ((w64 ((yw.length:Int) - 1)).toNat) (⟨(yw.getD ((w64 ((yw.length:Int) - 1)).toNat) default).lo,zN ((yw.getD ((w64 ((yw.length:Int) - 1)).toNat) default).hi) yO.hi⟩:Sn))
     else
      y6 xv (xi+1) (yw++[yO])
    else
     y6 xv (xi+1) (yw++[yO])
   else
    .x1 xi yO yw
  else
   .x2 xi yO yw
def yj:List Sn→Nat→LR_ranges_gathered_4p2
 |[],xi=>.x3
 |yO::xv,xi =>
  bif (zq yO.lo) then
   bif (zq yO.hi) then
    y6 xv (xi+1) [yO]
   else
    .x4 xi yO
  else
   .x5 xi yO
def lr_ranges_gathered_4p2 (a:GS Sn) (b:GS Sn) (yV:List Sn):LR_ranges_gathered_4p2→Exit × St
 |.x0 yw=>((.exit 0),⟨65,[(13,B false),(4,.lsl 3 0 yw.length 2 none),(10,.lsl 2 0 ((a.l++b.l).length) 2 none),(11,I (((a.l++b.l).length:Nat):Int)),(12,I (yV.length:Int))],[(2,⟨yV.map Sn.D,2,false⟩),(3,⟨yw.map Sn.D,2,false⟩)],4,3⟩)
 |.x1 xi yO yw=>(.ret,⟨65,[(3,I 2),(2,.sl true [] 0 none),(25,B true),(24,B true),(23,B false),(22,I yO.hi),(21,.lref 4 0 2 1),(20,B false),(19,B false),(18,B true),(17,I yO.lo),(16,.lref 4 0 2 0),(6,.lref 4 0 2 0),(15,.agg [I yO.lo,I yO.hi]),(14,.lref 2 xi 2 0),(13,B true),(4,.lsl 3 0 yw.length 2 none),(10,.lsl 2 0 ((a.l++b.l).length) 2 none),(11,I (((a.l++b.l).length:Nat):Int)),(12,I (xi:Int))],[(2,⟨yV.map Sn.D,2,false⟩),(3,⟨yw.map Sn.D,2,false⟩),(4,⟨[.agg [I yO.lo,I yO.hi]],2,false⟩)],5,3⟩)
 |.x2 xi yO yw=>(.ret,⟨65,[(3,I 2),(2,.sl true [] 0 none),(25,B true),(24,.tup []),(23,.tup []),(22,.tup []),(21,.tup []),(20,B true),(19,B true),(18,B false),(17,I yO.lo),(16,.lref 4 0 2 0),(6,.lref 4 0 2 0),(15,.agg [I yO.lo,I yO.hi]),(14,.lref 2 xi 2 0),(13,B true),(4,.lsl 3 0 yw.length 2 none),(10,.lsl 2 0 ((a.l++b.l).length) 2 none),(11,I (((a.l++b.l).length:Nat):Int)),(12,I (xi:Int))],[(2,⟨yV.map Sn.D,2,false⟩),(3,⟨yw.map Sn.D,2,false⟩),(4,⟨[.agg [I yO.lo,I yO.hi]],2,false⟩)],5,3⟩)
 |.x3=>((.exit 0),⟨65,[(13,B false),(4,.sl true [] 0 none),(10,.lsl 2 0 ((a.l++b.l).length) 2 none),(11,I (((a.l++b.l).length:Nat):Int)),(12,I (yV.length:Int))],[(2,⟨yV.map Sn.D,2,false⟩)],3,3⟩)
 |.x4 xi yO=>(.ret,⟨65,[(3,I 2),(2,.sl true [] 0 none),(25,B true),(24,B true),(23,B false),(22,I yO.hi),(21,.lref 3 0 2 1),(20,B false),(19,B false),(18,B true),(17,I yO.lo),(16,.lref 3 0 2 0),(6,.lref 3 0 2 0),(15,.agg [I yO.lo,I yO.hi]),(14,.lref 2 xi 2 0),(13,B true),(4,.sl true [] 0 none),(10,.lsl 2 0 ((a.l++b.l).length) 2 none),(11,I (((a.l++b.l).length:Nat):Int)),(12,I (xi:Int))],[(2,⟨yV.map Sn.D,2,false⟩),(3,⟨[.agg [I yO.lo,I yO.hi]],2,false⟩)],4,3⟩)
 |.x5 xi yO=>(.ret,⟨65,[(3,I 2),(2,.sl true [] 0 none),(25,B true),(24,.tup []),(23,.tup []),(22,.tup []),(21,.tup []),(20,B true),(19,B true),(18,B false),(17,I yO.lo),(16,.lref 3 0 2 0),(6,.lref 3 0 2 0),(15,.agg [I yO.lo,I yO.hi]),(14,.lref 2 xi 2 0),(13,B true),(4,.sl true [] 0 none),(10,.lsl 2 0 ((a.l++b.l).length) 2 none),(11,I (((a.l++b.l).length:Nat):Int)),(12,I (xi:Int))],[(2,⟨yV.map Sn.D,2,false⟩),(3,⟨[.agg [I yO.lo,I yO.hi]],2,false⟩)],4,3⟩)
def iv_ranges_gathered_4p2 (a:GS Sn) (b:GS Sn) (yV:List Sn):LR_ranges_gathered_4p2→Prop
 |.x0 yw=>(1≤yw.length)∧(yw.length≤yV.length)
 |.x1 xi yO yw=>(1≤yw.length)∧(yw.length≤xi)
 |.x2 xi yO yw=>(1≤yw.length)∧(yw.length≤xi)
 |.x3=>True
 |.x4 xi yO=>True
 |.x5 xi yO=>True
def ranges_gathered_4p2a_l_o1 (xi:Nat) (yO:Sn):List Ora:=[.dec true,.op (some 14) ⟨.lref 2 xi 2 0,[],[],4⟩,.op (some 15) ⟨.agg [I yO.lo,I yO.hi],[],[2],4⟩,.pure (B (zq yO.lo))]
def ranges_gathered_4p2a_l_o2 (yO:Sn) (yw:List Sn):List Ora:=[.dec true,.pure (B (zq yO.hi)),.dec true,.dec true,.op (some 36) ⟨.lref 3 ((w64 ((yw.length:Int) - 1)).toNat) 2 0,[],[],5⟩,.op (some 38) ⟨I ((yw.getD ((w64 ((yw.length:Int) - 1)).toNat) default).hi),[],[3],5⟩]
theorem lp_ranges_gathered_4p2a (a:GS Sn) (b:GS Sn) (yV:List Sn):∀(xv:List Sn) (xi:Nat) (yw:List Sn) (xD:yV.drop xi=xv) (hi4p2:xi≤yV.length) (hz4p2_va4p2_0:1≤yw.length) (hq4p2:yV.length=(a.l++b.l).length) (hg4p2_va4p2_0:yw.length≤xi) (hL4p2:yV.length≤1099511627776),(lim cfg).loop 69 lp69_4 ⟨65,[(4,.lsl 3 0 yw.length 2 none),(10,.lsl 2 0 ((a.l++b.l).length) 2 none),(11,I (((a.l++b.l).length:Nat):Int)),(12,I (xi:Int))],[(2,⟨yV.map Sn.D,2,false⟩),(3,⟨yw.map Sn.D,2,false⟩)],4,3⟩=some (lr_ranges_gathered_4p2 a b yV (y6 xv xi yw)):=by
 intro xv
 induction xv with
 |nil =>
  intro xi yw xD hi4p2 hz4p2_va4p2_0 hq4p2 hg4p2_va4p2_0 hL4p2
  unfold y6
  obtain rfl:xi=yV.length:=zW xD hi4p2
  exact zD [.dec false] (Ai (lt_no' xD hq4p2) trivial) (by kernel_rfl)
 |cons yO xv ih =>
  intro xi yw xD hi4p2 hz4p2_va4p2_0 hq4p2 hg4p2_va4p2_0 hL4p2
  have hlt4p2:=zg xD
  unfold y6
  have p1:=(idx_row (C:=cfg) (nxt:=4) (t:=22) (ty:=ty22) (te:=zR) (e:=25) (o:=2) (len:=(a.l++b.l).length) (sz:=2) (cap:=none) (i:=(xi:Int)) (by kernel_rfl) rfl (by kernel_rfl) rfl (by omega) (by omega))
  have p2:=(load_row (C:=cfg) (objs:=[(2,⟨yV.map Sn.D,2,false⟩),(3,⟨yw.map Sn.D,2,false⟩)]) (nxt:=4) (t:=25) (ty:=zR) (o:=2) (n:=xi) (sz:=2) (sub:=0) (ob:=⟨yV.map Sn.D,2,false⟩) (e:=Sn.D yO) (d:=.agg [I yO.lo,I yO.hi]) (by kernel_rfl) (by kernel_rfl) rfl (row_at (f:=Sn.D) xD) (by kernel_rfl))
  cases h9:(zq yO.lo) with
  |true =>
   cases h10:(zq yO.hi) with
   |true =>
    cases h11:decide ((yw.length:Int)>0) with
    |true =>
     have g11:=of_decide_eq_true h11
     have p3:=(idx_row (C:=cfg) (nxt:=5) (t:=23) (ty:=ty23) (te:=zR) (e:=25) (o:=3) (len:=yw.length) (sz:=2) (cap:=none) (i:=w64 ((yw.length:Int) - 1)) (by kernel_rfl) rfl (by kernel_rfl) rfl (by simp only [length_append,length_cons,length_nil,zd] at *<;>omega) (by simp only [length_append,length_cons,length_nil,zd] at *<;>omega))
     have p4:=(load_row (C:=cfg) (objs:=[(2,⟨yV.map Sn.D,2,false⟩),(3,⟨yw.map Sn.D,2,false⟩),(4,⟨[.agg [I yO.lo,I yO.hi]],2,false⟩)]) (nxt:=5) (t:=3) (ty:=ty3) (o:=3) (n:=(w64 ((yw.length:Int) - 1)).toNat) (sz:=2) (sub:=1) (ob:=⟨yw.map Sn.D,2,false⟩) (e:=Sn.D (yw.getD ((w64 ((yw.length:Int) - 1)).toNat) default)) (d:=I ((yw.getD ((w64 ((yw.length:Int) - 1)).toNat) default).hi)) (by kernel_rfl) (by kernel_rfl) rfl (row_get (f:=Sn.D) (by simp only [length_append,length_cons,length_nil,zd] at *<;>omega)) (by kernel_rfl))
     cases h12:decide (yO.lo≤(w64 (((yw.getD ((w64 ((yw.length:Int) - 1)).toNat) default).hi)+1))) with
     |true =>
      have g12:=of_decide_eq_true h12
      exact zz (ks:=[4,10,11,12]) (st':=(sd247 a b xi yV yO yw)) ((ranges_gathered_4p2a_l_o1 xi yO)++((ranges_gathered_4p2a_l_o2 yO yw)++[.dec true,.op (some 48) ⟨.lref 3 ((w64 ((yw.length:Int) - 1)).toNat) 2 0,[],[],5⟩,.op (some 50) ⟨I ((yw.getD ((w64 ((yw.length:Int) - 1)).toNat) default).hi),[],[3],5⟩,.op (some 54) ⟨.lref 3 ((w64 ((yw.length:Int) - 1)).toNat) 2 0,[],[],5⟩,.stS 3 ⟨.tup [],[(3,some ⟨(yw.set ((w64 ((yw.length:Int) - 1)).toNat) (⟨(yw.getD ((w64 ((yw.length:Int) - 1)).toNat) default).lo,zN ((yw.getD ((w64 ((yw.length:Int) - 1)).toNat) default).hi) yO.hi⟩:Sn)).map Sn.D,2,false⟩)],[3],5⟩,.rw 60 (I ((xi+1:Nat):Int))])) (Ai (zM (i:=xi) (by have:=zg xD;omega)) (Ai (store_row (C:=cfg) (objs:=[(2,⟨yV.map Sn.D,2,false⟩),(3,⟨yw.map Sn.D,2,false⟩),(4,⟨[.agg [I yO.lo,I yO.hi]],2,false⟩)]) (nxt:=5) (t:=3) (ty:=ty3) (o:=3) (n:=(w64 ((yw.length:Int) - 1)).toNat) (sz:=2) (sub:=1) (els:=yw.map Sn.D) (els':=(yw.set ((w64 ((yw.length:Int) - 1)).toNat) (⟨(yw.getD ((w64 ((yw.length:Int) - 1)).toNat) default).lo,zN ((yw.getD ((w64 ((yw.length:Int) - 1)).toNat) default).hi) yO.hi⟩:Sn)).map Sn.D) (e:=Sn.D (yw.getD ((w64 ((yw.length:Int) - 1)).toNat) default)) (e':=Sn.D (⟨(yw.getD ((w64 ((yw.length:Int) - 1)).toNat) default).lo,zN ((yw.getD ((w64 ((yw.length:Int) - 1)).toNat) default).hi) yO.hi⟩:Sn)) (v:=I (zN ((yw.getD ((w64 ((yw.length:Int) - 1)).toNat) default).hi) yO.hi)) (by kernel_rfl) (by kernel_rfl) (row_get (f:=Sn.D) (by simp only [length_append,length_cons,length_nil,zd] at *<;>omega)) rfl (by kernel_rfl) rfl (by kernel_rfl) (row_set (f:=Sn.D))) (Ai (idx_row (C:=cfg) (nxt:=5) (t:=23) (ty:=ty23) (te:=zR) (e:=25) (o:=3) (len:=yw.length) (sz:=2) (cap:=none) (i:=w64 ((yw.length:Int) - 1)) (by kernel_rfl) rfl (by kernel_rfl) rfl (by simp only [length_append,length_cons,length_nil,zd] at *<;>omega) (by simp only [length_append,length_cons,length_nil,zd] at *<;>omega)) (Ai (load_row (C:=cfg) (objs:=[(2,⟨yV.map Sn.D,2,false⟩),(3,⟨yw.map Sn.D,2,false⟩),(4,⟨[.agg [I yO.lo,I yO.hi]],2,false⟩)]) (nxt:=5) (t:=3) (ty:=ty3) (o:=3) (n:=(w64 ((yw.length:Int) - 1)).toNat) (sz:=2) (sub:=1) (ob:=⟨yw.map Sn.D,2,false⟩) (e:=Sn.D (yw.getD ((w64 ((yw.length:Int) - 1)).toNat) default)) (d:=I ((yw.getD ((w64 ((yw.length:Int) - 1)).toNat) default).hi)) (by kernel_rfl) (by kernel_rfl) rfl (row_get (f:=Sn.D) (by simp only [length_append,length_cons,length_nil,zd] at *<;>omega)) (by kernel_rfl)) (Ai (idx_row (C:=cfg) (nxt:=5) (t:=23) (ty:=ty23) (te:=zR) (e:=25) (o:=3) (len:=yw.length) (sz:=2) (cap:=none) (i:=w64 ((yw.length:Int) - 1)) (by kernel_rfl) rfl (by kernel_rfl) rfl (by simp only [length_append,length_cons,length_nil,zd] at *<;>omega) (by simp only [length_append,length_cons,length_nil,zd] at *<;>omega)) (Ai h12 (Ai p4 (Ai p3 (Ai h11 (Ai h10 (Ai (zA yO.hi) (Ai h9 (Ai (zA yO.lo) (Ai p2 (Ai p1 (Ai (lt_at' xD hq4p2) trivial)))))))))))))))) (by kernel_rfl) (by (simp only [sd247,go_sem,length_set,Nat.reduceAdd,Nat.reduceEqDiff,Nat.reduceLT,Nat.reduceLeDiff,bI2,ze.idsL,ze.renL,ze.snapAll,z7.idsL,z7.renL,z7.snapAll])<;>rfl) (ih (xi+1) (yw.set ((w64 ((yw.length:Int) - 1)).toNat) (⟨(yw.getD ((w64 ((yw.length:Int) - 1)).toNat) default).lo,zN ((yw.getD ((w64 ((yw.length:Int) - 1)).toNat) default).hi) yO.hi⟩:Sn)) (zi xD) (zg xD) (by simp only [length_set] at *<;>omega) (by omega) (by simp only [length_set] at *<;>omega) (by omega)) (by kernel_rfl)
     |false =>
      have g12:=of_decide_eq_false h12
      exact zz (ks:=[4,10,11,12]) (st':=(sd248 a b xi yV yO yw)) ((ranges_gathered_4p2a_l_o1 xi yO)++((ranges_gathered_4p2a_l_o2 yO yw)++[.dec false,.op (some 59) ⟨.lsl 6 0 ((yw++[yO]).length) 2 none,[(3,none),(6,some ⟨(yw++[yO]).map Sn.D,2,false⟩)],[3,5],7⟩,.rw 60 (I ((xi+1:Nat):Int))])) (Ai (zM (i:=xi) (by have:=zg xD;omega)) (Ai (app_row (f:=Sn.D) (te:=zR) (gO:=zw [(2,⟨yV.map Sn.D,2,false⟩),(3,⟨yw.map Sn.D,2,false⟩),(4,⟨[.agg [I yO.lo,I yO.hi]],2,false⟩),(5,⟨[.agg [I yO.lo,I yO.hi]],2,false⟩)]) (nxt:=6) (o:=3) (o2:=5) (fz:=false) z7 yw yO (by kernel_rfl) (by kernel_rfl) rfl (by kernel_rfl) (by decide) ⟨by simp only [zR,big]<;>(first|assumption|omega|(exact zF (by omega) (by omega))|(exact zt (by omega))|(exact zm (by omega))|(exact zu (by omega))|(exact zn (by omega))|(exact zl _ (by omega))|(simp only [zd] at *<;>omega)|(simp only [zv,GS.some_l,length_set,length_append,length_cons,length_nil] at *<;>first|assumption|omega)|(simp only [zv,GS.some_l,length_set,length_append,length_cons,length_nil,zd] at *<;>first|assumption|omega)|(simp at *<;>omega)),by simp only [big]<;>(first|assumption|omega|(exact zF (by omega) (by omega))|(exact zt (by omega))|(exact zm (by omega))|(exact zu (by omega))|(exact zn (by omega))|(exact zl _ (by omega))|(simp only [zd] at *<;>omega)|(simp only [zv,GS.some_l,length_set,length_append,length_cons,length_nil] at *<;>first|assumption|omega)|(simp only [zv,GS.some_l,length_set,length_append,length_cons,length_nil,zd] at *<;>first|assumption|omega)|(simp at *<;>omega))⟩) (Ai h12 (Ai p4 (Ai p3 (Ai h11 (Ai h10 (Ai (zA yO.hi) (Ai h9 (Ai (zA yO.lo) (Ai p2 (Ai p1 (Ai (lt_at' xD hq4p2) trivial))))))))))))) (by kernel_rfl) (by (simp only [sd248,go_sem,length_set,Nat.reduceAdd,Nat.reduceEqDiff,Nat.reduceLT,Nat.reduceLeDiff,bI2,ze.idsL,ze.renL,ze.snapAll,z7.idsL,z7.renL,z7.snapAll])<;>rfl) (ih (xi+1) (yw++[yO]) (zi xD) (zg xD) (by simp only [length_append,length_cons,length_nil] at *<;>omega) (by omega) (by simp only [length_append,length_cons,length_nil] at *<;>omega) (by omega)) (by kernel_rfl)
    |false =>
     have g11:=of_decide_eq_false h11
     exact zz (ks:=[4,10,11,12]) (st':=(sd249 a b xi yV yO yw)) ((ranges_gathered_4p2a_l_o1 xi yO)++[.dec true,.pure (B (zq yO.hi)),.dec true,.dec false,.op (some 59) ⟨.lsl 6 0 ((yw++[yO]).length) 2 none,[(3,none),(6,some ⟨(yw++[yO]).map Sn.D,2,false⟩)],[3,5],7⟩,.rw 60 (I ((xi+1:Nat):Int))]) (Ai (zM (i:=xi) (by have:=zg xD;omega)) (Ai (app_row (f:=Sn.D) (te:=zR) (gO:=zw [(2,⟨yV.map Sn.D,2,false⟩),(3,⟨yw.map Sn.D,2,false⟩),(4,⟨[.agg [I yO.lo,I yO.hi]],2,false⟩),(5,⟨[.agg [I yO.lo,I yO.hi]],2,false⟩)]) (nxt:=6) (o:=3) (o2:=5) (fz:=false) z7 yw yO (by kernel_rfl) (by kernel_rfl) rfl (by kernel_rfl) (by decide) ⟨by simp only [zR,big]<;>(first|assumption|omega|(exact zF (by omega) (by omega))|(exact zt (by omega))|(exact zm (by omega))|(exact zu (by omega))|(exact zn (by omega))|(exact zl _ (by omega))|(simp only [zd] at *<;>omega)|(simp only [zv,GS.some_l,length_set,length_append,length_cons,length_nil] at *<;>first|assumption|omega)|(simp only [zv,GS.some_l,length_set,length_append,length_cons,length_nil,zd] at *<;>first|assumption|omega)|(simp at *<;>omega)),by simp only [big]<;>(first|assumption|omega|(exact zF (by omega) (by omega))|(exact zt (by omega))|(exact zm (by omega))|(exact zu (by omega))|(exact zn (by omega))|(exact zl _ (by omega))|(simp only [zd] at *<;>omega)|(simp only [zv,GS.some_l,length_set,length_append,length_cons,length_nil] at *<;>first|assumption|omega)|(simp only [zv,GS.some_l,length_set,length_append,length_cons,length_nil,zd] at *<;>first|assumption|omega)|(simp at *<;>omega))⟩) (Ai h11 (Ai h10 (Ai (zA yO.hi) (Ai h9 (Ai (zA yO.lo) (Ai p2 (Ai p1 (Ai (lt_at' xD hq4p2) trivial)))))))))) (by kernel_rfl) (by (simp only [sd249,go_sem,length_set,Nat.reduceAdd,Nat.reduceEqDiff,Nat.reduceLT,Nat.reduceLeDiff,bI2,ze.idsL,ze.renL,ze.snapAll,z7.idsL,z7.renL,z7.snapAll])<;>rfl) (ih (xi+1) (yw++[yO]) (zi xD) (zg xD) (by omega) (by omega) (by omega) (by omega)) (by kernel_rfl)
   |false =>
    exact zD ((ranges_gathered_4p2a_l_o1 xi yO)++[.dec true,.pure (B (zq yO.hi)),.dec false]) (Ai h10 (Ai (zA yO.hi) (Ai h9 (Ai (zA yO.lo) (Ai p2 (Ai p1 (Ai (lt_at' xD hq4p2) trivial))))))) (by kernel_rfl)
  |false =>
   exact zD ((ranges_gathered_4p2a_l_o1 xi yO)++[.dec false]) (Ai h9 (Ai (zA yO.lo) (Ai p2 (Ai p1 (Ai (lt_at' xD hq4p2) trivial))))) (by kernel_rfl)
theorem ivt_ranges_gathered_4p2a (a:GS Sn) (b:GS Sn) (yV:List Sn):∀(xv:List Sn) (xi:Nat) (yw:List Sn) (xD:yV.drop xi=xv) (hi4p2:xi≤yV.length) (hz4p2_va4p2_0:1≤yw.length) (hq4p2:yV.length=(a.l++b.l).length) (hg4p2_va4p2_0:yw.length≤xi) (hL4p2:yV.length≤1099511627776),iv_ranges_gathered_4p2 a b yV (y6 xv xi yw):=by
 intro xv
 induction xv with
 |nil =>
  intro xi yw xD hi4p2 hz4p2_va4p2_0 hq4p2 hg4p2_va4p2_0 hL4p2
  unfold y6
  obtain rfl:xi=yV.length:=zW xD hi4p2
  exact ⟨hz4p2_va4p2_0,hg4p2_va4p2_0⟩
 |cons yO xv ih =>
  intro xi yw xD hi4p2 hz4p2_va4p2_0 hq4p2 hg4p2_va4p2_0 hL4p2
  have hlt4p2:=zg xD
  unfold y6
  cases h9:(zq yO.lo) with
  |true =>
   cases h10:(zq yO.hi) with
   |true =>
    cases h11:decide ((yw.length:Int)>0) with
    |true =>
     have g11:=of_decide_eq_true h11
     cases h12:decide (yO.lo≤(w64 (((yw.getD ((w64 ((yw.length:Int) - 1)).toNat) default).hi)+1))) with
     |true =>
      have g12:=of_decide_eq_true h12
      exact ih (xi+1) (yw.set ((w64 ((yw.length:Int) - 1)).toNat) (⟨(yw.getD ((w64 ((yw.length:Int) - 1)).toNat) default).lo,zN ((yw.getD ((w64 ((yw.length:Int) - 1)).toNat) default).hi) yO.hi⟩:Sn)) (zi xD) (zg xD) (by simp only [length_set] at *<;>omega) (by omega) (by simp only [length_set] at *<;>omega) (by omega)
     |false =>
      have g12:=of_decide_eq_false h12
      exact ih (xi+1) (yw++[yO]) (zi xD) (zg xD) (by simp only [length_append,length_cons,length_nil] at *<;>omega) (by omega) (by simp only [length_append,length_cons,length_nil] at *<;>omega) (by omega)
    |false =>
     have g11:=of_decide_eq_false h11
     exact ih (xi+1) (yw++[yO]) (zi xD) (zg xD) (by omega) (by omega) (by omega) (by omega)
   |false =>
    exact ⟨hz4p2_va4p2_0,hg4p2_va4p2_0⟩
  |false =>
   exact ⟨hz4p2_va4p2_0,hg4p2_va4p2_0⟩
def ranges_gathered_4p2_l_o1 (xi:Nat) (yO:Sn):List Ora:=[.dec true,.op (some 14) ⟨.lref 2 xi 2 0,[],[],3⟩,.op (some 15) ⟨.agg [I yO.lo,I yO.hi],[],[2],3⟩,.pure (B (zq yO.lo))]
theorem lp_ranges_gathered_4p2 (a:GS Sn) (b:GS Sn) (yV:List Sn):∀(xv:List Sn) (xi:Nat) (xD:yV.drop xi=xv) (hi4p2:xi≤yV.length) (hq4p2:yV.length=(a.l++b.l).length) (hL4p2:yV.length≤1099511627776),(lim cfg).loop 69 lp69_4 ⟨65,[(4,.sl true [] 0 none),(10,.lsl 2 0 ((a.l++b.l).length) 2 none),(11,I (((a.l++b.l).length:Nat):Int)),(12,I (xi:Int))],[(2,⟨yV.map Sn.D,2,false⟩)],3,3⟩=some (lr_ranges_gathered_4p2 a b yV (yj xv xi)):=by
 intro xv
 induction xv with
 |nil =>
  intro xi xD hi4p2 hq4p2 hL4p2
  unfold yj
  obtain rfl:xi=yV.length:=zW xD hi4p2
  exact zD [.dec false] (Ai (lt_no' xD hq4p2) trivial) (by kernel_rfl)
 |cons yO xv ih =>
  intro xi xD hi4p2 hq4p2 hL4p2
  have hlt4p2:=zg xD
  unfold yj
  dsimp only
  have p1:=(idx_row (C:=cfg) (nxt:=3) (t:=22) (ty:=ty22) (te:=zR) (e:=25) (o:=2) (len:=(a.l++b.l).length) (sz:=2) (cap:=none) (i:=(xi:Int)) (by kernel_rfl) rfl (by kernel_rfl) rfl (by omega) (by omega))
  have p2:=(load_row (C:=cfg) (objs:=[(2,⟨yV.map Sn.D,2,false⟩)]) (nxt:=3) (t:=25) (ty:=zR) (o:=2) (n:=xi) (sz:=2) (sub:=0) (ob:=⟨yV.map Sn.D,2,false⟩) (e:=Sn.D yO) (d:=.agg [I yO.lo,I yO.hi]) (by kernel_rfl) (by kernel_rfl) rfl (row_at (f:=Sn.D) xD) (by kernel_rfl))
  cases h13:(zq yO.lo) with
  |true =>
   cases h14:(zq yO.hi) with
   |true =>
    exact zz (ks:=[4,10,11,12]) (st':=(sd250 a b xi yV yO)) ((ranges_gathered_4p2_l_o1 xi yO)++[.dec true,.pure (B (zq yO.hi)),.dec true,.dec false,.rw 60 (I ((xi+1:Nat):Int))]) (Ai (zM (i:=xi) (by have:=zg xD;omega)) (Ai (Eq.refl false) (Ai h14 (Ai (zA yO.hi) (Ai h13 (Ai (zA yO.lo) (Ai p2 (Ai p1 (Ai (lt_at' xD hq4p2) trivial))))))))) (by kernel_rfl) (by (simp only [sd250,go_sem,length_set,Nat.reduceAdd,Nat.reduceEqDiff,Nat.reduceLT,Nat.reduceLeDiff,bI2,ze.idsL,ze.renL,ze.snapAll,z7.idsL,z7.renL,z7.snapAll])<;>rfl) (lp_ranges_gathered_4p2a a b yV _ (xi+1) [yO] (zi xD) (zg xD) (by simp only [length_append,length_cons,length_nil] at *<;>omega) (by omega) (by simp only [length_append,length_cons,length_nil] at *<;>omega) (by omega)) (by kernel_rfl)
   |false =>
    exact zD ((ranges_gathered_4p2_l_o1 xi yO)++[.dec true,.pure (B (zq yO.hi)),.dec false]) (Ai h14 (Ai (zA yO.hi) (Ai h13 (Ai (zA yO.lo) (Ai p2 (Ai p1 (Ai (lt_at' xD hq4p2) trivial))))))) (by kernel_rfl)
  |false =>
   exact zD ((ranges_gathered_4p2_l_o1 xi yO)++[.dec false]) (Ai h13 (Ai (zA yO.lo) (Ai p2 (Ai p1 (Ai (lt_at' xD hq4p2) trivial))))) (by kernel_rfl)
theorem ivt_ranges_gathered_4p2 (a:GS Sn) (b:GS Sn) (yV:List Sn):∀(xv:List Sn) (xi:Nat) (xD:yV.drop xi=xv) (hi4p2:xi≤yV.length) (hq4p2:yV.length=(a.l++b.l).length) (hL4p2:yV.length≤1099511627776),iv_ranges_gathered_4p2 a b yV (yj xv xi):=by
 intro xv
 induction xv with
 |nil =>
  intro xi xD hi4p2 hq4p2 hL4p2
  unfold yj
  obtain rfl:xi=yV.length:=zW xD hi4p2
  exact trivial
 |cons yO xv ih =>
  intro xi xD hi4p2 hq4p2 hL4p2
  have hlt4p2:=zg xD
  unfold yj
  dsimp only
  cases h13:(zq yO.lo) with
  |true =>
   cases h14:(zq yO.hi) with
   |true =>
    exact ivt_ranges_gathered_4p2a a b yV _ (xi+1) [yO] (zi xD) (zg xD) (by simp only [length_append,length_cons,length_nil] at *<;>omega) (by omega) (by simp only [length_append,length_cons,length_nil] at *<;>omega) (by omega)
   |false =>
    exact trivial
  |false =>
   exact trivial

def y7 (a:GS Sn) (b:GS Sn):(GS Sn) × Int :=
 bif ((zJ (GS.some [a,b])) != 0) then
  (GS.nil,(zJ (GS.some [a,b])))
 else
  bif (a.l++b.l).isEmpty then
   (GS.nil,0)
  else
   match yj (zB zx (a.l++b.l)) 0 with
   |.x0 yw =>
    bif decide ((yw.length:Int)>64) then
     (GS.nil,2)
    else
     (GS.some yw,0)
   |.x1 xi yO yw =>
    (GS.nil,2)
   |.x2 xi yO yw =>
    (GS.nil,2)
   |.x3 =>
    (GS.nil,0)
   |.x4 xi yO =>
    (GS.nil,2)
   |.x5 xi yO =>
    (GS.nil,2)

def ranges_Union_o1 (a:GS Sn) (b:GS Sn):List Ora:=[.pure (I (zJ (GS.some [a,b]))),.dec false,.inl (.lsl 2 0 ((a.l++b.l).length) 2 none) [(1,⟨[.sl a.nl (a.l.map Sn.D) (zsl a.nl 2) none,.sl b.nl (b.l.map Sn.D) (zsl b.nl 2) none],1,false⟩),(2,⟨(a.l++b.l).map Sn.D,2,false⟩)] 3]

def sd252 (a:GS Sn) (b:GS Sn):St:=⟨65,[(4,.sl true [] 0 none),(10,.lsl 2 0 ((a.l++b.l).length) 2 none),(11,I (((a.l++b.l).length:Nat):Int)),(12,I 0)],[(2,⟨(zB zx (a.l++b.l)).map Sn.D,2,false⟩)],3,3⟩

def sd253 (a:GS Sn) (b:GS Sn) (yw:List Sn):St:=⟨65,[(13,B false),(4,.lsl 3 0 yw.length 2 none),(10,.lsl 2 0 ((a.l++b.l).length) 2 none),(11,I (((a.l++b.l).length:Nat):Int)),(12,I (((zB zx (a.l++b.l)).length:Nat):Int))],[(2,⟨(zB zx (a.l++b.l)).map Sn.D,2,false⟩),(3,⟨yw.map Sn.D,2,false⟩)],4,3⟩

def sd251 (a:GS Sn) (b:GS Sn):St:=⟨65,[(12,I 0),(11,I (((a.l++b.l).length:Nat):Int)),(10,.lsl 2 0 ((a.l++b.l).length) 2 none),(4,.sl true [] 0 none),(9,.tup []),(8,.lsl 2 0 ((a.l++b.l).length) 2 none),(3,I 0),(2,.sl true [] 0 none),(0,.lsl 2 0 ((a.l++b.l).length) 2 none)],[(2,⟨(zB zx (a.l++b.l)).map Sn.D,2,false⟩)],3,3⟩

def sd254 (a:GS Sn) (b:GS Sn) (xi:Nat) (yO:Sn) (yw:List Sn):St:=⟨65,[(3,I 2),(2,.sl true [] 0 none),(25,B true),(24,B true),(23,B false),(22,I yO.hi),(21,.lref 4 0 2 1),(20,B false),(19,B false),(18,B true),(17,I yO.lo),(16,.lref 4 0 2 0),(6,.lref 4 0 2 0),(15,.agg [I yO.lo,I yO.hi]),(14,.lref 2 xi 2 0),(13,B true),(4,.lsl 3 0 yw.length 2 none),(10,.lsl 2 0 ((a.l++b.l).length) 2 none),(11,I (((a.l++b.l).length:Nat):Int)),(12,I (xi:Int))],[(2,⟨(zB zx (a.l++b.l)).map Sn.D,2,false⟩),(3,⟨yw.map Sn.D,2,false⟩),(4,⟨[.agg [I yO.lo,I yO.hi]],2,false⟩)],5,3⟩

def sd255 (a:GS Sn) (b:GS Sn) (xi:Nat) (yO:Sn) (yw:List Sn):St:=⟨65,[(3,I 2),(2,.sl true [] 0 none),(25,B true),(24,.tup []),(23,.tup []),(22,.tup []),(21,.tup []),(20,B true),(19,B true),(18,B false),(17,I yO.lo),(16,.lref 4 0 2 0),(6,.lref 4 0 2 0),(15,.agg [I yO.lo,I yO.hi]),(14,.lref 2 xi 2 0),(13,B true),(4,.lsl 3 0 yw.length 2 none),(10,.lsl 2 0 ((a.l++b.l).length) 2 none),(11,I (((a.l++b.l).length:Nat):Int)),(12,I (xi:Int))],[(2,⟨(zB zx (a.l++b.l)).map Sn.D,2,false⟩),(3,⟨yw.map Sn.D,2,false⟩),(4,⟨[.agg [I yO.lo,I yO.hi]],2,false⟩)],5,3⟩

def sd256 (a:GS Sn) (b:GS Sn):St:=⟨65,[(13,B false),(4,.sl true [] 0 none),(10,.lsl 2 0 ((a.l++b.l).length) 2 none),(11,I (((a.l++b.l).length:Nat):Int)),(12,I (((zB zx (a.l++b.l)).length:Nat):Int))],[(2,⟨(zB zx (a.l++b.l)).map Sn.D,2,false⟩)],3,3⟩

def sd257 (a:GS Sn) (b:GS Sn) (xi:Nat) (yO:Sn):St:=⟨65,[(3,I 2),(2,.sl true [] 0 none),(25,B true),(24,B true),(23,B false),(22,I yO.hi),(21,.lref 3 0 2 1),(20,B false),(19,B false),(18,B true),(17,I yO.lo),(16,.lref 3 0 2 0),(6,.lref 3 0 2 0),(15,.agg [I yO.lo,I yO.hi]),(14,.lref 2 xi 2 0),(13,B true),(4,.sl true [] 0 none),(10,.lsl 2 0 ((a.l++b.l).length) 2 none),(11,I (((a.l++b.l).length:Nat):Int)),(12,I (xi:Int))],[(2,⟨(zB zx (a.l++b.l)).map Sn.D,2,false⟩),(3,⟨[.agg [I yO.lo,I yO.hi]],2,false⟩)],4,3⟩

def sd258 (a:GS Sn) (b:GS Sn) (xi:Nat) (yO:Sn):St:=⟨65,[(3,I 2),(2,.sl true [] 0 none),(25,B true),(24,.tup []),(23,.tup []),(22,.tup []),(21,.tup []),(20,B true),(19,B true),(18,B false),(17,I yO.lo),(16,.lref 3 0 2 0),(6,.lref 3 0 2 0),(15,.agg [I yO.lo,I yO.hi]),(14,.lref 2 xi 2 0),(13,B true),(4,.sl true [] 0 none),(10,.lsl 2 0 ((a.l++b.l).length) 2 none),(11,I (((a.l++b.l).length:Nat):Int)),(12,I (xi:Int))],[(2,⟨(zB zx (a.l++b.l)).map Sn.D,2,false⟩),(3,⟨[.agg [I yO.lo,I yO.hi]],2,false⟩)],4,3⟩

theorem T_ranges_Union (a:GS Sn) (b:GS Sn) (hLa:a.l.length≤9223372036854775807) (hLb:b.l.length≤9223372036854775807):(lim cfg).pure 45 [GS.D Sn.D 2 a,GS.D Sn.D 2 b]=some (.tup [GS.D Sn.D 2 ((y7 a b).1),I ((y7 a b).2)]):=by
 unfold y7
 have p1:=(T_ranges_check (GS.some [a,b]) (by exact zF (by omega) (by omega)) (by simp only [zv,GS.some_l,length_set,length_append,length_cons,length_nil] at *<;>first|assumption|omega))
 cases h1:((zJ (GS.some [a,b])) != 0) with
 |true =>
  have g1:=bne_true h1
  exact zp [.pure (I (zJ (GS.some [a,b]))),.dec true] (Ai h1 (Ai p1 trivial)) (by kernel_rfl)
 |false =>
  have g1:=check2_len (bne_false h1)
  cases h2:(a.l++b.l).isEmpty with
  |true =>
   exact zp [.pure (I (zJ (GS.some [a,b]))),.dec false,.inl (.sl true [] 0 none) [(1,⟨[.sl a.nl (a.l.map Sn.D) (zsl a.nl 2) none,.sl b.nl (b.l.map Sn.D) (zsl b.nl 2) none],1,false⟩)] 2,.inl (.tup [.sl true [] 0 none,I 0]) [] 2] (Ai (show (lim cfg).inl 69 [.sl true [] 0 none] [] 2=some (.tup [.sl true [] 0 none,I 0],[],2) from po_inl [.inl (.tup []) [] 2,.loop (.exit 0) ⟨65,[(13,B false),(4,.sl true [] 0 none),(10,.sl true [] 0 none),(11,I 0),(12,I 0)],[],2,2⟩,.dec false] (Ai (Eq.refl false) (Ai (show (lim cfg).loop 69 lp69_4 ⟨65,[(4,.sl true [] 0 none),(10,.sl true [] 0 none),(11,I 0),(12,I 0)],[],2,2⟩=some ((.exit 0),⟨65,[(13,B false),(4,.sl true [] 0 none),(10,.sl true [] 0 none),(11,I 0),(12,I 0)],[],2,2⟩) from (zD [.dec false] (Ai (Eq.refl false) trivial) (by kernel_rfl))) (Ai (T_sort_nil 2) trivial))) (by kernel_rfl)) (Ai (T_cat0 a b (by omega) (by omega) h2) (Ai h1 (Ai p1 trivial)))) (by kernel_rfl)
  |false =>
   have p2:=(T_cat1 a b (by omega) (by omega) h2)
   cases h15:yj (zB zx (a.l++b.l)) 0 with
   |x0 yw =>
    try dsimp only
    have hv_h15:=ivt_ranges_gathered_4p2 a b (zB zx (a.l++b.l)) (zB zx (a.l++b.l)) 0 (List.drop_zero) (Nat.zero_le _) (by simp only [zv,GS.some_l,length_set,length_append,length_cons,length_nil] at *<;>first|assumption|omega) (by simp only [zv,GS.some_l,length_set,length_append,length_cons,length_nil] at *<;>first|assumption|omega)
    rw [h15] at hv_h15
    obtain ⟨hv_h15_0,hv_h15_1⟩:=hv_h15
    try dsimp only [iv_ranges_gathered_4p2] at hv_h15_0
    try dsimp only [iv_ranges_gathered_4p2] at hv_h15_1
    cases h16:decide ((yw.length:Int)>64) with
    |true =>
     have g16:=of_decide_eq_true h16
     exact zp ((ranges_Union_o1 a b)++[.inlS [2] (.tup [.sl true [] 0 none,I 2]) [(2,⟨(zB zx (a.l++b.l)).map Sn.D,2,false⟩),(3,⟨yw.map Sn.D,2,false⟩)] 4]) (Ai (Ai (show zo [(0,⟨[.sl a.nl (a.l.map Sn.D) (zsl a.nl 2) none,.sl b.nl (b.l.map Sn.D) (zsl b.nl 2) none],1,false⟩),(1,⟨[.sl a.nl (a.l.map Sn.D) (zsl a.nl 2) none,.sl b.nl (b.l.map Sn.D) (zsl b.nl 2) none],1,false⟩),(2,⟨(a.l++b.l).map Sn.D,2,false⟩)] 256 [2] []=some [2] from (by (simp only [zo,go_sem,length_set,Nat.reduceAdd,Nat.reduceEqDiff,Nat.reduceLT,Nat.reduceLeDiff,bI2,ze.idsL,ze.renL,ze.snapAll,z7.idsL,z7.renL,z7.snapAll])<;>rfl)) (show (lim cfg).inl 69 [.lsl 2 0 ((a.l++b.l).length) 2 none] [(2,⟨(a.l++b.l).map Sn.D,2,false⟩)] 3=some (.tup [.sl true [] 0 none,I 2],[(2,⟨(zB zx (a.l++b.l)).map Sn.D,2,false⟩),(3,⟨yw.map Sn.D,2,false⟩)],4) from po_inl [.inlS [2] (.tup []) [(2,⟨(zB zx (a.l++b.l)).map Sn.D,2,false⟩)] 3,.gloop (sd252 a b) (.exit 0) (sd253 a b yw),.dec true] (Ai h16 (Ai (y8 (q:=lr_ranges_gathered_4p2 a b (zB zx (a.l++b.l))) (lp_ranges_gathered_4p2 a b (zB zx (a.l++b.l)) (zB zx (a.l++b.l)) 0 (List.drop_zero) (Nat.zero_le _) (by simp only [zv,GS.some_l,length_set,length_append,length_cons,length_nil] at *<;>first|assumption|omega) (by simp only [zv,GS.some_l,length_set,length_append,length_cons,length_nil] at *<;>first|assumption|omega)) h15) (Ai (gc_of (C:=cfg) (f:=69) (a:=lp69_4) (ks:=[4,10,11,12]) (st:=(sd251 a b)) (st1:=(sd252 a b)) (by kernel_rfl) (by (simp only [sd251,sd252,go_sem,length_set,Nat.reduceAdd,Nat.reduceEqDiff,Nat.reduceLT,Nat.reduceLeDiff,bI2,ze.idsL,ze.renL,ze.snapAll,z7.idsL,z7.renL,z7.snapAll])<;>rfl)) (Ai (Ai (show zo [(2,⟨(a.l++b.l).map Sn.D,2,false⟩)] 256 [2] []=some [2] from (by (simp only [zo,go_sem,length_set,Nat.reduceAdd,Nat.reduceEqDiff,Nat.reduceLT,Nat.reduceLeDiff,bI2,ze.idsL,ze.renL,ze.snapAll,z7.idsL,z7.renL,z7.snapAll])<;>rfl)) (T_sort 2 3 none (a.l++b.l) (by simp only [length_append,length_cons,length_nil] at *<;>omega))) trivial)))) (by kernel_rfl))) (Ai p2 (Ai h1 (Ai p1 trivial)))) (by kernel_rfl)
    |false =>
     have g16:=of_decide_eq_false h16
     exact po_pureS ((ranges_Union_o1 a b)++[.inlS [2] (.tup [.lsl 3 0 yw.length 2 none,I 0]) [(2,⟨(zB zx (a.l++b.l)).map Sn.D,2,false⟩),(3,⟨yw.map Sn.D,2,false⟩)] 4]) [(3,.sl false (yw.map Sn.D) 2 none,[3])] (Ai (snap_row (gO:=zw [(0,⟨[.sl a.nl (a.l.map Sn.D) (zsl a.nl 2) none,.sl b.nl (b.l.map Sn.D) (zsl b.nl 2) none],1,false⟩),(1,⟨[.sl a.nl (a.l.map Sn.D) (zsl a.nl 2) none,.sl b.nl (b.l.map Sn.D) (zsl b.nl 2) none],1,false⟩),(2,⟨(zB zx (a.l++b.l)).map Sn.D,2,false⟩),(3,⟨yw.map Sn.D,2,false⟩)]) (o:=3) (len:=yw.length) (cap:=none) (fz:=false) z7 yw (by kernel_rfl) (by omega)) (Ai (Ai (show zo [(0,⟨[.sl a.nl (a.l.map Sn.D) (zsl a.nl 2) none,.sl b.nl (b.l.map Sn.D) (zsl b.nl 2) none],1,false⟩),(1,⟨[.sl a.nl (a.l.map Sn.D) (zsl a.nl 2) none,.sl b.nl (b.l.map Sn.D) (zsl b.nl 2) none],1,false⟩),(2,⟨(a.l++b.l).map Sn.D,2,false⟩)] 256 [2] []=some [2] from (by (simp only [zo,go_sem,length_set,Nat.reduceAdd,Nat.reduceEqDiff,Nat.reduceLT,Nat.reduceLeDiff,bI2,ze.idsL,ze.renL,ze.snapAll,z7.idsL,z7.renL,z7.snapAll])<;>rfl)) (show (lim cfg).inl 69 [.lsl 2 0 ((a.l++b.l).length) 2 none] [(2,⟨(a.l++b.l).map Sn.D,2,false⟩)] 3=some (.tup [.lsl 3 0 yw.length 2 none,I 0],[(2,⟨(zB zx (a.l++b.l)).map Sn.D,2,false⟩),(3,⟨yw.map Sn.D,2,false⟩)],4) from po_inl [.inlS [2] (.tup []) [(2,⟨(zB zx (a.l++b.l)).map Sn.D,2,false⟩)] 3,.gloop (sd252 a b) (.exit 0) (sd253 a b yw),.dec false] (Ai h16 (Ai (y8 (q:=lr_ranges_gathered_4p2 a b (zB zx (a.l++b.l))) (lp_ranges_gathered_4p2 a b (zB zx (a.l++b.l)) (zB zx (a.l++b.l)) 0 (List.drop_zero) (Nat.zero_le _) (by simp only [zv,GS.some_l,length_set,length_append,length_cons,length_nil] at *<;>first|assumption|omega) (by simp only [zv,GS.some_l,length_set,length_append,length_cons,length_nil] at *<;>first|assumption|omega)) h15) (Ai (gc_of (C:=cfg) (f:=69) (a:=lp69_4) (ks:=[4,10,11,12]) (st:=(sd251 a b)) (st1:=(sd252 a b)) (by kernel_rfl) (by (simp only [sd251,sd252,go_sem,length_set,Nat.reduceAdd,Nat.reduceEqDiff,Nat.reduceLT,Nat.reduceLeDiff,bI2,ze.idsL,ze.renL,ze.snapAll,z7.idsL,z7.renL,z7.snapAll])<;>rfl)) (Ai (Ai (show zo [(2,⟨(a.l++b.l).map Sn.D,2,false⟩)] 256 [2] []=some [2] from (by (simp only [zo,go_sem,length_set,Nat.reduceAdd,Nat.reduceEqDiff,Nat.reduceLT,Nat.reduceLeDiff,bI2,ze.idsL,ze.renL,ze.snapAll,z7.idsL,z7.renL,z7.snapAll])<;>rfl)) (T_sort 2 3 none (a.l++b.l) (by simp only [length_append,length_cons,length_nil] at *<;>omega))) trivial)))) (by kernel_rfl))) (Ai p2 (Ai h1 (Ai p1 trivial))))) (by kernel_rfl)
   |x1 xi yO yw =>
    try dsimp only
    have hv_h15:=ivt_ranges_gathered_4p2 a b (zB zx (a.l++b.l)) (zB zx (a.l++b.l)) 0 (List.drop_zero) (Nat.zero_le _) (by simp only [zv,GS.some_l,length_set,length_append,length_cons,length_nil] at *<;>first|assumption|omega) (by simp only [zv,GS.some_l,length_set,length_append,length_cons,length_nil] at *<;>first|assumption|omega)
    rw [h15] at hv_h15
    obtain ⟨hv_h15_0,hv_h15_1⟩:=hv_h15
    try dsimp only [iv_ranges_gathered_4p2] at hv_h15_0
    try dsimp only [iv_ranges_gathered_4p2] at hv_h15_1
    exact zp ((ranges_Union_o1 a b)++[.inlS [2] (.tup [.sl true [] 0 none,I 2]) [(2,⟨(zB zx (a.l++b.l)).map Sn.D,2,false⟩),(3,⟨yw.map Sn.D,2,false⟩),(4,⟨[.agg [I yO.lo,I yO.hi]],2,false⟩)] 5]) (Ai (Ai (show zo [(0,⟨[.sl a.nl (a.l.map Sn.D) (zsl a.nl 2) none,.sl b.nl (b.l.map Sn.D) (zsl b.nl 2) none],1,false⟩),(1,⟨[.sl a.nl (a.l.map Sn.D) (zsl a.nl 2) none,.sl b.nl (b.l.map Sn.D) (zsl b.nl 2) none],1,false⟩),(2,⟨(a.l++b.l).map Sn.D,2,false⟩)] 256 [2] []=some [2] from (by (simp only [zo,go_sem,length_set,Nat.reduceAdd,Nat.reduceEqDiff,Nat.reduceLT,Nat.reduceLeDiff,bI2,ze.idsL,ze.renL,ze.snapAll,z7.idsL,z7.renL,z7.snapAll])<;>rfl)) (show (lim cfg).inl 69 [.lsl 2 0 ((a.l++b.l).length) 2 none] [(2,⟨(a.l++b.l).map Sn.D,2,false⟩)] 3=some (.tup [.sl true [] 0 none,I 2],[(2,⟨(zB zx (a.l++b.l)).map Sn.D,2,false⟩),(3,⟨yw.map Sn.D,2,false⟩),(4,⟨[.agg [I yO.lo,I yO.hi]],2,false⟩)],5) from po_inl [.inlS [2] (.tup []) [(2,⟨(zB zx (a.l++b.l)).map Sn.D,2,false⟩)] 3,.gloop (sd252 a b) .ret (sd254 a b xi yO yw)] (Ai (y8 (q:=lr_ranges_gathered_4p2 a b (zB zx (a.l++b.l))) (lp_ranges_gathered_4p2 a b (zB zx (a.l++b.l)) (zB zx (a.l++b.l)) 0 (List.drop_zero) (Nat.zero_le _) (by simp only [zv,GS.some_l,length_set,length_append,length_cons,length_nil] at *<;>first|assumption|omega) (by simp only [zv,GS.some_l,length_set,length_append,length_cons,length_nil] at *<;>first|assumption|omega)) h15) (Ai (gc_of (C:=cfg) (f:=69) (a:=lp69_4) (ks:=[4,10,11,12]) (st:=(sd251 a b)) (st1:=(sd252 a b)) (by kernel_rfl) (by (simp only [sd251,sd252,go_sem,length_set,Nat.reduceAdd,Nat.reduceEqDiff,Nat.reduceLT,Nat.reduceLeDiff,bI2,ze.idsL,ze.renL,ze.snapAll,z7.idsL,z7.renL,z7.snapAll])<;>rfl)) (Ai (Ai (show zo [(2,⟨(a.l++b.l).map Sn.D,2,false⟩)] 256 [2] []=some [2] from (by (simp only [zo,go_sem,length_set,Nat.reduceAdd,Nat.reduceEqDiff,Nat.reduceLT,Nat.reduceLeDiff,bI2,ze.idsL,ze.renL,ze.snapAll,z7.idsL,z7.renL,z7.snapAll])<;>rfl)) (T_sort 2 3 none (a.l++b.l) (by simp only [length_append,length_cons,length_nil] at *<;>omega))) trivial))) (by kernel_rfl))) (Ai p2 (Ai h1 (Ai p1 trivial)))) (by kernel_rfl)
   |x2 xi yO yw =>
    try dsimp only
    have hv_h15:=ivt_ranges_gathered_4p2 a b (zB zx (a.l++b.l)) (zB zx (a.l++b.l)) 0 (List.drop_zero) (Nat.zero_le _) (by simp only [zv,GS.some_l,length_set,length_append,length_cons,length_nil] at *<;>first|assumption|omega) (by simp only [zv,GS.some_l,length_set,length_append,length_cons,length_nil] at *<;>first|assumption|omega)
    rw [h15] at hv_h15
    obtain ⟨hv_h15_0,hv_h15_1⟩:=hv_h15
    try dsimp only [iv_ranges_gathered_4p2] at hv_h15_0
    try dsimp only [iv_ranges_gathered_4p2] at hv_h15_1
    exact zp ((ranges_Union_o1 a b)++[.inlS [2] (.tup [.sl true [] 0 none,I 2]) [(2,⟨(zB zx (a.l++b.l)).map Sn.D,2,false⟩),(3,⟨yw.map Sn.D,2,false⟩),(4,⟨[.agg [I yO.lo,I yO.hi]],2,false⟩)] 5]) (Ai (Ai (show zo [(0,⟨[.sl a.nl (a.l.map Sn.D) (zsl a.nl 2) none,.sl b.nl (b.l.map Sn.D) (zsl b.nl 2) none],1,false⟩),(1,⟨[.sl a.nl (a.l.map Sn.D) (zsl a.nl 2) none,.sl b.nl (b.l.map Sn.D) (zsl b.nl 2) none],1,false⟩),(2,⟨(a.l++b.l).map Sn.D,2,false⟩)] 256 [2] []=some [2] from (by (simp only [zo,go_sem,length_set,Nat.reduceAdd,Nat.reduceEqDiff,Nat.reduceLT,Nat.reduceLeDiff,bI2,ze.idsL,ze.renL,ze.snapAll,z7.idsL,z7.renL,z7.snapAll])<;>rfl)) (show (lim cfg).inl 69 [.lsl 2 0 ((a.l++b.l).length) 2 none] [(2,⟨(a.l++b.l).map Sn.D,2,false⟩)] 3=some (.tup [.sl true [] 0 none,I 2],[(2,⟨(zB zx (a.l++b.l)).map Sn.D,2,false⟩),(3,⟨yw.map Sn.D,2,false⟩),(4,⟨[.agg [I yO.lo,I yO.hi]],2,false⟩)],5) from po_inl [.inlS [2] (.tup []) [(2,⟨(zB zx (a.l++b.l)).map Sn.D,2,false⟩)] 3,.gloop (sd252 a b) .ret (sd255 a b xi yO yw)] (Ai (y8 (q:=lr_ranges_gathered_4p2 a b (zB zx (a.l++b.l))) (lp_ranges_gathered_4p2 a b (zB zx (a.l++b.l)) (zB zx (a.l++b.l)) 0 (List.drop_zero) (Nat.zero_le _) (by simp only [zv,GS.some_l,length_set,length_append,length_cons,length_nil] at *<;>first|assumption|omega) (by simp only [zv,GS.some_l,length_set,length_append,length_cons,length_nil] at *<;>first|assumption|omega)) h15) (Ai (gc_of (C:=cfg) (f:=69) (a:=lp69_4) (ks:=[4,10,11,12]) (st:=(sd251 a b)) (st1:=(sd252 a b)) (by kernel_rfl) (by (simp only [sd251,sd252,go_sem,length_set,Nat.reduceAdd,Nat.reduceEqDiff,Nat.reduceLT,Nat.reduceLeDiff,bI2,ze.idsL,ze.renL,ze.snapAll,z7.idsL,z7.renL,z7.snapAll])<;>rfl)) (Ai (Ai (show zo [(2,⟨(a.l++b.l).map Sn.D,2,false⟩)] 256 [2] []=some [2] from (by (simp only [zo,go_sem,length_set,Nat.reduceAdd,Nat.reduceEqDiff,Nat.reduceLT,Nat.reduceLeDiff,bI2,ze.idsL,ze.renL,ze.snapAll,z7.idsL,z7.renL,z7.snapAll])<;>rfl)) (T_sort 2 3 none (a.l++b.l) (by simp only [length_append,length_cons,length_nil] at *<;>omega))) trivial))) (by kernel_rfl))) (Ai p2 (Ai h1 (Ai p1 trivial)))) (by kernel_rfl)
   |x3 =>
    try dsimp only
    exact zp ((ranges_Union_o1 a b)++[.inlS [2] (.tup [.sl true [] 0 none,I 0]) [(2,⟨(zB zx (a.l++b.l)).map Sn.D,2,false⟩)] 3]) (Ai (Ai (show zo [(0,⟨[.sl a.nl (a.l.map Sn.D) (zsl a.nl 2) none,.sl b.nl (b.l.map Sn.D) (zsl b.nl 2) none],1,false⟩),(1,⟨[.sl a.nl (a.l.map Sn.D) (zsl a.nl 2) none,.sl b.nl (b.l.map Sn.D) (zsl b.nl 2) none],1,false⟩),(2,⟨(a.l++b.l).map Sn.D,2,false⟩)] 256 [2] []=some [2] from (by (simp only [zo,go_sem,length_set,Nat.reduceAdd,Nat.reduceEqDiff,Nat.reduceLT,Nat.reduceLeDiff,bI2,ze.idsL,ze.renL,ze.snapAll,z7.idsL,z7.renL,z7.snapAll])<;>rfl)) (show (lim cfg).inl 69 [.lsl 2 0 ((a.l++b.l).length) 2 none] [(2,⟨(a.l++b.l).map Sn.D,2,false⟩)] 3=some (.tup [.sl true [] 0 none,I 0],[(2,⟨(zB zx (a.l++b.l)).map Sn.D,2,false⟩)],3) from po_inl [.inlS [2] (.tup []) [(2,⟨(zB zx (a.l++b.l)).map Sn.D,2,false⟩)] 3,.gloop (sd252 a b) (.exit 0) (sd256 a b),.dec false] (Ai (Eq.refl false) (Ai (y8 (q:=lr_ranges_gathered_4p2 a b (zB zx (a.l++b.l))) (lp_ranges_gathered_4p2 a b (zB zx (a.l++b.l)) (zB zx (a.l++b.l)) 0 (List.drop_zero) (Nat.zero_le _) (by simp only [zv,GS.some_l,length_set,length_append,length_cons,length_nil] at *<;>first|assumption|omega) (by simp only [zv,GS.some_l,length_set,length_append,length_cons,length_nil] at *<;>first|assumption|omega)) h15) (Ai (gc_of (C:=cfg) (f:=69) (a:=lp69_4) (ks:=[4,10,11,12]) (st:=(sd251 a b)) (st1:=(sd252 a b)) (by kernel_rfl) (by (simp only [sd251,sd252,go_sem,length_set,Nat.reduceAdd,Nat.reduceEqDiff,Nat.reduceLT,Nat.reduceLeDiff,bI2,ze.idsL,ze.renL,ze.snapAll,z7.idsL,z7.renL,z7.snapAll])<;>rfl)) (Ai (Ai (show zo [(2,⟨(a.l++b.l).map Sn.D,2,false⟩)] 256 [2] []=some [2] from (by (simp only [zo,go_sem,length_set,Nat.reduceAdd,Nat.reduceEqDiff,Nat.reduceLT,Nat.reduceLeDiff,bI2,ze.idsL,ze.renL,ze.snapAll,z7.idsL,z7.renL,z7.snapAll])<;>rfl)) (T_sort 2 3 none (a.l++b.l) (by simp only [length_append,length_cons,length_nil] at *<;>omega))) trivial)))) (by kernel_rfl))) (Ai p2 (Ai h1 (Ai p1 trivial)))) (by kernel_rfl)
   |x4 xi yO =>
    try dsimp only
    exact zp ((ranges_Union_o1 a b)++[.inlS [2] (.tup [.sl true [] 0 none,I 2]) [(2,⟨(zB zx (a.l++b.l)).map Sn.D,2,false⟩),(3,⟨[.agg [I yO.lo,I yO.hi]],2,false⟩)] 4]) (Ai (Ai (show zo [(0,⟨[.sl a.nl (a.l.map Sn.D) (zsl a.nl 2) none,.sl b.nl (b.l.map Sn.D) (zsl b.nl 2) none],1,false⟩),(1,⟨[.sl a.nl (a.l.map Sn.D) (zsl a.nl 2) none,.sl b.nl (b.l.map Sn.D) (zsl b.nl 2) none],1,false⟩),(2,⟨(a.l++b.l).map Sn.D,2,false⟩)] 256 [2] []=some [2] from (by (simp only [zo,go_sem,length_set,Nat.reduceAdd,Nat.reduceEqDiff,Nat.reduceLT,Nat.reduceLeDiff,bI2,ze.idsL,ze.renL,ze.snapAll,z7.idsL,z7.renL,z7.snapAll])<;>rfl)) (show (lim cfg).inl 69 [.lsl 2 0 ((a.l++b.l).length) 2 none] [(2,⟨(a.l++b.l).map Sn.D,2,false⟩)] 3=some (.tup [.sl true [] 0 none,I 2],[(2,⟨(zB zx (a.l++b.l)).map Sn.D,2,false⟩),(3,⟨[.agg [I yO.lo,I yO.hi]],2,false⟩)],4) from po_inl [.inlS [2] (.tup []) [(2,⟨(zB zx (a.l++b.l)).map Sn.D,2,false⟩)] 3,.gloop (sd252 a b) .ret (sd257 a b xi yO)] (Ai (y8 (q:=lr_ranges_gathered_4p2 a b (zB zx (a.l++b.l))) (lp_ranges_gathered_4p2 a b (zB zx (a.l++b.l)) (zB zx (a.l++b.l)) 0 (List.drop_zero) (Nat.zero_le _) (by simp only [zv,GS.some_l,length_set,length_append,length_cons,length_nil] at *<;>first|assumption|omega) (by simp only [zv,GS.some_l,length_set,length_append,length_cons,length_nil] at *<;>first|assumption|omega)) h15) (Ai (gc_of (C:=cfg) (f:=69) (a:=lp69_4) (ks:=[4,10,11,12]) (st:=(sd251 a b)) (st1:=(sd252 a b)) (by kernel_rfl) (by (simp only [sd251,sd252,go_sem,length_set,Nat.reduceAdd,Nat.reduceEqDiff,Nat.reduceLT,Nat.reduceLeDiff,bI2,ze.idsL,ze.renL,ze.snapAll,z7.idsL,z7.renL,z7.snapAll])<;>rfl)) (Ai (Ai (show zo [(2,⟨(a.l++b.l).map Sn.D,2,false⟩)] 256 [2] []=some [2] from (by (simp only [zo,go_sem,length_set,Nat.reduceAdd,Nat.reduceEqDiff,Nat.reduceLT,Nat.reduceLeDiff,bI2,ze.idsL,ze.renL,ze.snapAll,z7.idsL,z7.renL,z7.snapAll])<;>rfl)) (T_sort 2 3 none (a.l++b.l) (by simp only [length_append,length_cons,length_nil] at *<;>omega))) trivial))) (by kernel_rfl))) (Ai p2 (Ai h1 (Ai p1 trivial)))) (by kernel_rfl)
   |x5 xi yO =>
    try dsimp only
    exact zp ((ranges_Union_o1 a b)++[.inlS [2] (.tup [.sl true [] 0 none,I 2]) [(2,⟨(zB zx (a.l++b.l)).map Sn.D,2,false⟩),(3,⟨[.agg [I yO.lo,I yO.hi]],2,false⟩)] 4]) (Ai (Ai (show zo [(0,⟨[.sl a.nl (a.l.map Sn.D) (zsl a.nl 2) none,.sl b.nl (b.l.map Sn.D) (zsl b.nl 2) none],1,false⟩),(1,⟨[.sl a.nl (a.l.map Sn.D) (zsl a.nl 2) none,.sl b.nl (b.l.map Sn.D) (zsl b.nl 2) none],1,false⟩),(2,⟨(a.l++b.l).map Sn.D,2,false⟩)] 256 [2] []=some [2] from (by (simp only [zo,go_sem,length_set,Nat.reduceAdd,Nat.reduceEqDiff,Nat.reduceLT,Nat.reduceLeDiff,bI2,ze.idsL,ze.renL,ze.snapAll,z7.idsL,z7.renL,z7.snapAll])<;>rfl)) (show (lim cfg).inl 69 [.lsl 2 0 ((a.l++b.l).length) 2 none] [(2,⟨(a.l++b.l).map Sn.D,2,false⟩)] 3=some (.tup [.sl true [] 0 none,I 2],[(2,⟨(zB zx (a.l++b.l)).map Sn.D,2,false⟩),(3,⟨[.agg [I yO.lo,I yO.hi]],2,false⟩)],4) from po_inl [.inlS [2] (.tup []) [(2,⟨(zB zx (a.l++b.l)).map Sn.D,2,false⟩)] 3,.gloop (sd252 a b) .ret (sd258 a b xi yO)] (Ai (y8 (q:=lr_ranges_gathered_4p2 a b (zB zx (a.l++b.l))) (lp_ranges_gathered_4p2 a b (zB zx (a.l++b.l)) (zB zx (a.l++b.l)) 0 (List.drop_zero) (Nat.zero_le _) (by simp only [zv,GS.some_l,length_set,length_append,length_cons,length_nil] at *<;>first|assumption|omega) (by simp only [zv,GS.some_l,length_set,length_append,length_cons,length_nil] at *<;>first|assumption|omega)) h15) (Ai (gc_of (C:=cfg) (f:=69) (a:=lp69_4) (ks:=[4,10,11,12]) (st:=(sd251 a b)) (st1:=(sd252 a b)) (by kernel_rfl) (by (simp only [sd251,sd252,go_sem,length_set,Nat.reduceAdd,Nat.reduceEqDiff,Nat.reduceLT,Nat.reduceLeDiff,bI2,ze.idsL,ze.renL,ze.snapAll,z7.idsL,z7.renL,z7.snapAll])<;>rfl)) (Ai (Ai (show zo [(2,⟨(a.l++b.l).map Sn.D,2,false⟩)] 256 [2] []=some [2] from (by (simp only [zo,go_sem,length_set,Nat.reduceAdd,Nat.reduceEqDiff,Nat.reduceLT,Nat.reduceLeDiff,bI2,ze.idsL,ze.renL,ze.snapAll,z7.idsL,z7.renL,z7.snapAll])<;>rfl)) (T_sort 2 3 none (a.l++b.l) (by simp only [length_append,length_cons,length_nil] at *<;>omega))) trivial))) (by kernel_rfl))) (Ai p2 (Ai h1 (Ai p1 trivial)))) (by kernel_rfl)
end Go.VS

