/- Nothing of a statement is proved in this text alone: it is part 4 of the proof's own tools, an evaluator of the code over deep values, its soundness, and what it makes of this seat's functions. Conditions: none beyond the statement's own. -/
import Derived.Test.YtpkjnefhnedfdaaGreatDoorVsRCSums3
set_option linter.unusedSimpArgs false
set_option linter.unusedVariables false
namespace Go.VS
open Go Go.Proofs
set_option maxHeartbeats 0
set_option linter.unusedSimpArgs false
set_option linter.unusedVariables false
noncomputable def lp87_6:Code:=subC [1,0,1,1,0,1,0,0,1,1,0,0,1,1,0,0] (bodyC Tryz.f87)

def sd53 (a:GS Sn) (b:GS Sn) (i3:Nat) (x3:Sn) (i6:Nat) (x6:Sn) (xd:List Sn):St:=⟨40,[(22,I ((i6+1:Nat):Int)),(37,I ((i6+1:Nat):Int)),(36,B false),(7,.lsl 1 0 xd.length 2 none),(35,.lsl 1 0 xd.length 2 none),(34,.sl (((zc x3 x6).1).nl) ((((zc x3 x6).1).l).map Sn.D) (zsl (((zc x3 x6).1).nl) 2) none),(33,.lsl 1 0 xd.length 2 none),(13,B false),(12,.sl (((zc x3 x6).1).nl) ((((zc x3 x6).1).l).map Sn.D) (zsl (((zc x3 x6).1).nl) 2) none),(32,B false),(31,.sl (((zc x3 x6).1).nl) ((((zc x3 x6).1).l).map Sn.D) (zsl (((zc x3 x6).1).nl) 2) none),(26,.tup [.sl (((zc x3 x6).1).nl) ((((zc x3 x6).1).l).map Sn.D) (zsl (((zc x3 x6).1).nl) 2) none,B ((zc x3 x6).2)]),(30,.tup [.sl (((zc x3 x6).1).nl) ((((zc x3 x6).1).l).map Sn.D) (zsl (((zc x3 x6).1).nl) 2) none,B ((zc x3 x6).2)]),(29,.agg [I x6.lo,I x6.hi]),(28,.agg [I x3.lo,I x3.hi]),(27,.fn (.func 88) [] []),(11,.lref 3 0 2 0),(25,.agg [I x6.lo,I x6.hi]),(24,.ptr (.agg [I x6.lo,I x6.hi])),(23,B true),(1,.sl b.nl (b.l.map Sn.D) (zsl b.nl 2) none),(2,.fn (.func 88) [] []),(7,.lsl 1 0 xd.length 2 none),(9,.lref 2 0 2 0),(14,.sl a.nl (a.l.map Sn.D) (zsl a.nl 2) none),(15,I ((a.l.length:Nat):Int)),(16,I ((i3:Nat):Int)),(20,.sl b.nl (b.l.map Sn.D) (zsl b.nl 2) none),(21,I ((b.l.length:Nat):Int)),(22,I ((i6:Nat):Int))],[(1,⟨xd.map Sn.D,2,false⟩),(2,⟨[.agg [I x3.lo,I x3.hi]],2,false⟩),(3,⟨[.agg [I x6.lo,I x6.hi]],2,false⟩)],4,1⟩

def sd54 (a:GS Sn) (b:GS Sn) (i3:Nat) (x3:Sn) (i6:Nat) (x6:Sn) (xd:List Sn):St:=⟨40,[(22,I ((i6+1:Nat):Int)),(37,I ((i6+1:Nat):Int)),(36,B false),(7,.lsl 4 0 ((xd++(((zc x3 x6).1).l)).length) 2 none),(35,.lsl 4 0 ((xd++(((zc x3 x6).1).l)).length) 2 none),(34,.sl (((zc x3 x6).1).nl) ((((zc x3 x6).1).l).map Sn.D) (zsl (((zc x3 x6).1).nl) 2) none),(33,.lsl 1 0 xd.length 2 none),(13,B false),(12,.sl (((zc x3 x6).1).nl) ((((zc x3 x6).1).l).map Sn.D) (zsl (((zc x3 x6).1).nl) 2) none),(32,B false),(31,.sl (((zc x3 x6).1).nl) ((((zc x3 x6).1).l).map Sn.D) (zsl (((zc x3 x6).1).nl) 2) none),(26,.tup [.sl (((zc x3 x6).1).nl) ((((zc x3 x6).1).l).map Sn.D) (zsl (((zc x3 x6).1).nl) 2) none,B ((zc x3 x6).2)]),(30,.tup [.sl (((zc x3 x6).1).nl) ((((zc x3 x6).1).l).map Sn.D) (zsl (((zc x3 x6).1).nl) 2) none,B ((zc x3 x6).2)]),(29,.agg [I x6.lo,I x6.hi]),(28,.agg [I x3.lo,I x3.hi]),(27,.fn (.func 88) [] []),(11,.lref 3 0 2 0),(25,.agg [I x6.lo,I x6.hi]),(24,.ptr (.agg [I x6.lo,I x6.hi])),(23,B true),(1,.sl b.nl (b.l.map Sn.D) (zsl b.nl 2) none),(2,.fn (.func 88) [] []),(7,.lsl 1 0 xd.length 2 none),(9,.lref 2 0 2 0),(14,.sl a.nl (a.l.map Sn.D) (zsl a.nl 2) none),(15,I ((a.l.length:Nat):Int)),(16,I ((i3:Nat):Int)),(20,.sl b.nl (b.l.map Sn.D) (zsl b.nl 2) none),(21,I ((b.l.length:Nat):Int)),(22,I ((i6:Nat):Int))],[(2,⟨[.agg [I x3.lo,I x3.hi]],2,false⟩),(3,⟨[.agg [I x6.lo,I x6.hi]],2,false⟩),(4,⟨(xd++(((zc x3 x6).1).l)).map Sn.D,2,false⟩)],5,1⟩

inductive LR_ranges_pairs_6 where
 | x0 (xd:List Sn)
instance:Inhabited LR_ranges_pairs_6:=⟨.x0 default⟩
def ranges_pairs_6 (x3:Sn):List Sn→(List Sn)→LR_ranges_pairs_6
 | [],xd=>.x0 xd
 | x6::rest6,xd =>
  bif (((zc x3 x6).1).l).isEmpty then
   ranges_pairs_6 x3 rest6 xd
  else
   ranges_pairs_6 x3 rest6 (xd++(((zc x3 x6).1).l))
def lr_ranges_pairs_6 (a:GS Sn) (b:GS Sn) (i3:Nat) (x3:Sn):LR_ranges_pairs_6→Exit × St
 | .x0 xd=>((.exit 2),⟨40,[(23,B false),(1,.sl b.nl (b.l.map Sn.D) (zsl b.nl 2) none),(2,.fn (.func 88) [] []),(7,.lsl 1 0 xd.length 2 none),(9,.lref 2 0 2 0),(14,.sl a.nl (a.l.map Sn.D) (zsl a.nl 2) none),(15,I ((a.l.length:Nat):Int)),(16,I ((i3:Nat):Int)),(20,.sl b.nl (b.l.map Sn.D) (zsl b.nl 2) none),(21,I ((b.l.length:Nat):Int)),(22,I ((b.l.length:Nat):Int))],[(1,⟨xd.map Sn.D,2,false⟩),(2,⟨[.agg [I x3.lo,I x3.hi]],2,false⟩)],3,1⟩)
def iv_ranges_pairs_6 (a:GS Sn) (b:GS Sn) (i3:Nat) (x3:Sn):LR_ranges_pairs_6→Prop
 | .x0 xd=>(xd.length≤65 * i3+b.l.length)
theorem lp_ranges_pairs_6 (a:GS Sn) (b:GS Sn) (i3:Nat) (x3:Sn):∀ (rest6:List Sn) (i6:Nat) (xd:List Sn) (hd6:b.l.drop i6=rest6) (hi6:i6≤b.l.length) (xe:b.l.length≤65) (ho64:i3 < 64) (hg6_v6_0:xd.length≤65 * i3+i6) (hL6:b.l.length≤1099511627776),(lim cfg).loop 87 lp87_6 ⟨40,[(1,.sl b.nl (b.l.map Sn.D) (zsl b.nl 2) none),(2,.fn (.func 88) [] []),(7,.lsl 1 0 xd.length 2 none),(9,.lref 2 0 2 0),(14,.sl a.nl (a.l.map Sn.D) (zsl a.nl 2) none),(15,I ((a.l.length:Nat):Int)),(16,I ((i3:Nat):Int)),(20,.sl b.nl (b.l.map Sn.D) (zsl b.nl 2) none),(21,I ((b.l.length:Nat):Int)),(22,I ((i6:Nat):Int))],[(1,⟨xd.map Sn.D,2,false⟩),(2,⟨[.agg [I x3.lo,I x3.hi]],2,false⟩)],3,1⟩=some (lr_ranges_pairs_6 a b i3 x3 (ranges_pairs_6 x3 rest6 xd)):=by
 intro rest6
 induction rest6 with
 | nil =>
  intro i6 xd hd6 hi6 xe ho64 hg6_v6_0 hL6
  unfold ranges_pairs_6
  obtain rfl:i6=b.l.length:=zY hd6 hi6
  exact zR [.dec false] (Ai (lt_no hd6) trivial) (by kernel_rfl)
 | cons x6 rest6 ih =>
  intro i6 xd hd6 hi6 xe ho64 hg6_v6_0 hL6
  have hlt6:=zg hd6
  have hlx:=sum1_len x3 x6
  unfold ranges_pairs_6
  cases h11:(((zc x3 x6).1).l).isEmpty with
  | true =>
   exact zH (ks:=[1,2,7,9,14,15,16,20,21,22]) (st':=(sd53 a b i3 x3 i6 x6 xd)) [.dec true,.el (.agg [I x6.lo,I x6.hi]),.pure (.tup [.sl (((zc x3 x6).1).nl) ((((zc x3 x6).1).l).map Sn.D) (zsl (((zc x3 x6).1).nl) 2) none,B ((zc x3 x6).2)]),.dec false,.op (some 35) ⟨.lsl 1 0 xd.length 2 none,[],[],4⟩,.rw 37 (I ((i6+1:Nat):Int))] (Ai (zZ (i:=i6) (by have:=zg hd6; omega)) (Ai (app_none (te:=ye) (gO:=zu [(1,⟨xd.map Sn.D,2,false⟩),(2,⟨[.agg [I x3.lo,I x3.hi]],2,false⟩),(3,⟨[.agg [I x6.lo,I x6.hi]],2,false⟩)]) (nxt:=4) (f:=Sn.D) (sz:=2) (d:=.lsl 1 0 xd.length 2 none) ((zc x3 x6).1) h11 rfl) (Ai (show ((zc x3 x6).2)=false from rfl) (Ai (T_ranges_Sum_1 x3 x6) (Ai (el_at (s:=b) (f:=Sn.D) (k:=2) hd6) (Ai (lt_at hd6) trivial)))))) (by kernel_rfl) (by (simp only [sd53,go_sem,List.length_set,Nat.reduceAdd,Nat.reduceEqDiff,Nat.reduceLT,Nat.reduceLeDiff,bI2,zb.idsL,zb.renL,zb.snapAll,z6.idsL,z6.renL,z6.snapAll]) <;> rfl) (ih (i6+1) xd (zj hd6) (zg hd6) (by omega) (by omega) (by omega) (by omega)) (by kernel_rfl)
  | false =>
   exact zH (ks:=[1,2,7,9,14,15,16,20,21,22]) (st':=(sd54 a b i3 x3 i6 x6 xd)) [.dec true,.el (.agg [I x6.lo,I x6.hi]),.pure (.tup [.sl (((zc x3 x6).1).nl) ((((zc x3 x6).1).l).map Sn.D) (zsl (((zc x3 x6).1).nl) 2) none,B ((zc x3 x6).2)]),.dec false,.op (some 35) ⟨.lsl 4 0 ((xd++(((zc x3 x6).1).l)).length) 2 none,[(1,none),(4,some ⟨(xd++(((zc x3 x6).1).l)).map Sn.D,2,false⟩)],[1],5⟩,.rw 37 (I ((i6+1:Nat):Int))] (Ai (zZ (i:=i6) (by have:=zg hd6; omega)) (Ai (app_moreD (te:=ye) (gO:=zu [(1,⟨xd.map Sn.D,2,false⟩),(2,⟨[.agg [I x3.lo,I x3.hi]],2,false⟩),(3,⟨[.agg [I x6.lo,I x6.hi]],2,false⟩)]) (nxt:=4) (o:=1) (v:=xd) z6 ((zc x3 x6).1) h11 (by kernel_rfl) rfl (by kernel_rfl) (by decide) ⟨by simp only [ye,big] <;> (first | assumption | omega | (exact zT (by omega) (by omega)) | (exact zA (by omega)) | (exact zr (by omega)) | (exact zB (by omega)) | (exact zt (by omega)) | (simp only [zf] at * <;> omega) | (simp only [zq,GS.some_l,List.length_set,List.length_append,List.length_cons,List.length_nil] at * <;> first | with_reducible assumption | omega) | (simp only [zq,GS.some_l,List.length_set,List.length_append,List.length_cons,List.length_nil,zf] at * <;> first | with_reducible assumption | omega) | (simp at * <;> omega)),by simp only [big] <;> (first | assumption | omega | (exact zT (by omega) (by omega)) | (exact zA (by omega)) | (exact zr (by omega)) | (exact zB (by omega)) | (exact zt (by omega)) | (simp only [zf] at * <;> omega) | (simp only [zq,GS.some_l,List.length_set,List.length_append,List.length_cons,List.length_nil] at * <;> first | with_reducible assumption | omega) | (simp only [zq,GS.some_l,List.length_set,List.length_append,List.length_cons,List.length_nil,zf] at * <;> first | with_reducible assumption | omega) | (simp at * <;> omega))⟩) (Ai (show ((zc x3 x6).2)=false from rfl) (Ai (T_ranges_Sum_1 x3 x6) (Ai (el_at (s:=b) (f:=Sn.D) (k:=2) hd6) (Ai (lt_at hd6) trivial)))))) (by kernel_rfl) (by (simp only [sd54,go_sem,List.length_set,Nat.reduceAdd,Nat.reduceEqDiff,Nat.reduceLT,Nat.reduceLeDiff,bI2,zb.idsL,zb.renL,zb.snapAll,z6.idsL,z6.renL,z6.snapAll]) <;> rfl) (ih (i6+1) (xd++(((zc x3 x6).1).l)) (zj hd6) (zg hd6) (by omega) (by omega) (by simp only [List.length_append,List.length_cons,List.length_nil] at * <;> omega) (by omega)) (by kernel_rfl)
theorem ivt_ranges_pairs_6 (a:GS Sn) (b:GS Sn) (i3:Nat) (x3:Sn):∀ (rest6:List Sn) (i6:Nat) (xd:List Sn) (hd6:b.l.drop i6=rest6) (hi6:i6≤b.l.length) (xe:b.l.length≤65) (ho64:i3 < 64) (hg6_v6_0:xd.length≤65 * i3+i6) (hL6:b.l.length≤1099511627776),iv_ranges_pairs_6 a b i3 x3 (ranges_pairs_6 x3 rest6 xd):=by
 intro rest6
 induction rest6 with
 | nil =>
  intro i6 xd hd6 hi6 xe ho64 hg6_v6_0 hL6
  unfold ranges_pairs_6
  obtain rfl:i6=b.l.length:=zY hd6 hi6
  exact hg6_v6_0
 | cons x6 rest6 ih =>
  intro i6 xd hd6 hi6 xe ho64 hg6_v6_0 hL6
  have hlt6:=zg hd6
  have hlx:=sum1_len x3 x6
  unfold ranges_pairs_6
  cases h11:(((zc x3 x6).1).l).isEmpty with
  | true =>
   exact ih (i6+1) xd (zj hd6) (zg hd6) (by omega) (by omega) (by omega) (by omega)
  | false =>
   exact ih (i6+1) (xd++(((zc x3 x6).1).l)) (zj hd6) (zg hd6) (by omega) (by omega) (by simp only [List.length_append,List.length_cons,List.length_nil] at * <;> omega) (by omega)

def sd56 (a:GS Sn) (b:GS Sn) (i3:Nat) (x3:Sn) (xj:Nat) (yI:Sn) (yC:List Sn):St:=⟨40,[(22,I ((xj+1:Nat):Int)),(37,I ((xj+1:Nat):Int)),(36,B false),(7,.lsl 1 0 yC.length 2 none),(35,.lsl 1 0 yC.length 2 none),(34,.sl (((zc x3 yI).1).nl) ((((zc x3 yI).1).l).map Sn.D) (zsl (((zc x3 yI).1).nl) 2) none),(33,.lsl 1 0 yC.length 2 none),(13,B false),(12,.sl (((zc x3 yI).1).nl) ((((zc x3 yI).1).l).map Sn.D) (zsl (((zc x3 yI).1).nl) 2) none),(32,B false),(31,.sl (((zc x3 yI).1).nl) ((((zc x3 yI).1).l).map Sn.D) (zsl (((zc x3 yI).1).nl) 2) none),(26,.tup [.sl (((zc x3 yI).1).nl) ((((zc x3 yI).1).l).map Sn.D) (zsl (((zc x3 yI).1).nl) 2) none,B ((zc x3 yI).2)]),(30,.tup [.sl (((zc x3 yI).1).nl) ((((zc x3 yI).1).l).map Sn.D) (zsl (((zc x3 yI).1).nl) 2) none,B ((zc x3 yI).2)]),(29,.agg [I yI.lo,I yI.hi]),(28,.agg [I x3.lo,I x3.hi]),(27,.fn (.func 88) [] []),(11,.lref 3 0 2 0),(25,.agg [I yI.lo,I yI.hi]),(24,.ptr (.agg [I yI.lo,I yI.hi])),(23,B true),(1,.sl b.nl (b.l.map Sn.D) (zsl b.nl 2) none),(2,.fn (.func 88) [] []),(7,.lsl 1 0 yC.length 2 none),(9,.lref 2 0 2 0),(14,.sl a.nl (a.l.map Sn.D) (zsl a.nl 2) none),(15,I ((a.l.length:Nat):Int)),(16,I ((i3:Nat):Int)),(20,.sl b.nl (b.l.map Sn.D) (zsl b.nl 2) none),(21,I ((b.l.length:Nat):Int)),(22,I ((xj:Nat):Int))],[(1,⟨yC.map Sn.D,2,false⟩),(2,⟨[.agg [I x3.lo,I x3.hi]],2,false⟩),(3,⟨[.agg [I yI.lo,I yI.hi]],2,false⟩)],4,1⟩

def sd57 (a:GS Sn) (b:GS Sn) (i3:Nat) (x3:Sn) (xj:Nat) (yI:Sn) (yC:List Sn):St:=⟨40,[(22,I ((xj+1:Nat):Int)),(37,I ((xj+1:Nat):Int)),(36,B false),(7,.lsl 4 0 ((yC++(((zc x3 yI).1).l)).length) 2 none),(35,.lsl 4 0 ((yC++(((zc x3 yI).1).l)).length) 2 none),(34,.sl (((zc x3 yI).1).nl) ((((zc x3 yI).1).l).map Sn.D) (zsl (((zc x3 yI).1).nl) 2) none),(33,.lsl 1 0 yC.length 2 none),(13,B false),(12,.sl (((zc x3 yI).1).nl) ((((zc x3 yI).1).l).map Sn.D) (zsl (((zc x3 yI).1).nl) 2) none),(32,B false),(31,.sl (((zc x3 yI).1).nl) ((((zc x3 yI).1).l).map Sn.D) (zsl (((zc x3 yI).1).nl) 2) none),(26,.tup [.sl (((zc x3 yI).1).nl) ((((zc x3 yI).1).l).map Sn.D) (zsl (((zc x3 yI).1).nl) 2) none,B ((zc x3 yI).2)]),(30,.tup [.sl (((zc x3 yI).1).nl) ((((zc x3 yI).1).l).map Sn.D) (zsl (((zc x3 yI).1).nl) 2) none,B ((zc x3 yI).2)]),(29,.agg [I yI.lo,I yI.hi]),(28,.agg [I x3.lo,I x3.hi]),(27,.fn (.func 88) [] []),(11,.lref 3 0 2 0),(25,.agg [I yI.lo,I yI.hi]),(24,.ptr (.agg [I yI.lo,I yI.hi])),(23,B true),(1,.sl b.nl (b.l.map Sn.D) (zsl b.nl 2) none),(2,.fn (.func 88) [] []),(7,.lsl 1 0 yC.length 2 none),(9,.lref 2 0 2 0),(14,.sl a.nl (a.l.map Sn.D) (zsl a.nl 2) none),(15,I ((a.l.length:Nat):Int)),(16,I ((i3:Nat):Int)),(20,.sl b.nl (b.l.map Sn.D) (zsl b.nl 2) none),(21,I ((b.l.length:Nat):Int)),(22,I ((xj:Nat):Int))],[(2,⟨[.agg [I x3.lo,I x3.hi]],2,false⟩),(3,⟨[.agg [I yI.lo,I yI.hi]],2,false⟩),(4,⟨(yC++(((zc x3 yI).1).l)).map Sn.D,2,false⟩)],5,1⟩

def sd58 (a:GS Sn) (b:GS Sn) (i3:Nat) (x3:Sn) (xj:Nat) (yI:Sn):St:=⟨40,[(22,I ((xj+1:Nat):Int)),(37,I ((xj+1:Nat):Int)),(36,B false),(7,.lsl 3 0 ((((zc x3 yI).1).l).length) 2 none),(35,.lsl 3 0 ((((zc x3 yI).1).l).length) 2 none),(34,.sl (((zc x3 yI).1).nl) ((((zc x3 yI).1).l).map Sn.D) (zsl (((zc x3 yI).1).nl) 2) none),(33,.sl true [] 0 none),(13,B false),(12,.sl (((zc x3 yI).1).nl) ((((zc x3 yI).1).l).map Sn.D) (zsl (((zc x3 yI).1).nl) 2) none),(32,B false),(31,.sl (((zc x3 yI).1).nl) ((((zc x3 yI).1).l).map Sn.D) (zsl (((zc x3 yI).1).nl) 2) none),(26,.tup [.sl (((zc x3 yI).1).nl) ((((zc x3 yI).1).l).map Sn.D) (zsl (((zc x3 yI).1).nl) 2) none,B ((zc x3 yI).2)]),(30,.tup [.sl (((zc x3 yI).1).nl) ((((zc x3 yI).1).l).map Sn.D) (zsl (((zc x3 yI).1).nl) 2) none,B ((zc x3 yI).2)]),(29,.agg [I yI.lo,I yI.hi]),(28,.agg [I x3.lo,I x3.hi]),(27,.fn (.func 88) [] []),(11,.lref 2 0 2 0),(25,.agg [I yI.lo,I yI.hi]),(24,.ptr (.agg [I yI.lo,I yI.hi])),(23,B true),(1,.sl b.nl (b.l.map Sn.D) (zsl b.nl 2) none),(2,.fn (.func 88) [] []),(7,.sl true [] 0 none),(9,.lref 1 0 2 0),(14,.sl a.nl (a.l.map Sn.D) (zsl a.nl 2) none),(15,I ((a.l.length:Nat):Int)),(16,I ((i3:Nat):Int)),(20,.sl b.nl (b.l.map Sn.D) (zsl b.nl 2) none),(21,I ((b.l.length:Nat):Int)),(22,I ((xj:Nat):Int))],[(1,⟨[.agg [I x3.lo,I x3.hi]],2,false⟩),(2,⟨[.agg [I yI.lo,I yI.hi]],2,false⟩),(3,⟨(((zc x3 yI).1).l).map Sn.D,2,false⟩)],4,1⟩

inductive LR_ranges_pairs_6p1 where
 | x0 (yC:List Sn)
 | x1
instance:Inhabited LR_ranges_pairs_6p1:=⟨.x0 default⟩
def yg (x3:Sn):List Sn→(List Sn)→LR_ranges_pairs_6p1
 | [],yC=>.x0 yC
 | yI::yN,yC =>
  bif (((zc x3 yI).1).l).isEmpty then
   yg x3 yN yC
  else
   yg x3 yN (yC++(((zc x3 yI).1).l))
def ranges_pairs_6p1 (x3:Sn):List Sn→LR_ranges_pairs_6p1
 | []=>.x1
 | yI::yN =>
  bif (((zc x3 yI).1).l).isEmpty then
   ranges_pairs_6p1 x3 yN
  else
   yg x3 yN (((zc x3 yI).1).l)
def lr_ranges_pairs_6p1 (a:GS Sn) (b:GS Sn) (i3:Nat) (x3:Sn):LR_ranges_pairs_6p1→Exit × St
 | .x0 yC=>((.exit 2),⟨40,[(23,B false),(1,.sl b.nl (b.l.map Sn.D) (zsl b.nl 2) none),(2,.fn (.func 88) [] []),(7,.lsl 1 0 yC.length 2 none),(9,.lref 2 0 2 0),(14,.sl a.nl (a.l.map Sn.D) (zsl a.nl 2) none),(15,I ((a.l.length:Nat):Int)),(16,I ((i3:Nat):Int)),(20,.sl b.nl (b.l.map Sn.D) (zsl b.nl 2) none),(21,I ((b.l.length:Nat):Int)),(22,I ((b.l.length:Nat):Int))],[(1,⟨yC.map Sn.D,2,false⟩),(2,⟨[.agg [I x3.lo,I x3.hi]],2,false⟩)],3,1⟩)
 | .x1=>((.exit 2),⟨40,[(23,B false),(1,.sl b.nl (b.l.map Sn.D) (zsl b.nl 2) none),(2,.fn (.func 88) [] []),(7,.sl true [] 0 none),(9,.lref 1 0 2 0),(14,.sl a.nl (a.l.map Sn.D) (zsl a.nl 2) none),(15,I ((a.l.length:Nat):Int)),(16,I ((i3:Nat):Int)),(20,.sl b.nl (b.l.map Sn.D) (zsl b.nl 2) none),(21,I ((b.l.length:Nat):Int)),(22,I ((b.l.length:Nat):Int))],[(1,⟨[.agg [I x3.lo,I x3.hi]],2,false⟩)],2,1⟩)
def iv_ranges_pairs_6p1 (a:GS Sn) (b:GS Sn) (i3:Nat) (x3:Sn):LR_ranges_pairs_6p1→Prop
 | .x0 yC=>(yC.length≤65 * i3+b.l.length)
 | .x1=>True
theorem lp_ranges_pairs_6p1a (a:GS Sn) (b:GS Sn) (i3:Nat) (x3:Sn):∀ (yN:List Sn) (xj:Nat) (yC:List Sn) (yT:b.l.drop xj=yN) (hi6p1:xj≤b.l.length) (xe:b.l.length≤65) (ho64:i3 < 64) (hg6p1_va6p1_0:yC.length≤65 * i3+xj) (hL6p1:b.l.length≤1099511627776),(lim cfg).loop 87 lp87_6 ⟨40,[(1,.sl b.nl (b.l.map Sn.D) (zsl b.nl 2) none),(2,.fn (.func 88) [] []),(7,.lsl 1 0 yC.length 2 none),(9,.lref 2 0 2 0),(14,.sl a.nl (a.l.map Sn.D) (zsl a.nl 2) none),(15,I ((a.l.length:Nat):Int)),(16,I ((i3:Nat):Int)),(20,.sl b.nl (b.l.map Sn.D) (zsl b.nl 2) none),(21,I ((b.l.length:Nat):Int)),(22,I ((xj:Nat):Int))],[(1,⟨yC.map Sn.D,2,false⟩),(2,⟨[.agg [I x3.lo,I x3.hi]],2,false⟩)],3,1⟩=some (lr_ranges_pairs_6p1 a b i3 x3 (yg x3 yN yC)):=by
 intro yN
 induction yN with
 | nil =>
  intro xj yC yT hi6p1 xe ho64 hg6p1_va6p1_0 hL6p1
  unfold yg
  obtain rfl:xj=b.l.length:=zY yT hi6p1
  exact zR [.dec false] (Ai (lt_no yT) trivial) (by kernel_rfl)
 | cons yI yN ih =>
  intro xj yC yT hi6p1 xe ho64 hg6p1_va6p1_0 hL6p1
  have hlt6p1:=zg yT
  have hlx:=sum1_len x3 yI
  unfold yg
  cases h15:(((zc x3 yI).1).l).isEmpty with
  | true =>
   exact zH (ks:=[1,2,7,9,14,15,16,20,21,22]) (st':=(sd56 a b i3 x3 xj yI yC)) [.dec true,.el (.agg [I yI.lo,I yI.hi]),.pure (.tup [.sl (((zc x3 yI).1).nl) ((((zc x3 yI).1).l).map Sn.D) (zsl (((zc x3 yI).1).nl) 2) none,B ((zc x3 yI).2)]),.dec false,.op (some 35) ⟨.lsl 1 0 yC.length 2 none,[],[],4⟩,.rw 37 (I ((xj+1:Nat):Int))] (Ai (zZ (i:=xj) (by have:=zg yT; omega)) (Ai (app_none (te:=ye) (gO:=zu [(1,⟨yC.map Sn.D,2,false⟩),(2,⟨[.agg [I x3.lo,I x3.hi]],2,false⟩),(3,⟨[.agg [I yI.lo,I yI.hi]],2,false⟩)]) (nxt:=4) (f:=Sn.D) (sz:=2) (d:=.lsl 1 0 yC.length 2 none) ((zc x3 yI).1) h15 rfl) (Ai (show ((zc x3 yI).2)=false from rfl) (Ai (T_ranges_Sum_1 x3 yI) (Ai (el_at (s:=b) (f:=Sn.D) (k:=2) yT) (Ai (lt_at yT) trivial)))))) (by kernel_rfl) (by (simp only [sd56,go_sem,List.length_set,Nat.reduceAdd,Nat.reduceEqDiff,Nat.reduceLT,Nat.reduceLeDiff,bI2,zb.idsL,zb.renL,zb.snapAll,z6.idsL,z6.renL,z6.snapAll]) <;> rfl) (ih (xj+1) yC (zj yT) (zg yT) (by omega) (by omega) (by omega) (by omega)) (by kernel_rfl)
  | false =>
   exact zH (ks:=[1,2,7,9,14,15,16,20,21,22]) (st':=(sd57 a b i3 x3 xj yI yC)) [.dec true,.el (.agg [I yI.lo,I yI.hi]),.pure (.tup [.sl (((zc x3 yI).1).nl) ((((zc x3 yI).1).l).map Sn.D) (zsl (((zc x3 yI).1).nl) 2) none,B ((zc x3 yI).2)]),.dec false,.op (some 35) ⟨.lsl 4 0 ((yC++(((zc x3 yI).1).l)).length) 2 none,[(1,none),(4,some ⟨(yC++(((zc x3 yI).1).l)).map Sn.D,2,false⟩)],[1],5⟩,.rw 37 (I ((xj+1:Nat):Int))] (Ai (zZ (i:=xj) (by have:=zg yT; omega)) (Ai (app_moreD (te:=ye) (gO:=zu [(1,⟨yC.map Sn.D,2,false⟩),(2,⟨[.agg [I x3.lo,I x3.hi]],2,false⟩),(3,⟨[.agg [I yI.lo,I yI.hi]],2,false⟩)]) (nxt:=4) (o:=1) (v:=yC) z6 ((zc x3 yI).1) h15 (by kernel_rfl) rfl (by kernel_rfl) (by decide) ⟨by simp only [ye,big] <;> (first | assumption | omega | (exact zT (by omega) (by omega)) | (exact zA (by omega)) | (exact zr (by omega)) | (exact zB (by omega)) | (exact zt (by omega)) | (simp only [zf] at * <;> omega) | (simp only [zq,GS.some_l,List.length_set,List.length_append,List.length_cons,List.length_nil] at * <;> first | with_reducible assumption | omega) | (simp only [zq,GS.some_l,List.length_set,List.length_append,List.length_cons,List.length_nil,zf] at * <;> first | with_reducible assumption | omega) | (simp at * <;> omega)),by simp only [big] <;> (first | assumption | omega | (exact zT (by omega) (by omega)) | (exact zA (by omega)) | (exact zr (by omega)) | (exact zB (by omega)) | (exact zt (by omega)) | (simp only [zf] at * <;> omega) | (simp only [zq,GS.some_l,List.length_set,List.length_append,List.length_cons,List.length_nil] at * <;> first | with_reducible assumption | omega) | (simp only [zq,GS.some_l,List.length_set,List.length_append,List.length_cons,List.length_nil,zf] at * <;> first | with_reducible assumption | omega) | (simp at * <;> omega))⟩) (Ai (show ((zc x3 yI).2)=false from rfl) (Ai (T_ranges_Sum_1 x3 yI) (Ai (el_at (s:=b) (f:=Sn.D) (k:=2) yT) (Ai (lt_at yT) trivial)))))) (by kernel_rfl) (by (simp only [sd57,go_sem,List.length_set,Nat.reduceAdd,Nat.reduceEqDiff,Nat.reduceLT,Nat.reduceLeDiff,bI2,zb.idsL,zb.renL,zb.snapAll,z6.idsL,z6.renL,z6.snapAll]) <;> rfl) (ih (xj+1) (yC++(((zc x3 yI).1).l)) (zj yT) (zg yT) (by omega) (by omega) (by simp only [List.length_append,List.length_cons,List.length_nil] at * <;> omega) (by omega)) (by kernel_rfl)
theorem ivt_ranges_pairs_6p1a (a:GS Sn) (b:GS Sn) (i3:Nat) (x3:Sn):∀ (yN:List Sn) (xj:Nat) (yC:List Sn) (yT:b.l.drop xj=yN) (hi6p1:xj≤b.l.length) (xe:b.l.length≤65) (ho64:i3 < 64) (hg6p1_va6p1_0:yC.length≤65 * i3+xj) (hL6p1:b.l.length≤1099511627776),iv_ranges_pairs_6p1 a b i3 x3 (yg x3 yN yC):=by
 intro yN
 induction yN with
 | nil =>
  intro xj yC yT hi6p1 xe ho64 hg6p1_va6p1_0 hL6p1
  unfold yg
  obtain rfl:xj=b.l.length:=zY yT hi6p1
  exact hg6p1_va6p1_0
 | cons yI yN ih =>
  intro xj yC yT hi6p1 xe ho64 hg6p1_va6p1_0 hL6p1
  have hlt6p1:=zg yT
  have hlx:=sum1_len x3 yI
  unfold yg
  cases h15:(((zc x3 yI).1).l).isEmpty with
  | true =>
   exact ih (xj+1) yC (zj yT) (zg yT) (by omega) (by omega) (by omega) (by omega)
  | false =>
   exact ih (xj+1) (yC++(((zc x3 yI).1).l)) (zj yT) (zg yT) (by omega) (by omega) (by simp only [List.length_append,List.length_cons,List.length_nil] at * <;> omega) (by omega)
theorem lp_ranges_pairs_6p1 (a:GS Sn) (b:GS Sn) (i3:Nat) (x3:Sn):∀ (yN:List Sn) (xj:Nat) (yT:b.l.drop xj=yN) (hi6p1:xj≤b.l.length) (xe:b.l.length≤65) (ho64:i3 < 64) (hL6p1:b.l.length≤1099511627776),(lim cfg).loop 87 lp87_6 ⟨40,[(1,.sl b.nl (b.l.map Sn.D) (zsl b.nl 2) none),(2,.fn (.func 88) [] []),(7,.sl true [] 0 none),(9,.lref 1 0 2 0),(14,.sl a.nl (a.l.map Sn.D) (zsl a.nl 2) none),(15,I ((a.l.length:Nat):Int)),(16,I ((i3:Nat):Int)),(20,.sl b.nl (b.l.map Sn.D) (zsl b.nl 2) none),(21,I ((b.l.length:Nat):Int)),(22,I ((xj:Nat):Int))],[(1,⟨[.agg [I x3.lo,I x3.hi]],2,false⟩)],2,1⟩=some (lr_ranges_pairs_6p1 a b i3 x3 (ranges_pairs_6p1 x3 yN)):=by
 intro yN
 induction yN with
 | nil =>
  intro xj yT hi6p1 xe ho64 hL6p1
  unfold ranges_pairs_6p1
  obtain rfl:xj=b.l.length:=zY yT hi6p1
  exact zR [.dec false] (Ai (lt_no yT) trivial) (by kernel_rfl)
 | cons yI yN ih =>
  intro xj yT hi6p1 xe ho64 hL6p1
  have hlt6p1:=zg yT
  have hlx:=sum1_len x3 yI
  unfold ranges_pairs_6p1
  cases h16:(((zc x3 yI).1).l).isEmpty with
  | true =>
   exact po_turn [.dec true,.el (.agg [I yI.lo,I yI.hi]),.pure (.tup [.sl (((zc x3 yI).1).nl) ((((zc x3 yI).1).l).map Sn.D) (zsl (((zc x3 yI).1).nl) 2) none,B ((zc x3 yI).2)]),.dec false,.op (some 35) ⟨.sl true [] 0 none,[],[],3⟩,.rw 37 (I ((xj+1:Nat):Int))] (Ai (zZ (i:=xj) (by have:=zg yT; omega)) (Ai (app_none (te:=ye) (gO:=zu [(1,⟨[.agg [I x3.lo,I x3.hi]],2,false⟩),(2,⟨[.agg [I yI.lo,I yI.hi]],2,false⟩)]) (nxt:=3) (f:=Sn.D) (sz:=2) (d:=.sl true [] 0 none) ((zc x3 yI).1) h16 rfl) (Ai (show ((zc x3 yI).2)=false from rfl) (Ai (T_ranges_Sum_1 x3 yI) (Ai (el_at (s:=b) (f:=Sn.D) (k:=2) yT) (Ai (lt_at yT) trivial)))))) (ih (xj+1) (zj yT) (zg yT) (by omega) (by omega) (by omega)) (by kernel_rfl)
  | false =>
   exact zH (ks:=[1,2,7,9,14,15,16,20,21,22]) (st':=(sd58 a b i3 x3 xj yI)) [.dec true,.el (.agg [I yI.lo,I yI.hi]),.pure (.tup [.sl (((zc x3 yI).1).nl) ((((zc x3 yI).1).l).map Sn.D) (zsl (((zc x3 yI).1).nl) 2) none,B ((zc x3 yI).2)]),.dec false,.op (some 35) ⟨.lsl 3 0 ((((zc x3 yI).1).l).length) 2 none,[(3,some ⟨(((zc x3 yI).1).l).map Sn.D,2,false⟩)],[],4⟩,.rw 37 (I ((xj+1:Nat):Int))] (Ai (zZ (i:=xj) (by have:=zg yT; omega)) (Ai (app_newD (te:=ye) (gO:=zu [(1,⟨[.agg [I x3.lo,I x3.hi]],2,false⟩),(2,⟨[.agg [I yI.lo,I yI.hi]],2,false⟩)]) (nxt:=3) (els0:=[]) (sz0:=0) (cap0:=none) z6 ((zc x3 yI).1) h16 rfl (by kernel_rfl) (by decide) ⟨by simp only [ye,big] <;> (first | assumption | omega | (exact zT (by omega) (by omega)) | (exact zA (by omega)) | (exact zr (by omega)) | (exact zB (by omega)) | (exact zt (by omega)) | (simp only [zf] at * <;> omega) | (simp only [zq,GS.some_l,List.length_set,List.length_append,List.length_cons,List.length_nil] at * <;> first | with_reducible assumption | omega) | (simp only [zq,GS.some_l,List.length_set,List.length_append,List.length_cons,List.length_nil,zf] at * <;> first | with_reducible assumption | omega) | (simp at * <;> omega)),by simp only [big] <;> (first | assumption | omega | (exact zT (by omega) (by omega)) | (exact zA (by omega)) | (exact zr (by omega)) | (exact zB (by omega)) | (exact zt (by omega)) | (simp only [zf] at * <;> omega) | (simp only [zq,GS.some_l,List.length_set,List.length_append,List.length_cons,List.length_nil] at * <;> first | with_reducible assumption | omega) | (simp only [zq,GS.some_l,List.length_set,List.length_append,List.length_cons,List.length_nil,zf] at * <;> first | with_reducible assumption | omega) | (simp at * <;> omega))⟩) (Ai (show ((zc x3 yI).2)=false from rfl) (Ai (T_ranges_Sum_1 x3 yI) (Ai (el_at (s:=b) (f:=Sn.D) (k:=2) yT) (Ai (lt_at yT) trivial)))))) (by kernel_rfl) (by (simp only [sd58,go_sem,List.length_set,Nat.reduceAdd,Nat.reduceEqDiff,Nat.reduceLT,Nat.reduceLeDiff,bI2,zb.idsL,zb.renL,zb.snapAll,z6.idsL,z6.renL,z6.snapAll]) <;> rfl) (lp_ranges_pairs_6p1a a b i3 x3 _ (xj+1) (((zc x3 yI).1).l) (zj yT) (zg yT) (by omega) (by omega) (by omega) (by omega)) (by kernel_rfl)
theorem ivt_ranges_pairs_6p1 (a:GS Sn) (b:GS Sn) (i3:Nat) (x3:Sn):∀ (yN:List Sn) (xj:Nat) (yT:b.l.drop xj=yN) (hi6p1:xj≤b.l.length) (xe:b.l.length≤65) (ho64:i3 < 64) (hL6p1:b.l.length≤1099511627776),iv_ranges_pairs_6p1 a b i3 x3 (ranges_pairs_6p1 x3 yN):=by
 intro yN
 induction yN with
 | nil =>
  intro xj yT hi6p1 xe ho64 hL6p1
  unfold ranges_pairs_6p1
  obtain rfl:xj=b.l.length:=zY yT hi6p1
  exact trivial
 | cons yI yN ih =>
  intro xj yT hi6p1 xe ho64 hL6p1
  have hlt6p1:=zg yT
  have hlx:=sum1_len x3 yI
  unfold ranges_pairs_6p1
  cases h16:(((zc x3 yI).1).l).isEmpty with
  | true =>
   exact ih (xj+1) (zj yT) (zg yT) (by omega) (by omega) (by omega)
  | false =>
   exact ivt_ranges_pairs_6p1a a b i3 x3 _ (xj+1) (((zc x3 yI).1).l) (zj yT) (zg yT) (by omega) (by omega) (by omega) (by omega)

noncomputable def lp87_3:Code:=subC [1,0,1,1,0,1,0,0] (bodyC Tryz.f87)

def sd60 (a:GS Sn) (b:GS Sn) (i3:Nat) (x3:Sn) (xd:List Sn):St:=⟨40,[(16,I ((i3+1:Nat):Int)),(38,I ((i3+1:Nat):Int)),(23,B false),(1,.sl b.nl (b.l.map Sn.D) (zsl b.nl 2) none),(2,.fn (.func 88) [] []),(7,.lsl 1 0 xd.length 2 none),(9,.lref 2 0 2 0),(14,.sl a.nl (a.l.map Sn.D) (zsl a.nl 2) none),(15,I ((a.l.length:Nat):Int)),(16,I ((i3:Nat):Int)),(20,.sl b.nl (b.l.map Sn.D) (zsl b.nl 2) none),(21,I ((b.l.length:Nat):Int)),(22,I ((b.l.length:Nat):Int))],[(1,⟨xd.map Sn.D,2,false⟩),(2,⟨[.agg [I x3.lo,I x3.hi]],2,false⟩)],3,1⟩

def sd51 (a:GS Sn) (b:GS Sn) (i3:Nat) (x3:Sn) (yv:List Sn):St:=⟨40,[(1,.sl b.nl (b.l.map Sn.D) (zsl b.nl 2) none),(2,.fn (.func 88) [] []),(7,.lsl 1 0 yv.length 2 none),(9,.lref 2 0 2 0),(14,.sl a.nl (a.l.map Sn.D) (zsl a.nl 2) none),(15,I ((a.l.length:Nat):Int)),(16,I ((i3:Nat):Int)),(20,.sl b.nl (b.l.map Sn.D) (zsl b.nl 2) none),(21,I ((b.l.length:Nat):Int)),(22,I 0)],[(1,⟨yv.map Sn.D,2,false⟩),(2,⟨[.agg [I x3.lo,I x3.hi]],2,false⟩)],3,1⟩

def sd55 (a:GS Sn) (b:GS Sn) (i3:Nat) (x3:Sn) (xd:List Sn):St:=⟨40,[(23,B false),(1,.sl b.nl (b.l.map Sn.D) (zsl b.nl 2) none),(2,.fn (.func 88) [] []),(7,.lsl 1 0 xd.length 2 none),(9,.lref 2 0 2 0),(14,.sl a.nl (a.l.map Sn.D) (zsl a.nl 2) none),(15,I ((a.l.length:Nat):Int)),(16,I ((i3:Nat):Int)),(20,.sl b.nl (b.l.map Sn.D) (zsl b.nl 2) none),(21,I ((b.l.length:Nat):Int)),(22,I ((b.l.length:Nat):Int))],[(1,⟨xd.map Sn.D,2,false⟩),(2,⟨[.agg [I x3.lo,I x3.hi]],2,false⟩)],3,1⟩

def sd50 (a:GS Sn) (b:GS Sn) (i3:Nat) (x3:Sn) (yv:List Sn):St:=⟨40,[(22,I 0),(21,I ((b.l.length:Nat):Int)),(20,.sl b.nl (b.l.map Sn.D) (zsl b.nl 2) none),(9,.lref 2 0 2 0),(19,.agg [I x3.lo,I x3.hi]),(18,.ptr (.agg [I x3.lo,I x3.hi])),(17,B true),(1,.sl b.nl (b.l.map Sn.D) (zsl b.nl 2) none),(2,.fn (.func 88) [] []),(7,.lsl 1 0 yv.length 2 none),(14,.sl a.nl (a.l.map Sn.D) (zsl a.nl 2) none),(15,I ((a.l.length:Nat):Int)),(16,I ((i3:Nat):Int))],[(1,⟨yv.map Sn.D,2,false⟩),(2,⟨[.agg [I x3.lo,I x3.hi]],2,false⟩)],3,1⟩

def sd61 (a:GS Sn) (b:GS Sn) (i3:Nat) (x3:Sn) (yC:List Sn):St:=⟨40,[(16,I ((i3+1:Nat):Int)),(38,I ((i3+1:Nat):Int)),(23,B false),(1,.sl b.nl (b.l.map Sn.D) (zsl b.nl 2) none),(2,.fn (.func 88) [] []),(7,.lsl 1 0 yC.length 2 none),(9,.lref 2 0 2 0),(14,.sl a.nl (a.l.map Sn.D) (zsl a.nl 2) none),(15,I ((a.l.length:Nat):Int)),(16,I ((i3:Nat):Int)),(20,.sl b.nl (b.l.map Sn.D) (zsl b.nl 2) none),(21,I ((b.l.length:Nat):Int)),(22,I ((b.l.length:Nat):Int))],[(1,⟨yC.map Sn.D,2,false⟩),(2,⟨[.agg [I x3.lo,I x3.hi]],2,false⟩)],3,1⟩

def sd59 (a:GS Sn) (b:GS Sn) (i3:Nat) (x3:Sn) (yC:List Sn):St:=⟨40,[(23,B false),(1,.sl b.nl (b.l.map Sn.D) (zsl b.nl 2) none),(2,.fn (.func 88) [] []),(7,.lsl 1 0 yC.length 2 none),(9,.lref 2 0 2 0),(14,.sl a.nl (a.l.map Sn.D) (zsl a.nl 2) none),(15,I ((a.l.length:Nat):Int)),(16,I ((i3:Nat):Int)),(20,.sl b.nl (b.l.map Sn.D) (zsl b.nl 2) none),(21,I ((b.l.length:Nat):Int)),(22,I ((b.l.length:Nat):Int))],[(1,⟨yC.map Sn.D,2,false⟩),(2,⟨[.agg [I x3.lo,I x3.hi]],2,false⟩)],3,1⟩

def sd47 (a:GS Sn) (b:GS Sn) (i3:Nat) (x3:Sn):St:=⟨40,[(23,B false),(1,.sl b.nl (b.l.map Sn.D) (zsl b.nl 2) none),(2,.fn (.func 88) [] []),(7,.sl true [] 0 none),(9,.lref 1 0 2 0),(14,.sl a.nl (a.l.map Sn.D) (zsl a.nl 2) none),(15,I ((a.l.length:Nat):Int)),(16,I ((i3:Nat):Int)),(20,.sl b.nl (b.l.map Sn.D) (zsl b.nl 2) none),(21,I ((b.l.length:Nat):Int)),(22,I ((b.l.length:Nat):Int))],[(1,⟨[.agg [I x3.lo,I x3.hi]],2,false⟩)],2,1⟩

inductive LR_ranges_pairs_3 where
 | x0 (yv:List Sn)
 | x1
instance:Inhabited LR_ranges_pairs_3:=⟨.x0 default⟩
def ranges_pairs_3a (b:GS Sn):List Sn→(List Sn)→LR_ranges_pairs_3
 | [],yv=>.x0 yv
 | x3::xl,yv =>
  match ranges_pairs_6 x3 b.l yv with
  | .x0 xd =>
   ranges_pairs_3a b xl xd
def ranges_pairs_3 (b:GS Sn):List Sn→LR_ranges_pairs_3
 | []=>.x1
 | x3::xl =>
  match ranges_pairs_6p1 x3 b.l with
  | .x0 yC =>
   ranges_pairs_3a b xl yC
  | .x1 =>
   ranges_pairs_3 b xl
def lr_ranges_pairs_3 (a:GS Sn) (b:GS Sn):LR_ranges_pairs_3→Exit × St
 | .x0 yv=>((.exit 0),⟨40,[(17,B false),(1,.sl b.nl (b.l.map Sn.D) (zsl b.nl 2) none),(2,.fn (.func 88) [] []),(7,.lsl 1 0 yv.length 2 none),(14,.sl a.nl (a.l.map Sn.D) (zsl a.nl 2) none),(15,I ((a.l.length:Nat):Int)),(16,I ((a.l.length:Nat):Int))],[(1,⟨yv.map Sn.D,2,false⟩)],2,1⟩)
 | .x1=>((.exit 0),⟨40,[(17,B false),(1,.sl b.nl (b.l.map Sn.D) (zsl b.nl 2) none),(2,.fn (.func 88) [] []),(7,.sl true [] 0 none),(14,.sl a.nl (a.l.map Sn.D) (zsl a.nl 2) none),(15,I ((a.l.length:Nat):Int)),(16,I ((a.l.length:Nat):Int))],[],1,1⟩)
def iv_ranges_pairs_3 (a:GS Sn) (b:GS Sn):LR_ranges_pairs_3→Prop
 | .x0 yv=>(yv.length≤65 * a.l.length)
 | .x1=>True
theorem lp_ranges_pairs_3a (a:GS Sn) (b:GS Sn):∀ (xl:List Sn) (i3:Nat) (yv:List Sn) (hd3:a.l.drop i3=xl) (hi3:i3≤a.l.length) (yZ:a.l.length≤64) (xe:b.l.length≤65) (hg3_va3_0:yv.length≤65 * i3) (hL3:a.l.length≤1099511627776),(lim cfg).loop 87 lp87_3 ⟨40,[(1,.sl b.nl (b.l.map Sn.D) (zsl b.nl 2) none),(2,.fn (.func 88) [] []),(7,.lsl 1 0 yv.length 2 none),(14,.sl a.nl (a.l.map Sn.D) (zsl a.nl 2) none),(15,I ((a.l.length:Nat):Int)),(16,I ((i3:Nat):Int))],[(1,⟨yv.map Sn.D,2,false⟩)],2,1⟩=some (lr_ranges_pairs_3 a b (ranges_pairs_3a b xl yv)):=by
 intro xl
 induction xl with
 | nil =>
  intro i3 yv hd3 hi3 yZ xe hg3_va3_0 hL3
  unfold ranges_pairs_3a
  obtain rfl:i3=a.l.length:=zY hd3 hi3
  exact zR [.dec false] (Ai (lt_no hd3) trivial) (by kernel_rfl)
 | cons x3 xl ih =>
  intro i3 yv hd3 hi3 yZ xe hg3_va3_0 hL3
  have hlt3:=zg hd3
  unfold ranges_pairs_3a
  cases h12:ranges_pairs_6 x3 b.l yv with
  | x0 xd =>
   try dsimp only
   have hv_h12:=ivt_ranges_pairs_6 a b i3 x3 b.l 0 yv (List.drop_zero) (Nat.zero_le _) (by omega) (by omega) (by omega) (by omega)
   rw [h12] at hv_h12
   have xp:=hv_h12
   try dsimp only [iv_ranges_pairs_6] at xp
   exact zH (ks:=[1,2,7,14,15,16]) (st':=(sd60 a b i3 x3 xd)) [.dec true,.el (.agg [I x3.lo,I x3.hi]),.rw 21 (I ((b.l.length:Nat):Int)),.gloop (sd51 a b i3 x3 yv) (.exit 2) (sd55 a b i3 x3 xd),.rw 38 (I ((i3+1:Nat):Int))] (Ai (zZ (i:=i3) (by have:=zg hd3; omega)) (Ai (zU (q:=lr_ranges_pairs_6 a b i3 x3) (lp_ranges_pairs_6 a b i3 x3 b.l 0 yv (List.drop_zero) (Nat.zero_le _) (by omega) (by omega) (by omega) (by omega)) h12) (Ai (gc_of (C:=cfg) (f:=87) (a:=lp87_6) (ks:=[1,2,7,9,14,15,16,20,21,22]) (st:=(sd50 a b i3 x3 yv)) (st1:=(sd51 a b i3 x3 yv)) (by kernel_rfl) (by (simp only [sd50,sd51,go_sem,List.length_set,Nat.reduceAdd,Nat.reduceEqDiff,Nat.reduceLT,Nat.reduceLeDiff,bI2,zb.idsL,zb.renL,zb.snapAll,z6.idsL,z6.renL,z6.snapAll]) <;> rfl)) (Ai (zi Sn.D b) (Ai (el_at (s:=a) (f:=Sn.D) (k:=2) hd3) (Ai (lt_at hd3) trivial)))))) (by kernel_rfl) (by (simp only [sd60,go_sem,List.length_set,Nat.reduceAdd,Nat.reduceEqDiff,Nat.reduceLT,Nat.reduceLeDiff,bI2,zb.idsL,zb.renL,zb.snapAll,z6.idsL,z6.renL,z6.snapAll]) <;> rfl) (ih (i3+1) xd (zj hd3) (zg hd3) (by omega) (by omega) (by omega) (by omega)) (by kernel_rfl)
theorem ivt_ranges_pairs_3a (a:GS Sn) (b:GS Sn):∀ (xl:List Sn) (i3:Nat) (yv:List Sn) (hd3:a.l.drop i3=xl) (hi3:i3≤a.l.length) (yZ:a.l.length≤64) (xe:b.l.length≤65) (hg3_va3_0:yv.length≤65 * i3) (hL3:a.l.length≤1099511627776),iv_ranges_pairs_3 a b (ranges_pairs_3a b xl yv):=by
 intro xl
 induction xl with
 | nil =>
  intro i3 yv hd3 hi3 yZ xe hg3_va3_0 hL3
  unfold ranges_pairs_3a
  obtain rfl:i3=a.l.length:=zY hd3 hi3
  exact hg3_va3_0
 | cons x3 xl ih =>
  intro i3 yv hd3 hi3 yZ xe hg3_va3_0 hL3
  have hlt3:=zg hd3
  unfold ranges_pairs_3a
  cases h12:ranges_pairs_6 x3 b.l yv with
  | x0 xd =>
   try dsimp only
   have hv_h12:=ivt_ranges_pairs_6 a b i3 x3 b.l 0 yv (List.drop_zero) (Nat.zero_le _) (by omega) (by omega) (by omega) (by omega)
   rw [h12] at hv_h12
   have xp:=hv_h12
   try dsimp only [iv_ranges_pairs_6] at xp
   exact ih (i3+1) xd (zj hd3) (zg hd3) (by omega) (by omega) (by omega) (by omega)
theorem lp_ranges_pairs_3 (a:GS Sn) (b:GS Sn):∀ (xl:List Sn) (i3:Nat) (hd3:a.l.drop i3=xl) (hi3:i3≤a.l.length) (yZ:a.l.length≤64) (xe:b.l.length≤65) (hL3:a.l.length≤1099511627776),(lim cfg).loop 87 lp87_3 ⟨40,[(1,.sl b.nl (b.l.map Sn.D) (zsl b.nl 2) none),(2,.fn (.func 88) [] []),(7,.sl true [] 0 none),(14,.sl a.nl (a.l.map Sn.D) (zsl a.nl 2) none),(15,I ((a.l.length:Nat):Int)),(16,I ((i3:Nat):Int))],[],1,1⟩=some (lr_ranges_pairs_3 a b (ranges_pairs_3 b xl)):=by
 intro xl
 induction xl with
 | nil =>
  intro i3 hd3 hi3 yZ xe hL3
  unfold ranges_pairs_3
  obtain rfl:i3=a.l.length:=zY hd3 hi3
  exact zR [.dec false] (Ai (lt_no hd3) trivial) (by kernel_rfl)
 | cons x3 xl ih =>
  intro i3 hd3 hi3 yZ xe hL3
  have hlt3:=zg hd3
  unfold ranges_pairs_3
  cases h17:ranges_pairs_6p1 x3 b.l with
  | x0 yC =>
   try dsimp only
   have hv_h17:=ivt_ranges_pairs_6p1 a b i3 x3 b.l 0 (List.drop_zero) (Nat.zero_le _) (by omega) (by omega) (by omega)
   rw [h17] at hv_h17
   have xq:=hv_h17
   try dsimp only [iv_ranges_pairs_6p1] at xq
   exact zH (ks:=[1,2,7,14,15,16]) (st':=(sd61 a b i3 x3 yC)) [.dec true,.el (.agg [I x3.lo,I x3.hi]),.rw 21 (I ((b.l.length:Nat):Int)),.loop (.exit 2) (sd59 a b i3 x3 yC),.rw 38 (I ((i3+1:Nat):Int))] (Ai (zZ (i:=i3) (by have:=zg hd3; omega)) (Ai (zU (q:=lr_ranges_pairs_6p1 a b i3 x3) (lp_ranges_pairs_6p1 a b i3 x3 b.l 0 (List.drop_zero) (Nat.zero_le _) (by omega) (by omega) (by omega)) h17) (Ai (zi Sn.D b) (Ai (el_at (s:=a) (f:=Sn.D) (k:=2) hd3) (Ai (lt_at hd3) trivial))))) (by kernel_rfl) (by (simp only [sd61,go_sem,List.length_set,Nat.reduceAdd,Nat.reduceEqDiff,Nat.reduceLT,Nat.reduceLeDiff,bI2,zb.idsL,zb.renL,zb.snapAll,z6.idsL,z6.renL,z6.snapAll]) <;> rfl) (lp_ranges_pairs_3a a b _ (i3+1) yC (zj hd3) (zg hd3) (by omega) (by omega) (by omega) (by omega)) (by kernel_rfl)
  | x1 =>
   try dsimp only
   exact po_turn [.dec true,.el (.agg [I x3.lo,I x3.hi]),.rw 21 (I ((b.l.length:Nat):Int)),.loop (.exit 2) (sd47 a b i3 x3),.rw 38 (I ((i3+1:Nat):Int))] (Ai (zZ (i:=i3) (by have:=zg hd3; omega)) (Ai (zU (q:=lr_ranges_pairs_6p1 a b i3 x3) (lp_ranges_pairs_6p1 a b i3 x3 b.l 0 (List.drop_zero) (Nat.zero_le _) (by omega) (by omega) (by omega)) h17) (Ai (zi Sn.D b) (Ai (el_at (s:=a) (f:=Sn.D) (k:=2) hd3) (Ai (lt_at hd3) trivial))))) (ih (i3+1) (zj hd3) (zg hd3) (by omega) (by omega) (by omega)) (by kernel_rfl)
theorem ivt_ranges_pairs_3 (a:GS Sn) (b:GS Sn):∀ (xl:List Sn) (i3:Nat) (hd3:a.l.drop i3=xl) (hi3:i3≤a.l.length) (yZ:a.l.length≤64) (xe:b.l.length≤65) (hL3:a.l.length≤1099511627776),iv_ranges_pairs_3 a b (ranges_pairs_3 b xl):=by
 intro xl
 induction xl with
 | nil =>
  intro i3 hd3 hi3 yZ xe hL3
  unfold ranges_pairs_3
  obtain rfl:i3=a.l.length:=zY hd3 hi3
  exact trivial
 | cons x3 xl ih =>
  intro i3 hd3 hi3 yZ xe hL3
  have hlt3:=zg hd3
  unfold ranges_pairs_3
  cases h17:ranges_pairs_6p1 x3 b.l with
  | x0 yC =>
   try dsimp only
   have hv_h17:=ivt_ranges_pairs_6p1 a b i3 x3 b.l 0 (List.drop_zero) (Nat.zero_le _) (by omega) (by omega) (by omega)
   rw [h17] at hv_h17
   have xq:=hv_h17
   try dsimp only [iv_ranges_pairs_6p1] at xq
   exact ivt_ranges_pairs_3a a b _ (i3+1) yC (zj hd3) (zg hd3) (by omega) (by omega) (by omega) (by omega)
  | x1 =>
   try dsimp only
   exact ih (i3+1) (zj hd3) (zg hd3) (by omega) (by omega) (by omega)

def sd63 (yv:List Sn) (yE:Nat) (yG:List Sn) (yw:Sn) (yn:List Sn):St:=⟨65,[(12,I ((yE+1:Nat):Int)),(60,I ((yE+1:Nat):Int)),(55,.lref 2 ((w64 (((yn.length:Nat):Int) - 1)).toNat) 2 1),(54,.lref 2 ((w64 (((yn.length:Nat):Int) - 1)).toNat) 2 0),(53,I (imax ((yn.getD ((w64 (((yn.length:Nat):Int) - 1)).toNat) default).hi) yw.hi)),(52,I yw.hi),(51,.lref 3 0 2 1),(50,I ((yn.getD ((w64 (((yn.length:Nat):Int) - 1)).toNat) default).hi)),(49,.lref 2 ((w64 (((yn.length:Nat):Int) - 1)).toNat) 2 1),(48,.lref 2 ((w64 (((yn.length:Nat):Int) - 1)).toNat) 2 0),(47,I (w64 (((yn.length:Nat):Int) - 1))),(46,I ((yn.length:Nat):Int)),(45,.lsl 2 0 yn.length 2 none),(44,I (w64 (((yn.length:Nat):Int) - 1))),(43,I ((yn.length:Nat):Int)),(42,.lsl 2 0 yn.length 2 none),(41,B true),(40,B true),(39,I (w64 (((yn.getD ((w64 (((yn.length:Nat):Int) - 1)).toNat) default).hi)+1))),(38,I ((yn.getD ((w64 (((yn.length:Nat):Int) - 1)).toNat) default).hi)),(37,.lref 2 ((w64 (((yn.length:Nat):Int) - 1)).toNat) 2 1),(36,.lref 2 ((w64 (((yn.length:Nat):Int) - 1)).toNat) 2 0),(35,I (w64 (((yn.length:Nat):Int) - 1))),(34,I ((yn.length:Nat):Int)),(33,.lsl 2 0 yn.length 2 none),(32,I yw.lo),(31,.lref 3 0 2 0),(30,B true),(29,B true),(28,I ((yn.length:Nat):Int)),(7,I ((yn.length:Nat):Int)),(27,I ((yn.length:Nat):Int)),(26,.lsl 2 0 yn.length 2 none),(25,B false),(24,B false),(23,B true),(22,I yw.hi),(21,.lref 3 0 2 1),(20,B false),(19,B false),(18,B true),(17,I yw.lo),(16,.lref 3 0 2 0),(6,.lref 3 0 2 0),(15,.agg [I yw.lo,I yw.hi]),(14,.lref 1 yE 2 0),(13,B true),(4,.lsl 2 0 yn.length 2 none),(10,.lsl 1 0 yv.length 2 none),(11,I ((yv.length:Nat):Int)),(12,I ((yE:Nat):Int))],[(1,⟨yG.map Sn.D,2,false⟩),(2,⟨(yn.set ((w64 (((yn.length:Nat):Int) - 1)).toNat) (⟨(yn.getD ((w64 (((yn.length:Nat):Int) - 1)).toNat) default).lo,imax ((yn.getD ((w64 (((yn.length:Nat):Int) - 1)).toNat) default).hi) yw.hi⟩:Sn)).map Sn.D,2,false⟩),(3,⟨[.agg [I yw.lo,I yw.hi]],2,false⟩)],4,2⟩

def sd64 (yv:List Sn) (yE:Nat) (yG:List Sn) (yw:Sn) (yn:List Sn):St:=⟨65,[(12,I ((yE+1:Nat):Int)),(60,I ((yE+1:Nat):Int)),(4,.lsl 5 0 ((yn++[yw]).length) 2 none),(59,.lsl 5 0 ((yn++[yw]).length) 2 none),(58,.lsl 4 0 1 2 (some 1)),(57,.agg [I yw.lo,I yw.hi]),(56,.lsl 2 0 yn.length 2 none),(41,B false),(40,B false),(39,I (w64 (((yn.getD ((w64 (((yn.length:Nat):Int) - 1)).toNat) default).hi)+1))),(38,I ((yn.getD ((w64 (((yn.length:Nat):Int) - 1)).toNat) default).hi)),(37,.lref 2 ((w64 (((yn.length:Nat):Int) - 1)).toNat) 2 1),(36,.lref 2 ((w64 (((yn.length:Nat):Int) - 1)).toNat) 2 0),(35,I (w64 (((yn.length:Nat):Int) - 1))),(34,I ((yn.length:Nat):Int)),(33,.lsl 2 0 yn.length 2 none),(32,I yw.lo),(31,.lref 3 0 2 0),(30,B true),(29,B true),(28,I ((yn.length:Nat):Int)),(7,I ((yn.length:Nat):Int)),(27,I ((yn.length:Nat):Int)),(26,.lsl 2 0 yn.length 2 none),(25,B false),(24,B false),(23,B true),(22,I yw.hi),(21,.lref 3 0 2 1),(20,B false),(19,B false),(18,B true),(17,I yw.lo),(16,.lref 3 0 2 0),(6,.lref 3 0 2 0),(15,.agg [I yw.lo,I yw.hi]),(14,.lref 1 yE 2 0),(13,B true),(4,.lsl 2 0 yn.length 2 none),(10,.lsl 1 0 yv.length 2 none),(11,I ((yv.length:Nat):Int)),(12,I ((yE:Nat):Int))],[(1,⟨yG.map Sn.D,2,false⟩),(3,⟨[.agg [I yw.lo,I yw.hi]],2,false⟩),(4,⟨[.agg [I yw.lo,I yw.hi]],2,false⟩),(5,⟨(yn++[yw]).map Sn.D,2,false⟩)],6,2⟩

def sd65 (yv:List Sn) (yE:Nat) (yG:List Sn) (yw:Sn) (yn:List Sn):St:=⟨65,[(12,I ((yE+1:Nat):Int)),(60,I ((yE+1:Nat):Int)),(4,.lsl 5 0 ((yn++[yw]).length) 2 none),(59,.lsl 5 0 ((yn++[yw]).length) 2 none),(58,.lsl 4 0 1 2 (some 1)),(57,.agg [I yw.lo,I yw.hi]),(56,.lsl 2 0 yn.length 2 none),(41,B false),(40,.tup []),(39,.tup []),(38,.tup []),(37,.tup []),(36,.tup []),(35,.tup []),(34,.tup []),(33,.tup []),(32,.tup []),(31,.tup []),(30,B false),(29,B false),(28,I ((yn.length:Nat):Int)),(7,I ((yn.length:Nat):Int)),(27,I ((yn.length:Nat):Int)),(26,.lsl 2 0 yn.length 2 none),(25,B false),(24,B false),(23,B true),(22,I yw.hi),(21,.lref 3 0 2 1),(20,B false),(19,B false),(18,B true),(17,I yw.lo),(16,.lref 3 0 2 0),(6,.lref 3 0 2 0),(15,.agg [I yw.lo,I yw.hi]),(14,.lref 1 yE 2 0),(13,B true),(4,.lsl 2 0 yn.length 2 none),(10,.lsl 1 0 yv.length 2 none),(11,I ((yv.length:Nat):Int)),(12,I ((yE:Nat):Int))],[(1,⟨yG.map Sn.D,2,false⟩),(3,⟨[.agg [I yw.lo,I yw.hi]],2,false⟩),(4,⟨[.agg [I yw.lo,I yw.hi]],2,false⟩),(5,⟨(yn++[yw]).map Sn.D,2,false⟩)],6,2⟩

def sd66 (yv:List Sn) (yE:Nat) (yG:List Sn) (yw:Sn):St:=⟨65,[(12,I ((yE+1:Nat):Int)),(60,I ((yE+1:Nat):Int)),(4,.lsl 4 0 1 2 none),(59,.lsl 4 0 1 2 none),(58,.lsl 3 0 1 2 (some 1)),(57,.agg [I yw.lo,I yw.hi]),(56,.sl true [] 0 none),(41,B false),(40,.tup []),(39,.tup []),(38,.tup []),(37,.tup []),(36,.tup []),(35,.tup []),(34,.tup []),(33,.tup []),(32,.tup []),(31,.tup []),(30,B false),(29,B false),(28,I 0),(7,I 0),(27,I 0),(26,.sl true [] 0 none),(25,B false),(24,B false),(23,B true),(22,I yw.hi),(21,.lref 2 0 2 1),(20,B false),(19,B false),(18,B true),(17,I yw.lo),(16,.lref 2 0 2 0),(6,.lref 2 0 2 0),(15,.agg [I yw.lo,I yw.hi]),(14,.lref 1 yE 2 0),(13,B true),(4,.sl true [] 0 none),(10,.lsl 1 0 yv.length 2 none),(11,I ((yv.length:Nat):Int)),(12,I ((yE:Nat):Int))],[(1,⟨yG.map Sn.D,2,false⟩),(2,⟨[.agg [I yw.lo,I yw.hi]],2,false⟩),(3,⟨[.agg [I yw.lo,I yw.hi]],2,false⟩),(4,⟨[.agg [I yw.lo,I yw.hi]],2,false⟩)],5,2⟩

inductive LR_ranges_gathered_4p1 where
 | x0 (yn:List Sn)
 | x1 (yE:Nat) (yw:Sn) (yn:List Sn)
 | x2 (yE:Nat) (yw:Sn) (yn:List Sn)
 | x3
 | x4 (yE:Nat) (yw:Sn)
 | x5 (yE:Nat) (yw:Sn)
instance:Inhabited LR_ranges_gathered_4p1:=⟨.x0 default⟩
def zS:List Sn→Nat→(List Sn)→LR_ranges_gathered_4p1
 | [],yE,yn=>.x0 yn
 | yw::yO,yE,yn =>
  bif (zD yw.lo) then
   bif (zD yw.hi) then
    bif decide (((yn.length:Nat):Int) > 0) then
     bif decide (yw.lo≤(w64 (((yn.getD ((w64 (((yn.length:Nat):Int) - 1)).toNat) default).hi)+1))) then
      zS yO (yE+1) (yn.set ((w64 (((yn.length:Nat):Int) - 1)).toNat) (⟨(yn.getD ((w64 (((yn.length:Nat):Int) - 1)).toNat) default).lo,imax ((yn.getD ((w64 (((yn.length:Nat):Int) - 1)).toNat) default).hi) yw.hi⟩:Sn))
     else
      zS yO (yE+1) (yn++[yw])
    else
     zS yO (yE+1) (yn++[yw])
   else
    .x1 yE yw yn
  else
   .x2 yE yw yn
def zw:List Sn→Nat→LR_ranges_gathered_4p1
 | [],yE=>.x3
 | yw::yO,yE =>
  bif (zD yw.lo) then
   bif (zD yw.hi) then
    zS yO (yE+1) [yw]
   else
    .x4 yE yw
  else
   .x5 yE yw
def zh (yv:List Sn) (yG:List Sn):LR_ranges_gathered_4p1→Exit × St
 | .x0 yn=>((.exit 0),⟨65,[(13,B false),(4,.lsl 2 0 yn.length 2 none),(10,.lsl 1 0 yv.length 2 none),(11,I ((yv.length:Nat):Int)),(12,I ((yG.length:Nat):Int))],[(1,⟨yG.map Sn.D,2,false⟩),(2,⟨yn.map Sn.D,2,false⟩)],3,2⟩)
 | .x1 yE yw yn=>(.ret,⟨65,[(3,I 2),(2,.sl true [] 0 none),(25,B true),(24,B true),(23,B false),(22,I yw.hi),(21,.lref 3 0 2 1),(20,B false),(19,B false),(18,B true),(17,I yw.lo),(16,.lref 3 0 2 0),(6,.lref 3 0 2 0),(15,.agg [I yw.lo,I yw.hi]),(14,.lref 1 yE 2 0),(13,B true),(4,.lsl 2 0 yn.length 2 none),(10,.lsl 1 0 yv.length 2 none),(11,I ((yv.length:Nat):Int)),(12,I ((yE:Nat):Int))],[(1,⟨yG.map Sn.D,2,false⟩),(2,⟨yn.map Sn.D,2,false⟩),(3,⟨[.agg [I yw.lo,I yw.hi]],2,false⟩)],4,2⟩)
 | .x2 yE yw yn=>(.ret,⟨65,[(3,I 2),(2,.sl true [] 0 none),(25,B true),(24,.tup []),(23,.tup []),(22,.tup []),(21,.tup []),(20,B true),(19,B true),(18,B false),(17,I yw.lo),(16,.lref 3 0 2 0),(6,.lref 3 0 2 0),(15,.agg [I yw.lo,I yw.hi]),(14,.lref 1 yE 2 0),(13,B true),(4,.lsl 2 0 yn.length 2 none),(10,.lsl 1 0 yv.length 2 none),(11,I ((yv.length:Nat):Int)),(12,I ((yE:Nat):Int))],[(1,⟨yG.map Sn.D,2,false⟩),(2,⟨yn.map Sn.D,2,false⟩),(3,⟨[.agg [I yw.lo,I yw.hi]],2,false⟩)],4,2⟩)
 | .x3=>((.exit 0),⟨65,[(13,B false),(4,.sl true [] 0 none),(10,.lsl 1 0 yv.length 2 none),(11,I ((yv.length:Nat):Int)),(12,I ((yG.length:Nat):Int))],[(1,⟨yG.map Sn.D,2,false⟩)],2,2⟩)
 | .x4 yE yw=>(.ret,⟨65,[(3,I 2),(2,.sl true [] 0 none),(25,B true),(24,B true),(23,B false),(22,I yw.hi),(21,.lref 2 0 2 1),(20,B false),(19,B false),(18,B true),(17,I yw.lo),(16,.lref 2 0 2 0),(6,.lref 2 0 2 0),(15,.agg [I yw.lo,I yw.hi]),(14,.lref 1 yE 2 0),(13,B true),(4,.sl true [] 0 none),(10,.lsl 1 0 yv.length 2 none),(11,I ((yv.length:Nat):Int)),(12,I ((yE:Nat):Int))],[(1,⟨yG.map Sn.D,2,false⟩),(2,⟨[.agg [I yw.lo,I yw.hi]],2,false⟩)],3,2⟩)
 | .x5 yE yw=>(.ret,⟨65,[(3,I 2),(2,.sl true [] 0 none),(25,B true),(24,.tup []),(23,.tup []),(22,.tup []),(21,.tup []),(20,B true),(19,B true),(18,B false),(17,I yw.lo),(16,.lref 2 0 2 0),(6,.lref 2 0 2 0),(15,.agg [I yw.lo,I yw.hi]),(14,.lref 1 yE 2 0),(13,B true),(4,.sl true [] 0 none),(10,.lsl 1 0 yv.length 2 none),(11,I ((yv.length:Nat):Int)),(12,I ((yE:Nat):Int))],[(1,⟨yG.map Sn.D,2,false⟩),(2,⟨[.agg [I yw.lo,I yw.hi]],2,false⟩)],3,2⟩)
def zk (yv:List Sn) (yG:List Sn):LR_ranges_gathered_4p1→Prop
 | .x0 yn=>(1≤yn.length)∧(yn.length≤yG.length)
 | .x1 yE yw yn=>(1≤yn.length)∧(yn.length≤yE)
 | .x2 yE yw yn=>(1≤yn.length)∧(yn.length≤yE)
 | .x3=>True
 | .x4 yE yw=>True
 | .x5 yE yw=>True
def ranges_gathered_4p1a_l_o1 (yE:Nat) (yw:Sn):List Ora:=[.dec true,.op (some 14) ⟨.lref 1 yE 2 0,[],[],3⟩,.op (some 15) ⟨.agg [I yw.lo,I yw.hi],[],[1],3⟩,.pure (B (zD yw.lo))]
def ranges_gathered_4p1a_l_o2 (yw:Sn) (yn:List Sn):List Ora:=[.dec true,.pure (B (zD yw.hi)),.dec true,.dec true,.op (some 36) ⟨.lref 2 ((w64 (((yn.length:Nat):Int) - 1)).toNat) 2 0,[],[],4⟩,.op (some 38) ⟨I ((yn.getD ((w64 (((yn.length:Nat):Int) - 1)).toNat) default).hi),[],[2],4⟩]
theorem lp_ranges_gathered_4p1a (yv:List Sn) (yG:List Sn):∀ (yO:List Sn) (yE:Nat) (yn:List Sn) (yS:yG.drop yE=yO) (hi4p1:yE≤yG.length) (hz4p1_va4p1_0:1≤yn.length) (hq4p1:yG.length=yv.length) (hg4p1_va4p1_0:yn.length≤yE) (hL4p1:yG.length≤1099511627776),(lim cfg).loop 69 lp69_4 ⟨65,[(4,.lsl 2 0 yn.length 2 none),(10,.lsl 1 0 yv.length 2 none),(11,I ((yv.length:Nat):Int)),(12,I ((yE:Nat):Int))],[(1,⟨yG.map Sn.D,2,false⟩),(2,⟨yn.map Sn.D,2,false⟩)],3,2⟩=some (zh yv yG (zS yO yE yn)):=by
 intro yO
 induction yO with
 | nil =>
  intro yE yn yS hi4p1 hz4p1_va4p1_0 hq4p1 hg4p1_va4p1_0 hL4p1
  unfold zS
  obtain rfl:yE=yG.length:=zY yS hi4p1
  exact zR [.dec false] (Ai (lt_no' yS hq4p1) trivial) (by kernel_rfl)
 | cons yw yO ih =>
  intro yE yn yS hi4p1 hz4p1_va4p1_0 hq4p1 hg4p1_va4p1_0 hL4p1
  have hlt4p1:=zg yS
  unfold zS
  have p1:=(idx_row (C:=cfg) (nxt:=3) (t:=22) (ty:=ty22) (te:=ye) (e:=25) (o:=1) (len:=yv.length) (sz:=2) (cap:=none) (i:=((yE:Nat):Int)) (by kernel_rfl) rfl (by kernel_rfl) rfl (by omega) (by omega))
  have p2:=(load_row (C:=cfg) (objs:=[(1,⟨yG.map Sn.D,2,false⟩),(2,⟨yn.map Sn.D,2,false⟩)]) (nxt:=3) (t:=25) (ty:=ye) (o:=1) (n:=yE) (sz:=2) (sub:=0) (ob:=⟨yG.map Sn.D,2,false⟩) (e:=Sn.D yw) (d:=.agg [I yw.lo,I yw.hi]) (by kernel_rfl) (by kernel_rfl) rfl (row_at (f:=Sn.D) yS) (by kernel_rfl))
  cases h25:(zD yw.lo) with
  | true =>
   cases h26:(zD yw.hi) with
   | true =>
    cases h27:decide (((yn.length:Nat):Int) > 0) with
    | true =>
     have g27:=of_decide_eq_true h27
     have p3:=(idx_row (C:=cfg) (nxt:=4) (t:=23) (ty:=ty23) (te:=ye) (e:=25) (o:=2) (len:=yn.length) (sz:=2) (cap:=none) (i:=w64 (((yn.length:Nat):Int) - 1)) (by kernel_rfl) rfl (by kernel_rfl) rfl (by simp only [List.length_append,List.length_cons,List.length_nil,zf] at * <;> omega) (by simp only [List.length_append,List.length_cons,List.length_nil,zf] at * <;> omega))
     have p4:=(load_row (C:=cfg) (objs:=[(1,⟨yG.map Sn.D,2,false⟩),(2,⟨yn.map Sn.D,2,false⟩),(3,⟨[.agg [I yw.lo,I yw.hi]],2,false⟩)]) (nxt:=4) (t:=3) (ty:=ty3) (o:=2) (n:=(w64 (((yn.length:Nat):Int) - 1)).toNat) (sz:=2) (sub:=1) (ob:=⟨yn.map Sn.D,2,false⟩) (e:=Sn.D (yn.getD ((w64 (((yn.length:Nat):Int) - 1)).toNat) default)) (d:=I ((yn.getD ((w64 (((yn.length:Nat):Int) - 1)).toNat) default).hi)) (by kernel_rfl) (by kernel_rfl) rfl (row_get (f:=Sn.D) (by simp only [List.length_append,List.length_cons,List.length_nil,zf] at * <;> omega)) (by kernel_rfl))
     cases h28:decide (yw.lo≤(w64 (((yn.getD ((w64 (((yn.length:Nat):Int) - 1)).toNat) default).hi)+1))) with
     | true =>
      have g28:=of_decide_eq_true h28
      exact zH (ks:=[4,10,11,12]) (st':=(sd63 yv yE yG yw yn)) ((ranges_gathered_4p1a_l_o1 yE yw)++((ranges_gathered_4p1a_l_o2 yw yn)++[.dec true,.op (some 48) ⟨.lref 2 ((w64 (((yn.length:Nat):Int) - 1)).toNat) 2 0,[],[],4⟩,.op (some 50) ⟨I ((yn.getD ((w64 (((yn.length:Nat):Int) - 1)).toNat) default).hi),[],[2],4⟩,.op (some 54) ⟨.lref 2 ((w64 (((yn.length:Nat):Int) - 1)).toNat) 2 0,[],[],4⟩,.stS 2 ⟨.tup [],[(2,some ⟨(yn.set ((w64 (((yn.length:Nat):Int) - 1)).toNat) (⟨(yn.getD ((w64 (((yn.length:Nat):Int) - 1)).toNat) default).lo,imax ((yn.getD ((w64 (((yn.length:Nat):Int) - 1)).toNat) default).hi) yw.hi⟩:Sn)).map Sn.D,2,false⟩)],[2],4⟩,.rw 60 (I ((yE+1:Nat):Int))])) (Ai (zZ (i:=yE) (by have:=zg yS; omega)) (Ai (store_row (C:=cfg) (objs:=[(1,⟨yG.map Sn.D,2,false⟩),(2,⟨yn.map Sn.D,2,false⟩),(3,⟨[.agg [I yw.lo,I yw.hi]],2,false⟩)]) (nxt:=4) (t:=3) (ty:=ty3) (o:=2) (n:=(w64 (((yn.length:Nat):Int) - 1)).toNat) (sz:=2) (sub:=1) (els:=yn.map Sn.D) (els':=(yn.set ((w64 (((yn.length:Nat):Int) - 1)).toNat) (⟨(yn.getD ((w64 (((yn.length:Nat):Int) - 1)).toNat) default).lo,imax ((yn.getD ((w64 (((yn.length:Nat):Int) - 1)).toNat) default).hi) yw.hi⟩:Sn)).map Sn.D) (e:=Sn.D (yn.getD ((w64 (((yn.length:Nat):Int) - 1)).toNat) default)) (e':=Sn.D (⟨(yn.getD ((w64 (((yn.length:Nat):Int) - 1)).toNat) default).lo,imax ((yn.getD ((w64 (((yn.length:Nat):Int) - 1)).toNat) default).hi) yw.hi⟩:Sn)) (v:=I (imax ((yn.getD ((w64 (((yn.length:Nat):Int) - 1)).toNat) default).hi) yw.hi)) (by kernel_rfl) (by kernel_rfl) (row_get (f:=Sn.D) (by simp only [List.length_append,List.length_cons,List.length_nil,zf] at * <;> omega)) rfl (by kernel_rfl) rfl (by kernel_rfl) (row_set (f:=Sn.D))) (Ai (idx_row (C:=cfg) (nxt:=4) (t:=23) (ty:=ty23) (te:=ye) (e:=25) (o:=2) (len:=yn.length) (sz:=2) (cap:=none) (i:=w64 (((yn.length:Nat):Int) - 1)) (by kernel_rfl) rfl (by kernel_rfl) rfl (by simp only [List.length_append,List.length_cons,List.length_nil,zf] at * <;> omega) (by simp only [List.length_append,List.length_cons,List.length_nil,zf] at * <;> omega)) (Ai (load_row (C:=cfg) (objs:=[(1,⟨yG.map Sn.D,2,false⟩),(2,⟨yn.map Sn.D,2,false⟩),(3,⟨[.agg [I yw.lo,I yw.hi]],2,false⟩)]) (nxt:=4) (t:=3) (ty:=ty3) (o:=2) (n:=(w64 (((yn.length:Nat):Int) - 1)).toNat) (sz:=2) (sub:=1) (ob:=⟨yn.map Sn.D,2,false⟩) (e:=Sn.D (yn.getD ((w64 (((yn.length:Nat):Int) - 1)).toNat) default)) (d:=I ((yn.getD ((w64 (((yn.length:Nat):Int) - 1)).toNat) default).hi)) (by kernel_rfl) (by kernel_rfl) rfl (row_get (f:=Sn.D) (by simp only [List.length_append,List.length_cons,List.length_nil,zf] at * <;> omega)) (by kernel_rfl)) (Ai (idx_row (C:=cfg) (nxt:=4) (t:=23) (ty:=ty23) (te:=ye) (e:=25) (o:=2) (len:=yn.length) (sz:=2) (cap:=none) (i:=w64 (((yn.length:Nat):Int) - 1)) (by kernel_rfl) rfl (by kernel_rfl) rfl (by simp only [List.length_append,List.length_cons,List.length_nil,zf] at * <;> omega) (by simp only [List.length_append,List.length_cons,List.length_nil,zf] at * <;> omega)) (Ai h28 (Ai p4 (Ai p3 (Ai h27 (Ai h26 (Ai (zV yw.hi) (Ai h25 (Ai (zV yw.lo) (Ai p2 (Ai p1 (Ai (lt_at' yS hq4p1) trivial)))))))))))))))) (by kernel_rfl) (by (simp only [sd63,go_sem,List.length_set,Nat.reduceAdd,Nat.reduceEqDiff,Nat.reduceLT,Nat.reduceLeDiff,bI2,zb.idsL,zb.renL,zb.snapAll,z6.idsL,z6.renL,z6.snapAll]) <;> rfl) (ih (yE+1) (yn.set ((w64 (((yn.length:Nat):Int) - 1)).toNat) (⟨(yn.getD ((w64 (((yn.length:Nat):Int) - 1)).toNat) default).lo,imax ((yn.getD ((w64 (((yn.length:Nat):Int) - 1)).toNat) default).hi) yw.hi⟩:Sn)) (zj yS) (zg yS) (by simp only [List.length_set] at * <;> omega) (by omega) (by simp only [List.length_set] at * <;> omega) (by omega)) (by kernel_rfl)
     | false =>
      have g28:=of_decide_eq_false h28
      exact zH (ks:=[4,10,11,12]) (st':=(sd64 yv yE yG yw yn)) ((ranges_gathered_4p1a_l_o1 yE yw)++((ranges_gathered_4p1a_l_o2 yw yn)++[.dec false,.op (some 59) ⟨.lsl 5 0 ((yn++[yw]).length) 2 none,[(2,none),(5,some ⟨(yn++[yw]).map Sn.D,2,false⟩)],[2,4],6⟩,.rw 60 (I ((yE+1:Nat):Int))])) (Ai (zZ (i:=yE) (by have:=zg yS; omega)) (Ai (app_row (f:=Sn.D) (te:=ye) (gO:=zu [(1,⟨yG.map Sn.D,2,false⟩),(2,⟨yn.map Sn.D,2,false⟩),(3,⟨[.agg [I yw.lo,I yw.hi]],2,false⟩),(4,⟨[.agg [I yw.lo,I yw.hi]],2,false⟩)]) (nxt:=5) (o:=2) (o2:=4) (fz:=false) z6 yn yw (by kernel_rfl) (by kernel_rfl) rfl (by kernel_rfl) (by decide) ⟨by simp only [ye,big] <;> (first | assumption | omega | (exact zT (by omega) (by omega)) | (exact zA (by omega)) | (exact zr (by omega)) | (exact zB (by omega)) | (exact zt (by omega)) | (simp only [zf] at * <;> omega) | (simp only [zq,GS.some_l,List.length_set,List.length_append,List.length_cons,List.length_nil] at * <;> first | with_reducible assumption | omega) | (simp only [zq,GS.some_l,List.length_set,List.length_append,List.length_cons,List.length_nil,zf] at * <;> first | with_reducible assumption | omega) | (simp at * <;> omega)),by simp only [big] <;> (first | assumption | omega | (exact zT (by omega) (by omega)) | (exact zA (by omega)) | (exact zr (by omega)) | (exact zB (by omega)) | (exact zt (by omega)) | (simp only [zf] at * <;> omega) | (simp only [zq,GS.some_l,List.length_set,List.length_append,List.length_cons,List.length_nil] at * <;> first | with_reducible assumption | omega) | (simp only [zq,GS.some_l,List.length_set,List.length_append,List.length_cons,List.length_nil,zf] at * <;> first | with_reducible assumption | omega) | (simp at * <;> omega))⟩) (Ai h28 (Ai p4 (Ai p3 (Ai h27 (Ai h26 (Ai (zV yw.hi) (Ai h25 (Ai (zV yw.lo) (Ai p2 (Ai p1 (Ai (lt_at' yS hq4p1) trivial))))))))))))) (by kernel_rfl) (by (simp only [sd64,go_sem,List.length_set,Nat.reduceAdd,Nat.reduceEqDiff,Nat.reduceLT,Nat.reduceLeDiff,bI2,zb.idsL,zb.renL,zb.snapAll,z6.idsL,z6.renL,z6.snapAll]) <;> rfl) (ih (yE+1) (yn++[yw]) (zj yS) (zg yS) (by simp only [List.length_append,List.length_cons,List.length_nil] at * <;> omega) (by omega) (by simp only [List.length_append,List.length_cons,List.length_nil] at * <;> omega) (by omega)) (by kernel_rfl)
    | false =>
     have g27:=of_decide_eq_false h27
     exact zH (ks:=[4,10,11,12]) (st':=(sd65 yv yE yG yw yn)) ((ranges_gathered_4p1a_l_o1 yE yw)++[.dec true,.pure (B (zD yw.hi)),.dec true,.dec false,.op (some 59) ⟨.lsl 5 0 ((yn++[yw]).length) 2 none,[(2,none),(5,some ⟨(yn++[yw]).map Sn.D,2,false⟩)],[2,4],6⟩,.rw 60 (I ((yE+1:Nat):Int))]) (Ai (zZ (i:=yE) (by have:=zg yS; omega)) (Ai (app_row (f:=Sn.D) (te:=ye) (gO:=zu [(1,⟨yG.map Sn.D,2,false⟩),(2,⟨yn.map Sn.D,2,false⟩),(3,⟨[.agg [I yw.lo,I yw.hi]],2,false⟩),(4,⟨[.agg [I yw.lo,I yw.hi]],2,false⟩)]) (nxt:=5) (o:=2) (o2:=4) (fz:=false) z6 yn yw (by kernel_rfl) (by kernel_rfl) rfl (by kernel_rfl) (by decide) ⟨by simp only [ye,big] <;> (first | assumption | omega | (exact zT (by omega) (by omega)) | (exact zA (by omega)) | (exact zr (by omega)) | (exact zB (by omega)) | (exact zt (by omega)) | (simp only [zf] at * <;> omega) | (simp only [zq,GS.some_l,List.length_set,List.length_append,List.length_cons,List.length_nil] at * <;> first | with_reducible assumption | omega) | (simp only [zq,GS.some_l,List.length_set,List.length_append,List.length_cons,List.length_nil,zf] at * <;> first | with_reducible assumption | omega) | (simp at * <;> omega)),by simp only [big] <;> (first | assumption | omega | (exact zT (by omega) (by omega)) | (exact zA (by omega)) | (exact zr (by omega)) | (exact zB (by omega)) | (exact zt (by omega)) | (simp only [zf] at * <;> omega) | (simp only [zq,GS.some_l,List.length_set,List.length_append,List.length_cons,List.length_nil] at * <;> first | with_reducible assumption | omega) | (simp only [zq,GS.some_l,List.length_set,List.length_append,List.length_cons,List.length_nil,zf] at * <;> first | with_reducible assumption | omega) | (simp at * <;> omega))⟩) (Ai h27 (Ai h26 (Ai (zV yw.hi) (Ai h25 (Ai (zV yw.lo) (Ai p2 (Ai p1 (Ai (lt_at' yS hq4p1) trivial)))))))))) (by kernel_rfl) (by (simp only [sd65,go_sem,List.length_set,Nat.reduceAdd,Nat.reduceEqDiff,Nat.reduceLT,Nat.reduceLeDiff,bI2,zb.idsL,zb.renL,zb.snapAll,z6.idsL,z6.renL,z6.snapAll]) <;> rfl) (ih (yE+1) (yn++[yw]) (zj yS) (zg yS) (by omega) (by omega) (by omega) (by omega)) (by kernel_rfl)
   | false =>
    exact zR ((ranges_gathered_4p1a_l_o1 yE yw)++[.dec true,.pure (B (zD yw.hi)),.dec false]) (Ai h26 (Ai (zV yw.hi) (Ai h25 (Ai (zV yw.lo) (Ai p2 (Ai p1 (Ai (lt_at' yS hq4p1) trivial))))))) (by kernel_rfl)
  | false =>
   exact zR ((ranges_gathered_4p1a_l_o1 yE yw)++[.dec false]) (Ai h25 (Ai (zV yw.lo) (Ai p2 (Ai p1 (Ai (lt_at' yS hq4p1) trivial))))) (by kernel_rfl)
theorem ivt_ranges_gathered_4p1a (yv:List Sn) (yG:List Sn):∀ (yO:List Sn) (yE:Nat) (yn:List Sn) (yS:yG.drop yE=yO) (hi4p1:yE≤yG.length) (hz4p1_va4p1_0:1≤yn.length) (hq4p1:yG.length=yv.length) (hg4p1_va4p1_0:yn.length≤yE) (hL4p1:yG.length≤1099511627776),zk yv yG (zS yO yE yn):=by
 intro yO
 induction yO with
 | nil =>
  intro yE yn yS hi4p1 hz4p1_va4p1_0 hq4p1 hg4p1_va4p1_0 hL4p1
  unfold zS
  obtain rfl:yE=yG.length:=zY yS hi4p1
  exact ⟨hz4p1_va4p1_0,hg4p1_va4p1_0⟩
 | cons yw yO ih =>
  intro yE yn yS hi4p1 hz4p1_va4p1_0 hq4p1 hg4p1_va4p1_0 hL4p1
  have hlt4p1:=zg yS
  unfold zS
  cases h25:(zD yw.lo) with
  | true =>
   cases h26:(zD yw.hi) with
   | true =>
    cases h27:decide (((yn.length:Nat):Int) > 0) with
    | true =>
     have g27:=of_decide_eq_true h27
     cases h28:decide (yw.lo≤(w64 (((yn.getD ((w64 (((yn.length:Nat):Int) - 1)).toNat) default).hi)+1))) with
     | true =>
      have g28:=of_decide_eq_true h28
      exact ih (yE+1) (yn.set ((w64 (((yn.length:Nat):Int) - 1)).toNat) (⟨(yn.getD ((w64 (((yn.length:Nat):Int) - 1)).toNat) default).lo,imax ((yn.getD ((w64 (((yn.length:Nat):Int) - 1)).toNat) default).hi) yw.hi⟩:Sn)) (zj yS) (zg yS) (by simp only [List.length_set] at * <;> omega) (by omega) (by simp only [List.length_set] at * <;> omega) (by omega)
     | false =>
      have g28:=of_decide_eq_false h28
      exact ih (yE+1) (yn++[yw]) (zj yS) (zg yS) (by simp only [List.length_append,List.length_cons,List.length_nil] at * <;> omega) (by omega) (by simp only [List.length_append,List.length_cons,List.length_nil] at * <;> omega) (by omega)
    | false =>
     have g27:=of_decide_eq_false h27
     exact ih (yE+1) (yn++[yw]) (zj yS) (zg yS) (by omega) (by omega) (by omega) (by omega)
   | false =>
    exact ⟨hz4p1_va4p1_0,hg4p1_va4p1_0⟩
  | false =>
   exact ⟨hz4p1_va4p1_0,hg4p1_va4p1_0⟩
def ranges_gathered_4p1_l_o1 (yE:Nat) (yw:Sn):List Ora:=[.dec true,.op (some 14) ⟨.lref 1 yE 2 0,[],[],2⟩,.op (some 15) ⟨.agg [I yw.lo,I yw.hi],[],[1],2⟩,.pure (B (zD yw.lo))]
theorem lp_ranges_gathered_4p1 (yv:List Sn) (yG:List Sn):∀ (yO:List Sn) (yE:Nat) (yS:yG.drop yE=yO) (hi4p1:yE≤yG.length) (hq4p1:yG.length=yv.length) (hL4p1:yG.length≤1099511627776),(lim cfg).loop 69 lp69_4 ⟨65,[(4,.sl true [] 0 none),(10,.lsl 1 0 yv.length 2 none),(11,I ((yv.length:Nat):Int)),(12,I ((yE:Nat):Int))],[(1,⟨yG.map Sn.D,2,false⟩)],2,2⟩=some (zh yv yG (zw yO yE)):=by
 intro yO
 induction yO with
 | nil =>
  intro yE yS hi4p1 hq4p1 hL4p1
  unfold zw
  obtain rfl:yE=yG.length:=zY yS hi4p1
  exact zR [.dec false] (Ai (lt_no' yS hq4p1) trivial) (by kernel_rfl)
 | cons yw yO ih =>
  intro yE yS hi4p1 hq4p1 hL4p1
  have hlt4p1:=zg yS
  unfold zw
  dsimp only
  have p1:=(idx_row (C:=cfg) (nxt:=2) (t:=22) (ty:=ty22) (te:=ye) (e:=25) (o:=1) (len:=yv.length) (sz:=2) (cap:=none) (i:=((yE:Nat):Int)) (by kernel_rfl) rfl (by kernel_rfl) rfl (by omega) (by omega))
  have p2:=(load_row (C:=cfg) (objs:=[(1,⟨yG.map Sn.D,2,false⟩)]) (nxt:=2) (t:=25) (ty:=ye) (o:=1) (n:=yE) (sz:=2) (sub:=0) (ob:=⟨yG.map Sn.D,2,false⟩) (e:=Sn.D yw) (d:=.agg [I yw.lo,I yw.hi]) (by kernel_rfl) (by kernel_rfl) rfl (row_at (f:=Sn.D) yS) (by kernel_rfl))
  cases h29:(zD yw.lo) with
  | true =>
   cases h30:(zD yw.hi) with
   | true =>
    exact zH (ks:=[4,10,11,12]) (st':=(sd66 yv yE yG yw)) ((ranges_gathered_4p1_l_o1 yE yw)++[.dec true,.pure (B (zD yw.hi)),.dec true,.dec false,.rw 60 (I ((yE+1:Nat):Int))]) (Ai (zZ (i:=yE) (by have:=zg yS; omega)) (Ai (Eq.refl false) (Ai h30 (Ai (zV yw.hi) (Ai h29 (Ai (zV yw.lo) (Ai p2 (Ai p1 (Ai (lt_at' yS hq4p1) trivial))))))))) (by kernel_rfl) (by (simp only [sd66,go_sem,List.length_set,Nat.reduceAdd,Nat.reduceEqDiff,Nat.reduceLT,Nat.reduceLeDiff,bI2,zb.idsL,zb.renL,zb.snapAll,z6.idsL,z6.renL,z6.snapAll]) <;> rfl) (lp_ranges_gathered_4p1a yv yG _ (yE+1) [yw] (zj yS) (zg yS) (by simp only [List.length_append,List.length_cons,List.length_nil] at * <;> omega) (by omega) (by simp only [List.length_append,List.length_cons,List.length_nil] at * <;> omega) (by omega)) (by kernel_rfl)
   | false =>
    exact zR ((ranges_gathered_4p1_l_o1 yE yw)++[.dec true,.pure (B (zD yw.hi)),.dec false]) (Ai h30 (Ai (zV yw.hi) (Ai h29 (Ai (zV yw.lo) (Ai p2 (Ai p1 (Ai (lt_at' yS hq4p1) trivial))))))) (by kernel_rfl)
  | false =>
   exact zR ((ranges_gathered_4p1_l_o1 yE yw)++[.dec false]) (Ai h29 (Ai (zV yw.lo) (Ai p2 (Ai p1 (Ai (lt_at' yS hq4p1) trivial))))) (by kernel_rfl)
theorem zz (yv:List Sn) (yG:List Sn):∀ (yO:List Sn) (yE:Nat) (yS:yG.drop yE=yO) (hi4p1:yE≤yG.length) (hq4p1:yG.length=yv.length) (hL4p1:yG.length≤1099511627776),zk yv yG (zw yO yE):=by
 intro yO
 induction yO with
 | nil =>
  intro yE yS hi4p1 hq4p1 hL4p1
  unfold zw
  obtain rfl:yE=yG.length:=zY yS hi4p1
  exact trivial
 | cons yw yO ih =>
  intro yE yS hi4p1 hq4p1 hL4p1
  have hlt4p1:=zg yS
  unfold zw
  dsimp only
  cases h29:(zD yw.lo) with
  | true =>
   cases h30:(zD yw.hi) with
   | true =>
    exact ivt_ranges_gathered_4p1a yv yG _ (yE+1) [yw] (zj yS) (zg yS) (by simp only [List.length_append,List.length_cons,List.length_nil] at * <;> omega) (by omega) (by simp only [List.length_append,List.length_cons,List.length_nil] at * <;> omega) (by omega)
   | false =>
    exact trivial
  | false =>
   exact trivial

def ranges_Sum (a:GS Sn) (b:GS Sn):(GS Sn) × Int :=
 bif ((yf (GS.some [a,b])) != 0) then
  (GS.nil,(yf (GS.some [a,b])))
 else
  match ranges_pairs_3 b a.l with
  | .x0 yv =>
   match zw (zm zl yv) 0 with
   | .x0 yn =>
    bif decide (((yn.length:Nat):Int) > 64) then
     (GS.nil,2)
    else
     (GS.some yn,0)
   | .x1 yE yw yn =>
    (GS.nil,2)
   | .x2 yE yw yn =>
    (GS.nil,2)
   | .x3 =>
    (GS.nil,0)
   | .x4 yE yw =>
    (GS.nil,2)
   | .x5 yE yw =>
    (GS.nil,2)
  | .x1 =>
   (GS.nil,0)

def ranges_Sum_o1 (a:GS Sn) (b:GS Sn) (yv:List Sn):List Ora:=[.pure (I (yf (GS.some [a,b]))),.dec false,.inl (.lsl 1 0 yv.length 2 none) [(1,⟨yv.map Sn.D,2,false⟩)] 2]

def sd62 (a:GS Sn) (b:GS Sn) (yv:List Sn):St:=⟨40,[(17,B false),(1,.sl b.nl (b.l.map Sn.D) (zsl b.nl 2) none),(2,.fn (.func 88) [] []),(7,.lsl 1 0 yv.length 2 none),(14,.sl a.nl (a.l.map Sn.D) (zsl a.nl 2) none),(15,I ((a.l.length:Nat):Int)),(16,I ((a.l.length:Nat):Int))],[(1,⟨yv.map Sn.D,2,false⟩)],2,1⟩

def sd68 (yv:List Sn):St:=⟨65,[(4,.sl true [] 0 none),(10,.lsl 1 0 yv.length 2 none),(11,I ((yv.length:Nat):Int)),(12,I 0)],[(1,⟨(zm zl yv).map Sn.D,2,false⟩)],2,2⟩

def sd69 (yv:List Sn) (yn:List Sn):St:=⟨65,[(13,B false),(4,.lsl 2 0 yn.length 2 none),(10,.lsl 1 0 yv.length 2 none),(11,I ((yv.length:Nat):Int)),(12,I (((zm zl yv).length:Nat):Int))],[(1,⟨(zm zl yv).map Sn.D,2,false⟩),(2,⟨yn.map Sn.D,2,false⟩)],3,2⟩

def sd67 (yv:List Sn):St:=⟨65,[(12,I 0),(11,I ((yv.length:Nat):Int)),(10,.lsl 1 0 yv.length 2 none),(4,.sl true [] 0 none),(9,.tup []),(8,.lsl 1 0 yv.length 2 none),(3,I 0),(2,.sl true [] 0 none),(0,.lsl 1 0 yv.length 2 none)],[(1,⟨(zm zl yv).map Sn.D,2,false⟩)],2,2⟩

def sd70 (yv:List Sn) (yE:Nat) (yw:Sn) (yn:List Sn):St:=⟨65,[(3,I 2),(2,.sl true [] 0 none),(25,B true),(24,B true),(23,B false),(22,I yw.hi),(21,.lref 3 0 2 1),(20,B false),(19,B false),(18,B true),(17,I yw.lo),(16,.lref 3 0 2 0),(6,.lref 3 0 2 0),(15,.agg [I yw.lo,I yw.hi]),(14,.lref 1 yE 2 0),(13,B true),(4,.lsl 2 0 yn.length 2 none),(10,.lsl 1 0 yv.length 2 none),(11,I ((yv.length:Nat):Int)),(12,I ((yE:Nat):Int))],[(1,⟨(zm zl yv).map Sn.D,2,false⟩),(2,⟨yn.map Sn.D,2,false⟩),(3,⟨[.agg [I yw.lo,I yw.hi]],2,false⟩)],4,2⟩

def sd71 (yv:List Sn) (yE:Nat) (yw:Sn) (yn:List Sn):St:=⟨65,[(3,I 2),(2,.sl true [] 0 none),(25,B true),(24,.tup []),(23,.tup []),(22,.tup []),(21,.tup []),(20,B true),(19,B true),(18,B false),(17,I yw.lo),(16,.lref 3 0 2 0),(6,.lref 3 0 2 0),(15,.agg [I yw.lo,I yw.hi]),(14,.lref 1 yE 2 0),(13,B true),(4,.lsl 2 0 yn.length 2 none),(10,.lsl 1 0 yv.length 2 none),(11,I ((yv.length:Nat):Int)),(12,I ((yE:Nat):Int))],[(1,⟨(zm zl yv).map Sn.D,2,false⟩),(2,⟨yn.map Sn.D,2,false⟩),(3,⟨[.agg [I yw.lo,I yw.hi]],2,false⟩)],4,2⟩

def sd72 (yv:List Sn):St:=⟨65,[(13,B false),(4,.sl true [] 0 none),(10,.lsl 1 0 yv.length 2 none),(11,I ((yv.length:Nat):Int)),(12,I (((zm zl yv).length:Nat):Int))],[(1,⟨(zm zl yv).map Sn.D,2,false⟩)],2,2⟩

def sd73 (yv:List Sn) (yE:Nat) (yw:Sn):St:=⟨65,[(3,I 2),(2,.sl true [] 0 none),(25,B true),(24,B true),(23,B false),(22,I yw.hi),(21,.lref 2 0 2 1),(20,B false),(19,B false),(18,B true),(17,I yw.lo),(16,.lref 2 0 2 0),(6,.lref 2 0 2 0),(15,.agg [I yw.lo,I yw.hi]),(14,.lref 1 yE 2 0),(13,B true),(4,.sl true [] 0 none),(10,.lsl 1 0 yv.length 2 none),(11,I ((yv.length:Nat):Int)),(12,I ((yE:Nat):Int))],[(1,⟨(zm zl yv).map Sn.D,2,false⟩),(2,⟨[.agg [I yw.lo,I yw.hi]],2,false⟩)],3,2⟩

def sd74 (yv:List Sn) (yE:Nat) (yw:Sn):St:=⟨65,[(3,I 2),(2,.sl true [] 0 none),(25,B true),(24,.tup []),(23,.tup []),(22,.tup []),(21,.tup []),(20,B true),(19,B true),(18,B false),(17,I yw.lo),(16,.lref 2 0 2 0),(6,.lref 2 0 2 0),(15,.agg [I yw.lo,I yw.hi]),(14,.lref 1 yE 2 0),(13,B true),(4,.sl true [] 0 none),(10,.lsl 1 0 yv.length 2 none),(11,I ((yv.length:Nat):Int)),(12,I ((yE:Nat):Int))],[(1,⟨(zm zl yv).map Sn.D,2,false⟩),(2,⟨[.agg [I yw.lo,I yw.hi]],2,false⟩)],3,2⟩

def sd75 (a:GS Sn) (b:GS Sn):St:=⟨40,[(17,B false),(1,.sl b.nl (b.l.map Sn.D) (zsl b.nl 2) none),(2,.fn (.func 88) [] []),(7,.sl true [] 0 none),(14,.sl a.nl (a.l.map Sn.D) (zsl a.nl 2) none),(15,I ((a.l.length:Nat):Int)),(16,I ((a.l.length:Nat):Int))],[],1,1⟩

theorem T_ranges_Sum (a:GS Sn) (b:GS Sn) (hLa:a.l.length≤9223372036854775807) (hLb:b.l.length≤9223372036854775807):(lim cfg).pure 28 [GS.D Sn.D 2 a,GS.D Sn.D 2 b]=some (.tup [GS.D Sn.D 2 ((ranges_Sum a b).1),I ((ranges_Sum a b).2)]):=by
 unfold ranges_Sum
 have p1:=(T_ranges_check (GS.some [a,b]) (by exact zT (by omega) (by omega)) (by simp only [zq,GS.some_l,List.length_set,List.length_append,List.length_cons,List.length_nil] at * <;> first | with_reducible assumption | omega))
 cases h1:((yf (GS.some [a,b])) != 0) with
 | true =>
  have g1:=bne_true h1
  exact zo [.pure (I (yf (GS.some [a,b]))),.dec true] (Ai h1 (Ai p1 trivial)) (by kernel_rfl)
 | false =>
  have g1:=check2_len (bne_false h1)
  cases h18:ranges_pairs_3 b a.l with
  | x0 yv =>
   try dsimp only
   have hv_h18:=ivt_ranges_pairs_3 a b a.l 0 (List.drop_zero) (Nat.zero_le _) (by omega) (by omega) (by omega)
   rw [h18] at hv_h18
   have hv_h18_0:=hv_h18
   try dsimp only [iv_ranges_pairs_3] at hv_h18_0
   have p2:=(show (lim cfg).inl 87 [.sl a.nl (a.l.map Sn.D) (zsl a.nl 2) none,.sl b.nl (b.l.map Sn.D) (zsl b.nl 2) none,.fn (.func 88) [] []] [] 1=some (.lsl 1 0 yv.length 2 none,[(1,⟨yv.map Sn.D,2,false⟩)],2) from zX [.rw 15 (I ((a.l.length:Nat):Int)),.loop (.exit 0) (sd62 a b yv)] (Ai (zU (q:=lr_ranges_pairs_3 a b) (lp_ranges_pairs_3 a b a.l 0 (List.drop_zero) (Nat.zero_le _) (by omega) (by omega) (by omega)) h18) (Ai (zi Sn.D a) trivial)) (by kernel_rfl))
   cases h31:zw (zm zl yv) 0 with
   | x0 yn =>
    try dsimp only
    have xn:=zz yv (zm zl yv) (zm zl yv) 0 (List.drop_zero) (Nat.zero_le _) (by simp only [zq,GS.some_l,List.length_set,List.length_append,List.length_cons,List.length_nil] at * <;> first | with_reducible assumption | omega) (by simp only [zq,GS.some_l,List.length_set,List.length_append,List.length_cons,List.length_nil] at * <;> first | with_reducible assumption | omega)
    rw [h31] at xn
    obtain ⟨xf,xg⟩:=xn
    try dsimp only [zk] at xf
    try dsimp only [zk] at xg
    cases h32:decide (((yn.length:Nat):Int) > 64) with
    | true =>
     have g32:=of_decide_eq_true h32
     exact zo ((ranges_Sum_o1 a b yv)++[.inlS [1] (.tup [.sl true [] 0 none,I 2]) [(1,⟨(zm zl yv).map Sn.D,2,false⟩),(2,⟨yn.map Sn.D,2,false⟩)] 3]) (Ai (Ai (show ze [(0,⟨[.sl a.nl (a.l.map Sn.D) (zsl a.nl 2) none,.sl b.nl (b.l.map Sn.D) (zsl b.nl 2) none],1,false⟩),(1,⟨yv.map Sn.D,2,false⟩)] 256 [1] []=some [1] from (by (simp only [ze,go_sem,List.length_set,Nat.reduceAdd,Nat.reduceEqDiff,Nat.reduceLT,Nat.reduceLeDiff,bI2,zb.idsL,zb.renL,zb.snapAll,z6.idsL,z6.renL,z6.snapAll]) <;> rfl)) (show (lim cfg).inl 69 [.lsl 1 0 yv.length 2 none] [(1,⟨yv.map Sn.D,2,false⟩)] 2=some (.tup [.sl true [] 0 none,I 2],[(1,⟨(zm zl yv).map Sn.D,2,false⟩),(2,⟨yn.map Sn.D,2,false⟩)],3) from zX [.inlS [1] (.tup []) [(1,⟨(zm zl yv).map Sn.D,2,false⟩)] 2,.gloop (sd68 yv) (.exit 0) (sd69 yv yn),.dec true] (Ai h32 (Ai (zU (q:=zh yv (zm zl yv)) (lp_ranges_gathered_4p1 yv (zm zl yv) (zm zl yv) 0 (List.drop_zero) (Nat.zero_le _) (by simp only [zq,GS.some_l,List.length_set,List.length_append,List.length_cons,List.length_nil] at * <;> first | with_reducible assumption | omega) (by simp only [zq,GS.some_l,List.length_set,List.length_append,List.length_cons,List.length_nil] at * <;> first | with_reducible assumption | omega)) h31) (Ai (gc_of (C:=cfg) (f:=69) (a:=lp69_4) (ks:=[4,10,11,12]) (st:=(sd67 yv)) (st1:=(sd68 yv)) (by kernel_rfl) (by (simp only [sd67,sd68,go_sem,List.length_set,Nat.reduceAdd,Nat.reduceEqDiff,Nat.reduceLT,Nat.reduceLeDiff,bI2,zb.idsL,zb.renL,zb.snapAll,z6.idsL,z6.renL,z6.snapAll]) <;> rfl)) (Ai (Ai (show ze [(1,⟨yv.map Sn.D,2,false⟩)] 256 [1] []=some [1] from (by (simp only [ze,go_sem,List.length_set,Nat.reduceAdd,Nat.reduceEqDiff,Nat.reduceLT,Nat.reduceLeDiff,bI2,zb.idsL,zb.renL,zb.snapAll,z6.idsL,z6.renL,z6.snapAll]) <;> rfl)) (T_sort 1 2 none yv (by omega))) trivial)))) (by kernel_rfl))) (Ai p2 (Ai h1 (Ai p1 trivial)))) (by kernel_rfl)
    | false =>
     have g32:=of_decide_eq_false h32
     exact po_pureS ((ranges_Sum_o1 a b yv)++[.inlS [1] (.tup [.lsl 2 0 yn.length 2 none,I 0]) [(1,⟨(zm zl yv).map Sn.D,2,false⟩),(2,⟨yn.map Sn.D,2,false⟩)] 3]) [(2,.sl false (yn.map Sn.D) 2 none,[2])] (Ai (snap_row (gO:=zu [(0,⟨[.sl a.nl (a.l.map Sn.D) (zsl a.nl 2) none,.sl b.nl (b.l.map Sn.D) (zsl b.nl 2) none],1,false⟩),(1,⟨(zm zl yv).map Sn.D,2,false⟩),(2,⟨yn.map Sn.D,2,false⟩)]) (o:=2) (len:=yn.length) (cap:=none) (fz:=false) z6 yn (by kernel_rfl) (by omega)) (Ai (Ai (show ze [(0,⟨[.sl a.nl (a.l.map Sn.D) (zsl a.nl 2) none,.sl b.nl (b.l.map Sn.D) (zsl b.nl 2) none],1,false⟩),(1,⟨yv.map Sn.D,2,false⟩)] 256 [1] []=some [1] from (by (simp only [ze,go_sem,List.length_set,Nat.reduceAdd,Nat.reduceEqDiff,Nat.reduceLT,Nat.reduceLeDiff,bI2,zb.idsL,zb.renL,zb.snapAll,z6.idsL,z6.renL,z6.snapAll]) <;> rfl)) (show (lim cfg).inl 69 [.lsl 1 0 yv.length 2 none] [(1,⟨yv.map Sn.D,2,false⟩)] 2=some (.tup [.lsl 2 0 yn.length 2 none,I 0],[(1,⟨(zm zl yv).map Sn.D,2,false⟩),(2,⟨yn.map Sn.D,2,false⟩)],3) from zX [.inlS [1] (.tup []) [(1,⟨(zm zl yv).map Sn.D,2,false⟩)] 2,.gloop (sd68 yv) (.exit 0) (sd69 yv yn),.dec false] (Ai h32 (Ai (zU (q:=zh yv (zm zl yv)) (lp_ranges_gathered_4p1 yv (zm zl yv) (zm zl yv) 0 (List.drop_zero) (Nat.zero_le _) (by simp only [zq,GS.some_l,List.length_set,List.length_append,List.length_cons,List.length_nil] at * <;> first | with_reducible assumption | omega) (by simp only [zq,GS.some_l,List.length_set,List.length_append,List.length_cons,List.length_nil] at * <;> first | with_reducible assumption | omega)) h31) (Ai (gc_of (C:=cfg) (f:=69) (a:=lp69_4) (ks:=[4,10,11,12]) (st:=(sd67 yv)) (st1:=(sd68 yv)) (by kernel_rfl) (by (simp only [sd67,sd68,go_sem,List.length_set,Nat.reduceAdd,Nat.reduceEqDiff,Nat.reduceLT,Nat.reduceLeDiff,bI2,zb.idsL,zb.renL,zb.snapAll,z6.idsL,z6.renL,z6.snapAll]) <;> rfl)) (Ai (Ai (show ze [(1,⟨yv.map Sn.D,2,false⟩)] 256 [1] []=some [1] from (by (simp only [ze,go_sem,List.length_set,Nat.reduceAdd,Nat.reduceEqDiff,Nat.reduceLT,Nat.reduceLeDiff,bI2,zb.idsL,zb.renL,zb.snapAll,z6.idsL,z6.renL,z6.snapAll]) <;> rfl)) (T_sort 1 2 none yv (by omega))) trivial)))) (by kernel_rfl))) (Ai p2 (Ai h1 (Ai p1 trivial))))) (by kernel_rfl)
   | x1 yE yw yn =>
    try dsimp only
    have xn:=zz yv (zm zl yv) (zm zl yv) 0 (List.drop_zero) (Nat.zero_le _) (by simp only [zq,GS.some_l,List.length_set,List.length_append,List.length_cons,List.length_nil] at * <;> first | with_reducible assumption | omega) (by simp only [zq,GS.some_l,List.length_set,List.length_append,List.length_cons,List.length_nil] at * <;> first | with_reducible assumption | omega)
    rw [h31] at xn
    obtain ⟨xf,xg⟩:=xn
    try dsimp only [zk] at xf
    try dsimp only [zk] at xg
    exact zo ((ranges_Sum_o1 a b yv)++[.inlS [1] (.tup [.sl true [] 0 none,I 2]) [(1,⟨(zm zl yv).map Sn.D,2,false⟩),(2,⟨yn.map Sn.D,2,false⟩),(3,⟨[.agg [I yw.lo,I yw.hi]],2,false⟩)] 4]) (Ai (Ai (show ze [(0,⟨[.sl a.nl (a.l.map Sn.D) (zsl a.nl 2) none,.sl b.nl (b.l.map Sn.D) (zsl b.nl 2) none],1,false⟩),(1,⟨yv.map Sn.D,2,false⟩)] 256 [1] []=some [1] from (by (simp only [ze,go_sem,List.length_set,Nat.reduceAdd,Nat.reduceEqDiff,Nat.reduceLT,Nat.reduceLeDiff,bI2,zb.idsL,zb.renL,zb.snapAll,z6.idsL,z6.renL,z6.snapAll]) <;> rfl)) (show (lim cfg).inl 69 [.lsl 1 0 yv.length 2 none] [(1,⟨yv.map Sn.D,2,false⟩)] 2=some (.tup [.sl true [] 0 none,I 2],[(1,⟨(zm zl yv).map Sn.D,2,false⟩),(2,⟨yn.map Sn.D,2,false⟩),(3,⟨[.agg [I yw.lo,I yw.hi]],2,false⟩)],4) from zX [.inlS [1] (.tup []) [(1,⟨(zm zl yv).map Sn.D,2,false⟩)] 2,.gloop (sd68 yv) .ret (sd70 yv yE yw yn)] (Ai (zU (q:=zh yv (zm zl yv)) (lp_ranges_gathered_4p1 yv (zm zl yv) (zm zl yv) 0 (List.drop_zero) (Nat.zero_le _) (by simp only [zq,GS.some_l,List.length_set,List.length_append,List.length_cons,List.length_nil] at * <;> first | with_reducible assumption | omega) (by simp only [zq,GS.some_l,List.length_set,List.length_append,List.length_cons,List.length_nil] at * <;> first | with_reducible assumption | omega)) h31) (Ai (gc_of (C:=cfg) (f:=69) (a:=lp69_4) (ks:=[4,10,11,12]) (st:=(sd67 yv)) (st1:=(sd68 yv)) (by kernel_rfl) (by (simp only [sd67,sd68,go_sem,List.length_set,Nat.reduceAdd,Nat.reduceEqDiff,Nat.reduceLT,Nat.reduceLeDiff,bI2,zb.idsL,zb.renL,zb.snapAll,z6.idsL,z6.renL,z6.snapAll]) <;> rfl)) (Ai (Ai (show ze [(1,⟨yv.map Sn.D,2,false⟩)] 256 [1] []=some [1] from (by (simp only [ze,go_sem,List.length_set,Nat.reduceAdd,Nat.reduceEqDiff,Nat.reduceLT,Nat.reduceLeDiff,bI2,zb.idsL,zb.renL,zb.snapAll,z6.idsL,z6.renL,z6.snapAll]) <;> rfl)) (T_sort 1 2 none yv (by omega))) trivial))) (by kernel_rfl))) (Ai p2 (Ai h1 (Ai p1 trivial)))) (by kernel_rfl)
   | x2 yE yw yn =>
    try dsimp only
    have xn:=zz yv (zm zl yv) (zm zl yv) 0 (List.drop_zero) (Nat.zero_le _) (by simp only [zq,GS.some_l,List.length_set,List.length_append,List.length_cons,List.length_nil] at * <;> first | with_reducible assumption | omega) (by simp only [zq,GS.some_l,List.length_set,List.length_append,List.length_cons,List.length_nil] at * <;> first | with_reducible assumption | omega)
    rw [h31] at xn
    obtain ⟨xf,xg⟩:=xn
    try dsimp only [zk] at xf
    try dsimp only [zk] at xg
    exact zo ((ranges_Sum_o1 a b yv)++[.inlS [1] (.tup [.sl true [] 0 none,I 2]) [(1,⟨(zm zl yv).map Sn.D,2,false⟩),(2,⟨yn.map Sn.D,2,false⟩),(3,⟨[.agg [I yw.lo,I yw.hi]],2,false⟩)] 4]) (Ai (Ai (show ze [(0,⟨[.sl a.nl (a.l.map Sn.D) (zsl a.nl 2) none,.sl b.nl (b.l.map Sn.D) (zsl b.nl 2) none],1,false⟩),(1,⟨yv.map Sn.D,2,false⟩)] 256 [1] []=some [1] from (by (simp only [ze,go_sem,List.length_set,Nat.reduceAdd,Nat.reduceEqDiff,Nat.reduceLT,Nat.reduceLeDiff,bI2,zb.idsL,zb.renL,zb.snapAll,z6.idsL,z6.renL,z6.snapAll]) <;> rfl)) (show (lim cfg).inl 69 [.lsl 1 0 yv.length 2 none] [(1,⟨yv.map Sn.D,2,false⟩)] 2=some (.tup [.sl true [] 0 none,I 2],[(1,⟨(zm zl yv).map Sn.D,2,false⟩),(2,⟨yn.map Sn.D,2,false⟩),(3,⟨[.agg [I yw.lo,I yw.hi]],2,false⟩)],4) from zX [.inlS [1] (.tup []) [(1,⟨(zm zl yv).map Sn.D,2,false⟩)] 2,.gloop (sd68 yv) .ret (sd71 yv yE yw yn)] (Ai (zU (q:=zh yv (zm zl yv)) (lp_ranges_gathered_4p1 yv (zm zl yv) (zm zl yv) 0 (List.drop_zero) (Nat.zero_le _) (by simp only [zq,GS.some_l,List.length_set,List.length_append,List.length_cons,List.length_nil] at * <;> first | with_reducible assumption | omega) (by simp only [zq,GS.some_l,List.length_set,List.length_append,List.length_cons,List.length_nil] at * <;> first | with_reducible assumption | omega)) h31) (Ai (gc_of (C:=cfg) (f:=69) (a:=lp69_4) (ks:=[4,10,11,12]) (st:=(sd67 yv)) (st1:=(sd68 yv)) (by kernel_rfl) (by (simp only [sd67,sd68,go_sem,List.length_set,Nat.reduceAdd,Nat.reduceEqDiff,Nat.reduceLT,Nat.reduceLeDiff,bI2,zb.idsL,zb.renL,zb.snapAll,z6.idsL,z6.renL,z6.snapAll]) <;> rfl)) (Ai (Ai (show ze [(1,⟨yv.map Sn.D,2,false⟩)] 256 [1] []=some [1] from (by (simp only [ze,go_sem,List.length_set,Nat.reduceAdd,Nat.reduceEqDiff,Nat.reduceLT,Nat.reduceLeDiff,bI2,zb.idsL,zb.renL,zb.snapAll,z6.idsL,z6.renL,z6.snapAll]) <;> rfl)) (T_sort 1 2 none yv (by omega))) trivial))) (by kernel_rfl))) (Ai p2 (Ai h1 (Ai p1 trivial)))) (by kernel_rfl)
   | x3 =>
    try dsimp only
    exact zo ((ranges_Sum_o1 a b yv)++[.inlS [1] (.tup [.sl true [] 0 none,I 0]) [(1,⟨(zm zl yv).map Sn.D,2,false⟩)] 2]) (Ai (Ai (show ze [(0,⟨[.sl a.nl (a.l.map Sn.D) (zsl a.nl 2) none,.sl b.nl (b.l.map Sn.D) (zsl b.nl 2) none],1,false⟩),(1,⟨yv.map Sn.D,2,false⟩)] 256 [1] []=some [1] from (by (simp only [ze,go_sem,List.length_set,Nat.reduceAdd,Nat.reduceEqDiff,Nat.reduceLT,Nat.reduceLeDiff,bI2,zb.idsL,zb.renL,zb.snapAll,z6.idsL,z6.renL,z6.snapAll]) <;> rfl)) (show (lim cfg).inl 69 [.lsl 1 0 yv.length 2 none] [(1,⟨yv.map Sn.D,2,false⟩)] 2=some (.tup [.sl true [] 0 none,I 0],[(1,⟨(zm zl yv).map Sn.D,2,false⟩)],2) from zX [.inlS [1] (.tup []) [(1,⟨(zm zl yv).map Sn.D,2,false⟩)] 2,.gloop (sd68 yv) (.exit 0) (sd72 yv),.dec false] (Ai (Eq.refl false) (Ai (zU (q:=zh yv (zm zl yv)) (lp_ranges_gathered_4p1 yv (zm zl yv) (zm zl yv) 0 (List.drop_zero) (Nat.zero_le _) (by simp only [zq,GS.some_l,List.length_set,List.length_append,List.length_cons,List.length_nil] at * <;> first | with_reducible assumption | omega) (by simp only [zq,GS.some_l,List.length_set,List.length_append,List.length_cons,List.length_nil] at * <;> first | with_reducible assumption | omega)) h31) (Ai (gc_of (C:=cfg) (f:=69) (a:=lp69_4) (ks:=[4,10,11,12]) (st:=(sd67 yv)) (st1:=(sd68 yv)) (by kernel_rfl) (by (simp only [sd67,sd68,go_sem,List.length_set,Nat.reduceAdd,Nat.reduceEqDiff,Nat.reduceLT,Nat.reduceLeDiff,bI2,zb.idsL,zb.renL,zb.snapAll,z6.idsL,z6.renL,z6.snapAll]) <;> rfl)) (Ai (Ai (show ze [(1,⟨yv.map Sn.D,2,false⟩)] 256 [1] []=some [1] from (by (simp only [ze,go_sem,List.length_set,Nat.reduceAdd,Nat.reduceEqDiff,Nat.reduceLT,Nat.reduceLeDiff,bI2,zb.idsL,zb.renL,zb.snapAll,z6.idsL,z6.renL,z6.snapAll]) <;> rfl)) (T_sort 1 2 none yv (by omega))) trivial)))) (by kernel_rfl))) (Ai p2 (Ai h1 (Ai p1 trivial)))) (by kernel_rfl)
   | x4 yE yw =>
    try dsimp only
    exact zo ((ranges_Sum_o1 a b yv)++[.inlS [1] (.tup [.sl true [] 0 none,I 2]) [(1,⟨(zm zl yv).map Sn.D,2,false⟩),(2,⟨[.agg [I yw.lo,I yw.hi]],2,false⟩)] 3]) (Ai (Ai (show ze [(0,⟨[.sl a.nl (a.l.map Sn.D) (zsl a.nl 2) none,.sl b.nl (b.l.map Sn.D) (zsl b.nl 2) none],1,false⟩),(1,⟨yv.map Sn.D,2,false⟩)] 256 [1] []=some [1] from (by (simp only [ze,go_sem,List.length_set,Nat.reduceAdd,Nat.reduceEqDiff,Nat.reduceLT,Nat.reduceLeDiff,bI2,zb.idsL,zb.renL,zb.snapAll,z6.idsL,z6.renL,z6.snapAll]) <;> rfl)) (show (lim cfg).inl 69 [.lsl 1 0 yv.length 2 none] [(1,⟨yv.map Sn.D,2,false⟩)] 2=some (.tup [.sl true [] 0 none,I 2],[(1,⟨(zm zl yv).map Sn.D,2,false⟩),(2,⟨[.agg [I yw.lo,I yw.hi]],2,false⟩)],3) from zX [.inlS [1] (.tup []) [(1,⟨(zm zl yv).map Sn.D,2,false⟩)] 2,.gloop (sd68 yv) .ret (sd73 yv yE yw)] (Ai (zU (q:=zh yv (zm zl yv)) (lp_ranges_gathered_4p1 yv (zm zl yv) (zm zl yv) 0 (List.drop_zero) (Nat.zero_le _) (by simp only [zq,GS.some_l,List.length_set,List.length_append,List.length_cons,List.length_nil] at * <;> first | with_reducible assumption | omega) (by simp only [zq,GS.some_l,List.length_set,List.length_append,List.length_cons,List.length_nil] at * <;> first | with_reducible assumption | omega)) h31) (Ai (gc_of (C:=cfg) (f:=69) (a:=lp69_4) (ks:=[4,10,11,12]) (st:=(sd67 yv)) (st1:=(sd68 yv)) (by kernel_rfl) (by (simp only [sd67,sd68,go_sem,List.length_set,Nat.reduceAdd,Nat.reduceEqDiff,Nat.reduceLT,Nat.reduceLeDiff,bI2,zb.idsL,zb.renL,zb.snapAll,z6.idsL,z6.renL,z6.snapAll]) <;> rfl)) (Ai (Ai (show ze [(1,⟨yv.map Sn.D,2,false⟩)] 256 [1] []=some [1] from (by (simp only [ze,go_sem,List.length_set,Nat.reduceAdd,Nat.reduceEqDiff,Nat.reduceLT,Nat.reduceLeDiff,bI2,zb.idsL,zb.renL,zb.snapAll,z6.idsL,z6.renL,z6.snapAll]) <;> rfl)) (T_sort 1 2 none yv (by omega))) trivial))) (by kernel_rfl))) (Ai p2 (Ai h1 (Ai p1 trivial)))) (by kernel_rfl)
   | x5 yE yw =>
    try dsimp only
    exact zo ((ranges_Sum_o1 a b yv)++[.inlS [1] (.tup [.sl true [] 0 none,I 2]) [(1,⟨(zm zl yv).map Sn.D,2,false⟩),(2,⟨[.agg [I yw.lo,I yw.hi]],2,false⟩)] 3]) (Ai (Ai (show ze [(0,⟨[.sl a.nl (a.l.map Sn.D) (zsl a.nl 2) none,.sl b.nl (b.l.map Sn.D) (zsl b.nl 2) none],1,false⟩),(1,⟨yv.map Sn.D,2,false⟩)] 256 [1] []=some [1] from (by (simp only [ze,go_sem,List.length_set,Nat.reduceAdd,Nat.reduceEqDiff,Nat.reduceLT,Nat.reduceLeDiff,bI2,zb.idsL,zb.renL,zb.snapAll,z6.idsL,z6.renL,z6.snapAll]) <;> rfl)) (show (lim cfg).inl 69 [.lsl 1 0 yv.length 2 none] [(1,⟨yv.map Sn.D,2,false⟩)] 2=some (.tup [.sl true [] 0 none,I 2],[(1,⟨(zm zl yv).map Sn.D,2,false⟩),(2,⟨[.agg [I yw.lo,I yw.hi]],2,false⟩)],3) from zX [.inlS [1] (.tup []) [(1,⟨(zm zl yv).map Sn.D,2,false⟩)] 2,.gloop (sd68 yv) .ret (sd74 yv yE yw)] (Ai (zU (q:=zh yv (zm zl yv)) (lp_ranges_gathered_4p1 yv (zm zl yv) (zm zl yv) 0 (List.drop_zero) (Nat.zero_le _) (by simp only [zq,GS.some_l,List.length_set,List.length_append,List.length_cons,List.length_nil] at * <;> first | with_reducible assumption | omega) (by simp only [zq,GS.some_l,List.length_set,List.length_append,List.length_cons,List.length_nil] at * <;> first | with_reducible assumption | omega)) h31) (Ai (gc_of (C:=cfg) (f:=69) (a:=lp69_4) (ks:=[4,10,11,12]) (st:=(sd67 yv)) (st1:=(sd68 yv)) (by kernel_rfl) (by (simp only [sd67,sd68,go_sem,List.length_set,Nat.reduceAdd,Nat.reduceEqDiff,Nat.reduceLT,Nat.reduceLeDiff,bI2,zb.idsL,zb.renL,zb.snapAll,z6.idsL,z6.renL,z6.snapAll]) <;> rfl)) (Ai (Ai (show ze [(1,⟨yv.map Sn.D,2,false⟩)] 256 [1] []=some [1] from (by (simp only [ze,go_sem,List.length_set,Nat.reduceAdd,Nat.reduceEqDiff,Nat.reduceLT,Nat.reduceLeDiff,bI2,zb.idsL,zb.renL,zb.snapAll,z6.idsL,z6.renL,z6.snapAll]) <;> rfl)) (T_sort 1 2 none yv (by omega))) trivial))) (by kernel_rfl))) (Ai p2 (Ai h1 (Ai p1 trivial)))) (by kernel_rfl)
  | x1 =>
   try dsimp only
   exact zo [.pure (I (yf (GS.some [a,b]))),.dec false,.inl (.sl true [] 0 none) [] 1,.inl (.tup [.sl true [] 0 none,I 0]) [] 1] (Ai (show (lim cfg).inl 69 [.sl true [] 0 none] [] 1=some (.tup [.sl true [] 0 none,I 0],[],1) from zX [.inl (.tup []) [] 1,.loop (.exit 0) ⟨65,[(13,B false),(4,.sl true [] 0 none),(10,.sl true [] 0 none),(11,I 0),(12,I 0)],[],1,1⟩,.dec false] (Ai (Eq.refl false) (Ai (show (lim cfg).loop 69 lp69_4 ⟨65,[(4,.sl true [] 0 none),(10,.sl true [] 0 none),(11,I 0),(12,I 0)],[],1,1⟩=some ((.exit 0),⟨65,[(13,B false),(4,.sl true [] 0 none),(10,.sl true [] 0 none),(11,I 0),(12,I 0)],[],1,1⟩) from (zR [.dec false] (Ai (Eq.refl false) trivial) (by kernel_rfl))) (Ai (T_sort_nil 1) trivial))) (by kernel_rfl)) (Ai (show (lim cfg).inl 87 [.sl a.nl (a.l.map Sn.D) (zsl a.nl 2) none,.sl b.nl (b.l.map Sn.D) (zsl b.nl 2) none,.fn (.func 88) [] []] [] 1=some (.sl true [] 0 none,[],1) from zX [.rw 15 (I ((a.l.length:Nat):Int)),.loop (.exit 0) (sd75 a b)] (Ai (zU (q:=lr_ranges_pairs_3 a b) (lp_ranges_pairs_3 a b a.l 0 (List.drop_zero) (Nat.zero_le _) (by omega) (by omega) (by omega)) h18) (Ai (zi Sn.D a) trivial)) (by kernel_rfl)) (Ai h1 (Ai p1 trivial)))) (by kernel_rfl)
end Go.VS

namespace Go.VS
open Go Go.Proofs
set_option maxHeartbeats 0
set_option linter.unusedSimpArgs false
set_option linter.unusedVariables false
def sd86 (a:GS Sn) (b:GS Sn) (yB:Nat) (yq:Sn) (i6p2:Nat) (yW:Sn) (yH:List Sn):St:=⟨40,[(22,I ((i6p2+1:Nat):Int)),(37,I ((i6p2+1:Nat):Int)),(36,B false),(7,.lsl 1 0 yH.length 2 none),(35,.lsl 1 0 yH.length 2 none),(34,.sl (((z7 yq yW).1).nl) ((((z7 yq yW).1).l).map Sn.D) (zsl (((z7 yq yW).1).nl) 2) none),(33,.lsl 1 0 yH.length 2 none),(13,B false),(12,.sl (((z7 yq yW).1).nl) ((((z7 yq yW).1).l).map Sn.D) (zsl (((z7 yq yW).1).nl) 2) none),(32,B false),(31,.sl (((z7 yq yW).1).nl) ((((z7 yq yW).1).l).map Sn.D) (zsl (((z7 yq yW).1).nl) 2) none),(26,.tup [.sl (((z7 yq yW).1).nl) ((((z7 yq yW).1).l).map Sn.D) (zsl (((z7 yq yW).1).nl) 2) none,B ((z7 yq yW).2)]),(30,.tup [.sl (((z7 yq yW).1).nl) ((((z7 yq yW).1).l).map Sn.D) (zsl (((z7 yq yW).1).nl) 2) none,B ((z7 yq yW).2)]),(29,.agg [I yW.lo,I yW.hi]),(28,.agg [I yq.lo,I yq.hi]),(27,.fn (.func 89) [] []),(11,.lref 3 0 2 0),(25,.agg [I yW.lo,I yW.hi]),(24,.ptr (.agg [I yW.lo,I yW.hi])),(23,B true),(1,.sl b.nl (b.l.map Sn.D) (zsl b.nl 2) none),(2,.fn (.func 89) [] []),(7,.lsl 1 0 yH.length 2 none),(9,.lref 2 0 2 0),(14,.sl a.nl (a.l.map Sn.D) (zsl a.nl 2) none),(15,I ((a.l.length:Nat):Int)),(16,I ((yB:Nat):Int)),(20,.sl b.nl (b.l.map Sn.D) (zsl b.nl 2) none),(21,I ((b.l.length:Nat):Int)),(22,I ((i6p2:Nat):Int))],[(1,⟨yH.map Sn.D,2,false⟩),(2,⟨[.agg [I yq.lo,I yq.hi]],2,false⟩),(3,⟨[.agg [I yW.lo,I yW.hi]],2,false⟩)],4,1⟩

def sd87 (a:GS Sn) (b:GS Sn) (yB:Nat) (yq:Sn) (i6p2:Nat) (yW:Sn) (yH:List Sn):St:=⟨40,[(22,I ((i6p2+1:Nat):Int)),(37,I ((i6p2+1:Nat):Int)),(36,B false),(7,.lsl 4 0 ((yH++(((z7 yq yW).1).l)).length) 2 none),(35,.lsl 4 0 ((yH++(((z7 yq yW).1).l)).length) 2 none),(34,.sl (((z7 yq yW).1).nl) ((((z7 yq yW).1).l).map Sn.D) (zsl (((z7 yq yW).1).nl) 2) none),(33,.lsl 1 0 yH.length 2 none),(13,B false),(12,.sl (((z7 yq yW).1).nl) ((((z7 yq yW).1).l).map Sn.D) (zsl (((z7 yq yW).1).nl) 2) none),(32,B false),(31,.sl (((z7 yq yW).1).nl) ((((z7 yq yW).1).l).map Sn.D) (zsl (((z7 yq yW).1).nl) 2) none),(26,.tup [.sl (((z7 yq yW).1).nl) ((((z7 yq yW).1).l).map Sn.D) (zsl (((z7 yq yW).1).nl) 2) none,B ((z7 yq yW).2)]),(30,.tup [.sl (((z7 yq yW).1).nl) ((((z7 yq yW).1).l).map Sn.D) (zsl (((z7 yq yW).1).nl) 2) none,B ((z7 yq yW).2)]),(29,.agg [I yW.lo,I yW.hi]),(28,.agg [I yq.lo,I yq.hi]),(27,.fn (.func 89) [] []),(11,.lref 3 0 2 0),(25,.agg [I yW.lo,I yW.hi]),(24,.ptr (.agg [I yW.lo,I yW.hi])),(23,B true),(1,.sl b.nl (b.l.map Sn.D) (zsl b.nl 2) none),(2,.fn (.func 89) [] []),(7,.lsl 1 0 yH.length 2 none),(9,.lref 2 0 2 0),(14,.sl a.nl (a.l.map Sn.D) (zsl a.nl 2) none),(15,I ((a.l.length:Nat):Int)),(16,I ((yB:Nat):Int)),(20,.sl b.nl (b.l.map Sn.D) (zsl b.nl 2) none),(21,I ((b.l.length:Nat):Int)),(22,I ((i6p2:Nat):Int))],[(2,⟨[.agg [I yq.lo,I yq.hi]],2,false⟩),(3,⟨[.agg [I yW.lo,I yW.hi]],2,false⟩),(4,⟨(yH++(((z7 yq yW).1).l)).map Sn.D,2,false⟩)],5,1⟩

inductive LR_ranges_pairs_6p2 where
 | x0 (yH:List Sn)
instance:Inhabited LR_ranges_pairs_6p2:=⟨.x0 default⟩
def y9 (yq:Sn):List Sn→(List Sn)→LR_ranges_pairs_6p2
 | [],yH=>.x0 yH
 | yW::xh,yH =>
  bif (((z7 yq yW).1).l).isEmpty then
   y9 yq xh yH
  else
   y9 yq xh (yH++(((z7 yq yW).1).l))
def lr_ranges_pairs_6p2 (a:GS Sn) (b:GS Sn) (yB:Nat) (yq:Sn):LR_ranges_pairs_6p2→Exit × St
 | .x0 yH=>((.exit 2),⟨40,[(23,B false),(1,.sl b.nl (b.l.map Sn.D) (zsl b.nl 2) none),(2,.fn (.func 89) [] []),(7,.lsl 1 0 yH.length 2 none),(9,.lref 2 0 2 0),(14,.sl a.nl (a.l.map Sn.D) (zsl a.nl 2) none),(15,I ((a.l.length:Nat):Int)),(16,I ((yB:Nat):Int)),(20,.sl b.nl (b.l.map Sn.D) (zsl b.nl 2) none),(21,I ((b.l.length:Nat):Int)),(22,I ((b.l.length:Nat):Int))],[(1,⟨yH.map Sn.D,2,false⟩),(2,⟨[.agg [I yq.lo,I yq.hi]],2,false⟩)],3,1⟩)
def iv_ranges_pairs_6p2 (a:GS Sn) (b:GS Sn) (yB:Nat) (yq:Sn):LR_ranges_pairs_6p2→Prop
 | .x0 yH=>(yH.length≤65 * yB+b.l.length)
theorem lp_ranges_pairs_6p2 (a:GS Sn) (b:GS Sn) (yB:Nat) (yq:Sn):∀ (xh:List Sn) (i6p2:Nat) (yH:List Sn) (xo:b.l.drop i6p2=xh) (hi6p2:i6p2≤b.l.length) (xe:b.l.length≤65) (ho64:yB < 64) (hg6p2_v6p2_0:yH.length≤65 * yB+i6p2) (hL6p2:b.l.length≤1099511627776),(lim cfg).loop 87 lp87_6 ⟨40,[(1,.sl b.nl (b.l.map Sn.D) (zsl b.nl 2) none),(2,.fn (.func 89) [] []),(7,.lsl 1 0 yH.length 2 none),(9,.lref 2 0 2 0),(14,.sl a.nl (a.l.map Sn.D) (zsl a.nl 2) none),(15,I ((a.l.length:Nat):Int)),(16,I ((yB:Nat):Int)),(20,.sl b.nl (b.l.map Sn.D) (zsl b.nl 2) none),(21,I ((b.l.length:Nat):Int)),(22,I ((i6p2:Nat):Int))],[(1,⟨yH.map Sn.D,2,false⟩),(2,⟨[.agg [I yq.lo,I yq.hi]],2,false⟩)],3,1⟩=some (lr_ranges_pairs_6p2 a b yB yq (y9 yq xh yH)):=by
 intro xh
 induction xh with
 | nil =>
  intro i6p2 yH xo hi6p2 xe ho64 hg6p2_v6p2_0 hL6p2
  unfold y9
  obtain rfl:i6p2=b.l.length:=zY xo hi6p2
  exact zR [.dec false] (Ai (lt_no xo) trivial) (by kernel_rfl)
 | cons yW xh ih =>
  intro i6p2 yH xo hi6p2 xe ho64 hg6p2_v6p2_0 hL6p2
  have hlt6p2:=zg xo
  have hlx:=difference1_len yq yW
  unfold y9
  cases h11:(((z7 yq yW).1).l).isEmpty with
  | true =>
   exact zH (ks:=[1,2,7,9,14,15,16,20,21,22]) (st':=(sd86 a b yB yq i6p2 yW yH)) [.dec true,.el (.agg [I yW.lo,I yW.hi]),.pure (.tup [.sl (((z7 yq yW).1).nl) ((((z7 yq yW).1).l).map Sn.D) (zsl (((z7 yq yW).1).nl) 2) none,B ((z7 yq yW).2)]),.dec false,.op (some 35) ⟨.lsl 1 0 yH.length 2 none,[],[],4⟩,.rw 37 (I ((i6p2+1:Nat):Int))] (Ai (zZ (i:=i6p2) (by have:=zg xo; omega)) (Ai (app_none (te:=ye) (gO:=zu [(1,⟨yH.map Sn.D,2,false⟩),(2,⟨[.agg [I yq.lo,I yq.hi]],2,false⟩),(3,⟨[.agg [I yW.lo,I yW.hi]],2,false⟩)]) (nxt:=4) (f:=Sn.D) (sz:=2) (d:=.lsl 1 0 yH.length 2 none) ((z7 yq yW).1) h11 rfl) (Ai (show ((z7 yq yW).2)=false from rfl) (Ai (T_ranges_Difference_1 yq yW) (Ai (el_at (s:=b) (f:=Sn.D) (k:=2) xo) (Ai (lt_at xo) trivial)))))) (by kernel_rfl) (by (simp only [sd86,go_sem,List.length_set,Nat.reduceAdd,Nat.reduceEqDiff,Nat.reduceLT,Nat.reduceLeDiff,bI2,zb.idsL,zb.renL,zb.snapAll,z6.idsL,z6.renL,z6.snapAll]) <;> rfl) (ih (i6p2+1) yH (zj xo) (zg xo) (by omega) (by omega) (by omega) (by omega)) (by kernel_rfl)
  | false =>
   exact zH (ks:=[1,2,7,9,14,15,16,20,21,22]) (st':=(sd87 a b yB yq i6p2 yW yH)) [.dec true,.el (.agg [I yW.lo,I yW.hi]),.pure (.tup [.sl (((z7 yq yW).1).nl) ((((z7 yq yW).1).l).map Sn.D) (zsl (((z7 yq yW).1).nl) 2) none,B ((z7 yq yW).2)]),.dec false,.op (some 35) ⟨.lsl 4 0 ((yH++(((z7 yq yW).1).l)).length) 2 none,[(1,none),(4,some ⟨(yH++(((z7 yq yW).1).l)).map Sn.D,2,false⟩)],[1],5⟩,.rw 37 (I ((i6p2+1:Nat):Int))] (Ai (zZ (i:=i6p2) (by have:=zg xo; omega)) (Ai (app_moreD (te:=ye) (gO:=zu [(1,⟨yH.map Sn.D,2,false⟩),(2,⟨[.agg [I yq.lo,I yq.hi]],2,false⟩),(3,⟨[.agg [I yW.lo,I yW.hi]],2,false⟩)]) (nxt:=4) (o:=1) (v:=yH) z6 ((z7 yq yW).1) h11 (by kernel_rfl) rfl (by kernel_rfl) (by decide) ⟨by simp only [ye,big] <;> (first | assumption | omega | (exact zT (by omega) (by omega)) | (exact zA (by omega)) | (exact zr (by omega)) | (exact zB (by omega)) | (exact zt (by omega)) | (simp only [zf] at * <;> omega) | (simp only [zq,GS.some_l,List.length_set,List.length_append,List.length_cons,List.length_nil] at * <;> first | with_reducible assumption | omega) | (simp only [zq,GS.some_l,List.length_set,List.length_append,List.length_cons,List.length_nil,zf] at * <;> first | with_reducible assumption | omega) | (simp at * <;> omega)),by simp only [big] <;> (first | assumption | omega | (exact zT (by omega) (by omega)) | (exact zA (by omega)) | (exact zr (by omega)) | (exact zB (by omega)) | (exact zt (by omega)) | (simp only [zf] at * <;> omega) | (simp only [zq,GS.some_l,List.length_set,List.length_append,List.length_cons,List.length_nil] at * <;> first | with_reducible assumption | omega) | (simp only [zq,GS.some_l,List.length_set,List.length_append,List.length_cons,List.length_nil,zf] at * <;> first | with_reducible assumption | omega) | (simp at * <;> omega))⟩) (Ai (show ((z7 yq yW).2)=false from rfl) (Ai (T_ranges_Difference_1 yq yW) (Ai (el_at (s:=b) (f:=Sn.D) (k:=2) xo) (Ai (lt_at xo) trivial)))))) (by kernel_rfl) (by (simp only [sd87,go_sem,List.length_set,Nat.reduceAdd,Nat.reduceEqDiff,Nat.reduceLT,Nat.reduceLeDiff,bI2,zb.idsL,zb.renL,zb.snapAll,z6.idsL,z6.renL,z6.snapAll]) <;> rfl) (ih (i6p2+1) (yH++(((z7 yq yW).1).l)) (zj xo) (zg xo) (by omega) (by omega) (by simp only [List.length_append,List.length_cons,List.length_nil] at * <;> omega) (by omega)) (by kernel_rfl)
theorem ivt_ranges_pairs_6p2 (a:GS Sn) (b:GS Sn) (yB:Nat) (yq:Sn):∀ (xh:List Sn) (i6p2:Nat) (yH:List Sn) (xo:b.l.drop i6p2=xh) (hi6p2:i6p2≤b.l.length) (xe:b.l.length≤65) (ho64:yB < 64) (hg6p2_v6p2_0:yH.length≤65 * yB+i6p2) (hL6p2:b.l.length≤1099511627776),iv_ranges_pairs_6p2 a b yB yq (y9 yq xh yH):=by
 intro xh
 induction xh with
 | nil =>
  intro i6p2 yH xo hi6p2 xe ho64 hg6p2_v6p2_0 hL6p2
  unfold y9
  obtain rfl:i6p2=b.l.length:=zY xo hi6p2
  exact hg6p2_v6p2_0
 | cons yW xh ih =>
  intro i6p2 yH xo hi6p2 xe ho64 hg6p2_v6p2_0 hL6p2
  have hlt6p2:=zg xo
  have hlx:=difference1_len yq yW
  unfold y9
  cases h11:(((z7 yq yW).1).l).isEmpty with
  | true =>
   exact ih (i6p2+1) yH (zj xo) (zg xo) (by omega) (by omega) (by omega) (by omega)
  | false =>
   exact ih (i6p2+1) (yH++(((z7 yq yW).1).l)) (zj xo) (zg xo) (by omega) (by omega) (by simp only [List.length_append,List.length_cons,List.length_nil] at * <;> omega) (by omega)

def sd89 (a:GS Sn) (b:GS Sn) (yB:Nat) (yq:Sn) (xk:Nat) (yJ:Sn) (yD:List Sn):St:=⟨40,[(22,I ((xk+1:Nat):Int)),(37,I ((xk+1:Nat):Int)),(36,B false),(7,.lsl 1 0 yD.length 2 none),(35,.lsl 1 0 yD.length 2 none),(34,.sl (((z7 yq yJ).1).nl) ((((z7 yq yJ).1).l).map Sn.D) (zsl (((z7 yq yJ).1).nl) 2) none),(33,.lsl 1 0 yD.length 2 none),(13,B false),(12,.sl (((z7 yq yJ).1).nl) ((((z7 yq yJ).1).l).map Sn.D) (zsl (((z7 yq yJ).1).nl) 2) none),(32,B false),(31,.sl (((z7 yq yJ).1).nl) ((((z7 yq yJ).1).l).map Sn.D) (zsl (((z7 yq yJ).1).nl) 2) none),(26,.tup [.sl (((z7 yq yJ).1).nl) ((((z7 yq yJ).1).l).map Sn.D) (zsl (((z7 yq yJ).1).nl) 2) none,B ((z7 yq yJ).2)]),(30,.tup [.sl (((z7 yq yJ).1).nl) ((((z7 yq yJ).1).l).map Sn.D) (zsl (((z7 yq yJ).1).nl) 2) none,B ((z7 yq yJ).2)]),(29,.agg [I yJ.lo,I yJ.hi]),(28,.agg [I yq.lo,I yq.hi]),(27,.fn (.func 89) [] []),(11,.lref 3 0 2 0),(25,.agg [I yJ.lo,I yJ.hi]),(24,.ptr (.agg [I yJ.lo,I yJ.hi])),(23,B true),(1,.sl b.nl (b.l.map Sn.D) (zsl b.nl 2) none),(2,.fn (.func 89) [] []),(7,.lsl 1 0 yD.length 2 none),(9,.lref 2 0 2 0),(14,.sl a.nl (a.l.map Sn.D) (zsl a.nl 2) none),(15,I ((a.l.length:Nat):Int)),(16,I ((yB:Nat):Int)),(20,.sl b.nl (b.l.map Sn.D) (zsl b.nl 2) none),(21,I ((b.l.length:Nat):Int)),(22,I ((xk:Nat):Int))],[(1,⟨yD.map Sn.D,2,false⟩),(2,⟨[.agg [I yq.lo,I yq.hi]],2,false⟩),(3,⟨[.agg [I yJ.lo,I yJ.hi]],2,false⟩)],4,1⟩

def sd90 (a:GS Sn) (b:GS Sn) (yB:Nat) (yq:Sn) (xk:Nat) (yJ:Sn) (yD:List Sn):St:=⟨40,[(22,I ((xk+1:Nat):Int)),(37,I ((xk+1:Nat):Int)),(36,B false),(7,.lsl 4 0 ((yD++(((z7 yq yJ).1).l)).length) 2 none),(35,.lsl 4 0 ((yD++(((z7 yq yJ).1).l)).length) 2 none),(34,.sl (((z7 yq yJ).1).nl) ((((z7 yq yJ).1).l).map Sn.D) (zsl (((z7 yq yJ).1).nl) 2) none),(33,.lsl 1 0 yD.length 2 none),(13,B false),(12,.sl (((z7 yq yJ).1).nl) ((((z7 yq yJ).1).l).map Sn.D) (zsl (((z7 yq yJ).1).nl) 2) none),(32,B false),(31,.sl (((z7 yq yJ).1).nl) ((((z7 yq yJ).1).l).map Sn.D) (zsl (((z7 yq yJ).1).nl) 2) none),(26,.tup [.sl (((z7 yq yJ).1).nl) ((((z7 yq yJ).1).l).map Sn.D) (zsl (((z7 yq yJ).1).nl) 2) none,B ((z7 yq yJ).2)]),(30,.tup [.sl (((z7 yq yJ).1).nl) ((((z7 yq yJ).1).l).map Sn.D) (zsl (((z7 yq yJ).1).nl) 2) none,B ((z7 yq yJ).2)]),(29,.agg [I yJ.lo,I yJ.hi]),(28,.agg [I yq.lo,I yq.hi]),(27,.fn (.func 89) [] []),(11,.lref 3 0 2 0),(25,.agg [I yJ.lo,I yJ.hi]),(24,.ptr (.agg [I yJ.lo,I yJ.hi])),(23,B true),(1,.sl b.nl (b.l.map Sn.D) (zsl b.nl 2) none),(2,.fn (.func 89) [] []),(7,.lsl 1 0 yD.length 2 none),(9,.lref 2 0 2 0),(14,.sl a.nl (a.l.map Sn.D) (zsl a.nl 2) none),(15,I ((a.l.length:Nat):Int)),(16,I ((yB:Nat):Int)),(20,.sl b.nl (b.l.map Sn.D) (zsl b.nl 2) none),(21,I ((b.l.length:Nat):Int)),(22,I ((xk:Nat):Int))],[(2,⟨[.agg [I yq.lo,I yq.hi]],2,false⟩),(3,⟨[.agg [I yJ.lo,I yJ.hi]],2,false⟩),(4,⟨(yD++(((z7 yq yJ).1).l)).map Sn.D,2,false⟩)],5,1⟩

def sd91 (a:GS Sn) (b:GS Sn) (yB:Nat) (yq:Sn) (xk:Nat) (yJ:Sn):St:=⟨40,[(22,I ((xk+1:Nat):Int)),(37,I ((xk+1:Nat):Int)),(36,B false),(7,.lsl 3 0 ((((z7 yq yJ).1).l).length) 2 none),(35,.lsl 3 0 ((((z7 yq yJ).1).l).length) 2 none),(34,.sl (((z7 yq yJ).1).nl) ((((z7 yq yJ).1).l).map Sn.D) (zsl (((z7 yq yJ).1).nl) 2) none),(33,.sl true [] 0 none),(13,B false),(12,.sl (((z7 yq yJ).1).nl) ((((z7 yq yJ).1).l).map Sn.D) (zsl (((z7 yq yJ).1).nl) 2) none),(32,B false),(31,.sl (((z7 yq yJ).1).nl) ((((z7 yq yJ).1).l).map Sn.D) (zsl (((z7 yq yJ).1).nl) 2) none),(26,.tup [.sl (((z7 yq yJ).1).nl) ((((z7 yq yJ).1).l).map Sn.D) (zsl (((z7 yq yJ).1).nl) 2) none,B ((z7 yq yJ).2)]),(30,.tup [.sl (((z7 yq yJ).1).nl) ((((z7 yq yJ).1).l).map Sn.D) (zsl (((z7 yq yJ).1).nl) 2) none,B ((z7 yq yJ).2)]),(29,.agg [I yJ.lo,I yJ.hi]),(28,.agg [I yq.lo,I yq.hi]),(27,.fn (.func 89) [] []),(11,.lref 2 0 2 0),(25,.agg [I yJ.lo,I yJ.hi]),(24,.ptr (.agg [I yJ.lo,I yJ.hi])),(23,B true),(1,.sl b.nl (b.l.map Sn.D) (zsl b.nl 2) none),(2,.fn (.func 89) [] []),(7,.sl true [] 0 none),(9,.lref 1 0 2 0),(14,.sl a.nl (a.l.map Sn.D) (zsl a.nl 2) none),(15,I ((a.l.length:Nat):Int)),(16,I ((yB:Nat):Int)),(20,.sl b.nl (b.l.map Sn.D) (zsl b.nl 2) none),(21,I ((b.l.length:Nat):Int)),(22,I ((xk:Nat):Int))],[(1,⟨[.agg [I yq.lo,I yq.hi]],2,false⟩),(2,⟨[.agg [I yJ.lo,I yJ.hi]],2,false⟩),(3,⟨(((z7 yq yJ).1).l).map Sn.D,2,false⟩)],4,1⟩

inductive LR_ranges_pairs_6p3 where
 | x0 (yD:List Sn)
 | x1
instance:Inhabited LR_ranges_pairs_6p3:=⟨.x0 default⟩
def yh (yq:Sn):List Sn→(List Sn)→LR_ranges_pairs_6p3
 | [],yD=>.x0 yD
 | yJ::yP,yD =>
  bif (((z7 yq yJ).1).l).isEmpty then
   yh yq yP yD
  else
   yh yq yP (yD++(((z7 yq yJ).1).l))
def ranges_pairs_6p3 (yq:Sn):List Sn→LR_ranges_pairs_6p3
 | []=>.x1
 | yJ::yP =>
  bif (((z7 yq yJ).1).l).isEmpty then
   ranges_pairs_6p3 yq yP
  else
   yh yq yP (((z7 yq yJ).1).l)
def lr_ranges_pairs_6p3 (a:GS Sn) (b:GS Sn) (yB:Nat) (yq:Sn):LR_ranges_pairs_6p3→Exit × St
 | .x0 yD=>((.exit 2),⟨40,[(23,B false),(1,.sl b.nl (b.l.map Sn.D) (zsl b.nl 2) none),(2,.fn (.func 89) [] []),(7,.lsl 1 0 yD.length 2 none),(9,.lref 2 0 2 0),(14,.sl a.nl (a.l.map Sn.D) (zsl a.nl 2) none),(15,I ((a.l.length:Nat):Int)),(16,I ((yB:Nat):Int)),(20,.sl b.nl (b.l.map Sn.D) (zsl b.nl 2) none),(21,I ((b.l.length:Nat):Int)),(22,I ((b.l.length:Nat):Int))],[(1,⟨yD.map Sn.D,2,false⟩),(2,⟨[.agg [I yq.lo,I yq.hi]],2,false⟩)],3,1⟩)
 | .x1=>((.exit 2),⟨40,[(23,B false),(1,.sl b.nl (b.l.map Sn.D) (zsl b.nl 2) none),(2,.fn (.func 89) [] []),(7,.sl true [] 0 none),(9,.lref 1 0 2 0),(14,.sl a.nl (a.l.map Sn.D) (zsl a.nl 2) none),(15,I ((a.l.length:Nat):Int)),(16,I ((yB:Nat):Int)),(20,.sl b.nl (b.l.map Sn.D) (zsl b.nl 2) none),(21,I ((b.l.length:Nat):Int)),(22,I ((b.l.length:Nat):Int))],[(1,⟨[.agg [I yq.lo,I yq.hi]],2,false⟩)],2,1⟩)
def iv_ranges_pairs_6p3 (a:GS Sn) (b:GS Sn) (yB:Nat) (yq:Sn):LR_ranges_pairs_6p3→Prop
 | .x0 yD=>(yD.length≤65 * yB+b.l.length)
 | .x1=>True
theorem lp_ranges_pairs_6p3a (a:GS Sn) (b:GS Sn) (yB:Nat) (yq:Sn):∀ (yP:List Sn) (xk:Nat) (yD:List Sn) (yU:b.l.drop xk=yP) (hi6p3:xk≤b.l.length) (xe:b.l.length≤65) (ho64:yB < 64) (hg6p3_va6p3_0:yD.length≤65 * yB+xk) (hL6p3:b.l.length≤1099511627776),(lim cfg).loop 87 lp87_6 ⟨40,[(1,.sl b.nl (b.l.map Sn.D) (zsl b.nl 2) none),(2,.fn (.func 89) [] []),(7,.lsl 1 0 yD.length 2 none),(9,.lref 2 0 2 0),(14,.sl a.nl (a.l.map Sn.D) (zsl a.nl 2) none),(15,I ((a.l.length:Nat):Int)),(16,I ((yB:Nat):Int)),(20,.sl b.nl (b.l.map Sn.D) (zsl b.nl 2) none),(21,I ((b.l.length:Nat):Int)),(22,I ((xk:Nat):Int))],[(1,⟨yD.map Sn.D,2,false⟩),(2,⟨[.agg [I yq.lo,I yq.hi]],2,false⟩)],3,1⟩=some (lr_ranges_pairs_6p3 a b yB yq (yh yq yP yD)):=by
 intro yP
 induction yP with
 | nil =>
  intro xk yD yU hi6p3 xe ho64 hg6p3_va6p3_0 hL6p3
  unfold yh
  obtain rfl:xk=b.l.length:=zY yU hi6p3
  exact zR [.dec false] (Ai (lt_no yU) trivial) (by kernel_rfl)
 | cons yJ yP ih =>
  intro xk yD yU hi6p3 xe ho64 hg6p3_va6p3_0 hL6p3
  have hlt6p3:=zg yU
  have hlx:=difference1_len yq yJ
  unfold yh
  cases h15:(((z7 yq yJ).1).l).isEmpty with
  | true =>
   exact zH (ks:=[1,2,7,9,14,15,16,20,21,22]) (st':=(sd89 a b yB yq xk yJ yD)) [.dec true,.el (.agg [I yJ.lo,I yJ.hi]),.pure (.tup [.sl (((z7 yq yJ).1).nl) ((((z7 yq yJ).1).l).map Sn.D) (zsl (((z7 yq yJ).1).nl) 2) none,B ((z7 yq yJ).2)]),.dec false,.op (some 35) ⟨.lsl 1 0 yD.length 2 none,[],[],4⟩,.rw 37 (I ((xk+1:Nat):Int))] (Ai (zZ (i:=xk) (by have:=zg yU; omega)) (Ai (app_none (te:=ye) (gO:=zu [(1,⟨yD.map Sn.D,2,false⟩),(2,⟨[.agg [I yq.lo,I yq.hi]],2,false⟩),(3,⟨[.agg [I yJ.lo,I yJ.hi]],2,false⟩)]) (nxt:=4) (f:=Sn.D) (sz:=2) (d:=.lsl 1 0 yD.length 2 none) ((z7 yq yJ).1) h15 rfl) (Ai (show ((z7 yq yJ).2)=false from rfl) (Ai (T_ranges_Difference_1 yq yJ) (Ai (el_at (s:=b) (f:=Sn.D) (k:=2) yU) (Ai (lt_at yU) trivial)))))) (by kernel_rfl) (by (simp only [sd89,go_sem,List.length_set,Nat.reduceAdd,Nat.reduceEqDiff,Nat.reduceLT,Nat.reduceLeDiff,bI2,zb.idsL,zb.renL,zb.snapAll,z6.idsL,z6.renL,z6.snapAll]) <;> rfl) (ih (xk+1) yD (zj yU) (zg yU) (by omega) (by omega) (by omega) (by omega)) (by kernel_rfl)
  | false =>
   exact zH (ks:=[1,2,7,9,14,15,16,20,21,22]) (st':=(sd90 a b yB yq xk yJ yD)) [.dec true,.el (.agg [I yJ.lo,I yJ.hi]),.pure (.tup [.sl (((z7 yq yJ).1).nl) ((((z7 yq yJ).1).l).map Sn.D) (zsl (((z7 yq yJ).1).nl) 2) none,B ((z7 yq yJ).2)]),.dec false,.op (some 35) ⟨.lsl 4 0 ((yD++(((z7 yq yJ).1).l)).length) 2 none,[(1,none),(4,some ⟨(yD++(((z7 yq yJ).1).l)).map Sn.D,2,false⟩)],[1],5⟩,.rw 37 (I ((xk+1:Nat):Int))] (Ai (zZ (i:=xk) (by have:=zg yU; omega)) (Ai (app_moreD (te:=ye) (gO:=zu [(1,⟨yD.map Sn.D,2,false⟩),(2,⟨[.agg [I yq.lo,I yq.hi]],2,false⟩),(3,⟨[.agg [I yJ.lo,I yJ.hi]],2,false⟩)]) (nxt:=4) (o:=1) (v:=yD) z6 ((z7 yq yJ).1) h15 (by kernel_rfl) rfl (by kernel_rfl) (by decide) ⟨by simp only [ye,big] <;> (first | assumption | omega | (exact zT (by omega) (by omega)) | (exact zA (by omega)) | (exact zr (by omega)) | (exact zB (by omega)) | (exact zt (by omega)) | (simp only [zf] at * <;> omega) | (simp only [zq,GS.some_l,List.length_set,List.length_append,List.length_cons,List.length_nil] at * <;> first | with_reducible assumption | omega) | (simp only [zq,GS.some_l,List.length_set,List.length_append,List.length_cons,List.length_nil,zf] at * <;> first | with_reducible assumption | omega) | (simp at * <;> omega)),by simp only [big] <;> (first | assumption | omega | (exact zT (by omega) (by omega)) | (exact zA (by omega)) | (exact zr (by omega)) | (exact zB (by omega)) | (exact zt (by omega)) | (simp only [zf] at * <;> omega) | (simp only [zq,GS.some_l,List.length_set,List.length_append,List.length_cons,List.length_nil] at * <;> first | with_reducible assumption | omega) | (simp only [zq,GS.some_l,List.length_set,List.length_append,List.length_cons,List.length_nil,zf] at * <;> first | with_reducible assumption | omega) | (simp at * <;> omega))⟩) (Ai (show ((z7 yq yJ).2)=false from rfl) (Ai (T_ranges_Difference_1 yq yJ) (Ai (el_at (s:=b) (f:=Sn.D) (k:=2) yU) (Ai (lt_at yU) trivial)))))) (by kernel_rfl) (by (simp only [sd90,go_sem,List.length_set,Nat.reduceAdd,Nat.reduceEqDiff,Nat.reduceLT,Nat.reduceLeDiff,bI2,zb.idsL,zb.renL,zb.snapAll,z6.idsL,z6.renL,z6.snapAll]) <;> rfl) (ih (xk+1) (yD++(((z7 yq yJ).1).l)) (zj yU) (zg yU) (by omega) (by omega) (by simp only [List.length_append,List.length_cons,List.length_nil] at * <;> omega) (by omega)) (by kernel_rfl)
theorem ivt_ranges_pairs_6p3a (a:GS Sn) (b:GS Sn) (yB:Nat) (yq:Sn):∀ (yP:List Sn) (xk:Nat) (yD:List Sn) (yU:b.l.drop xk=yP) (hi6p3:xk≤b.l.length) (xe:b.l.length≤65) (ho64:yB < 64) (hg6p3_va6p3_0:yD.length≤65 * yB+xk) (hL6p3:b.l.length≤1099511627776),iv_ranges_pairs_6p3 a b yB yq (yh yq yP yD):=by
 intro yP
 induction yP with
 | nil =>
  intro xk yD yU hi6p3 xe ho64 hg6p3_va6p3_0 hL6p3
  unfold yh
  obtain rfl:xk=b.l.length:=zY yU hi6p3
  exact hg6p3_va6p3_0
 | cons yJ yP ih =>
  intro xk yD yU hi6p3 xe ho64 hg6p3_va6p3_0 hL6p3
  have hlt6p3:=zg yU
  have hlx:=difference1_len yq yJ
  unfold yh
  cases h15:(((z7 yq yJ).1).l).isEmpty with
  | true =>
   exact ih (xk+1) yD (zj yU) (zg yU) (by omega) (by omega) (by omega) (by omega)
  | false =>
   exact ih (xk+1) (yD++(((z7 yq yJ).1).l)) (zj yU) (zg yU) (by omega) (by omega) (by simp only [List.length_append,List.length_cons,List.length_nil] at * <;> omega) (by omega)
theorem lp_ranges_pairs_6p3 (a:GS Sn) (b:GS Sn) (yB:Nat) (yq:Sn):∀ (yP:List Sn) (xk:Nat) (yU:b.l.drop xk=yP) (hi6p3:xk≤b.l.length) (xe:b.l.length≤65) (ho64:yB < 64) (hL6p3:b.l.length≤1099511627776),(lim cfg).loop 87 lp87_6 ⟨40,[(1,.sl b.nl (b.l.map Sn.D) (zsl b.nl 2) none),(2,.fn (.func 89) [] []),(7,.sl true [] 0 none),(9,.lref 1 0 2 0),(14,.sl a.nl (a.l.map Sn.D) (zsl a.nl 2) none),(15,I ((a.l.length:Nat):Int)),(16,I ((yB:Nat):Int)),(20,.sl b.nl (b.l.map Sn.D) (zsl b.nl 2) none),(21,I ((b.l.length:Nat):Int)),(22,I ((xk:Nat):Int))],[(1,⟨[.agg [I yq.lo,I yq.hi]],2,false⟩)],2,1⟩=some (lr_ranges_pairs_6p3 a b yB yq (ranges_pairs_6p3 yq yP)):=by
 intro yP
 induction yP with
 | nil =>
  intro xk yU hi6p3 xe ho64 hL6p3
  unfold ranges_pairs_6p3
  obtain rfl:xk=b.l.length:=zY yU hi6p3
  exact zR [.dec false] (Ai (lt_no yU) trivial) (by kernel_rfl)
 | cons yJ yP ih =>
  intro xk yU hi6p3 xe ho64 hL6p3
  have hlt6p3:=zg yU
  have hlx:=difference1_len yq yJ
  unfold ranges_pairs_6p3
  cases h16:(((z7 yq yJ).1).l).isEmpty with
  | true =>
   exact po_turn [.dec true,.el (.agg [I yJ.lo,I yJ.hi]),.pure (.tup [.sl (((z7 yq yJ).1).nl) ((((z7 yq yJ).1).l).map Sn.D) (zsl (((z7 yq yJ).1).nl) 2) none,B ((z7 yq yJ).2)]),.dec false,.op (some 35) ⟨.sl true [] 0 none,[],[],3⟩,.rw 37 (I ((xk+1:Nat):Int))] (Ai (zZ (i:=xk) (by have:=zg yU; omega)) (Ai (app_none (te:=ye) (gO:=zu [(1,⟨[.agg [I yq.lo,I yq.hi]],2,false⟩),(2,⟨[.agg [I yJ.lo,I yJ.hi]],2,false⟩)]) (nxt:=3) (f:=Sn.D) (sz:=2) (d:=.sl true [] 0 none) ((z7 yq yJ).1) h16 rfl) (Ai (show ((z7 yq yJ).2)=false from rfl) (Ai (T_ranges_Difference_1 yq yJ) (Ai (el_at (s:=b) (f:=Sn.D) (k:=2) yU) (Ai (lt_at yU) trivial)))))) (ih (xk+1) (zj yU) (zg yU) (by omega) (by omega) (by omega)) (by kernel_rfl)
  | false =>
   exact zH (ks:=[1,2,7,9,14,15,16,20,21,22]) (st':=(sd91 a b yB yq xk yJ)) [.dec true,.el (.agg [I yJ.lo,I yJ.hi]),.pure (.tup [.sl (((z7 yq yJ).1).nl) ((((z7 yq yJ).1).l).map Sn.D) (zsl (((z7 yq yJ).1).nl) 2) none,B ((z7 yq yJ).2)]),.dec false,.op (some 35) ⟨.lsl 3 0 ((((z7 yq yJ).1).l).length) 2 none,[(3,some ⟨(((z7 yq yJ).1).l).map Sn.D,2,false⟩)],[],4⟩,.rw 37 (I ((xk+1:Nat):Int))] (Ai (zZ (i:=xk) (by have:=zg yU; omega)) (Ai (app_newD (te:=ye) (gO:=zu [(1,⟨[.agg [I yq.lo,I yq.hi]],2,false⟩),(2,⟨[.agg [I yJ.lo,I yJ.hi]],2,false⟩)]) (nxt:=3) (els0:=[]) (sz0:=0) (cap0:=none) z6 ((z7 yq yJ).1) h16 rfl (by kernel_rfl) (by decide) ⟨by simp only [ye,big] <;> (first | assumption | omega | (exact zT (by omega) (by omega)) | (exact zA (by omega)) | (exact zr (by omega)) | (exact zB (by omega)) | (exact zt (by omega)) | (simp only [zf] at * <;> omega) | (simp only [zq,GS.some_l,List.length_set,List.length_append,List.length_cons,List.length_nil] at * <;> first | with_reducible assumption | omega) | (simp only [zq,GS.some_l,List.length_set,List.length_append,List.length_cons,List.length_nil,zf] at * <;> first | with_reducible assumption | omega) | (simp at * <;> omega)),by simp only [big] <;> (first | assumption | omega | (exact zT (by omega) (by omega)) | (exact zA (by omega)) | (exact zr (by omega)) | (exact zB (by omega)) | (exact zt (by omega)) | (simp only [zf] at * <;> omega) | (simp only [zq,GS.some_l,List.length_set,List.length_append,List.length_cons,List.length_nil] at * <;> first | with_reducible assumption | omega) | (simp only [zq,GS.some_l,List.length_set,List.length_append,List.length_cons,List.length_nil,zf] at * <;> first | with_reducible assumption | omega) | (simp at * <;> omega))⟩) (Ai (show ((z7 yq yJ).2)=false from rfl) (Ai (T_ranges_Difference_1 yq yJ) (Ai (el_at (s:=b) (f:=Sn.D) (k:=2) yU) (Ai (lt_at yU) trivial)))))) (by kernel_rfl) (by (simp only [sd91,go_sem,List.length_set,Nat.reduceAdd,Nat.reduceEqDiff,Nat.reduceLT,Nat.reduceLeDiff,bI2,zb.idsL,zb.renL,zb.snapAll,z6.idsL,z6.renL,z6.snapAll]) <;> rfl) (lp_ranges_pairs_6p3a a b yB yq _ (xk+1) (((z7 yq yJ).1).l) (zj yU) (zg yU) (by omega) (by omega) (by omega) (by omega)) (by kernel_rfl)
theorem ivt_ranges_pairs_6p3 (a:GS Sn) (b:GS Sn) (yB:Nat) (yq:Sn):∀ (yP:List Sn) (xk:Nat) (yU:b.l.drop xk=yP) (hi6p3:xk≤b.l.length) (xe:b.l.length≤65) (ho64:yB < 64) (hL6p3:b.l.length≤1099511627776),iv_ranges_pairs_6p3 a b yB yq (ranges_pairs_6p3 yq yP):=by
 intro yP
 induction yP with
 | nil =>
  intro xk yU hi6p3 xe ho64 hL6p3
  unfold ranges_pairs_6p3
  obtain rfl:xk=b.l.length:=zY yU hi6p3
  exact trivial
 | cons yJ yP ih =>
  intro xk yU hi6p3 xe ho64 hL6p3
  have hlt6p3:=zg yU
  have hlx:=difference1_len yq yJ
  unfold ranges_pairs_6p3
  cases h16:(((z7 yq yJ).1).l).isEmpty with
  | true =>
   exact ih (xk+1) (zj yU) (zg yU) (by omega) (by omega) (by omega)
  | false =>
   exact ivt_ranges_pairs_6p3a a b yB yq _ (xk+1) (((z7 yq yJ).1).l) (zj yU) (zg yU) (by omega) (by omega) (by omega) (by omega)

def sd93 (a:GS Sn) (b:GS Sn) (yB:Nat) (yq:Sn) (yH:List Sn):St:=⟨40,[(16,I ((yB+1:Nat):Int)),(38,I ((yB+1:Nat):Int)),(23,B false),(1,.sl b.nl (b.l.map Sn.D) (zsl b.nl 2) none),(2,.fn (.func 89) [] []),(7,.lsl 1 0 yH.length 2 none),(9,.lref 2 0 2 0),(14,.sl a.nl (a.l.map Sn.D) (zsl a.nl 2) none),(15,I ((a.l.length:Nat):Int)),(16,I ((yB:Nat):Int)),(20,.sl b.nl (b.l.map Sn.D) (zsl b.nl 2) none),(21,I ((b.l.length:Nat):Int)),(22,I ((b.l.length:Nat):Int))],[(1,⟨yH.map Sn.D,2,false⟩),(2,⟨[.agg [I yq.lo,I yq.hi]],2,false⟩)],3,1⟩

def sd84 (a:GS Sn) (b:GS Sn) (yB:Nat) (yq:Sn) (yk:List Sn):St:=⟨40,[(1,.sl b.nl (b.l.map Sn.D) (zsl b.nl 2) none),(2,.fn (.func 89) [] []),(7,.lsl 1 0 yk.length 2 none),(9,.lref 2 0 2 0),(14,.sl a.nl (a.l.map Sn.D) (zsl a.nl 2) none),(15,I ((a.l.length:Nat):Int)),(16,I ((yB:Nat):Int)),(20,.sl b.nl (b.l.map Sn.D) (zsl b.nl 2) none),(21,I ((b.l.length:Nat):Int)),(22,I 0)],[(1,⟨yk.map Sn.D,2,false⟩),(2,⟨[.agg [I yq.lo,I yq.hi]],2,false⟩)],3,1⟩

def sd88 (a:GS Sn) (b:GS Sn) (yB:Nat) (yq:Sn) (yH:List Sn):St:=⟨40,[(23,B false),(1,.sl b.nl (b.l.map Sn.D) (zsl b.nl 2) none),(2,.fn (.func 89) [] []),(7,.lsl 1 0 yH.length 2 none),(9,.lref 2 0 2 0),(14,.sl a.nl (a.l.map Sn.D) (zsl a.nl 2) none),(15,I ((a.l.length:Nat):Int)),(16,I ((yB:Nat):Int)),(20,.sl b.nl (b.l.map Sn.D) (zsl b.nl 2) none),(21,I ((b.l.length:Nat):Int)),(22,I ((b.l.length:Nat):Int))],[(1,⟨yH.map Sn.D,2,false⟩),(2,⟨[.agg [I yq.lo,I yq.hi]],2,false⟩)],3,1⟩

def sd83 (a:GS Sn) (b:GS Sn) (yB:Nat) (yq:Sn) (yk:List Sn):St:=⟨40,[(22,I 0),(21,I ((b.l.length:Nat):Int)),(20,.sl b.nl (b.l.map Sn.D) (zsl b.nl 2) none),(9,.lref 2 0 2 0),(19,.agg [I yq.lo,I yq.hi]),(18,.ptr (.agg [I yq.lo,I yq.hi])),(17,B true),(1,.sl b.nl (b.l.map Sn.D) (zsl b.nl 2) none),(2,.fn (.func 89) [] []),(7,.lsl 1 0 yk.length 2 none),(14,.sl a.nl (a.l.map Sn.D) (zsl a.nl 2) none),(15,I ((a.l.length:Nat):Int)),(16,I ((yB:Nat):Int))],[(1,⟨yk.map Sn.D,2,false⟩),(2,⟨[.agg [I yq.lo,I yq.hi]],2,false⟩)],3,1⟩

def sd94 (a:GS Sn) (b:GS Sn) (yB:Nat) (yq:Sn) (yD:List Sn):St:=⟨40,[(16,I ((yB+1:Nat):Int)),(38,I ((yB+1:Nat):Int)),(23,B false),(1,.sl b.nl (b.l.map Sn.D) (zsl b.nl 2) none),(2,.fn (.func 89) [] []),(7,.lsl 1 0 yD.length 2 none),(9,.lref 2 0 2 0),(14,.sl a.nl (a.l.map Sn.D) (zsl a.nl 2) none),(15,I ((a.l.length:Nat):Int)),(16,I ((yB:Nat):Int)),(20,.sl b.nl (b.l.map Sn.D) (zsl b.nl 2) none),(21,I ((b.l.length:Nat):Int)),(22,I ((b.l.length:Nat):Int))],[(1,⟨yD.map Sn.D,2,false⟩),(2,⟨[.agg [I yq.lo,I yq.hi]],2,false⟩)],3,1⟩

def sd92 (a:GS Sn) (b:GS Sn) (yB:Nat) (yq:Sn) (yD:List Sn):St:=⟨40,[(23,B false),(1,.sl b.nl (b.l.map Sn.D) (zsl b.nl 2) none),(2,.fn (.func 89) [] []),(7,.lsl 1 0 yD.length 2 none),(9,.lref 2 0 2 0),(14,.sl a.nl (a.l.map Sn.D) (zsl a.nl 2) none),(15,I ((a.l.length:Nat):Int)),(16,I ((yB:Nat):Int)),(20,.sl b.nl (b.l.map Sn.D) (zsl b.nl 2) none),(21,I ((b.l.length:Nat):Int)),(22,I ((b.l.length:Nat):Int))],[(1,⟨yD.map Sn.D,2,false⟩),(2,⟨[.agg [I yq.lo,I yq.hi]],2,false⟩)],3,1⟩

def sd80 (a:GS Sn) (b:GS Sn) (yB:Nat) (yq:Sn):St:=⟨40,[(23,B false),(1,.sl b.nl (b.l.map Sn.D) (zsl b.nl 2) none),(2,.fn (.func 89) [] []),(7,.sl true [] 0 none),(9,.lref 1 0 2 0),(14,.sl a.nl (a.l.map Sn.D) (zsl a.nl 2) none),(15,I ((a.l.length:Nat):Int)),(16,I ((yB:Nat):Int)),(20,.sl b.nl (b.l.map Sn.D) (zsl b.nl 2) none),(21,I ((b.l.length:Nat):Int)),(22,I ((b.l.length:Nat):Int))],[(1,⟨[.agg [I yq.lo,I yq.hi]],2,false⟩)],2,1⟩

inductive LR_ranges_pairs_3p1 where
 | x0 (yk:List Sn)
 | x1
instance:Inhabited LR_ranges_pairs_3p1:=⟨.x0 default⟩
def ranges_pairs_3p1a (b:GS Sn):List Sn→(List Sn)→LR_ranges_pairs_3p1
 | [],yk=>.x0 yk
 | yq::yx,yk =>
  match y9 yq b.l yk with
  | .x0 yH =>
   ranges_pairs_3p1a b yx yH
def ranges_pairs_3p1 (b:GS Sn):List Sn→LR_ranges_pairs_3p1
 | []=>.x1
 | yq::yx =>
  match ranges_pairs_6p3 yq b.l with
  | .x0 yD =>
   ranges_pairs_3p1a b yx yD
  | .x1 =>
   ranges_pairs_3p1 b yx
def lr_ranges_pairs_3p1 (a:GS Sn) (b:GS Sn):LR_ranges_pairs_3p1→Exit × St
 | .x0 yk=>((.exit 0),⟨40,[(17,B false),(1,.sl b.nl (b.l.map Sn.D) (zsl b.nl 2) none),(2,.fn (.func 89) [] []),(7,.lsl 1 0 yk.length 2 none),(14,.sl a.nl (a.l.map Sn.D) (zsl a.nl 2) none),(15,I ((a.l.length:Nat):Int)),(16,I ((a.l.length:Nat):Int))],[(1,⟨yk.map Sn.D,2,false⟩)],2,1⟩)
 | .x1=>((.exit 0),⟨40,[(17,B false),(1,.sl b.nl (b.l.map Sn.D) (zsl b.nl 2) none),(2,.fn (.func 89) [] []),(7,.sl true [] 0 none),(14,.sl a.nl (a.l.map Sn.D) (zsl a.nl 2) none),(15,I ((a.l.length:Nat):Int)),(16,I ((a.l.length:Nat):Int))],[],1,1⟩)
def iv_ranges_pairs_3p1 (a:GS Sn) (b:GS Sn):LR_ranges_pairs_3p1→Prop
 | .x0 yk=>(yk.length≤65 * a.l.length)
 | .x1=>True
theorem lp_ranges_pairs_3p1a (a:GS Sn) (b:GS Sn):∀ (yx:List Sn) (yB:Nat) (yk:List Sn) (yy:a.l.drop yB=yx) (yV:yB≤a.l.length) (yZ:a.l.length≤64) (xe:b.l.length≤65) (hg3p1_va3p1_0:yk.length≤65 * yB) (hL3p1:a.l.length≤1099511627776),(lim cfg).loop 87 lp87_3 ⟨40,[(1,.sl b.nl (b.l.map Sn.D) (zsl b.nl 2) none),(2,.fn (.func 89) [] []),(7,.lsl 1 0 yk.length 2 none),(14,.sl a.nl (a.l.map Sn.D) (zsl a.nl 2) none),(15,I ((a.l.length:Nat):Int)),(16,I ((yB:Nat):Int))],[(1,⟨yk.map Sn.D,2,false⟩)],2,1⟩=some (lr_ranges_pairs_3p1 a b (ranges_pairs_3p1a b yx yk)):=by
 intro yx
 induction yx with
 | nil =>
  intro yB yk yy yV yZ xe hg3p1_va3p1_0 hL3p1
  unfold ranges_pairs_3p1a
  obtain rfl:yB=a.l.length:=zY yy yV
  exact zR [.dec false] (Ai (lt_no yy) trivial) (by kernel_rfl)
 | cons yq yx ih =>
  intro yB yk yy yV yZ xe hg3p1_va3p1_0 hL3p1
  have hlt3p1:=zg yy
  unfold ranges_pairs_3p1a
  cases h12:y9 yq b.l yk with
  | x0 yH =>
   try dsimp only
   have hv_h12:=ivt_ranges_pairs_6p2 a b yB yq b.l 0 yk (List.drop_zero) (Nat.zero_le _) (by omega) (by omega) (by omega) (by omega)
   rw [h12] at hv_h12
   have xp:=hv_h12
   try dsimp only [iv_ranges_pairs_6p2] at xp
   exact zH (ks:=[1,2,7,14,15,16]) (st':=(sd93 a b yB yq yH)) [.dec true,.el (.agg [I yq.lo,I yq.hi]),.rw 21 (I ((b.l.length:Nat):Int)),.gloop (sd84 a b yB yq yk) (.exit 2) (sd88 a b yB yq yH),.rw 38 (I ((yB+1:Nat):Int))] (Ai (zZ (i:=yB) (by have:=zg yy; omega)) (Ai (zU (q:=lr_ranges_pairs_6p2 a b yB yq) (lp_ranges_pairs_6p2 a b yB yq b.l 0 yk (List.drop_zero) (Nat.zero_le _) (by omega) (by omega) (by omega) (by omega)) h12) (Ai (gc_of (C:=cfg) (f:=87) (a:=lp87_6) (ks:=[1,2,7,9,14,15,16,20,21,22]) (st:=(sd83 a b yB yq yk)) (st1:=(sd84 a b yB yq yk)) (by kernel_rfl) (by (simp only [sd83,sd84,go_sem,List.length_set,Nat.reduceAdd,Nat.reduceEqDiff,Nat.reduceLT,Nat.reduceLeDiff,bI2,zb.idsL,zb.renL,zb.snapAll,z6.idsL,z6.renL,z6.snapAll]) <;> rfl)) (Ai (zi Sn.D b) (Ai (el_at (s:=a) (f:=Sn.D) (k:=2) yy) (Ai (lt_at yy) trivial)))))) (by kernel_rfl) (by (simp only [sd93,go_sem,List.length_set,Nat.reduceAdd,Nat.reduceEqDiff,Nat.reduceLT,Nat.reduceLeDiff,bI2,zb.idsL,zb.renL,zb.snapAll,z6.idsL,z6.renL,z6.snapAll]) <;> rfl) (ih (yB+1) yH (zj yy) (zg yy) (by omega) (by omega) (by omega) (by omega)) (by kernel_rfl)
theorem ivt_ranges_pairs_3p1a (a:GS Sn) (b:GS Sn):∀ (yx:List Sn) (yB:Nat) (yk:List Sn) (yy:a.l.drop yB=yx) (yV:yB≤a.l.length) (yZ:a.l.length≤64) (xe:b.l.length≤65) (hg3p1_va3p1_0:yk.length≤65 * yB) (hL3p1:a.l.length≤1099511627776),iv_ranges_pairs_3p1 a b (ranges_pairs_3p1a b yx yk):=by
 intro yx
 induction yx with
 | nil =>
  intro yB yk yy yV yZ xe hg3p1_va3p1_0 hL3p1
  unfold ranges_pairs_3p1a
  obtain rfl:yB=a.l.length:=zY yy yV
  exact hg3p1_va3p1_0
 | cons yq yx ih =>
  intro yB yk yy yV yZ xe hg3p1_va3p1_0 hL3p1
  have hlt3p1:=zg yy
  unfold ranges_pairs_3p1a
  cases h12:y9 yq b.l yk with
  | x0 yH =>
   try dsimp only
   have hv_h12:=ivt_ranges_pairs_6p2 a b yB yq b.l 0 yk (List.drop_zero) (Nat.zero_le _) (by omega) (by omega) (by omega) (by omega)
   rw [h12] at hv_h12
   have xp:=hv_h12
   try dsimp only [iv_ranges_pairs_6p2] at xp
   exact ih (yB+1) yH (zj yy) (zg yy) (by omega) (by omega) (by omega) (by omega)
theorem lp_ranges_pairs_3p1 (a:GS Sn) (b:GS Sn):∀ (yx:List Sn) (yB:Nat) (yy:a.l.drop yB=yx) (yV:yB≤a.l.length) (yZ:a.l.length≤64) (xe:b.l.length≤65) (hL3p1:a.l.length≤1099511627776),(lim cfg).loop 87 lp87_3 ⟨40,[(1,.sl b.nl (b.l.map Sn.D) (zsl b.nl 2) none),(2,.fn (.func 89) [] []),(7,.sl true [] 0 none),(14,.sl a.nl (a.l.map Sn.D) (zsl a.nl 2) none),(15,I ((a.l.length:Nat):Int)),(16,I ((yB:Nat):Int))],[],1,1⟩=some (lr_ranges_pairs_3p1 a b (ranges_pairs_3p1 b yx)):=by
 intro yx
 induction yx with
 | nil =>
  intro yB yy yV yZ xe hL3p1
  unfold ranges_pairs_3p1
  obtain rfl:yB=a.l.length:=zY yy yV
  exact zR [.dec false] (Ai (lt_no yy) trivial) (by kernel_rfl)
 | cons yq yx ih =>
  intro yB yy yV yZ xe hL3p1
  have hlt3p1:=zg yy
  unfold ranges_pairs_3p1
  cases h17:ranges_pairs_6p3 yq b.l with
  | x0 yD =>
   try dsimp only
   have hv_h17:=ivt_ranges_pairs_6p3 a b yB yq b.l 0 (List.drop_zero) (Nat.zero_le _) (by omega) (by omega) (by omega)
   rw [h17] at hv_h17
   have xq:=hv_h17
   try dsimp only [iv_ranges_pairs_6p3] at xq
   exact zH (ks:=[1,2,7,14,15,16]) (st':=(sd94 a b yB yq yD)) [.dec true,.el (.agg [I yq.lo,I yq.hi]),.rw 21 (I ((b.l.length:Nat):Int)),.loop (.exit 2) (sd92 a b yB yq yD),.rw 38 (I ((yB+1:Nat):Int))] (Ai (zZ (i:=yB) (by have:=zg yy; omega)) (Ai (zU (q:=lr_ranges_pairs_6p3 a b yB yq) (lp_ranges_pairs_6p3 a b yB yq b.l 0 (List.drop_zero) (Nat.zero_le _) (by omega) (by omega) (by omega)) h17) (Ai (zi Sn.D b) (Ai (el_at (s:=a) (f:=Sn.D) (k:=2) yy) (Ai (lt_at yy) trivial))))) (by kernel_rfl) (by (simp only [sd94,go_sem,List.length_set,Nat.reduceAdd,Nat.reduceEqDiff,Nat.reduceLT,Nat.reduceLeDiff,bI2,zb.idsL,zb.renL,zb.snapAll,z6.idsL,z6.renL,z6.snapAll]) <;> rfl) (lp_ranges_pairs_3p1a a b _ (yB+1) yD (zj yy) (zg yy) (by omega) (by omega) (by omega) (by omega)) (by kernel_rfl)
  | x1 =>
   try dsimp only
   exact po_turn [.dec true,.el (.agg [I yq.lo,I yq.hi]),.rw 21 (I ((b.l.length:Nat):Int)),.loop (.exit 2) (sd80 a b yB yq),.rw 38 (I ((yB+1:Nat):Int))] (Ai (zZ (i:=yB) (by have:=zg yy; omega)) (Ai (zU (q:=lr_ranges_pairs_6p3 a b yB yq) (lp_ranges_pairs_6p3 a b yB yq b.l 0 (List.drop_zero) (Nat.zero_le _) (by omega) (by omega) (by omega)) h17) (Ai (zi Sn.D b) (Ai (el_at (s:=a) (f:=Sn.D) (k:=2) yy) (Ai (lt_at yy) trivial))))) (ih (yB+1) (zj yy) (zg yy) (by omega) (by omega) (by omega)) (by kernel_rfl)
theorem ivt_ranges_pairs_3p1 (a:GS Sn) (b:GS Sn):∀ (yx:List Sn) (yB:Nat) (yy:a.l.drop yB=yx) (yV:yB≤a.l.length) (yZ:a.l.length≤64) (xe:b.l.length≤65) (hL3p1:a.l.length≤1099511627776),iv_ranges_pairs_3p1 a b (ranges_pairs_3p1 b yx):=by
 intro yx
 induction yx with
 | nil =>
  intro yB yy yV yZ xe hL3p1
  unfold ranges_pairs_3p1
  obtain rfl:yB=a.l.length:=zY yy yV
  exact trivial
 | cons yq yx ih =>
  intro yB yy yV yZ xe hL3p1
  have hlt3p1:=zg yy
  unfold ranges_pairs_3p1
  cases h17:ranges_pairs_6p3 yq b.l with
  | x0 yD =>
   try dsimp only
   have hv_h17:=ivt_ranges_pairs_6p3 a b yB yq b.l 0 (List.drop_zero) (Nat.zero_le _) (by omega) (by omega) (by omega)
   rw [h17] at hv_h17
   have xq:=hv_h17
   try dsimp only [iv_ranges_pairs_6p3] at xq
   exact ivt_ranges_pairs_3p1a a b _ (yB+1) yD (zj yy) (zg yy) (by omega) (by omega) (by omega) (by omega)
  | x1 =>
   try dsimp only
   exact ih (yB+1) (zj yy) (zg yy) (by omega) (by omega) (by omega)

def zJ (a:GS Sn) (b:GS Sn):(GS Sn) × Int :=
 bif ((yf (GS.some [a,b])) != 0) then
  (GS.nil,(yf (GS.some [a,b])))
 else
  match ranges_pairs_3p1 b a.l with
  | .x0 yk =>
   match zw (zm zl yk) 0 with
   | .x0 yn =>
    bif decide (((yn.length:Nat):Int) > 64) then
     (GS.nil,2)
    else
     (GS.some yn,0)
   | .x1 yE yw yn =>
    (GS.nil,2)
   | .x2 yE yw yn =>
    (GS.nil,2)
   | .x3 =>
    (GS.nil,0)
   | .x4 yE yw =>
    (GS.nil,2)
   | .x5 yE yw =>
    (GS.nil,2)
  | .x1 =>
   (GS.nil,0)

def ranges_Difference_o1 (a:GS Sn) (b:GS Sn) (yk:List Sn):List Ora:=[.pure (I (yf (GS.some [a,b]))),.dec false,.inl (.lsl 1 0 yk.length 2 none) [(1,⟨yk.map Sn.D,2,false⟩)] 2]

def sd95 (a:GS Sn) (b:GS Sn) (yk:List Sn):St:=⟨40,[(17,B false),(1,.sl b.nl (b.l.map Sn.D) (zsl b.nl 2) none),(2,.fn (.func 89) [] []),(7,.lsl 1 0 yk.length 2 none),(14,.sl a.nl (a.l.map Sn.D) (zsl a.nl 2) none),(15,I ((a.l.length:Nat):Int)),(16,I ((a.l.length:Nat):Int))],[(1,⟨yk.map Sn.D,2,false⟩)],2,1⟩

def sd97 (yk:List Sn):St:=⟨65,[(4,.sl true [] 0 none),(10,.lsl 1 0 yk.length 2 none),(11,I ((yk.length:Nat):Int)),(12,I 0)],[(1,⟨(zm zl yk).map Sn.D,2,false⟩)],2,2⟩

def sd98 (yk:List Sn) (yn:List Sn):St:=⟨65,[(13,B false),(4,.lsl 2 0 yn.length 2 none),(10,.lsl 1 0 yk.length 2 none),(11,I ((yk.length:Nat):Int)),(12,I (((zm zl yk).length:Nat):Int))],[(1,⟨(zm zl yk).map Sn.D,2,false⟩),(2,⟨yn.map Sn.D,2,false⟩)],3,2⟩

def sd96 (yk:List Sn):St:=⟨65,[(12,I 0),(11,I ((yk.length:Nat):Int)),(10,.lsl 1 0 yk.length 2 none),(4,.sl true [] 0 none),(9,.tup []),(8,.lsl 1 0 yk.length 2 none),(3,I 0),(2,.sl true [] 0 none),(0,.lsl 1 0 yk.length 2 none)],[(1,⟨(zm zl yk).map Sn.D,2,false⟩)],2,2⟩

def sd99 (yk:List Sn) (yn:List Sn) (yE:Nat) (yw:Sn):St:=⟨65,[(3,I 2),(2,.sl true [] 0 none),(25,B true),(24,B true),(23,B false),(22,I yw.hi),(21,.lref 3 0 2 1),(20,B false),(19,B false),(18,B true),(17,I yw.lo),(16,.lref 3 0 2 0),(6,.lref 3 0 2 0),(15,.agg [I yw.lo,I yw.hi]),(14,.lref 1 yE 2 0),(13,B true),(4,.lsl 2 0 yn.length 2 none),(10,.lsl 1 0 yk.length 2 none),(11,I ((yk.length:Nat):Int)),(12,I ((yE:Nat):Int))],[(1,⟨(zm zl yk).map Sn.D,2,false⟩),(2,⟨yn.map Sn.D,2,false⟩),(3,⟨[.agg [I yw.lo,I yw.hi]],2,false⟩)],4,2⟩

def sd100 (yk:List Sn) (yn:List Sn) (yE:Nat) (yw:Sn):St:=⟨65,[(3,I 2),(2,.sl true [] 0 none),(25,B true),(24,.tup []),(23,.tup []),(22,.tup []),(21,.tup []),(20,B true),(19,B true),(18,B false),(17,I yw.lo),(16,.lref 3 0 2 0),(6,.lref 3 0 2 0),(15,.agg [I yw.lo,I yw.hi]),(14,.lref 1 yE 2 0),(13,B true),(4,.lsl 2 0 yn.length 2 none),(10,.lsl 1 0 yk.length 2 none),(11,I ((yk.length:Nat):Int)),(12,I ((yE:Nat):Int))],[(1,⟨(zm zl yk).map Sn.D,2,false⟩),(2,⟨yn.map Sn.D,2,false⟩),(3,⟨[.agg [I yw.lo,I yw.hi]],2,false⟩)],4,2⟩

def sd101 (yk:List Sn):St:=⟨65,[(13,B false),(4,.sl true [] 0 none),(10,.lsl 1 0 yk.length 2 none),(11,I ((yk.length:Nat):Int)),(12,I (((zm zl yk).length:Nat):Int))],[(1,⟨(zm zl yk).map Sn.D,2,false⟩)],2,2⟩

def sd102 (yk:List Sn) (yE:Nat) (yw:Sn):St:=⟨65,[(3,I 2),(2,.sl true [] 0 none),(25,B true),(24,B true),(23,B false),(22,I yw.hi),(21,.lref 2 0 2 1),(20,B false),(19,B false),(18,B true),(17,I yw.lo),(16,.lref 2 0 2 0),(6,.lref 2 0 2 0),(15,.agg [I yw.lo,I yw.hi]),(14,.lref 1 yE 2 0),(13,B true),(4,.sl true [] 0 none),(10,.lsl 1 0 yk.length 2 none),(11,I ((yk.length:Nat):Int)),(12,I ((yE:Nat):Int))],[(1,⟨(zm zl yk).map Sn.D,2,false⟩),(2,⟨[.agg [I yw.lo,I yw.hi]],2,false⟩)],3,2⟩

def sd103 (yk:List Sn) (yE:Nat) (yw:Sn):St:=⟨65,[(3,I 2),(2,.sl true [] 0 none),(25,B true),(24,.tup []),(23,.tup []),(22,.tup []),(21,.tup []),(20,B true),(19,B true),(18,B false),(17,I yw.lo),(16,.lref 2 0 2 0),(6,.lref 2 0 2 0),(15,.agg [I yw.lo,I yw.hi]),(14,.lref 1 yE 2 0),(13,B true),(4,.sl true [] 0 none),(10,.lsl 1 0 yk.length 2 none),(11,I ((yk.length:Nat):Int)),(12,I ((yE:Nat):Int))],[(1,⟨(zm zl yk).map Sn.D,2,false⟩),(2,⟨[.agg [I yw.lo,I yw.hi]],2,false⟩)],3,2⟩

def sd104 (a:GS Sn) (b:GS Sn):St:=⟨40,[(17,B false),(1,.sl b.nl (b.l.map Sn.D) (zsl b.nl 2) none),(2,.fn (.func 89) [] []),(7,.sl true [] 0 none),(14,.sl a.nl (a.l.map Sn.D) (zsl a.nl 2) none),(15,I ((a.l.length:Nat):Int)),(16,I ((a.l.length:Nat):Int))],[],1,1⟩

theorem T_ranges_Difference (a:GS Sn) (b:GS Sn) (hLa:a.l.length≤9223372036854775807) (hLb:b.l.length≤9223372036854775807):(lim cfg).pure 30 [GS.D Sn.D 2 a,GS.D Sn.D 2 b]=some (.tup [GS.D Sn.D 2 ((zJ a b).1),I ((zJ a b).2)]):=by
 unfold zJ
 have p1:=(T_ranges_check (GS.some [a,b]) (by exact zT (by omega) (by omega)) (by simp only [zq,GS.some_l,List.length_set,List.length_append,List.length_cons,List.length_nil] at * <;> first | with_reducible assumption | omega))
 cases h1:((yf (GS.some [a,b])) != 0) with
 | true =>
  have g1:=bne_true h1
  exact zo [.pure (I (yf (GS.some [a,b]))),.dec true] (Ai h1 (Ai p1 trivial)) (by kernel_rfl)
 | false =>
  have g1:=check2_len (bne_false h1)
  cases h18:ranges_pairs_3p1 b a.l with
  | x0 yk =>
   try dsimp only
   have hv_h18:=ivt_ranges_pairs_3p1 a b a.l 0 (List.drop_zero) (Nat.zero_le _) (by omega) (by omega) (by omega)
   rw [h18] at hv_h18
   have hv_h18_0:=hv_h18
   try dsimp only [iv_ranges_pairs_3p1] at hv_h18_0
   have p2:=(show (lim cfg).inl 87 [.sl a.nl (a.l.map Sn.D) (zsl a.nl 2) none,.sl b.nl (b.l.map Sn.D) (zsl b.nl 2) none,.fn (.func 89) [] []] [] 1=some (.lsl 1 0 yk.length 2 none,[(1,⟨yk.map Sn.D,2,false⟩)],2) from zX [.rw 15 (I ((a.l.length:Nat):Int)),.loop (.exit 0) (sd95 a b yk)] (Ai (zU (q:=lr_ranges_pairs_3p1 a b) (lp_ranges_pairs_3p1 a b a.l 0 (List.drop_zero) (Nat.zero_le _) (by omega) (by omega) (by omega)) h18) (Ai (zi Sn.D a) trivial)) (by kernel_rfl))
   cases h19:zw (zm zl yk) 0 with
   | x0 yn =>
    try dsimp only
    have hv_h19:=zz yk (zm zl yk) (zm zl yk) 0 (List.drop_zero) (Nat.zero_le _) (by simp only [zq,GS.some_l,List.length_set,List.length_append,List.length_cons,List.length_nil] at * <;> first | with_reducible assumption | omega) (by simp only [zq,GS.some_l,List.length_set,List.length_append,List.length_cons,List.length_nil] at * <;> first | with_reducible assumption | omega)
    rw [h19] at hv_h19
    obtain ⟨hv_h19_0,hv_h19_1⟩:=hv_h19
    try dsimp only [zk] at hv_h19_0
    try dsimp only [zk] at hv_h19_1
    cases h20:decide (((yn.length:Nat):Int) > 64) with
    | true =>
     have g20:=of_decide_eq_true h20
     exact zo ((ranges_Difference_o1 a b yk)++[.inlS [1] (.tup [.sl true [] 0 none,I 2]) [(1,⟨(zm zl yk).map Sn.D,2,false⟩),(2,⟨yn.map Sn.D,2,false⟩)] 3]) (Ai (Ai (show ze [(0,⟨[.sl a.nl (a.l.map Sn.D) (zsl a.nl 2) none,.sl b.nl (b.l.map Sn.D) (zsl b.nl 2) none],1,false⟩),(1,⟨yk.map Sn.D,2,false⟩)] 256 [1] []=some [1] from (by (simp only [ze,go_sem,List.length_set,Nat.reduceAdd,Nat.reduceEqDiff,Nat.reduceLT,Nat.reduceLeDiff,bI2,zb.idsL,zb.renL,zb.snapAll,z6.idsL,z6.renL,z6.snapAll]) <;> rfl)) (show (lim cfg).inl 69 [.lsl 1 0 yk.length 2 none] [(1,⟨yk.map Sn.D,2,false⟩)] 2=some (.tup [.sl true [] 0 none,I 2],[(1,⟨(zm zl yk).map Sn.D,2,false⟩),(2,⟨yn.map Sn.D,2,false⟩)],3) from zX [.inlS [1] (.tup []) [(1,⟨(zm zl yk).map Sn.D,2,false⟩)] 2,.gloop (sd97 yk) (.exit 0) (sd98 yk yn),.dec true] (Ai h20 (Ai (zU (q:=zh yk (zm zl yk)) (lp_ranges_gathered_4p1 yk (zm zl yk) (zm zl yk) 0 (List.drop_zero) (Nat.zero_le _) (by simp only [zq,GS.some_l,List.length_set,List.length_append,List.length_cons,List.length_nil] at * <;> first | with_reducible assumption | omega) (by simp only [zq,GS.some_l,List.length_set,List.length_append,List.length_cons,List.length_nil] at * <;> first | with_reducible assumption | omega)) h19) (Ai (gc_of (C:=cfg) (f:=69) (a:=lp69_4) (ks:=[4,10,11,12]) (st:=(sd96 yk)) (st1:=(sd97 yk)) (by kernel_rfl) (by (simp only [sd96,sd97,go_sem,List.length_set,Nat.reduceAdd,Nat.reduceEqDiff,Nat.reduceLT,Nat.reduceLeDiff,bI2,zb.idsL,zb.renL,zb.snapAll,z6.idsL,z6.renL,z6.snapAll]) <;> rfl)) (Ai (Ai (show ze [(1,⟨yk.map Sn.D,2,false⟩)] 256 [1] []=some [1] from (by (simp only [ze,go_sem,List.length_set,Nat.reduceAdd,Nat.reduceEqDiff,Nat.reduceLT,Nat.reduceLeDiff,bI2,zb.idsL,zb.renL,zb.snapAll,z6.idsL,z6.renL,z6.snapAll]) <;> rfl)) (T_sort 1 2 none yk (by omega))) trivial)))) (by kernel_rfl))) (Ai p2 (Ai h1 (Ai p1 trivial)))) (by kernel_rfl)
    | false =>
     have g20:=of_decide_eq_false h20
     exact po_pureS ((ranges_Difference_o1 a b yk)++[.inlS [1] (.tup [.lsl 2 0 yn.length 2 none,I 0]) [(1,⟨(zm zl yk).map Sn.D,2,false⟩),(2,⟨yn.map Sn.D,2,false⟩)] 3]) [(2,.sl false (yn.map Sn.D) 2 none,[2])] (Ai (snap_row (gO:=zu [(0,⟨[.sl a.nl (a.l.map Sn.D) (zsl a.nl 2) none,.sl b.nl (b.l.map Sn.D) (zsl b.nl 2) none],1,false⟩),(1,⟨(zm zl yk).map Sn.D,2,false⟩),(2,⟨yn.map Sn.D,2,false⟩)]) (o:=2) (len:=yn.length) (cap:=none) (fz:=false) z6 yn (by kernel_rfl) (by omega)) (Ai (Ai (show ze [(0,⟨[.sl a.nl (a.l.map Sn.D) (zsl a.nl 2) none,.sl b.nl (b.l.map Sn.D) (zsl b.nl 2) none],1,false⟩),(1,⟨yk.map Sn.D,2,false⟩)] 256 [1] []=some [1] from (by (simp only [ze,go_sem,List.length_set,Nat.reduceAdd,Nat.reduceEqDiff,Nat.reduceLT,Nat.reduceLeDiff,bI2,zb.idsL,zb.renL,zb.snapAll,z6.idsL,z6.renL,z6.snapAll]) <;> rfl)) (show (lim cfg).inl 69 [.lsl 1 0 yk.length 2 none] [(1,⟨yk.map Sn.D,2,false⟩)] 2=some (.tup [.lsl 2 0 yn.length 2 none,I 0],[(1,⟨(zm zl yk).map Sn.D,2,false⟩),(2,⟨yn.map Sn.D,2,false⟩)],3) from zX [.inlS [1] (.tup []) [(1,⟨(zm zl yk).map Sn.D,2,false⟩)] 2,.gloop (sd97 yk) (.exit 0) (sd98 yk yn),.dec false] (Ai h20 (Ai (zU (q:=zh yk (zm zl yk)) (lp_ranges_gathered_4p1 yk (zm zl yk) (zm zl yk) 0 (List.drop_zero) (Nat.zero_le _) (by simp only [zq,GS.some_l,List.length_set,List.length_append,List.length_cons,List.length_nil] at * <;> first | with_reducible assumption | omega) (by simp only [zq,GS.some_l,List.length_set,List.length_append,List.length_cons,List.length_nil] at * <;> first | with_reducible assumption | omega)) h19) (Ai (gc_of (C:=cfg) (f:=69) (a:=lp69_4) (ks:=[4,10,11,12]) (st:=(sd96 yk)) (st1:=(sd97 yk)) (by kernel_rfl) (by (simp only [sd96,sd97,go_sem,List.length_set,Nat.reduceAdd,Nat.reduceEqDiff,Nat.reduceLT,Nat.reduceLeDiff,bI2,zb.idsL,zb.renL,zb.snapAll,z6.idsL,z6.renL,z6.snapAll]) <;> rfl)) (Ai (Ai (show ze [(1,⟨yk.map Sn.D,2,false⟩)] 256 [1] []=some [1] from (by (simp only [ze,go_sem,List.length_set,Nat.reduceAdd,Nat.reduceEqDiff,Nat.reduceLT,Nat.reduceLeDiff,bI2,zb.idsL,zb.renL,zb.snapAll,z6.idsL,z6.renL,z6.snapAll]) <;> rfl)) (T_sort 1 2 none yk (by omega))) trivial)))) (by kernel_rfl))) (Ai p2 (Ai h1 (Ai p1 trivial))))) (by kernel_rfl)
   | x1 yE yw yn =>
    try dsimp only
    have hv_h19:=zz yk (zm zl yk) (zm zl yk) 0 (List.drop_zero) (Nat.zero_le _) (by simp only [zq,GS.some_l,List.length_set,List.length_append,List.length_cons,List.length_nil] at * <;> first | with_reducible assumption | omega) (by simp only [zq,GS.some_l,List.length_set,List.length_append,List.length_cons,List.length_nil] at * <;> first | with_reducible assumption | omega)
    rw [h19] at hv_h19
    obtain ⟨hv_h19_0,hv_h19_1⟩:=hv_h19
    try dsimp only [zk] at hv_h19_0
    try dsimp only [zk] at hv_h19_1
    exact zo ((ranges_Difference_o1 a b yk)++[.inlS [1] (.tup [.sl true [] 0 none,I 2]) [(1,⟨(zm zl yk).map Sn.D,2,false⟩),(2,⟨yn.map Sn.D,2,false⟩),(3,⟨[.agg [I yw.lo,I yw.hi]],2,false⟩)] 4]) (Ai (Ai (show ze [(0,⟨[.sl a.nl (a.l.map Sn.D) (zsl a.nl 2) none,.sl b.nl (b.l.map Sn.D) (zsl b.nl 2) none],1,false⟩),(1,⟨yk.map Sn.D,2,false⟩)] 256 [1] []=some [1] from (by (simp only [ze,go_sem,List.length_set,Nat.reduceAdd,Nat.reduceEqDiff,Nat.reduceLT,Nat.reduceLeDiff,bI2,zb.idsL,zb.renL,zb.snapAll,z6.idsL,z6.renL,z6.snapAll]) <;> rfl)) (show (lim cfg).inl 69 [.lsl 1 0 yk.length 2 none] [(1,⟨yk.map Sn.D,2,false⟩)] 2=some (.tup [.sl true [] 0 none,I 2],[(1,⟨(zm zl yk).map Sn.D,2,false⟩),(2,⟨yn.map Sn.D,2,false⟩),(3,⟨[.agg [I yw.lo,I yw.hi]],2,false⟩)],4) from zX [.inlS [1] (.tup []) [(1,⟨(zm zl yk).map Sn.D,2,false⟩)] 2,.gloop (sd97 yk) .ret (sd99 yk yn yE yw)] (Ai (zU (q:=zh yk (zm zl yk)) (lp_ranges_gathered_4p1 yk (zm zl yk) (zm zl yk) 0 (List.drop_zero) (Nat.zero_le _) (by simp only [zq,GS.some_l,List.length_set,List.length_append,List.length_cons,List.length_nil] at * <;> first | with_reducible assumption | omega) (by simp only [zq,GS.some_l,List.length_set,List.length_append,List.length_cons,List.length_nil] at * <;> first | with_reducible assumption | omega)) h19) (Ai (gc_of (C:=cfg) (f:=69) (a:=lp69_4) (ks:=[4,10,11,12]) (st:=(sd96 yk)) (st1:=(sd97 yk)) (by kernel_rfl) (by (simp only [sd96,sd97,go_sem,List.length_set,Nat.reduceAdd,Nat.reduceEqDiff,Nat.reduceLT,Nat.reduceLeDiff,bI2,zb.idsL,zb.renL,zb.snapAll,z6.idsL,z6.renL,z6.snapAll]) <;> rfl)) (Ai (Ai (show ze [(1,⟨yk.map Sn.D,2,false⟩)] 256 [1] []=some [1] from (by (simp only [ze,go_sem,List.length_set,Nat.reduceAdd,Nat.reduceEqDiff,Nat.reduceLT,Nat.reduceLeDiff,bI2,zb.idsL,zb.renL,zb.snapAll,z6.idsL,z6.renL,z6.snapAll]) <;> rfl)) (T_sort 1 2 none yk (by omega))) trivial))) (by kernel_rfl))) (Ai p2 (Ai h1 (Ai p1 trivial)))) (by kernel_rfl)
   | x2 yE yw yn =>
    try dsimp only
    have hv_h19:=zz yk (zm zl yk) (zm zl yk) 0 (List.drop_zero) (Nat.zero_le _) (by simp only [zq,GS.some_l,List.length_set,List.length_append,List.length_cons,List.length_nil] at * <;> first | with_reducible assumption | omega) (by simp only [zq,GS.some_l,List.length_set,List.length_append,List.length_cons,List.length_nil] at * <;> first | with_reducible assumption | omega)
    rw [h19] at hv_h19
    obtain ⟨hv_h19_0,hv_h19_1⟩:=hv_h19
    try dsimp only [zk] at hv_h19_0
    try dsimp only [zk] at hv_h19_1
    exact zo ((ranges_Difference_o1 a b yk)++[.inlS [1] (.tup [.sl true [] 0 none,I 2]) [(1,⟨(zm zl yk).map Sn.D,2,false⟩),(2,⟨yn.map Sn.D,2,false⟩),(3,⟨[.agg [I yw.lo,I yw.hi]],2,false⟩)] 4]) (Ai (Ai (show ze [(0,⟨[.sl a.nl (a.l.map Sn.D) (zsl a.nl 2) none,.sl b.nl (b.l.map Sn.D) (zsl b.nl 2) none],1,false⟩),(1,⟨yk.map Sn.D,2,false⟩)] 256 [1] []=some [1] from (by (simp only [ze,go_sem,List.length_set,Nat.reduceAdd,Nat.reduceEqDiff,Nat.reduceLT,Nat.reduceLeDiff,bI2,zb.idsL,zb.renL,zb.snapAll,z6.idsL,z6.renL,z6.snapAll]) <;> rfl)) (show (lim cfg).inl 69 [.lsl 1 0 yk.length 2 none] [(1,⟨yk.map Sn.D,2,false⟩)] 2=some (.tup [.sl true [] 0 none,I 2],[(1,⟨(zm zl yk).map Sn.D,2,false⟩),(2,⟨yn.map Sn.D,2,false⟩),(3,⟨[.agg [I yw.lo,I yw.hi]],2,false⟩)],4) from zX [.inlS [1] (.tup []) [(1,⟨(zm zl yk).map Sn.D,2,false⟩)] 2,.gloop (sd97 yk) .ret (sd100 yk yn yE yw)] (Ai (zU (q:=zh yk (zm zl yk)) (lp_ranges_gathered_4p1 yk (zm zl yk) (zm zl yk) 0 (List.drop_zero) (Nat.zero_le _) (by simp only [zq,GS.some_l,List.length_set,List.length_append,List.length_cons,List.length_nil] at * <;> first | with_reducible assumption | omega) (by simp only [zq,GS.some_l,List.length_set,List.length_append,List.length_cons,List.length_nil] at * <;> first | with_reducible assumption | omega)) h19) (Ai (gc_of (C:=cfg) (f:=69) (a:=lp69_4) (ks:=[4,10,11,12]) (st:=(sd96 yk)) (st1:=(sd97 yk)) (by kernel_rfl) (by (simp only [sd96,sd97,go_sem,List.length_set,Nat.reduceAdd,Nat.reduceEqDiff,Nat.reduceLT,Nat.reduceLeDiff,bI2,zb.idsL,zb.renL,zb.snapAll,z6.idsL,z6.renL,z6.snapAll]) <;> rfl)) (Ai (Ai (show ze [(1,⟨yk.map Sn.D,2,false⟩)] 256 [1] []=some [1] from (by (simp only [ze,go_sem,List.length_set,Nat.reduceAdd,Nat.reduceEqDiff,Nat.reduceLT,Nat.reduceLeDiff,bI2,zb.idsL,zb.renL,zb.snapAll,z6.idsL,z6.renL,z6.snapAll]) <;> rfl)) (T_sort 1 2 none yk (by omega))) trivial))) (by kernel_rfl))) (Ai p2 (Ai h1 (Ai p1 trivial)))) (by kernel_rfl)
   | x3 =>
    try dsimp only
    exact zo ((ranges_Difference_o1 a b yk)++[.inlS [1] (.tup [.sl true [] 0 none,I 0]) [(1,⟨(zm zl yk).map Sn.D,2,false⟩)] 2]) (Ai (Ai (show ze [(0,⟨[.sl a.nl (a.l.map Sn.D) (zsl a.nl 2) none,.sl b.nl (b.l.map Sn.D) (zsl b.nl 2) none],1,false⟩),(1,⟨yk.map Sn.D,2,false⟩)] 256 [1] []=some [1] from (by (simp only [ze,go_sem,List.length_set,Nat.reduceAdd,Nat.reduceEqDiff,Nat.reduceLT,Nat.reduceLeDiff,bI2,zb.idsL,zb.renL,zb.snapAll,z6.idsL,z6.renL,z6.snapAll]) <;> rfl)) (show (lim cfg).inl 69 [.lsl 1 0 yk.length 2 none] [(1,⟨yk.map Sn.D,2,false⟩)] 2=some (.tup [.sl true [] 0 none,I 0],[(1,⟨(zm zl yk).map Sn.D,2,false⟩)],2) from zX [.inlS [1] (.tup []) [(1,⟨(zm zl yk).map Sn.D,2,false⟩)] 2,.gloop (sd97 yk) (.exit 0) (sd101 yk),.dec false] (Ai (Eq.refl false) (Ai (zU (q:=zh yk (zm zl yk)) (lp_ranges_gathered_4p1 yk (zm zl yk) (zm zl yk) 0 (List.drop_zero) (Nat.zero_le _) (by simp only [zq,GS.some_l,List.length_set,List.length_append,List.length_cons,List.length_nil] at * <;> first | with_reducible assumption | omega) (by simp only [zq,GS.some_l,List.length_set,List.length_append,List.length_cons,List.length_nil] at * <;> first | with_reducible assumption | omega)) h19) (Ai (gc_of (C:=cfg) (f:=69) (a:=lp69_4) (ks:=[4,10,11,12]) (st:=(sd96 yk)) (st1:=(sd97 yk)) (by kernel_rfl) (by (simp only [sd96,sd97,go_sem,List.length_set,Nat.reduceAdd,Nat.reduceEqDiff,Nat.reduceLT,Nat.reduceLeDiff,bI2,zb.idsL,zb.renL,zb.snapAll,z6.idsL,z6.renL,z6.snapAll]) <;> rfl)) (Ai (Ai (show ze [(1,⟨yk.map Sn.D,2,false⟩)] 256 [1] []=some [1] from (by (simp only [ze,go_sem,List.length_set,Nat.reduceAdd,Nat.reduceEqDiff,Nat.reduceLT,Nat.reduceLeDiff,bI2,zb.idsL,zb.renL,zb.snapAll,z6.idsL,z6.renL,z6.snapAll]) <;> rfl)) (T_sort 1 2 none yk (by omega))) trivial)))) (by kernel_rfl))) (Ai p2 (Ai h1 (Ai p1 trivial)))) (by kernel_rfl)
   | x4 yE yw =>
    try dsimp only
    exact zo ((ranges_Difference_o1 a b yk)++[.inlS [1] (.tup [.sl true [] 0 none,I 2]) [(1,⟨(zm zl yk).map Sn.D,2,false⟩),(2,⟨[.agg [I yw.lo,I yw.hi]],2,false⟩)] 3]) (Ai (Ai (show ze [(0,⟨[.sl a.nl (a.l.map Sn.D) (zsl a.nl 2) none,.sl b.nl (b.l.map Sn.D) (zsl b.nl 2) none],1,false⟩),(1,⟨yk.map Sn.D,2,false⟩)] 256 [1] []=some [1] from (by (simp only [ze,go_sem,List.length_set,Nat.reduceAdd,Nat.reduceEqDiff,Nat.reduceLT,Nat.reduceLeDiff,bI2,zb.idsL,zb.renL,zb.snapAll,z6.idsL,z6.renL,z6.snapAll]) <;> rfl)) (show (lim cfg).inl 69 [.lsl 1 0 yk.length 2 none] [(1,⟨yk.map Sn.D,2,false⟩)] 2=some (.tup [.sl true [] 0 none,I 2],[(1,⟨(zm zl yk).map Sn.D,2,false⟩),(2,⟨[.agg [I yw.lo,I yw.hi]],2,false⟩)],3) from zX [.inlS [1] (.tup []) [(1,⟨(zm zl yk).map Sn.D,2,false⟩)] 2,.gloop (sd97 yk) .ret (sd102 yk yE yw)] (Ai (zU (q:=zh yk (zm zl yk)) (lp_ranges_gathered_4p1 yk (zm zl yk) (zm zl yk) 0 (List.drop_zero) (Nat.zero_le _) (by simp only [zq,GS.some_l,List.length_set,List.length_append,List.length_cons,List.length_nil] at * <;> first | with_reducible assumption | omega) (by simp only [zq,GS.some_l,List.length_set,List.length_append,List.length_cons,List.length_nil] at * <;> first | with_reducible assumption | omega)) h19) (Ai (gc_of (C:=cfg) (f:=69) (a:=lp69_4) (ks:=[4,10,11,12]) (st:=(sd96 yk)) (st1:=(sd97 yk)) (by kernel_rfl) (by (simp only [sd96,sd97,go_sem,List.length_set,Nat.reduceAdd,Nat.reduceEqDiff,Nat.reduceLT,Nat.reduceLeDiff,bI2,zb.idsL,zb.renL,zb.snapAll,z6.idsL,z6.renL,z6.snapAll]) <;> rfl)) (Ai (Ai (show ze [(1,⟨yk.map Sn.D,2,false⟩)] 256 [1] []=some [1] from (by (simp only [ze,go_sem,List.length_set,Nat.reduceAdd,Nat.reduceEqDiff,Nat.reduceLT,Nat.reduceLeDiff,bI2,zb.idsL,zb.renL,zb.snapAll,z6.idsL,z6.renL,z6.snapAll]) <;> rfl)) (T_sort 1 2 none yk (by omega))) trivial))) (by kernel_rfl))) (Ai p2 (Ai h1 (Ai p1 trivial)))) (by kernel_rfl)
   | x5 yE yw =>
    try dsimp only
    exact zo ((ranges_Difference_o1 a b yk)++[.inlS [1] (.tup [.sl true [] 0 none,I 2]) [(1,⟨(zm zl yk).map Sn.D,2,false⟩),(2,⟨[.agg [I yw.lo,I yw.hi]],2,false⟩)] 3]) (Ai (Ai (show ze [(0,⟨[.sl a.nl (a.l.map Sn.D) (zsl a.nl 2) none,.sl b.nl (b.l.map Sn.D) (zsl b.nl 2) none],1,false⟩),(1,⟨yk.map Sn.D,2,false⟩)] 256 [1] []=some [1] from (by (simp only [ze,go_sem,List.length_set,Nat.reduceAdd,Nat.reduceEqDiff,Nat.reduceLT,Nat.reduceLeDiff,bI2,zb.idsL,zb.renL,zb.snapAll,z6.idsL,z6.renL,z6.snapAll]) <;> rfl)) (show (lim cfg).inl 69 [.lsl 1 0 yk.length 2 none] [(1,⟨yk.map Sn.D,2,false⟩)] 2=some (.tup [.sl true [] 0 none,I 2],[(1,⟨(zm zl yk).map Sn.D,2,false⟩),(2,⟨[.agg [I yw.lo,I yw.hi]],2,false⟩)],3) from zX [.inlS [1] (.tup []) [(1,⟨(zm zl yk).map Sn.D,2,false⟩)] 2,.gloop (sd97 yk) .ret (sd103 yk yE yw)] (Ai (zU (q:=zh yk (zm zl yk)) (lp_ranges_gathered_4p1 yk (zm zl yk) (zm zl yk) 0 (List.drop_zero) (Nat.zero_le _) (by simp only [zq,GS.some_l,List.length_set,List.length_append,List.length_cons,List.length_nil] at * <;> first | with_reducible assumption | omega) (by simp only [zq,GS.some_l,List.length_set,List.length_append,List.length_cons,List.length_nil] at * <;> first | with_reducible assumption | omega)) h19) (Ai (gc_of (C:=cfg) (f:=69) (a:=lp69_4) (ks:=[4,10,11,12]) (st:=(sd96 yk)) (st1:=(sd97 yk)) (by kernel_rfl) (by (simp only [sd96,sd97,go_sem,List.length_set,Nat.reduceAdd,Nat.reduceEqDiff,Nat.reduceLT,Nat.reduceLeDiff,bI2,zb.idsL,zb.renL,zb.snapAll,z6.idsL,z6.renL,z6.snapAll]) <;> rfl)) (Ai (Ai (show ze [(1,⟨yk.map Sn.D,2,false⟩)] 256 [1] []=some [1] from (by (simp only [ze,go_sem,List.length_set,Nat.reduceAdd,Nat.reduceEqDiff,Nat.reduceLT,Nat.reduceLeDiff,bI2,zb.idsL,zb.renL,zb.snapAll,z6.idsL,z6.renL,z6.snapAll]) <;> rfl)) (T_sort 1 2 none yk (by omega))) trivial))) (by kernel_rfl))) (Ai p2 (Ai h1 (Ai p1 trivial)))) (by kernel_rfl)
  | x1 =>
   try dsimp only
   exact zo [.pure (I (yf (GS.some [a,b]))),.dec false,.inl (.sl true [] 0 none) [] 1,.inl (.tup [.sl true [] 0 none,I 0]) [] 1] (Ai (show (lim cfg).inl 69 [.sl true [] 0 none] [] 1=some (.tup [.sl true [] 0 none,I 0],[],1) from zX [.inl (.tup []) [] 1,.loop (.exit 0) ⟨65,[(13,B false),(4,.sl true [] 0 none),(10,.sl true [] 0 none),(11,I 0),(12,I 0)],[],1,1⟩,.dec false] (Ai (Eq.refl false) (Ai (show (lim cfg).loop 69 lp69_4 ⟨65,[(4,.sl true [] 0 none),(10,.sl true [] 0 none),(11,I 0),(12,I 0)],[],1,1⟩=some ((.exit 0),⟨65,[(13,B false),(4,.sl true [] 0 none),(10,.sl true [] 0 none),(11,I 0),(12,I 0)],[],1,1⟩) from (zR [.dec false] (Ai (Eq.refl false) trivial) (by kernel_rfl))) (Ai (T_sort_nil 1) trivial))) (by kernel_rfl)) (Ai (show (lim cfg).inl 87 [.sl a.nl (a.l.map Sn.D) (zsl a.nl 2) none,.sl b.nl (b.l.map Sn.D) (zsl b.nl 2) none,.fn (.func 89) [] []] [] 1=some (.sl true [] 0 none,[],1) from zX [.rw 15 (I ((a.l.length:Nat):Int)),.loop (.exit 0) (sd104 a b)] (Ai (zU (q:=lr_ranges_pairs_3p1 a b) (lp_ranges_pairs_3p1 a b a.l 0 (List.drop_zero) (Nat.zero_le _) (by omega) (by omega) (by omega)) h18) (Ai (zi Sn.D a) trivial)) (by kernel_rfl)) (Ai h1 (Ai p1 trivial)))) (by kernel_rfl)

end Go.VS

namespace Go.VS
open Go
set_option maxHeartbeats 0
theorem some_l (lo hi:Int):(zI lo hi).l=someS lo hi:=by
 unfold zI someS
 by_cases h:lo > hi
 ·rw [decide_eq_true h,if_pos h]; rfl
 ·rw [decide_eq_false h,if_neg h]; rfl
theorem emp_app {α:Type} {v l:List α} {β:Type} (f:List α→β):(bif l.isEmpty then f v else f (v++l))=f (v++l):=by
 cases l <;> simp
theorem out4a_len:∀ (l v:List Sn) (f:Int),∃ v' f',ranges_outside_4a l v f=.x0 v' f'∧v'.length≤v.length+l.length
 | [],v,f=>⟨v,f,rfl,Nat.le_refl _⟩
 | x::l,v,f=>by
  unfold ranges_outside_4a
  rw [emp_app (fun z=>ranges_outside_4a l z (w64 (x.hi+1)))]
  obtain ⟨v',f',e,h⟩:=out4a_len l (v++(zI f (w64 (x.lo - 1))).l) (w64 (x.hi+1))
  refine ⟨v',f',e,?_⟩
  have:=some1 f (w64 (x.lo - 1))
  simp only [List.length_append,List.length_cons] at h ⊢
  omega
theorem out4_len:∀ (l:List Sn) (f:Int),(∃ v' f',ranges_outside_4 l f=.x0 v' f'∧v'.length≤l.length) ∨ ∃ f',ranges_outside_4 l f=.x1 f'
 | [],f=>.inr ⟨f,rfl⟩
 | x::l,f=>by
  unfold ranges_outside_4
  cases he:((zI f (w64 (x.lo - 1))).l).isEmpty with
  | true =>
   rcases out4_len l (w64 (x.hi+1)) with ⟨v',f',e,h⟩ | ⟨f',e⟩
   ·exact .inl ⟨v',f',e,by simp only [List.length_cons]; omega⟩
   ·exact .inr ⟨f',e⟩
  | false =>
   obtain ⟨v',f',e,h⟩:=out4a_len l ((zI f (w64 (x.lo - 1))).l) (w64 (x.hi+1))
   have:=some1 f (w64 (x.lo - 1))
   exact .inl ⟨v',f',e,by simp only [List.length_cons]; omega⟩
theorem outsideLen (r:GS Sn) (h:r.l.length≤64):(ranges_outside r).l.length≤65:=by
 unfold ranges_outside
 rcases out4_len r.l (-1099511627776) with ⟨v',f',e,h'⟩ | ⟨f',e⟩ <;> rw [e] <;> dsimp only
 ·have:=some1 f' 1099511627776
  cases ((zI f' 1099511627776).l).isEmpty <;> simp [GS.some] <;> omega
 ·have:=some1 f' 1099511627776
  cases ((zI f' 1099511627776).l).isEmpty <;> simp [GS.some,GS.nil] <;> omega
end Go.VS

namespace Go.VS
open Go Go.Proofs
set_option maxHeartbeats 0
set_option linter.unusedSimpArgs false
set_option linter.unusedVariables false
theorem zx (r:GS Sn) (h:r.l.length≤64):(ranges_outside r).l.length≤65:=outsideLen r h

end Go.VS

namespace Go.VS
open Go Go.Proofs
set_option maxHeartbeats 0
set_option linter.unusedSimpArgs false
set_option linter.unusedVariables false
theorem zadd_rw {x:Nat} (h:x≤9223372036854775807):I (w64 (0+((x:Nat):Int)))=I ((x:Nat):Int):=by
 congr 1; unfold w64; rw [IntKind.wrap_i64]; omega
end Go.VS

