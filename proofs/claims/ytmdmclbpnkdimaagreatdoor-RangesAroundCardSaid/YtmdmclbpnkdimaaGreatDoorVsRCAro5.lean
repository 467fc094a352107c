/- Nothing of a statement is proved in this text alone: it is part 5 of the proof's own tools, an evaluator of the code over deep values, its soundness, and what it makes of this seat's functions. Conditions: none beyond the statement's own. -/
import Derived.Test.YtmdmclbpnkdimaaGreatDoorVsRCAro4
set_option linter.unusedSimpArgs false
set_option linter.unusedVariables false
namespace Go.VS
open Go Go.Proofs
set_option maxHeartbeats 0
set_option linter.unusedSimpArgs false
set_option linter.unusedVariables false
def sd40132 (ν0 ν1 ν2:Nat) (μ0:List Sn) (μ1:GS Sn) (μ2:Int):St:=⟨21,[(11,B false),(1,.fn (.func 106) [] [.lref ν0 0 1 0]),(5,.lsl ν1 0 μ0.length 2 none),(8,.sl μ1.nl (μ1.l.map Sn.D) (zsl μ1.nl 2) none),(9,I ((μ1.l.length:Nat):Int)),(10,I ((μ1.l.length:Nat):Int))],[(ν0,⟨[I μ2],1,true⟩),(ν1,⟨μ0.map Sn.D,2,false⟩)],ν2,ν1⟩

def sd40133 (ν0 ν1 ν2:Nat) (μ0:List Sn) (μ1:GS Sn) (μ2:Int):St:=⟨21,[(11,B false),(1,.fn (.func 106) [] [.lref ν0 0 1 0]),(5,.lsl ν1 0 μ0.length 2 none),(8,.sl μ1.nl (μ1.l.map Sn.D) (zsl μ1.nl 2) none),(9,I ((μ1.l.length:Nat):Int)),(10,I ((μ1.l.length:Nat):Int))],[(ν0,⟨[I μ2],1,false⟩),(ν1,⟨μ0.map Sn.D,2,false⟩)],ν2,ν1⟩

def sd40134 (ν0 ν1:Nat) (μ0:GS Sn) (μ1:Int):St:=⟨21,[(11,B false),(1,.fn (.func 106) [] [.lref ν0 0 1 0]),(5,.sl true [] 0 none),(8,.sl μ0.nl (μ0.l.map Sn.D) (zsl μ0.nl 2) none),(9,I ((μ0.l.length:Nat):Int)),(10,I ((μ0.l.length:Nat):Int))],[(ν0,⟨[I μ1],1,true⟩)],ν1,ν1⟩

def sd40135 (ν0 ν1:Nat) (μ0:GS Sn) (μ1:Int):St:=⟨21,[(11,B false),(1,.fn (.func 106) [] [.lref ν0 0 1 0]),(5,.sl true [] 0 none),(8,.sl μ0.nl (μ0.l.map Sn.D) (zsl μ0.nl 2) none),(9,I ((μ0.l.length:Nat):Int)),(10,I ((μ0.l.length:Nat):Int))],[(ν0,⟨[I μ1],1,false⟩)],ν1,ν1⟩

def sd40136 (ν0 ν1 ν2 ν3:Nat) (μ0:Nat) (μ1:List Sn) (μ2:Sn) (μ3:Int) (μ4:GS Sn):St:=⟨21,[(10,I ((μ0+1:Nat):Int)),(19,I ((μ0+1:Nat):Int)),(5,.lsl ν0 0 μ1.length 2 none),(18,.lsl ν0 0 μ1.length 2 none),(17,.sl ((z7 μ2 μ3).nl) (((z7 μ2 μ3).l).map Sn.D) (zsl ((z7 μ2 μ3).nl) 2) none),(16,.agg [I μ2.lo,I μ2.hi]),(15,.fn (.func 106) [] [.lref ν1 0 1 0]),(14,.lsl ν0 0 μ1.length 2 none),(7,.lref ν2 0 2 0),(13,.agg [I μ2.lo,I μ2.hi]),(12,.ptr (.agg [I μ2.lo,I μ2.hi])),(11,B true),(1,.fn (.func 106) [] [.lref ν1 0 1 0]),(5,.lsl ν0 0 μ1.length 2 none),(8,.sl μ4.nl (μ4.l.map Sn.D) (zsl μ4.nl 2) none),(9,I ((μ4.l.length:Nat):Int)),(10,I ((μ0:Nat):Int))],[(ν1,⟨[I μ3],1,true⟩),(ν0,⟨μ1.map Sn.D,2,false⟩),(ν2,⟨[.agg [I μ2.lo,I μ2.hi]],2,false⟩)],ν3,ν0⟩

def sd40137 (ν0 ν1 ν2 ν3 ν4:Nat) (μ0:Nat) (μ1:List Sn) (μ2:Sn) (μ3:Int) (μ4:GS Sn):St:=⟨21,[(10,I ((μ0+1:Nat):Int)),(19,I ((μ0+1:Nat):Int)),(5,.lsl ν0 0 ((μ1++((z7 μ2 μ3).l)).length) 2 none),(18,.lsl ν0 0 ((μ1++((z7 μ2 μ3).l)).length) 2 none),(17,.sl ((z7 μ2 μ3).nl) (((z7 μ2 μ3).l).map Sn.D) (zsl ((z7 μ2 μ3).nl) 2) none),(16,.agg [I μ2.lo,I μ2.hi]),(15,.fn (.func 106) [] [.lref ν1 0 1 0]),(14,.lsl ν2 0 μ1.length 2 none),(7,.lref ν3 0 2 0),(13,.agg [I μ2.lo,I μ2.hi]),(12,.ptr (.agg [I μ2.lo,I μ2.hi])),(11,B true),(1,.fn (.func 106) [] [.lref ν1 0 1 0]),(5,.lsl ν2 0 μ1.length 2 none),(8,.sl μ4.nl (μ4.l.map Sn.D) (zsl μ4.nl 2) none),(9,I ((μ4.l.length:Nat):Int)),(10,I ((μ0:Nat):Int))],[(ν1,⟨[I μ3],1,true⟩),(ν3,⟨[.agg [I μ2.lo,I μ2.hi]],2,false⟩),(ν0,⟨(μ1++((z7 μ2 μ3).l)).map Sn.D,2,false⟩)],ν4,ν2⟩

def sd40138 (ν0 ν1 ν2 ν3:Nat) (μ0:Nat) (μ1:List Sn) (μ2:Sn) (μ3:Int) (μ4:GS Sn):St:=⟨21,[(10,I ((μ0+1:Nat):Int)),(19,I ((μ0+1:Nat):Int)),(5,.lsl ν0 0 μ1.length 2 none),(18,.lsl ν0 0 μ1.length 2 none),(17,.sl ((z7 μ2 μ3).nl) (((z7 μ2 μ3).l).map Sn.D) (zsl ((z7 μ2 μ3).nl) 2) none),(16,.agg [I μ2.lo,I μ2.hi]),(15,.fn (.func 106) [] [.lref ν1 0 1 0]),(14,.lsl ν0 0 μ1.length 2 none),(7,.lref ν2 0 2 0),(13,.agg [I μ2.lo,I μ2.hi]),(12,.ptr (.agg [I μ2.lo,I μ2.hi])),(11,B true),(1,.fn (.func 106) [] [.lref ν1 0 1 0]),(5,.lsl ν0 0 μ1.length 2 none),(8,.sl μ4.nl (μ4.l.map Sn.D) (zsl μ4.nl 2) none),(9,I ((μ4.l.length:Nat):Int)),(10,I ((μ0:Nat):Int))],[(ν1,⟨[I μ3],1,false⟩),(ν0,⟨μ1.map Sn.D,2,false⟩),(ν2,⟨[.agg [I μ2.lo,I μ2.hi]],2,false⟩)],ν3,ν0⟩

def sd40139 (ν0 ν1 ν2 ν3 ν4:Nat) (μ0:Nat) (μ1:List Sn) (μ2:Sn) (μ3:Int) (μ4:GS Sn):St:=⟨21,[(10,I ((μ0+1:Nat):Int)),(19,I ((μ0+1:Nat):Int)),(5,.lsl ν0 0 ((μ1++((z7 μ2 μ3).l)).length) 2 none),(18,.lsl ν0 0 ((μ1++((z7 μ2 μ3).l)).length) 2 none),(17,.sl ((z7 μ2 μ3).nl) (((z7 μ2 μ3).l).map Sn.D) (zsl ((z7 μ2 μ3).nl) 2) none),(16,.agg [I μ2.lo,I μ2.hi]),(15,.fn (.func 106) [] [.lref ν1 0 1 0]),(14,.lsl ν2 0 μ1.length 2 none),(7,.lref ν3 0 2 0),(13,.agg [I μ2.lo,I μ2.hi]),(12,.ptr (.agg [I μ2.lo,I μ2.hi])),(11,B true),(1,.fn (.func 106) [] [.lref ν1 0 1 0]),(5,.lsl ν2 0 μ1.length 2 none),(8,.sl μ4.nl (μ4.l.map Sn.D) (zsl μ4.nl 2) none),(9,I ((μ4.l.length:Nat):Int)),(10,I ((μ0:Nat):Int))],[(ν1,⟨[I μ3],1,false⟩),(ν3,⟨[.agg [I μ2.lo,I μ2.hi]],2,false⟩),(ν0,⟨(μ1++((z7 μ2 μ3).l)).map Sn.D,2,false⟩)],ν4,ν2⟩

def sd40140 (ν0 ν1 ν2 ν3:Nat) (μ0:Nat) (μ1:Sn) (μ2:Int) (μ3:GS Sn):St:=⟨21,[(10,I ((μ0+1:Nat):Int)),(19,I ((μ0+1:Nat):Int)),(5,.lsl ν0 0 (((z7 μ1 μ2).l).length) 2 none),(18,.lsl ν0 0 (((z7 μ1 μ2).l).length) 2 none),(17,.sl ((z7 μ1 μ2).nl) (((z7 μ1 μ2).l).map Sn.D) (zsl ((z7 μ1 μ2).nl) 2) none),(16,.agg [I μ1.lo,I μ1.hi]),(15,.fn (.func 106) [] [.lref ν1 0 1 0]),(14,.sl true [] 0 none),(7,.lref ν2 0 2 0),(13,.agg [I μ1.lo,I μ1.hi]),(12,.ptr (.agg [I μ1.lo,I μ1.hi])),(11,B true),(1,.fn (.func 106) [] [.lref ν1 0 1 0]),(5,.sl true [] 0 none),(8,.sl μ3.nl (μ3.l.map Sn.D) (zsl μ3.nl 2) none),(9,I ((μ3.l.length:Nat):Int)),(10,I ((μ0:Nat):Int))],[(ν1,⟨[I μ2],1,true⟩),(ν2,⟨[.agg [I μ1.lo,I μ1.hi]],2,false⟩),(ν0,⟨((z7 μ1 μ2).l).map Sn.D,2,false⟩)],ν3,ν2⟩

def sd40141 (ν0 ν1 ν2 ν3:Nat) (μ0:Nat) (μ1:Sn) (μ2:Int) (μ3:GS Sn):St:=⟨21,[(10,I ((μ0+1:Nat):Int)),(19,I ((μ0+1:Nat):Int)),(5,.lsl ν0 0 (((z7 μ1 μ2).l).length) 2 none),(18,.lsl ν0 0 (((z7 μ1 μ2).l).length) 2 none),(17,.sl ((z7 μ1 μ2).nl) (((z7 μ1 μ2).l).map Sn.D) (zsl ((z7 μ1 μ2).nl) 2) none),(16,.agg [I μ1.lo,I μ1.hi]),(15,.fn (.func 106) [] [.lref ν1 0 1 0]),(14,.sl true [] 0 none),(7,.lref ν2 0 2 0),(13,.agg [I μ1.lo,I μ1.hi]),(12,.ptr (.agg [I μ1.lo,I μ1.hi])),(11,B true),(1,.fn (.func 106) [] [.lref ν1 0 1 0]),(5,.sl true [] 0 none),(8,.sl μ3.nl (μ3.l.map Sn.D) (zsl μ3.nl 2) none),(9,I ((μ3.l.length:Nat):Int)),(10,I ((μ0:Nat):Int))],[(ν1,⟨[I μ2],1,false⟩),(ν2,⟨[.agg [I μ1.lo,I μ1.hi]],2,false⟩),(ν0,⟨((z7 μ1 μ2).l).map Sn.D,2,false⟩)],ν3,ν2⟩

inductive LR_ranges_each_3p4 where
 | x0 (yM:List Sn)
 | x1 (yL:List Sn)
 | x2
 | x3
instance:Inhabited LR_ranges_each_3p4:=⟨.x0 default⟩
def y5 (n:Int):List Sn→(List Sn)→LR_ranges_each_3p4
 | [],yM=>.x0 yM
 | yW::yU,yM =>
  bif (z7 yW n).nl then
   bif ((z7 yW n).l).isEmpty then
    y5 n yU yM
   else
    y5 n yU (yM++((z7 yW n).l))
  else
   bif ((z7 yW n).l).isEmpty then
    y5 n yU yM
   else
    y5 n yU (yM++((z7 yW n).l))
def yB (n:Int):List Sn→(List Sn)→LR_ranges_each_3p4
 | [],yL=>.x1 yL
 | yW::yU,yL =>
  bif (z7 yW n).nl then
   bif ((z7 yW n).l).isEmpty then
    yB n yU yL
   else
    yB n yU (yL++((z7 yW n).l))
  else
   bif ((z7 yW n).l).isEmpty then
    y5 n yU yL
   else
    y5 n yU (yL++((z7 yW n).l))
def ranges_each_3p4b (n:Int):List Sn→LR_ranges_each_3p4
 | []=>.x2
 | yW::yU =>
  bif (z7 yW n).nl then
   bif ((z7 yW n).l).isEmpty then
    ranges_each_3p4b n yU
   else
    y5 n yU ((z7 yW n).l)
  else
   bif ((z7 yW n).l).isEmpty then
    ranges_each_3p4b n yU
   else
    y5 n yU ((z7 yW n).l)
def ranges_each_3p4 (n:Int):List Sn→LR_ranges_each_3p4
 | []=>.x3
 | yW::yU =>
  bif (z7 yW n).nl then
   bif ((z7 yW n).l).isEmpty then
    ranges_each_3p4 n yU
   else
    yB n yU ((z7 yW n).l)
  else
   bif ((z7 yW n).l).isEmpty then
    ranges_each_3p4b n yU
   else
    y5 n yU ((z7 yW n).l)
def lr_ranges_each_3p4 (r:GS Sn) (n:Int):LR_ranges_each_3p4→Exit × St
 | .x0 yM=>((.exit 0),(sd40132 0 1 2 yM r n))
 | .x1 yL=>((.exit 0),(sd40133 0 1 2 yL r n))
 | .x2=>((.exit 0),(sd40134 0 1 r n))
 | .x3=>((.exit 0),(sd40135 0 1 r n))
def iv_ranges_each_3p4 (r:GS Sn) (n:Int):LR_ranges_each_3p4→Prop
 | .x0 yM=>(yM.length≤2 * r.l.length)
 | .x1 yL=>(yL.length≤2 * r.l.length)
 | .x2=>True
 | .x3=>True
def ranges_each_3p4c_l_o1 (n:Int) (yW:Sn):List Ora:=[.dec true,.el (.agg [I yW.lo,I yW.hi]),.pureS (.sl ((z7 yW n).nl) (((z7 yW n).l).map Sn.D) (zsl ((z7 yW n).nl) 2) none) true []]
def ranges_each_3p4c_l_o2 (n:Int) (yW:Sn):List Ora:=[.dec true,.el (.agg [I yW.lo,I yW.hi]),.pureS (.sl ((z7 yW n).nl) (((z7 yW n).l).map Sn.D) (zsl ((z7 yW n).nl) 2) none) false []]
theorem lp_ranges_each_3p4c (r:GS Sn) (n:Int):∀ (yU:List Sn) (xk:Nat) (yM:List Sn) (yX:r.l.drop xk=yU) (xK:xk≤r.l.length) (hB:∀ x∈r.l,-1099511627776≤x.lo∧x.lo≤x.hi∧x.hi≤1099511627776) (xQ:r.l.length≤64) (hn:1≤n∧n≤10000) (hg3p4_vc3p4_0:yM.length≤2 * xk) (hL3p4:r.l.length≤1099511627776),(lim cfg).loop 70 lp70_3 ⟨21,[(1,.fn (.func 106) [] [.lref 0 0 1 0]),(5,.lsl 1 0 yM.length 2 none),(8,.sl r.nl (r.l.map Sn.D) (zsl r.nl 2) none),(9,I ((r.l.length:Nat):Int)),(10,I ((xk:Nat):Int))],[(0,⟨[I n],1,true⟩),(1,⟨yM.map Sn.D,2,false⟩)],2,1⟩=some (lr_ranges_each_3p4 r n (y5 n yU yM)):=by
 intro yU
 induction yU with
 | nil =>
  intro xk yM yX xK hB xQ hn hg3p4_vc3p4_0 hL3p4
  unfold y5
  obtain rfl:xk=r.l.length:=nil_eq yX xK
  exact yc [.dec false] (Ai (lt_no yX) trivial) (by kernel_rfl)
 | cons yW yU ih =>
  intro xk yM yX xK hB xQ hn hg3p4_vc3p4_0 hL3p4
  have hlt3p4:=zj yX
  have hbx:=hB yW (mem_drop yX)
  have hlx:=rests1_len yW n
  unfold y5
  have p1:=(el_at (s:=r) (f:=Sn.D) (k:=2) yX)
  cases h15:(z7 yW n).nl with
  | true =>
   have p2:=(Ai (show flat fuelD (.sl ((z7 yW n).nl) (((z7 yW n).l).map Sn.D) (zsl ((z7 yW n).nl) 2) none)=true from (by rw [h15] <;> kernel_rfl)) (Ai (trivial) (ym yW n (by omega) (by omega))))
   cases h16:((z7 yW n).l).isEmpty with
   | true =>
    exact zR (ks:=[1,5,8,9,10]) (st':=(sd40136 1 0 2 3 xk yM yW n r)) ((ranges_each_3p4c_l_o1 n yW)++[.op (some 18) ⟨.lsl 1 0 yM.length 2 none,[],[],3⟩,.rw 19 (I ((xk+1:Nat):Int))]) (Ai (ya (i:=xk) (by have:=zj yX; omega)) (Ai (app_none (te:=yl) (gO:=zB [(0,⟨[I n],1,true⟩),(1,⟨yM.map Sn.D,2,false⟩),(2,⟨[.agg [I yW.lo,I yW.hi]],2,false⟩)]) (nxt:=3) (f:=Sn.D) (sz:=2) (d:=.lsl 1 0 yM.length 2 none) (z7 yW n) h16 rfl) (Ai p2 (Ai p1 (Ai (yy yX) trivial))))) (by kernel_rfl) (by (simp only [sd40136,go_sem,List.length_set,Nat.reduceAdd,Nat.reduceEqDiff,Nat.reduceLT,Nat.reduceLeDiff,bI2,zb.idsL,zb.renL,zb.snapAll,z6.idsL,z6.renL,z6.snapAll]) <;> rfl) (ih (xk+1) yM (zn yX) (zj yX) (by omega) (by omega) (by omega) (by omega) (by omega)) (by kernel_rfl)
   | false =>
    exact zR (ks:=[1,5,8,9,10]) (st':=(sd40137 3 0 1 2 4 xk yM yW n r)) ((ranges_each_3p4c_l_o1 n yW)++[.op (some 18) ⟨.lsl 3 0 ((yM++((z7 yW n).l)).length) 2 none,[(1,none),(3,some ⟨(yM++((z7 yW n).l)).map Sn.D,2,false⟩)],[1],4⟩,.rw 19 (I ((xk+1:Nat):Int))]) (Ai (ya (i:=xk) (by have:=zj yX; omega)) (Ai (app_moreD (te:=yl) (gO:=zB [(0,⟨[I n],1,true⟩),(1,⟨yM.map Sn.D,2,false⟩),(2,⟨[.agg [I yW.lo,I yW.hi]],2,false⟩)]) (nxt:=3) (o:=1) (v:=yM) z6 (z7 yW n) h16 (by kernel_rfl) rfl (by kernel_rfl) (by decide) ⟨by simp only [yl,big] <;> (omega),by simp only [big] <;> (omega)⟩) (Ai p2 (Ai p1 (Ai (yy yX) trivial))))) (by kernel_rfl) (by (simp only [sd40137,go_sem,List.length_set,Nat.reduceAdd,Nat.reduceEqDiff,Nat.reduceLT,Nat.reduceLeDiff,bI2,zb.idsL,zb.renL,zb.snapAll,z6.idsL,z6.renL,z6.snapAll]) <;> rfl) (ih (xk+1) (yM++((z7 yW n).l)) (zn yX) (zj yX) (by omega) (by omega) (by omega) (by simp only [List.length_append,List.length_cons,List.length_nil] at * <;> omega) (by omega)) (by kernel_rfl)
  | false =>
   have p3:=(Ai (show flat fuelD (.sl ((z7 yW n).nl) (((z7 yW n).l).map Sn.D) (zsl ((z7 yW n).nl) 2) none)=false from (by rw [h15] <;> kernel_rfl)) (Ai (trivial) (ym yW n (by omega) (by omega))))
   cases h17:((z7 yW n).l).isEmpty with
   | true =>
    exact zR (ks:=[1,5,8,9,10]) (st':=(sd40136 1 0 2 3 xk yM yW n r)) ((ranges_each_3p4c_l_o2 n yW)++[.op (some 18) ⟨.lsl 1 0 yM.length 2 none,[],[],3⟩,.rw 19 (I ((xk+1:Nat):Int))]) (Ai (ya (i:=xk) (by have:=zj yX; omega)) (Ai (app_none (te:=yl) (gO:=zB [(0,⟨[I n],1,true⟩),(1,⟨yM.map Sn.D,2,false⟩),(2,⟨[.agg [I yW.lo,I yW.hi]],2,false⟩)]) (nxt:=3) (f:=Sn.D) (sz:=2) (d:=.lsl 1 0 yM.length 2 none) (z7 yW n) h17 rfl) (Ai p3 (Ai p1 (Ai (yy yX) trivial))))) (by kernel_rfl) (by (simp only [sd40136,go_sem,List.length_set,Nat.reduceAdd,Nat.reduceEqDiff,Nat.reduceLT,Nat.reduceLeDiff,bI2,zb.idsL,zb.renL,zb.snapAll,z6.idsL,z6.renL,z6.snapAll]) <;> rfl) (ih (xk+1) yM (zn yX) (zj yX) (by omega) (by omega) (by omega) (by omega) (by omega)) (by kernel_rfl)
   | false =>
    exact zR (ks:=[1,5,8,9,10]) (st':=(sd40137 3 0 1 2 4 xk yM yW n r)) ((ranges_each_3p4c_l_o2 n yW)++[.op (some 18) ⟨.lsl 3 0 ((yM++((z7 yW n).l)).length) 2 none,[(1,none),(3,some ⟨(yM++((z7 yW n).l)).map Sn.D,2,false⟩)],[1],4⟩,.rw 19 (I ((xk+1:Nat):Int))]) (Ai (ya (i:=xk) (by have:=zj yX; omega)) (Ai (app_moreD (te:=yl) (gO:=zB [(0,⟨[I n],1,true⟩),(1,⟨yM.map Sn.D,2,false⟩),(2,⟨[.agg [I yW.lo,I yW.hi]],2,false⟩)]) (nxt:=3) (o:=1) (v:=yM) z6 (z7 yW n) h17 (by kernel_rfl) rfl (by kernel_rfl) (by decide) ⟨by simp only [yl,big] <;> (omega),by simp only [big] <;> (omega)⟩) (Ai p3 (Ai p1 (Ai (yy yX) trivial))))) (by kernel_rfl) (by (simp only [sd40137,go_sem,List.length_set,Nat.reduceAdd,Nat.reduceEqDiff,Nat.reduceLT,Nat.reduceLeDiff,bI2,zb.idsL,zb.renL,zb.snapAll,z6.idsL,z6.renL,z6.snapAll]) <;> rfl) (ih (xk+1) (yM++((z7 yW n).l)) (zn yX) (zj yX) (by omega) (by omega) (by omega) (by simp only [List.length_append,List.length_cons,List.length_nil] at * <;> omega) (by omega)) (by kernel_rfl)
theorem ivt_ranges_each_3p4c (r:GS Sn) (n:Int):∀ (yU:List Sn) (xk:Nat) (yM:List Sn) (yX:r.l.drop xk=yU) (xK:xk≤r.l.length) (hB:∀ x∈r.l,-1099511627776≤x.lo∧x.lo≤x.hi∧x.hi≤1099511627776) (xQ:r.l.length≤64) (hn:1≤n∧n≤10000) (hg3p4_vc3p4_0:yM.length≤2 * xk) (hL3p4:r.l.length≤1099511627776),iv_ranges_each_3p4 r n (y5 n yU yM):=by
 intro yU
 induction yU with
 | nil =>
  intro xk yM yX xK hB xQ hn hg3p4_vc3p4_0 hL3p4
  unfold y5
  obtain rfl:xk=r.l.length:=nil_eq yX xK
  exact hg3p4_vc3p4_0
 | cons yW yU ih =>
  intro xk yM yX xK hB xQ hn hg3p4_vc3p4_0 hL3p4
  have hlt3p4:=zj yX
  have hbx:=hB yW (mem_drop yX)
  have hlx:=rests1_len yW n
  unfold y5
  cases h15:(z7 yW n).nl with
  | true =>
   cases h16:((z7 yW n).l).isEmpty with
   | true =>
    exact ih (xk+1) yM (zn yX) (zj yX) (by omega) (by omega) (by omega) (by omega) (by omega)
   | false =>
    exact ih (xk+1) (yM++((z7 yW n).l)) (zn yX) (zj yX) (by omega) (by omega) (by omega) (by simp only [List.length_append,List.length_cons,List.length_nil] at * <;> omega) (by omega)
  | false =>
   cases h17:((z7 yW n).l).isEmpty with
   | true =>
    exact ih (xk+1) yM (zn yX) (zj yX) (by omega) (by omega) (by omega) (by omega) (by omega)
   | false =>
    exact ih (xk+1) (yM++((z7 yW n).l)) (zn yX) (zj yX) (by omega) (by omega) (by omega) (by simp only [List.length_append,List.length_cons,List.length_nil] at * <;> omega) (by omega)
def ranges_each_3p4a_l_o1 (n:Int) (yW:Sn):List Ora:=[.dec true,.el (.agg [I yW.lo,I yW.hi]),.pureS (.sl ((z7 yW n).nl) (((z7 yW n).l).map Sn.D) (zsl ((z7 yW n).nl) 2) none) true []]
def ranges_each_3p4a_l_o2 (n:Int) (yW:Sn):List Ora:=[.dec true,.el (.agg [I yW.lo,I yW.hi]),.pureS (.sl ((z7 yW n).nl) (((z7 yW n).l).map Sn.D) (zsl ((z7 yW n).nl) 2) none) false []]
theorem lp_ranges_each_3p4a (r:GS Sn) (n:Int):∀ (yU:List Sn) (xk:Nat) (yL:List Sn) (yX:r.l.drop xk=yU) (xK:xk≤r.l.length) (hB:∀ x∈r.l,-1099511627776≤x.lo∧x.lo≤x.hi∧x.hi≤1099511627776) (xQ:r.l.length≤64) (hn:1≤n∧n≤10000) (hg3p4_va3p4_0:yL.length≤2 * xk) (hL3p4:r.l.length≤1099511627776),(lim cfg).loop 70 lp70_3 ⟨21,[(1,.fn (.func 106) [] [.lref 0 0 1 0]),(5,.lsl 1 0 yL.length 2 none),(8,.sl r.nl (r.l.map Sn.D) (zsl r.nl 2) none),(9,I ((r.l.length:Nat):Int)),(10,I ((xk:Nat):Int))],[(0,⟨[I n],1,false⟩),(1,⟨yL.map Sn.D,2,false⟩)],2,1⟩=some (lr_ranges_each_3p4 r n (yB n yU yL)):=by
 intro yU
 induction yU with
 | nil =>
  intro xk yL yX xK hB xQ hn hg3p4_va3p4_0 hL3p4
  unfold yB
  obtain rfl:xk=r.l.length:=nil_eq yX xK
  exact yc [.dec false] (Ai (lt_no yX) trivial) (by kernel_rfl)
 | cons yW yU ih =>
  intro xk yL yX xK hB xQ hn hg3p4_va3p4_0 hL3p4
  have hlt3p4:=zj yX
  have hbx:=hB yW (mem_drop yX)
  have hlx:=rests1_len yW n
  unfold yB
  have p1:=(el_at (s:=r) (f:=Sn.D) (k:=2) yX)
  cases h18:(z7 yW n).nl with
  | true =>
   have p2:=(Ai (show flat fuelD (.sl ((z7 yW n).nl) (((z7 yW n).l).map Sn.D) (zsl ((z7 yW n).nl) 2) none)=true from (by rw [h18] <;> kernel_rfl)) (Ai (trivial) (ym yW n (by omega) (by omega))))
   cases h19:((z7 yW n).l).isEmpty with
   | true =>
    exact zR (ks:=[1,5,8,9,10]) (st':=(sd40138 1 0 2 3 xk yL yW n r)) ((ranges_each_3p4a_l_o1 n yW)++[.op (some 18) ⟨.lsl 1 0 yL.length 2 none,[],[],3⟩,.rw 19 (I ((xk+1:Nat):Int))]) (Ai (ya (i:=xk) (by have:=zj yX; omega)) (Ai (app_none (te:=yl) (gO:=zB [(0,⟨[I n],1,false⟩),(1,⟨yL.map Sn.D,2,false⟩),(2,⟨[.agg [I yW.lo,I yW.hi]],2,false⟩)]) (nxt:=3) (f:=Sn.D) (sz:=2) (d:=.lsl 1 0 yL.length 2 none) (z7 yW n) h19 rfl) (Ai p2 (Ai p1 (Ai (yy yX) trivial))))) (by kernel_rfl) (by (simp only [sd40138,go_sem,List.length_set,Nat.reduceAdd,Nat.reduceEqDiff,Nat.reduceLT,Nat.reduceLeDiff,bI2,zb.idsL,zb.renL,zb.snapAll,z6.idsL,z6.renL,z6.snapAll]) <;> rfl) (ih (xk+1) yL (zn yX) (zj yX) (by omega) (by omega) (by omega) (by omega) (by omega)) (by kernel_rfl)
   | false =>
    exact zR (ks:=[1,5,8,9,10]) (st':=(sd40139 3 0 1 2 4 xk yL yW n r)) ((ranges_each_3p4a_l_o1 n yW)++[.op (some 18) ⟨.lsl 3 0 ((yL++((z7 yW n).l)).length) 2 none,[(1,none),(3,some ⟨(yL++((z7 yW n).l)).map Sn.D,2,false⟩)],[1],4⟩,.rw 19 (I ((xk+1:Nat):Int))]) (Ai (ya (i:=xk) (by have:=zj yX; omega)) (Ai (app_moreD (te:=yl) (gO:=zB [(0,⟨[I n],1,false⟩),(1,⟨yL.map Sn.D,2,false⟩),(2,⟨[.agg [I yW.lo,I yW.hi]],2,false⟩)]) (nxt:=3) (o:=1) (v:=yL) z6 (z7 yW n) h19 (by kernel_rfl) rfl (by kernel_rfl) (by decide) ⟨by simp only [yl,big] <;> (omega),by simp only [big] <;> (omega)⟩) (Ai p2 (Ai p1 (Ai (yy yX) trivial))))) (by kernel_rfl) (by (simp only [sd40139,go_sem,List.length_set,Nat.reduceAdd,Nat.reduceEqDiff,Nat.reduceLT,Nat.reduceLeDiff,bI2,zb.idsL,zb.renL,zb.snapAll,z6.idsL,z6.renL,z6.snapAll]) <;> rfl) (ih (xk+1) (yL++((z7 yW n).l)) (zn yX) (zj yX) (by omega) (by omega) (by omega) (by simp only [List.length_append,List.length_cons,List.length_nil] at * <;> omega) (by omega)) (by kernel_rfl)
  | false =>
   have p3:=(Ai (show flat fuelD (.sl ((z7 yW n).nl) (((z7 yW n).l).map Sn.D) (zsl ((z7 yW n).nl) 2) none)=false from (by rw [h18] <;> kernel_rfl)) (Ai (trivial) (ym yW n (by omega) (by omega))))
   cases h20:((z7 yW n).l).isEmpty with
   | true =>
    exact zR (ks:=[1,5,8,9,10]) (st':=(sd40136 1 0 2 3 xk yL yW n r)) ((ranges_each_3p4a_l_o2 n yW)++[.op (some 18) ⟨.lsl 1 0 yL.length 2 none,[],[],3⟩,.rw 19 (I ((xk+1:Nat):Int))]) (Ai (ya (i:=xk) (by have:=zj yX; omega)) (Ai (app_none (te:=yl) (gO:=zB [(0,⟨[I n],1,true⟩),(1,⟨yL.map Sn.D,2,false⟩),(2,⟨[.agg [I yW.lo,I yW.hi]],2,false⟩)]) (nxt:=3) (f:=Sn.D) (sz:=2) (d:=.lsl 1 0 yL.length 2 none) (z7 yW n) h20 rfl) (Ai p3 (Ai p1 (Ai (yy yX) trivial))))) (by kernel_rfl) (by (simp only [sd40136,go_sem,List.length_set,Nat.reduceAdd,Nat.reduceEqDiff,Nat.reduceLT,Nat.reduceLeDiff,bI2,zb.idsL,zb.renL,zb.snapAll,z6.idsL,z6.renL,z6.snapAll]) <;> rfl) (lp_ranges_each_3p4c r n _ (xk+1) yL (zn yX) (zj yX) (by omega) (by omega) (by omega) (by omega) (by omega)) (by kernel_rfl)
   | false =>
    exact zR (ks:=[1,5,8,9,10]) (st':=(sd40137 3 0 1 2 4 xk yL yW n r)) ((ranges_each_3p4a_l_o2 n yW)++[.op (some 18) ⟨.lsl 3 0 ((yL++((z7 yW n).l)).length) 2 none,[(1,none),(3,some ⟨(yL++((z7 yW n).l)).map Sn.D,2,false⟩)],[1],4⟩,.rw 19 (I ((xk+1:Nat):Int))]) (Ai (ya (i:=xk) (by have:=zj yX; omega)) (Ai (app_moreD (te:=yl) (gO:=zB [(0,⟨[I n],1,true⟩),(1,⟨yL.map Sn.D,2,false⟩),(2,⟨[.agg [I yW.lo,I yW.hi]],2,false⟩)]) (nxt:=3) (o:=1) (v:=yL) z6 (z7 yW n) h20 (by kernel_rfl) rfl (by kernel_rfl) (by decide) ⟨by simp only [yl,big] <;> (omega),by simp only [big] <;> (omega)⟩) (Ai p3 (Ai p1 (Ai (yy yX) trivial))))) (by kernel_rfl) (by (simp only [sd40137,go_sem,List.length_set,Nat.reduceAdd,Nat.reduceEqDiff,Nat.reduceLT,Nat.reduceLeDiff,bI2,zb.idsL,zb.renL,zb.snapAll,z6.idsL,z6.renL,z6.snapAll]) <;> rfl) (lp_ranges_each_3p4c r n _ (xk+1) (yL++((z7 yW n).l)) (zn yX) (zj yX) (by omega) (by omega) (by omega) (by simp only [List.length_append,List.length_cons,List.length_nil] at * <;> omega) (by omega)) (by kernel_rfl)
theorem ivt_ranges_each_3p4a (r:GS Sn) (n:Int):∀ (yU:List Sn) (xk:Nat) (yL:List Sn) (yX:r.l.drop xk=yU) (xK:xk≤r.l.length) (hB:∀ x∈r.l,-1099511627776≤x.lo∧x.lo≤x.hi∧x.hi≤1099511627776) (xQ:r.l.length≤64) (hn:1≤n∧n≤10000) (hg3p4_va3p4_0:yL.length≤2 * xk) (hL3p4:r.l.length≤1099511627776),iv_ranges_each_3p4 r n (yB n yU yL):=by
 intro yU
 induction yU with
 | nil =>
  intro xk yL yX xK hB xQ hn hg3p4_va3p4_0 hL3p4
  unfold yB
  obtain rfl:xk=r.l.length:=nil_eq yX xK
  exact hg3p4_va3p4_0
 | cons yW yU ih =>
  intro xk yL yX xK hB xQ hn hg3p4_va3p4_0 hL3p4
  have hlt3p4:=zj yX
  have hbx:=hB yW (mem_drop yX)
  have hlx:=rests1_len yW n
  unfold yB
  cases h18:(z7 yW n).nl with
  | true =>
   cases h19:((z7 yW n).l).isEmpty with
   | true =>
    exact ih (xk+1) yL (zn yX) (zj yX) (by omega) (by omega) (by omega) (by omega) (by omega)
   | false =>
    exact ih (xk+1) (yL++((z7 yW n).l)) (zn yX) (zj yX) (by omega) (by omega) (by omega) (by simp only [List.length_append,List.length_cons,List.length_nil] at * <;> omega) (by omega)
  | false =>
   cases h20:((z7 yW n).l).isEmpty with
   | true =>
    exact ivt_ranges_each_3p4c r n _ (xk+1) yL (zn yX) (zj yX) (by omega) (by omega) (by omega) (by omega) (by omega)
   | false =>
    exact ivt_ranges_each_3p4c r n _ (xk+1) (yL++((z7 yW n).l)) (zn yX) (zj yX) (by omega) (by omega) (by omega) (by simp only [List.length_append,List.length_cons,List.length_nil] at * <;> omega) (by omega)
def ranges_each_3p4b_l_o1 (n:Int) (yW:Sn):List Ora:=[.dec true,.el (.agg [I yW.lo,I yW.hi]),.pureS (.sl ((z7 yW n).nl) (((z7 yW n).l).map Sn.D) (zsl ((z7 yW n).nl) 2) none) true []]
def ranges_each_3p4b_l_o2 (n:Int) (yW:Sn):List Ora:=[.dec true,.el (.agg [I yW.lo,I yW.hi]),.pureS (.sl ((z7 yW n).nl) (((z7 yW n).l).map Sn.D) (zsl ((z7 yW n).nl) 2) none) false []]
theorem lp_ranges_each_3p4b (r:GS Sn) (n:Int):∀ (yU:List Sn) (xk:Nat) (yX:r.l.drop xk=yU) (xK:xk≤r.l.length) (hB:∀ x∈r.l,-1099511627776≤x.lo∧x.lo≤x.hi∧x.hi≤1099511627776) (xQ:r.l.length≤64) (hn:1≤n∧n≤10000) (hL3p4:r.l.length≤1099511627776),(lim cfg).loop 70 lp70_3 ⟨21,[(1,.fn (.func 106) [] [.lref 0 0 1 0]),(5,.sl true [] 0 none),(8,.sl r.nl (r.l.map Sn.D) (zsl r.nl 2) none),(9,I ((r.l.length:Nat):Int)),(10,I ((xk:Nat):Int))],[(0,⟨[I n],1,true⟩)],1,1⟩=some (lr_ranges_each_3p4 r n (ranges_each_3p4b n yU)):=by
 intro yU
 induction yU with
 | nil =>
  intro xk yX xK hB xQ hn hL3p4
  unfold ranges_each_3p4b
  obtain rfl:xk=r.l.length:=nil_eq yX xK
  exact yc [.dec false] (Ai (lt_no yX) trivial) (by kernel_rfl)
 | cons yW yU ih =>
  intro xk yX xK hB xQ hn hL3p4
  have hlt3p4:=zj yX
  have hbx:=hB yW (mem_drop yX)
  have hlx:=rests1_len yW n
  unfold ranges_each_3p4b
  have p1:=(el_at (s:=r) (f:=Sn.D) (k:=2) yX)
  cases h21:(z7 yW n).nl with
  | true =>
   have p2:=(Ai (show flat fuelD (.sl ((z7 yW n).nl) (((z7 yW n).l).map Sn.D) (zsl ((z7 yW n).nl) 2) none)=true from (by rw [h21] <;> kernel_rfl)) (Ai (trivial) (ym yW n (by omega) (by omega))))
   cases h22:((z7 yW n).l).isEmpty with
   | true =>
    exact po_turn ((ranges_each_3p4b_l_o1 n yW)++[.op (some 18) ⟨.sl true [] 0 none,[],[],2⟩,.rw 19 (I ((xk+1:Nat):Int))]) (Ai (ya (i:=xk) (by have:=zj yX; omega)) (Ai (app_none (te:=yl) (gO:=zB [(0,⟨[I n],1,true⟩),(1,⟨[.agg [I yW.lo,I yW.hi]],2,false⟩)]) (nxt:=2) (f:=Sn.D) (sz:=2) (d:=.sl true [] 0 none) (z7 yW n) h22 rfl) (Ai p2 (Ai p1 (Ai (yy yX) trivial))))) (ih (xk+1) (zn yX) (zj yX) (by omega) (by omega) (by omega) (by omega)) (by kernel_rfl)
   | false =>
    exact zR (ks:=[1,5,8,9,10]) (st':=(sd40140 2 0 1 3 xk yW n r)) ((ranges_each_3p4b_l_o1 n yW)++[.op (some 18) ⟨.lsl 2 0 (((z7 yW n).l).length) 2 none,[(2,some ⟨((z7 yW n).l).map Sn.D,2,false⟩)],[],3⟩,.rw 19 (I ((xk+1:Nat):Int))]) (Ai (ya (i:=xk) (by have:=zj yX; omega)) (Ai (app_newD (te:=yl) (gO:=zB [(0,⟨[I n],1,true⟩),(1,⟨[.agg [I yW.lo,I yW.hi]],2,false⟩)]) (nxt:=2) (els0:=[]) (sz0:=0) (cap0:=none) z6 (z7 yW n) h22 rfl (by kernel_rfl) (by decide) ⟨by simp only [yl,big] <;> (omega),by simp only [big] <;> (omega)⟩) (Ai p2 (Ai p1 (Ai (yy yX) trivial))))) (by kernel_rfl) (by (simp only [sd40140,go_sem,List.length_set,Nat.reduceAdd,Nat.reduceEqDiff,Nat.reduceLT,Nat.reduceLeDiff,bI2,zb.idsL,zb.renL,zb.snapAll,z6.idsL,z6.renL,z6.snapAll]) <;> rfl) (lp_ranges_each_3p4c r n _ (xk+1) ((z7 yW n).l) (zn yX) (zj yX) (by omega) (by omega) (by omega) (by omega) (by omega)) (by kernel_rfl)
  | false =>
   have p3:=(Ai (show flat fuelD (.sl ((z7 yW n).nl) (((z7 yW n).l).map Sn.D) (zsl ((z7 yW n).nl) 2) none)=false from (by rw [h21] <;> kernel_rfl)) (Ai (trivial) (ym yW n (by omega) (by omega))))
   cases h23:((z7 yW n).l).isEmpty with
   | true =>
    exact po_turn ((ranges_each_3p4b_l_o2 n yW)++[.op (some 18) ⟨.sl true [] 0 none,[],[],2⟩,.rw 19 (I ((xk+1:Nat):Int))]) (Ai (ya (i:=xk) (by have:=zj yX; omega)) (Ai (app_none (te:=yl) (gO:=zB [(0,⟨[I n],1,true⟩),(1,⟨[.agg [I yW.lo,I yW.hi]],2,false⟩)]) (nxt:=2) (f:=Sn.D) (sz:=2) (d:=.sl true [] 0 none) (z7 yW n) h23 rfl) (Ai p3 (Ai p1 (Ai (yy yX) trivial))))) (ih (xk+1) (zn yX) (zj yX) (by omega) (by omega) (by omega) (by omega)) (by kernel_rfl)
   | false =>
    exact zR (ks:=[1,5,8,9,10]) (st':=(sd40140 2 0 1 3 xk yW n r)) ((ranges_each_3p4b_l_o2 n yW)++[.op (some 18) ⟨.lsl 2 0 (((z7 yW n).l).length) 2 none,[(2,some ⟨((z7 yW n).l).map Sn.D,2,false⟩)],[],3⟩,.rw 19 (I ((xk+1:Nat):Int))]) (Ai (ya (i:=xk) (by have:=zj yX; omega)) (Ai (app_newD (te:=yl) (gO:=zB [(0,⟨[I n],1,true⟩),(1,⟨[.agg [I yW.lo,I yW.hi]],2,false⟩)]) (nxt:=2) (els0:=[]) (sz0:=0) (cap0:=none) z6 (z7 yW n) h23 rfl (by kernel_rfl) (by decide) ⟨by simp only [yl,big] <;> (omega),by simp only [big] <;> (omega)⟩) (Ai p3 (Ai p1 (Ai (yy yX) trivial))))) (by kernel_rfl) (by (simp only [sd40140,go_sem,List.length_set,Nat.reduceAdd,Nat.reduceEqDiff,Nat.reduceLT,Nat.reduceLeDiff,bI2,zb.idsL,zb.renL,zb.snapAll,z6.idsL,z6.renL,z6.snapAll]) <;> rfl) (lp_ranges_each_3p4c r n _ (xk+1) ((z7 yW n).l) (zn yX) (zj yX) (by omega) (by omega) (by omega) (by omega) (by omega)) (by kernel_rfl)
theorem ivt_ranges_each_3p4b (r:GS Sn) (n:Int):∀ (yU:List Sn) (xk:Nat) (yX:r.l.drop xk=yU) (xK:xk≤r.l.length) (hB:∀ x∈r.l,-1099511627776≤x.lo∧x.lo≤x.hi∧x.hi≤1099511627776) (xQ:r.l.length≤64) (hn:1≤n∧n≤10000) (hL3p4:r.l.length≤1099511627776),iv_ranges_each_3p4 r n (ranges_each_3p4b n yU):=by
 intro yU
 induction yU with
 | nil =>
  intro xk yX xK hB xQ hn hL3p4
  unfold ranges_each_3p4b
  obtain rfl:xk=r.l.length:=nil_eq yX xK
  exact trivial
 | cons yW yU ih =>
  intro xk yX xK hB xQ hn hL3p4
  have hlt3p4:=zj yX
  have hbx:=hB yW (mem_drop yX)
  have hlx:=rests1_len yW n
  unfold ranges_each_3p4b
  cases h21:(z7 yW n).nl with
  | true =>
   cases h22:((z7 yW n).l).isEmpty with
   | true =>
    exact ih (xk+1) (zn yX) (zj yX) (by omega) (by omega) (by omega) (by omega)
   | false =>
    exact ivt_ranges_each_3p4c r n _ (xk+1) ((z7 yW n).l) (zn yX) (zj yX) (by omega) (by omega) (by omega) (by omega) (by omega)
  | false =>
   cases h23:((z7 yW n).l).isEmpty with
   | true =>
    exact ih (xk+1) (zn yX) (zj yX) (by omega) (by omega) (by omega) (by omega)
   | false =>
    exact ivt_ranges_each_3p4c r n _ (xk+1) ((z7 yW n).l) (zn yX) (zj yX) (by omega) (by omega) (by omega) (by omega) (by omega)
def ranges_each_3p4_l_o1 (n:Int) (yW:Sn):List Ora:=[.dec true,.el (.agg [I yW.lo,I yW.hi]),.pureS (.sl ((z7 yW n).nl) (((z7 yW n).l).map Sn.D) (zsl ((z7 yW n).nl) 2) none) true []]
def ranges_each_3p4_l_o2 (n:Int) (yW:Sn):List Ora:=[.dec true,.el (.agg [I yW.lo,I yW.hi]),.pureS (.sl ((z7 yW n).nl) (((z7 yW n).l).map Sn.D) (zsl ((z7 yW n).nl) 2) none) false []]
theorem lp_ranges_each_3p4 (r:GS Sn) (n:Int):∀ (yU:List Sn) (xk:Nat) (yX:r.l.drop xk=yU) (xK:xk≤r.l.length) (hB:∀ x∈r.l,-1099511627776≤x.lo∧x.lo≤x.hi∧x.hi≤1099511627776) (xQ:r.l.length≤64) (hn:1≤n∧n≤10000) (hL3p4:r.l.length≤1099511627776),(lim cfg).loop 70 lp70_3 ⟨21,[(1,.fn (.func 106) [] [.lref 0 0 1 0]),(5,.sl true [] 0 none),(8,.sl r.nl (r.l.map Sn.D) (zsl r.nl 2) none),(9,I ((r.l.length:Nat):Int)),(10,I ((xk:Nat):Int))],[(0,⟨[I n],1,false⟩)],1,1⟩=some (lr_ranges_each_3p4 r n (ranges_each_3p4 n yU)):=by
 intro yU
 induction yU with
 | nil =>
  intro xk yX xK hB xQ hn hL3p4
  unfold ranges_each_3p4
  obtain rfl:xk=r.l.length:=nil_eq yX xK
  exact yc [.dec false] (Ai (lt_no yX) trivial) (by kernel_rfl)
 | cons yW yU ih =>
  intro xk yX xK hB xQ hn hL3p4
  have hlt3p4:=zj yX
  have hbx:=hB yW (mem_drop yX)
  have hlx:=rests1_len yW n
  unfold ranges_each_3p4
  have p1:=(el_at (s:=r) (f:=Sn.D) (k:=2) yX)
  cases h24:(z7 yW n).nl with
  | true =>
   have p2:=(Ai (show flat fuelD (.sl ((z7 yW n).nl) (((z7 yW n).l).map Sn.D) (zsl ((z7 yW n).nl) 2) none)=true from (by rw [h24] <;> kernel_rfl)) (Ai (trivial) (ym yW n (by omega) (by omega))))
   cases h25:((z7 yW n).l).isEmpty with
   | true =>
    exact po_turn ((ranges_each_3p4_l_o1 n yW)++[.op (some 18) ⟨.sl true [] 0 none,[],[],2⟩,.rw 19 (I ((xk+1:Nat):Int))]) (Ai (ya (i:=xk) (by have:=zj yX; omega)) (Ai (app_none (te:=yl) (gO:=zB [(0,⟨[I n],1,false⟩),(1,⟨[.agg [I yW.lo,I yW.hi]],2,false⟩)]) (nxt:=2) (f:=Sn.D) (sz:=2) (d:=.sl true [] 0 none) (z7 yW n) h25 rfl) (Ai p2 (Ai p1 (Ai (yy yX) trivial))))) (ih (xk+1) (zn yX) (zj yX) (by omega) (by omega) (by omega) (by omega)) (by kernel_rfl)
   | false =>
    exact zR (ks:=[1,5,8,9,10]) (st':=(sd40141 2 0 1 3 xk yW n r)) ((ranges_each_3p4_l_o1 n yW)++[.op (some 18) ⟨.lsl 2 0 (((z7 yW n).l).length) 2 none,[(2,some ⟨((z7 yW n).l).map Sn.D,2,false⟩)],[],3⟩,.rw 19 (I ((xk+1:Nat):Int))]) (Ai (ya (i:=xk) (by have:=zj yX; omega)) (Ai (app_newD (te:=yl) (gO:=zB [(0,⟨[I n],1,false⟩),(1,⟨[.agg [I yW.lo,I yW.hi]],2,false⟩)]) (nxt:=2) (els0:=[]) (sz0:=0) (cap0:=none) z6 (z7 yW n) h25 rfl (by kernel_rfl) (by decide) ⟨by simp only [yl,big] <;> (omega),by simp only [big] <;> (omega)⟩) (Ai p2 (Ai p1 (Ai (yy yX) trivial))))) (by kernel_rfl) (by (simp only [sd40141,go_sem,List.length_set,Nat.reduceAdd,Nat.reduceEqDiff,Nat.reduceLT,Nat.reduceLeDiff,bI2,zb.idsL,zb.renL,zb.snapAll,z6.idsL,z6.renL,z6.snapAll]) <;> rfl) (lp_ranges_each_3p4a r n _ (xk+1) ((z7 yW n).l) (zn yX) (zj yX) (by omega) (by omega) (by omega) (by omega) (by omega)) (by kernel_rfl)
  | false =>
   have p3:=(Ai (show flat fuelD (.sl ((z7 yW n).nl) (((z7 yW n).l).map Sn.D) (zsl ((z7 yW n).nl) 2) none)=false from (by rw [h24] <;> kernel_rfl)) (Ai (trivial) (ym yW n (by omega) (by omega))))
   cases h26:((z7 yW n).l).isEmpty with
   | true =>
    exact po_turn ((ranges_each_3p4_l_o2 n yW)++[.op (some 18) ⟨.sl true [] 0 none,[],[],2⟩,.rw 19 (I ((xk+1:Nat):Int))]) (Ai (ya (i:=xk) (by have:=zj yX; omega)) (Ai (app_none (te:=yl) (gO:=zB [(0,⟨[I n],1,true⟩),(1,⟨[.agg [I yW.lo,I yW.hi]],2,false⟩)]) (nxt:=2) (f:=Sn.D) (sz:=2) (d:=.sl true [] 0 none) (z7 yW n) h26 rfl) (Ai p3 (Ai p1 (Ai (yy yX) trivial))))) (lp_ranges_each_3p4b r n _ (xk+1) (zn yX) (zj yX) (by omega) (by omega) (by omega) (by omega)) (by kernel_rfl)
   | false =>
    exact zR (ks:=[1,5,8,9,10]) (st':=(sd40140 2 0 1 3 xk yW n r)) ((ranges_each_3p4_l_o2 n yW)++[.op (some 18) ⟨.lsl 2 0 (((z7 yW n).l).length) 2 none,[(2,some ⟨((z7 yW n).l).map Sn.D,2,false⟩)],[],3⟩,.rw 19 (I ((xk+1:Nat):Int))]) (Ai (ya (i:=xk) (by have:=zj yX; omega)) (Ai (app_newD (te:=yl) (gO:=zB [(0,⟨[I n],1,true⟩),(1,⟨[.agg [I yW.lo,I yW.hi]],2,false⟩)]) (nxt:=2) (els0:=[]) (sz0:=0) (cap0:=none) z6 (z7 yW n) h26 rfl (by kernel_rfl) (by decide) ⟨by simp only [yl,big] <;> (omega),by simp only [big] <;> (omega)⟩) (Ai p3 (Ai p1 (Ai (yy yX) trivial))))) (by kernel_rfl) (by (simp only [sd40140,go_sem,List.length_set,Nat.reduceAdd,Nat.reduceEqDiff,Nat.reduceLT,Nat.reduceLeDiff,bI2,zb.idsL,zb.renL,zb.snapAll,z6.idsL,z6.renL,z6.snapAll]) <;> rfl) (lp_ranges_each_3p4c r n _ (xk+1) ((z7 yW n).l) (zn yX) (zj yX) (by omega) (by omega) (by omega) (by omega) (by omega)) (by kernel_rfl)
theorem ivt_ranges_each_3p4 (r:GS Sn) (n:Int):∀ (yU:List Sn) (xk:Nat) (yX:r.l.drop xk=yU) (xK:xk≤r.l.length) (hB:∀ x∈r.l,-1099511627776≤x.lo∧x.lo≤x.hi∧x.hi≤1099511627776) (xQ:r.l.length≤64) (hn:1≤n∧n≤10000) (hL3p4:r.l.length≤1099511627776),iv_ranges_each_3p4 r n (ranges_each_3p4 n yU):=by
 intro yU
 induction yU with
 | nil =>
  intro xk yX xK hB xQ hn hL3p4
  unfold ranges_each_3p4
  obtain rfl:xk=r.l.length:=nil_eq yX xK
  exact trivial
 | cons yW yU ih =>
  intro xk yX xK hB xQ hn hL3p4
  have hlt3p4:=zj yX
  have hbx:=hB yW (mem_drop yX)
  have hlx:=rests1_len yW n
  unfold ranges_each_3p4
  cases h24:(z7 yW n).nl with
  | true =>
   cases h25:((z7 yW n).l).isEmpty with
   | true =>
    exact ih (xk+1) (zn yX) (zj yX) (by omega) (by omega) (by omega) (by omega)
   | false =>
    exact ivt_ranges_each_3p4a r n _ (xk+1) ((z7 yW n).l) (zn yX) (zj yX) (by omega) (by omega) (by omega) (by omega) (by omega)
  | false =>
   cases h26:((z7 yW n).l).isEmpty with
   | true =>
    exact ivt_ranges_each_3p4b r n _ (xk+1) (zn yX) (zj yX) (by omega) (by omega) (by omega) (by omega)
   | false =>
    exact ivt_ranges_each_3p4c r n _ (xk+1) ((z7 yW n).l) (zn yX) (zj yX) (by omega) (by omega) (by omega) (by omega) (by omega)

def yf (r:GS Sn) (n:Int):(GS Sn) × Int :=
 bif ((zz r) != 0) then
  (GS.nil,(zz r))
 else
  bif (yu n 1 10000) then
   match ranges_each_3p4 n r.l with
   | .x0 yM =>
    match zD (zo zm yM) 0 with
    | .x0 yI =>
     bif decide (((yI.length:Nat):Int) > 64) then
      (GS.nil,2)
     else
      (GS.some yI,0)
    | .x1 xf yP yI =>
     (GS.nil,2)
    | .x2 xf yP yI =>
     (GS.nil,2)
    | .x3 =>
     (GS.nil,0)
    | .x4 xf yP =>
     (GS.nil,2)
    | .x5 xf yP =>
     (GS.nil,2)
   | .x1 yL =>
    match zD (zo zm yL) 0 with
    | .x0 yI =>
     bif decide (((yI.length:Nat):Int) > 64) then
      (GS.nil,2)
     else
      (GS.some yI,0)
    | .x1 xf yP yI =>
     (GS.nil,2)
    | .x2 xf yP yI =>
     (GS.nil,2)
    | .x3 =>
     (GS.nil,0)
    | .x4 xf yP =>
     (GS.nil,2)
    | .x5 xf yP =>
     (GS.nil,2)
   | .x2 =>
    (GS.nil,0)
   | .x3 =>
    (GS.nil,0)
  else
   (GS.nil,1)

def ranges_Rest_o1 (r:GS Sn) (n:Int) (yM:List Sn):List Ora:=[.pure (I (zz r)),.dec false,.pure (B (yu n 1 10000)),.dec true,.inl (.lsl 1 0 yM.length 2 none) [(0,⟨[I n],1,true⟩),(1,⟨yM.map Sn.D,2,false⟩)] 2]

def ranges_Rest_o2 (r:GS Sn) (n:Int) (yL:List Sn):List Ora:=[.pure (I (zz r)),.dec false,.pure (B (yu n 1 10000)),.dec true,.inl (.lsl 1 0 yL.length 2 none) [(0,⟨[I n],1,false⟩),(1,⟨yL.map Sn.D,2,false⟩)] 2]

theorem T_ranges_Rest (r:GS Sn) (n:Int) (hLr:r.l.length≤9223372036854775807) (hL_r:r.l.length≤9223372036854775807):(lim cfg).pure 24 [GS.D Sn.D 2 r,I n]=some (.tup [GS.D Sn.D 2 ((yf r n).1),I ((yf r n).2)]):=by
 unfold yf
 cases h1:((zz r) != 0) with
 | true =>
  have g1:=bne_true h1
  exact zu [.pure (I (zz r)),.dec true] (Ai h1 (Ai (zi r (by omega)) trivial)) (by kernel_rfl)
 | false =>
  obtain ⟨g1,gb1⟩:=chk1 (bne_false h1)
  cases h2:(yu n 1 10000) with
  | true =>
   have hn:=in_iff.1 h2
   cases h27:ranges_each_3p4 n r.l with
   | x0 yM =>
    try dsimp only
    have hv_h27:=ivt_ranges_each_3p4 r n r.l 0 (List.drop_zero) (Nat.zero_le _) (by omega) (by omega) (by omega) (by omega)
    rw [h27] at hv_h27
    have hv_h27_0:=hv_h27
    try dsimp only [iv_ranges_each_3p4] at hv_h27_0
    have p1:=(show (lim cfg).inl 82 [.sl r.nl (r.l.map Sn.D) (zsl r.nl 2) none,I n] [] 0=some (.lsl 1 0 yM.length 2 none,[(0,⟨[I n],1,true⟩),(1,⟨yM.map Sn.D,2,false⟩)],2) from zH [.inl (.lsl 1 0 yM.length 2 none) [(0,⟨[I n],1,true⟩),(1,⟨yM.map Sn.D,2,false⟩)] 2] (Ai (show (lim cfg).inl 70 [.sl r.nl (r.l.map Sn.D) (zsl r.nl 2) none,.fn (.func 106) [] [.lref 0 0 1 0]] [(0,⟨[I n],1,false⟩)] 1=some (.lsl 1 0 yM.length 2 none,[(0,⟨[I n],1,true⟩),(1,⟨yM.map Sn.D,2,false⟩)],2) from zH [.rw 9 (I ((r.l.length:Nat):Int)),.loop (.exit 0) (sd40132 0 1 2 yM r n)] (Ai (zY (q:=lr_ranges_each_3p4 r n) (lp_ranges_each_3p4 r n r.l 0 (List.drop_zero) (Nat.zero_le _) (by omega) (by omega) (by omega) (by omega)) h27) (Ai (zO Sn.D r) trivial)) (by kernel_rfl)) trivial) (by kernel_rfl))
    cases h28:zD (zo zm yM) 0 with
    | x0 yI =>
     try dsimp only
     have xS:=zI yM (zo zm yM) (zo zm yM) 0 (List.drop_zero) (Nat.zero_le _) (by simp only [zK,GS.some_l,List.length_set,List.length_append,List.length_cons,List.length_nil] at * <;> first | with_reducible assumption | omega) (by simp only [zK,GS.some_l,List.length_set,List.length_append,List.length_cons,List.length_nil] at * <;> first | with_reducible assumption | omega)
     rw [h28] at xS
     obtain ⟨xN,hv_h28_1⟩:=xS
     try dsimp only [zt] at xN
     try dsimp only [zt] at hv_h28_1
     cases h29:decide (((yI.length:Nat):Int) > 64) with
     | true =>
      have g29:=of_decide_eq_true h29
      exact zu ((ranges_Rest_o1 r n yM)++[.inlS [1] (.tup [.sl true [] 0 none,I 2]) [(1,⟨(zo zm yM).map Sn.D,2,false⟩),(2,⟨yI.map Sn.D,2,false⟩)] 3]) (Ai (Ai (show ze [(0,⟨[I n],1,true⟩),(1,⟨yM.map Sn.D,2,false⟩)] 256 [1] []=some [1] from (by (simp only [ze,go_sem,List.length_set,Nat.reduceAdd,Nat.reduceEqDiff,Nat.reduceLT,Nat.reduceLeDiff,bI2,zb.idsL,zb.renL,zb.snapAll,z6.idsL,z6.renL,z6.snapAll]) <;> rfl)) (show (lim cfg).inl 69 [.lsl 1 0 yM.length 2 none] [(1,⟨yM.map Sn.D,2,false⟩)] 2=some (.tup [.sl true [] 0 none,I 2],[(1,⟨(zo zm yM).map Sn.D,2,false⟩),(2,⟨yI.map Sn.D,2,false⟩)],3) from zH [.inlS [1] (.tup []) [(1,⟨(zo zm yM).map Sn.D,2,false⟩)] 2,.gloop (zG 1 2 yM) (.exit 0) (sd40116 2 1 3 yI yM),.dec true] (Ai h29 (Ai (zY (q:=zp yM (zo zm yM)) (lp_ranges_gathered_4p1 yM (zo zm yM) (zo zm yM) 0 (List.drop_zero) (Nat.zero_le _) (by simp only [zK,GS.some_l,List.length_set,List.length_append,List.length_cons,List.length_nil] at * <;> first | with_reducible assumption | omega) (by simp only [zK,GS.some_l,List.length_set,List.length_append,List.length_cons,List.length_nil] at * <;> first | with_reducible assumption | omega)) h28) (Ai (gc_of (C:=cfg) (f:=69) (a:=lp69_4) (ks:=[4,10,11,12]) (st:=(y9 1 2 yM)) (st1:=(zG 1 2 yM)) (by kernel_rfl) (by (simp only [y9,zG,go_sem,List.length_set,Nat.reduceAdd,Nat.reduceEqDiff,Nat.reduceLT,Nat.reduceLeDiff,bI2,zb.idsL,zb.renL,zb.snapAll,z6.idsL,z6.renL,z6.snapAll]) <;> rfl)) (Ai (Ai (show ze [(1,⟨yM.map Sn.D,2,false⟩)] 256 [1] []=some [1] from (by (simp only [ze,go_sem,List.length_set,Nat.reduceAdd,Nat.reduceEqDiff,Nat.reduceLT,Nat.reduceLeDiff,bI2,zb.idsL,zb.renL,zb.snapAll,z6.idsL,z6.renL,z6.snapAll]) <;> rfl)) (yq 1 2 none yM (by omega))) trivial)))) (by kernel_rfl))) (Ai p1 (Ai h2 (Ai (zC n 1 10000) (Ai h1 (Ai (zi r (by omega)) trivial)))))) (by kernel_rfl)
     | false =>
      have g29:=of_decide_eq_false h29
      exact po_pureS ((ranges_Rest_o1 r n yM)++[.inlS [1] (.tup [.lsl 2 0 yI.length 2 none,I 0]) [(1,⟨(zo zm yM).map Sn.D,2,false⟩),(2,⟨yI.map Sn.D,2,false⟩)] 3]) [(2,.sl false (yI.map Sn.D) 2 none,[2])] (Ai (snap_row (gO:=zB [(0,⟨[I n],1,true⟩),(1,⟨(zo zm yM).map Sn.D,2,false⟩),(2,⟨yI.map Sn.D,2,false⟩)]) (o:=2) (len:=yI.length) (cap:=none) (fz:=false) z6 yI (by kernel_rfl) (by omega)) (Ai (Ai (show ze [(0,⟨[I n],1,true⟩),(1,⟨yM.map Sn.D,2,false⟩)] 256 [1] []=some [1] from (by (simp only [ze,go_sem,List.length_set,Nat.reduceAdd,Nat.reduceEqDiff,Nat.reduceLT,Nat.reduceLeDiff,bI2,zb.idsL,zb.renL,zb.snapAll,z6.idsL,z6.renL,z6.snapAll]) <;> rfl)) (show (lim cfg).inl 69 [.lsl 1 0 yM.length 2 none] [(1,⟨yM.map Sn.D,2,false⟩)] 2=some (.tup [.lsl 2 0 yI.length 2 none,I 0],[(1,⟨(zo zm yM).map Sn.D,2,false⟩),(2,⟨yI.map Sn.D,2,false⟩)],3) from zH [.inlS [1] (.tup []) [(1,⟨(zo zm yM).map Sn.D,2,false⟩)] 2,.gloop (zG 1 2 yM) (.exit 0) (sd40116 2 1 3 yI yM),.dec false] (Ai h29 (Ai (zY (q:=zp yM (zo zm yM)) (lp_ranges_gathered_4p1 yM (zo zm yM) (zo zm yM) 0 (List.drop_zero) (Nat.zero_le _) (by simp only [zK,GS.some_l,List.length_set,List.length_append,List.length_cons,List.length_nil] at * <;> first | with_reducible assumption | omega) (by simp only [zK,GS.some_l,List.length_set,List.length_append,List.length_cons,List.length_nil] at * <;> first | with_reducible assumption | omega)) h28) (Ai (gc_of (C:=cfg) (f:=69) (a:=lp69_4) (ks:=[4,10,11,12]) (st:=(y9 1 2 yM)) (st1:=(zG 1 2 yM)) (by kernel_rfl) (by (simp only [y9,zG,go_sem,List.length_set,Nat.reduceAdd,Nat.reduceEqDiff,Nat.reduceLT,Nat.reduceLeDiff,bI2,zb.idsL,zb.renL,zb.snapAll,z6.idsL,z6.renL,z6.snapAll]) <;> rfl)) (Ai (Ai (show ze [(1,⟨yM.map Sn.D,2,false⟩)] 256 [1] []=some [1] from (by (simp only [ze,go_sem,List.length_set,Nat.reduceAdd,Nat.reduceEqDiff,Nat.reduceLT,Nat.reduceLeDiff,bI2,zb.idsL,zb.renL,zb.snapAll,z6.idsL,z6.renL,z6.snapAll]) <;> rfl)) (yq 1 2 none yM (by omega))) trivial)))) (by kernel_rfl))) (Ai p1 (Ai h2 (Ai (zC n 1 10000) (Ai h1 (Ai (zi r (by omega)) trivial))))))) (by kernel_rfl)
    | x1 xf yP yI =>
     try dsimp only
     have xS:=zI yM (zo zm yM) (zo zm yM) 0 (List.drop_zero) (Nat.zero_le _) (by simp only [zK,GS.some_l,List.length_set,List.length_append,List.length_cons,List.length_nil] at * <;> first | with_reducible assumption | omega) (by simp only [zK,GS.some_l,List.length_set,List.length_append,List.length_cons,List.length_nil] at * <;> first | with_reducible assumption | omega)
     rw [h28] at xS
     obtain ⟨xN,hv_h28_1⟩:=xS
     try dsimp only [zt] at xN
     try dsimp only [zt] at hv_h28_1
     exact zu ((ranges_Rest_o1 r n yM)++[.inlS [1] (.tup [.sl true [] 0 none,I 2]) [(1,⟨(zo zm yM).map Sn.D,2,false⟩),(2,⟨yI.map Sn.D,2,false⟩),(3,⟨[.agg [I yP.lo,I yP.hi]],2,false⟩)] 4]) (Ai (Ai (show ze [(0,⟨[I n],1,true⟩),(1,⟨yM.map Sn.D,2,false⟩)] 256 [1] []=some [1] from (by (simp only [ze,go_sem,List.length_set,Nat.reduceAdd,Nat.reduceEqDiff,Nat.reduceLT,Nat.reduceLeDiff,bI2,zb.idsL,zb.renL,zb.snapAll,z6.idsL,z6.renL,z6.snapAll]) <;> rfl)) (show (lim cfg).inl 69 [.lsl 1 0 yM.length 2 none] [(1,⟨yM.map Sn.D,2,false⟩)] 2=some (.tup [.sl true [] 0 none,I 2],[(1,⟨(zo zm yM).map Sn.D,2,false⟩),(2,⟨yI.map Sn.D,2,false⟩),(3,⟨[.agg [I yP.lo,I yP.hi]],2,false⟩)],4) from zH [.inlS [1] (.tup []) [(1,⟨(zo zm yM).map Sn.D,2,false⟩)] 2,.gloop (zG 1 2 yM) .ret (sd40117 3 1 2 4 yP xf yI yM)] (Ai (zY (q:=zp yM (zo zm yM)) (lp_ranges_gathered_4p1 yM (zo zm yM) (zo zm yM) 0 (List.drop_zero) (Nat.zero_le _) (by simp only [zK,GS.some_l,List.length_set,List.length_append,List.length_cons,List.length_nil] at * <;> first | with_reducible assumption | omega) (by simp only [zK,GS.some_l,List.length_set,List.length_append,List.length_cons,List.length_nil] at * <;> first | with_reducible assumption | omega)) h28) (Ai (gc_of (C:=cfg) (f:=69) (a:=lp69_4) (ks:=[4,10,11,12]) (st:=(y9 1 2 yM)) (st1:=(zG 1 2 yM)) (by kernel_rfl) (by (simp only [y9,zG,go_sem,List.length_set,Nat.reduceAdd,Nat.reduceEqDiff,Nat.reduceLT,Nat.reduceLeDiff,bI2,zb.idsL,zb.renL,zb.snapAll,z6.idsL,z6.renL,z6.snapAll]) <;> rfl)) (Ai (Ai (show ze [(1,⟨yM.map Sn.D,2,false⟩)] 256 [1] []=some [1] from (by (simp only [ze,go_sem,List.length_set,Nat.reduceAdd,Nat.reduceEqDiff,Nat.reduceLT,Nat.reduceLeDiff,bI2,zb.idsL,zb.renL,zb.snapAll,z6.idsL,z6.renL,z6.snapAll]) <;> rfl)) (yq 1 2 none yM (by omega))) trivial))) (by kernel_rfl))) (Ai p1 (Ai h2 (Ai (zC n 1 10000) (Ai h1 (Ai (zi r (by omega)) trivial)))))) (by kernel_rfl)
    | x2 xf yP yI =>
     try dsimp only
     have xS:=zI yM (zo zm yM) (zo zm yM) 0 (List.drop_zero) (Nat.zero_le _) (by simp only [zK,GS.some_l,List.length_set,List.length_append,List.length_cons,List.length_nil] at * <;> first | with_reducible assumption | omega) (by simp only [zK,GS.some_l,List.length_set,List.length_append,List.length_cons,List.length_nil] at * <;> first | with_reducible assumption | omega)
     rw [h28] at xS
     obtain ⟨xN,hv_h28_1⟩:=xS
     try dsimp only [zt] at xN
     try dsimp only [zt] at hv_h28_1
     exact zu ((ranges_Rest_o1 r n yM)++[.inlS [1] (.tup [.sl true [] 0 none,I 2]) [(1,⟨(zo zm yM).map Sn.D,2,false⟩),(2,⟨yI.map Sn.D,2,false⟩),(3,⟨[.agg [I yP.lo,I yP.hi]],2,false⟩)] 4]) (Ai (Ai (show ze [(0,⟨[I n],1,true⟩),(1,⟨yM.map Sn.D,2,false⟩)] 256 [1] []=some [1] from (by (simp only [ze,go_sem,List.length_set,Nat.reduceAdd,Nat.reduceEqDiff,Nat.reduceLT,Nat.reduceLeDiff,bI2,zb.idsL,zb.renL,zb.snapAll,z6.idsL,z6.renL,z6.snapAll]) <;> rfl)) (show (lim cfg).inl 69 [.lsl 1 0 yM.length 2 none] [(1,⟨yM.map Sn.D,2,false⟩)] 2=some (.tup [.sl true [] 0 none,I 2],[(1,⟨(zo zm yM).map Sn.D,2,false⟩),(2,⟨yI.map Sn.D,2,false⟩),(3,⟨[.agg [I yP.lo,I yP.hi]],2,false⟩)],4) from zH [.inlS [1] (.tup []) [(1,⟨(zo zm yM).map Sn.D,2,false⟩)] 2,.gloop (zG 1 2 yM) .ret (sd40118 3 1 2 4 yP xf yI yM)] (Ai (zY (q:=zp yM (zo zm yM)) (lp_ranges_gathered_4p1 yM (zo zm yM) (zo zm yM) 0 (List.drop_zero) (Nat.zero_le _) (by simp only [zK,GS.some_l,List.length_set,List.length_append,List.length_cons,List.length_nil] at * <;> first | with_reducible assumption | omega) (by simp only [zK,GS.some_l,List.length_set,List.length_append,List.length_cons,List.length_nil] at * <;> first | with_reducible assumption | omega)) h28) (Ai (gc_of (C:=cfg) (f:=69) (a:=lp69_4) (ks:=[4,10,11,12]) (st:=(y9 1 2 yM)) (st1:=(zG 1 2 yM)) (by kernel_rfl) (by (simp only [y9,zG,go_sem,List.length_set,Nat.reduceAdd,Nat.reduceEqDiff,Nat.reduceLT,Nat.reduceLeDiff,bI2,zb.idsL,zb.renL,zb.snapAll,z6.idsL,z6.renL,z6.snapAll]) <;> rfl)) (Ai (Ai (show ze [(1,⟨yM.map Sn.D,2,false⟩)] 256 [1] []=some [1] from (by (simp only [ze,go_sem,List.length_set,Nat.reduceAdd,Nat.reduceEqDiff,Nat.reduceLT,Nat.reduceLeDiff,bI2,zb.idsL,zb.renL,zb.snapAll,z6.idsL,z6.renL,z6.snapAll]) <;> rfl)) (yq 1 2 none yM (by omega))) trivial))) (by kernel_rfl))) (Ai p1 (Ai h2 (Ai (zC n 1 10000) (Ai h1 (Ai (zi r (by omega)) trivial)))))) (by kernel_rfl)
    | x3 =>
     try dsimp only
     exact zu ((ranges_Rest_o1 r n yM)++[.inlS [1] (.tup [.sl true [] 0 none,I 0]) [(1,⟨(zo zm yM).map Sn.D,2,false⟩)] 2]) (Ai (Ai (show ze [(0,⟨[I n],1,true⟩),(1,⟨yM.map Sn.D,2,false⟩)] 256 [1] []=some [1] from (by (simp only [ze,go_sem,List.length_set,Nat.reduceAdd,Nat.reduceEqDiff,Nat.reduceLT,Nat.reduceLeDiff,bI2,zb.idsL,zb.renL,zb.snapAll,z6.idsL,z6.renL,z6.snapAll]) <;> rfl)) (show (lim cfg).inl 69 [.lsl 1 0 yM.length 2 none] [(1,⟨yM.map Sn.D,2,false⟩)] 2=some (.tup [.sl true [] 0 none,I 0],[(1,⟨(zo zm yM).map Sn.D,2,false⟩)],2) from zH [.inlS [1] (.tup []) [(1,⟨(zo zm yM).map Sn.D,2,false⟩)] 2,.gloop (zG 1 2 yM) (.exit 0) (sd40119 1 2 yM),.dec false] (Ai (Eq.refl false) (Ai (zY (q:=zp yM (zo zm yM)) (lp_ranges_gathered_4p1 yM (zo zm yM) (zo zm yM) 0 (List.drop_zero) (Nat.zero_le _) (by simp only [zK,GS.some_l,List.length_set,List.length_append,List.length_cons,List.length_nil] at * <;> first | with_reducible assumption | omega) (by simp only [zK,GS.some_l,List.length_set,List.length_append,List.length_cons,List.length_nil] at * <;> first | with_reducible assumption | omega)) h28) (Ai (gc_of (C:=cfg) (f:=69) (a:=lp69_4) (ks:=[4,10,11,12]) (st:=(y9 1 2 yM)) (st1:=(zG 1 2 yM)) (by kernel_rfl) (by (simp only [y9,zG,go_sem,List.length_set,Nat.reduceAdd,Nat.reduceEqDiff,Nat.reduceLT,Nat.reduceLeDiff,bI2,zb.idsL,zb.renL,zb.snapAll,z6.idsL,z6.renL,z6.snapAll]) <;> rfl)) (Ai (Ai (show ze [(1,⟨yM.map Sn.D,2,false⟩)] 256 [1] []=some [1] from (by (simp only [ze,go_sem,List.length_set,Nat.reduceAdd,Nat.reduceEqDiff,Nat.reduceLT,Nat.reduceLeDiff,bI2,zb.idsL,zb.renL,zb.snapAll,z6.idsL,z6.renL,z6.snapAll]) <;> rfl)) (yq 1 2 none yM (by omega))) trivial)))) (by kernel_rfl))) (Ai p1 (Ai h2 (Ai (zC n 1 10000) (Ai h1 (Ai (zi r (by omega)) trivial)))))) (by kernel_rfl)
    | x4 xf yP =>
     try dsimp only
     exact zu ((ranges_Rest_o1 r n yM)++[.inlS [1] (.tup [.sl true [] 0 none,I 2]) [(1,⟨(zo zm yM).map Sn.D,2,false⟩),(2,⟨[.agg [I yP.lo,I yP.hi]],2,false⟩)] 3]) (Ai (Ai (show ze [(0,⟨[I n],1,true⟩),(1,⟨yM.map Sn.D,2,false⟩)] 256 [1] []=some [1] from (by (simp only [ze,go_sem,List.length_set,Nat.reduceAdd,Nat.reduceEqDiff,Nat.reduceLT,Nat.reduceLeDiff,bI2,zb.idsL,zb.renL,zb.snapAll,z6.idsL,z6.renL,z6.snapAll]) <;> rfl)) (show (lim cfg).inl 69 [.lsl 1 0 yM.length 2 none] [(1,⟨yM.map Sn.D,2,false⟩)] 2=some (.tup [.sl true [] 0 none,I 2],[(1,⟨(zo zm yM).map Sn.D,2,false⟩),(2,⟨[.agg [I yP.lo,I yP.hi]],2,false⟩)],3) from zH [.inlS [1] (.tup []) [(1,⟨(zo zm yM).map Sn.D,2,false⟩)] 2,.gloop (zG 1 2 yM) .ret (sd40120 2 1 3 yP xf yM)] (Ai (zY (q:=zp yM (zo zm yM)) (lp_ranges_gathered_4p1 yM (zo zm yM) (zo zm yM) 0 (List.drop_zero) (Nat.zero_le _) (by simp only [zK,GS.some_l,List.length_set,List.length_append,List.length_cons,List.length_nil] at * <;> first | with_reducible assumption | omega) (by simp only [zK,GS.some_l,List.length_set,List.length_append,List.length_cons,List.length_nil] at * <;> first | with_reducible assumption | omega)) h28) (Ai (gc_of (C:=cfg) (f:=69) (a:=lp69_4) (ks:=[4,10,11,12]) (st:=(y9 1 2 yM)) (st1:=(zG 1 2 yM)) (by kernel_rfl) (by (simp only [y9,zG,go_sem,List.length_set,Nat.reduceAdd,Nat.reduceEqDiff,Nat.reduceLT,Nat.reduceLeDiff,bI2,zb.idsL,zb.renL,zb.snapAll,z6.idsL,z6.renL,z6.snapAll]) <;> rfl)) (Ai (Ai (show ze [(1,⟨yM.map Sn.D,2,false⟩)] 256 [1] []=some [1] from (by (simp only [ze,go_sem,List.length_set,Nat.reduceAdd,Nat.reduceEqDiff,Nat.reduceLT,Nat.reduceLeDiff,bI2,zb.idsL,zb.renL,zb.snapAll,z6.idsL,z6.renL,z6.snapAll]) <;> rfl)) (yq 1 2 none yM (by omega))) trivial))) (by kernel_rfl))) (Ai p1 (Ai h2 (Ai (zC n 1 10000) (Ai h1 (Ai (zi r (by omega)) trivial)))))) (by kernel_rfl)
    | x5 xf yP =>
     try dsimp only
     exact zu ((ranges_Rest_o1 r n yM)++[.inlS [1] (.tup [.sl true [] 0 none,I 2]) [(1,⟨(zo zm yM).map Sn.D,2,false⟩),(2,⟨[.agg [I yP.lo,I yP.hi]],2,false⟩)] 3]) (Ai (Ai (show ze [(0,⟨[I n],1,true⟩),(1,⟨yM.map Sn.D,2,false⟩)] 256 [1] []=some [1] from (by (simp only [ze,go_sem,List.length_set,Nat.reduceAdd,Nat.reduceEqDiff,Nat.reduceLT,Nat.reduceLeDiff,bI2,zb.idsL,zb.renL,zb.snapAll,z6.idsL,z6.renL,z6.snapAll]) <;> rfl)) (show (lim cfg).inl 69 [.lsl 1 0 yM.length 2 none] [(1,⟨yM.map Sn.D,2,false⟩)] 2=some (.tup [.sl true [] 0 none,I 2],[(1,⟨(zo zm yM).map Sn.D,2,false⟩),(2,⟨[.agg [I yP.lo,I yP.hi]],2,false⟩)],3) from zH [.inlS [1] (.tup []) [(1,⟨(zo zm yM).map Sn.D,2,false⟩)] 2,.gloop (zG 1 2 yM) .ret (sd40121 2 1 3 yP xf yM)] (Ai (zY (q:=zp yM (zo zm yM)) (lp_ranges_gathered_4p1 yM (zo zm yM) (zo zm yM) 0 (List.drop_zero) (Nat.zero_le _) (by simp only [zK,GS.some_l,List.length_set,List.length_append,List.length_cons,List.length_nil] at * <;> first | with_reducible assumption | omega) (by simp only [zK,GS.some_l,List.length_set,List.length_append,List.length_cons,List.length_nil] at * <;> first | with_reducible assumption | omega)) h28) (Ai (gc_of (C:=cfg) (f:=69) (a:=lp69_4) (ks:=[4,10,11,12]) (st:=(y9 1 2 yM)) (st1:=(zG 1 2 yM)) (by kernel_rfl) (by (simp only [y9,zG,go_sem,List.length_set,Nat.reduceAdd,Nat.reduceEqDiff,Nat.reduceLT,Nat.reduceLeDiff,bI2,zb.idsL,zb.renL,zb.snapAll,z6.idsL,z6.renL,z6.snapAll]) <;> rfl)) (Ai (Ai (show ze [(1,⟨yM.map Sn.D,2,false⟩)] 256 [1] []=some [1] from (by (simp only [ze,go_sem,List.length_set,Nat.reduceAdd,Nat.reduceEqDiff,Nat.reduceLT,Nat.reduceLeDiff,bI2,zb.idsL,zb.renL,zb.snapAll,z6.idsL,z6.renL,z6.snapAll]) <;> rfl)) (yq 1 2 none yM (by omega))) trivial))) (by kernel_rfl))) (Ai p1 (Ai h2 (Ai (zC n 1 10000) (Ai h1 (Ai (zi r (by omega)) trivial)))))) (by kernel_rfl)
   | x1 yL =>
    try dsimp only
    have hv_h27:=ivt_ranges_each_3p4 r n r.l 0 (List.drop_zero) (Nat.zero_le _) (by omega) (by omega) (by omega) (by omega)
    rw [h27] at hv_h27
    have hv_h27_0:=hv_h27
    try dsimp only [iv_ranges_each_3p4] at hv_h27_0
    have p2:=(show (lim cfg).inl 82 [.sl r.nl (r.l.map Sn.D) (zsl r.nl 2) none,I n] [] 0=some (.lsl 1 0 yL.length 2 none,[(0,⟨[I n],1,false⟩),(1,⟨yL.map Sn.D,2,false⟩)],2) from zH [.inl (.lsl 1 0 yL.length 2 none) [(0,⟨[I n],1,false⟩),(1,⟨yL.map Sn.D,2,false⟩)] 2] (Ai (show (lim cfg).inl 70 [.sl r.nl (r.l.map Sn.D) (zsl r.nl 2) none,.fn (.func 106) [] [.lref 0 0 1 0]] [(0,⟨[I n],1,false⟩)] 1=some (.lsl 1 0 yL.length 2 none,[(0,⟨[I n],1,false⟩),(1,⟨yL.map Sn.D,2,false⟩)],2) from zH [.rw 9 (I ((r.l.length:Nat):Int)),.loop (.exit 0) (sd40133 0 1 2 yL r n)] (Ai (zY (q:=lr_ranges_each_3p4 r n) (lp_ranges_each_3p4 r n r.l 0 (List.drop_zero) (Nat.zero_le _) (by omega) (by omega) (by omega) (by omega)) h27) (Ai (zO Sn.D r) trivial)) (by kernel_rfl)) trivial) (by kernel_rfl))
    cases h30:zD (zo zm yL) 0 with
    | x0 yI =>
     try dsimp only
     have xT:=zI yL (zo zm yL) (zo zm yL) 0 (List.drop_zero) (Nat.zero_le _) (by simp only [zK,GS.some_l,List.length_set,List.length_append,List.length_cons,List.length_nil] at * <;> first | with_reducible assumption | omega) (by simp only [zK,GS.some_l,List.length_set,List.length_append,List.length_cons,List.length_nil] at * <;> first | with_reducible assumption | omega)
     rw [h30] at xT
     obtain ⟨xO,xP⟩:=xT
     try dsimp only [zt] at xO
     try dsimp only [zt] at xP
     cases h31:decide (((yI.length:Nat):Int) > 64) with
     | true =>
      have g31:=of_decide_eq_true h31
      exact zu ((ranges_Rest_o2 r n yL)++[.inlS [1] (.tup [.sl true [] 0 none,I 2]) [(1,⟨(zo zm yL).map Sn.D,2,false⟩),(2,⟨yI.map Sn.D,2,false⟩)] 3]) (Ai (Ai (show ze [(0,⟨[I n],1,false⟩),(1,⟨yL.map Sn.D,2,false⟩)] 256 [1] []=some [1] from (by (simp only [ze,go_sem,List.length_set,Nat.reduceAdd,Nat.reduceEqDiff,Nat.reduceLT,Nat.reduceLeDiff,bI2,zb.idsL,zb.renL,zb.snapAll,z6.idsL,z6.renL,z6.snapAll]) <;> rfl)) (show (lim cfg).inl 69 [.lsl 1 0 yL.length 2 none] [(1,⟨yL.map Sn.D,2,false⟩)] 2=some (.tup [.sl true [] 0 none,I 2],[(1,⟨(zo zm yL).map Sn.D,2,false⟩),(2,⟨yI.map Sn.D,2,false⟩)],3) from zH [.inlS [1] (.tup []) [(1,⟨(zo zm yL).map Sn.D,2,false⟩)] 2,.gloop (zG 1 2 yL) (.exit 0) (sd40116 2 1 3 yI yL),.dec true] (Ai h31 (Ai (zY (q:=zp yL (zo zm yL)) (lp_ranges_gathered_4p1 yL (zo zm yL) (zo zm yL) 0 (List.drop_zero) (Nat.zero_le _) (by simp only [zK,GS.some_l,List.length_set,List.length_append,List.length_cons,List.length_nil] at * <;> first | with_reducible assumption | omega) (by simp only [zK,GS.some_l,List.length_set,List.length_append,List.length_cons,List.length_nil] at * <;> first | with_reducible assumption | omega)) h30) (Ai (gc_of (C:=cfg) (f:=69) (a:=lp69_4) (ks:=[4,10,11,12]) (st:=(y9 1 2 yL)) (st1:=(zG 1 2 yL)) (by kernel_rfl) (by (simp only [y9,zG,go_sem,List.length_set,Nat.reduceAdd,Nat.reduceEqDiff,Nat.reduceLT,Nat.reduceLeDiff,bI2,zb.idsL,zb.renL,zb.snapAll,z6.idsL,z6.renL,z6.snapAll]) <;> rfl)) (Ai (Ai (show ze [(1,⟨yL.map Sn.D,2,false⟩)] 256 [1] []=some [1] from (by (simp only [ze,go_sem,List.length_set,Nat.reduceAdd,Nat.reduceEqDiff,Nat.reduceLT,Nat.reduceLeDiff,bI2,zb.idsL,zb.renL,zb.snapAll,z6.idsL,z6.renL,z6.snapAll]) <;> rfl)) (yq 1 2 none yL (by omega))) trivial)))) (by kernel_rfl))) (Ai p2 (Ai h2 (Ai (zC n 1 10000) (Ai h1 (Ai (zi r (by omega)) trivial)))))) (by kernel_rfl)
     | false =>
      have g31:=of_decide_eq_false h31
      exact po_pureS ((ranges_Rest_o2 r n yL)++[.inlS [1] (.tup [.lsl 2 0 yI.length 2 none,I 0]) [(1,⟨(zo zm yL).map Sn.D,2,false⟩),(2,⟨yI.map Sn.D,2,false⟩)] 3]) [(2,.sl false (yI.map Sn.D) 2 none,[2])] (Ai (snap_row (gO:=zB [(0,⟨[I n],1,false⟩),(1,⟨(zo zm yL).map Sn.D,2,false⟩),(2,⟨yI.map Sn.D,2,false⟩)]) (o:=2) (len:=yI.length) (cap:=none) (fz:=false) z6 yI (by kernel_rfl) (by omega)) (Ai (Ai (show ze [(0,⟨[I n],1,false⟩),(1,⟨yL.map Sn.D,2,false⟩)] 256 [1] []=some [1] from (by (simp only [ze,go_sem,List.length_set,Nat.reduceAdd,Nat.reduceEqDiff,Nat.reduceLT,Nat.reduceLeDiff,bI2,zb.idsL,zb.renL,zb.snapAll,z6.idsL,z6.renL,z6.snapAll]) <;> rfl)) (show (lim cfg).inl 69 [.lsl 1 0 yL.length 2 none] [(1,⟨yL.map Sn.D,2,false⟩)] 2=some (.tup [.lsl 2 0 yI.length 2 none,I 0],[(1,⟨(zo zm yL).map Sn.D,2,false⟩),(2,⟨yI.map Sn.D,2,false⟩)],3) from zH [.inlS [1] (.tup []) [(1,⟨(zo zm yL).map Sn.D,2,false⟩)] 2,.gloop (zG 1 2 yL) (.exit 0) (sd40116 2 1 3 yI yL),.dec false] (Ai h31 (Ai (zY (q:=zp yL (zo zm yL)) (lp_ranges_gathered_4p1 yL (zo zm yL) (zo zm yL) 0 (List.drop_zero) (Nat.zero_le _) (by simp only [zK,GS.some_l,List.length_set,List.length_append,List.length_cons,List.length_nil] at * <;> first | with_reducible assumption | omega) (by simp only [zK,GS.some_l,List.length_set,List.length_append,List.length_cons,List.length_nil] at * <;> first | with_reducible assumption | omega)) h30) (Ai (gc_of (C:=cfg) (f:=69) (a:=lp69_4) (ks:=[4,10,11,12]) (st:=(y9 1 2 yL)) (st1:=(zG 1 2 yL)) (by kernel_rfl) (by (simp only [y9,zG,go_sem,List.length_set,Nat.reduceAdd,Nat.reduceEqDiff,Nat.reduceLT,Nat.reduceLeDiff,bI2,zb.idsL,zb.renL,zb.snapAll,z6.idsL,z6.renL,z6.snapAll]) <;> rfl)) (Ai (Ai (show ze [(1,⟨yL.map Sn.D,2,false⟩)] 256 [1] []=some [1] from (by (simp only [ze,go_sem,List.length_set,Nat.reduceAdd,Nat.reduceEqDiff,Nat.reduceLT,Nat.reduceLeDiff,bI2,zb.idsL,zb.renL,zb.snapAll,z6.idsL,z6.renL,z6.snapAll]) <;> rfl)) (yq 1 2 none yL (by omega))) trivial)))) (by kernel_rfl))) (Ai p2 (Ai h2 (Ai (zC n 1 10000) (Ai h1 (Ai (zi r (by omega)) trivial))))))) (by kernel_rfl)
    | x1 xf yP yI =>
     try dsimp only
     have xT:=zI yL (zo zm yL) (zo zm yL) 0 (List.drop_zero) (Nat.zero_le _) (by simp only [zK,GS.some_l,List.length_set,List.length_append,List.length_cons,List.length_nil] at * <;> first | with_reducible assumption | omega) (by simp only [zK,GS.some_l,List.length_set,List.length_append,List.length_cons,List.length_nil] at * <;> first | with_reducible assumption | omega)
     rw [h30] at xT
     obtain ⟨xO,xP⟩:=xT
     try dsimp only [zt] at xO
     try dsimp only [zt] at xP
     exact zu ((ranges_Rest_o2 r n yL)++[.inlS [1] (.tup [.sl true [] 0 none,I 2]) [(1,⟨(zo zm yL).map Sn.D,2,false⟩),(2,⟨yI.map Sn.D,2,false⟩),(3,⟨[.agg [I yP.lo,I yP.hi]],2,false⟩)] 4]) (Ai (Ai (show ze [(0,⟨[I n],1,false⟩),(1,⟨yL.map Sn.D,2,false⟩)] 256 [1] []=some [1] from (by (simp only [ze,go_sem,List.length_set,Nat.reduceAdd,Nat.reduceEqDiff,Nat.reduceLT,Nat.reduceLeDiff,bI2,zb.idsL,zb.renL,zb.snapAll,z6.idsL,z6.renL,z6.snapAll]) <;> rfl)) (show (lim cfg).inl 69 [.lsl 1 0 yL.length 2 none] [(1,⟨yL.map Sn.D,2,false⟩)] 2=some (.tup [.sl true [] 0 none,I 2],[(1,⟨(zo zm yL).map Sn.D,2,false⟩),(2,⟨yI.map Sn.D,2,false⟩),(3,⟨[.agg [I yP.lo,I yP.hi]],2,false⟩)],4) from zH [.inlS [1] (.tup []) [(1,⟨(zo zm yL).map Sn.D,2,false⟩)] 2,.gloop (zG 1 2 yL) .ret (sd40117 3 1 2 4 yP xf yI yL)] (Ai (zY (q:=zp yL (zo zm yL)) (lp_ranges_gathered_4p1 yL (zo zm yL) (zo zm yL) 0 (List.drop_zero) (Nat.zero_le _) (by simp only [zK,GS.some_l,List.length_set,List.length_append,List.length_cons,List.length_nil] at * <;> first | with_reducible assumption | omega) (by simp only [zK,GS.some_l,List.length_set,List.length_append,List.length_cons,List.length_nil] at * <;> first | with_reducible assumption | omega)) h30) (Ai (gc_of (C:=cfg) (f:=69) (a:=lp69_4) (ks:=[4,10,11,12]) (st:=(y9 1 2 yL)) (st1:=(zG 1 2 yL)) (by kernel_rfl) (by (simp only [y9,zG,go_sem,List.length_set,Nat.reduceAdd,Nat.reduceEqDiff,Nat.reduceLT,Nat.reduceLeDiff,bI2,zb.idsL,zb.renL,zb.snapAll,z6.idsL,z6.renL,z6.snapAll]) <;> rfl)) (Ai (Ai (show ze [(1,⟨yL.map Sn.D,2,false⟩)] 256 [1] []=some [1] from (by (simp only [ze,go_sem,List.length_set,Nat.reduceAdd,Nat.reduceEqDiff,Nat.reduceLT,Nat.reduceLeDiff,bI2,zb.idsL,zb.renL,zb.snapAll,z6.idsL,z6.renL,z6.snapAll]) <;> rfl)) (yq 1 2 none yL (by omega))) trivial))) (by kernel_rfl))) (Ai p2 (Ai h2 (Ai (zC n 1 10000) (Ai h1 (Ai (zi r (by omega)) trivial)))))) (by kernel_rfl)
    | x2 xf yP yI =>
     try dsimp only
     have xT:=zI yL (zo zm yL) (zo zm yL) 0 (List.drop_zero) (Nat.zero_le _) (by simp only [zK,GS.some_l,List.length_set,List.length_append,List.length_cons,List.length_nil] at * <;> first | with_reducible assumption | omega) (by simp only [zK,GS.some_l,List.length_set,List.length_append,List.length_cons,List.length_nil] at * <;> first | with_reducible assumption | omega)
     rw [h30] at xT
     obtain ⟨xO,xP⟩:=xT
     try dsimp only [zt] at xO
     try dsimp only [zt] at xP
     exact zu ((ranges_Rest_o2 r n yL)++[.inlS [1] (.tup [.sl true [] 0 none,I 2]) [(1,⟨(zo zm yL).map Sn.D,2,false⟩),(2,⟨yI.map Sn.D,2,false⟩),(3,⟨[.agg [I yP.lo,I yP.hi]],2,false⟩)] 4]) (Ai (Ai (show ze [(0,⟨[I n],1,false⟩),(1,⟨yL.map Sn.D,2,false⟩)] 256 [1] []=some [1] from (by (simp only [ze,go_sem,List.length_set,Nat.reduceAdd,Nat.reduceEqDiff,Nat.reduceLT,Nat.reduceLeDiff,bI2,zb.idsL,zb.renL,zb.snapAll,z6.idsL,z6.renL,z6.snapAll]) <;> rfl)) (show (lim cfg).inl 69 [.lsl 1 0 yL.length 2 none] [(1,⟨yL.map Sn.D,2,false⟩)] 2=some (.tup [.sl true [] 0 none,I 2],[(1,⟨(zo zm yL).map Sn.D,2,false⟩),(2,⟨yI.map Sn.D,2,false⟩),(3,⟨[.agg [I yP.lo,I yP.hi]],2,false⟩)],4) from zH [.inlS [1] (.tup []) [(1,⟨(zo zm yL).map Sn.D,2,false⟩)] 2,.gloop (zG 1 2 yL) .ret (sd40118 3 1 2 4 yP xf yI yL)] (Ai (zY (q:=zp yL (zo zm yL)) (lp_ranges_gathered_4p1 yL (zo zm yL) (zo zm yL) 0 (List.drop_zero) (Nat.zero_le _) (by simp only [zK,GS.some_l,List.length_set,List.length_append,List.length_cons,List.length_nil] at * <;> first | with_reducible assumption | omega) (by simp only [zK,GS.some_l,List.length_set,List.length_append,List.length_cons,List.length_nil] at * <;> first | with_reducible assumption | omega)) h30) (Ai (gc_of (C:=cfg) (f:=69) (a:=lp69_4) (ks:=[4,10,11,12]) (st:=(y9 1 2 yL)) (st1:=(zG 1 2 yL)) (by kernel_rfl) (by (simp only [y9,zG,go_sem,List.length_set,Nat.reduceAdd,Nat.reduceEqDiff,Nat.reduceLT,Nat.reduceLeDiff,bI2,zb.idsL,zb.renL,zb.snapAll,z6.idsL,z6.renL,z6.snapAll]) <;> rfl)) (Ai (Ai (show ze [(1,⟨yL.map Sn.D,2,false⟩)] 256 [1] []=some [1] from (by (simp only [ze,go_sem,List.length_set,Nat.reduceAdd,Nat.reduceEqDiff,Nat.reduceLT,Nat.reduceLeDiff,bI2,zb.idsL,zb.renL,zb.snapAll,z6.idsL,z6.renL,z6.snapAll]) <;> rfl)) (yq 1 2 none yL (by omega))) trivial))) (by kernel_rfl))) (Ai p2 (Ai h2 (Ai (zC n 1 10000) (Ai h1 (Ai (zi r (by omega)) trivial)))))) (by kernel_rfl)
    | x3 =>
     try dsimp only
     exact zu ((ranges_Rest_o2 r n yL)++[.inlS [1] (.tup [.sl true [] 0 none,I 0]) [(1,⟨(zo zm yL).map Sn.D,2,false⟩)] 2]) (Ai (Ai (show ze [(0,⟨[I n],1,false⟩),(1,⟨yL.map Sn.D,2,false⟩)] 256 [1] []=some [1] from (by (simp only [ze,go_sem,List.length_set,Nat.reduceAdd,Nat.reduceEqDiff,Nat.reduceLT,Nat.reduceLeDiff,bI2,zb.idsL,zb.renL,zb.snapAll,z6.idsL,z6.renL,z6.snapAll]) <;> rfl)) (show (lim cfg).inl 69 [.lsl 1 0 yL.length 2 none] [(1,⟨yL.map Sn.D,2,false⟩)] 2=some (.tup [.sl true [] 0 none,I 0],[(1,⟨(zo zm yL).map Sn.D,2,false⟩)],2) from zH [.inlS [1] (.tup []) [(1,⟨(zo zm yL).map Sn.D,2,false⟩)] 2,.gloop (zG 1 2 yL) (.exit 0) (sd40119 1 2 yL),.dec false] (Ai (Eq.refl false) (Ai (zY (q:=zp yL (zo zm yL)) (lp_ranges_gathered_4p1 yL (zo zm yL) (zo zm yL) 0 (List.drop_zero) (Nat.zero_le _) (by simp only [zK,GS.some_l,List.length_set,List.length_append,List.length_cons,List.length_nil] at * <;> first | with_reducible assumption | omega) (by simp only [zK,GS.some_l,List.length_set,List.length_append,List.length_cons,List.length_nil] at * <;> first | with_reducible assumption | omega)) h30) (Ai (gc_of (C:=cfg) (f:=69) (a:=lp69_4) (ks:=[4,10,11,12]) (st:=(y9 1 2 yL)) (st1:=(zG 1 2 yL)) (by kernel_rfl) (by (simp only [y9,zG,go_sem,List.length_set,Nat.reduceAdd,Nat.reduceEqDiff,Nat.reduceLT,Nat.reduceLeDiff,bI2,zb.idsL,zb.renL,zb.snapAll,z6.idsL,z6.renL,z6.snapAll]) <;> rfl)) (Ai (Ai (show ze [(1,⟨yL.map Sn.D,2,false⟩)] 256 [1] []=some [1] from (by (simp only [ze,go_sem,List.length_set,Nat.reduceAdd,Nat.reduceEqDiff,Nat.reduceLT,Nat.reduceLeDiff,bI2,zb.idsL,zb.renL,zb.snapAll,z6.idsL,z6.renL,z6.snapAll]) <;> rfl)) (yq 1 2 none yL (by omega))) trivial)))) (by kernel_rfl))) (Ai p2 (Ai h2 (Ai (zC n 1 10000) (Ai h1 (Ai (zi r (by omega)) trivial)))))) (by kernel_rfl)
    | x4 xf yP =>
     try dsimp only
     exact zu ((ranges_Rest_o2 r n yL)++[.inlS [1] (.tup [.sl true [] 0 none,I 2]) [(1,⟨(zo zm yL).map Sn.D,2,false⟩),(2,⟨[.agg [I yP.lo,I yP.hi]],2,false⟩)] 3]) (Ai (Ai (show ze [(0,⟨[I n],1,false⟩),(1,⟨yL.map Sn.D,2,false⟩)] 256 [1] []=some [1] from (by (simp only [ze,go_sem,List.length_set,Nat.reduceAdd,Nat.reduceEqDiff,Nat.reduceLT,Nat.reduceLeDiff,bI2,zb.idsL,zb.renL,zb.snapAll,z6.idsL,z6.renL,z6.snapAll]) <;> rfl)) (show (lim cfg).inl 69 [.lsl 1 0 yL.length 2 none] [(1,⟨yL.map Sn.D,2,false⟩)] 2=some (.tup [.sl true [] 0 none,I 2],[(1,⟨(zo zm yL).map Sn.D,2,false⟩),(2,⟨[.agg [I yP.lo,I yP.hi]],2,false⟩)],3) from zH [.inlS [1] (.tup []) [(1,⟨(zo zm yL).map Sn.D,2,false⟩)] 2,.gloop (zG 1 2 yL) .ret (sd40120 2 1 3 yP xf yL)] (Ai (zY (q:=zp yL (zo zm yL)) (lp_ranges_gathered_4p1 yL (zo zm yL) (zo zm yL) 0 (List.drop_zero) (Nat.zero_le _) (by simp only [zK,GS.some_l,List.length_set,List.length_append,List.length_cons,List.length_nil] at * <;> first | with_reducible assumption | omega) (by simp only [zK,GS.some_l,List.length_set,List.length_append,List.length_cons,List.length_nil] at * <;> first | with_reducible assumption | omega)) h30) (Ai (gc_of (C:=cfg) (f:=69) (a:=lp69_4) (ks:=[4,10,11,12]) (st:=(y9 1 2 yL)) (st1:=(zG 1 2 yL)) (by kernel_rfl) (by (simp only [y9,zG,go_sem,List.length_set,Nat.reduceAdd,Nat.reduceEqDiff,Nat.reduceLT,Nat.reduceLeDiff,bI2,zb.idsL,zb.renL,zb.snapAll,z6.idsL,z6.renL,z6.snapAll]) <;> rfl)) (Ai (Ai (show ze [(1,⟨yL.map Sn.D,2,false⟩)] 256 [1] []=some [1] from (by (simp only [ze,go_sem,List.length_set,Nat.reduceAdd,Nat.reduceEqDiff,Nat.reduceLT,Nat.reduceLeDiff,bI2,zb.idsL,zb.renL,zb.snapAll,z6.idsL,z6.renL,z6.snapAll]) <;> rfl)) (yq 1 2 none yL (by omega))) trivial))) (by kernel_rfl))) (Ai p2 (Ai h2 (Ai (zC n 1 10000) (Ai h1 (Ai (zi r (by omega)) trivial)))))) (by kernel_rfl)
    | x5 xf yP =>
     try dsimp only
     exact zu ((ranges_Rest_o2 r n yL)++[.inlS [1] (.tup [.sl true [] 0 none,I 2]) [(1,⟨(zo zm yL).map Sn.D,2,false⟩),(2,⟨[.agg [I yP.lo,I yP.hi]],2,false⟩)] 3]) (Ai (Ai (show ze [(0,⟨[I n],1,false⟩),(1,⟨yL.map Sn.D,2,false⟩)] 256 [1] []=some [1] from (by (simp only [ze,go_sem,List.length_set,Nat.reduceAdd,Nat.reduceEqDiff,Nat.reduceLT,Nat.reduceLeDiff,bI2,zb.idsL,zb.renL,zb.snapAll,z6.idsL,z6.renL,z6.snapAll]) <;> rfl)) (show (lim cfg).inl 69 [.lsl 1 0 yL.length 2 none] [(1,⟨yL.map Sn.D,2,false⟩)] 2=some (.tup [.sl true [] 0 none,I 2],[(1,⟨(zo zm yL).map Sn.D,2,false⟩),(2,⟨[.agg [I yP.lo,I yP.hi]],2,false⟩)],3) from zH [.inlS [1] (.tup []) [(1,⟨(zo zm yL).map Sn.D,2,false⟩)] 2,.gloop (zG 1 2 yL) .ret (sd40121 2 1 3 yP xf yL)] (Ai (zY (q:=zp yL (zo zm yL)) (lp_ranges_gathered_4p1 yL (zo zm yL) (zo zm yL) 0 (List.drop_zero) (Nat.zero_le _) (by simp only [zK,GS.some_l,List.length_set,List.length_append,List.length_cons,List.length_nil] at * <;> first | with_reducible assumption | omega) (by simp only [zK,GS.some_l,List.length_set,List.length_append,List.length_cons,List.length_nil] at * <;> first | with_reducible assumption | omega)) h30) (Ai (gc_of (C:=cfg) (f:=69) (a:=lp69_4) (ks:=[4,10,11,12]) (st:=(y9 1 2 yL)) (st1:=(zG 1 2 yL)) (by kernel_rfl) (by (simp only [y9,zG,go_sem,List.length_set,Nat.reduceAdd,Nat.reduceEqDiff,Nat.reduceLT,Nat.reduceLeDiff,bI2,zb.idsL,zb.renL,zb.snapAll,z6.idsL,z6.renL,z6.snapAll]) <;> rfl)) (Ai (Ai (show ze [(1,⟨yL.map Sn.D,2,false⟩)] 256 [1] []=some [1] from (by (simp only [ze,go_sem,List.length_set,Nat.reduceAdd,Nat.reduceEqDiff,Nat.reduceLT,Nat.reduceLeDiff,bI2,zb.idsL,zb.renL,zb.snapAll,z6.idsL,z6.renL,z6.snapAll]) <;> rfl)) (yq 1 2 none yL (by omega))) trivial))) (by kernel_rfl))) (Ai p2 (Ai h2 (Ai (zC n 1 10000) (Ai h1 (Ai (zi r (by omega)) trivial)))))) (by kernel_rfl)
   | x2 =>
    try dsimp only
    exact zu [.pure (I (zz r)),.dec false,.pure (B (yu n 1 10000)),.dec true,.inl (.sl true [] 0 none) [(0,⟨[I n],1,true⟩)] 1,.inl (.tup [.sl true [] 0 none,I 0]) [] 1] (Ai (show (lim cfg).inl 69 [.sl true [] 0 none] [] 1=some (.tup [.sl true [] 0 none,I 0],[],1) from zH [.inl (.tup []) [] 1,.loop (.exit 0) ⟨65,[(13,B false),(4,.sl true [] 0 none),(10,.sl true [] 0 none),(11,I 0),(12,I 0)],[],1,1⟩,.dec false] (Ai (Eq.refl false) (Ai (show (lim cfg).loop 69 lp69_4 ⟨65,[(4,.sl true [] 0 none),(10,.sl true [] 0 none),(11,I 0),(12,I 0)],[],1,1⟩=some ((.exit 0),⟨65,[(13,B false),(4,.sl true [] 0 none),(10,.sl true [] 0 none),(11,I 0),(12,I 0)],[],1,1⟩) from (yc [.dec false] (Ai (Eq.refl false) trivial) (by kernel_rfl))) (Ai (T_sort_nil 1) trivial))) (by kernel_rfl)) (Ai (show (lim cfg).inl 82 [.sl r.nl (r.l.map Sn.D) (zsl r.nl 2) none,I n] [] 0=some (.sl true [] 0 none,[(0,⟨[I n],1,true⟩)],1) from zH [.inl (.sl true [] 0 none) [(0,⟨[I n],1,true⟩)] 1] (Ai (show (lim cfg).inl 70 [.sl r.nl (r.l.map Sn.D) (zsl r.nl 2) none,.fn (.func 106) [] [.lref 0 0 1 0]] [(0,⟨[I n],1,false⟩)] 1=some (.sl true [] 0 none,[(0,⟨[I n],1,true⟩)],1) from zH [.rw 9 (I ((r.l.length:Nat):Int)),.loop (.exit 0) (sd40134 0 1 r n)] (Ai (zY (q:=lr_ranges_each_3p4 r n) (lp_ranges_each_3p4 r n r.l 0 (List.drop_zero) (Nat.zero_le _) (by omega) (by omega) (by omega) (by omega)) h27) (Ai (zO Sn.D r) trivial)) (by kernel_rfl)) trivial) (by kernel_rfl)) (Ai h2 (Ai (zC n 1 10000) (Ai h1 (Ai (zi r (by omega)) trivial)))))) (by kernel_rfl)
   | x3 =>
    try dsimp only
    exact zu [.pure (I (zz r)),.dec false,.pure (B (yu n 1 10000)),.dec true,.inl (.sl true [] 0 none) [(0,⟨[I n],1,false⟩)] 1,.inl (.tup [.sl true [] 0 none,I 0]) [] 1] (Ai (show (lim cfg).inl 69 [.sl true [] 0 none] [] 1=some (.tup [.sl true [] 0 none,I 0],[],1) from zH [.inl (.tup []) [] 1,.loop (.exit 0) ⟨65,[(13,B false),(4,.sl true [] 0 none),(10,.sl true [] 0 none),(11,I 0),(12,I 0)],[],1,1⟩,.dec false] (Ai (Eq.refl false) (Ai (show (lim cfg).loop 69 lp69_4 ⟨65,[(4,.sl true [] 0 none),(10,.sl true [] 0 none),(11,I 0),(12,I 0)],[],1,1⟩=some ((.exit 0),⟨65,[(13,B false),(4,.sl true [] 0 none),(10,.sl true [] 0 none),(11,I 0),(12,I 0)],[],1,1⟩) from (yc [.dec false] (Ai (Eq.refl false) trivial) (by kernel_rfl))) (Ai (T_sort_nil 1) trivial))) (by kernel_rfl)) (Ai (show (lim cfg).inl 82 [.sl r.nl (r.l.map Sn.D) (zsl r.nl 2) none,I n] [] 0=some (.sl true [] 0 none,[(0,⟨[I n],1,false⟩)],1) from zH [.inl (.sl true [] 0 none) [(0,⟨[I n],1,false⟩)] 1] (Ai (show (lim cfg).inl 70 [.sl r.nl (r.l.map Sn.D) (zsl r.nl 2) none,.fn (.func 106) [] [.lref 0 0 1 0]] [(0,⟨[I n],1,false⟩)] 1=some (.sl true [] 0 none,[(0,⟨[I n],1,false⟩)],1) from zH [.rw 9 (I ((r.l.length:Nat):Int)),.loop (.exit 0) (sd40135 0 1 r n)] (Ai (zY (q:=lr_ranges_each_3p4 r n) (lp_ranges_each_3p4 r n r.l 0 (List.drop_zero) (Nat.zero_le _) (by omega) (by omega) (by omega) (by omega)) h27) (Ai (zO Sn.D r) trivial)) (by kernel_rfl)) trivial) (by kernel_rfl)) (Ai h2 (Ai (zC n 1 10000) (Ai h1 (Ai (zi r (by omega)) trivial)))))) (by kernel_rfl)
  | false =>
   exact zu [.pure (I (zz r)),.dec false,.pure (B (yu n 1 10000)),.dec false] (Ai h2 (Ai (zC n 1 10000) (Ai h1 (Ai (zi r (by omega)) trivial)))) (by kernel_rfl)
end Go.VS

namespace Go.VS
open Go Go.Proofs
set_option maxHeartbeats 0
set_option linter.unusedSimpArgs false
set_option linter.unusedVariables false
theorem make_op {α:Type} {C:Cfg} {t:TypeId} {te:Ty} {nxt sz:Nat} {n:Int} {f:α→VS.D} (z:α) (h1:sliceElem C t=some te) (hz:zeroD te=f z) (h5:zeroOk te=true) (h7:te.size=sz) (hn:0≤n) (hb:n.toNat * te.bytes≤big∧n≤(big:Int)) :
  evMakeSlice C nxt t (I n) (I n)=some ⟨.lsl nxt 0 n.toNat sz none,[(nxt,some ⟨(List.replicate n.toNat z).map f,sz,false⟩)],[],nxt+1⟩:=by
 subst h7
 simp [evMakeSlice,h1,i64Of,I,hn,hb.1,hb.2,h5,newOb,List.map_replicate,hz]

theorem eok_B:EncOK 1 B:=⟨fun _ _ _=>rfl,fun _ _=>rfl,fun _ _ _=>rfl,fun _=>⟨rfl,rfl⟩⟩

def sd40092 (ν0 ν1 ν2:Nat) (μ0:Sn) (μ1:Int) (μ2:Int) (μ3:GS Sn) (μ4:Nat) (μ5:List Bool):St:=⟨40,[(24,B false),(23,I μ0.hi),(22,.lref ν0 0 2 1),(21,I μ1),(5,.lsl ν1 0 ((μ2).toNat) 1 none),(7,.lref ν0 0 2 0),(8,I μ1),(13,.sl μ3.nl (μ3.l.map Sn.D) (zsl μ3.nl 2) none),(14,I ((μ3.l.length:Nat):Int)),(15,I ((μ4:Nat):Int))],[(ν1,⟨μ5.map B,1,false⟩),(ν0,⟨[.agg [I μ0.lo,I μ0.hi]],2,false⟩)],ν2,ν1⟩

noncomputable def lp83_6:Code:=subC [1,1,0,1,0,0,1,1,0,0,1,1,0,0] (bodyC Tryz.f83)

def sd40093 (ν0 ν1 ν2:Nat) (μ0:Int) (μ1:Int) (μ2:Sn) (μ3:GS Sn) (μ4:Nat) (μ5:List Bool):St:=⟨40,[(8,I (w64 (μ0+1))),(26,I (w64 (μ0+1))),(25,I μ0),(29,.lref ν0 ((μ0).toNat) 1 0),(28,I μ0),(27,.lsl ν0 0 ((μ1).toNat) 1 none),(24,B true),(23,I μ2.hi),(22,.lref ν1 0 2 1),(21,I μ0),(5,.lsl ν0 0 ((μ1).toNat) 1 none),(7,.lref ν1 0 2 0),(8,I μ0),(13,.sl μ3.nl (μ3.l.map Sn.D) (zsl μ3.nl 2) none),(14,I ((μ3.l.length:Nat):Int)),(15,I ((μ4:Nat):Int))],[(ν0,⟨(μ5.set ((μ0).toNat) true).map B,1,false⟩),(ν1,⟨[.agg [I μ2.lo,I μ2.hi]],2,false⟩)],ν2,ν0⟩

inductive LR_ranges_full_6 where
 | x0 (xV:Int) (v6_1:List Bool)
 | out
instance:Inhabited LR_ranges_full_6:=⟨.out⟩
def ranges_full_6 (x3:Sn):Nat→Int→(List Bool)→LR_ranges_full_6
 | 0,_,_=>.out
 | rest6+1,xV,v6_1 =>
  bif decide (xV≤x3.hi) then
   ranges_full_6 x3 rest6 (w64 (xV+1)) (v6_1.set ((xV).toNat) true)
  else
   .x0 xV v6_1
def lr_ranges_full_6 (l:GS Sn) (n:Int) (i3:Nat) (x3:Sn):LR_ranges_full_6→Exit × St
 | .x0 xV v6_1=>((.exit 2),(sd40092 1 0 2 x3 xV n l i3 v6_1))
 | .out=>(.normal,⟨0,[],[],0,0⟩)
def iv_ranges_full_6 (l:GS Sn) (n:Int) (i3:Nat) (x3:Sn):LR_ranges_full_6→Prop
 | .x0 xV v6_1=>(x3.lo≤xV∧xV≤x3.hi+1)∧(v6_1.length=((n).toNat))
 | .out=>True
theorem lp_ranges_full_6 (l:GS Sn) (n:Int) (i3:Nat) (x3:Sn):∀ (rest6:Nat) (xV:Int) (v6_1:List Bool) (hf6:ranges_full_6 x3 rest6 xV v6_1 ≠ .out) (hn:1≤n∧n≤10000) (hx6:0≤x3.lo∧x3.lo≤x3.hi∧x3.hi < n) (hi0:x3.lo≤xV∧xV≤x3.hi+1) (hl6_v6_1:v6_1.length=((n).toNat)),(lim cfg).loop 83 lp83_6 ⟨40,[(5,.lsl 0 0 ((n).toNat) 1 none),(7,.lref 1 0 2 0),(8,I xV),(13,.sl l.nl (l.l.map Sn.D) (zsl l.nl 2) none),(14,I ((l.l.length:Nat):Int)),(15,I ((i3:Nat):Int))],[(0,⟨v6_1.map B,1,false⟩),(1,⟨[.agg [I x3.lo,I x3.hi]],2,false⟩)],2,0⟩=some (lr_ranges_full_6 l n i3 x3 (ranges_full_6 x3 rest6 xV v6_1)):=by
 intro rest6
 induction rest6 with
 | zero =>
  intro xV v6_1 hf6 hn hx6 hi0 hl6_v6_1
  exact absurd rfl hf6
 | succ rest6 ih =>
  intro xV v6_1 hf6 hn hx6 hi0 hl6_v6_1
  unfold ranges_full_6 at hf6 ⊢
  revert hf6
  cases h5:decide (xV≤x3.hi) with
  | true =>
   have g5:=of_decide_eq_true h5
   intro hf6
   exact zR (ks:=[5,7,8,13,14,15]) (st':=(sd40093 0 1 2 xV n x3 l i3 v6_1)) [.dec true,.op (some 29) ⟨.lref 0 ((xV).toNat) 1 0,[],[],2⟩,.stS 0 ⟨.tup [],[(0,some ⟨(v6_1.set ((xV).toNat) true).map B,1,false⟩)],[0],2⟩] (Ai (store_row (C:=cfg) (objs:=[(0,⟨v6_1.map B,1,false⟩),(1,⟨[.agg [I x3.lo,I x3.hi]],2,false⟩)]) (nxt:=2) (t:=4) (ty:=ty4) (o:=0) (n:=(xV).toNat) (sz:=1) (sub:=0) (els:=v6_1.map B) (els':=(v6_1.set ((xV).toNat) true).map B) (e:=B (v6_1.getD ((xV).toNat) default)) (e':=B true) (v:=B true) (by kernel_rfl) (by kernel_rfl) (row_get (f:=B) (by omega)) rfl (by kernel_rfl) rfl (by kernel_rfl) (row_set (f:=B))) (Ai (idx_row (C:=cfg) (nxt:=2) (t:=103) (ty:=ty103) (te:=ty4) (e:=4) (o:=0) (len:=((n).toNat)) (sz:=1) (cap:=none) (i:=xV) (by kernel_rfl) rfl (by kernel_rfl) rfl (by omega) (by omega)) (Ai h5 trivial))) (by kernel_rfl) (by (simp only [sd40093,go_sem,List.length_set,Nat.reduceAdd,Nat.reduceEqDiff,Nat.reduceLT,Nat.reduceLeDiff,bI2,eok_B.idsL,eok_B.renL,eok_B.snapAll,zb.idsL,zb.renL,zb.snapAll,z6.idsL,z6.renL,z6.snapAll]) <;> rfl) (ih (w64 (xV+1)) (v6_1.set ((xV).toNat) true) hf6 (by omega) (by omega) (by simp only [List.length_append,List.length_cons,List.length_nil,zT] at * <;> omega) (by simp only [List.length_set] at * <;> omega)) (by kernel_rfl)
  | false =>
   have g5:=of_decide_eq_false h5
   intro hf6
   exact yc [.dec false] (Ai h5 trivial) (by kernel_rfl)
theorem ivt_ranges_full_6 (l:GS Sn) (n:Int) (i3:Nat) (x3:Sn):∀ (rest6:Nat) (xV:Int) (v6_1:List Bool) (hf6:ranges_full_6 x3 rest6 xV v6_1 ≠ .out) (hn:1≤n∧n≤10000) (hx6:0≤x3.lo∧x3.lo≤x3.hi∧x3.hi < n) (hi0:x3.lo≤xV∧xV≤x3.hi+1) (hl6_v6_1:v6_1.length=((n).toNat)),iv_ranges_full_6 l n i3 x3 (ranges_full_6 x3 rest6 xV v6_1):=by
 intro rest6
 induction rest6 with
 | zero =>
  intro xV v6_1 hf6 hn hx6 hi0 hl6_v6_1
  exact absurd rfl hf6
 | succ rest6 ih =>
  intro xV v6_1 hf6 hn hx6 hi0 hl6_v6_1
  unfold ranges_full_6 at hf6 ⊢
  revert hf6
  cases h5:decide (xV≤x3.hi) with
  | true =>
   have g5:=of_decide_eq_true h5
   intro hf6
   exact ih (w64 (xV+1)) (v6_1.set ((xV).toNat) true) hf6 (by omega) (by omega) (by simp only [List.length_append,List.length_cons,List.length_nil,zT] at * <;> omega) (by simp only [List.length_set] at * <;> omega)
  | false =>
   have g5:=of_decide_eq_false h5
   intro hf6
   exact ⟨hi0,hl6_v6_1⟩

theorem full_ne' (x:Sn) (hx:x.hi < 10000):∀ (f:Nat) (i:Int) (v:List Bool),0≤i→i≤x.hi+1→x.hi - i+1 < f→ranges_full_6 x f i v ≠ .out
 | 0,i,v,h0,h1,h=>by omega
 | f+1,i,v,h0,h1,h=>by
  unfold ranges_full_6
  by_cases hc:i≤x.hi
  ·rw [decide_eq_true hc,w64_eq (n:=i+1) (by omega) (by omega)]
   exact full_ne' x hx f _ _ (by omega) (by omega) (by omega)
  ·rw [decide_eq_false hc]; intro z; cases z
theorem full_ne (x:Sn) (v:List Bool) (h:0≤x.lo∧x.lo≤x.hi∧x.hi < 10000):ranges_full_6 x ((x.hi - x.lo).toNat+2) x.lo v ≠ .out:=full_ne' x h.2.2 _ _ _ h.1 (by omega) (by omega)

def sd40096 (ν0 ν1:Nat) (μ0:Int) (μ1:GS Sn) (μ2:List Bool):St:=⟨40,[(16,B false),(5,.lsl ν0 0 ((μ0).toNat) 1 none),(13,.sl μ1.nl (μ1.l.map Sn.D) (zsl μ1.nl 2) none),(14,I ((μ1.l.length:Nat):Int)),(15,I ((μ1.l.length:Nat):Int))],[(ν0,⟨μ2.map B,1,false⟩)],ν1,ν0⟩

noncomputable def lp83_3:Code:=subC [1,1,0,1,0,0] (bodyC Tryz.f83)

def sd40097 (ν0 ν1 ν2:Nat) (μ0:Nat) (μ1:Sn) (μ2:Int) (μ3:Int) (μ4:GS Sn) (μ5:List Bool):St:=⟨40,[(15,I ((μ0+1:Nat):Int)),(30,I ((μ0+1:Nat):Int)),(24,B false),(23,I μ1.hi),(22,.lref ν0 0 2 1),(21,I μ2),(5,.lsl ν1 0 ((μ3).toNat) 1 none),(7,.lref ν0 0 2 0),(8,I μ2),(13,.sl μ4.nl (μ4.l.map Sn.D) (zsl μ4.nl 2) none),(14,I ((μ4.l.length:Nat):Int)),(15,I ((μ0:Nat):Int))],[(ν1,⟨μ5.map B,1,false⟩),(ν0,⟨[.agg [I μ1.lo,I μ1.hi]],2,false⟩)],ν2,ν1⟩

def sd40095 (ν0 ν1 ν2:Nat) (μ0:Int) (μ1:Sn) (μ2:GS Sn) (μ3:Nat) (μ4:List Bool):St:=⟨40,[(5,.lsl ν0 0 ((μ0).toNat) 1 none),(7,.lref ν1 0 2 0),(8,I μ1.lo),(13,.sl μ2.nl (μ2.l.map Sn.D) (zsl μ2.nl 2) none),(14,I ((μ2.l.length:Nat):Int)),(15,I ((μ3:Nat):Int))],[(ν0,⟨μ4.map B,1,false⟩),(ν1,⟨[.agg [I μ1.lo,I μ1.hi]],2,false⟩)],ν2,ν0⟩

def sd40094 (ν0 ν1 ν2:Nat) (μ0:Sn) (μ1:Int) (μ2:GS Sn) (μ3:Nat) (μ4:List Bool):St:=⟨40,[(8,I μ0.lo),(20,I μ0.lo),(19,.lref ν0 0 2 0),(7,.lref ν0 0 2 0),(18,.agg [I μ0.lo,I μ0.hi]),(17,.ptr (.agg [I μ0.lo,I μ0.hi])),(16,B true),(5,.lsl ν1 0 ((μ1).toNat) 1 none),(13,.sl μ2.nl (μ2.l.map Sn.D) (zsl μ2.nl 2) none),(14,I ((μ2.l.length:Nat):Int)),(15,I ((μ3:Nat):Int))],[(ν1,⟨μ4.map B,1,false⟩),(ν0,⟨[.agg [I μ0.lo,I μ0.hi]],2,false⟩)],ν2,ν1⟩

inductive LR_ranges_full_3 where
 | x0 (xz:List Bool)
instance:Inhabited LR_ranges_full_3:=⟨.x0 default⟩
def ranges_full_3:List Sn→(List Bool)→LR_ranges_full_3
 | [],xz=>.x0 xz
 | x3::xW,xz =>
  match ranges_full_6 x3 ((x3.hi - x3.lo).toNat+2) x3.lo xz with
  | .x0 xV v6_1 =>
   ranges_full_3 xW v6_1
  | .out =>
   default
def lr_ranges_full_3 (l:GS Sn) (n:Int):LR_ranges_full_3→Exit × St
 | .x0 xz=>((.exit 0),(sd40096 0 1 n l xz))
def iv_ranges_full_3 (l:GS Sn) (n:Int):LR_ranges_full_3→Prop
 | .x0 xz=>(xz.length=((n).toNat))
theorem lp_ranges_full_3 (l:GS Sn) (n:Int):∀ (xW:List Sn) (i3:Nat) (xz:List Bool) (hd3:l.l.drop i3=xW) (hi3:i3≤l.l.length) (hB:∀ s∈l.l,0≤s.lo∧s.lo≤s.hi∧s.hi < n) (hn:1≤n∧n≤10000) (hl3_v3_0:xz.length=((n).toNat)) (hL3:l.l.length≤9223372036854775807),(lim cfg).loop 83 lp83_3 ⟨40,[(5,.lsl 0 0 ((n).toNat) 1 none),(13,.sl l.nl (l.l.map Sn.D) (zsl l.nl 2) none),(14,I ((l.l.length:Nat):Int)),(15,I ((i3:Nat):Int))],[(0,⟨xz.map B,1,false⟩)],1,0⟩=some (lr_ranges_full_3 l n (ranges_full_3 xW xz)):=by
 intro xW
 induction xW with
 | nil =>
  intro i3 xz hd3 hi3 hB hn hl3_v3_0 hL3
  unfold ranges_full_3
  obtain rfl:i3=l.l.length:=nil_eq hd3 hi3
  exact yc [.dec false] (Ai (lt_no hd3) trivial) (by kernel_rfl)
 | cons x3 xW ih =>
  intro i3 xz hd3 hi3 hB hn hl3_v3_0 hL3
  have hlt3:=zj hd3
  have hbx:=hB x3 (mem_drop hd3)
  unfold ranges_full_3
  cases h6:ranges_full_6 x3 ((x3.hi - x3.lo).toNat+2) x3.lo xz with
  | x0 xV v6_1 =>
   try dsimp only
   have hv_h6:=ivt_ranges_full_6 l n i3 x3 ((x3.hi - x3.lo).toNat+2) x3.lo xz (full_ne x3 _ (by omega)) (by omega) (by omega) (by omega) (by omega)
   rw [h6] at hv_h6
   obtain ⟨hv_h6_0,hv_h6_1⟩:=hv_h6
   try dsimp only [iv_ranges_full_6] at hv_h6_0
   try dsimp only [iv_ranges_full_6] at hv_h6_1
   exact zR (ks:=[5,13,14,15]) (st':=(sd40097 1 0 2 i3 x3 xV n l v6_1)) [.dec true,.el (.agg [I x3.lo,I x3.hi]),.gloop (sd40095 0 1 2 n x3 l i3 xz) (.exit 2) (sd40092 1 0 2 x3 xV n l i3 v6_1),.rw 30 (I ((i3+1:Nat):Int))] (Ai (ya (i:=i3) (by have:=zj hd3; omega)) (Ai (zY (q:=lr_ranges_full_6 l n i3 x3) (lp_ranges_full_6 l n i3 x3 ((x3.hi - x3.lo).toNat+2) x3.lo xz (full_ne x3 _ (by omega)) (by omega) (by omega) (by omega) (by omega)) h6) (Ai (gc_of (C:=cfg) (f:=83) (a:=lp83_6) (ks:=[5,7,8,13,14,15]) (st:=(sd40094 1 0 2 x3 n l i3 xz)) (st1:=(sd40095 0 1 2 n x3 l i3 xz)) (by kernel_rfl) (by (simp only [sd40094,sd40095,go_sem,List.length_set,Nat.reduceAdd,Nat.reduceEqDiff,Nat.reduceLT,Nat.reduceLeDiff,bI2,eok_B.idsL,eok_B.renL,eok_B.snapAll,zb.idsL,zb.renL,zb.snapAll,z6.idsL,z6.renL,z6.snapAll]) <;> rfl)) (Ai (el_at (s:=l) (f:=Sn.D) (k:=2) hd3) (Ai (yy hd3) trivial))))) (by kernel_rfl) (by (simp only [sd40097,go_sem,List.length_set,Nat.reduceAdd,Nat.reduceEqDiff,Nat.reduceLT,Nat.reduceLeDiff,bI2,eok_B.idsL,eok_B.renL,eok_B.snapAll,zb.idsL,zb.renL,zb.snapAll,z6.idsL,z6.renL,z6.snapAll]) <;> rfl) (ih (i3+1) v6_1 (zn hd3) (zj hd3) (by omega) (by omega) (by omega) (by omega)) (by kernel_rfl)
  | out =>
   exact absurd h6 ((full_ne x3 _ (by omega)))
theorem ivt_ranges_full_3 (l:GS Sn) (n:Int):∀ (xW:List Sn) (i3:Nat) (xz:List Bool) (hd3:l.l.drop i3=xW) (hi3:i3≤l.l.length) (hB:∀ s∈l.l,0≤s.lo∧s.lo≤s.hi∧s.hi < n) (hn:1≤n∧n≤10000) (hl3_v3_0:xz.length=((n).toNat)) (hL3:l.l.length≤9223372036854775807),iv_ranges_full_3 l n (ranges_full_3 xW xz):=by
 intro xW
 induction xW with
 | nil =>
  intro i3 xz hd3 hi3 hB hn hl3_v3_0 hL3
  unfold ranges_full_3
  obtain rfl:i3=l.l.length:=nil_eq hd3 hi3
  exact hl3_v3_0
 | cons x3 xW ih =>
  intro i3 xz hd3 hi3 hB hn hl3_v3_0 hL3
  have hlt3:=zj hd3
  have hbx:=hB x3 (mem_drop hd3)
  unfold ranges_full_3
  cases h6:ranges_full_6 x3 ((x3.hi - x3.lo).toNat+2) x3.lo xz with
  | x0 xV v6_1 =>
   try dsimp only
   have hv_h6:=ivt_ranges_full_6 l n i3 x3 ((x3.hi - x3.lo).toNat+2) x3.lo xz (full_ne x3 _ (by omega)) (by omega) (by omega) (by omega) (by omega)
   rw [h6] at hv_h6
   obtain ⟨hv_h6_0,hv_h6_1⟩:=hv_h6
   try dsimp only [iv_ranges_full_6] at hv_h6_0
   try dsimp only [iv_ranges_full_6] at hv_h6_1
   exact ih (i3+1) v6_1 (zn hd3) (zj hd3) (by omega) (by omega) (by omega) (by omega)
  | out =>
   exact absurd h6 ((full_ne x3 _ (by omega)))

def sd40100 (ν0 ν1:Nat) (μ0:List Bool) (μ1:Nat) (μ2:Int) (μ3:Int):St:=⟨40,[(4,B false),(38,B true),(37,B (μ0.getD μ1 default)),(10,B (μ0.getD μ1 default)),(36,B (μ0.getD μ1 default)),(35,.lref ν0 μ1 1 0),(34,B true),(31,.lsl ν0 0 ((μ2).toNat) 1 none),(32,I μ3),(33,I ((μ1:Nat):Int))],[(ν0,⟨μ0.map B,1,false⟩)],ν1,ν0⟩

noncomputable def lp83_11:Code:=subC [1,1,1,0,1,0,0] (bodyC Tryz.f83)

def sd40101 (ν0 ν1:Nat) (μ0:Nat) (μ1:List Bool) (μ2:Int) (μ3:Int):St:=⟨40,[(33,I ((μ0+1:Nat):Int)),(39,I ((μ0+1:Nat):Int)),(38,B false),(37,B (μ1.getD μ0 default)),(10,B (μ1.getD μ0 default)),(36,B (μ1.getD μ0 default)),(35,.lref ν0 μ0 1 0),(34,B true),(31,.lsl ν0 0 ((μ2).toNat) 1 none),(32,I μ3),(33,I ((μ0:Nat):Int))],[(ν0,⟨μ1.map B,1,false⟩)],ν1,ν0⟩

inductive LR_ranges_full_11 where
 | x0 (i11:Nat)
 | x1 (i11:Nat)
instance:Inhabited LR_ranges_full_11:=⟨.x0 default⟩
def ranges_full_11 (xz:List Bool):Nat→Nat→LR_ranges_full_11
 | 0,i11=>.x0 i11
 | rest11+1,i11 =>
  bif (xz.getD i11 default) then
   ranges_full_11 xz rest11 (i11+1)
  else
   .x1 i11
def lr_ranges_full_11 (n:Int) (xz:List Bool) (q11_0:Int):LR_ranges_full_11→Exit × St
 | .x0 i11=>((.exit 4),⟨40,[(34,B false),(31,.lsl 0 0 ((n).toNat) 1 none),(32,I q11_0),(33,I ((i11:Nat):Int))],[(0,⟨xz.map B,1,false⟩)],1,0⟩)
 | .x1 i11=>(.ret,(sd40100 0 1 xz i11 n q11_0))
theorem lp_ranges_full_11 (n:Int) (xz:List Bool) (q11_0:Int):∀ (rest11:Nat) (i11:Nat) (hk11:(q11_0 - ((i11:Nat):Int)).toNat=rest11) (hN11:q11_0≤9223372036854775807) (hr11:xz.length=(n).toNat∧q11_0=(((n).toNat:Nat):Int)),(lim cfg).loop 83 lp83_11 ⟨40,[(31,.lsl 0 0 ((n).toNat) 1 none),(32,I q11_0),(33,I ((i11:Nat):Int))],[(0,⟨xz.map B,1,false⟩)],1,0⟩=some (lr_ranges_full_11 n xz q11_0 (ranges_full_11 xz rest11 i11)):=by
 intro rest11
 induction rest11 with
 | zero =>
  intro i11 hk11 hN11 hr11
  unfold ranges_full_11
  exact yc [.dec false] (Ai (ct_no hk11) trivial) (by kernel_rfl)
 | succ rest11 ih =>
  intro i11 hk11 hN11 hr11
  have hlt11:=of_decide_eq_true (ct_at hk11)
  unfold ranges_full_11
  cases h9:(xz.getD i11 default) with
  | true =>
   exact zR (ks:=[31,32,33]) (st':=(sd40101 0 1 i11 xz n q11_0)) [.dec true,.op (some 35) ⟨.lref 0 i11 1 0,[],[],1⟩,.op (some 36) ⟨B (xz.getD i11 default),[],[0],1⟩,.op (some 38) ⟨B false,[],[],1⟩,.rw 39 (I ((i11+1:Nat):Int))] (Ai (ya (i:=i11) (by omega)) (Ai (not_op (nxt:=1) h9) (Ai (load_row (C:=cfg) (objs:=[(0,⟨xz.map B,1,false⟩)]) (nxt:=1) (t:=4) (ty:=ty4) (o:=0) (n:=i11) (sz:=1) (sub:=0) (ob:=⟨xz.map B,1,false⟩) (e:=B (xz.getD i11 default)) (d:=B (xz.getD i11 default)) (by kernel_rfl) (by kernel_rfl) rfl (row_get (f:=B) (by omega)) (by kernel_rfl)) (Ai (idx_row (C:=cfg) (nxt:=1) (t:=103) (ty:=ty103) (te:=ty4) (e:=4) (o:=0) (len:=((n).toNat)) (sz:=1) (cap:=none) (i:=((i11:Nat):Int)) (by kernel_rfl) rfl (by kernel_rfl) rfl (by omega) (by omega)) (Ai (ct_at hk11) trivial))))) (by kernel_rfl) (by (simp only [sd40101,go_sem,List.length_set,Nat.reduceAdd,Nat.reduceEqDiff,Nat.reduceLT,Nat.reduceLeDiff,bI2,eok_B.idsL,eok_B.renL,eok_B.snapAll,zb.idsL,zb.renL,zb.snapAll,z6.idsL,z6.renL,z6.snapAll]) <;> rfl) (ih (i11+1) (by omega) hN11 (by omega)) (by kernel_rfl)
  | false =>
   exact yc [.dec true,.op (some 35) ⟨.lref 0 i11 1 0,[],[],1⟩,.op (some 36) ⟨B (xz.getD i11 default),[],[0],1⟩,.op (some 38) ⟨B true,[],[],1⟩] (Ai (not_op (nxt:=1) h9) (Ai (load_row (C:=cfg) (objs:=[(0,⟨xz.map B,1,false⟩)]) (nxt:=1) (t:=4) (ty:=ty4) (o:=0) (n:=i11) (sz:=1) (sub:=0) (ob:=⟨xz.map B,1,false⟩) (e:=B (xz.getD i11 default)) (d:=B (xz.getD i11 default)) (by kernel_rfl) (by kernel_rfl) rfl (row_get (f:=B) (by omega)) (by kernel_rfl)) (Ai (idx_row (C:=cfg) (nxt:=1) (t:=103) (ty:=ty103) (te:=ty4) (e:=4) (o:=0) (len:=((n).toNat)) (sz:=1) (cap:=none) (i:=((i11:Nat):Int)) (by kernel_rfl) rfl (by kernel_rfl) rfl (by omega) (by omega)) (Ai (ct_at hk11) trivial)))) (by kernel_rfl)

def ranges_full (l:GS Sn) (n:Int):Bool :=
 match ranges_full_3 l.l (List.replicate ((n).toNat) false) with
 | .x0 xz =>
  match ranges_full_11 xz (((((n).toNat):Nat):Int) - 0).toNat 0 with
  | .x0 i11 =>
   true
  | .x1 i11 =>
   false

def sd40099 (ν0 ν1:Nat) (μ0:Int) (μ1:GS Sn):St:=⟨40,[(5,.lsl ν0 0 ((μ0).toNat) 1 none),(13,.sl μ1.nl (μ1.l.map Sn.D) (zsl μ1.nl 2) none),(14,I ((μ1.l.length:Nat):Int)),(15,I 0)],[(ν0,⟨(List.replicate ((μ0).toNat) false).map B,1,false⟩)],ν1,ν0⟩

def sd40102 (ν0 ν1:Nat) (μ0:Int) (μ1:GS Sn) (μ2:List Bool):St:=⟨40,[(33,I 0),(32,I ((((μ0).toNat):Nat):Int)),(31,.lsl ν0 0 ((μ0).toNat) 1 none),(16,B false),(5,.lsl ν0 0 ((μ0).toNat) 1 none),(13,.sl μ1.nl (μ1.l.map Sn.D) (zsl μ1.nl 2) none),(14,I ((μ1.l.length:Nat):Int)),(15,I ((μ1.l.length:Nat):Int))],[(ν0,⟨μ2.map B,1,false⟩)],ν1,ν0⟩

def sd40098 (ν0 ν1:Nat) (μ0:GS Sn) (μ1:Int):St:=⟨40,[(15,I 0),(14,I ((μ0.l.length:Nat):Int)),(13,.sl μ0.nl (μ0.l.map Sn.D) (zsl μ0.nl 2) none),(5,.lsl ν0 0 ((μ1).toNat) 1 none),(12,.lsl ν0 0 ((μ1).toNat) 1 none),(11,I μ1),(4,B false),(0,.sl μ0.nl (μ0.l.map Sn.D) (zsl μ0.nl 2) none),(1,I μ1)],[(ν0,⟨(List.replicate ((μ1).toNat) false).map B,1,false⟩)],ν1,ν0⟩

def sd40103 (ν0 ν1:Nat) (μ0:List Bool) (μ1:Nat) (μ2:Int):St:=⟨40,[(4,B false),(38,B true),(37,B (μ0.getD μ1 default)),(10,B (μ0.getD μ1 default)),(36,B (μ0.getD μ1 default)),(35,.lref ν0 μ1 1 0),(34,B true),(31,.lsl ν0 0 ((μ2).toNat) 1 none),(32,I ((((μ2).toNat):Nat):Int)),(33,I ((μ1:Nat):Int))],[(ν0,⟨μ0.map B,1,false⟩)],ν1,ν0⟩

theorem T_ranges_full (l:GS Sn) (n:Int) (hL:l.l.length≤9223372036854775807) (hn:1≤n∧n≤10000) (hB:∀ s∈l.l,0≤s.lo∧s.lo≤s.hi∧s.hi < n):(lim cfg).pure 83 [GS.D Sn.D 2 l,I n]=some (B (ranges_full l n)):=by
 unfold ranges_full
 cases h7:ranges_full_3 l.l (List.replicate ((n).toNat) false) with
 | x0 xz =>
  try dsimp only
  have hv_h7:=ivt_ranges_full_3 l n l.l 0 (List.replicate ((n).toNat) false) (List.drop_zero) (Nat.zero_le _) (by omega) (by omega) (by simp <;> omega) (by omega)
  rw [h7] at hv_h7
  have hv_h7_0:=hv_h7
  try dsimp only [iv_ranges_full_3] at hv_h7_0
  cases h10:ranges_full_11 xz (((((n).toNat):Nat):Int) - 0).toNat 0 with
  | x0 i11 =>
   try dsimp only
   exact zu [.op (some 12) ⟨.lsl 0 0 ((n).toNat) 1 none,[(0,some ⟨(List.replicate ((n).toNat) false).map B,1,false⟩)],[],1⟩,.rw 14 (I ((l.l.length:Nat):Int)),.gloop (sd40099 0 1 n l) (.exit 0) (sd40096 0 1 n l xz),.gloop ⟨40,[(31,.lsl 0 0 ((n).toNat) 1 none),(32,I ((((n).toNat):Nat):Int)),(33,I 0)],[(0,⟨xz.map B,1,false⟩)],1,0⟩ (.exit 4) ⟨40,[(34,B false),(31,.lsl 0 0 ((n).toNat) 1 none),(32,I ((((n).toNat):Nat):Int)),(33,I ((i11:Nat):Int))],[(0,⟨xz.map B,1,false⟩)],1,0⟩] (Ai (zY (q:=lr_ranges_full_11 n xz ((((n).toNat):Nat):Int)) (lp_ranges_full_11 n xz ((((n).toNat):Nat):Int) (((((n).toNat):Nat):Int) - 0).toNat 0 (by omega) (by omega) (by omega)) h10) (Ai (gc_of (C:=cfg) (f:=83) (a:=lp83_11) (ks:=[31,32,33]) (st:=(sd40102 0 1 n l xz)) (st1:=⟨40,[(31,.lsl 0 0 ((n).toNat) 1 none),(32,I ((((n).toNat):Nat):Int)),(33,I 0)],[(0,⟨xz.map B,1,false⟩)],1,0⟩) (by kernel_rfl) (by (simp only [sd40102,go_sem,List.length_set,Nat.reduceAdd,Nat.reduceEqDiff,Nat.reduceLT,Nat.reduceLeDiff,bI2,eok_B.idsL,eok_B.renL,eok_B.snapAll,zb.idsL,zb.renL,zb.snapAll,z6.idsL,z6.renL,z6.snapAll]) <;> rfl)) (Ai (zY (q:=lr_ranges_full_3 l n) (lp_ranges_full_3 l n l.l 0 (List.replicate ((n).toNat) false) (List.drop_zero) (Nat.zero_le _) (by omega) (by omega) (by simp <;> omega) (by omega)) h7) (Ai (gc_of (C:=cfg) (f:=83) (a:=lp83_3) (ks:=[5,13,14,15]) (st:=(sd40098 0 1 l n)) (st1:=(sd40099 0 1 n l)) (by kernel_rfl) (by (simp only [sd40098,sd40099,go_sem,List.length_set,Nat.reduceAdd,Nat.reduceEqDiff,Nat.reduceLT,Nat.reduceLeDiff,bI2,eok_B.idsL,eok_B.renL,eok_B.snapAll,zb.idsL,zb.renL,zb.snapAll,z6.idsL,z6.renL,z6.snapAll]) <;> rfl)) (Ai (zO Sn.D l) (Ai (make_op (C:=cfg) (nxt:=0) (t:=103) (te:=ty4) (f:=B) (sz:=1) (n:=n) false rfl (by kernel_rfl) rfl rfl (by omega) ⟨by simp only [ty4,big] <;> (omega),by simp only [big] <;> (omega)⟩) trivial)))))) (by kernel_rfl)
  | x1 i11 =>
   try dsimp only
   exact zu [.op (some 12) ⟨.lsl 0 0 ((n).toNat) 1 none,[(0,some ⟨(List.replicate ((n).toNat) false).map B,1,false⟩)],[],1⟩,.rw 14 (I ((l.l.length:Nat):Int)),.gloop (sd40099 0 1 n l) (.exit 0) (sd40096 0 1 n l xz),.gloop ⟨40,[(31,.lsl 0 0 ((n).toNat) 1 none),(32,I ((((n).toNat):Nat):Int)),(33,I 0)],[(0,⟨xz.map B,1,false⟩)],1,0⟩ .ret (sd40103 0 1 xz i11 n)] (Ai (zY (q:=lr_ranges_full_11 n xz ((((n).toNat):Nat):Int)) (lp_ranges_full_11 n xz ((((n).toNat):Nat):Int) (((((n).toNat):Nat):Int) - 0).toNat 0 (by omega) (by omega) (by omega)) h10) (Ai (gc_of (C:=cfg) (f:=83) (a:=lp83_11) (ks:=[31,32,33]) (st:=(sd40102 0 1 n l xz)) (st1:=⟨40,[(31,.lsl 0 0 ((n).toNat) 1 none),(32,I ((((n).toNat):Nat):Int)),(33,I 0)],[(0,⟨xz.map B,1,false⟩)],1,0⟩) (by kernel_rfl) (by (simp only [sd40102,go_sem,List.length_set,Nat.reduceAdd,Nat.reduceEqDiff,Nat.reduceLT,Nat.reduceLeDiff,bI2,eok_B.idsL,eok_B.renL,eok_B.snapAll,zb.idsL,zb.renL,zb.snapAll,z6.idsL,z6.renL,z6.snapAll]) <;> rfl)) (Ai (zY (q:=lr_ranges_full_3 l n) (lp_ranges_full_3 l n l.l 0 (List.replicate ((n).toNat) false) (List.drop_zero) (Nat.zero_le _) (by omega) (by omega) (by simp <;> omega) (by omega)) h7) (Ai (gc_of (C:=cfg) (f:=83) (a:=lp83_3) (ks:=[5,13,14,15]) (st:=(sd40098 0 1 l n)) (st1:=(sd40099 0 1 n l)) (by kernel_rfl) (by (simp only [sd40098,sd40099,go_sem,List.length_set,Nat.reduceAdd,Nat.reduceEqDiff,Nat.reduceLT,Nat.reduceLeDiff,bI2,eok_B.idsL,eok_B.renL,eok_B.snapAll,zb.idsL,zb.renL,zb.snapAll,z6.idsL,z6.renL,z6.snapAll]) <;> rfl)) (Ai (zO Sn.D l) (Ai (make_op (C:=cfg) (nxt:=0) (t:=103) (te:=ty4) (f:=B) (sz:=1) (n:=n) false rfl (by kernel_rfl) rfl rfl (by omega) ⟨by simp only [ty4,big] <;> (omega),by simp only [big] <;> (omega)⟩) trivial)))))) (by kernel_rfl)
end Go.VS

namespace Go.VS
open Go
set_option maxHeartbeats 0
theorem area_b {n:Int} (h:zv n=true):-1099511627776≤n∧n≤1099511627776:=area_iff.1 h
theorem turns_k {n:Int} {w:Sn} (hn:1≤n∧n≤10000) (h0:¬ (w.lo > w.hi)) (ha:-1099511627776≤w.lo∧w.lo≤1099511627776) (hb:-1099511627776≤w.hi∧w.hi≤1099511627776) (h:decide ((w64 ((zg w.hi n) - (zg w.lo n))) > 66)=false):zg w.hi n - 66≤zg w.lo n∧zg w.lo n≤zg w.hi n+1∧-1099511627777≤zg w.lo n∧zg w.hi n≤1099511627777:=by
 have h:=of_decide_eq_false h
 rw [down_eq hn.1 (by omega),down_eq hn.1 (by omega)] at h ⊢
 have h1:=ediv_bd (a:=w.lo) hn.1 (by omega)
 have h2:=ediv_bd (a:=w.hi) hn.1 (by omega)
 have h3:w.lo / n≤w.hi / n:=Int.ediv_le_ediv (by omega) (by omega)
 rw [w64_eq (by omega) (by omega)] at h
 omega
end Go.VS

