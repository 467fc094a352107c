/- Nothing of a statement is proved in this text alone: it is part 4 of the proof's own tools, an evaluator of the code over deep values, its soundness, and what it makes of this seat's functions. Conditions: none beyond the statement's own. -/
import Derived.Test.YtmdmclbpnkdimaaGreatDoorVsRCAro3
set_option linter.unusedSimpArgs false
set_option linter.unusedVariables false
namespace Go.VS
open Go Go.Proofs
set_option maxHeartbeats 0
set_option linter.unusedSimpArgs false
set_option linter.unusedVariables false
def za (x:Sn) (by_:Int):(GS Sn) :=
 (zl (w64 (x.lo+by_)) (w64 (x.hi+by_)))

theorem T_ranges_Shift_1 (x:Sn) (by_:Int):(lim cfg).pure 85 [Sn.D x,.ptr (I by_)]=some (GS.D Sn.D 2 (za x by_)):=by
 unfold za
 exact zu [.pure (.sl ((zl (w64 (x.lo+by_)) (w64 (x.hi+by_))).nl) (((zl (w64 (x.lo+by_)) (w64 (x.hi+by_))).l).map Sn.D) (zsl ((zl (w64 (x.lo+by_)) (w64 (x.hi+by_))).nl) 2) none)] (Ai (T_ranges_some (w64 (x.lo+by_)) (w64 (x.hi+by_))) trivial) (by kernel_rfl)

theorem shift1_len (x:Sn) (by_:Int):(za x by_).l.length≤1:=some1 _ _

def sd202 (r:GS Sn) (by_:Int) (xi:Nat) (yR:Sn) (yH:List Sn):St:=⟨21,[(10,I ((xi+1:Nat):Int)),(19,I ((xi+1:Nat):Int)),(5,.lsl 1 0 yH.length 2 none),(18,.lsl 1 0 yH.length 2 none),(17,.sl ((za yR by_).nl) (((za yR by_).l).map Sn.D) (zsl ((za yR by_).nl) 2) none),(16,.agg [I yR.lo,I yR.hi]),(15,.fn (.func 85) [] [.lref 0 0 1 0]),(14,.lsl 1 0 yH.length 2 none),(7,.lref 2 0 2 0),(13,.agg [I yR.lo,I yR.hi]),(12,.ptr (.agg [I yR.lo,I yR.hi])),(11,B true),(1,.fn (.func 85) [] [.lref 0 0 1 0]),(5,.lsl 1 0 yH.length 2 none),(8,.sl r.nl (r.l.map Sn.D) (zsl r.nl 2) none),(9,I ((r.l.length:Nat):Int)),(10,I ((xi:Nat):Int))],[(0,⟨[I by_],1,true⟩),(1,⟨yH.map Sn.D,2,false⟩),(2,⟨[.agg [I yR.lo,I yR.hi]],2,false⟩)],3,1⟩

def sd203 (r:GS Sn) (by_:Int) (xi:Nat) (yR:Sn) (yH:List Sn):St:=⟨21,[(10,I ((xi+1:Nat):Int)),(19,I ((xi+1:Nat):Int)),(5,.lsl 3 0 ((yH++((za yR by_).l)).length) 2 none),(18,.lsl 3 0 ((yH++((za yR by_).l)).length) 2 none),(17,.sl ((za yR by_).nl) (((za yR by_).l).map Sn.D) (zsl ((za yR by_).nl) 2) none),(16,.agg [I yR.lo,I yR.hi]),(15,.fn (.func 85) [] [.lref 0 0 1 0]),(14,.lsl 1 0 yH.length 2 none),(7,.lref 2 0 2 0),(13,.agg [I yR.lo,I yR.hi]),(12,.ptr (.agg [I yR.lo,I yR.hi])),(11,B true),(1,.fn (.func 85) [] [.lref 0 0 1 0]),(5,.lsl 1 0 yH.length 2 none),(8,.sl r.nl (r.l.map Sn.D) (zsl r.nl 2) none),(9,I ((r.l.length:Nat):Int)),(10,I ((xi:Nat):Int))],[(0,⟨[I by_],1,true⟩),(2,⟨[.agg [I yR.lo,I yR.hi]],2,false⟩),(3,⟨(yH++((za yR by_).l)).map Sn.D,2,false⟩)],4,1⟩

def sd204 (r:GS Sn) (by_:Int) (xi:Nat) (yR:Sn) (yG:List Sn):St:=⟨21,[(10,I ((xi+1:Nat):Int)),(19,I ((xi+1:Nat):Int)),(5,.lsl 1 0 yG.length 2 none),(18,.lsl 1 0 yG.length 2 none),(17,.sl ((za yR by_).nl) (((za yR by_).l).map Sn.D) (zsl ((za yR by_).nl) 2) none),(16,.agg [I yR.lo,I yR.hi]),(15,.fn (.func 85) [] [.lref 0 0 1 0]),(14,.lsl 1 0 yG.length 2 none),(7,.lref 2 0 2 0),(13,.agg [I yR.lo,I yR.hi]),(12,.ptr (.agg [I yR.lo,I yR.hi])),(11,B true),(1,.fn (.func 85) [] [.lref 0 0 1 0]),(5,.lsl 1 0 yG.length 2 none),(8,.sl r.nl (r.l.map Sn.D) (zsl r.nl 2) none),(9,I ((r.l.length:Nat):Int)),(10,I ((xi:Nat):Int))],[(0,⟨[I by_],1,false⟩),(1,⟨yG.map Sn.D,2,false⟩),(2,⟨[.agg [I yR.lo,I yR.hi]],2,false⟩)],3,1⟩

def sd205 (r:GS Sn) (by_:Int) (xi:Nat) (yR:Sn) (yG:List Sn):St:=⟨21,[(10,I ((xi+1:Nat):Int)),(19,I ((xi+1:Nat):Int)),(5,.lsl 3 0 ((yG++((za yR by_).l)).length) 2 none),(18,.lsl 3 0 ((yG++((za yR by_).l)).length) 2 none),(17,.sl ((za yR by_).nl) (((za yR by_).l).map Sn.D) (zsl ((za yR by_).nl) 2) none),(16,.agg [I yR.lo,I yR.hi]),(15,.fn (.func 85) [] [.lref 0 0 1 0]),(14,.lsl 1 0 yG.length 2 none),(7,.lref 2 0 2 0),(13,.agg [I yR.lo,I yR.hi]),(12,.ptr (.agg [I yR.lo,I yR.hi])),(11,B true),(1,.fn (.func 85) [] [.lref 0 0 1 0]),(5,.lsl 1 0 yG.length 2 none),(8,.sl r.nl (r.l.map Sn.D) (zsl r.nl 2) none),(9,I ((r.l.length:Nat):Int)),(10,I ((xi:Nat):Int))],[(0,⟨[I by_],1,false⟩),(2,⟨[.agg [I yR.lo,I yR.hi]],2,false⟩),(3,⟨(yG++((za yR by_).l)).map Sn.D,2,false⟩)],4,1⟩

def sd206 (r:GS Sn) (by_:Int) (xi:Nat) (yR:Sn) (yG:List Sn):St:=⟨21,[(10,I ((xi+1:Nat):Int)),(19,I ((xi+1:Nat):Int)),(5,.lsl 1 0 yG.length 2 none),(18,.lsl 1 0 yG.length 2 none),(17,.sl ((za yR by_).nl) (((za yR by_).l).map Sn.D) (zsl ((za yR by_).nl) 2) none),(16,.agg [I yR.lo,I yR.hi]),(15,.fn (.func 85) [] [.lref 0 0 1 0]),(14,.lsl 1 0 yG.length 2 none),(7,.lref 2 0 2 0),(13,.agg [I yR.lo,I yR.hi]),(12,.ptr (.agg [I yR.lo,I yR.hi])),(11,B true),(1,.fn (.func 85) [] [.lref 0 0 1 0]),(5,.lsl 1 0 yG.length 2 none),(8,.sl r.nl (r.l.map Sn.D) (zsl r.nl 2) none),(9,I ((r.l.length:Nat):Int)),(10,I ((xi:Nat):Int))],[(0,⟨[I by_],1,true⟩),(1,⟨yG.map Sn.D,2,false⟩),(2,⟨[.agg [I yR.lo,I yR.hi]],2,false⟩)],3,1⟩

def sd207 (r:GS Sn) (by_:Int) (xi:Nat) (yR:Sn) (yG:List Sn):St:=⟨21,[(10,I ((xi+1:Nat):Int)),(19,I ((xi+1:Nat):Int)),(5,.lsl 3 0 ((yG++((za yR by_).l)).length) 2 none),(18,.lsl 3 0 ((yG++((za yR by_).l)).length) 2 none),(17,.sl ((za yR by_).nl) (((za yR by_).l).map Sn.D) (zsl ((za yR by_).nl) 2) none),(16,.agg [I yR.lo,I yR.hi]),(15,.fn (.func 85) [] [.lref 0 0 1 0]),(14,.lsl 1 0 yG.length 2 none),(7,.lref 2 0 2 0),(13,.agg [I yR.lo,I yR.hi]),(12,.ptr (.agg [I yR.lo,I yR.hi])),(11,B true),(1,.fn (.func 85) [] [.lref 0 0 1 0]),(5,.lsl 1 0 yG.length 2 none),(8,.sl r.nl (r.l.map Sn.D) (zsl r.nl 2) none),(9,I ((r.l.length:Nat):Int)),(10,I ((xi:Nat):Int))],[(0,⟨[I by_],1,true⟩),(2,⟨[.agg [I yR.lo,I yR.hi]],2,false⟩),(3,⟨(yG++((za yR by_).l)).map Sn.D,2,false⟩)],4,1⟩

def sd208 (r:GS Sn) (by_:Int) (xi:Nat) (yR:Sn):St:=⟨21,[(10,I ((xi+1:Nat):Int)),(19,I ((xi+1:Nat):Int)),(5,.lsl 2 0 (((za yR by_).l).length) 2 none),(18,.lsl 2 0 (((za yR by_).l).length) 2 none),(17,.sl ((za yR by_).nl) (((za yR by_).l).map Sn.D) (zsl ((za yR by_).nl) 2) none),(16,.agg [I yR.lo,I yR.hi]),(15,.fn (.func 85) [] [.lref 0 0 1 0]),(14,.sl true [] 0 none),(7,.lref 1 0 2 0),(13,.agg [I yR.lo,I yR.hi]),(12,.ptr (.agg [I yR.lo,I yR.hi])),(11,B true),(1,.fn (.func 85) [] [.lref 0 0 1 0]),(5,.sl true [] 0 none),(8,.sl r.nl (r.l.map Sn.D) (zsl r.nl 2) none),(9,I ((r.l.length:Nat):Int)),(10,I ((xi:Nat):Int))],[(0,⟨[I by_],1,true⟩),(1,⟨[.agg [I yR.lo,I yR.hi]],2,false⟩),(2,⟨((za yR by_).l).map Sn.D,2,false⟩)],3,1⟩

def sd209 (r:GS Sn) (by_:Int) (xi:Nat) (yR:Sn):St:=⟨21,[(10,I ((xi+1:Nat):Int)),(19,I ((xi+1:Nat):Int)),(5,.lsl 2 0 (((za yR by_).l).length) 2 none),(18,.lsl 2 0 (((za yR by_).l).length) 2 none),(17,.sl ((za yR by_).nl) (((za yR by_).l).map Sn.D) (zsl ((za yR by_).nl) 2) none),(16,.agg [I yR.lo,I yR.hi]),(15,.fn (.func 85) [] [.lref 0 0 1 0]),(14,.sl true [] 0 none),(7,.lref 1 0 2 0),(13,.agg [I yR.lo,I yR.hi]),(12,.ptr (.agg [I yR.lo,I yR.hi])),(11,B true),(1,.fn (.func 85) [] [.lref 0 0 1 0]),(5,.sl true [] 0 none),(8,.sl r.nl (r.l.map Sn.D) (zsl r.nl 2) none),(9,I ((r.l.length:Nat):Int)),(10,I ((xi:Nat):Int))],[(0,⟨[I by_],1,false⟩),(1,⟨[.agg [I yR.lo,I yR.hi]],2,false⟩),(2,⟨((za yR by_).l).map Sn.D,2,false⟩)],3,1⟩

inductive LR_ranges_each_3p1 where
 | x0 (yH:List Sn)
 | x1 (yG:List Sn)
 | x2
 | x3
instance:Inhabited LR_ranges_each_3p1:=⟨.x0 default⟩
def zZ (by_:Int):List Sn→(List Sn)→LR_ranges_each_3p1
 | [],yH=>.x0 yH
 | yR::yZ,yH =>
  bif (za yR by_).nl then
   bif ((za yR by_).l).isEmpty then
    zZ by_ yZ yH
   else
    zZ by_ yZ (yH++((za yR by_).l))
  else
   bif ((za yR by_).l).isEmpty then
    zZ by_ yZ yH
   else
    zZ by_ yZ (yH++((za yR by_).l))
def yA (by_:Int):List Sn→(List Sn)→LR_ranges_each_3p1
 | [],yG=>.x1 yG
 | yR::yZ,yG =>
  bif (za yR by_).nl then
   bif ((za yR by_).l).isEmpty then
    yA by_ yZ yG
   else
    yA by_ yZ (yG++((za yR by_).l))
  else
   bif ((za yR by_).l).isEmpty then
    zZ by_ yZ yG
   else
    zZ by_ yZ (yG++((za yR by_).l))
def ranges_each_3p1b (by_:Int):List Sn→LR_ranges_each_3p1
 | []=>.x2
 | yR::yZ =>
  bif (za yR by_).nl then
   bif ((za yR by_).l).isEmpty then
    ranges_each_3p1b by_ yZ
   else
    zZ by_ yZ ((za yR by_).l)
  else
   bif ((za yR by_).l).isEmpty then
    ranges_each_3p1b by_ yZ
   else
    zZ by_ yZ ((za yR by_).l)
def yw (by_:Int):List Sn→LR_ranges_each_3p1
 | []=>.x3
 | yR::yZ =>
  bif (za yR by_).nl then
   bif ((za yR by_).l).isEmpty then
    yw by_ yZ
   else
    yA by_ yZ ((za yR by_).l)
  else
   bif ((za yR by_).l).isEmpty then
    ranges_each_3p1b by_ yZ
   else
    zZ by_ yZ ((za yR by_).l)
def yE (r:GS Sn) (by_:Int):LR_ranges_each_3p1→Exit × St
 | .x0 yH=>((.exit 0),⟨21,[(11,B false),(1,.fn (.func 85) [] [.lref 0 0 1 0]),(5,.lsl 1 0 yH.length 2 none),(8,.sl r.nl (r.l.map Sn.D) (zsl r.nl 2) none),(9,I ((r.l.length:Nat):Int)),(10,I ((r.l.length:Nat):Int))],[(0,⟨[I by_],1,true⟩),(1,⟨yH.map Sn.D,2,false⟩)],2,1⟩)
 | .x1 yG=>((.exit 0),⟨21,[(11,B false),(1,.fn (.func 85) [] [.lref 0 0 1 0]),(5,.lsl 1 0 yG.length 2 none),(8,.sl r.nl (r.l.map Sn.D) (zsl r.nl 2) none),(9,I ((r.l.length:Nat):Int)),(10,I ((r.l.length:Nat):Int))],[(0,⟨[I by_],1,false⟩),(1,⟨yG.map Sn.D,2,false⟩)],2,1⟩)
 | .x2=>((.exit 0),⟨21,[(11,B false),(1,.fn (.func 85) [] [.lref 0 0 1 0]),(5,.sl true [] 0 none),(8,.sl r.nl (r.l.map Sn.D) (zsl r.nl 2) none),(9,I ((r.l.length:Nat):Int)),(10,I ((r.l.length:Nat):Int))],[(0,⟨[I by_],1,true⟩)],1,1⟩)
 | .x3=>((.exit 0),⟨21,[(11,B false),(1,.fn (.func 85) [] [.lref 0 0 1 0]),(5,.sl true [] 0 none),(8,.sl r.nl (r.l.map Sn.D) (zsl r.nl 2) none),(9,I ((r.l.length:Nat):Int)),(10,I ((r.l.length:Nat):Int))],[(0,⟨[I by_],1,false⟩)],1,1⟩)
def iv_ranges_each_3p1 (r:GS Sn) (by_:Int):LR_ranges_each_3p1→Prop
 | .x0 yH=>(yH.length≤r.l.length)
 | .x1 yG=>(yG.length≤r.l.length)
 | .x2=>True
 | .x3=>True
def ranges_each_3p1c_l_o1 (by_:Int) (yR:Sn):List Ora:=[.dec true,.el (.agg [I yR.lo,I yR.hi]),.pureS (.sl ((za yR by_).nl) (((za yR by_).l).map Sn.D) (zsl ((za yR by_).nl) 2) none) true []]
def ranges_each_3p1c_l_o2 (by_:Int) (yR:Sn):List Ora:=[.dec true,.el (.agg [I yR.lo,I yR.hi]),.pureS (.sl ((za yR by_).nl) (((za yR by_).l).map Sn.D) (zsl ((za yR by_).nl) 2) none) false []]
theorem lp_ranges_each_3p1c (r:GS Sn) (by_:Int):∀ (yZ:List Sn) (xi:Nat) (yH:List Sn) (x8:r.l.drop xi=yZ) (xI:xi≤r.l.length) (hg3p1_vc3p1_0:yH.length≤xi) (hL3p1:r.l.length≤1099511627776),(lim cfg).loop 70 lp70_3 ⟨21,[(1,.fn (.func 85) [] [.lref 0 0 1 0]),(5,.lsl 1 0 yH.length 2 none),(8,.sl r.nl (r.l.map Sn.D) (zsl r.nl 2) none),(9,I ((r.l.length:Nat):Int)),(10,I ((xi:Nat):Int))],[(0,⟨[I by_],1,true⟩),(1,⟨yH.map Sn.D,2,false⟩)],2,1⟩=some (yE r by_ (zZ by_ yZ yH)):=by
 intro yZ
 induction yZ with
 | nil =>
  intro xi yH x8 xI hg3p1_vc3p1_0 hL3p1
  unfold zZ
  obtain rfl:xi=r.l.length:=nil_eq x8 xI
  exact yc [.dec false] (Ai (lt_no x8) trivial) (by kernel_rfl)
 | cons yR yZ ih =>
  intro xi yH x8 xI hg3p1_vc3p1_0 hL3p1
  have hlt3p1:=zj x8
  have hlx:=shift1_len yR by_
  unfold zZ
  have p1:=(el_at (s:=r) (f:=Sn.D) (k:=2) x8)
  cases h16:(za yR by_).nl with
  | true =>
   have p2:=(Ai (show flat fuelD (.sl ((za yR by_).nl) (((za yR by_).l).map Sn.D) (zsl ((za yR by_).nl) 2) none)=true from (by rw [h16] <;> kernel_rfl)) (Ai (trivial) (T_ranges_Shift_1 yR by_)))
   cases h17:((za yR by_).l).isEmpty with
   | true =>
    exact zR (ks:=[1,5,8,9,10]) (st':=(sd202 r by_ xi yR yH)) ((ranges_each_3p1c_l_o1 by_ yR)++[.op (some 18) ⟨.lsl 1 0 yH.length 2 none,[],[],3⟩,.rw 19 (I ((xi+1:Nat):Int))]) (Ai (ya (i:=xi) (by have:=zj x8; omega)) (Ai (app_none (te:=yl) (gO:=zB [(0,⟨[I by_],1,true⟩),(1,⟨yH.map Sn.D,2,false⟩),(2,⟨[.agg [I yR.lo,I yR.hi]],2,false⟩)]) (nxt:=3) (f:=Sn.D) (sz:=2) (d:=.lsl 1 0 yH.length 2 none) (za yR by_) h17 rfl) (Ai p2 (Ai p1 (Ai (yy x8) trivial))))) (by kernel_rfl) (by (simp only [sd202,go_sem,List.length_set,Nat.reduceAdd,Nat.reduceEqDiff,Nat.reduceLT,Nat.reduceLeDiff,bI2,zb.idsL,zb.renL,zb.snapAll,z6.idsL,z6.renL,z6.snapAll]) <;> rfl) (ih (xi+1) yH (zn x8) (zj x8) (by omega) (by omega)) (by kernel_rfl)
   | false =>
    exact zR (ks:=[1,5,8,9,10]) (st':=(sd203 r by_ xi yR yH)) ((ranges_each_3p1c_l_o1 by_ yR)++[.op (some 18) ⟨.lsl 3 0 ((yH++((za yR by_).l)).length) 2 none,[(1,none),(3,some ⟨(yH++((za yR by_).l)).map Sn.D,2,false⟩)],[1],4⟩,.rw 19 (I ((xi+1:Nat):Int))]) (Ai (ya (i:=xi) (by have:=zj x8; omega)) (Ai (app_moreD (te:=yl) (gO:=zB [(0,⟨[I by_],1,true⟩),(1,⟨yH.map Sn.D,2,false⟩),(2,⟨[.agg [I yR.lo,I yR.hi]],2,false⟩)]) (nxt:=3) (o:=1) (v:=yH) z6 (za yR by_) h17 (by kernel_rfl) rfl (by kernel_rfl) (by decide) ⟨by simp only [yl,big] <;> (first | assumption | omega | (exact two_bd (by omega) (by omega)) | (exact add_some (by omega)) | (exact add_some' (by omega)) | (exact one_some (by omega)) | (exact one_some' (by omega)) | (exact outside_len _ (by omega)) | (simp only [zT] at * <;> omega) | (simp only [zK,GS.some_l,List.length_set,List.length_append,List.length_cons,List.length_nil] at * <;> first | with_reducible assumption | omega) | (simp only [zK,GS.some_l,List.length_set,List.length_append,List.length_cons,List.length_nil,zT] at * <;> first | with_reducible assumption | omega) | (simp at * <;> omega)),by simp only [big] <;> (first | assumption | omega | (exact two_bd (by omega) (by omega)) | (exact add_some (by omega)) | (exact add_some' (by omega)) | (exact one_some (by omega)) | (exact one_some' (by omega)) | (exact outside_len _ (by omega)) | (simp only [zT] at * <;> omega) | (simp only [zK,GS.some_l,List.length_set,List.length_append,List.length_cons,List.length_nil] at * <;> first | with_reducible assumption | omega) | (simp only [zK,GS.some_l,List.length_set,List.length_append,List.length_cons,List.length_nil,zT] at * <;> first | with_reducible assumption | omega) | (simp at * <;> omega))⟩) (Ai p2 (Ai p1 (Ai (yy x8) trivial))))) (by kernel_rfl) (by (simp only [sd203,go_sem,List.length_set,Nat.reduceAdd,Nat.reduceEqDiff,Nat.reduceLT,Nat.reduceLeDiff,bI2,zb.idsL,zb.renL,zb.snapAll,z6.idsL,z6.renL,z6.snapAll]) <;> rfl) (ih (xi+1) (yH++((za yR by_).l)) (zn x8) (zj x8) (by simp only [List.length_append,List.length_cons,List.length_nil] at * <;> omega) (by omega)) (by kernel_rfl)
  | false =>
   have p3:=(Ai (show flat fuelD (.sl ((za yR by_).nl) (((za yR by_).l).map Sn.D) (zsl ((za yR by_).nl) 2) none)=false from (by rw [h16] <;> kernel_rfl)) (Ai (trivial) (T_ranges_Shift_1 yR by_)))
   cases h18:((za yR by_).l).isEmpty with
   | true =>
    exact zR (ks:=[1,5,8,9,10]) (st':=(sd202 r by_ xi yR yH)) ((ranges_each_3p1c_l_o2 by_ yR)++[.op (some 18) ⟨.lsl 1 0 yH.length 2 none,[],[],3⟩,.rw 19 (I ((xi+1:Nat):Int))]) (Ai (ya (i:=xi) (by have:=zj x8; omega)) (Ai (app_none (te:=yl) (gO:=zB [(0,⟨[I by_],1,true⟩),(1,⟨yH.map Sn.D,2,false⟩),(2,⟨[.agg [I yR.lo,I yR.hi]],2,false⟩)]) (nxt:=3) (f:=Sn.D) (sz:=2) (d:=.lsl 1 0 yH.length 2 none) (za yR by_) h18 rfl) (Ai p3 (Ai p1 (Ai (yy x8) trivial))))) (by kernel_rfl) (by (simp only [sd202,go_sem,List.length_set,Nat.reduceAdd,Nat.reduceEqDiff,Nat.reduceLT,Nat.reduceLeDiff,bI2,zb.idsL,zb.renL,zb.snapAll,z6.idsL,z6.renL,z6.snapAll]) <;> rfl) (ih (xi+1) yH (zn x8) (zj x8) (by omega) (by omega)) (by kernel_rfl)
   | false =>
    exact zR (ks:=[1,5,8,9,10]) (st':=(sd203 r by_ xi yR yH)) ((ranges_each_3p1c_l_o2 by_ yR)++[.op (some 18) ⟨.lsl 3 0 ((yH++((za yR by_).l)).length) 2 none,[(1,none),(3,some ⟨(yH++((za yR by_).l)).map Sn.D,2,false⟩)],[1],4⟩,.rw 19 (I ((xi+1:Nat):Int))]) (Ai (ya (i:=xi) (by have:=zj x8; omega)) (Ai (app_moreD (te:=yl) (gO:=zB [(0,⟨[I by_],1,true⟩),(1,⟨yH.map Sn.D,2,false⟩),(2,⟨[.agg [I yR.lo,I yR.hi]],2,false⟩)]) (nxt:=3) (o:=1) (v:=yH) z6 (za yR by_) h18 (by kernel_rfl) rfl (by kernel_rfl) (by decide) ⟨by simp only [yl,big] <;> (first | assumption | omega | (exact two_bd (by omega) (by omega)) | (exact add_some (by omega)) | (exact add_some' (by omega)) | (exact one_some (by omega)) | (exact one_some' (by omega)) | (exact outside_len _ (by omega)) | (simp only [zT] at * <;> omega) | (simp only [zK,GS.some_l,List.length_set,List.length_append,List.length_cons,List.length_nil] at * <;> first | with_reducible assumption | omega) | (simp only [zK,GS.some_l,List.length_set,List.length_append,List.length_cons,List.length_nil,zT] at * <;> first | with_reducible assumption | omega) | (simp at * <;> omega)),by simp only [big] <;> (first | assumption | omega | (exact two_bd (by omega) (by omega)) | (exact add_some (by omega)) | (exact add_some' (by omega)) | (exact one_some (by omega)) | (exact one_some' (by omega)) | (exact outside_len _ (by omega)) | (simp only [zT] at * <;> omega) | (simp only [zK,GS.some_l,List.length_set,List.length_append,List.length_cons,List.length_nil] at * <;> first | with_reducible assumption | omega) | (simp only [zK,GS.some_l,List.length_set,List.length_append,List.length_cons,List.length_nil,zT] at * <;> first | with_reducible assumption | omega) | (simp at * <;> omega))⟩) (Ai p3 (Ai p1 (Ai (yy x8) trivial))))) (by kernel_rfl) (by (simp only [sd203,go_sem,List.length_set,Nat.reduceAdd,Nat.reduceEqDiff,Nat.reduceLT,Nat.reduceLeDiff,bI2,zb.idsL,zb.renL,zb.snapAll,z6.idsL,z6.renL,z6.snapAll]) <;> rfl) (ih (xi+1) (yH++((za yR by_).l)) (zn x8) (zj x8) (by simp only [List.length_append,List.length_cons,List.length_nil] at * <;> omega) (by omega)) (by kernel_rfl)
theorem ivt_ranges_each_3p1c (r:GS Sn) (by_:Int):∀ (yZ:List Sn) (xi:Nat) (yH:List Sn) (x8:r.l.drop xi=yZ) (xI:xi≤r.l.length) (hg3p1_vc3p1_0:yH.length≤xi) (hL3p1:r.l.length≤1099511627776),iv_ranges_each_3p1 r by_ (zZ by_ yZ yH):=by
 intro yZ
 induction yZ with
 | nil =>
  intro xi yH x8 xI hg3p1_vc3p1_0 hL3p1
  unfold zZ
  obtain rfl:xi=r.l.length:=nil_eq x8 xI
  exact hg3p1_vc3p1_0
 | cons yR yZ ih =>
  intro xi yH x8 xI hg3p1_vc3p1_0 hL3p1
  have hlt3p1:=zj x8
  have hlx:=shift1_len yR by_
  unfold zZ
  cases h16:(za yR by_).nl with
  | true =>
   cases h17:((za yR by_).l).isEmpty with
   | true =>
    exact ih (xi+1) yH (zn x8) (zj x8) (by omega) (by omega)
   | false =>
    exact ih (xi+1) (yH++((za yR by_).l)) (zn x8) (zj x8) (by simp only [List.length_append,List.length_cons,List.length_nil] at * <;> omega) (by omega)
  | false =>
   cases h18:((za yR by_).l).isEmpty with
   | true =>
    exact ih (xi+1) yH (zn x8) (zj x8) (by omega) (by omega)
   | false =>
    exact ih (xi+1) (yH++((za yR by_).l)) (zn x8) (zj x8) (by simp only [List.length_append,List.length_cons,List.length_nil] at * <;> omega) (by omega)
def ranges_each_3p1a_l_o1 (by_:Int) (yR:Sn):List Ora:=[.dec true,.el (.agg [I yR.lo,I yR.hi]),.pureS (.sl ((za yR by_).nl) (((za yR by_).l).map Sn.D) (zsl ((za yR by_).nl) 2) none) true []]
def ranges_each_3p1a_l_o2 (by_:Int) (yR:Sn):List Ora:=[.dec true,.el (.agg [I yR.lo,I yR.hi]),.pureS (.sl ((za yR by_).nl) (((za yR by_).l).map Sn.D) (zsl ((za yR by_).nl) 2) none) false []]
theorem lp_ranges_each_3p1a (r:GS Sn) (by_:Int):∀ (yZ:List Sn) (xi:Nat) (yG:List Sn) (x8:r.l.drop xi=yZ) (xI:xi≤r.l.length) (hg3p1_va3p1_0:yG.length≤xi) (hL3p1:r.l.length≤1099511627776),(lim cfg).loop 70 lp70_3 ⟨21,[(1,.fn (.func 85) [] [.lref 0 0 1 0]),(5,.lsl 1 0 yG.length 2 none),(8,.sl r.nl (r.l.map Sn.D) (zsl r.nl 2) none),(9,I ((r.l.length:Nat):Int)),(10,I ((xi:Nat):Int))],[(0,⟨[I by_],1,false⟩),(1,⟨yG.map Sn.D,2,false⟩)],2,1⟩=some (yE r by_ (yA by_ yZ yG)):=by
 intro yZ
 induction yZ with
 | nil =>
  intro xi yG x8 xI hg3p1_va3p1_0 hL3p1
  unfold yA
  obtain rfl:xi=r.l.length:=nil_eq x8 xI
  exact yc [.dec false] (Ai (lt_no x8) trivial) (by kernel_rfl)
 | cons yR yZ ih =>
  intro xi yG x8 xI hg3p1_va3p1_0 hL3p1
  have hlt3p1:=zj x8
  have hlx:=shift1_len yR by_
  unfold yA
  have p1:=(el_at (s:=r) (f:=Sn.D) (k:=2) x8)
  cases h19:(za yR by_).nl with
  | true =>
   have p2:=(Ai (show flat fuelD (.sl ((za yR by_).nl) (((za yR by_).l).map Sn.D) (zsl ((za yR by_).nl) 2) none)=true from (by rw [h19] <;> kernel_rfl)) (Ai (trivial) (T_ranges_Shift_1 yR by_)))
   cases h20:((za yR by_).l).isEmpty with
   | true =>
    exact zR (ks:=[1,5,8,9,10]) (st':=(sd204 r by_ xi yR yG)) ((ranges_each_3p1a_l_o1 by_ yR)++[.op (some 18) ⟨.lsl 1 0 yG.length 2 none,[],[],3⟩,.rw 19 (I ((xi+1:Nat):Int))]) (Ai (ya (i:=xi) (by have:=zj x8; omega)) (Ai (app_none (te:=yl) (gO:=zB [(0,⟨[I by_],1,false⟩),(1,⟨yG.map Sn.D,2,false⟩),(2,⟨[.agg [I yR.lo,I yR.hi]],2,false⟩)]) (nxt:=3) (f:=Sn.D) (sz:=2) (d:=.lsl 1 0 yG.length 2 none) (za yR by_) h20 rfl) (Ai p2 (Ai p1 (Ai (yy x8) trivial))))) (by kernel_rfl) (by (simp only [sd204,go_sem,List.length_set,Nat.reduceAdd,Nat.reduceEqDiff,Nat.reduceLT,Nat.reduceLeDiff,bI2,zb.idsL,zb.renL,zb.snapAll,z6.idsL,z6.renL,z6.snapAll]) <;> rfl) (ih (xi+1) yG (zn x8) (zj x8) (by omega) (by omega)) (by kernel_rfl)
   | false =>
    exact zR (ks:=[1,5,8,9,10]) (st':=(sd205 r by_ xi yR yG)) ((ranges_each_3p1a_l_o1 by_ yR)++[.op (some 18) ⟨.lsl 3 0 ((yG++((za yR by_).l)).length) 2 none,[(1,none),(3,some ⟨(yG++((za yR by_).l)).map Sn.D,2,false⟩)],[1],4⟩,.rw 19 (I ((xi+1:Nat):Int))]) (Ai (ya (i:=xi) (by have:=zj x8; omega)) (Ai (app_moreD (te:=yl) (gO:=zB [(0,⟨[I by_],1,false⟩),(1,⟨yG.map Sn.D,2,false⟩),(2,⟨[.agg [I yR.lo,I yR.hi]],2,false⟩)]) (nxt:=3) (o:=1) (v:=yG) z6 (za yR by_) h20 (by kernel_rfl) rfl (by kernel_rfl) (by decide) ⟨by simp only [yl,big] <;> (first | assumption | omega | (exact two_bd (by omega) (by omega)) | (exact add_some (by omega)) | (exact add_some' (by omega)) | (exact one_some (by omega)) | (exact one_some' (by omega)) | (exact outside_len _ (by omega)) | (simp only [zT] at * <;> omega) | (simp only [zK,GS.some_l,List.length_set,List.length_append,List.length_cons,List.length_nil] at * <;> first | with_reducible assumption | omega) | (simp only [zK,GS.some_l,List.length_set,List.length_append,List.length_cons,List.length_nil,zT] at * <;> first | with_reducible assumption | omega) | (simp at * <;> omega)),by simp only [big] <;> (first | assumption | omega | (exact two_bd (by omega) (by omega)) | (exact add_some (by omega)) | (exact add_some' (by omega)) | (exact one_some (by omega)) | (exact one_some' (by omega)) | (exact outside_len _ (by omega)) | (simp only [zT] at * <;> omega) | (simp only [zK,GS.some_l,List.length_set,List.length_append,List.length_cons,List.length_nil] at * <;> first | with_reducible assumption | omega) | (simp only [zK,GS.some_l,List.length_set,List.length_append,List.length_cons,List.length_nil,zT] at * <;> first | with_reducible assumption | omega) | (simp at * <;> omega))⟩) (Ai p2 (Ai p1 (Ai (yy x8) trivial))))) (by kernel_rfl) (by (simp only [sd205,go_sem,List.length_set,Nat.reduceAdd,Nat.reduceEqDiff,Nat.reduceLT,Nat.reduceLeDiff,bI2,zb.idsL,zb.renL,zb.snapAll,z6.idsL,z6.renL,z6.snapAll]) <;> rfl) (ih (xi+1) (yG++((za yR by_).l)) (zn x8) (zj x8) (by simp only [List.length_append,List.length_cons,List.length_nil] at * <;> omega) (by omega)) (by kernel_rfl)
  | false =>
   have p3:=(Ai (show flat fuelD (.sl ((za yR by_).nl) (((za yR by_).l).map Sn.D) (zsl ((za yR by_).nl) 2) none)=false from (by rw [h19] <;> kernel_rfl)) (Ai (trivial) (T_ranges_Shift_1 yR by_)))
   cases h21:((za yR by_).l).isEmpty with
   | true =>
    exact zR (ks:=[1,5,8,9,10]) (st':=(sd206 r by_ xi yR yG)) ((ranges_each_3p1a_l_o2 by_ yR)++[.op (some 18) ⟨.lsl 1 0 yG.length 2 none,[],[],3⟩,.rw 19 (I ((xi+1:Nat):Int))]) (Ai (ya (i:=xi) (by have:=zj x8; omega)) (Ai (app_none (te:=yl) (gO:=zB [(0,⟨[I by_],1,true⟩),(1,⟨yG.map Sn.D,2,false⟩),(2,⟨[.agg [I yR.lo,I yR.hi]],2,false⟩)]) (nxt:=3) (f:=Sn.D) (sz:=2) (d:=.lsl 1 0 yG.length 2 none) (za yR by_) h21 rfl) (Ai p3 (Ai p1 (Ai (yy x8) trivial))))) (by kernel_rfl) (by (simp only [sd206,go_sem,List.length_set,Nat.reduceAdd,Nat.reduceEqDiff,Nat.reduceLT,Nat.reduceLeDiff,bI2,zb.idsL,zb.renL,zb.snapAll,z6.idsL,z6.renL,z6.snapAll]) <;> rfl) (lp_ranges_each_3p1c r by_ _ (xi+1) yG (zn x8) (zj x8) (by omega) (by omega)) (by kernel_rfl)
   | false =>
    exact zR (ks:=[1,5,8,9,10]) (st':=(sd207 r by_ xi yR yG)) ((ranges_each_3p1a_l_o2 by_ yR)++[.op (some 18) ⟨.lsl 3 0 ((yG++((za yR by_).l)).length) 2 none,[(1,none),(3,some ⟨(yG++((za yR by_).l)).map Sn.D,2,false⟩)],[1],4⟩,.rw 19 (I ((xi+1:Nat):Int))]) (Ai (ya (i:=xi) (by have:=zj x8; omega)) (Ai (app_moreD (te:=yl) (gO:=zB [(0,⟨[I by_],1,true⟩),(1,⟨yG.map Sn.D,2,false⟩),(2,⟨[.agg [I yR.lo,I yR.hi]],2,false⟩)]) (nxt:=3) (o:=1) (v:=yG) z6 (za yR by_) h21 (by kernel_rfl) rfl (by kernel_rfl) (by decide) ⟨by simp only [yl,big] <;> (first | assumption | omega | (exact two_bd (by omega) (by omega)) | (exact add_some (by omega)) | (exact add_some' (by omega)) | (exact one_some (by omega)) | (exact one_some' (by omega)) | (exact outside_len _ (by omega)) | (simp only [zT] at * <;> omega) | (simp only [zK,GS.some_l,List.length_set,List.length_append,List.length_cons,List.length_nil] at * <;> first | with_reducible assumption | omega) | (simp only [zK,GS.some_l,List.length_set,List.length_append,List.length_cons,List.length_nil,zT] at * <;> first | with_reducible assumption | omega) | (simp at * <;> omega)),by simp only [big] <;> (first | assumption | omega | (exact two_bd (by omega) (by omega)) | (exact add_some (by omega)) | (exact add_some' (by omega)) | (exact one_some (by omega)) | (exact one_some' (by omega)) | (exact outside_len _ (by omega)) | (simp only [zT] at * <;> omega) | (simp only [zK,GS.some_l,List.length_set,List.length_append,List.length_cons,List.length_nil] at * <;> first | with_reducible assumption | omega) | (simp only [zK,GS.some_l,List.length_set,List.length_append,List.length_cons,List.length_nil,zT] at * <;> first | with_reducible assumption | omega) | (simp at * <;> omega))⟩) (Ai p3 (Ai p1 (Ai (yy x8) trivial))))) (by kernel_rfl) (by (simp only [sd207,go_sem,List.length_set,Nat.reduceAdd,Nat.reduceEqDiff,Nat.reduceLT,Nat.reduceLeDiff,bI2,zb.idsL,zb.renL,zb.snapAll,z6.idsL,z6.renL,z6.snapAll]) <;> rfl) (lp_ranges_each_3p1c r by_ _ (xi+1) (yG++((za yR by_).l)) (zn x8) (zj x8) (by simp only [List.length_append,List.length_cons,List.length_nil] at * <;> omega) (by omega)) (by kernel_rfl)
theorem ivt_ranges_each_3p1a (r:GS Sn) (by_:Int):∀ (yZ:List Sn) (xi:Nat) (yG:List Sn) (x8:r.l.drop xi=yZ) (xI:xi≤r.l.length) (hg3p1_va3p1_0:yG.length≤xi) (hL3p1:r.l.length≤1099511627776),iv_ranges_each_3p1 r by_ (yA by_ yZ yG):=by
 intro yZ
 induction yZ with
 | nil =>
  intro xi yG x8 xI hg3p1_va3p1_0 hL3p1
  unfold yA
  obtain rfl:xi=r.l.length:=nil_eq x8 xI
  exact hg3p1_va3p1_0
 | cons yR yZ ih =>
  intro xi yG x8 xI hg3p1_va3p1_0 hL3p1
  have hlt3p1:=zj x8
  have hlx:=shift1_len yR by_
  unfold yA
  cases h19:(za yR by_).nl with
  | true =>
   cases h20:((za yR by_).l).isEmpty with
   | true =>
    exact ih (xi+1) yG (zn x8) (zj x8) (by omega) (by omega)
   | false =>
    exact ih (xi+1) (yG++((za yR by_).l)) (zn x8) (zj x8) (by simp only [List.length_append,List.length_cons,List.length_nil] at * <;> omega) (by omega)
  | false =>
   cases h21:((za yR by_).l).isEmpty with
   | true =>
    exact ivt_ranges_each_3p1c r by_ _ (xi+1) yG (zn x8) (zj x8) (by omega) (by omega)
   | false =>
    exact ivt_ranges_each_3p1c r by_ _ (xi+1) (yG++((za yR by_).l)) (zn x8) (zj x8) (by simp only [List.length_append,List.length_cons,List.length_nil] at * <;> omega) (by omega)
def ranges_each_3p1b_l_o1 (by_:Int) (yR:Sn):List Ora:=[.dec true,.el (.agg [I yR.lo,I yR.hi]),.pureS (.sl ((za yR by_).nl) (((za yR by_).l).map Sn.D) (zsl ((za yR by_).nl) 2) none) true []]
def ranges_each_3p1b_l_o2 (by_:Int) (yR:Sn):List Ora:=[.dec true,.el (.agg [I yR.lo,I yR.hi]),.pureS (.sl ((za yR by_).nl) (((za yR by_).l).map Sn.D) (zsl ((za yR by_).nl) 2) none) false []]
theorem lp_ranges_each_3p1b (r:GS Sn) (by_:Int):∀ (yZ:List Sn) (xi:Nat) (x8:r.l.drop xi=yZ) (xI:xi≤r.l.length) (hL3p1:r.l.length≤1099511627776),(lim cfg).loop 70 lp70_3 ⟨21,[(1,.fn (.func 85) [] [.lref 0 0 1 0]),(5,.sl true [] 0 none),(8,.sl r.nl (r.l.map Sn.D) (zsl r.nl 2) none),(9,I ((r.l.length:Nat):Int)),(10,I ((xi:Nat):Int))],[(0,⟨[I by_],1,true⟩)],1,1⟩=some (yE r by_ (ranges_each_3p1b by_ yZ)):=by
 intro yZ
 induction yZ with
 | nil =>
  intro xi x8 xI hL3p1
  unfold ranges_each_3p1b
  obtain rfl:xi=r.l.length:=nil_eq x8 xI
  exact yc [.dec false] (Ai (lt_no x8) trivial) (by kernel_rfl)
 | cons yR yZ ih =>
  intro xi x8 xI hL3p1
  have hlt3p1:=zj x8
  have hlx:=shift1_len yR by_
  unfold ranges_each_3p1b
  have p1:=(el_at (s:=r) (f:=Sn.D) (k:=2) x8)
  cases h22:(za yR by_).nl with
  | true =>
   have p2:=(Ai (show flat fuelD (.sl ((za yR by_).nl) (((za yR by_).l).map Sn.D) (zsl ((za yR by_).nl) 2) none)=true from (by rw [h22] <;> kernel_rfl)) (Ai (trivial) (T_ranges_Shift_1 yR by_)))
   cases h23:((za yR by_).l).isEmpty with
   | true =>
    exact po_turn ((ranges_each_3p1b_l_o1 by_ yR)++[.op (some 18) ⟨.sl true [] 0 none,[],[],2⟩,.rw 19 (I ((xi+1:Nat):Int))]) (Ai (ya (i:=xi) (by have:=zj x8; omega)) (Ai (app_none (te:=yl) (gO:=zB [(0,⟨[I by_],1,true⟩),(1,⟨[.agg [I yR.lo,I yR.hi]],2,false⟩)]) (nxt:=2) (f:=Sn.D) (sz:=2) (d:=.sl true [] 0 none) (za yR by_) h23 rfl) (Ai p2 (Ai p1 (Ai (yy x8) trivial))))) (ih (xi+1) (zn x8) (zj x8) (by omega)) (by kernel_rfl)
   | false =>
    exact zR (ks:=[1,5,8,9,10]) (st':=(sd208 r by_ xi yR)) ((ranges_each_3p1b_l_o1 by_ yR)++[.op (some 18) ⟨.lsl 2 0 (((za yR by_).l).length) 2 none,[(2,some ⟨((za yR by_).l).map Sn.D,2,false⟩)],[],3⟩,.rw 19 (I ((xi+1:Nat):Int))]) (Ai (ya (i:=xi) (by have:=zj x8; omega)) (Ai (app_newD (te:=yl) (gO:=zB [(0,⟨[I by_],1,true⟩),(1,⟨[.agg [I yR.lo,I yR.hi]],2,false⟩)]) (nxt:=2) (els0:=[]) (sz0:=0) (cap0:=none) z6 (za yR by_) h23 rfl (by kernel_rfl) (by decide) ⟨by simp only [yl,big] <;> (first | assumption | omega | (exact two_bd (by omega) (by omega)) | (exact add_some (by omega)) | (exact add_some' (by omega)) | (exact one_some (by omega)) | (exact one_some' (by omega)) | (exact outside_len _ (by omega)) | (simp only [zT] at * <;> omega) | (simp only [zK,GS.some_l,List.length_set,List.length_append,List.length_cons,List.length_nil] at * <;> first | with_reducible assumption | omega) | (simp only [zK,GS.some_l,List.length_set,List.length_append,List.length_cons,List.length_nil,zT] at * <;> first | with_reducible assumption | omega) | (simp at * <;> omega)),by simp only [big] <;> (first | assumption | omega | (exact two_bd (by omega) (by omega)) | (exact add_some (by omega)) | (exact add_some' (by omega)) | (exact one_some (by omega)) | (exact one_some' (by omega)) | (exact outside_len _ (by omega)) | (simp only [zT] at * <;> omega) | (simp only [zK,GS.some_l,List.length_set,List.length_append,List.length_cons,List.length_nil] at * <;> first | with_reducible assumption | omega) | (simp only [zK,GS.some_l,List.length_set,List.length_append,List.length_cons,List.length_nil,zT] at * <;> first | with_reducible assumption | omega) | (simp at * <;> omega))⟩) (Ai p2 (Ai p1 (Ai (yy x8) trivial))))) (by kernel_rfl) (by (simp only [sd208,go_sem,List.length_set,Nat.reduceAdd,Nat.reduceEqDiff,Nat.reduceLT,Nat.reduceLeDiff,bI2,zb.idsL,zb.renL,zb.snapAll,z6.idsL,z6.renL,z6.snapAll]) <;> rfl) (lp_ranges_each_3p1c r by_ _ (xi+1) ((za yR by_).l) (zn x8) (zj x8) (by omega) (by omega)) (by kernel_rfl)
  | false =>
   have p3:=(Ai (show flat fuelD (.sl ((za yR by_).nl) (((za yR by_).l).map Sn.D) (zsl ((za yR by_).nl) 2) none)=false from (by rw [h22] <;> kernel_rfl)) (Ai (trivial) (T_ranges_Shift_1 yR by_)))
   cases h24:((za yR by_).l).isEmpty with
   | true =>
    exact po_turn ((ranges_each_3p1b_l_o2 by_ yR)++[.op (some 18) ⟨.sl true [] 0 none,[],[],2⟩,.rw 19 (I ((xi+1:Nat):Int))]) (Ai (ya (i:=xi) (by have:=zj x8; omega)) (Ai (app_none (te:=yl) (gO:=zB [(0,⟨[I by_],1,true⟩),(1,⟨[.agg [I yR.lo,I yR.hi]],2,false⟩)]) (nxt:=2) (f:=Sn.D) (sz:=2) (d:=.sl true [] 0 none) (za yR by_) h24 rfl) (Ai p3 (Ai p1 (Ai (yy x8) trivial))))) (ih (xi+1) (zn x8) (zj x8) (by omega)) (by kernel_rfl)
   | false =>
    exact zR (ks:=[1,5,8,9,10]) (st':=(sd208 r by_ xi yR)) ((ranges_each_3p1b_l_o2 by_ yR)++[.op (some 18) ⟨.lsl 2 0 (((za yR by_).l).length) 2 none,[(2,some ⟨((za yR by_).l).map Sn.D,2,false⟩)],[],3⟩,.rw 19 (I ((xi+1:Nat):Int))]) (Ai (ya (i:=xi) (by have:=zj x8; omega)) (Ai (app_newD (te:=yl) (gO:=zB [(0,⟨[I by_],1,true⟩),(1,⟨[.agg [I yR.lo,I yR.hi]],2,false⟩)]) (nxt:=2) (els0:=[]) (sz0:=0) (cap0:=none) z6 (za yR by_) h24 rfl (by kernel_rfl) (by decide) ⟨by simp only [yl,big] <;> (first | assumption | omega | (exact two_bd (by omega) (by omega)) | (exact add_some (by omega)) | (exact add_some' (by omega)) | (exact one_some (by omega)) | (exact one_some' (by omega)) | (exact outside_len _ (by omega)) | (simp only [zT] at * <;> omega) | (simp only [zK,GS.some_l,List.length_set,List.length_append,List.length_cons,List.length_nil] at * <;> first | with_reducible assumption | omega) | (simp only [zK,GS.some_l,List.length_set,List.length_append,List.length_cons,List.length_nil,zT] at * <;> first | with_reducible assumption | omega) | (simp at * <;> omega)),by simp only [big] <;> (first | assumption | omega | (exact two_bd (by omega) (by omega)) | (exact add_some (by omega)) | (exact add_some' (by omega)) | (exact one_some (by omega)) | (exact one_some' (by omega)) | (exact outside_len _ (by omega)) | (simp only [zT] at * <;> omega) | (simp only [zK,GS.some_l,List.length_set,List.length_append,List.length_cons,List.length_nil] at * <;> first | with_reducible assumption | omega) | (simp only [zK,GS.some_l,List.length_set,List.length_append,List.length_cons,List.length_nil,zT] at * <;> first | with_reducible assumption | omega) | (simp at * <;> omega))⟩) (Ai p3 (Ai p1 (Ai (yy x8) trivial))))) (by kernel_rfl) (by (simp only [sd208,go_sem,List.length_set,Nat.reduceAdd,Nat.reduceEqDiff,Nat.reduceLT,Nat.reduceLeDiff,bI2,zb.idsL,zb.renL,zb.snapAll,z6.idsL,z6.renL,z6.snapAll]) <;> rfl) (lp_ranges_each_3p1c r by_ _ (xi+1) ((za yR by_).l) (zn x8) (zj x8) (by omega) (by omega)) (by kernel_rfl)
theorem ivt_ranges_each_3p1b (r:GS Sn) (by_:Int):∀ (yZ:List Sn) (xi:Nat) (x8:r.l.drop xi=yZ) (xI:xi≤r.l.length) (hL3p1:r.l.length≤1099511627776),iv_ranges_each_3p1 r by_ (ranges_each_3p1b by_ yZ):=by
 intro yZ
 induction yZ with
 | nil =>
  intro xi x8 xI hL3p1
  unfold ranges_each_3p1b
  obtain rfl:xi=r.l.length:=nil_eq x8 xI
  exact trivial
 | cons yR yZ ih =>
  intro xi x8 xI hL3p1
  have hlt3p1:=zj x8
  have hlx:=shift1_len yR by_
  unfold ranges_each_3p1b
  cases h22:(za yR by_).nl with
  | true =>
   cases h23:((za yR by_).l).isEmpty with
   | true =>
    exact ih (xi+1) (zn x8) (zj x8) (by omega)
   | false =>
    exact ivt_ranges_each_3p1c r by_ _ (xi+1) ((za yR by_).l) (zn x8) (zj x8) (by omega) (by omega)
  | false =>
   cases h24:((za yR by_).l).isEmpty with
   | true =>
    exact ih (xi+1) (zn x8) (zj x8) (by omega)
   | false =>
    exact ivt_ranges_each_3p1c r by_ _ (xi+1) ((za yR by_).l) (zn x8) (zj x8) (by omega) (by omega)
def ranges_each_3p1_l_o1 (by_:Int) (yR:Sn):List Ora:=[.dec true,.el (.agg [I yR.lo,I yR.hi]),.pureS (.sl ((za yR by_).nl) (((za yR by_).l).map Sn.D) (zsl ((za yR by_).nl) 2) none) true []]
def ranges_each_3p1_l_o2 (by_:Int) (yR:Sn):List Ora:=[.dec true,.el (.agg [I yR.lo,I yR.hi]),.pureS (.sl ((za yR by_).nl) (((za yR by_).l).map Sn.D) (zsl ((za yR by_).nl) 2) none) false []]
theorem lp_ranges_each_3p1 (r:GS Sn) (by_:Int):∀ (yZ:List Sn) (xi:Nat) (x8:r.l.drop xi=yZ) (xI:xi≤r.l.length) (hL3p1:r.l.length≤1099511627776),(lim cfg).loop 70 lp70_3 ⟨21,[(1,.fn (.func 85) [] [.lref 0 0 1 0]),(5,.sl true [] 0 none),(8,.sl r.nl (r.l.map Sn.D) (zsl r.nl 2) none),(9,I ((r.l.length:Nat):Int)),(10,I ((xi:Nat):Int))],[(0,⟨[I by_],1,false⟩)],1,1⟩=some (yE r by_ (yw by_ yZ)):=by
 intro yZ
 induction yZ with
 | nil =>
  intro xi x8 xI hL3p1
  unfold yw
  obtain rfl:xi=r.l.length:=nil_eq x8 xI
  exact yc [.dec false] (Ai (lt_no x8) trivial) (by kernel_rfl)
 | cons yR yZ ih =>
  intro xi x8 xI hL3p1
  have hlt3p1:=zj x8
  have hlx:=shift1_len yR by_
  unfold yw
  have p1:=(el_at (s:=r) (f:=Sn.D) (k:=2) x8)
  cases h25:(za yR by_).nl with
  | true =>
   have p2:=(Ai (show flat fuelD (.sl ((za yR by_).nl) (((za yR by_).l).map Sn.D) (zsl ((za yR by_).nl) 2) none)=true from (by rw [h25] <;> kernel_rfl)) (Ai (trivial) (T_ranges_Shift_1 yR by_)))
   cases h26:((za yR by_).l).isEmpty with
   | true =>
    exact po_turn ((ranges_each_3p1_l_o1 by_ yR)++[.op (some 18) ⟨.sl true [] 0 none,[],[],2⟩,.rw 19 (I ((xi+1:Nat):Int))]) (Ai (ya (i:=xi) (by have:=zj x8; omega)) (Ai (app_none (te:=yl) (gO:=zB [(0,⟨[I by_],1,false⟩),(1,⟨[.agg [I yR.lo,I yR.hi]],2,false⟩)]) (nxt:=2) (f:=Sn.D) (sz:=2) (d:=.sl true [] 0 none) (za yR by_) h26 rfl) (Ai p2 (Ai p1 (Ai (yy x8) trivial))))) (ih (xi+1) (zn x8) (zj x8) (by omega)) (by kernel_rfl)
   | false =>
    exact zR (ks:=[1,5,8,9,10]) (st':=(sd209 r by_ xi yR)) ((ranges_each_3p1_l_o1 by_ yR)++[.op (some 18) ⟨.lsl 2 0 (((za yR by_).l).length) 2 none,[(2,some ⟨((za yR by_).l).map Sn.D,2,false⟩)],[],3⟩,.rw 19 (I ((xi+1:Nat):Int))]) (Ai (ya (i:=xi) (by have:=zj x8; omega)) (Ai (app_newD (te:=yl) (gO:=zB [(0,⟨[I by_],1,false⟩),(1,⟨[.agg [I yR.lo,I yR.hi]],2,false⟩)]) (nxt:=2) (els0:=[]) (sz0:=0) (cap0:=none) z6 (za yR by_) h26 rfl (by kernel_rfl) (by decide) ⟨by simp only [yl,big] <;> (first | assumption | omega | (exact two_bd (by omega) (by omega)) | (exact add_some (by omega)) | (exact add_some' (by omega)) | (exact one_some (by omega)) | (exact one_some' (by omega)) | (exact outside_len _ (by omega)) | (simp only [zT] at * <;> omega) | (simp only [zK,GS.some_l,List.length_set,List.length_append,List.length_cons,List.length_nil] at * <;> first | with_reducible assumption | omega) | (simp only [zK,GS.some_l,List.length_set,List.length_append,List.length_cons,List.length_nil,zT] at * <;> first | with_reducible assumption | omega) | (simp at * <;> omega)),by simp only [big] <;> (first | assumption | omega | (exact two_bd (by omega) (by omega)) | (exact add_some (by omega)) | (exact add_some' (by omega)) | (exact one_some (by omega)) | (exact one_some' (by omega)) | (exact outside_len _ (by omega)) | (simp only [zT] at * <;> omega) | (simp only [zK,GS.some_l,List.length_set,List.length_append,List.length_cons,List.length_nil] at * <;> first | with_reducible assumption | omega) | (simp only [zK,GS.some_l,List.length_set,List.length_append,List.length_cons,List.length_nil,zT] at * <;> first | with_reducible assumption | omega) | (simp at * <;> omega))⟩) (Ai p2 (Ai p1 (Ai (yy x8) trivial))))) (by kernel_rfl) (by (simp only [sd209,go_sem,List.length_set,Nat.reduceAdd,Nat.reduceEqDiff,Nat.reduceLT,Nat.reduceLeDiff,bI2,zb.idsL,zb.renL,zb.snapAll,z6.idsL,z6.renL,z6.snapAll]) <;> rfl) (lp_ranges_each_3p1a r by_ _ (xi+1) ((za yR by_).l) (zn x8) (zj x8) (by omega) (by omega)) (by kernel_rfl)
  | false =>
   have p3:=(Ai (show flat fuelD (.sl ((za yR by_).nl) (((za yR by_).l).map Sn.D) (zsl ((za yR by_).nl) 2) none)=false from (by rw [h25] <;> kernel_rfl)) (Ai (trivial) (T_ranges_Shift_1 yR by_)))
   cases h27:((za yR by_).l).isEmpty with
   | true =>
    exact po_turn ((ranges_each_3p1_l_o2 by_ yR)++[.op (some 18) ⟨.sl true [] 0 none,[],[],2⟩,.rw 19 (I ((xi+1:Nat):Int))]) (Ai (ya (i:=xi) (by have:=zj x8; omega)) (Ai (app_none (te:=yl) (gO:=zB [(0,⟨[I by_],1,true⟩),(1,⟨[.agg [I yR.lo,I yR.hi]],2,false⟩)]) (nxt:=2) (f:=Sn.D) (sz:=2) (d:=.sl true [] 0 none) (za yR by_) h27 rfl) (Ai p3 (Ai p1 (Ai (yy x8) trivial))))) (lp_ranges_each_3p1b r by_ _ (xi+1) (zn x8) (zj x8) (by omega)) (by kernel_rfl)
   | false =>
    exact zR (ks:=[1,5,8,9,10]) (st':=(sd208 r by_ xi yR)) ((ranges_each_3p1_l_o2 by_ yR)++[.op (some 18) ⟨.lsl 2 0 (((za yR by_).l).length) 2 none,[(2,some ⟨((za yR by_).l).map Sn.D,2,false⟩)],[],3⟩,.rw 19 (I ((xi+1:Nat):Int))]) (Ai (ya (i:=xi) (by have:=zj x8; omega)) (Ai (app_newD (te:=yl) (gO:=zB [(0,⟨[I by_],1,true⟩),(1,⟨[.agg [I yR.lo,I yR.hi]],2,false⟩)]) (nxt:=2) (els0:=[]) (sz0:=0) (cap0:=none) z6 (za yR by_) h27 rfl (by kernel_rfl) (by decide) ⟨by simp only [yl,big] <;> (first | assumption | omega | (exact two_bd (by omega) (by omega)) | (exact add_some (by omega)) | (exact add_some' (by omega)) | (exact one_some (by omega)) | (exact one_some' (by omega)) | (exact outside_len _ (by omega)) | (simp only [zT] at * <;> omega) | (simp only [zK,GS.some_l,List.length_set,List.length_append,List.length_cons,List.length_nil] at * <;> first | with_reducible assumption | omega) | (simp only [zK,GS.some_l,List.length_set,List.length_append,List.length_cons,List.length_nil,zT] at * <;> first | with_reducible assumption | omega) | (simp at * <;> omega)),by simp only [big] <;> (first | assumption | omega | (exact two_bd (by omega) (by omega)) | (exact add_some (by omega)) | (exact add_some' (by omega)) | (exact one_some (by omega)) | (exact one_some' (by omega)) | (exact outside_len _ (by omega)) | (simp only [zT] at * <;> omega) | (simp only [zK,GS.some_l,List.length_set,List.length_append,List.length_cons,List.length_nil] at * <;> first | with_reducible assumption | omega) | (simp only [zK,GS.some_l,List.length_set,List.length_append,List.length_cons,List.length_nil,zT] at * <;> first | with_reducible assumption | omega) | (simp at * <;> omega))⟩) (Ai p3 (Ai p1 (Ai (yy x8) trivial))))) (by kernel_rfl) (by (simp only [sd208,go_sem,List.length_set,Nat.reduceAdd,Nat.reduceEqDiff,Nat.reduceLT,Nat.reduceLeDiff,bI2,zb.idsL,zb.renL,zb.snapAll,z6.idsL,z6.renL,z6.snapAll]) <;> rfl) (lp_ranges_each_3p1c r by_ _ (xi+1) ((za yR by_).l) (zn x8) (zj x8) (by omega) (by omega)) (by kernel_rfl)
theorem ivt_ranges_each_3p1 (r:GS Sn) (by_:Int):∀ (yZ:List Sn) (xi:Nat) (x8:r.l.drop xi=yZ) (xI:xi≤r.l.length) (hL3p1:r.l.length≤1099511627776),iv_ranges_each_3p1 r by_ (yw by_ yZ):=by
 intro yZ
 induction yZ with
 | nil =>
  intro xi x8 xI hL3p1
  unfold yw
  obtain rfl:xi=r.l.length:=nil_eq x8 xI
  exact trivial
 | cons yR yZ ih =>
  intro xi x8 xI hL3p1
  have hlt3p1:=zj x8
  have hlx:=shift1_len yR by_
  unfold yw
  cases h25:(za yR by_).nl with
  | true =>
   cases h26:((za yR by_).l).isEmpty with
   | true =>
    exact ih (xi+1) (zn x8) (zj x8) (by omega)
   | false =>
    exact ivt_ranges_each_3p1a r by_ _ (xi+1) ((za yR by_).l) (zn x8) (zj x8) (by omega) (by omega)
  | false =>
   cases h27:((za yR by_).l).isEmpty with
   | true =>
    exact ivt_ranges_each_3p1b r by_ _ (xi+1) (zn x8) (zj x8) (by omega)
   | false =>
    exact ivt_ranges_each_3p1c r by_ _ (xi+1) ((za yR by_).l) (zn x8) (zj x8) (by omega) (by omega)

def zd (r:GS Sn) (by_:Int):(GS Sn) × Int :=
 bif ((zz r) != 0) then
  (GS.nil,(zz r))
 else
  bif decide (((r.l.length:Nat):Int) > 0) then
   bif (yu by_ (-2199023255552) 2199023255552) then
    match yw by_ r.l with
    | .x0 yH =>
     match zD (zo zm yH) 0 with
     | .x0 yI =>
      bif decide (((yI.length:Nat):Int) > 64) then
       (GS.nil,2)
      else
       (GS.some yI,0)
     | .x1 xf yP yI =>
      (GS.nil,2)
     | .x2 xf yP yI =>
      (GS.nil,2)
     | .x3 =>
      (GS.nil,0)
     | .x4 xf yP =>
      (GS.nil,2)
     | .x5 xf yP =>
      (GS.nil,2)
    | .x1 yG =>
     match zD (zo zm yG) 0 with
     | .x0 yI =>
      bif decide (((yI.length:Nat):Int) > 64) then
       (GS.nil,2)
      else
       (GS.some yI,0)
     | .x1 xf yP yI =>
      (GS.nil,2)
     | .x2 xf yP yI =>
      (GS.nil,2)
     | .x3 =>
      (GS.nil,0)
     | .x4 xf yP =>
      (GS.nil,2)
     | .x5 xf yP =>
      (GS.nil,2)
    | .x2 =>
     (GS.nil,0)
    | .x3 =>
     (GS.nil,0)
   else
    (GS.nil,2)
  else
   match yw by_ r.l with
   | .x0 yH =>
    match zD (zo zm yH) 0 with
    | .x0 yI =>
     bif decide (((yI.length:Nat):Int) > 64) then
      (GS.nil,2)
     else
      (GS.some yI,0)
    | .x1 xf yP yI =>
     (GS.nil,2)
    | .x2 xf yP yI =>
     (GS.nil,2)
    | .x3 =>
     (GS.nil,0)
    | .x4 xf yP =>
     (GS.nil,2)
    | .x5 xf yP =>
     (GS.nil,2)
   | .x1 yG =>
    match zD (zo zm yG) 0 with
    | .x0 yI =>
     bif decide (((yI.length:Nat):Int) > 64) then
      (GS.nil,2)
     else
      (GS.some yI,0)
    | .x1 xf yP yI =>
     (GS.nil,2)
    | .x2 xf yP yI =>
     (GS.nil,2)
    | .x3 =>
     (GS.nil,0)
    | .x4 xf yP =>
     (GS.nil,2)
    | .x5 xf yP =>
     (GS.nil,2)
   | .x2 =>
    (GS.nil,0)
   | .x3 =>
    (GS.nil,0)

def yn (r:GS Sn) (by_:Int):List Ora:=[.pure (I (zz r)),.dec false,.rw 13 (I ((r.l.length:Nat):Int)),.dec true,.pure (B (yu by_ (-2199023255552) 2199023255552))]

def ranges_Shift_o2 (r:GS Sn) (by_:Int) (yH:List Sn):List Ora:=[.pure (I (zz r)),.dec false,.rw 13 (I ((r.l.length:Nat):Int)),.dec false,.inl (.lsl 1 0 yH.length 2 none) [(0,⟨[I by_],1,true⟩),(1,⟨yH.map Sn.D,2,false⟩)] 2]

def ranges_Shift_o3 (r:GS Sn) (by_:Int) (yG:List Sn):List Ora:=[.pure (I (zz r)),.dec false,.rw 13 (I ((r.l.length:Nat):Int)),.dec false,.inl (.lsl 1 0 yG.length 2 none) [(0,⟨[I by_],1,false⟩),(1,⟨yG.map Sn.D,2,false⟩)] 2]

def sd210 (r:GS Sn) (by_:Int) (yH:List Sn):St:=⟨21,[(11,B false),(1,.fn (.func 85) [] [.lref 0 0 1 0]),(5,.lsl 1 0 yH.length 2 none),(8,.sl r.nl (r.l.map Sn.D) (zsl r.nl 2) none),(9,I ((r.l.length:Nat):Int)),(10,I ((r.l.length:Nat):Int))],[(0,⟨[I by_],1,true⟩),(1,⟨yH.map Sn.D,2,false⟩)],2,1⟩

def sd212 (yH:List Sn):St:=⟨65,[(4,.sl true [] 0 none),(10,.lsl 1 0 yH.length 2 none),(11,I ((yH.length:Nat):Int)),(12,I 0)],[(1,⟨(zo zm yH).map Sn.D,2,false⟩)],2,2⟩

def sd213 (yH:List Sn) (yI:List Sn):St:=⟨65,[(13,B false),(4,.lsl 2 0 yI.length 2 none),(10,.lsl 1 0 yH.length 2 none),(11,I ((yH.length:Nat):Int)),(12,I (((zo zm yH).length:Nat):Int))],[(1,⟨(zo zm yH).map Sn.D,2,false⟩),(2,⟨yI.map Sn.D,2,false⟩)],3,2⟩

def sd211 (yH:List Sn):St:=⟨65,[(12,I 0),(11,I ((yH.length:Nat):Int)),(10,.lsl 1 0 yH.length 2 none),(4,.sl true [] 0 none),(9,.tup []),(8,.lsl 1 0 yH.length 2 none),(3,I 0),(2,.sl true [] 0 none),(0,.lsl 1 0 yH.length 2 none)],[(1,⟨(zo zm yH).map Sn.D,2,false⟩)],2,2⟩

def sd214 (yH:List Sn) (yI:List Sn) (xf:Nat) (yP:Sn):St:=⟨65,[(3,I 2),(2,.sl true [] 0 none),(25,B true),(24,B true),(23,B false),(22,I yP.hi),(21,.lref 3 0 2 1),(20,B false),(19,B false),(18,B true),(17,I yP.lo),(16,.lref 3 0 2 0),(6,.lref 3 0 2 0),(15,.agg [I yP.lo,I yP.hi]),(14,.lref 1 xf 2 0),(13,B true),(4,.lsl 2 0 yI.length 2 none),(10,.lsl 1 0 yH.length 2 none),(11,I ((yH.length:Nat):Int)),(12,I ((xf:Nat):Int))],[(1,⟨(zo zm yH).map Sn.D,2,false⟩),(2,⟨yI.map Sn.D,2,false⟩),(3,⟨[.agg [I yP.lo,I yP.hi]],2,false⟩)],4,2⟩

def sd215 (yH:List Sn) (yI:List Sn) (xf:Nat) (yP:Sn):St:=⟨65,[(3,I 2),(2,.sl true [] 0 none),(25,B true),(24,.tup []),(23,.tup []),(22,.tup []),(21,.tup []),(20,B true),(19,B true),(18,B false),(17,I yP.lo),(16,.lref 3 0 2 0),(6,.lref 3 0 2 0),(15,.agg [I yP.lo,I yP.hi]),(14,.lref 1 xf 2 0),(13,B true),(4,.lsl 2 0 yI.length 2 none),(10,.lsl 1 0 yH.length 2 none),(11,I ((yH.length:Nat):Int)),(12,I ((xf:Nat):Int))],[(1,⟨(zo zm yH).map Sn.D,2,false⟩),(2,⟨yI.map Sn.D,2,false⟩),(3,⟨[.agg [I yP.lo,I yP.hi]],2,false⟩)],4,2⟩

def sd216 (yH:List Sn):St:=⟨65,[(13,B false),(4,.sl true [] 0 none),(10,.lsl 1 0 yH.length 2 none),(11,I ((yH.length:Nat):Int)),(12,I (((zo zm yH).length:Nat):Int))],[(1,⟨(zo zm yH).map Sn.D,2,false⟩)],2,2⟩

def sd217 (yH:List Sn) (xf:Nat) (yP:Sn):St:=⟨65,[(3,I 2),(2,.sl true [] 0 none),(25,B true),(24,B true),(23,B false),(22,I yP.hi),(21,.lref 2 0 2 1),(20,B false),(19,B false),(18,B true),(17,I yP.lo),(16,.lref 2 0 2 0),(6,.lref 2 0 2 0),(15,.agg [I yP.lo,I yP.hi]),(14,.lref 1 xf 2 0),(13,B true),(4,.sl true [] 0 none),(10,.lsl 1 0 yH.length 2 none),(11,I ((yH.length:Nat):Int)),(12,I ((xf:Nat):Int))],[(1,⟨(zo zm yH).map Sn.D,2,false⟩),(2,⟨[.agg [I yP.lo,I yP.hi]],2,false⟩)],3,2⟩

def sd218 (yH:List Sn) (xf:Nat) (yP:Sn):St:=⟨65,[(3,I 2),(2,.sl true [] 0 none),(25,B true),(24,.tup []),(23,.tup []),(22,.tup []),(21,.tup []),(20,B true),(19,B true),(18,B false),(17,I yP.lo),(16,.lref 2 0 2 0),(6,.lref 2 0 2 0),(15,.agg [I yP.lo,I yP.hi]),(14,.lref 1 xf 2 0),(13,B true),(4,.sl true [] 0 none),(10,.lsl 1 0 yH.length 2 none),(11,I ((yH.length:Nat):Int)),(12,I ((xf:Nat):Int))],[(1,⟨(zo zm yH).map Sn.D,2,false⟩),(2,⟨[.agg [I yP.lo,I yP.hi]],2,false⟩)],3,2⟩

def sd219 (r:GS Sn) (by_:Int) (yG:List Sn):St:=⟨21,[(11,B false),(1,.fn (.func 85) [] [.lref 0 0 1 0]),(5,.lsl 1 0 yG.length 2 none),(8,.sl r.nl (r.l.map Sn.D) (zsl r.nl 2) none),(9,I ((r.l.length:Nat):Int)),(10,I ((r.l.length:Nat):Int))],[(0,⟨[I by_],1,false⟩),(1,⟨yG.map Sn.D,2,false⟩)],2,1⟩

def sd220 (r:GS Sn) (by_:Int):St:=⟨21,[(11,B false),(1,.fn (.func 85) [] [.lref 0 0 1 0]),(5,.sl true [] 0 none),(8,.sl r.nl (r.l.map Sn.D) (zsl r.nl 2) none),(9,I ((r.l.length:Nat):Int)),(10,I ((r.l.length:Nat):Int))],[(0,⟨[I by_],1,true⟩)],1,1⟩

def sd221 (r:GS Sn) (by_:Int):St:=⟨21,[(11,B false),(1,.fn (.func 85) [] [.lref 0 0 1 0]),(5,.sl true [] 0 none),(8,.sl r.nl (r.l.map Sn.D) (zsl r.nl 2) none),(9,I ((r.l.length:Nat):Int)),(10,I ((r.l.length:Nat):Int))],[(0,⟨[I by_],1,false⟩)],1,1⟩

theorem zW (r:GS Sn) (by_:Int) (hLr:r.l.length≤9223372036854775807) (hL_r:r.l.length≤9223372036854775807):(lim cfg).pure 26 [GS.D Sn.D 2 r,I by_]=some (.tup [GS.D Sn.D 2 ((zd r by_).1),I ((zd r by_).2)]):=by
 unfold zd
 cases h1:((zz r) != 0) with
 | true =>
  have g1:=bne_true h1
  exact zu [.pure (I (zz r)),.dec true] (Ai h1 (Ai (zi r (by omega)) trivial)) (by kernel_rfl)
 | false =>
  have g1:=check1_len (bne_false h1)
  cases h2:decide (((r.l.length:Nat):Int) > 0) with
  | true =>
   have g2:=of_decide_eq_true h2
   have p1:=(zC by_ (-2199023255552) 2199023255552)
   cases h3:(yu by_ (-2199023255552) 2199023255552) with
   | true =>
    cases h28:yw by_ r.l with
    | x0 yH =>
     try dsimp only
     have xS:=ivt_ranges_each_3p1 r by_ r.l 0 (List.drop_zero) (Nat.zero_le _) (by omega)
     rw [h28] at xS
     have xN:=xS
     try dsimp only [iv_ranges_each_3p1] at xN
     have p2:=(show (lim cfg).inl 70 [.sl r.nl (r.l.map Sn.D) (zsl r.nl 2) none,.fn (.func 85) [] [.lref 0 0 1 0]] [(0,⟨[I by_],1,false⟩)] 1=some (.lsl 1 0 yH.length 2 none,[(0,⟨[I by_],1,true⟩),(1,⟨yH.map Sn.D,2,false⟩)],2) from zH [.rw 9 (I ((r.l.length:Nat):Int)),.loop (.exit 0) (sd210 r by_ yH)] (Ai (zY (q:=yE r by_) (lp_ranges_each_3p1 r by_ r.l 0 (List.drop_zero) (Nat.zero_le _) (by omega)) h28) (Ai (zO Sn.D r) trivial)) (by kernel_rfl))
     cases h29:zD (zo zm yH) 0 with
     | x0 yI =>
      try dsimp only
      have hv_h29:=zI yH (zo zm yH) (zo zm yH) 0 (List.drop_zero) (Nat.zero_le _) (by simp only [zK,GS.some_l,List.length_set,List.length_append,List.length_cons,List.length_nil] at * <;> first | with_reducible assumption | omega) (by simp only [zK,GS.some_l,List.length_set,List.length_append,List.length_cons,List.length_nil] at * <;> first | with_reducible assumption | omega)
      rw [h29] at hv_h29
      obtain ⟨hv_h29_0,hv_h29_1⟩:=hv_h29
      try dsimp only [zt] at hv_h29_0
      try dsimp only [zt] at hv_h29_1
      cases h30:decide (((yI.length:Nat):Int) > 64) with
      | true =>
       have g30:=of_decide_eq_true h30
       exact zu ((yn r by_)++[.dec true,.inl (.lsl 1 0 yH.length 2 none) [(0,⟨[I by_],1,true⟩),(1,⟨yH.map Sn.D,2,false⟩)] 2,.inlS [1] (.tup [.sl true [] 0 none,I 2]) [(1,⟨(zo zm yH).map Sn.D,2,false⟩),(2,⟨yI.map Sn.D,2,false⟩)] 3]) (Ai (Ai (show ze [(0,⟨[I by_],1,true⟩),(1,⟨yH.map Sn.D,2,false⟩)] 256 [1] []=some [1] from (by (simp only [ze,go_sem,List.length_set,Nat.reduceAdd,Nat.reduceEqDiff,Nat.reduceLT,Nat.reduceLeDiff,bI2,zb.idsL,zb.renL,zb.snapAll,z6.idsL,z6.renL,z6.snapAll]) <;> rfl)) (show (lim cfg).inl 69 [.lsl 1 0 yH.length 2 none] [(1,⟨yH.map Sn.D,2,false⟩)] 2=some (.tup [.sl true [] 0 none,I 2],[(1,⟨(zo zm yH).map Sn.D,2,false⟩),(2,⟨yI.map Sn.D,2,false⟩)],3) from zH [.inlS [1] (.tup []) [(1,⟨(zo zm yH).map Sn.D,2,false⟩)] 2,.gloop (sd212 yH) (.exit 0) (sd213 yH yI),.dec true] (Ai h30 (Ai (zY (q:=zp yH (zo zm yH)) (lp_ranges_gathered_4p1 yH (zo zm yH) (zo zm yH) 0 (List.drop_zero) (Nat.zero_le _) (by simp only [zK,GS.some_l,List.length_set,List.length_append,List.length_cons,List.length_nil] at * <;> first | with_reducible assumption | omega) (by simp only [zK,GS.some_l,List.length_set,List.length_append,List.length_cons,List.length_nil] at * <;> first | with_reducible assumption | omega)) h29) (Ai (gc_of (C:=cfg) (f:=69) (a:=lp69_4) (ks:=[4,10,11,12]) (st:=(sd211 yH)) (st1:=(sd212 yH)) (by kernel_rfl) (by (simp only [sd211,sd212,go_sem,List.length_set,Nat.reduceAdd,Nat.reduceEqDiff,Nat.reduceLT,Nat.reduceLeDiff,bI2,zb.idsL,zb.renL,zb.snapAll,z6.idsL,z6.renL,z6.snapAll]) <;> rfl)) (Ai (Ai (show ze [(1,⟨yH.map Sn.D,2,false⟩)] 256 [1] []=some [1] from (by (simp only [ze,go_sem,List.length_set,Nat.reduceAdd,Nat.reduceEqDiff,Nat.reduceLT,Nat.reduceLeDiff,bI2,zb.idsL,zb.renL,zb.snapAll,z6.idsL,z6.renL,z6.snapAll]) <;> rfl)) (yq 1 2 none yH (by omega))) trivial)))) (by kernel_rfl))) (Ai p2 (Ai h3 (Ai p1 (Ai h2 (Ai (zO Sn.D r) (Ai h1 (Ai (zi r (by omega)) trivial)))))))) (by kernel_rfl)
      | false =>
       have g30:=of_decide_eq_false h30
       exact po_pureS ((yn r by_)++[.dec true,.inl (.lsl 1 0 yH.length 2 none) [(0,⟨[I by_],1,true⟩),(1,⟨yH.map Sn.D,2,false⟩)] 2,.inlS [1] (.tup [.lsl 2 0 yI.length 2 none,I 0]) [(1,⟨(zo zm yH).map Sn.D,2,false⟩),(2,⟨yI.map Sn.D,2,false⟩)] 3]) [(2,.sl false (yI.map Sn.D) 2 none,[2])] (Ai (snap_row (gO:=zB [(0,⟨[I by_],1,true⟩),(1,⟨(zo zm yH).map Sn.D,2,false⟩),(2,⟨yI.map Sn.D,2,false⟩)]) (o:=2) (len:=yI.length) (cap:=none) (fz:=false) z6 yI (by kernel_rfl) (by omega)) (Ai (Ai (show ze [(0,⟨[I by_],1,true⟩),(1,⟨yH.map Sn.D,2,false⟩)] 256 [1] []=some [1] from (by (simp only [ze,go_sem,List.length_set,Nat.reduceAdd,Nat.reduceEqDiff,Nat.reduceLT,Nat.reduceLeDiff,bI2,zb.idsL,zb.renL,zb.snapAll,z6.idsL,z6.renL,z6.snapAll]) <;> rfl)) (show (lim cfg).inl 69 [.lsl 1 0 yH.length 2 none] [(1,⟨yH.map Sn.D,2,false⟩)] 2=some (.tup [.lsl 2 0 yI.length 2 none,I 0],[(1,⟨(zo zm yH).map Sn.D,2,false⟩),(2,⟨yI.map Sn.D,2,false⟩)],3) from zH [.inlS [1] (.tup []) [(1,⟨(zo zm yH).map Sn.D,2,false⟩)] 2,.gloop (sd212 yH) (.exit 0) (sd213 yH yI),.dec false] (Ai h30 (Ai (zY (q:=zp yH (zo zm yH)) (lp_ranges_gathered_4p1 yH (zo zm yH) (zo zm yH) 0 (List.drop_zero) (Nat.zero_le _) (by simp only [zK,GS.some_l,List.length_set,List.length_append,List.length_cons,List.length_nil] at * <;> first | with_reducible assumption | omega) (by simp only [zK,GS.some_l,List.length_set,List.length_append,List.length_cons,List.length_nil] at * <;> first | with_reducible assumption | omega)) h29) (Ai (gc_of (C:=cfg) (f:=69) (a:=lp69_4) (ks:=[4,10,11,12]) (st:=(sd211 yH)) (st1:=(sd212 yH)) (by kernel_rfl) (by (simp only [sd211,sd212,go_sem,List.length_set,Nat.reduceAdd,Nat.reduceEqDiff,Nat.reduceLT,Nat.reduceLeDiff,bI2,zb.idsL,zb.renL,zb.snapAll,z6.idsL,z6.renL,z6.snapAll]) <;> rfl)) (Ai (Ai (show ze [(1,⟨yH.map Sn.D,2,false⟩)] 256 [1] []=some [1] from (by (simp only [ze,go_sem,List.length_set,Nat.reduceAdd,Nat.reduceEqDiff,Nat.reduceLT,Nat.reduceLeDiff,bI2,zb.idsL,zb.renL,zb.snapAll,z6.idsL,z6.renL,z6.snapAll]) <;> rfl)) (yq 1 2 none yH (by omega))) trivial)))) (by kernel_rfl))) (Ai p2 (Ai h3 (Ai p1 (Ai h2 (Ai (zO Sn.D r) (Ai h1 (Ai (zi r (by omega)) trivial))))))))) (by kernel_rfl)
     | x1 xf yP yI =>
      try dsimp only
      have hv_h29:=zI yH (zo zm yH) (zo zm yH) 0 (List.drop_zero) (Nat.zero_le _) (by simp only [zK,GS.some_l,List.length_set,List.length_append,List.length_cons,List.length_nil] at * <;> first | with_reducible assumption | omega) (by simp only [zK,GS.some_l,List.length_set,List.length_append,List.length_cons,List.length_nil] at * <;> first | with_reducible assumption | omega)
      rw [h29] at hv_h29
      obtain ⟨hv_h29_0,hv_h29_1⟩:=hv_h29
      try dsimp only [zt] at hv_h29_0
      try dsimp only [zt] at hv_h29_1
      exact zu ((yn r by_)++[.dec true,.inl (.lsl 1 0 yH.length 2 none) [(0,⟨[I by_],1,true⟩),(1,⟨yH.map Sn.D,2,false⟩)] 2,.inlS [1] (.tup [.sl true [] 0 none,I 2]) [(1,⟨(zo zm yH).map Sn.D,2,false⟩),(2,⟨yI.map Sn.D,2,false⟩),(3,⟨[.agg [I yP.lo,I yP.hi]],2,false⟩)] 4]) (Ai (Ai (show ze [(0,⟨[I by_],1,true⟩),(1,⟨yH.map Sn.D,2,false⟩)] 256 [1] []=some [1] from (by (simp only [ze,go_sem,List.length_set,Nat.reduceAdd,Nat.reduceEqDiff,Nat.reduceLT,Nat.reduceLeDiff,bI2,zb.idsL,zb.renL,zb.snapAll,z6.idsL,z6.renL,z6.snapAll]) <;> rfl)) (show (lim cfg).inl 69 [.lsl 1 0 yH.length 2 none] [(1,⟨yH.map Sn.D,2,false⟩)] 2=some (.tup [.sl true [] 0 none,I 2],[(1,⟨(zo zm yH).map Sn.D,2,false⟩),(2,⟨yI.map Sn.D,2,false⟩),(3,⟨[.agg [I yP.lo,I yP.hi]],2,false⟩)],4) from zH [.inlS [1] (.tup []) [(1,⟨(zo zm yH).map Sn.D,2,false⟩)] 2,.gloop (sd212 yH) .ret (sd214 yH yI xf yP)] (Ai (zY (q:=zp yH (zo zm yH)) (lp_ranges_gathered_4p1 yH (zo zm yH) (zo zm yH) 0 (List.drop_zero) (Nat.zero_le _) (by simp only [zK,GS.some_l,List.length_set,List.length_append,List.length_cons,List.length_nil] at * <;> first | with_reducible assumption | omega) (by simp only [zK,GS.some_l,List.length_set,List.length_append,List.length_cons,List.length_nil] at * <;> first | with_reducible assumption | omega)) h29) (Ai (gc_of (C:=cfg) (f:=69) (a:=lp69_4) (ks:=[4,10,11,12]) (st:=(sd211 yH)) (st1:=(sd212 yH)) (by kernel_rfl) (by (simp only [sd211,sd212,go_sem,List.length_set,Nat.reduceAdd,Nat.reduceEqDiff,Nat.reduceLT,Nat.reduceLeDiff,bI2,zb.idsL,zb.renL,zb.snapAll,z6.idsL,z6.renL,z6.snapAll]) <;> rfl)) (Ai (Ai (show ze [(1,⟨yH.map Sn.D,2,false⟩)] 256 [1] []=some [1] from (by (simp only [ze,go_sem,List.length_set,Nat.reduceAdd,Nat.reduceEqDiff,Nat.reduceLT,Nat.reduceLeDiff,bI2,zb.idsL,zb.renL,zb.snapAll,z6.idsL,z6.renL,z6.snapAll]) <;> rfl)) (yq 1 2 none yH (by omega))) trivial))) (by kernel_rfl))) (Ai p2 (Ai h3 (Ai p1 (Ai h2 (Ai (zO Sn.D r) (Ai h1 (Ai (zi r (by omega)) trivial)))))))) (by kernel_rfl)
     | x2 xf yP yI =>
      try dsimp only
      have hv_h29:=zI yH (zo zm yH) (zo zm yH) 0 (List.drop_zero) (Nat.zero_le _) (by simp only [zK,GS.some_l,List.length_set,List.length_append,List.length_cons,List.length_nil] at * <;> first | with_reducible assumption | omega) (by simp only [zK,GS.some_l,List.length_set,List.length_append,List.length_cons,List.length_nil] at * <;> first | with_reducible assumption | omega)
      rw [h29] at hv_h29
      obtain ⟨hv_h29_0,hv_h29_1⟩:=hv_h29
      try dsimp only [zt] at hv_h29_0
      try dsimp only [zt] at hv_h29_1
      exact zu ((yn r by_)++[.dec true,.inl (.lsl 1 0 yH.length 2 none) [(0,⟨[I by_],1,true⟩),(1,⟨yH.map Sn.D,2,false⟩)] 2,.inlS [1] (.tup [.sl true [] 0 none,I 2]) [(1,⟨(zo zm yH).map Sn.D,2,false⟩),(2,⟨yI.map Sn.D,2,false⟩),(3,⟨[.agg [I yP.lo,I yP.hi]],2,false⟩)] 4]) (Ai (Ai (show ze [(0,⟨[I by_],1,true⟩),(1,⟨yH.map Sn.D,2,false⟩)] 256 [1] []=some [1] from (by (simp only [ze,go_sem,List.length_set,Nat.reduceAdd,Nat.reduceEqDiff,Nat.reduceLT,Nat.reduceLeDiff,bI2,zb.idsL,zb.renL,zb.snapAll,z6.idsL,z6.renL,z6.snapAll]) <;> rfl)) (show (lim cfg).inl 69 [.lsl 1 0 yH.length 2 none] [(1,⟨yH.map Sn.D,2,false⟩)] 2=some (.tup [.sl true [] 0 none,I 2],[(1,⟨(zo zm yH).map Sn.D,2,false⟩),(2,⟨yI.map Sn.D,2,false⟩),(3,⟨[.agg [I yP.lo,I yP.hi]],2,false⟩)],4) from zH [.inlS [1] (.tup []) [(1,⟨(zo zm yH).map Sn.D,2,false⟩)] 2,.gloop (sd212 yH) .ret (sd215 yH yI xf yP)] (Ai (zY (q:=zp yH (zo zm yH)) (lp_ranges_gathered_4p1 yH (zo zm yH) (zo zm yH) 0 (List.drop_zero) (Nat.zero_le _) (by simp only [zK,GS.some_l,List.length_set,List.length_append,List.length_cons,List.length_nil] at * <;> first | with_reducible assumption | omega) (by simp only [zK,GS.some_l,List.length_set,List.length_append,List.length_cons,List.length_nil] at * <;> first | with_reducible assumption | omega)) h29) (Ai (gc_of (C:=cfg) (f:=69) (a:=lp69_4) (ks:=[4,10,11,12]) (st:=(sd211 yH)) (st1:=(sd212 yH)) (by kernel_rfl) (by (simp only [sd211,sd212,go_sem,List.length_set,Nat.reduceAdd,Nat.reduceEqDiff,Nat.reduceLT,Nat.reduceLeDiff,bI2,zb.idsL,zb.renL,zb.snapAll,z6.idsL,z6.renL,z6.snapAll]) <;> rfl)) (Ai (Ai (show ze [(1,⟨yH.map Sn.D,2,false⟩)] 256 [1] []=some [1] from (by (simp only [ze,go_sem,List.length_set,Nat.reduceAdd,Nat.reduceEqDiff,Nat.reduceLT,Nat.reduceLeDiff,bI2,zb.idsL,zb.renL,zb.snapAll,z6.idsL,z6.renL,z6.snapAll]) <;> rfl)) (yq 1 2 none yH (by omega))) trivial))) (by kernel_rfl))) (Ai p2 (Ai h3 (Ai p1 (Ai h2 (Ai (zO Sn.D r) (Ai h1 (Ai (zi r (by omega)) trivial)))))))) (by kernel_rfl)
     | x3 =>
      try dsimp only
      exact zu ((yn r by_)++[.dec true,.inl (.lsl 1 0 yH.length 2 none) [(0,⟨[I by_],1,true⟩),(1,⟨yH.map Sn.D,2,false⟩)] 2,.inlS [1] (.tup [.sl true [] 0 none,I 0]) [(1,⟨(zo zm yH).map Sn.D,2,false⟩)] 2]) (Ai (Ai (show ze [(0,⟨[I by_],1,true⟩),(1,⟨yH.map Sn.D,2,false⟩)] 256 [1] []=some [1] from (by (simp only [ze,go_sem,List.length_set,Nat.reduceAdd,Nat.reduceEqDiff,Nat.reduceLT,Nat.reduceLeDiff,bI2,zb.idsL,zb.renL,zb.snapAll,z6.idsL,z6.renL,z6.snapAll]) <;> rfl)) (show (lim cfg).inl 69 [.lsl 1 0 yH.length 2 none] [(1,⟨yH.map Sn.D,2,false⟩)] 2=some (.tup [.sl true [] 0 none,I 0],[(1,⟨(zo zm yH).map Sn.D,2,false⟩)],2) from zH [.inlS [1] (.tup []) [(1,⟨(zo zm yH).map Sn.D,2,false⟩)] 2,.gloop (sd212 yH) (.exit 0) (sd216 yH),.dec false] (Ai (Eq.refl false) (Ai (zY (q:=zp yH (zo zm yH)) (lp_ranges_gathered_4p1 yH (zo zm yH) (zo zm yH) 0 (List.drop_zero) (Nat.zero_le _) (by simp only [zK,GS.some_l,List.length_set,List.length_append,List.length_cons,List.length_nil] at * <;> first | with_reducible assumption | omega) (by simp only [zK,GS.some_l,List.length_set,List.length_append,List.length_cons,List.length_nil] at * <;> first | with_reducible assumption | omega)) h29) (Ai (gc_of (C:=cfg) (f:=69) (a:=lp69_4) (ks:=[4,10,11,12]) (st:=(sd211 yH)) (st1:=(sd212 yH)) (by kernel_rfl) (by (simp only [sd211,sd212,go_sem,List.length_set,Nat.reduceAdd,Nat.reduceEqDiff,Nat.reduceLT,Nat.reduceLeDiff,bI2,zb.idsL,zb.renL,zb.snapAll,z6.idsL,z6.renL,z6.snapAll]) <;> rfl)) (Ai (Ai (show ze [(1,⟨yH.map Sn.D,2,false⟩)] 256 [1] []=some [1] from (by (simp only [ze,go_sem,List.length_set,Nat.reduceAdd,Nat.reduceEqDiff,Nat.reduceLT,Nat.reduceLeDiff,bI2,zb.idsL,zb.renL,zb.snapAll,z6.idsL,z6.renL,z6.snapAll]) <;> rfl)) (yq 1 2 none yH (by omega))) trivial)))) (by kernel_rfl))) (Ai p2 (Ai h3 (Ai p1 (Ai h2 (Ai (zO Sn.D r) (Ai h1 (Ai (zi r (by omega)) trivial)))))))) (by kernel_rfl)
     | x4 xf yP =>
      try dsimp only
      exact zu ((yn r by_)++[.dec true,.inl (.lsl 1 0 yH.length 2 none) [(0,⟨[I by_],1,true⟩),(1,⟨yH.map Sn.D,2,false⟩)] 2,.inlS [1] (.tup [.sl true [] 0 none,I 2]) [(1,⟨(zo zm yH).map Sn.D,2,false⟩),(2,⟨[.agg [I yP.lo,I yP.hi]],2,false⟩)] 3]) (Ai (Ai (show ze [(0,⟨[I by_],1,true⟩),(1,⟨yH.map Sn.D,2,false⟩)] 256 [1] []=some [1] from (by (simp only [ze,go_sem,List.length_set,Nat.reduceAdd,Nat.reduceEqDiff,Nat.reduceLT,Nat.reduceLeDiff,bI2,zb.idsL,zb.renL,zb.snapAll,z6.idsL,z6.renL,z6.snapAll]) <;> rfl)) (show (lim cfg).inl 69 [.lsl 1 0 yH.length 2 none] [(1,⟨yH.map Sn.D,2,false⟩)] 2=some (.tup [.sl true [] 0 none,I 2],[(1,⟨(zo zm yH).map Sn.D,2,false⟩),(2,⟨[.agg [I yP.lo,I yP.hi]],2,false⟩)],3) from zH [.inlS [1] (.tup []) [(1,⟨(zo zm yH).map Sn.D,2,false⟩)] 2,.gloop (sd212 yH) .ret (sd217 yH xf yP)] (Ai (zY (q:=zp yH (zo zm yH)) (lp_ranges_gathered_4p1 yH (zo zm yH) (zo zm yH) 0 (List.drop_zero) (Nat.zero_le _) (by simp only [zK,GS.some_l,List.length_set,List.length_append,List.length_cons,List.length_nil] at * <;> first | with_reducible assumption | omega) (by simp only [zK,GS.some_l,List.length_set,List.length_append,List.length_cons,List.length_nil] at * <;> first | with_reducible assumption | omega)) h29) (Ai (gc_of (C:=cfg) (f:=69) (a:=lp69_4) (ks:=[4,10,11,12]) (st:=(sd211 yH)) (st1:=(sd212 yH)) (by kernel_rfl) (by (simp only [sd211,sd212,go_sem,List.length_set,Nat.reduceAdd,Nat.reduceEqDiff,Nat.reduceLT,Nat.reduceLeDiff,bI2,zb.idsL,zb.renL,zb.snapAll,z6.idsL,z6.renL,z6.snapAll]) <;> rfl)) (Ai (Ai (show ze [(1,⟨yH.map Sn.D,2,false⟩)] 256 [1] []=some [1] from (by (simp only [ze,go_sem,List.length_set,Nat.reduceAdd,Nat.reduceEqDiff,Nat.reduceLT,Nat.reduceLeDiff,bI2,zb.idsL,zb.renL,zb.snapAll,z6.idsL,z6.renL,z6.snapAll]) <;> rfl)) (yq 1 2 none yH (by omega))) trivial))) (by kernel_rfl))) (Ai p2 (Ai h3 (Ai p1 (Ai h2 (Ai (zO Sn.D r) (Ai h1 (Ai (zi r (by omega)) trivial)))))))) (by kernel_rfl)
     | x5 xf yP =>
      try dsimp only
      exact zu ((yn r by_)++[.dec true,.inl (.lsl 1 0 yH.length 2 none) [(0,⟨[I by_],1,true⟩),(1,⟨yH.map Sn.D,2,false⟩)] 2,.inlS [1] (.tup [.sl true [] 0 none,I 2]) [(1,⟨(zo zm yH).map Sn.D,2,false⟩),(2,⟨[.agg [I yP.lo,I yP.hi]],2,false⟩)] 3]) (Ai (Ai (show ze [(0,⟨[I by_],1,true⟩),(1,⟨yH.map Sn.D,2,false⟩)] 256 [1] []=some [1] from (by (simp only [ze,go_sem,List.length_set,Nat.reduceAdd,Nat.reduceEqDiff,Nat.reduceLT,Nat.reduceLeDiff,bI2,zb.idsL,zb.renL,zb.snapAll,z6.idsL,z6.renL,z6.snapAll]) <;> rfl)) (show (lim cfg).inl 69 [.lsl 1 0 yH.length 2 none] [(1,⟨yH.map Sn.D,2,false⟩)] 2=some (.tup [.sl true [] 0 none,I 2],[(1,⟨(zo zm yH).map Sn.D,2,false⟩),(2,⟨[.agg [I yP.lo,I yP.hi]],2,false⟩)],3) from zH [.inlS [1] (.tup []) [(1,⟨(zo zm yH).map Sn.D,2,false⟩)] 2,.gloop (sd212 yH) .ret (sd218 yH xf yP)] (Ai (zY (q:=zp yH (zo zm yH)) (lp_ranges_gathered_4p1 yH (zo zm yH) (zo zm yH) 0 (List.drop_zero) (Nat.zero_le _) (by simp only [zK,GS.some_l,List.length_set,List.length_append,List.length_cons,List.length_nil] at * <;> first | with_reducible assumption | omega) (by simp only [zK,GS.some_l,List.length_set,List.length_append,List.length_cons,List.length_nil] at * <;> first | with_reducible assumption | omega)) h29) (Ai (gc_of (C:=cfg) (f:=69) (a:=lp69_4) (ks:=[4,10,11,12]) (st:=(sd211 yH)) (st1:=(sd212 yH)) (by kernel_rfl) (by (simp only [sd211,sd212,go_sem,List.length_set,Nat.reduceAdd,Nat.reduceEqDiff,Nat.reduceLT,Nat.reduceLeDiff,bI2,zb.idsL,zb.renL,zb.snapAll,z6.idsL,z6.renL,z6.snapAll]) <;> rfl)) (Ai (Ai (show ze [(1,⟨yH.map Sn.D,2,false⟩)] 256 [1] []=some [1] from (by (simp only [ze,go_sem,List.length_set,Nat.reduceAdd,Nat.reduceEqDiff,Nat.reduceLT,Nat.reduceLeDiff,bI2,zb.idsL,zb.renL,zb.snapAll,z6.idsL,z6.renL,z6.snapAll]) <;> rfl)) (yq 1 2 none yH (by omega))) trivial))) (by kernel_rfl))) (Ai p2 (Ai h3 (Ai p1 (Ai h2 (Ai (zO Sn.D r) (Ai h1 (Ai (zi r (by omega)) trivial)))))))) (by kernel_rfl)
    | x1 yG =>
     try dsimp only
     have xS:=ivt_ranges_each_3p1 r by_ r.l 0 (List.drop_zero) (Nat.zero_le _) (by omega)
     rw [h28] at xS
     have xN:=xS
     try dsimp only [iv_ranges_each_3p1] at xN
     have p3:=(show (lim cfg).inl 70 [.sl r.nl (r.l.map Sn.D) (zsl r.nl 2) none,.fn (.func 85) [] [.lref 0 0 1 0]] [(0,⟨[I by_],1,false⟩)] 1=some (.lsl 1 0 yG.length 2 none,[(0,⟨[I by_],1,false⟩),(1,⟨yG.map Sn.D,2,false⟩)],2) from zH [.rw 9 (I ((r.l.length:Nat):Int)),.loop (.exit 0) (sd219 r by_ yG)] (Ai (zY (q:=yE r by_) (lp_ranges_each_3p1 r by_ r.l 0 (List.drop_zero) (Nat.zero_le _) (by omega)) h28) (Ai (zO Sn.D r) trivial)) (by kernel_rfl))
     cases h31:zD (zo zm yG) 0 with
     | x0 yI =>
      try dsimp only
      have hv_h31:=zI yG (zo zm yG) (zo zm yG) 0 (List.drop_zero) (Nat.zero_le _) (by simp only [zK,GS.some_l,List.length_set,List.length_append,List.length_cons,List.length_nil] at * <;> first | with_reducible assumption | omega) (by simp only [zK,GS.some_l,List.length_set,List.length_append,List.length_cons,List.length_nil] at * <;> first | with_reducible assumption | omega)
      rw [h31] at hv_h31
      obtain ⟨hv_h31_0,hv_h31_1⟩:=hv_h31
      try dsimp only [zt] at hv_h31_0
      try dsimp only [zt] at hv_h31_1
      cases h32:decide (((yI.length:Nat):Int) > 64) with
      | true =>
       have g32:=of_decide_eq_true h32
       exact zu ((yn r by_)++[.dec true,.inl (.lsl 1 0 yG.length 2 none) [(0,⟨[I by_],1,false⟩),(1,⟨yG.map Sn.D,2,false⟩)] 2,.inlS [1] (.tup [.sl true [] 0 none,I 2]) [(1,⟨(zo zm yG).map Sn.D,2,false⟩),(2,⟨yI.map Sn.D,2,false⟩)] 3]) (Ai (Ai (show ze [(0,⟨[I by_],1,false⟩),(1,⟨yG.map Sn.D,2,false⟩)] 256 [1] []=some [1] from (by (simp only [ze,go_sem,List.length_set,Nat.reduceAdd,Nat.reduceEqDiff,Nat.reduceLT,Nat.reduceLeDiff,bI2,zb.idsL,zb.renL,zb.snapAll,z6.idsL,z6.renL,z6.snapAll]) <;> rfl)) (show (lim cfg).inl 69 [.lsl 1 0 yG.length 2 none] [(1,⟨yG.map Sn.D,2,false⟩)] 2=some (.tup [.sl true [] 0 none,I 2],[(1,⟨(zo zm yG).map Sn.D,2,false⟩),(2,⟨yI.map Sn.D,2,false⟩)],3) from zH [.inlS [1] (.tup []) [(1,⟨(zo zm yG).map Sn.D,2,false⟩)] 2,.gloop (sd97 yG) (.exit 0) (sd98 yG yI),.dec true] (Ai h32 (Ai (zY (q:=zp yG (zo zm yG)) (lp_ranges_gathered_4p1 yG (zo zm yG) (zo zm yG) 0 (List.drop_zero) (Nat.zero_le _) (by simp only [zK,GS.some_l,List.length_set,List.length_append,List.length_cons,List.length_nil] at * <;> first | with_reducible assumption | omega) (by simp only [zK,GS.some_l,List.length_set,List.length_append,List.length_cons,List.length_nil] at * <;> first | with_reducible assumption | omega)) h31) (Ai (gc_of (C:=cfg) (f:=69) (a:=lp69_4) (ks:=[4,10,11,12]) (st:=(sd96 yG)) (st1:=(sd97 yG)) (by kernel_rfl) (by (simp only [sd96,sd97,go_sem,List.length_set,Nat.reduceAdd,Nat.reduceEqDiff,Nat.reduceLT,Nat.reduceLeDiff,bI2,zb.idsL,zb.renL,zb.snapAll,z6.idsL,z6.renL,z6.snapAll]) <;> rfl)) (Ai (Ai (show ze [(1,⟨yG.map Sn.D,2,false⟩)] 256 [1] []=some [1] from (by (simp only [ze,go_sem,List.length_set,Nat.reduceAdd,Nat.reduceEqDiff,Nat.reduceLT,Nat.reduceLeDiff,bI2,zb.idsL,zb.renL,zb.snapAll,z6.idsL,z6.renL,z6.snapAll]) <;> rfl)) (yq 1 2 none yG (by omega))) trivial)))) (by kernel_rfl))) (Ai p3 (Ai h3 (Ai p1 (Ai h2 (Ai (zO Sn.D r) (Ai h1 (Ai (zi r (by omega)) trivial)))))))) (by kernel_rfl)
      | false =>
       have g32:=of_decide_eq_false h32
       exact po_pureS ((yn r by_)++[.dec true,.inl (.lsl 1 0 yG.length 2 none) [(0,⟨[I by_],1,false⟩),(1,⟨yG.map Sn.D,2,false⟩)] 2,.inlS [1] (.tup [.lsl 2 0 yI.length 2 none,I 0]) [(1,⟨(zo zm yG).map Sn.D,2,false⟩),(2,⟨yI.map Sn.D,2,false⟩)] 3]) [(2,.sl false (yI.map Sn.D) 2 none,[2])] (Ai (snap_row (gO:=zB [(0,⟨[I by_],1,false⟩),(1,⟨(zo zm yG).map Sn.D,2,false⟩),(2,⟨yI.map Sn.D,2,false⟩)]) (o:=2) (len:=yI.length) (cap:=none) (fz:=false) z6 yI (by kernel_rfl) (by omega)) (Ai (Ai (show ze [(0,⟨[I by_],1,false⟩),(1,⟨yG.map Sn.D,2,false⟩)] 256 [1] []=some [1] from (by (simp only [ze,go_sem,List.length_set,Nat.reduceAdd,Nat.reduceEqDiff,Nat.reduceLT,Nat.reduceLeDiff,bI2,zb.idsL,zb.renL,zb.snapAll,z6.idsL,z6.renL,z6.snapAll]) <;> rfl)) (show (lim cfg).inl 69 [.lsl 1 0 yG.length 2 none] [(1,⟨yG.map Sn.D,2,false⟩)] 2=some (.tup [.lsl 2 0 yI.length 2 none,I 0],[(1,⟨(zo zm yG).map Sn.D,2,false⟩),(2,⟨yI.map Sn.D,2,false⟩)],3) from zH [.inlS [1] (.tup []) [(1,⟨(zo zm yG).map Sn.D,2,false⟩)] 2,.gloop (sd97 yG) (.exit 0) (sd98 yG yI),.dec false] (Ai h32 (Ai (zY (q:=zp yG (zo zm yG)) (lp_ranges_gathered_4p1 yG (zo zm yG) (zo zm yG) 0 (List.drop_zero) (Nat.zero_le _) (by simp only [zK,GS.some_l,List.length_set,List.length_append,List.length_cons,List.length_nil] at * <;> first | with_reducible assumption | omega) (by simp only [zK,GS.some_l,List.length_set,List.length_append,List.length_cons,List.length_nil] at * <;> first | with_reducible assumption | omega)) h31) (Ai (gc_of (C:=cfg) (f:=69) (a:=lp69_4) (ks:=[4,10,11,12]) (st:=(sd96 yG)) (st1:=(sd97 yG)) (by kernel_rfl) (by (simp only [sd96,sd97,go_sem,List.length_set,Nat.reduceAdd,Nat.reduceEqDiff,Nat.reduceLT,Nat.reduceLeDiff,bI2,zb.idsL,zb.renL,zb.snapAll,z6.idsL,z6.renL,z6.snapAll]) <;> rfl)) (Ai (Ai (show ze [(1,⟨yG.map Sn.D,2,false⟩)] 256 [1] []=some [1] from (by (simp only [ze,go_sem,List.length_set,Nat.reduceAdd,Nat.reduceEqDiff,Nat.reduceLT,Nat.reduceLeDiff,bI2,zb.idsL,zb.renL,zb.snapAll,z6.idsL,z6.renL,z6.snapAll]) <;> rfl)) (yq 1 2 none yG (by omega))) trivial)))) (by kernel_rfl))) (Ai p3 (Ai h3 (Ai p1 (Ai h2 (Ai (zO Sn.D r) (Ai h1 (Ai (zi r (by omega)) trivial))))))))) (by kernel_rfl)
     | x1 xf yP yI =>
      try dsimp only
      have hv_h31:=zI yG (zo zm yG) (zo zm yG) 0 (List.drop_zero) (Nat.zero_le _) (by simp only [zK,GS.some_l,List.length_set,List.length_append,List.length_cons,List.length_nil] at * <;> first | with_reducible assumption | omega) (by simp only [zK,GS.some_l,List.length_set,List.length_append,List.length_cons,List.length_nil] at * <;> first | with_reducible assumption | omega)
      rw [h31] at hv_h31
      obtain ⟨hv_h31_0,hv_h31_1⟩:=hv_h31
      try dsimp only [zt] at hv_h31_0
      try dsimp only [zt] at hv_h31_1
      exact zu ((yn r by_)++[.dec true,.inl (.lsl 1 0 yG.length 2 none) [(0,⟨[I by_],1,false⟩),(1,⟨yG.map Sn.D,2,false⟩)] 2,.inlS [1] (.tup [.sl true [] 0 none,I 2]) [(1,⟨(zo zm yG).map Sn.D,2,false⟩),(2,⟨yI.map Sn.D,2,false⟩),(3,⟨[.agg [I yP.lo,I yP.hi]],2,false⟩)] 4]) (Ai (Ai (show ze [(0,⟨[I by_],1,false⟩),(1,⟨yG.map Sn.D,2,false⟩)] 256 [1] []=some [1] from (by (simp only [ze,go_sem,List.length_set,Nat.reduceAdd,Nat.reduceEqDiff,Nat.reduceLT,Nat.reduceLeDiff,bI2,zb.idsL,zb.renL,zb.snapAll,z6.idsL,z6.renL,z6.snapAll]) <;> rfl)) (show (lim cfg).inl 69 [.lsl 1 0 yG.length 2 none] [(1,⟨yG.map Sn.D,2,false⟩)] 2=some (.tup [.sl true [] 0 none,I 2],[(1,⟨(zo zm yG).map Sn.D,2,false⟩),(2,⟨yI.map Sn.D,2,false⟩),(3,⟨[.agg [I yP.lo,I yP.hi]],2,false⟩)],4) from zH [.inlS [1] (.tup []) [(1,⟨(zo zm yG).map Sn.D,2,false⟩)] 2,.gloop (sd97 yG) .ret (sd99 yG yI xf yP)] (Ai (zY (q:=zp yG (zo zm yG)) (lp_ranges_gathered_4p1 yG (zo zm yG) (zo zm yG) 0 (List.drop_zero) (Nat.zero_le _) (by simp only [zK,GS.some_l,List.length_set,List.length_append,List.length_cons,List.length_nil] at * <;> first | with_reducible assumption | omega) (by simp only [zK,GS.some_l,List.length_set,List.length_append,List.length_cons,List.length_nil] at * <;> first | with_reducible assumption | omega)) h31) (Ai (gc_of (C:=cfg) (f:=69) (a:=lp69_4) (ks:=[4,10,11,12]) (st:=(sd96 yG)) (st1:=(sd97 yG)) (by kernel_rfl) (by (simp only [sd96,sd97,go_sem,List.length_set,Nat.reduceAdd,Nat.reduceEqDiff,Nat.reduceLT,Nat.reduceLeDiff,bI2,zb.idsL,zb.renL,zb.snapAll,z6.idsL,z6.renL,z6.snapAll]) <;> rfl)) (Ai (Ai (show ze [(1,⟨yG.map Sn.D,2,false⟩)] 256 [1] []=some [1] from (by (simp only [ze,go_sem,List.length_set,Nat.reduceAdd,Nat.reduceEqDiff,Nat.reduceLT,Nat.reduceLeDiff,bI2,zb.idsL,zb.renL,zb.snapAll,z6.idsL,z6.renL,z6.snapAll]) <;> rfl)) (yq 1 2 none yG (by omega))) trivial))) (by kernel_rfl))) (Ai p3 (Ai h3 (Ai p1 (Ai h2 (Ai (zO Sn.D r) (Ai h1 (Ai (zi r (by omega)) trivial)))))))) (by kernel_rfl)
     | x2 xf yP yI =>
      try dsimp only
      have hv_h31:=zI yG (zo zm yG) (zo zm yG) 0 (List.drop_zero) (Nat.zero_le _) (by simp only [zK,GS.some_l,List.length_set,List.length_append,List.length_cons,List.length_nil] at * <;> first | with_reducible assumption | omega) (by simp only [zK,GS.some_l,List.length_set,List.length_append,List.length_cons,List.length_nil] at * <;> first | with_reducible assumption | omega)
      rw [h31] at hv_h31
      obtain ⟨hv_h31_0,hv_h31_1⟩:=hv_h31
      try dsimp only [zt] at hv_h31_0
      try dsimp only [zt] at hv_h31_1
      exact zu ((yn r by_)++[.dec true,.inl (.lsl 1 0 yG.length 2 none) [(0,⟨[I by_],1,false⟩),(1,⟨yG.map Sn.D,2,false⟩)] 2,.inlS [1] (.tup [.sl true [] 0 none,I 2]) [(1,⟨(zo zm yG).map Sn.D,2,false⟩),(2,⟨yI.map Sn.D,2,false⟩),(3,⟨[.agg [I yP.lo,I yP.hi]],2,false⟩)] 4]) (Ai (Ai (show ze [(0,⟨[I by_],1,false⟩),(1,⟨yG.map Sn.D,2,false⟩)] 256 [1] []=some [1] from (by (simp only [ze,go_sem,List.length_set,Nat.reduceAdd,Nat.reduceEqDiff,Nat.reduceLT,Nat.reduceLeDiff,bI2,zb.idsL,zb.renL,zb.snapAll,z6.idsL,z6.renL,z6.snapAll]) <;> rfl)) (show (lim cfg).inl 69 [.lsl 1 0 yG.length 2 none] [(1,⟨yG.map Sn.D,2,false⟩)] 2=some (.tup [.sl true [] 0 none,I 2],[(1,⟨(zo zm yG).map Sn.D,2,false⟩),(2,⟨yI.map Sn.D,2,false⟩),(3,⟨[.agg [I yP.lo,I yP.hi]],2,false⟩)],4) from zH [.inlS [1] (.tup []) [(1,⟨(zo zm yG).map Sn.D,2,false⟩)] 2,.gloop (sd97 yG) .ret (sd100 yG yI xf yP)] (Ai (zY (q:=zp yG (zo zm yG)) (lp_ranges_gathered_4p1 yG (zo zm yG) (zo zm yG) 0 (List.drop_zero) (Nat.zero_le _) (by simp only [zK,GS.some_l,List.length_set,List.length_append,List.length_cons,List.length_nil] at * <;> first | with_reducible assumption | omega) (by simp only [zK,GS.some_l,List.length_set,List.length_append,List.length_cons,List.length_nil] at * <;> first | with_reducible assumption | omega)) h31) (Ai (gc_of (C:=cfg) (f:=69) (a:=lp69_4) (ks:=[4,10,11,12]) (st:=(sd96 yG)) (st1:=(sd97 yG)) (by kernel_rfl) (by (simp only [sd96,sd97,go_sem,List.length_set,Nat.reduceAdd,Nat.reduceEqDiff,Nat.reduceLT,Nat.reduceLeDiff,bI2,zb.idsL,zb.renL,zb.snapAll,z6.idsL,z6.renL,z6.snapAll]) <;> rfl)) (Ai (Ai (show ze [(1,⟨yG.map Sn.D,2,false⟩)] 256 [1] []=some [1] from (by (simp only [ze,go_sem,List.length_set,Nat.reduceAdd,Nat.reduceEqDiff,Nat.reduceLT,Nat.reduceLeDiff,bI2,zb.idsL,zb.renL,zb.snapAll,z6.idsL,z6.renL,z6.snapAll]) <;> rfl)) (yq 1 2 none yG (by omega))) trivial))) (by kernel_rfl))) (Ai p3 (Ai h3 (Ai p1 (Ai h2 (Ai (zO Sn.D r) (Ai h1 (Ai (zi r (by omega)) trivial)))))))) (by kernel_rfl)
     | x3 =>
      try dsimp only
      exact zu ((yn r by_)++[.dec true,.inl (.lsl 1 0 yG.length 2 none) [(0,⟨[I by_],1,false⟩),(1,⟨yG.map Sn.D,2,false⟩)] 2,.inlS [1] (.tup [.sl true [] 0 none,I 0]) [(1,⟨(zo zm yG).map Sn.D,2,false⟩)] 2]) (Ai (Ai (show ze [(0,⟨[I by_],1,false⟩),(1,⟨yG.map Sn.D,2,false⟩)] 256 [1] []=some [1] from (by (simp only [ze,go_sem,List.length_set,Nat.reduceAdd,Nat.reduceEqDiff,Nat.reduceLT,Nat.reduceLeDiff,bI2,zb.idsL,zb.renL,zb.snapAll,z6.idsL,z6.renL,z6.snapAll]) <;> rfl)) (show (lim cfg).inl 69 [.lsl 1 0 yG.length 2 none] [(1,⟨yG.map Sn.D,2,false⟩)] 2=some (.tup [.sl true [] 0 none,I 0],[(1,⟨(zo zm yG).map Sn.D,2,false⟩)],2) from zH [.inlS [1] (.tup []) [(1,⟨(zo zm yG).map Sn.D,2,false⟩)] 2,.gloop (sd97 yG) (.exit 0) (sd101 yG),.dec false] (Ai (Eq.refl false) (Ai (zY (q:=zp yG (zo zm yG)) (lp_ranges_gathered_4p1 yG (zo zm yG) (zo zm yG) 0 (List.drop_zero) (Nat.zero_le _) (by simp only [zK,GS.some_l,List.length_set,List.length_append,List.length_cons,List.length_nil] at * <;> first | with_reducible assumption | omega) (by simp only [zK,GS.some_l,List.length_set,List.length_append,List.length_cons,List.length_nil] at * <;> first | with_reducible assumption | omega)) h31) (Ai (gc_of (C:=cfg) (f:=69) (a:=lp69_4) (ks:=[4,10,11,12]) (st:=(sd96 yG)) (st1:=(sd97 yG)) (by kernel_rfl) (by (simp only [sd96,sd97,go_sem,List.length_set,Nat.reduceAdd,Nat.reduceEqDiff,Nat.reduceLT,Nat.reduceLeDiff,bI2,zb.idsL,zb.renL,zb.snapAll,z6.idsL,z6.renL,z6.snapAll]) <;> rfl)) (Ai (Ai (show ze [(1,⟨yG.map Sn.D,2,false⟩)] 256 [1] []=some [1] from (by (simp only [ze,go_sem,List.length_set,Nat.reduceAdd,Nat.reduceEqDiff,Nat.reduceLT,Nat.reduceLeDiff,bI2,zb.idsL,zb.renL,zb.snapAll,z6.idsL,z6.renL,z6.snapAll]) <;> rfl)) (yq 1 2 none yG (by omega))) trivial)))) (by kernel_rfl))) (Ai p3 (Ai h3 (Ai p1 (Ai h2 (Ai (zO Sn.D r) (Ai h1 (Ai (zi r (by omega)) trivial)))))))) (by kernel_rfl)
     | x4 xf yP =>
      try dsimp only
      exact zu ((yn r by_)++[.dec true,.inl (.lsl 1 0 yG.length 2 none) [(0,⟨[I by_],1,false⟩),(1,⟨yG.map Sn.D,2,false⟩)] 2,.inlS [1] (.tup [.sl true [] 0 none,I 2]) [(1,⟨(zo zm yG).map Sn.D,2,false⟩),(2,⟨[.agg [I yP.lo,I yP.hi]],2,false⟩)] 3]) (Ai (Ai (show ze [(0,⟨[I by_],1,false⟩),(1,⟨yG.map Sn.D,2,false⟩)] 256 [1] []=some [1] from (by (simp only [ze,go_sem,List.length_set,Nat.reduceAdd,Nat.reduceEqDiff,Nat.reduceLT,Nat.reduceLeDiff,bI2,zb.idsL,zb.renL,zb.snapAll,z6.idsL,z6.renL,z6.snapAll]) <;> rfl)) (show (lim cfg).inl 69 [.lsl 1 0 yG.length 2 none] [(1,⟨yG.map Sn.D,2,false⟩)] 2=some (.tup [.sl true [] 0 none,I 2],[(1,⟨(zo zm yG).map Sn.D,2,false⟩),(2,⟨[.agg [I yP.lo,I yP.hi]],2,false⟩)],3) from zH [.inlS [1] (.tup []) [(1,⟨(zo zm yG).map Sn.D,2,false⟩)] 2,.gloop (sd97 yG) .ret (sd102 yG xf yP)] (Ai (zY (q:=zp yG (zo zm yG)) (lp_ranges_gathered_4p1 yG (zo zm yG) (zo zm yG) 0 (List.drop_zero) (Nat.zero_le _) (by simp only [zK,GS.some_l,List.length_set,List.length_append,List.length_cons,List.length_nil] at * <;> first | with_reducible assumption | omega) (by simp only [zK,GS.some_l,List.length_set,List.length_append,List.length_cons,List.length_nil] at * <;> first | with_reducible assumption | omega)) h31) (Ai (gc_of (C:=cfg) (f:=69) (a:=lp69_4) (ks:=[4,10,11,12]) (st:=(sd96 yG)) (st1:=(sd97 yG)) (by kernel_rfl) (by (simp only [sd96,sd97,go_sem,List.length_set,Nat.reduceAdd,Nat.reduceEqDiff,Nat.reduceLT,Nat.reduceLeDiff,bI2,zb.idsL,zb.renL,zb.snapAll,z6.idsL,z6.renL,z6.snapAll]) <;> rfl)) (Ai (Ai (show ze [(1,⟨yG.map Sn.D,2,false⟩)] 256 [1] []=some [1] from (by (simp only [ze,go_sem,List.length_set,Nat.reduceAdd,Nat.reduceEqDiff,Nat.reduceLT,Nat.reduceLeDiff,bI2,zb.idsL,zb.renL,zb.snapAll,z6.idsL,z6.renL,z6.snapAll]) <;> rfl)) (yq 1 2 none yG (by omega))) trivial))) (by kernel_rfl))) (Ai p3 (Ai h3 (Ai p1 (Ai h2 (Ai (zO Sn.D r) (Ai h1 (Ai (zi r (by omega)) trivial)))))))) (by kernel_rfl)
     | x5 xf yP =>
      try dsimp only
      exact zu ((yn r by_)++[.dec true,.inl (.lsl 1 0 yG.length 2 none) [(0,⟨[I by_],1,false⟩),(1,⟨yG.map Sn.D,2,false⟩)] 2,.inlS [1] (.tup [.sl true [] 0 none,I 2]) [(1,⟨(zo zm yG).map Sn.D,2,false⟩),(2,⟨[.agg [I yP.lo,I yP.hi]],2,false⟩)] 3]) (Ai (Ai (show ze [(0,⟨[I by_],1,false⟩),(1,⟨yG.map Sn.D,2,false⟩)] 256 [1] []=some [1] from (by (simp only [ze,go_sem,List.length_set,Nat.reduceAdd,Nat.reduceEqDiff,Nat.reduceLT,Nat.reduceLeDiff,bI2,zb.idsL,zb.renL,zb.snapAll,z6.idsL,z6.renL,z6.snapAll]) <;> rfl)) (show (lim cfg).inl 69 [.lsl 1 0 yG.length 2 none] [(1,⟨yG.map Sn.D,2,false⟩)] 2=some (.tup [.sl true [] 0 none,I 2],[(1,⟨(zo zm yG).map Sn.D,2,false⟩),(2,⟨[.agg [I yP.lo,I yP.hi]],2,false⟩)],3) from zH [.inlS [1] (.tup []) [(1,⟨(zo zm yG).map Sn.D,2,false⟩)] 2,.gloop (sd97 yG) .ret (sd103 yG xf yP)] (Ai (zY (q:=zp yG (zo zm yG)) (lp_ranges_gathered_4p1 yG (zo zm yG) (zo zm yG) 0 (List.drop_zero) (Nat.zero_le _) (by simp only [zK,GS.some_l,List.length_set,List.length_append,List.length_cons,List.length_nil] at * <;> first | with_reducible assumption | omega) (by simp only [zK,GS.some_l,List.length_set,List.length_append,List.length_cons,List.length_nil] at * <;> first | with_reducible assumption | omega)) h31) (Ai (gc_of (C:=cfg) (f:=69) (a:=lp69_4) (ks:=[4,10,11,12]) (st:=(sd96 yG)) (st1:=(sd97 yG)) (by kernel_rfl) (by (simp only [sd96,sd97,go_sem,List.length_set,Nat.reduceAdd,Nat.reduceEqDiff,Nat.reduceLT,Nat.reduceLeDiff,bI2,zb.idsL,zb.renL,zb.snapAll,z6.idsL,z6.renL,z6.snapAll]) <;> rfl)) (Ai (Ai (show ze [(1,⟨yG.map Sn.D,2,false⟩)] 256 [1] []=some [1] from (by (simp only [ze,go_sem,List.length_set,Nat.reduceAdd,Nat.reduceEqDiff,Nat.reduceLT,Nat.reduceLeDiff,bI2,zb.idsL,zb.renL,zb.snapAll,z6.idsL,z6.renL,z6.snapAll]) <;> rfl)) (yq 1 2 none yG (by omega))) trivial))) (by kernel_rfl))) (Ai p3 (Ai h3 (Ai p1 (Ai h2 (Ai (zO Sn.D r) (Ai h1 (Ai (zi r (by omega)) trivial)))))))) (by kernel_rfl)
    | x2 =>
     try dsimp only
     exact zu ((yn r by_)++[.dec true,.inl (.sl true [] 0 none) [(0,⟨[I by_],1,true⟩)] 1,.inl (.tup [.sl true [] 0 none,I 0]) [] 1]) (Ai (show (lim cfg).inl 69 [.sl true [] 0 none] [] 1=some (.tup [.sl true [] 0 none,I 0],[],1) from zH [.inl (.tup []) [] 1,.loop (.exit 0) ⟨65,[(13,B false),(4,.sl true [] 0 none),(10,.sl true [] 0 none),(11,I 0),(12,I 0)],[],1,1⟩,.dec false] (Ai (Eq.refl false) (Ai (show (lim cfg).loop 69 lp69_4 ⟨65,[(4,.sl true [] 0 none),(10,.sl true [] 0 none),(11,I 0),(12,I 0)],[],1,1⟩=some ((.exit 0),⟨65,[(13,B false),(4,.sl true [] 0 none),(10,.sl true [] 0 none),(11,I 0),(12,I 0)],[],1,1⟩) from (yc [.dec false] (Ai (Eq.refl false) trivial) (by kernel_rfl))) (Ai (T_sort_nil 1) trivial))) (by kernel_rfl)) (Ai (show (lim cfg).inl 70 [.sl r.nl (r.l.map Sn.D) (zsl r.nl 2) none,.fn (.func 85) [] [.lref 0 0 1 0]] [(0,⟨[I by_],1,false⟩)] 1=some (.sl true [] 0 none,[(0,⟨[I by_],1,true⟩)],1) from zH [.rw 9 (I ((r.l.length:Nat):Int)),.loop (.exit 0) (sd220 r by_)] (Ai (zY (q:=yE r by_) (lp_ranges_each_3p1 r by_ r.l 0 (List.drop_zero) (Nat.zero_le _) (by omega)) h28) (Ai (zO Sn.D r) trivial)) (by kernel_rfl)) (Ai h3 (Ai p1 (Ai h2 (Ai (zO Sn.D r) (Ai h1 (Ai (zi r (by omega)) trivial)))))))) (by kernel_rfl)
    | x3 =>
     try dsimp only
     exact zu ((yn r by_)++[.dec true,.inl (.sl true [] 0 none) [(0,⟨[I by_],1,false⟩)] 1,.inl (.tup [.sl true [] 0 none,I 0]) [] 1]) (Ai (show (lim cfg).inl 69 [.sl true [] 0 none] [] 1=some (.tup [.sl true [] 0 none,I 0],[],1) from zH [.inl (.tup []) [] 1,.loop (.exit 0) ⟨65,[(13,B false),(4,.sl true [] 0 none),(10,.sl true [] 0 none),(11,I 0),(12,I 0)],[],1,1⟩,.dec false] (Ai (Eq.refl false) (Ai (show (lim cfg).loop 69 lp69_4 ⟨65,[(4,.sl true [] 0 none),(10,.sl true [] 0 none),(11,I 0),(12,I 0)],[],1,1⟩=some ((.exit 0),⟨65,[(13,B false),(4,.sl true [] 0 none),(10,.sl true [] 0 none),(11,I 0),(12,I 0)],[],1,1⟩) from (yc [.dec false] (Ai (Eq.refl false) trivial) (by kernel_rfl))) (Ai (T_sort_nil 1) trivial))) (by kernel_rfl)) (Ai (show (lim cfg).inl 70 [.sl r.nl (r.l.map Sn.D) (zsl r.nl 2) none,.fn (.func 85) [] [.lref 0 0 1 0]] [(0,⟨[I by_],1,false⟩)] 1=some (.sl true [] 0 none,[(0,⟨[I by_],1,false⟩)],1) from zH [.rw 9 (I ((r.l.length:Nat):Int)),.loop (.exit 0) (sd221 r by_)] (Ai (zY (q:=yE r by_) (lp_ranges_each_3p1 r by_ r.l 0 (List.drop_zero) (Nat.zero_le _) (by omega)) h28) (Ai (zO Sn.D r) trivial)) (by kernel_rfl)) (Ai h3 (Ai p1 (Ai h2 (Ai (zO Sn.D r) (Ai h1 (Ai (zi r (by omega)) trivial)))))))) (by kernel_rfl)
   | false =>
    exact zu ((yn r by_)++[.dec false]) (Ai h3 (Ai p1 (Ai h2 (Ai (zO Sn.D r) (Ai h1 (Ai (zi r (by omega)) trivial)))))) (by kernel_rfl)
  | false =>
   have g2:=of_decide_eq_false h2
   cases h33:yw by_ r.l with
   | x0 yH =>
    try dsimp only
    have hv_h33:=ivt_ranges_each_3p1 r by_ r.l 0 (List.drop_zero) (Nat.zero_le _) (by omega)
    rw [h33] at hv_h33
    have hv_h33_0:=hv_h33
    try dsimp only [iv_ranges_each_3p1] at hv_h33_0
    have p4:=(show (lim cfg).inl 70 [.sl r.nl (r.l.map Sn.D) (zsl r.nl 2) none,.fn (.func 85) [] [.lref 0 0 1 0]] [(0,⟨[I by_],1,false⟩)] 1=some (.lsl 1 0 yH.length 2 none,[(0,⟨[I by_],1,true⟩),(1,⟨yH.map Sn.D,2,false⟩)],2) from zH [.rw 9 (I ((r.l.length:Nat):Int)),.loop (.exit 0) (sd210 r by_ yH)] (Ai (zY (q:=yE r by_) (lp_ranges_each_3p1 r by_ r.l 0 (List.drop_zero) (Nat.zero_le _) (by omega)) h33) (Ai (zO Sn.D r) trivial)) (by kernel_rfl))
    cases h34:zD (zo zm yH) 0 with
    | x0 yI =>
     try dsimp only
     have hv_h34:=zI yH (zo zm yH) (zo zm yH) 0 (List.drop_zero) (Nat.zero_le _) (by simp only [zK,GS.some_l,List.length_set,List.length_append,List.length_cons,List.length_nil] at * <;> first | with_reducible assumption | omega) (by simp only [zK,GS.some_l,List.length_set,List.length_append,List.length_cons,List.length_nil] at * <;> first | with_reducible assumption | omega)
     rw [h34] at hv_h34
     obtain ⟨hv_h34_0,hv_h34_1⟩:=hv_h34
     try dsimp only [zt] at hv_h34_0
     try dsimp only [zt] at hv_h34_1
     cases h35:decide (((yI.length:Nat):Int) > 64) with
     | true =>
      have g35:=of_decide_eq_true h35
      exact zu ((ranges_Shift_o2 r by_ yH)++[.inlS [1] (.tup [.sl true [] 0 none,I 2]) [(1,⟨(zo zm yH).map Sn.D,2,false⟩),(2,⟨yI.map Sn.D,2,false⟩)] 3]) (Ai (Ai (show ze [(0,⟨[I by_],1,true⟩),(1,⟨yH.map Sn.D,2,false⟩)] 256 [1] []=some [1] from (by (simp only [ze,go_sem,List.length_set,Nat.reduceAdd,Nat.reduceEqDiff,Nat.reduceLT,Nat.reduceLeDiff,bI2,zb.idsL,zb.renL,zb.snapAll,z6.idsL,z6.renL,z6.snapAll]) <;> rfl)) (show (lim cfg).inl 69 [.lsl 1 0 yH.length 2 none] [(1,⟨yH.map Sn.D,2,false⟩)] 2=some (.tup [.sl true [] 0 none,I 2],[(1,⟨(zo zm yH).map Sn.D,2,false⟩),(2,⟨yI.map Sn.D,2,false⟩)],3) from zH [.inlS [1] (.tup []) [(1,⟨(zo zm yH).map Sn.D,2,false⟩)] 2,.gloop (sd212 yH) (.exit 0) (sd213 yH yI),.dec true] (Ai h35 (Ai (zY (q:=zp yH (zo zm yH)) (lp_ranges_gathered_4p1 yH (zo zm yH) (zo zm yH) 0 (List.drop_zero) (Nat.zero_le _) (by simp only [zK,GS.some_l,List.length_set,List.length_append,List.length_cons,List.length_nil] at * <;> first | with_reducible assumption | omega) (by simp only [zK,GS.some_l,List.length_set,List.length_append,List.length_cons,List.length_nil] at * <;> first | with_reducible assumption | omega)) h34) (Ai (gc_of (C:=cfg) (f:=69) (a:=lp69_4) (ks:=[4,10,11,12]) (st:=(sd211 yH)) (st1:=(sd212 yH)) (by kernel_rfl) (by (simp only [sd211,sd212,go_sem,List.length_set,Nat.reduceAdd,Nat.reduceEqDiff,Nat.reduceLT,Nat.reduceLeDiff,bI2,zb.idsL,zb.renL,zb.snapAll,z6.idsL,z6.renL,z6.snapAll]) <;> rfl)) (Ai (Ai (show ze [(1,⟨yH.map Sn.D,2,false⟩)] 256 [1] []=some [1] from (by (simp only [ze,go_sem,List.length_set,Nat.reduceAdd,Nat.reduceEqDiff,Nat.reduceLT,Nat.reduceLeDiff,bI2,zb.idsL,zb.renL,zb.snapAll,z6.idsL,z6.renL,z6.snapAll]) <;> rfl)) (yq 1 2 none yH (by omega))) trivial)))) (by kernel_rfl))) (Ai p4 (Ai h2 (Ai (zO Sn.D r) (Ai h1 (Ai (zi r (by omega)) trivial)))))) (by kernel_rfl)
     | false =>
      have g35:=of_decide_eq_false h35
      exact po_pureS ((ranges_Shift_o2 r by_ yH)++[.inlS [1] (.tup [.lsl 2 0 yI.length 2 none,I 0]) [(1,⟨(zo zm yH).map Sn.D,2,false⟩),(2,⟨yI.map Sn.D,2,false⟩)] 3]) [(2,.sl false (yI.map Sn.D) 2 none,[2])] (Ai (snap_row (gO:=zB [(0,⟨[I by_],1,true⟩),(1,⟨(zo zm yH).map Sn.D,2,false⟩),(2,⟨yI.map Sn.D,2,false⟩)]) (o:=2) (len:=yI.length) (cap:=none) (fz:=false) z6 yI (by kernel_rfl) (by omega)) (Ai (Ai (show ze [(0,⟨[I by_],1,true⟩),(1,⟨yH.map Sn.D,2,false⟩)] 256 [1] []=some [1] from (by (simp only [ze,go_sem,List.length_set,Nat.reduceAdd,Nat.reduceEqDiff,Nat.reduceLT,Nat.reduceLeDiff,bI2,zb.idsL,zb.renL,zb.snapAll,z6.idsL,z6.renL,z6.snapAll]) <;> rfl)) (show (lim cfg).inl 69 [.lsl 1 0 yH.length 2 none] [(1,⟨yH.map Sn.D,2,false⟩)] 2=some (.tup [.lsl 2 0 yI.length 2 none,I 0],[(1,⟨(zo zm yH).map Sn.D,2,false⟩),(2,⟨yI.map Sn.D,2,false⟩)],3) from zH [.inlS [1] (.tup []) [(1,⟨(zo zm yH).map Sn.D,2,false⟩)] 2,.gloop (sd212 yH) (.exit 0) (sd213 yH yI),.dec false] (Ai h35 (Ai (zY (q:=zp yH (zo zm yH)) (lp_ranges_gathered_4p1 yH (zo zm yH) (zo zm yH) 0 (List.drop_zero) (Nat.zero_le _) (by simp only [zK,GS.some_l,List.length_set,List.length_append,List.length_cons,List.length_nil] at * <;> first | with_reducible assumption | omega) (by simp only [zK,GS.some_l,List.length_set,List.length_append,List.length_cons,List.length_nil] at * <;> first | with_reducible assumption | omega)) h34) (Ai (gc_of (C:=cfg) (f:=69) (a:=lp69_4) (ks:=[4,10,11,12]) (st:=(sd211 yH)) (st1:=(sd212 yH)) (by kernel_rfl) (by (simp only [sd211,sd212,go_sem,List.length_set,Nat.reduceAdd,Nat.reduceEqDiff,Nat.reduceLT,Nat.reduceLeDiff,bI2,zb.idsL,zb.renL,zb.snapAll,z6.idsL,z6.renL,z6.snapAll]) <;> rfl)) (Ai (Ai (show ze [(1,⟨yH.map Sn.D,2,false⟩)] 256 [1] []=some [1] from (by (simp only [ze,go_sem,List.length_set,Nat.reduceAdd,Nat.reduceEqDiff,Nat.reduceLT,Nat.reduceLeDiff,bI2,zb.idsL,zb.renL,zb.snapAll,z6.idsL,z6.renL,z6.snapAll]) <;> rfl)) (yq 1 2 none yH (by omega))) trivial)))) (by kernel_rfl))) (Ai p4 (Ai h2 (Ai (zO Sn.D r) (Ai h1 (Ai (zi r (by omega)) trivial))))))) (by kernel_rfl)
    | x1 xf yP yI =>
     try dsimp only
     have hv_h34:=zI yH (zo zm yH) (zo zm yH) 0 (List.drop_zero) (Nat.zero_le _) (by simp only [zK,GS.some_l,List.length_set,List.length_append,List.length_cons,List.length_nil] at * <;> first | with_reducible assumption | omega) (by simp only [zK,GS.some_l,List.length_set,List.length_append,List.length_cons,List.length_nil] at * <;> first | with_reducible assumption | omega)
     rw [h34] at hv_h34
     obtain ⟨hv_h34_0,hv_h34_1⟩:=hv_h34
     try dsimp only [zt] at hv_h34_0
     try dsimp only [zt] at hv_h34_1
     exact zu ((ranges_Shift_o2 r by_ yH)++[.inlS [1] (.tup [.sl true [] 0 none,I 2]) [(1,⟨(zo zm yH).map Sn.D,2,false⟩),(2,⟨yI.map Sn.D,2,false⟩),(3,⟨[.agg [I yP.lo,I yP.hi]],2,false⟩)] 4]) (Ai (Ai (show ze [(0,⟨[I by_],1,true⟩),(1,⟨yH.map Sn.D,2,false⟩)] 256 [1] []=some [1] from (by (simp only [ze,go_sem,List.length_set,Nat.reduceAdd,Nat.reduceEqDiff,Nat.reduceLT,Nat.reduceLeDiff,bI2,zb.idsL,zb.renL,zb.snapAll,z6.idsL,z6.renL,z6.snapAll]) <;> rfl)) (show (lim cfg).inl 69 [.lsl 1 0 yH.length 2 none] [(1,⟨yH.map Sn.D,2,false⟩)] 2=some (.tup [.sl true [] 0 none,I 2],[(1,⟨(zo zm yH).map Sn.D,2,false⟩),(2,⟨yI.map Sn.D,2,false⟩),(3,⟨[.agg [I yP.lo,I yP.hi]],2,false⟩)],4) from zH [.inlS [1] (.tup []) [(1,⟨(zo zm yH).map Sn.D,2,false⟩)] 2,.gloop (sd212 yH) .ret (sd214 yH yI xf yP)] (Ai (zY (q:=zp yH (zo zm yH)) (lp_ranges_gathered_4p1 yH (zo zm yH) (zo zm yH) 0 (List.drop_zero) (Nat.zero_le _) (by simp only [zK,GS.some_l,List.length_set,List.length_append,List.length_cons,List.length_nil] at * <;> first | with_reducible assumption | omega) (by simp only [zK,GS.some_l,List.length_set,List.length_append,List.length_cons,List.length_nil] at * <;> first | with_reducible assumption | omega)) h34) (Ai (gc_of (C:=cfg) (f:=69) (a:=lp69_4) (ks:=[4,10,11,12]) (st:=(sd211 yH)) (st1:=(sd212 yH)) (by kernel_rfl) (by (simp only [sd211,sd212,go_sem,List.length_set,Nat.reduceAdd,Nat.reduceEqDiff,Nat.reduceLT,Nat.reduceLeDiff,bI2,zb.idsL,zb.renL,zb.snapAll,z6.idsL,z6.renL,z6.snapAll]) <;> rfl)) (Ai (Ai (show ze [(1,⟨yH.map Sn.D,2,false⟩)] 256 [1] []=some [1] from (by (simp only [ze,go_sem,List.length_set,Nat.reduceAdd,Nat.reduceEqDiff,Nat.reduceLT,Nat.reduceLeDiff,bI2,zb.idsL,zb.renL,zb.snapAll,z6.idsL,z6.renL,z6.snapAll]) <;> rfl)) (yq 1 2 none yH (by omega))) trivial))) (by kernel_rfl))) (Ai p4 (Ai h2 (Ai (zO Sn.D r) (Ai h1 (Ai (zi r (by omega)) trivial)))))) (by kernel_rfl)
    | x2 xf yP yI =>
     try dsimp only
     have hv_h34:=zI yH (zo zm yH) (zo zm yH) 0 (List.drop_zero) (Nat.zero_le _) (by simp only [zK,GS.some_l,List.length_set,List.length_append,List.length_cons,List.length_nil] at * <;> first | with_reducible assumption | omega) (by simp only [zK,GS.some_l,List.length_set,List.length_append,List.length_cons,List.length_nil] at * <;> first | with_reducible assumption | omega)
     rw [h34] at hv_h34
     obtain ⟨hv_h34_0,hv_h34_1⟩:=hv_h34
     try dsimp only [zt] at hv_h34_0
     try dsimp only [zt] at hv_h34_1
     exact zu ((ranges_Shift_o2 r by_ yH)++[.inlS [1] (.tup [.sl true [] 0 none,I 2]) [(1,⟨(zo zm yH).map Sn.D,2,false⟩),(2,⟨yI.map Sn.D,2,false⟩),(3,⟨[.agg [I yP.lo,I yP.hi]],2,false⟩)] 4]) (Ai (Ai (show ze [(0,⟨[I by_],1,true⟩),(1,⟨yH.map Sn.D,2,false⟩)] 256 [1] []=some [1] from (by (simp only [ze,go_sem,List.length_set,Nat.reduceAdd,Nat.reduceEqDiff,Nat.reduceLT,Nat.reduceLeDiff,bI2,zb.idsL,zb.renL,zb.snapAll,z6.idsL,z6.renL,z6.snapAll]) <;> rfl)) (show (lim cfg).inl 69 [.lsl 1 0 yH.length 2 none] [(1,⟨yH.map Sn.D,2,false⟩)] 2=some (.tup [.sl true [] 0 none,I 2],[(1,⟨(zo zm yH).map Sn.D,2,false⟩),(2,⟨yI.map Sn.D,2,false⟩),(3,⟨[.agg [I yP.lo,I yP.hi]],2,false⟩)],4) from zH [.inlS [1] (.tup []) [(1,⟨(zo zm yH).map Sn.D,2,false⟩)] 2,.gloop (sd212 yH) .ret (sd215 yH yI xf yP)] (Ai (zY (q:=zp yH (zo zm yH)) (lp_ranges_gathered_4p1 yH (zo zm yH) (zo zm yH) 0 (List.drop_zero) (Nat.zero_le _) (by simp only [zK,GS.some_l,List.length_set,List.length_append,List.length_cons,List.length_nil] at * <;> first | with_reducible assumption | omega) (by simp only [zK,GS.some_l,List.length_set,List.length_append,List.length_cons,List.length_nil] at * <;> first | with_reducible assumption | omega)) h34) (Ai (gc_of (C:=cfg) (f:=69) (a:=lp69_4) (ks:=[4,10,11,12]) (st:=(sd211 yH)) (st1:=(sd212 yH)) (by kernel_rfl) (by (simp only [sd211,sd212,go_sem,List.length_set,Nat.reduceAdd,Nat.reduceEqDiff,Nat.reduceLT,Nat.reduceLeDiff,bI2,zb.idsL,zb.renL,zb.snapAll,z6.idsL,z6.renL,z6.snapAll]) <;> rfl)) (Ai (Ai (show ze [(1,⟨yH.map Sn.D,2,false⟩)] 256 [1] []=some [1] from (by (simp only [ze,go_sem,List.length_set,Nat.reduceAdd,Nat.reduceEqDiff,Nat.reduceLT,Nat.reduceLeDiff,bI2,zb.idsL,zb.renL,zb.snapAll,z6.idsL,z6.renL,z6.snapAll]) <;> rfl)) (yq 1 2 none yH (by omega))) trivial))) (by kernel_rfl))) (Ai p4 (Ai h2 (Ai (zO Sn.D r) (Ai h1 (Ai (zi r (by omega)) trivial)))))) (by kernel_rfl)
    | x3 =>
     try dsimp only
     exact zu ((ranges_Shift_o2 r by_ yH)++[.inlS [1] (.tup [.sl true [] 0 none,I 0]) [(1,⟨(zo zm yH).map Sn.D,2,false⟩)] 2]) (Ai (Ai (show ze [(0,⟨[I by_],1,true⟩),(1,⟨yH.map Sn.D,2,false⟩)] 256 [1] []=some [1] from (by (simp only [ze,go_sem,List.length_set,Nat.reduceAdd,Nat.reduceEqDiff,Nat.reduceLT,Nat.reduceLeDiff,bI2,zb.idsL,zb.renL,zb.snapAll,z6.idsL,z6.renL,z6.snapAll]) <;> rfl)) (show (lim cfg).inl 69 [.lsl 1 0 yH.length 2 none] [(1,⟨yH.map Sn.D,2,false⟩)] 2=some (.tup [.sl true [] 0 none,I 0],[(1,⟨(zo zm yH).map Sn.D,2,false⟩)],2) from zH [.inlS [1] (.tup []) [(1,⟨(zo zm yH).map Sn.D,2,false⟩)] 2,.gloop (sd212 yH) (.exit 0) (sd216 yH),.dec false] (Ai (Eq.refl false) (Ai (zY (q:=zp yH (zo zm yH)) (lp_ranges_gathered_4p1 yH (zo zm yH) (zo zm yH) 0 (List.drop_zero) (Nat.zero_le _) (by simp only [zK,GS.some_l,List.length_set,List.length_append,List.length_cons,List.length_nil] at * <;> first | with_reducible assumption | omega) (by simp only [zK,GS.some_l,List.length_set,List.length_append,List.length_cons,List.length_nil] at * <;> first | with_reducible assumption | omega)) h34) (Ai (gc_of (C:=cfg) (f:=69) (a:=lp69_4) (ks:=[4,10,11,12]) (st:=(sd211 yH)) (st1:=(sd212 yH)) (by kernel_rfl) (by (simp only [sd211,sd212,go_sem,List.length_set,Nat.reduceAdd,Nat.reduceEqDiff,Nat.reduceLT,Nat.reduceLeDiff,bI2,zb.idsL,zb.renL,zb.snapAll,z6.idsL,z6.renL,z6.snapAll]) <;> rfl)) (Ai (Ai (show ze [(1,⟨yH.map Sn.D,2,false⟩)] 256 [1] []=some [1] from (by (simp only [ze,go_sem,List.length_set,Nat.reduceAdd,Nat.reduceEqDiff,Nat.reduceLT,Nat.reduceLeDiff,bI2,zb.idsL,zb.renL,zb.snapAll,z6.idsL,z6.renL,z6.snapAll]) <;> rfl)) (yq 1 2 none yH (by omega))) trivial)))) (by kernel_rfl))) (Ai p4 (Ai h2 (Ai (zO Sn.D r) (Ai h1 (Ai (zi r (by omega)) trivial)))))) (by kernel_rfl)
    | x4 xf yP =>
     try dsimp only
     exact zu ((ranges_Shift_o2 r by_ yH)++[.inlS [1] (.tup [.sl true [] 0 none,I 2]) [(1,⟨(zo zm yH).map Sn.D,2,false⟩),(2,⟨[.agg [I yP.lo,I yP.hi]],2,false⟩)] 3]) (Ai (Ai (show ze [(0,⟨[I by_],1,true⟩),(1,⟨yH.map Sn.D,2,false⟩)] 256 [1] []=some [1] from (by (simp only [ze,go_sem,List.length_set,Nat.reduceAdd,Nat.reduceEqDiff,Nat.reduceLT,Nat.reduceLeDiff,bI2,zb.idsL,zb.renL,zb.snapAll,z6.idsL,z6.renL,z6.snapAll]) <;> rfl)) (show (lim cfg).inl 69 [.lsl 1 0 yH.length 2 none] [(1,⟨yH.map Sn.D,2,false⟩)] 2=some (.tup [.sl true [] 0 none,I 2],[(1,⟨(zo zm yH).map Sn.D,2,false⟩),(2,⟨[.agg [I yP.lo,I yP.hi]],2,false⟩)],3) from zH [.inlS [1] (.tup []) [(1,⟨(zo zm yH).map Sn.D,2,false⟩)] 2,.gloop (sd212 yH) .ret (sd217 yH xf yP)] (Ai (zY (q:=zp yH (zo zm yH)) (lp_ranges_gathered_4p1 yH (zo zm yH) (zo zm yH) 0 (List.drop_zero) (Nat.zero_le _) (by simp only [zK,GS.some_l,List.length_set,List.length_append,List.length_cons,List.length_nil] at * <;> first | with_reducible assumption | omega) (by simp only [zK,GS.some_l,List.length_set,List.length_append,List.length_cons,List.length_nil] at * <;> first | with_reducible assumption | omega)) h34) (Ai (gc_of (C:=cfg) (f:=69) (a:=lp69_4) (ks:=[4,10,11,12]) (st:=(sd211 yH)) (st1:=(sd212 yH)) (by kernel_rfl) (by (simp only [sd211,sd212,go_sem,List.length_set,Nat.reduceAdd,Nat.reduceEqDiff,Nat.reduceLT,Nat.reduceLeDiff,bI2,zb.idsL,zb.renL,zb.snapAll,z6.idsL,z6.renL,z6.snapAll]) <;> rfl)) (Ai (Ai (show ze [(1,⟨yH.map Sn.D,2,false⟩)] 256 [1] []=some [1] from (by (simp only [ze,go_sem,List.length_set,Nat.reduceAdd,Nat.reduceEqDiff,Nat.reduceLT,Nat.reduceLeDiff,bI2,zb.idsL,zb.renL,zb.snapAll,z6.idsL,z6.renL,z6.snapAll]) <;> rfl)) (yq 1 2 none yH (by omega))) trivial))) (by kernel_rfl))) (Ai p4 (Ai h2 (Ai (zO Sn.D r) (Ai h1 (Ai (zi r (by omega)) trivial)))))) (by kernel_rfl)
    | x5 xf yP =>
     try dsimp only
     exact zu ((ranges_Shift_o2 r by_ yH)++[.inlS [1] (.tup [.sl true [] 0 none,I 2]) [(1,⟨(zo zm yH).map Sn.D,2,false⟩),(2,⟨[.agg [I yP.lo,I yP.hi]],2,false⟩)] 3]) (Ai (Ai (show ze [(0,⟨[I by_],1,true⟩),(1,⟨yH.map Sn.D,2,false⟩)] 256 [1] []=some [1] from (by (simp only [ze,go_sem,List.length_set,Nat.reduceAdd,Nat.reduceEqDiff,Nat.reduceLT,Nat.reduceLeDiff,bI2,zb.idsL,zb.renL,zb.snapAll,z6.idsL,z6.renL,z6.snapAll]) <;> rfl)) (show (lim cfg).inl 69 [.lsl 1 0 yH.length 2 none] [(1,⟨yH.map Sn.D,2,false⟩)] 2=some (.tup [.sl true [] 0 none,I 2],[(1,⟨(zo zm yH).map Sn.D,2,false⟩),(2,⟨[.agg [I yP.lo,I yP.hi]],2,false⟩)],3) from zH [.inlS [1] (.tup []) [(1,⟨(zo zm yH).map Sn.D,2,false⟩)] 2,.gloop (sd212 yH) .ret (sd218 yH xf yP)] (Ai (zY (q:=zp yH (zo zm yH)) (lp_ranges_gathered_4p1 yH (zo zm yH) (zo zm yH) 0 (List.drop_zero) (Nat.zero_le _) (by simp only [zK,GS.some_l,List.length_set,List.length_append,List.length_cons,List.length_nil] at * <;> first | with_reducible assumption | omega) (by simp only [zK,GS.some_l,List.length_set,List.length_append,List.length_cons,List.length_nil] at * <;> first | with_reducible assumption | omega)) h34) (Ai (gc_of (C:=cfg) (f:=69) (a:=lp69_4) (ks:=[4,10,11,12]) (st:=(sd211 yH)) (st1:=(sd212 yH)) (by kernel_rfl) (by (simp only [sd211,sd212,go_sem,List.length_set,Nat.reduceAdd,Nat.reduceEqDiff,Nat.reduceLT,Nat.reduceLeDiff,bI2,zb.idsL,zb.renL,zb.snapAll,z6.idsL,z6.renL,z6.snapAll]) <;> rfl)) (Ai (Ai (show ze [(1,⟨yH.map Sn.D,2,false⟩)] 256 [1] []=some [1] from (by (simp only [ze,go_sem,List.length_set,Nat.reduceAdd,Nat.reduceEqDiff,Nat.reduceLT,Nat.reduceLeDiff,bI2,zb.idsL,zb.renL,zb.snapAll,z6.idsL,z6.renL,z6.snapAll]) <;> rfl)) (yq 1 2 none yH (by omega))) trivial))) (by kernel_rfl))) (Ai p4 (Ai h2 (Ai (zO Sn.D r) (Ai h1 (Ai (zi r (by omega)) trivial)))))) (by kernel_rfl)
   | x1 yG =>
    try dsimp only
    have hv_h33:=ivt_ranges_each_3p1 r by_ r.l 0 (List.drop_zero) (Nat.zero_le _) (by omega)
    rw [h33] at hv_h33
    have hv_h33_0:=hv_h33
    try dsimp only [iv_ranges_each_3p1] at hv_h33_0
    have p5:=(show (lim cfg).inl 70 [.sl r.nl (r.l.map Sn.D) (zsl r.nl 2) none,.fn (.func 85) [] [.lref 0 0 1 0]] [(0,⟨[I by_],1,false⟩)] 1=some (.lsl 1 0 yG.length 2 none,[(0,⟨[I by_],1,false⟩),(1,⟨yG.map Sn.D,2,false⟩)],2) from zH [.rw 9 (I ((r.l.length:Nat):Int)),.loop (.exit 0) (sd219 r by_ yG)] (Ai (zY (q:=yE r by_) (lp_ranges_each_3p1 r by_ r.l 0 (List.drop_zero) (Nat.zero_le _) (by omega)) h33) (Ai (zO Sn.D r) trivial)) (by kernel_rfl))
    cases h36:zD (zo zm yG) 0 with
    | x0 yI =>
     try dsimp only
     have hv_h36:=zI yG (zo zm yG) (zo zm yG) 0 (List.drop_zero) (Nat.zero_le _) (by simp only [zK,GS.some_l,List.length_set,List.length_append,List.length_cons,List.length_nil] at * <;> first | with_reducible assumption | omega) (by simp only [zK,GS.some_l,List.length_set,List.length_append,List.length_cons,List.length_nil] at * <;> first | with_reducible assumption | omega)
     rw [h36] at hv_h36
     obtain ⟨hv_h36_0,hv_h36_1⟩:=hv_h36
     try dsimp only [zt] at hv_h36_0
     try dsimp only [zt] at hv_h36_1
     cases h37:decide (((yI.length:Nat):Int) > 64) with
     | true =>
      have g37:=of_decide_eq_true h37
      exact zu ((ranges_Shift_o3 r by_ yG)++[.inlS [1] (.tup [.sl true [] 0 none,I 2]) [(1,⟨(zo zm yG).map Sn.D,2,false⟩),(2,⟨yI.map Sn.D,2,false⟩)] 3]) (Ai (Ai (show ze [(0,⟨[I by_],1,false⟩),(1,⟨yG.map Sn.D,2,false⟩)] 256 [1] []=some [1] from (by (simp only [ze,go_sem,List.length_set,Nat.reduceAdd,Nat.reduceEqDiff,Nat.reduceLT,Nat.reduceLeDiff,bI2,zb.idsL,zb.renL,zb.snapAll,z6.idsL,z6.renL,z6.snapAll]) <;> rfl)) (show (lim cfg).inl 69 [.lsl 1 0 yG.length 2 none] [(1,⟨yG.map Sn.D,2,false⟩)] 2=some (.tup [.sl true [] 0 none,I 2],[(1,⟨(zo zm yG).map Sn.D,2,false⟩),(2,⟨yI.map Sn.D,2,false⟩)],3) from zH [.inlS [1] (.tup []) [(1,⟨(zo zm yG).map Sn.D,2,false⟩)] 2,.gloop (sd97 yG) (.exit 0) (sd98 yG yI),.dec true] (Ai h37 (Ai (zY (q:=zp yG (zo zm yG)) (lp_ranges_gathered_4p1 yG (zo zm yG) (zo zm yG) 0 (List.drop_zero) (Nat.zero_le _) (by simp only [zK,GS.some_l,List.length_set,List.length_append,List.length_cons,List.length_nil] at * <;> first | with_reducible assumption | omega) (by simp only [zK,GS.some_l,List.length_set,List.length_append,List.length_cons,List.length_nil] at * <;> first | with_reducible assumption | omega)) h36) (Ai (gc_of (C:=cfg) (f:=69) (a:=lp69_4) (ks:=[4,10,11,12]) (st:=(sd96 yG)) (st1:=(sd97 yG)) (by kernel_rfl) (by (simp only [sd96,sd97,go_sem,List.length_set,Nat.reduceAdd,Nat.reduceEqDiff,Nat.reduceLT,Nat.reduceLeDiff,bI2,zb.idsL,zb.renL,zb.snapAll,z6.idsL,z6.renL,z6.snapAll]) <;> rfl)) (Ai (Ai (show ze [(1,⟨yG.map Sn.D,2,false⟩)] 256 [1] []=some [1] from (by (simp only [ze,go_sem,List.length_set,Nat.reduceAdd,Nat.reduceEqDiff,Nat.reduceLT,Nat.reduceLeDiff,bI2,zb.idsL,zb.renL,zb.snapAll,z6.idsL,z6.renL,z6.snapAll]) <;> rfl)) (yq 1 2 none yG (by omega))) trivial)))) (by kernel_rfl))) (Ai p5 (Ai h2 (Ai (zO Sn.D r) (Ai h1 (Ai (zi r (by omega)) trivial)))))) (by kernel_rfl)
     | false =>
      have g37:=of_decide_eq_false h37
      exact po_pureS ((ranges_Shift_o3 r by_ yG)++[.inlS [1] (.tup [.lsl 2 0 yI.length 2 none,I 0]) [(1,⟨(zo zm yG).map Sn.D,2,false⟩),(2,⟨yI.map Sn.D,2,false⟩)] 3]) [(2,.sl false (yI.map Sn.D) 2 none,[2])] (Ai (snap_row (gO:=zB [(0,⟨[I by_],1,false⟩),(1,⟨(zo zm yG).map Sn.D,2,false⟩),(2,⟨yI.map Sn.D,2,false⟩)]) (o:=2) (len:=yI.length) (cap:=none) (fz:=false) z6 yI (by kernel_rfl) (by omega)) (Ai (Ai (show ze [(0,⟨[I by_],1,false⟩),(1,⟨yG.map Sn.D,2,false⟩)] 256 [1] []=some [1] from (by (simp only [ze,go_sem,List.length_set,Nat.reduceAdd,Nat.reduceEqDiff,Nat.reduceLT,Nat.reduceLeDiff,bI2,zb.idsL,zb.renL,zb.snapAll,z6.idsL,z6.renL,z6.snapAll]) <;> rfl)) (show (lim cfg).inl 69 [.lsl 1 0 yG.length 2 none] [(1,⟨yG.map Sn.D,2,false⟩)] 2=some (.tup [.lsl 2 0 yI.length 2 none,I 0],[(1,⟨(zo zm yG).map Sn.D,2,false⟩),(2,⟨yI.map Sn.D,2,false⟩)],3) from zH [.inlS [1] (.tup []) [(1,⟨(zo zm yG).map Sn.D,2,false⟩)] 2,.gloop (sd97 yG) (.exit 0) (sd98 yG yI),.dec false] (Ai h37 (Ai (zY (q:=zp yG (zo zm yG)) (lp_ranges_gathered_4p1 yG (zo zm yG) (zo zm yG) 0 (List.drop_zero) (Nat.zero_le _) (by simp only [zK,GS.some_l,List.length_set,List.length_append,List.length_cons,List.length_nil] at * <;> first | with_reducible assumption | omega) (by simp only [zK,GS.some_l,List.length_set,List.length_append,List.length_cons,List.length_nil] at * <;> first | with_reducible assumption | omega)) h36) (Ai (gc_of (C:=cfg) (f:=69) (a:=lp69_4) (ks:=[4,10,11,12]) (st:=(sd96 yG)) (st1:=(sd97 yG)) (by kernel_rfl) (by (simp only [sd96,sd97,go_sem,List.length_set,Nat.reduceAdd,Nat.reduceEqDiff,Nat.reduceLT,Nat.reduceLeDiff,bI2,zb.idsL,zb.renL,zb.snapAll,z6.idsL,z6.renL,z6.snapAll]) <;> rfl)) (Ai (Ai (show ze [(1,⟨yG.map Sn.D,2,false⟩)] 256 [1] []=some [1] from (by (simp only [ze,go_sem,List.length_set,Nat.reduceAdd,Nat.reduceEqDiff,Nat.reduceLT,Nat.reduceLeDiff,bI2,zb.idsL,zb.renL,zb.snapAll,z6.idsL,z6.renL,z6.snapAll]) <;> rfl)) (yq 1 2 none yG (by omega))) trivial)))) (by kernel_rfl))) (Ai p5 (Ai h2 (Ai (zO Sn.D r) (Ai h1 (Ai (zi r (by omega)) trivial))))))) (by kernel_rfl)
    | x1 xf yP yI =>
     try dsimp only
     have hv_h36:=zI yG (zo zm yG) (zo zm yG) 0 (List.drop_zero) (Nat.zero_le _) (by simp only [zK,GS.some_l,List.length_set,List.length_append,List.length_cons,List.length_nil] at * <;> first | with_reducible assumption | omega) (by simp only [zK,GS.some_l,List.length_set,List.length_append,List.length_cons,List.length_nil] at * <;> first | with_reducible assumption | omega)
     rw [h36] at hv_h36
     obtain ⟨hv_h36_0,hv_h36_1⟩:=hv_h36
     try dsimp only [zt] at hv_h36_0
     try dsimp only [zt] at hv_h36_1
     exact zu ((ranges_Shift_o3 r by_ yG)++[.inlS [1] (.tup [.sl true [] 0 none,I 2]) [(1,⟨(zo zm yG).map Sn.D,2,false⟩),(2,⟨yI.map Sn.D,2,false⟩),(3,⟨[.agg [I yP.lo,I yP.hi]],2,false⟩)] 4]) (Ai (Ai (show ze [(0,⟨[I by_],1,false⟩),(1,⟨yG.map Sn.D,2,false⟩)] 256 [1] []=some [1] from (by (simp only [ze,go_sem,List.length_set,Nat.reduceAdd,Nat.reduceEqDiff,Nat.reduceLT,Nat.reduceLeDiff,bI2,zb.idsL,zb.renL,zb.snapAll,z6.idsL,z6.renL,z6.snapAll]) <;> rfl)) (show (lim cfg).inl 69 [.lsl 1 0 yG.length 2 none] [(1,⟨yG.map Sn.D,2,false⟩)] 2=some (.tup [.sl true [] 0 none,I 2],[(1,⟨(zo zm yG).map Sn.D,2,false⟩),(2,⟨yI.map Sn.D,2,false⟩),(3,⟨[.agg [I yP.lo,I yP.hi]],2,false⟩)],4) from zH [.inlS [1] (.tup []) [(1,⟨(zo zm yG).map Sn.D,2,false⟩)] 2,.gloop (sd97 yG) .ret (sd99 yG yI xf yP)] (Ai (zY (q:=zp yG (zo zm yG)) (lp_ranges_gathered_4p1 yG (zo zm yG) (zo zm yG) 0 (List.drop_zero) (Nat.zero_le _) (by simp only [zK,GS.some_l,List.length_set,List.length_append,List.length_cons,List.length_nil] at * <;> first | with_reducible assumption | omega) (by simp only [zK,GS.some_l,List.length_set,List.length_append,List.length_cons,List.length_nil] at * <;> first | with_reducible assumption | omega)) h36) (Ai (gc_of (C:=cfg) (f:=69) (a:=lp69_4) (ks:=[4,10,11,12]) (st:=(sd96 yG)) (st1:=(sd97 yG)) (by kernel_rfl) (by (simp only [sd96,sd97,go_sem,List.length_set,Nat.reduceAdd,Nat.reduceEqDiff,Nat.reduceLT,Nat.reduceLeDiff,bI2,zb.idsL,zb.renL,zb.snapAll,z6.idsL,z6.renL,z6.snapAll]) <;> rfl)) (Ai (Ai (show ze [(1,⟨yG.map Sn.D,2,false⟩)] 256 [1] []=some [1] from (by (simp only [ze,go_sem,List.length_set,Nat.reduceAdd,Nat.reduceEqDiff,Nat.reduceLT,Nat.reduceLeDiff,bI2,zb.idsL,zb.renL,zb.snapAll,z6.idsL,z6.renL,z6.snapAll]) <;> rfl)) (yq 1 2 none yG (by omega))) trivial))) (by kernel_rfl))) (Ai p5 (Ai h2 (Ai (zO Sn.D r) (Ai h1 (Ai (zi r (by omega)) trivial)))))) (by kernel_rfl)
    | x2 xf yP yI =>
     try dsimp only
     have hv_h36:=zI yG (zo zm yG) (zo zm yG) 0 (List.drop_zero) (Nat.zero_le _) (by simp only [zK,GS.some_l,List.length_set,List.length_append,List.length_cons,List.length_nil] at * <;> first | with_reducible assumption | omega) (by simp only [zK,GS.some_l,List.length_set,List.length_append,List.length_cons,List.length_nil] at * <;> first | with_reducible assumption | omega)
     rw [h36] at hv_h36
     obtain ⟨hv_h36_0,hv_h36_1⟩:=hv_h36
     try dsimp only [zt] at hv_h36_0
     try dsimp only [zt] at hv_h36_1
     exact zu ((ranges_Shift_o3 r by_ yG)++[.inlS [1] (.tup [.sl true [] 0 none,I 2]) [(1,⟨(zo zm yG).map Sn.D,2,false⟩),(2,⟨yI.map Sn.D,2,false⟩),(3,⟨[.agg [I yP.lo,I yP.hi]],2,false⟩)] 4]) (Ai (Ai (show ze [(0,⟨[I by_],1,false⟩),(1,⟨yG.map Sn.D,2,false⟩)] 256 [1] []=some [1] from (by (simp only [ze,go_sem,List.length_set,Nat.reduceAdd,Nat.reduceEqDiff,Nat.reduceLT,Nat.reduceLeDiff,bI2,zb.idsL,zb.renL,zb.snapAll,z6.idsL,z6.renL,z6.snapAll]) <;> rfl)) (show (lim cfg).inl 69 [.lsl 1 0 yG.length 2 none] [(1,⟨yG.map Sn.D,2,false⟩)] 2=some (.tup [.sl true [] 0 none,I 2],[(1,⟨(zo zm yG).map Sn.D,2,false⟩),(2,⟨yI.map Sn.D,2,false⟩),(3,⟨[.agg [I yP.lo,I yP.hi]],2,false⟩)],4) from zH [.inlS [1] (.tup []) [(1,⟨(zo zm yG).map Sn.D,2,false⟩)] 2,.gloop (sd97 yG) .ret (sd100 yG yI xf yP)] (Ai (zY (q:=zp yG (zo zm yG)) (lp_ranges_gathered_4p1 yG (zo zm yG) (zo zm yG) 0 (List.drop_zero) (Nat.zero_le _) (by simp only [zK,GS.some_l,List.length_set,List.length_append,List.length_cons,List.length_nil] at * <;> first | with_reducible assumption | omega) (by simp only [zK,GS.some_l,List.length_set,List.length_append,List.length_cons,List.length_nil] at * <;> first | with_reducible assumption | omega)) h36) (Ai (gc_of (C:=cfg) (f:=69) (a:=lp69_4) (ks:=[4,10,11,12]) (st:=(sd96 yG)) (st1:=(sd97 yG)) (by kernel_rfl) (by (simp only [sd96,sd97,go_sem,List.length_set,Nat.reduceAdd,Nat.reduceEqDiff,Nat.reduceLT,Nat.reduceLeDiff,bI2,zb.idsL,zb.renL,zb.snapAll,z6.idsL,z6.renL,z6.snapAll]) <;> rfl)) (Ai (Ai (show ze [(1,⟨yG.map Sn.D,2,false⟩)] 256 [1] []=some [1] from (by (simp only [ze,go_sem,List.length_set,Nat.reduceAdd,Nat.reduceEqDiff,Nat.reduceLT,Nat.reduceLeDiff,bI2,zb.idsL,zb.renL,zb.snapAll,z6.idsL,z6.renL,z6.snapAll]) <;> rfl)) (yq 1 2 none yG (by omega))) trivial))) (by kernel_rfl))) (Ai p5 (Ai h2 (Ai (zO Sn.D r) (Ai h1 (Ai (zi r (by omega)) trivial)))))) (by kernel_rfl)
    | x3 =>
     try dsimp only
     exact zu ((ranges_Shift_o3 r by_ yG)++[.inlS [1] (.tup [.sl true [] 0 none,I 0]) [(1,⟨(zo zm yG).map Sn.D,2,false⟩)] 2]) (Ai (Ai (show ze [(0,⟨[I by_],1,false⟩),(1,⟨yG.map Sn.D,2,false⟩)] 256 [1] []=some [1] from (by (simp only [ze,go_sem,List.length_set,Nat.reduceAdd,Nat.reduceEqDiff,Nat.reduceLT,Nat.reduceLeDiff,bI2,zb.idsL,zb.renL,zb.snapAll,z6.idsL,z6.renL,z6.snapAll]) <;> rfl)) (show (lim cfg).inl 69 [.lsl 1 0 yG.length 2 none] [(1,⟨yG.map Sn.D,2,false⟩)] 2=some (.tup [.sl true [] 0 none,I 0],[(1,⟨(zo zm yG).map Sn.D,2,false⟩)],2) from zH [.inlS [1] (.tup []) [(1,⟨(zo zm yG).map Sn.D,2,false⟩)] 2,.gloop (sd97 yG) (.exit 0) (sd101 yG),.dec false] (Ai (Eq.refl false) (Ai (zY (q:=zp yG (zo zm yG)) (lp_ranges_gathered_4p1 yG (zo zm yG) (zo zm yG) 0 (List.drop_zero) (Nat.zero_le _) (by simp only [zK,GS.some_l,List.length_set,List.length_append,List.length_cons,List.length_nil] at * <;> first | with_reducible assumption | omega) (by simp only [zK,GS.some_l,List.length_set,List.length_append,List.length_cons,List.length_nil] at * <;> first | with_reducible assumption | omega)) h36) (Ai (gc_of (C:=cfg) (f:=69) (a:=lp69_4) (ks:=[4,10,11,12]) (st:=(sd96 yG)) (st1:=(sd97 yG)) (by kernel_rfl) (by (simp only [sd96,sd97,go_sem,List.length_set,Nat.reduceAdd,Nat.reduceEqDiff,Nat.reduceLT,Nat.reduceLeDiff,bI2,zb.idsL,zb.renL,zb.snapAll,z6.idsL,z6.renL,z6.snapAll]) <;> rfl)) (Ai (Ai (show ze [(1,⟨yG.map Sn.D,2,false⟩)] 256 [1] []=some [1] from (by (simp only [ze,go_sem,List.length_set,Nat.reduceAdd,Nat.reduceEqDiff,Nat.reduceLT,Nat.reduceLeDiff,bI2,zb.idsL,zb.renL,zb.snapAll,z6.idsL,z6.renL,z6.snapAll]) <;> rfl)) (yq 1 2 none yG (by omega))) trivial)))) (by kernel_rfl))) (Ai p5 (Ai h2 (Ai (zO Sn.D r) (Ai h1 (Ai (zi r (by omega)) trivial)))))) (by kernel_rfl)
    | x4 xf yP =>
     try dsimp only
     exact zu ((ranges_Shift_o3 r by_ yG)++[.inlS [1] (.tup [.sl true [] 0 none,I 2]) [(1,⟨(zo zm yG).map Sn.D,2,false⟩),(2,⟨[.agg [I yP.lo,I yP.hi]],2,false⟩)] 3]) (Ai (Ai (show ze [(0,⟨[I by_],1,false⟩),(1,⟨yG.map Sn.D,2,false⟩)] 256 [1] []=some [1] from (by (simp only [ze,go_sem,List.length_set,Nat.reduceAdd,Nat.reduceEqDiff,Nat.reduceLT,Nat.reduceLeDiff,bI2,zb.idsL,zb.renL,zb.snapAll,z6.idsL,z6.renL,z6.snapAll]) <;> rfl)) (show (lim cfg).inl 69 [.lsl 1 0 yG.length 2 none] [(1,⟨yG.map Sn.D,2,false⟩)] 2=some (.tup [.sl true [] 0 none,I 2],[(1,⟨(zo zm yG).map Sn.D,2,false⟩),(2,⟨[.agg [I yP.lo,I yP.hi]],2,false⟩)],3) from zH [.inlS [1] (.tup []) [(1,⟨(zo zm yG).map Sn.D,2,false⟩)] 2,.gloop (sd97 yG) .ret (sd102 yG xf yP)] (Ai (zY (q:=zp yG (zo zm yG)) (lp_ranges_gathered_4p1 yG (zo zm yG) (zo zm yG) 0 (List.drop_zero) (Nat.zero_le _) (by simp only [zK,GS.some_l,List.length_set,List.length_append,List.length_cons,List.length_nil] at * <;> first | with_reducible assumption | omega) (by simp only [zK,GS.some_l,List.length_set,List.length_append,List.length_cons,List.length_nil] at * <;> first | with_reducible assumption | omega)) h36) (Ai (gc_of (C:=cfg) (f:=69) (a:=lp69_4) (ks:=[4,10,11,12]) (st:=(sd96 yG)) (st1:=(sd97 yG)) (by kernel_rfl) (by (simp only [sd96,sd97,go_sem,List.length_set,Nat.reduceAdd,Nat.reduceEqDiff,Nat.reduceLT,Nat.reduceLeDiff,bI2,zb.idsL,zb.renL,zb.snapAll,z6.idsL,z6.renL,z6.snapAll]) <;> rfl)) (Ai (Ai (show ze [(1,⟨yG.map Sn.D,2,false⟩)] 256 [1] []=some [1] from (by (simp only [ze,go_sem,List.length_set,Nat.reduceAdd,Nat.reduceEqDiff,Nat.reduceLT,Nat.reduceLeDiff,bI2,zb.idsL,zb.renL,zb.snapAll,z6.idsL,z6.renL,z6.snapAll]) <;> rfl)) (yq 1 2 none yG (by omega))) trivial))) (by kernel_rfl))) (Ai p5 (Ai h2 (Ai (zO Sn.D r) (Ai h1 (Ai (zi r (by omega)) trivial)))))) (by kernel_rfl)
    | x5 xf yP =>
     try dsimp only
     exact zu ((ranges_Shift_o3 r by_ yG)++[.inlS [1] (.tup [.sl true [] 0 none,I 2]) [(1,⟨(zo zm yG).map Sn.D,2,false⟩),(2,⟨[.agg [I yP.lo,I yP.hi]],2,false⟩)] 3]) (Ai (Ai (show ze [(0,⟨[I by_],1,false⟩),(1,⟨yG.map Sn.D,2,false⟩)] 256 [1] []=some [1] from (by (simp only [ze,go_sem,List.length_set,Nat.reduceAdd,Nat.reduceEqDiff,Nat.reduceLT,Nat.reduceLeDiff,bI2,zb.idsL,zb.renL,zb.snapAll,z6.idsL,z6.renL,z6.snapAll]) <;> rfl)) (show (lim cfg).inl 69 [.lsl 1 0 yG.length 2 none] [(1,⟨yG.map Sn.D,2,false⟩)] 2=some (.tup [.sl true [] 0 none,I 2],[(1,⟨(zo zm yG).map Sn.D,2,false⟩),(2,⟨[.agg [I yP.lo,I yP.hi]],2,false⟩)],3) from zH [.inlS [1] (.tup []) [(1,⟨(zo zm yG).map Sn.D,2,false⟩)] 2,.gloop (sd97 yG) .ret (sd103 yG xf yP)] (Ai (zY (q:=zp yG (zo zm yG)) (lp_ranges_gathered_4p1 yG (zo zm yG) (zo zm yG) 0 (List.drop_zero) (Nat.zero_le _) (by simp only [zK,GS.some_l,List.length_set,List.length_append,List.length_cons,List.length_nil] at * <;> first | with_reducible assumption | omega) (by simp only [zK,GS.some_l,List.length_set,List.length_append,List.length_cons,List.length_nil] at * <;> first | with_reducible assumption | omega)) h36) (Ai (gc_of (C:=cfg) (f:=69) (a:=lp69_4) (ks:=[4,10,11,12]) (st:=(sd96 yG)) (st1:=(sd97 yG)) (by kernel_rfl) (by (simp only [sd96,sd97,go_sem,List.length_set,Nat.reduceAdd,Nat.reduceEqDiff,Nat.reduceLT,Nat.reduceLeDiff,bI2,zb.idsL,zb.renL,zb.snapAll,z6.idsL,z6.renL,z6.snapAll]) <;> rfl)) (Ai (Ai (show ze [(1,⟨yG.map Sn.D,2,false⟩)] 256 [1] []=some [1] from (by (simp only [ze,go_sem,List.length_set,Nat.reduceAdd,Nat.reduceEqDiff,Nat.reduceLT,Nat.reduceLeDiff,bI2,zb.idsL,zb.renL,zb.snapAll,z6.idsL,z6.renL,z6.snapAll]) <;> rfl)) (yq 1 2 none yG (by omega))) trivial))) (by kernel_rfl))) (Ai p5 (Ai h2 (Ai (zO Sn.D r) (Ai h1 (Ai (zi r (by omega)) trivial)))))) (by kernel_rfl)
   | x2 =>
    try dsimp only
    exact zu [.pure (I (zz r)),.dec false,.rw 13 (I ((r.l.length:Nat):Int)),.dec false,.inl (.sl true [] 0 none) [(0,⟨[I by_],1,true⟩)] 1,.inl (.tup [.sl true [] 0 none,I 0]) [] 1] (Ai (show (lim cfg).inl 69 [.sl true [] 0 none] [] 1=some (.tup [.sl true [] 0 none,I 0],[],1) from zH [.inl (.tup []) [] 1,.loop (.exit 0) ⟨65,[(13,B false),(4,.sl true [] 0 none),(10,.sl true [] 0 none),(11,I 0),(12,I 0)],[],1,1⟩,.dec false] (Ai (Eq.refl false) (Ai (show (lim cfg).loop 69 lp69_4 ⟨65,[(4,.sl true [] 0 none),(10,.sl true [] 0 none),(11,I 0),(12,I 0)],[],1,1⟩=some ((.exit 0),⟨65,[(13,B false),(4,.sl true [] 0 none),(10,.sl true [] 0 none),(11,I 0),(12,I 0)],[],1,1⟩) from (yc [.dec false] (Ai (Eq.refl false) trivial) (by kernel_rfl))) (Ai (T_sort_nil 1) trivial))) (by kernel_rfl)) (Ai (show (lim cfg).inl 70 [.sl r.nl (r.l.map Sn.D) (zsl r.nl 2) none,.fn (.func 85) [] [.lref 0 0 1 0]] [(0,⟨[I by_],1,false⟩)] 1=some (.sl true [] 0 none,[(0,⟨[I by_],1,true⟩)],1) from zH [.rw 9 (I ((r.l.length:Nat):Int)),.loop (.exit 0) (sd220 r by_)] (Ai (zY (q:=yE r by_) (lp_ranges_each_3p1 r by_ r.l 0 (List.drop_zero) (Nat.zero_le _) (by omega)) h33) (Ai (zO Sn.D r) trivial)) (by kernel_rfl)) (Ai h2 (Ai (zO Sn.D r) (Ai h1 (Ai (zi r (by omega)) trivial)))))) (by kernel_rfl)
   | x3 =>
    try dsimp only
    exact zu [.pure (I (zz r)),.dec false,.rw 13 (I ((r.l.length:Nat):Int)),.dec false,.inl (.sl true [] 0 none) [(0,⟨[I by_],1,false⟩)] 1,.inl (.tup [.sl true [] 0 none,I 0]) [] 1] (Ai (show (lim cfg).inl 69 [.sl true [] 0 none] [] 1=some (.tup [.sl true [] 0 none,I 0],[],1) from zH [.inl (.tup []) [] 1,.loop (.exit 0) ⟨65,[(13,B false),(4,.sl true [] 0 none),(10,.sl true [] 0 none),(11,I 0),(12,I 0)],[],1,1⟩,.dec false] (Ai (Eq.refl false) (Ai (show (lim cfg).loop 69 lp69_4 ⟨65,[(4,.sl true [] 0 none),(10,.sl true [] 0 none),(11,I 0),(12,I 0)],[],1,1⟩=some ((.exit 0),⟨65,[(13,B false),(4,.sl true [] 0 none),(10,.sl true [] 0 none),(11,I 0),(12,I 0)],[],1,1⟩) from (yc [.dec false] (Ai (Eq.refl false) trivial) (by kernel_rfl))) (Ai (T_sort_nil 1) trivial))) (by kernel_rfl)) (Ai (show (lim cfg).inl 70 [.sl r.nl (r.l.map Sn.D) (zsl r.nl 2) none,.fn (.func 85) [] [.lref 0 0 1 0]] [(0,⟨[I by_],1,false⟩)] 1=some (.sl true [] 0 none,[(0,⟨[I by_],1,false⟩)],1) from zH [.rw 9 (I ((r.l.length:Nat):Int)),.loop (.exit 0) (sd221 r by_)] (Ai (zY (q:=yE r by_) (lp_ranges_each_3p1 r by_ r.l 0 (List.drop_zero) (Nat.zero_le _) (by omega)) h33) (Ai (zO Sn.D r) trivial)) (by kernel_rfl)) (Ai h2 (Ai (zO Sn.D r) (Ai h1 (Ai (zi r (by omega)) trivial)))))) (by kernel_rfl)
end Go.VS

namespace Go.VS
open Go
set_option maxHeartbeats 0
set_option linter.unusedSimpArgs false
set_option linter.unusedVariables false
theorem getD_last {v:List Sn} {c:Sn}:(v++[c]).getD v.length default=c:=by
 rw [List.getD_eq_getElem?_getD,List.getElem?_append_right (Nat.le_refl _)]; simp
theorem set_last {v:List Sn} {c d:Sn}:(v++[c]).set v.length d=v++[d]:=by
 rw [List.set_append_right _ _ (Nat.le_refl _)]; simp
theorem len_last {v:List Sn} {c:Sn}:w64 ((((v++[c]).length:Nat):Int) - 1)=((v.length:Nat):Int) ∨ 9223372036854775807 < v.length:=by
 by_cases h:9223372036854775807 < v.length
 ·exact .inr h
 ·left
  simp only [List.length_append,List.length_cons,List.length_nil]
  rw [w64_eq (by omega) (by omega)]; omega
def ArL (l:List Sn):Prop:=∀ s∈l,Ar s.lo∧Ar s.hi

theorem ranges_gathered_4p1_ok:∀ (l:List Sn) (i:Nat) (v:List Sn) (c:Sn),ArL l→Ar c.hi→v.length+l.length≤1099511627776→ye l i (v++[c])=.x0 (v++jn c l)
 | [],i,v,c,_,_,_=>rfl
 | x::l,i,v,c,h,hc,hv=>by
  have hx:=h x List.mem_cons_self
  have h':ArL l:=fun t ht=>h t (List.mem_cons_of_mem _ ht)
  simp only [List.length_cons] at hv
  unfold ye jn
  rw [area_iff.2 hx.1,area_iff.2 hx.2]
  have hl:w64 ((((v++[c]).length:Nat):Int) - 1)=((v.length:Nat):Int):=by
   rcases len_last (v:=v) (c:=c) with e | e
   ·exact e
   ·omega
  have hp:decide ((((v++[c]).length:Nat):Int) > 0)=true:=decide_eq_true (by simp only [List.length_append,List.length_cons,List.length_nil]; omega)
  rw [hl,hp,Int.toNat_natCast,getD_last,set_last]
  unfold Ar at hc
  have hx2:=hx.2
  unfold Ar at hx2
  rw [w64_eq (n:=c.hi+1) (by omega) (by omega),imax_eq]
  by_cases hle:x.lo≤c.hi+1
  ·rw [decide_eq_true hle,if_pos hle]
   exact ranges_gathered_4p1_ok l (i+1) v ⟨c.lo,max c.hi x.hi⟩ h' (by unfold Ar; simp only; omega) (by omega)
  ·rw [decide_eq_false hle,if_neg hle]
   have:=ranges_gathered_4p1_ok l (i+1) (v++[c]) x h' hx.2 (by simp only [List.length_append,List.length_cons,List.length_nil]; omega)
   simp only [cond_true,cond_false]
   rw [this,List.append_assoc]; rfl
def ranges_gathered_4p1_er:LR_ranges_gathered_4p1→Bool
 | .x1 _ _ _=>true
 | .x2 _ _ _=>true
 | .x4 _ _=>true
 | .x5 _ _=>true
 | _=>false
theorem ranges_gathered_4p1_bad:∀ (l:List Sn) (i:Nat) (v:List Sn),¬ ArL l→ranges_gathered_4p1_er (ye l i v)=true
 | [],i,v,h=>absurd (fun s hs=>by cases hs) h
 | x::l,i,v,h=>by
  unfold ye
  cases h1:zv x.lo with
  | false=>rfl
  | true =>
   cases h2:zv x.hi with
   | false=>rfl
   | true =>
    have h':¬ ArL l:=fun k=>h fun s hs=>by
     rcases List.mem_cons.1 hs with rfl | hs
     ·exact ⟨area_iff.1 h1,area_iff.1 h2⟩
     ·exact k s hs
    have ih:=fun v=>ranges_gathered_4p1_bad l (i+1) v h'
    simp only [cond_true]
    cases decide (((v.length:Nat):Int) > 0) with
    | false=>exact ih _
    | true =>
     simp only [cond_true]
     cases decide (x.lo≤w64 ((v.getD ((w64 (((v.length:Nat):Int) - 1)).toNat) default).hi+1)) <;> exact ih _
theorem ranges_gathered_4p1_at {l:List Sn} (hne:l ≠ []) (hl:l.length≤1099511627776):(ArL l∧zD (zo zm l) 0=.x0 (can zm l)) ∨ (¬ ArL l∧ranges_gathered_4p1_er (zD (zo zm l) 0)=true):=by
 have hp:=srtG_perm gcmp_lo l
 have hlen:=srtG_len gcmp_lo l
 have har:ArL (zo zm l)↔ArL l:=⟨fun h s hs=>h s (hp.mem_iff.2 hs),fun h s hs=>h s (hp.mem_iff.1 hs)⟩
 rw [← har]
 unfold can
 have hne':zo zm l ≠ []:=fun h=>hne (by rw [h] at hp; exact List.nil_perm.1 hp)
 generalize zo zm l=q at *
 cases q with
 | nil=>exact absurd rfl hne'
 | cons c q =>
  simp only [List.length_cons] at hlen
  unfold zD jnL
  dsimp only
  by_cases hc:Ar c.lo∧Ar c.hi
  ·rw [area_iff.2 hc.1,area_iff.2 hc.2]
   by_cases hq:ArL q
   ·left
    refine ⟨fun s hs=>?_,?_⟩
    ·rcases List.mem_cons.1 hs with rfl | hs
     ·exact hc
     ·exact hq s hs
    ·exact ranges_gathered_4p1_ok q 1 [] c hq hc.2 (by simp; omega)
   ·right
    exact ⟨fun h=>hq fun s hs=>h s (List.mem_cons_of_mem _ hs),ranges_gathered_4p1_bad q 1 [c] hq⟩
  ·right
   refine ⟨fun h=>hc (h c List.mem_cons_self),?_⟩
   cases h1:zv c.lo with
   | false=>rfl
   | true =>
    cases h2:zv c.hi with
    | false=>rfl
    | true=>exact absurd ⟨area_iff.1 h1,area_iff.1 h2⟩ hc

end Go.VS

namespace Go.VS
open Go
set_option maxHeartbeats 0
theorem flat_cons_emp {α:Type} {f:α→List Sn} {x:α} {l:List α} (h:(f x).isEmpty=true):(x::l).flatMap f=l.flatMap f:=by
 have:f x=[]:=by simpa using h
 rw [List.flatMap_cons,this]; rfl

end Go.VS

namespace Go.VS
open Go
set_option maxHeartbeats 0
def GR (l:List Sn) (res:GS Sn × Int):Prop:=(ArL l∧(can zm l).length≤64∧res.1.l=can zm l∧res.2=0) ∨ ((¬ ArL l ∨ 64 < (can zm l).length)∧res=(GS.nil,2))
theorem can_nil:can zm []=[]:=by
 have:zo zm []=[]:=List.length_eq_zero_iff.1 (by rw [srtG_len gcmp_lo]; rfl)
 unfold can; rw [this]; rfl
theorem GR_nil:GR [] (GS.nil,0):=.inl ⟨(fun s hs=>by cases hs),by rw [can_nil]; simp,by rw [can_nil]; rfl,rfl⟩
theorem GR_end {l:List Sn} (h:ArL l):GR l (bif decide ((((can zm l).length:Nat):Int) > 64) then (GS.nil,2) else (GS.some (can zm l),0)):=by
 cases hd:decide ((((can zm l).length:Nat):Int) > 64) with
 | true=>have:=of_decide_eq_true hd; exact .inr ⟨.inr (by omega),rfl⟩
 | false=>have:=of_decide_eq_false hd; exact .inl ⟨h,by omega,rfl,rfl⟩
def Res (S:Int→Prop) (res:GS Sn × Int):Prop:=(res.2=0∧Ok res.1.l∧Rg S res.1.l) ∨ res=(GS.nil,2)
theorem GR.res {l:List Sn} {res:GS Sn × Int} (hl:∀ s∈l,s.lo≤s.hi) (h:GR l res):Res (In l) res:=by
 rcases h with ⟨h1,h2,h3,h4⟩ | ⟨_,h⟩
 ·left
  have k:=can_rg gcmp_lo hl
  rw [h3]
  refine ⟨h4,⟨k.1,cn_bd k.1 fun x hx=>?_,h2⟩,k⟩
  obtain ⟨s,hs,a,b⟩:=(k.2 x).1 hx
  have:=h1 s hs
  unfold Ar at this
  omega
 ·exact .inr h
theorem Res.congr {S T:Int→Prop} {res:GS Sn × Int} (h:Res S res) (e:∀ x,S x↔T x):Res T res:=h.imp (fun ⟨a,b,c⟩=>⟨a,b,c.congr e⟩) id

end Go.VS

namespace Go.VS
open Go Go.Proofs
set_option maxHeartbeats 0
set_option linter.unusedSimpArgs false
set_option linter.unusedVariables false
end Go.VS

namespace Go.VS
open Go
set_option maxHeartbeats 0
set_option linter.unusedSimpArgs false
set_option linter.unusedVariables false

end Go.VS

namespace Go.VS
open Go Go.Proofs
set_option maxHeartbeats 0
set_option linter.unusedSimpArgs false
set_option linter.unusedVariables false
def yk (x:Sn) (y:Sn):(GS Sn) × Bool :=
 bif decide ((((zl (yj x.lo y.lo) (imin x.hi y.hi)).l.length:Nat):Int) > 0) then
  ((zl (yj x.lo y.lo) (imin x.hi y.hi)),true)
 else
  ((zl (yj x.lo y.lo) (imin x.hi y.hi)),false)

inductive LR_ranges_pairs_6p8 where
 | x0 (xG:List Sn)
 | x1 (i6p8:Nat) (x6p8:Sn) (xG:List Sn)
 | x2 (i6p8:Nat) (x6p8:Sn) (xG:List Sn)
instance:Inhabited LR_ranges_pairs_6p8:=⟨.x0 default⟩
def ranges_pairs_6p8 (yW:Sn):List Sn→Nat→(List Sn)→LR_ranges_pairs_6p8
 | [],i6p8,xG=>.x0 xG
 | x6p8::rest6p8,i6p8,xG =>
  bif ((yk yW x6p8).2) then
   bif (((yk yW x6p8).1).l).isEmpty then
    .x1 i6p8 x6p8 xG
   else
    .x2 i6p8 x6p8 xG
  else
   bif (((yk yW x6p8).1).l).isEmpty then
    ranges_pairs_6p8 yW rest6p8 (i6p8+1) xG
   else
    ranges_pairs_6p8 yW rest6p8 (i6p8+1) (xG++(((yk yW x6p8).1).l))
inductive LR_ranges_pairs_6p9 where
 | x0 (xB:List Sn)
 | x1 (i6p9:Nat) (x6p9:Sn) (xB:List Sn)
 | x2 (i6p9:Nat) (x6p9:Sn) (xB:List Sn)
 | x3
 | x4 (i6p9:Nat) (x6p9:Sn)
 | x5 (i6p9:Nat) (x6p9:Sn)
instance:Inhabited LR_ranges_pairs_6p9:=⟨.x0 default⟩
def ranges_pairs_6p9a (yW:Sn):List Sn→Nat→(List Sn)→LR_ranges_pairs_6p9
 | [],i6p9,xB=>.x0 xB
 | x6p9::rest6p9,i6p9,xB =>
  bif ((yk yW x6p9).2) then
   bif (((yk yW x6p9).1).l).isEmpty then
    .x1 i6p9 x6p9 xB
   else
    .x2 i6p9 x6p9 xB
  else
   bif (((yk yW x6p9).1).l).isEmpty then
    ranges_pairs_6p9a yW rest6p9 (i6p9+1) xB
   else
    ranges_pairs_6p9a yW rest6p9 (i6p9+1) (xB++(((yk yW x6p9).1).l))
def ranges_pairs_6p9 (yW:Sn):List Sn→Nat→LR_ranges_pairs_6p9
 | [],i6p9=>.x3
 | x6p9::rest6p9,i6p9 =>
  bif ((yk yW x6p9).2) then
   bif (((yk yW x6p9).1).l).isEmpty then
    .x4 i6p9 x6p9
   else
    .x5 i6p9 x6p9
  else
   bif (((yk yW x6p9).1).l).isEmpty then
    ranges_pairs_6p9 yW rest6p9 (i6p9+1)
   else
    ranges_pairs_6p9a yW rest6p9 (i6p9+1) (((yk yW x6p9).1).l)
inductive LR_ranges_pairs_3p4 where
 | x0 (yL:List Sn)
 | x1 (xk:Nat) (yW:Sn) (i6p8:Nat) (x6p8:Sn) (xG:List Sn)
 | x2 (xk:Nat) (yW:Sn) (i6p8:Nat) (x6p8:Sn) (xG:List Sn)
 | x3
 | x4 (xk:Nat) (yW:Sn) (i6p9:Nat) (x6p9:Sn) (xB:List Sn)
 | x5 (xk:Nat) (yW:Sn) (i6p9:Nat) (x6p9:Sn) (xB:List Sn)
 | x6 (xk:Nat) (yW:Sn) (i6p9:Nat) (x6p9:Sn)
 | x7 (xk:Nat) (yW:Sn) (i6p9:Nat) (x6p9:Sn)
instance:Inhabited LR_ranges_pairs_3p4:=⟨.x0 default⟩
def ranges_pairs_3p4a (q3p4_0:GS Sn):List Sn→Nat→(List Sn)→LR_ranges_pairs_3p4
 | [],xk,yL=>.x0 yL
 | yW::yU,xk,yL =>
  match ranges_pairs_6p8 yW q3p4_0.l 0 yL with
  | .x0 xG =>
   ranges_pairs_3p4a q3p4_0 yU (xk+1) xG
  | .x1 i6p8 x6p8 xG =>
   .x1 xk yW i6p8 x6p8 xG
  | .x2 i6p8 x6p8 xG =>
   .x2 xk yW i6p8 x6p8 xG
def ranges_pairs_3p4 (q3p4_0:GS Sn):List Sn→Nat→LR_ranges_pairs_3p4
 | [],xk=>.x3
 | yW::yU,xk =>
  match ranges_pairs_6p9 yW q3p4_0.l 0 with
  | .x0 xB =>
   ranges_pairs_3p4a q3p4_0 yU (xk+1) xB
  | .x1 i6p9 x6p9 xB =>
   .x4 xk yW i6p9 x6p9 xB
  | .x2 i6p9 x6p9 xB =>
   .x5 xk yW i6p9 x6p9 xB
  | .x3 =>
   ranges_pairs_3p4 q3p4_0 yU (xk+1)
  | .x4 i6p9 x6p9 =>
   .x6 xk yW i6p9 x6p9
  | .x5 i6p9 x6p9 =>
   .x7 xk yW i6p9 x6p9
def ranges_Within (a:GS Sn) (b:GS Sn):Bool × Int :=
 bif ((ranges_check (GS.some [a,b])) != 0) then
  (false,(ranges_check (GS.some [a,b])))
 else
  match ranges_pairs_3p4 (ranges_outside b) a.l 0 with
  | .x0 yL =>
   bif (((yL.length:Nat):Int) == 0) then
    (true,0)
   else
    (false,0)
  | .x1 xk yW i6p8 x6p8 xG =>
   bif (((xG.length:Nat):Int) == 0) then
    (true,0)
   else
    (false,0)
  | .x2 xk yW i6p8 x6p8 xG =>
   bif ((((xG++(((yk yW x6p8).1).l)).length:Nat):Int) == 0) then
    (true,0)
   else
    (false,0)
  | .x3 =>
   (true,0)
  | .x4 xk yW i6p9 x6p9 xB =>
   bif (((xB.length:Nat):Int) == 0) then
    (true,0)
   else
    (false,0)
  | .x5 xk yW i6p9 x6p9 xB =>
   bif ((((xB++(((yk yW x6p9).1).l)).length:Nat):Int) == 0) then
    (true,0)
   else
    (false,0)
  | .x6 xk yW i6p9 x6p9 =>
   (true,0)
  | .x7 xk yW i6p9 x6p9 =>
   bif ((((((yk yW x6p9).1).l).length:Nat):Int) == 0) then
    (true,0)
   else
    (false,0)

end Go.VS

namespace Go.VS
open Go
set_option maxHeartbeats 0
def Di (m z:Int):Int:=max (z - m) (m - z)
def Nst (m:Int) (S:Int→Prop) (v:Int):Prop:=S v∧∀ z,S z→Di m v≤Di m z∧(Di m z=Di m v→v≤z)
theorem Nst.congr {m:Int} {S T:Int→Prop} {v:Int} (h:Nst m S v) (e:∀ z,S z↔T z):Nst m T v:=⟨(e v).1 h.1,fun z hz=>h.2 z ((e z).2 hz)⟩
end Go.VS

namespace Go.VS
open Go
section
variable {r:GS Sn} (h:r_Valid r=true)
include h
end
end Go.VS

namespace Go.VS
open Go
def takeR (r:GS Sn) (e:Int):GS Sn:=bif (e == 2) then GS.nil else r
def takeL (L:Bool) (e:Int):Bool:=bif (e == 2) then true else L
def zx (L z:Bool):Bool:=bif L then true else z
def Tkn (r:GS Sn) (e:Int):Prop:=(e=2∧r=GS.nil) ∨ (e=0∧Ok r.l)
theorem tk_e {r:GS Sn} {e:Int} (h:Tkn r e) (h2:(e == 2)=false):(e != 0)=false:=by
 rcases h with ⟨rfl,_⟩ | ⟨rfl,_⟩
 ·cases h2
 ·rfl
theorem tk_r {r:GS Sn} {e:Int} (h:Tkn r e) (h2:(e == 2)=false):((r_Check r) != 0)=false:=by
 rcases h with ⟨rfl,_⟩ | ⟨rfl,h⟩
 ·cases h2
 ·rw [← same_check,check_iff.2 h]; rfl
theorem zP {r:GS Sn} {e:Int} (h:Tkn r e):r.l.length≤9223372036854775807:=by
 rcases h with ⟨_,rfl⟩ | ⟨_,h⟩
 ·simp [GS.nil]
 ·exact Nat.le_trans h.2.2 (by decide)
theorem ok64 {r:GS Sn} (h:Ok r.l):r.l.length≤64:=h.2.2
theorem ok_nil:Ok (GS.nil:GS Sn).l:=⟨trivial,(fun s hs=>by cases hs),by simp [GS.nil]⟩
theorem zf {r:GS Sn} {e:Int} (h:Tkn r e):Ok (takeR r e).l:=by
 unfold takeR
 rcases h with ⟨rfl,_⟩ | ⟨rfl,h⟩
 ·exact ok_nil
 ·exact h
theorem tk_res {S:Int→Prop} {res:GS Sn × Int} (h:Res S res):Tkn res.1 res.2:=by
 rcases h with ⟨h1,h2,_⟩ | h
 ·exact .inr ⟨h1,h2⟩
 ·rw [h]; exact .inl ⟨rfl,rfl⟩
def Tk (L:Bool) (S:Int→Prop) (r:GS Sn):Prop:=L=true ∨ (Ok r.l∧Rg S r.l)
theorem Tk.take {L:Bool} {S:Int→Prop} {res:GS Sn × Int} (h:Res S res):Tk (takeL L res.2) S (takeR res.1 res.2):=by
 unfold takeL takeR
 rcases h with ⟨h1,h2,h3⟩ | h
 ·right; rw [h1]; exact ⟨h2,h3⟩
 ·left; rw [h]; rfl
theorem Tk.up {L:Bool} {S:Int→Prop} {r:GS Sn} (h:Tk L S r) (e:Int):Tk (takeL L e) S r:=by
 unfold takeL
 rcases h with h | h
 ·left; rw [h]; cases (e == 2) <;> rfl
 ·exact .inr h
theorem holds_of {L z:Bool} (h:L=true ∨ z=true):zx L z=true:=by
 unfold zx
 rcases h with h | h <;> rw [h]
 ·rfl
 ·cases L <;> rfl
end Go.VS

namespace Go.VS
open Go
set_option maxHeartbeats 0

def ofF (s:Sn):List Sn:=someS s.lo s.hi
def sh1 (k:Int) (s:Sn):List Sn:=(za s k).l
theorem each3c_eq (k:Int):∀ (l v:List Sn),zZ k l v=.x0 (v++l.flatMap (sh1 k))
 | [],v=>by simp [zZ]
 | y::l,v=>by
  unfold zZ
  rw [emp_app (fun z=>zZ k l z),each3c_eq k l _,List.flatMap_cons,List.append_assoc,Bool.cond_self]; rfl
theorem each3a'_eq (k:Int):∀ (l v:List Sn),yA k l v=.x0 (v++l.flatMap (sh1 k)) ∨ yA k l v=.x1 (v++l.flatMap (sh1 k))
 | [],v=>by right; simp [yA]
 | y::l,v=>by
  unfold yA
  rw [emp_app (fun z=>yA k l z),emp_app (fun z=>zZ k l z),each3c_eq k l _,List.flatMap_cons,← List.append_assoc]
  cases (za y k).nl with
  | false=>exact .inl rfl
  | true=>exact each3a'_eq k l _
theorem each3b_eq (k:Int):∀ (l:List Sn),(l.flatMap (sh1 k)=[]∧ranges_each_3p1b k l=.x2) ∨ (l.flatMap (sh1 k) ≠ []∧ranges_each_3p1b k l=.x0 (l.flatMap (sh1 k)))
 | []=>.inl ⟨rfl,rfl⟩
 | y::l=>by
  unfold ranges_each_3p1b
  rw [Bool.cond_self]
  cases h:((za y k).l).isEmpty with
  | true =>
   rw [flat_cons_emp (f:=sh1 k) h]
   exact each3b_eq k l
  | false =>
   right
   simp only [cond_false]
   rw [each3c_eq,List.flatMap_cons]
   refine ⟨fun z=>?_,rfl⟩
   have h2:(za y k).l=[]:=(List.append_eq_nil_iff.1 z).1
   rw [h2] at h; cases h
theorem each3'_eq (k:Int):∀ (l:List Sn),(l.flatMap (sh1 k)=[]∧(yw k l=.x2 ∨ yw k l=.x3)) ∨ (l.flatMap (sh1 k) ≠ []∧(yw k l=.x0 (l.flatMap (sh1 k)) ∨ yw k l=.x1 (l.flatMap (sh1 k))))
 | []=>.inl ⟨rfl,.inr rfl⟩
 | y::l=>by
  unfold yw
  cases h:((za y k).l).isEmpty with
  | true =>
   rw [flat_cons_emp (f:=sh1 k) h]
   cases (za y k).nl with
   | true=>exact each3'_eq k l
   | false =>
    rcases each3b_eq k l with ⟨h1,h2⟩ | ⟨h1,h2⟩
    ·exact .inl ⟨h1,.inl h2⟩
    ·exact .inr ⟨h1,.inl h2⟩
  | false =>
   right
   refine ⟨fun z=>?_,?_⟩
   ·rw [List.flatMap_cons] at z
    have h2:(za y k).l=[]:=(List.append_eq_nil_iff.1 z).1
    rw [h2] at h; cases h
   ·rw [List.flatMap_cons]
    cases (za y k).nl with
    | true=>exact each3a'_eq k l _
    | false=>exact .inl (each3c_eq k l _)
theorem Shift_emp {r:GS Sn} {k:Int} (h:r.l=[]):zd r k=(GS.nil,0):=by
 have hr:Ok r.l:=by rw [h]; exact ⟨trivial,(fun s hs=>by cases hs),by simp⟩
 unfold zd
 rw [check_iff.2 hr,h]
 rfl
theorem Shift_far {r:GS Sn} {k:Int} (hr:Ok r.l) (h:r.l ≠ []) (hk:¬ (-2199023255552≤k∧k≤2199023255552)):zd r k=(GS.nil,2):=by
 unfold zd
 have e:yu k (-2199023255552) 2199023255552=false:=by
  cases h:yu k (-2199023255552) 2199023255552
  ·rfl
  ·exact absurd (in_iff.1 h) hk
 have hp:decide (((r.l.length:Nat):Int) > 0)=true:=decide_eq_true (by have:=List.length_pos_iff.2 h; omega)
 rw [check_iff.2 hr,e,hp]; rfl
theorem shi_len (k:Int):∀ l:List Sn,(l.flatMap (sh1 k)).length≤l.length
 | []=>Nat.le_refl _
 | y::l=>by
  rw [List.flatMap_cons,List.length_append,List.length_cons]
  have:=shi_len k l
  have:(sh1 k y).length≤1:=shift1_len _ _
  omega
theorem Shift_gr {r:GS Sn} {k:Int} (hr:Ok r.l) (hk:-2199023255552≤k∧k≤2199023255552):GR (shiL r.l k) (zd r k):=by
 by_cases hne:r.l=[]
 ·rw [Shift_emp hne,hne]; exact GR_nil
 have hq:r.l.flatMap (sh1 k)=shiL r.l k:=by
  have:∀ l:List Sn,(∀ s∈l,s.lo≤s.hi∧-1099511627776≤s.lo∧s.hi≤1099511627776)→l.flatMap (sh1 k)=shiL l k:=by
   intro l
   induction l with
   | nil=>intro _; rfl
   | cons s l ih =>
    intro h
    have hs:=h s List.mem_cons_self
    rw [List.flatMap_cons,ih fun t ht=>h t (List.mem_cons_of_mem _ ht)]
    unfold sh1 za
    rw [w64_eq (by omega) (by omega),w64_eq (by omega) (by omega),some_l]
    unfold shiL
    rw [List.flatMap_cons]
  exact this r.l fun s hs=>(by have h1:=cn_mem hr.1 hs; have h2:=hr.2.1 s hs; omega)
 have hp:decide (((r.l.length:Nat):Int) > 0)=true:=decide_eq_true (by have:=List.length_pos_iff.2 hne; omega)
 unfold zd
 rw [check_iff.2 hr,hp,in_iff.2 hk]
 simp only [bne_self_eq_false,cond_false,cond_true]
 have hl:=shi_len k r.l
 have hl2:=hr.2.2
 rw [← hq]
 rcases each3'_eq k r.l with ⟨k1,k2 | k2⟩ | ⟨k1,k2 | k2⟩ <;> rw [k2] <;> dsimp only
 ·rw [k1]; exact GR_nil
 ·rw [k1]; exact GR_nil
 ·generalize r.l.flatMap (sh1 k)=q at *
  rcases ranges_gathered_4p1_at (l:=q) k1 (by omega) with ⟨g1,g2⟩ | ⟨g1,g2⟩
  ·rw [g2]; exact GR_end g1
  ·refine .inr ⟨.inl g1,?_⟩
   revert g2
   cases zD (zo zm q) 0 <;> intro g2 <;> first | rfl | cases g2
 ·generalize r.l.flatMap (sh1 k)=q at *
  rcases ranges_gathered_4p1_at (l:=q) k1 (by omega) with ⟨g1,g2⟩ | ⟨g1,g2⟩
  ·rw [g2]; exact GR_end g1
  ·refine .inr ⟨.inl g1,?_⟩
   revert g2
   cases zD (zo zm q) 0 <;> intro g2 <;> first | rfl | cases g2
theorem shift_res {r:GS Sn} {k:Int} (hr:Ok r.l):Res (fun x=>In r.l (x - k)) (zd r k):=by
 by_cases hk:-2199023255552≤k∧k≤2199023255552
 ·exact ((Shift_gr hr hk).res (flat_ne fun a _=>some_ne)).congr fun x=>In_shift
 ·by_cases hne:r.l=[]
  ·rw [Shift_emp hne,hne]
   exact .inl ⟨rfl,⟨trivial,(fun s hs=>by cases hs),by simp [GS.nil]⟩,trivial,fun x=>⟨fun h=>absurd h In_nil,fun h=>absurd h In_nil⟩⟩
  ·rw [Shift_far hr hne hk]; exact .inr rfl

theorem within1 (x y:Sn):((yk x y).1).l=comF x y∧(yk x y).2=!(comF x y).isEmpty:=by
 have e:(zl (yj x.lo y.lo) (imin x.hi y.hi)).l=comF x y:=by rw [some_l,imax_eq,imin_eq]; rfl
 unfold yk
 rw [e]
 cases h:comF x y with
 | nil=>exact ⟨e.trans h,rfl⟩
 | cons s l =>
  rw [decide_eq_true (by simp only [List.length_cons]; omega)]
  exact ⟨e.trans h,rfl⟩
theorem p69_eq (x:Sn):∀ (l:List Sn) (i:Nat),(l.flatMap (comF x)=[]∧ranges_pairs_6p9 x l i=.x3) ∨ (∃ j y,ranges_pairs_6p9 x l i=.x5 j y∧comF x y ≠ []∧l.flatMap (comF x) ≠ [])
 | [],i=>.inl ⟨rfl,rfl⟩
 | y::l,i=>by
  unfold ranges_pairs_6p9
  rw [(within1 x y).1,(within1 x y).2]
  cases h:(comF x y).isEmpty with
  | true =>
   rw [flat_cons_emp h]
   exact p69_eq x l (i+1)
  | false =>
   right
   have hne:comF x y ≠ []:=by simpa using h
   refine ⟨i,y,rfl,hne,fun k=>?_⟩
   rw [List.flatMap_cons] at k
   exact hne (List.append_eq_nil_iff.1 k).1
theorem p34_eq (q:GS Sn):∀ (l:List Sn) (i:Nat),(pairsL l q.l comF=[]∧ranges_pairs_3p4 q l i=.x3) ∨ (∃ j x k y,ranges_pairs_3p4 q l i=.x7 j x k y∧comF x y ≠ []∧pairsL l q.l comF ≠ [])
 | [],i=>.inl ⟨rfl,rfl⟩
 | x::l,i=>by
  unfold ranges_pairs_3p4
  have e:pairsL (x::l) q.l comF=q.l.flatMap (comF x)++pairsL l q.l comF:=rfl
  rw [e]
  rcases p69_eq x q.l 0 with ⟨h1,h2⟩ | ⟨j,y,h2,h3,h4⟩ <;> rw [h2] <;> dsimp only
  ·rw [h1]; exact p34_eq q l (i+1)
  ·exact .inr ⟨i,x,j,y,rfl,h3,fun k=>h4 (List.append_eq_nil_iff.1 k).1⟩
theorem within_ok {a b:GS Sn} (ha:Ok a.l) (hb:Ok b.l):∃ z,ranges_Within a b=(z,0)∧(z=true↔∀ x,In a.l x→In b.l x):=by
 unfold ranges_Within
 rw [check2_iff.2 ⟨ha,hb⟩]
 simp only [bne_self_eq_false,cond_false]
 have w:=within_iff ha.1 ha.2.1 hb.1 hb.2.1
 rw [← outside_eq hb.2.1] at w
 rcases p34_eq (ranges_outside b) a.l 0 with ⟨h1,h2⟩ | ⟨j,x,k,y,h2,h3,h4⟩ <;> rw [h2] <;> dsimp only
 ·exact ⟨true,rfl,fun _=>w.1 h1,fun _=>rfl⟩
 ·rw [(within1 x y).1]
  refine ⟨false,?_,fun z=>(by cases z),fun z=>absurd (w.2 z) h4⟩
  cases hc:comF x y with
  | nil=>exact absurd hc h3
  | cons s l =>
   have:((((s::l).length:Nat):Int) == 0)=false:=by simp only [List.length_cons]; exact beq_eq_false_iff_ne.2 (by omega)
   rw [this]; rfl
theorem zq {r:GS Sn} (hr:Ok r.l) (k:Int):Tkn (zd r k).1 (zd r k).2:=tk_res (shift_res hr)
end Go.VS

namespace Go.VS
open Go
set_option maxHeartbeats 0
end Go.VS

namespace Go.VS
open Go
set_option maxHeartbeats 0
theorem Tk.lift {L:Bool} {S:Int→Prop} {res:GS Sn × Int} (h:L=true ∨ Res S res):Tk (takeL L res.2) S (takeR res.1 res.2):=by
 rcases h with h | h
 ·left; rw [h]; unfold takeL; cases (res.2 == 2) <;> rfl
 ·exact Tk.take h
theorem Tk.base {L:Bool} {r:GS Sn} (h:Ok r.l):Tk L (In r.l) r:=.inr ⟨h,h.1,fun _=>Iff.rfl⟩
theorem Tk.down {L L':Bool} {S:Int→Prop} {r:GS Sn} (h:Tk L S r) (hL:L=false):Tk L' S r:=by
 rcases h with h | h
 ·rw [hL] at h; cases h
 ·exact .inr h
section
variable {L:Bool} {S T:Int→Prop} {a b:GS Sn}
theorem Tk.shift (k:Int) (ha:Tk L S a):Tk (takeL L (zd a k).2) (fun x=>S (x - k)) (takeR (zd a k).1 (zd a k).2):=by
 refine Tk.lift ?_
 rcases ha with h | ⟨ha,ra⟩
 ·exact .inl h
 exact .inr ((shift_res ha).congr fun x=>ra.2 _)
theorem Tk.same (ha:Tk L S a) (hb:Tk L T b) (h:∀ x,S x↔T x):zx L (zh a b)=true:=by
 refine holds_of ?_
 rcases ha with h | ⟨ha,ra⟩
 ·exact .inl h
 rcases hb with h | ⟨hb,rb⟩
 ·exact .inl h
 exact .inr (same_refl (ra.eq rb h))
theorem Tk.within (ha:Tk L S a) (hb:Tk L T b):L=true ∨ ((ranges_Within a b).1=true↔∀ x,S x→T x):=by
 rcases ha with h | ⟨ha,ra⟩
 ·exact .inl h
 rcases hb with h | ⟨hb,rb⟩
 ·exact .inl h
 obtain ⟨z,e,k⟩:=within_ok ha hb
 right
 rw [e]
 simp only [ra.2,rb.2] at k
 exact k
theorem Tk.same_iff (ha:Tk L S a) (hb:Tk L T b):L=true ∨ (zh a b=true↔∀ x,S x↔T x):=by
 rcases ha with h | ⟨ha,ra⟩
 ·exact .inl h
 rcases hb with h | ⟨hb,rb⟩
 ·exact .inl h
 right
 rw [_root_.Go.VS.same_iff]
 constructor
 ·intro h x
  rw [← ra.2,← rb.2,h]
 ·exact fun h=>ra.eq rb h
end
end Go.VS

namespace Go.VS
open Go Go.Proofs
set_option maxHeartbeats 0
set_option linter.unusedSimpArgs false
set_option linter.unusedVariables false
theorem quo_op {C:Cfg} {t:TypeId} {cst:Bool} {nxt:Nat} {a b:Int} (h:b ≠ 0):justO nxt (binD C t cst .quo (I a) (I b))=Option.some ⟨I (w64 (a.tdiv b)),[],[],nxt⟩:=by
 simp [binD,binVal,binInt,intOp,justO,h]

def zg (a:Int) (b:Int):Int :=
 bif decide ((a.tmod b) < 0) then
  w64 ((w64 (a.tdiv b)) - 1)
 else
  w64 (a.tdiv b)

theorem T_ranges_down (a:Int) (b:Int) (hb:b ≠ 0):(lim cfg).pure 78 [I a,I b]=some (I (zg a b)):=by
 unfold zg
 cases h1:decide ((a.tmod b) < 0) with
 | true =>
  have g1:=of_decide_eq_true h1
  exact zu [.op (some 8) ⟨I (w64 (a.tdiv b)),[],[],0⟩,.op (some 11) ⟨I (a.tmod b),[],[],0⟩,.dec true] (Ai h1 (Ai (rem_op (C:=cfg) (t:=3) (cst:=false) (nxt:=0) (a:=a) (b:=b) (by omega)) (Ai (quo_op (C:=cfg) (t:=3) (cst:=false) (nxt:=0) (a:=a) (b:=b) (by omega)) trivial))) (by kernel_rfl)
 | false =>
  have g1:=of_decide_eq_false h1
  exact zu [.op (some 8) ⟨I (w64 (a.tdiv b)),[],[],0⟩,.op (some 11) ⟨I (a.tmod b),[],[],0⟩,.dec false] (Ai h1 (Ai (rem_op (C:=cfg) (t:=3) (cst:=false) (nxt:=0) (a:=a) (b:=b) (by omega)) (Ai (quo_op (C:=cfg) (t:=3) (cst:=false) (nxt:=0) (a:=a) (b:=b) (by omega)) trivial))) (by kernel_rfl)

inductive LR_ranges_products_3 where
 | x0 (xl:List Sn) (xJ:Int)
 | x1 (xl:List Sn) (xJ:Int)
 | x2 (xl:List Sn) (xJ:Int)
 | x3
 | x4
 | out
instance:Inhabited LR_ranges_products_3:=⟨.out⟩
def ranges_products_3a (x:Sn) (k:Sn) (q3_0:Int):Nat→(List Sn)→Int→LR_ranges_products_3
 | 0,_,_=>.out
 | xW+1,xl,xJ =>
  bif decide (xJ≤x.hi) then
   bif decide ((w64 (xJ * (w64 (k.hi - k.lo)))) ≥ (w64 (k.lo - 1))) then
    .x0 xl xJ
   else
    bif decide ((((xl++[(⟨w64 (xJ * k.lo),w64 (xJ * k.hi)⟩:Sn)]).length:Nat):Int) > 2048) then
     .x1 xl xJ
    else
     ranges_products_3a x k q3_0 xW (xl++[(⟨w64 (xJ * k.lo),w64 (xJ * k.hi)⟩:Sn)]) (w64 (xJ+1))
  else
   .x2 xl xJ
def ranges_products_3 (x:Sn) (k:Sn) (q3_0:Int):Nat→LR_ranges_products_3
 | 0=>.out
 | xW+1 =>
  bif decide (q3_0≤x.hi) then
   bif decide ((w64 (q3_0 * (w64 (k.hi - k.lo)))) ≥ (w64 (k.lo - 1))) then
    .x3
   else
    ranges_products_3a x k q3_0 xW [(⟨w64 (q3_0 * k.lo),w64 (q3_0 * k.hi)⟩:Sn)] (w64 (q3_0+1))
  else
   .x4
inductive LR_ranges_products_3p1 where
 | x0 (yG:List Sn) (xw:Int)
 | x1 (yG:List Sn) (xw:Int)
 | x2 (yG:List Sn) (xw:Int)
 | x3
 | x4
 | out
instance:Inhabited LR_ranges_products_3p1:=⟨.out⟩
def ranges_products_3p1a (k:Sn) (q3p1_0:Int) (q3p1_1:Int):Nat→(List Sn)→Int→LR_ranges_products_3p1
 | 0,_,_=>.out
 | yZ+1,yG,xw =>
  bif decide (xw≤q3p1_0) then
   bif decide ((w64 (xw * (w64 (k.hi - k.lo)))) ≥ (w64 (k.lo - 1))) then
    .x0 yG xw
   else
    bif decide ((((yG++[(⟨w64 (xw * k.lo),w64 (xw * k.hi)⟩:Sn)]).length:Nat):Int) > 2048) then
     .x1 yG xw
    else
     ranges_products_3p1a k q3p1_0 q3p1_1 yZ (yG++[(⟨w64 (xw * k.lo),w64 (xw * k.hi)⟩:Sn)]) (w64 (xw+1))
  else
   .x2 yG xw
def ranges_products_3p1 (k:Sn) (q3p1_0:Int) (q3p1_1:Int):Nat→LR_ranges_products_3p1
 | 0=>.out
 | yZ+1 =>
  bif decide (q3p1_1≤q3p1_0) then
   bif decide ((w64 (q3p1_1 * (w64 (k.hi - k.lo)))) ≥ (w64 (k.lo - 1))) then
    .x3
   else
    ranges_products_3p1a k q3p1_0 q3p1_1 yZ [(⟨w64 (q3p1_1 * k.lo),w64 (q3p1_1 * k.hi)⟩:Sn)] (w64 (q3p1_1+1))
  else
   .x4
inductive LR_ranges_Times_1_3 where
 | x0 (xz:List Sn)
instance:Inhabited LR_ranges_Times_1_3:=⟨.x0 default⟩
def ranges_Times_1_3:List Sn→(List Sn)→LR_ranges_Times_1_3
 | [],xz=>.x0 xz
 | x3::xW,xz =>
  ranges_Times_1_3 xW (xz++[(⟨w64 (0 - x3.hi),w64 (0 - x3.lo)⟩:Sn)])
inductive LR_ranges_products_3p2 where
 | x0 (xx:List Sn) (xD:Int)
 | x1 (xx:List Sn) (xD:Int)
 | x2 (xx:List Sn) (xD:Int)
 | x3
 | x4
 | out
instance:Inhabited LR_ranges_products_3p2:=⟨.out⟩
def ranges_products_3p2a (k:Sn) (q3p2_0:Int) (q3p2_1:Int):Nat→(List Sn)→Int→LR_ranges_products_3p2
 | 0,_,_=>.out
 | rest3p2+1,xx,xD =>
  bif decide (xD≤q3p2_0) then
   bif decide ((w64 (xD * (w64 (k.hi - k.lo)))) ≥ (w64 (k.lo - 1))) then
    .x0 xx xD
   else
    bif decide ((((xx++[(⟨w64 (xD * k.lo),w64 (xD * k.hi)⟩:Sn)]).length:Nat):Int) > 2048) then
     .x1 xx xD
    else
     ranges_products_3p2a k q3p2_0 q3p2_1 rest3p2 (xx++[(⟨w64 (xD * k.lo),w64 (xD * k.hi)⟩:Sn)]) (w64 (xD+1))
  else
   .x2 xx xD
def ranges_products_3p2 (k:Sn) (q3p2_0:Int) (q3p2_1:Int):Nat→LR_ranges_products_3p2
 | 0=>.out
 | rest3p2+1 =>
  bif decide (q3p2_1≤q3p2_0) then
   bif decide ((w64 (q3p2_1 * (w64 (k.hi - k.lo)))) ≥ (w64 (k.lo - 1))) then
    .x3
   else
    ranges_products_3p2a k q3p2_0 q3p2_1 rest3p2 [(⟨w64 (q3p2_1 * k.lo),w64 (q3p2_1 * k.hi)⟩:Sn)] (w64 (q3p2_1+1))
  else
   .x4
inductive LR_ranges_products_3p3 where
 | x0 (xM:List Sn) (xE:Int)
 | x1 (xM:List Sn) (xE:Int)
 | x2 (xM:List Sn) (xE:Int)
 | x3
 | x4
 | out
instance:Inhabited LR_ranges_products_3p3:=⟨.out⟩
def ranges_products_3p3a (k:Sn) (q3p3_0:Int) (q3p3_1:Int):Nat→(List Sn)→Int→LR_ranges_products_3p3
 | 0,_,_=>.out
 | rest3p3+1,xM,xE =>
  bif decide (xE≤q3p3_0) then
   bif decide ((w64 (xE * (w64 (k.hi - k.lo)))) ≥ (w64 (k.lo - 1))) then
    .x0 xM xE
   else
    bif decide ((((xM++[(⟨w64 (xE * k.lo),w64 (xE * k.hi)⟩:Sn)]).length:Nat):Int) > 2048) then
     .x1 xM xE
    else
     ranges_products_3p3a k q3p3_0 q3p3_1 rest3p3 (xM++[(⟨w64 (xE * k.lo),w64 (xE * k.hi)⟩:Sn)]) (w64 (xE+1))
  else
   .x2 xM xE
def ranges_products_3p3 (k:Sn) (q3p3_0:Int) (q3p3_1:Int):Nat→LR_ranges_products_3p3
 | 0=>.out
 | rest3p3+1 =>
  bif decide (q3p3_1≤q3p3_0) then
   bif decide ((w64 (q3p3_1 * (w64 (k.hi - k.lo)))) ≥ (w64 (k.lo - 1))) then
    .x3
   else
    ranges_products_3p3a k q3p3_0 q3p3_1 rest3p3 [(⟨w64 (q3p3_1 * k.lo),w64 (q3p3_1 * k.hi)⟩:Sn)] (w64 (q3p3_1+1))
  else
   .x4
inductive LR_ranges_Times_1_3p1 where
 | x0 (v3p1_0:List Sn)
instance:Inhabited LR_ranges_Times_1_3p1:=⟨.x0 default⟩
def ranges_Times_1_3p1:List Sn→(List Sn)→LR_ranges_Times_1_3p1
 | [],v3p1_0=>.x0 v3p1_0
 | yR::yZ,v3p1_0 =>
  ranges_Times_1_3p1 yZ (v3p1_0++[(⟨w64 (0 - yR.hi),w64 (0 - yR.lo)⟩:Sn)])
inductive LR_ranges_products_3p4 where
 | x0 (yL:List Sn) (xF:Int)
 | x1 (yL:List Sn) (xF:Int)
 | x2 (yL:List Sn) (xF:Int)
 | x3
 | x4
 | out
instance:Inhabited LR_ranges_products_3p4:=⟨.out⟩
def ranges_products_3p4a (k:Sn) (q3p4_0:Int) (q3p4_1:Int):Nat→(List Sn)→Int→LR_ranges_products_3p4
 | 0,_,_=>.out
 | yU+1,yL,xF =>
  bif decide (xF≤q3p4_0) then
   bif decide ((w64 (xF * (w64 (k.hi - k.lo)))) ≥ (w64 (k.lo - 1))) then
    .x0 yL xF
   else
    bif decide ((((yL++[(⟨w64 (xF * k.lo),w64 (xF * k.hi)⟩:Sn)]).length:Nat):Int) > 2048) then
     .x1 yL xF
    else
     ranges_products_3p4a k q3p4_0 q3p4_1 yU (yL++[(⟨w64 (xF * k.lo),w64 (xF * k.hi)⟩:Sn)]) (w64 (xF+1))
  else
   .x2 yL xF
def ranges_products_3p4 (k:Sn) (q3p4_0:Int) (q3p4_1:Int):Nat→LR_ranges_products_3p4
 | 0=>.out
 | yU+1 =>
  bif decide (q3p4_1≤q3p4_0) then
   bif decide ((w64 (q3p4_1 * (w64 (k.hi - k.lo)))) ≥ (w64 (k.lo - 1))) then
    .x3
   else
    ranges_products_3p4a k q3p4_0 q3p4_1 yU [(⟨w64 (q3p4_1 * k.lo),w64 (q3p4_1 * k.hi)⟩:Sn)] (w64 (q3p4_1+1))
  else
   .x4
inductive LR_ranges_Times_1_3p2 where
 | x0 (xx:List Sn)
 | x1
instance:Inhabited LR_ranges_Times_1_3p2:=⟨.x0 default⟩
def ranges_Times_1_3p2a:List Sn→(List Sn)→LR_ranges_Times_1_3p2
 | [],xx=>.x0 xx
 | x3p2::rest3p2,xx =>
  ranges_Times_1_3p2a rest3p2 (xx++[(⟨w64 (0 - x3p2.hi),w64 (0 - x3p2.lo)⟩:Sn)])
def ranges_Times_1_3p2:List Sn→LR_ranges_Times_1_3p2
 | []=>.x1
 | x3p2::rest3p2 =>
  ranges_Times_1_3p2a rest3p2 [(⟨w64 (0 - x3p2.hi),w64 (0 - x3p2.lo)⟩:Sn)]
def ranges_Times_1 (x:Sn) (k:Sn):(GS Sn) :=
 match ranges_products_3 x k (yj x.lo 0) 2051 with
 | .x0 xl xJ =>
  match ranges_products_3p1 k (w64 (0 - x.lo)) (yj (w64 (0 - x.hi)) 0) 2051 with
  | .x0 yG xw =>
   match ranges_Times_1_3 (yG++[(⟨w64 (xw * k.lo),w64 ((w64 (0 - x.lo)) * k.hi)⟩:Sn)]) (xl++[(⟨w64 (xJ * k.lo),w64 (x.hi * k.hi)⟩:Sn)]) with
   | .x0 xz =>
    GS.some xz
  | .x1 yG xw =>
   match ranges_Times_1_3 (yG++[(⟨w64 (xw * k.lo),w64 (xw * k.hi)⟩:Sn)]) (xl++[(⟨w64 (xJ * k.lo),w64 (x.hi * k.hi)⟩:Sn)]) with
   | .x0 xz =>
    GS.some xz
  | .x2 yG xw =>
   match ranges_Times_1_3 yG (xl++[(⟨w64 (xJ * k.lo),w64 (x.hi * k.hi)⟩:Sn)]) with
   | .x0 xz =>
    GS.some xz
  | .x3 =>
   GS.some ((xl++[(⟨w64 (xJ * k.lo),w64 (x.hi * k.hi)⟩:Sn)])++[(⟨w64 (0 - (w64 ((w64 (0 - x.lo)) * k.hi))),w64 (0 - (w64 ((yj (w64 (0 - x.hi)) 0) * k.lo)))⟩:Sn)])
  | .x4 =>
   GS.some (xl++[(⟨w64 (xJ * k.lo),w64 (x.hi * k.hi)⟩:Sn)])
  | .out =>
   default
 | .x1 xl xJ =>
  match ranges_products_3p1 k (w64 (0 - x.lo)) (yj (w64 (0 - x.hi)) 0) 2051 with
  | .x0 yG xw =>
   match ranges_Times_1_3 (yG++[(⟨w64 (xw * k.lo),w64 ((w64 (0 - x.lo)) * k.hi)⟩:Sn)]) (xl++[(⟨w64 (xJ * k.lo),w64 (xJ * k.hi)⟩:Sn)]) with
   | .x0 xz =>
    GS.some xz
  | .x1 yG xw =>
   match ranges_Times_1_3 (yG++[(⟨w64 (xw * k.lo),w64 (xw * k.hi)⟩:Sn)]) (xl++[(⟨w64 (xJ * k.lo),w64 (xJ * k.hi)⟩:Sn)]) with
   | .x0 xz =>
    GS.some xz
  | .x2 yG xw =>
   match ranges_Times_1_3 yG (xl++[(⟨w64 (xJ * k.lo),w64 (xJ * k.hi)⟩:Sn)]) with
   | .x0 xz =>
    GS.some xz
  | .x3 =>
   GS.some ((xl++[(⟨w64 (xJ * k.lo),w64 (xJ * k.hi)⟩:Sn)])++[(⟨w64 (0 - (w64 ((w64 (0 - x.lo)) * k.hi))),w64 (0 - (w64 ((yj (w64 (0 - x.hi)) 0) * k.lo)))⟩:Sn)])
  | .x4 =>
   GS.some (xl++[(⟨w64 (xJ * k.lo),w64 (xJ * k.hi)⟩:Sn)])
  | .out =>
   default
 | .x2 xl xJ =>
  match ranges_products_3p2 k (w64 (0 - x.lo)) (yj (w64 (0 - x.hi)) 0) 2051 with
  | .x0 xx xD =>
   match ranges_Times_1_3 (xx++[(⟨w64 (xD * k.lo),w64 ((w64 (0 - x.lo)) * k.hi)⟩:Sn)]) xl with
   | .x0 xz =>
    GS.some xz
  | .x1 xx xD =>
   match ranges_Times_1_3 (xx++[(⟨w64 (xD * k.lo),w64 (xD * k.hi)⟩:Sn)]) xl with
   | .x0 xz =>
    GS.some xz
  | .x2 xx xD =>
   match ranges_Times_1_3 xx xl with
   | .x0 xz =>
    GS.some xz
  | .x3 =>
   GS.some (xl++[(⟨w64 (0 - (w64 ((w64 (0 - x.lo)) * k.hi))),w64 (0 - (w64 ((yj (w64 (0 - x.hi)) 0) * k.lo)))⟩:Sn)])
  | .x4 =>
   GS.some xl
  | .out =>
   default
 | .x3 =>
  match ranges_products_3p3 k (w64 (0 - x.lo)) (yj (w64 (0 - x.hi)) 0) 2051 with
  | .x0 xM xE =>
   match ranges_Times_1_3p1 (xM++[(⟨w64 (xE * k.lo),w64 ((w64 (0 - x.lo)) * k.hi)⟩:Sn)]) [(⟨(w64 ((yj x.lo 0) * k.lo)),(w64 (x.hi * k.hi))⟩:Sn)] with
   | .x0 v3p1_0 =>
    GS.some v3p1_0
  | .x1 xM xE =>
   match ranges_Times_1_3p1 (xM++[(⟨w64 (xE * k.lo),w64 (xE * k.hi)⟩:Sn)]) [(⟨(w64 ((yj x.lo 0) * k.lo)),(w64 (x.hi * k.hi))⟩:Sn)] with
   | .x0 v3p1_0 =>
    GS.some v3p1_0
  | .x2 xM xE =>
   match ranges_Times_1_3p1 xM [(⟨(w64 ((yj x.lo 0) * k.lo)),(w64 (x.hi * k.hi))⟩:Sn)] with
   | .x0 v3p1_0 =>
    GS.some v3p1_0
  | .x3 =>
   GS.some [(⟨w64 ((yj x.lo 0) * k.lo),w64 (x.hi * k.hi)⟩:Sn),(⟨w64 (0 - (w64 ((w64 (0 - x.lo)) * k.hi))),w64 (0 - (w64 ((yj (w64 (0 - x.hi)) 0) * k.lo)))⟩:Sn)]
  | .x4 =>
   GS.some [(⟨w64 ((yj x.lo 0) * k.lo),w64 (x.hi * k.hi)⟩:Sn)]
  | .out =>
   default
 | .x4 =>
  match ranges_products_3p4 k (w64 (0 - x.lo)) (yj (w64 (0 - x.hi)) 0) 2051 with
  | .x0 yL xF =>
   match ranges_Times_1_3p2 (yL++[(⟨w64 (xF * k.lo),w64 ((w64 (0 - x.lo)) * k.hi)⟩:Sn)]) with
   | .x0 xx =>
    GS.some xx
   | .x1 =>
    GS.nil
  | .x1 yL xF =>
   match ranges_Times_1_3p2 (yL++[(⟨w64 (xF * k.lo),w64 (xF * k.hi)⟩:Sn)]) with
   | .x0 xx =>
    GS.some xx
   | .x1 =>
    GS.nil
  | .x2 yL xF =>
   match ranges_Times_1_3p2 yL with
   | .x0 xx =>
    GS.some xx
   | .x1 =>
    GS.nil
  | .x3 =>
   GS.some [(⟨w64 (0 - (w64 ((w64 (0 - x.lo)) * k.hi))),w64 (0 - (w64 ((yj (w64 (0 - x.hi)) 0) * k.lo)))⟩:Sn)]
  | .x4 =>
   GS.nil
  | .out =>
   default
 | .out =>
  default

end Go.VS

namespace Go.VS
open Go
set_option maxHeartbeats 0
end Go.VS

namespace Go.VS
open Go Go.Proofs
set_option maxHeartbeats 0
set_option linter.unusedSimpArgs false
set_option linter.unusedVariables false
theorem chk1 {r:GS Sn} (h:zz r=0):r.l.length≤64∧∀ x∈r.l,-1099511627776≤x.lo∧x.lo≤x.hi∧x.hi≤1099511627776:=by
 have k:=check_iff.1 h
 refine ⟨k.2.2,fun x hx=>?_⟩
 have:=k.2.1 x hx
 have:=cn_mem k.1 hx
 omega

def zG (ν0 ν1:Nat) (μ0:List Sn):St:=⟨65,[(4,.sl true [] 0 none),(10,.lsl ν0 0 μ0.length 2 none),(11,I ((μ0.length:Nat):Int)),(12,I 0)],[(ν0,⟨(zo zm μ0).map Sn.D,2,false⟩)],ν1,ν1⟩

def sd40116 (ν0 ν1 ν2:Nat) (μ0:List Sn) (μ1:List Sn):St:=⟨65,[(13,B false),(4,.lsl ν0 0 μ0.length 2 none),(10,.lsl ν1 0 μ1.length 2 none),(11,I ((μ1.length:Nat):Int)),(12,I (((zo zm μ1).length:Nat):Int))],[(ν1,⟨(zo zm μ1).map Sn.D,2,false⟩),(ν0,⟨μ0.map Sn.D,2,false⟩)],ν2,ν0⟩

def y9 (ν0 ν1:Nat) (μ0:List Sn):St:=⟨65,[(12,I 0),(11,I ((μ0.length:Nat):Int)),(10,.lsl ν0 0 μ0.length 2 none),(4,.sl true [] 0 none),(9,.tup []),(8,.lsl ν0 0 μ0.length 2 none),(3,I 0),(2,.sl true [] 0 none),(0,.lsl ν0 0 μ0.length 2 none)],[(ν0,⟨(zo zm μ0).map Sn.D,2,false⟩)],ν1,ν1⟩

def sd40117 (ν0 ν1 ν2 ν3:Nat) (μ0:Sn) (μ1:Nat) (μ2:List Sn) (μ3:List Sn):St:=⟨65,[(3,I 2),(2,.sl true [] 0 none),(25,B true),(24,B true),(23,B false),(22,I μ0.hi),(21,.lref ν0 0 2 1),(20,B false),(19,B false),(18,B true),(17,I μ0.lo),(16,.lref ν0 0 2 0),(6,.lref ν0 0 2 0),(15,.agg [I μ0.lo,I μ0.hi]),(14,.lref ν1 μ1 2 0),(13,B true),(4,.lsl ν2 0 μ2.length 2 none),(10,.lsl ν1 0 μ3.length 2 none),(11,I ((μ3.length:Nat):Int)),(12,I ((μ1:Nat):Int))],[(ν1,⟨(zo zm μ3).map Sn.D,2,false⟩),(ν2,⟨μ2.map Sn.D,2,false⟩),(ν0,⟨[.agg [I μ0.lo,I μ0.hi]],2,false⟩)],ν3,ν2⟩

def sd40118 (ν0 ν1 ν2 ν3:Nat) (μ0:Sn) (μ1:Nat) (μ2:List Sn) (μ3:List Sn):St:=⟨65,[(3,I 2),(2,.sl true [] 0 none),(25,B true),(24,.tup []),(23,.tup []),(22,.tup []),(21,.tup []),(20,B true),(19,B true),(18,B false),(17,I μ0.lo),(16,.lref ν0 0 2 0),(6,.lref ν0 0 2 0),(15,.agg [I μ0.lo,I μ0.hi]),(14,.lref ν1 μ1 2 0),(13,B true),(4,.lsl ν2 0 μ2.length 2 none),(10,.lsl ν1 0 μ3.length 2 none),(11,I ((μ3.length:Nat):Int)),(12,I ((μ1:Nat):Int))],[(ν1,⟨(zo zm μ3).map Sn.D,2,false⟩),(ν2,⟨μ2.map Sn.D,2,false⟩),(ν0,⟨[.agg [I μ0.lo,I μ0.hi]],2,false⟩)],ν3,ν2⟩

def sd40119 (ν0 ν1:Nat) (μ0:List Sn):St:=⟨65,[(13,B false),(4,.sl true [] 0 none),(10,.lsl ν0 0 μ0.length 2 none),(11,I ((μ0.length:Nat):Int)),(12,I (((zo zm μ0).length:Nat):Int))],[(ν0,⟨(zo zm μ0).map Sn.D,2,false⟩)],ν1,ν1⟩

def sd40120 (ν0 ν1 ν2:Nat) (μ0:Sn) (μ1:Nat) (μ2:List Sn):St:=⟨65,[(3,I 2),(2,.sl true [] 0 none),(25,B true),(24,B true),(23,B false),(22,I μ0.hi),(21,.lref ν0 0 2 1),(20,B false),(19,B false),(18,B true),(17,I μ0.lo),(16,.lref ν0 0 2 0),(6,.lref ν0 0 2 0),(15,.agg [I μ0.lo,I μ0.hi]),(14,.lref ν1 μ1 2 0),(13,B true),(4,.sl true [] 0 none),(10,.lsl ν1 0 μ2.length 2 none),(11,I ((μ2.length:Nat):Int)),(12,I ((μ1:Nat):Int))],[(ν1,⟨(zo zm μ2).map Sn.D,2,false⟩),(ν0,⟨[.agg [I μ0.lo,I μ0.hi]],2,false⟩)],ν2,ν0⟩

def sd40121 (ν0 ν1 ν2:Nat) (μ0:Sn) (μ1:Nat) (μ2:List Sn):St:=⟨65,[(3,I 2),(2,.sl true [] 0 none),(25,B true),(24,.tup []),(23,.tup []),(22,.tup []),(21,.tup []),(20,B true),(19,B true),(18,B false),(17,I μ0.lo),(16,.lref ν0 0 2 0),(6,.lref ν0 0 2 0),(15,.agg [I μ0.lo,I μ0.hi]),(14,.lref ν1 μ1 2 0),(13,B true),(4,.sl true [] 0 none),(10,.lsl ν1 0 μ2.length 2 none),(11,I ((μ2.length:Nat):Int)),(12,I ((μ1:Nat):Int))],[(ν1,⟨(zo zm μ2).map Sn.D,2,false⟩),(ν0,⟨[.agg [I μ0.lo,I μ0.hi]],2,false⟩)],ν2,ν0⟩

end Go.VS

namespace Go.VS
open Go Go.Proofs
set_option maxHeartbeats 0
set_option linter.unusedSimpArgs false
set_option linter.unusedVariables false
def z7 (x:Sn) (n:Int):(GS Sn) :=
 bif decide ((w64 ((w64 ((w64 ((w64 (x.lo - (w64 (n * (zg x.lo n)))))+x.hi)) - x.lo)) - (w64 (x.lo - (w64 (n * (zg x.lo n))))))) ≥ (w64 (n - 1))) then
  (zl 0 (w64 (n - 1)))
 else
  bif decide ((w64 ((w64 ((w64 (x.lo - (w64 (n * (zg x.lo n)))))+x.hi)) - x.lo)) < n) then
   (zl (w64 (x.lo - (w64 (n * (zg x.lo n))))) (w64 ((w64 ((w64 (x.lo - (w64 (n * (zg x.lo n)))))+x.hi)) - x.lo)))
  else
   GS.some [(⟨w64 (x.lo - (w64 (n * (zg x.lo n)))),w64 (n - 1)⟩:Sn),(⟨0,w64 ((w64 ((w64 ((w64 (x.lo - (w64 (n * (zg x.lo n)))))+x.hi)) - x.lo)) - n)⟩:Sn)]

theorem ym (x:Sn) (n:Int) (hx:-1099511627776≤x.lo∧x.lo≤x.hi∧x.hi≤1099511627776) (hn:1≤n∧n≤10000):(lim cfg).pure 106 [Sn.D x,.ptr (I n)]=some (GS.D Sn.D 2 (z7 x n)):=by
 unfold z7
 cases h1:decide ((w64 ((w64 ((w64 ((w64 (x.lo - (w64 (n * (zg x.lo n)))))+x.hi)) - x.lo)) - (w64 (x.lo - (w64 (n * (zg x.lo n))))))) ≥ (w64 (n - 1))) with
 | true =>
  have g1:=of_decide_eq_true h1
  exact zu [.pure (I (zg x.lo n)),.dec true,.pure (.sl ((zl 0 (w64 (n - 1))).nl) (((zl 0 (w64 (n - 1))).l).map Sn.D) (zsl ((zl 0 (w64 (n - 1))).nl) 2) none)] (Ai (T_ranges_some 0 (w64 (n - 1))) (Ai h1 (Ai (T_ranges_down x.lo n (by omega)) trivial))) (by kernel_rfl)
 | false =>
  have g1:=of_decide_eq_false h1
  cases h2:decide ((w64 ((w64 ((w64 (x.lo - (w64 (n * (zg x.lo n)))))+x.hi)) - x.lo)) < n) with
  | true =>
   have g2:=of_decide_eq_true h2
   exact zu [.pure (I (zg x.lo n)),.dec false,.dec true,.pure (.sl ((zl (w64 (x.lo - (w64 (n * (zg x.lo n))))) (w64 ((w64 ((w64 (x.lo - (w64 (n * (zg x.lo n)))))+x.hi)) - x.lo))).nl) (((zl (w64 (x.lo - (w64 (n * (zg x.lo n))))) (w64 ((w64 ((w64 (x.lo - (w64 (n * (zg x.lo n)))))+x.hi)) - x.lo))).l).map Sn.D) (zsl ((zl (w64 (x.lo - (w64 (n * (zg x.lo n))))) (w64 ((w64 ((w64 (x.lo - (w64 (n * (zg x.lo n)))))+x.hi)) - x.lo))).nl) 2) none)] (Ai (T_ranges_some (w64 (x.lo - (w64 (n * (zg x.lo n))))) (w64 ((w64 ((w64 (x.lo - (w64 (n * (zg x.lo n)))))+x.hi)) - x.lo))) (Ai h2 (Ai h1 (Ai (T_ranges_down x.lo n (by omega)) trivial)))) (by kernel_rfl)
  | false =>
   have g2:=of_decide_eq_false h2
   exact zu [.pure (I (zg x.lo n)),.dec false,.dec false] (Ai h2 (Ai h1 (Ai (T_ranges_down x.lo n (by omega)) trivial))) (by kernel_rfl)
end Go.VS

namespace Go.VS
open Go Go.Proofs
set_option maxHeartbeats 0
set_option linter.unusedSimpArgs false
set_option linter.unusedVariables false
end Go.VS

namespace Go.VS
open Go
set_option maxHeartbeats 0
theorem down_eq {a b:Int} (hb:1≤b) (ha:-4398046511104≤a∧a≤4398046511104):zg a b=a / b:=by
 have e:=Int.mul_tdiv_add_tmod a b
 have e1:=Int.tmod_lt_of_pos a (show 0 < b by omega)
 have e2:-b < a.tmod b:=by
  have:=Int.tmod_lt_of_pos (-a) (show 0 < b by omega)
  rw [Int.neg_tmod] at this
  omega
 have hq:-4398046511104≤a.tdiv b∧a.tdiv b≤4398046511104:=by
  have h1:(a.tdiv b).natAbs≤a.natAbs:=by
   rw [Int.natAbs_tdiv]; exact Nat.div_le_self _ _
  omega
 unfold zg
 rw [w64_eq (n:=a.tdiv b) (by omega) (by omega)]
 by_cases h:a.tmod b < 0
 ·rw [decide_eq_true h,cond_true,w64_eq (by omega) (by omega)]
  have k:a.tmod b+b+b * (a.tdiv b - 1)=a∧0≤a.tmod b+b∧a.tmod b+b < b:=⟨by rw [Int.mul_sub]; omega,by omega,by omega⟩
  exact (((Int.ediv_emod_unique (show 0 < b by omega)).2 k).1).symm
 ·rw [decide_eq_false h,cond_false]
  have k:a.tmod b+b * a.tdiv b=a∧0≤a.tmod b∧a.tmod b < b:=⟨by omega,by omega,e1⟩
  exact (((Int.ediv_emod_unique (show 0 < b by omega)).2 k).1).symm
theorem ediv_bd {a b:Int} (hb:1≤b) (ha:-1099511627776≤a∧a≤1099511627776):-1099511627776≤a / b∧a / b≤1099511627776:=by
 have e:b * (a / b)+a % b=a:=Int.mul_ediv_add_emod a b
 have e1:=Int.emod_nonneg a (show b ≠ 0 by omega)
 have e2:=Int.emod_lt_of_pos a (show 0 < b by omega)
 generalize a / b=q at *
 generalize a % b=r at *
 constructor
 ·refine Classical.byContradiction fun h=>?_
  have:=Int.mul_le_mul_of_nonneg_left (show q≤-1099511627777 by omega) (show 0≤b by omega)
  omega
 ·refine Classical.byContradiction fun h=>?_
  have:=Int.mul_le_mul_of_nonneg_left (show 1099511627777≤q by omega) (show 0≤b by omega)
  omega
end Go.VS

namespace Go.VS
open Go
set_option maxHeartbeats 0
theorem rests1_len (x:Sn) (n:Int):(z7 x n).l.length≤2:=by
 unfold z7
 simp only [Bool.cond_eq_ite]
 repeat' split
 ·exact Nat.le_trans (some1 _ _) (by decide)
 ·exact Nat.le_trans (some1 _ _) (by decide)
 ·simp [GS.some_l]
def restS (x:Sn) (n:Int):List Sn :=
 if n - 1≤x.hi - x.lo then [⟨0,n - 1⟩] else if x.lo % n+(x.hi - x.lo) < n then [⟨x.lo % n,x.lo % n+(x.hi - x.lo)⟩] else [⟨x.lo % n,n - 1⟩,⟨0,x.lo % n+(x.hi - x.lo) - n⟩]
theorem rests1_eq {x:Sn} {n:Int} (hx:-1099511627776≤x.lo∧x.lo≤x.hi∧x.hi≤1099511627776) (hn:1≤n∧n≤10000):(z7 x n).l=restS x n:=by
 have e:n * (x.lo / n)+x.lo % n=x.lo:=Int.mul_ediv_add_emod _ _
 have e1:=Int.emod_nonneg x.lo (show n ≠ 0 by omega)
 have e2:=Int.emod_lt_of_pos x.lo (show 0 < n by omega)
 unfold z7 restS
 rw [down_eq hn.1 (by omega)]
 generalize n * (x.lo / n)=q at *
 generalize x.lo % n=r at *
 rw [w64_eq (n:=q) (by omega) (by omega),w64_eq (n:=x.lo - q) (by omega) (by omega),show x.lo - q=r by omega,w64_eq (n:=r+x.hi) (by omega) (by omega),w64_eq (n:=r+x.hi - x.lo) (by omega) (by omega),
  w64_eq (n:=r+x.hi - x.lo - r) (by omega) (by omega),w64_eq (n:=n - 1) (by omega) (by omega),show r+x.hi - x.lo - r=x.hi - x.lo by omega,show r+x.hi - x.lo=r+(x.hi - x.lo) by omega]
 by_cases h1:n - 1≤x.hi - x.lo
 ·rw [decide_eq_true (show x.hi - x.lo ≥ n - 1 from h1),if_pos h1,cond_true,some_l]
  unfold someS; rw [if_neg (by omega)]
 ·rw [decide_eq_false (show ¬ x.hi - x.lo ≥ n - 1 from h1),if_neg h1,cond_false]
  by_cases h2:r+(x.hi - x.lo) < n
  ·rw [decide_eq_true h2,if_pos h2,cond_true,some_l]
   unfold someS; rw [if_neg (by omega)]
  ·rw [decide_eq_false h2,if_neg h2,cond_false,w64_eq (by omega) (by omega)]; rfl
theorem restS_bd {x:Sn} {n:Int} (hx:x.lo≤x.hi) (hn:1≤n):∀ s∈restS x n,0≤s.lo∧s.lo≤s.hi∧s.hi < n:=by
 have e1:=Int.emod_nonneg x.lo (show n ≠ 0 by omega)
 have e2:=Int.emod_lt_of_pos x.lo (show 0 < n by omega)
 intro s hs
 unfold restS at hs
 split at hs
 ·rw [List.mem_singleton.1 hs]; simp only; omega
 ·split at hs
  ·rw [List.mem_singleton.1 hs]; simp only; omega
  ·simp only [List.mem_cons,List.not_mem_nil,or_false] at hs
   rcases hs with rfl | rfl <;> simp only <;> omega
theorem rests1_bd (x:Sn) (n:Int) (hx:-1099511627776≤x.lo∧x.lo≤x.hi∧x.hi≤1099511627776) (hn:1≤n∧n≤10000):∀ s∈(z7 x n).l,0≤s.lo∧s.lo≤s.hi∧s.hi < n:=by
 rw [rests1_eq hx hn]
 exact restS_bd hx.2.1 hn.1
theorem all_app {α:Type} {p:α→Prop} {a b:List α} (ha:∀ s∈a,p s) (hb:∀ s∈b,p s):∀ s∈a++b,p s:=fun s hs=>(List.mem_append.1 hs).elim (ha s) (hb s)
end Go.VS

