/- Nothing of a statement is proved in this text alone: it is part 6 of the proof's own tools, an evaluator of the code over deep values, its soundness, and what it makes of this seat's functions. Conditions: none beyond the statement's own. -/
import Derived.Test.YtpkjnefhnedfdaaGreatDoorVsRCSums5
set_option linter.unusedSimpArgs false
set_option linter.unusedVariables false
namespace Go.VS
open Go Go.Proofs
set_option maxHeartbeats 0
set_option linter.unusedSimpArgs false
set_option linter.unusedVariables false
def za (x:Sn) (by_:Int):(GS Sn) :=
 (zI (w64 (x.lo+by_)) (w64 (x.hi+by_)))

theorem T_ranges_Shift_1 (x:Sn) (by_:Int):(lim cfg).pure 85 [Sn.D x,.ptr (I by_)]=some (GS.D Sn.D 2 (za x by_)):=by
 unfold za
 exact zo [.pure (.sl ((zI (w64 (x.lo+by_)) (w64 (x.hi+by_))).nl) (((zI (w64 (x.lo+by_)) (w64 (x.hi+by_))).l).map Sn.D) (zsl ((zI (w64 (x.lo+by_)) (w64 (x.hi+by_))).nl) 2) none)] (Ai (T_ranges_some (w64 (x.lo+by_)) (w64 (x.hi+by_))) trivial) (by kernel_rfl)

theorem shift1_len (x:Sn) (by_:Int):(za x by_).l.length≤1:=some1 _ _

def sd202 (r:GS Sn) (by_:Int) (yB:Nat) (yq:Sn) (ym:List Sn):St:=⟨21,[(10,I ((yB+1:Nat):Int)),(19,I ((yB+1:Nat):Int)),(5,.lsl 1 0 ym.length 2 none),(18,.lsl 1 0 ym.length 2 none),(17,.sl ((za yq by_).nl) (((za yq by_).l).map Sn.D) (zsl ((za yq by_).nl) 2) none),(16,.agg [I yq.lo,I yq.hi]),(15,.fn (.func 85) [] [.lref 0 0 1 0]),(14,.lsl 1 0 ym.length 2 none),(7,.lref 2 0 2 0),(13,.agg [I yq.lo,I yq.hi]),(12,.ptr (.agg [I yq.lo,I yq.hi])),(11,B true),(1,.fn (.func 85) [] [.lref 0 0 1 0]),(5,.lsl 1 0 ym.length 2 none),(8,.sl r.nl (r.l.map Sn.D) (zsl r.nl 2) none),(9,I ((r.l.length:Nat):Int)),(10,I ((yB:Nat):Int))],[(0,⟨[I by_],1,true⟩),(1,⟨ym.map Sn.D,2,false⟩),(2,⟨[.agg [I yq.lo,I yq.hi]],2,false⟩)],3,1⟩

def sd203 (r:GS Sn) (by_:Int) (yB:Nat) (yq:Sn) (ym:List Sn):St:=⟨21,[(10,I ((yB+1:Nat):Int)),(19,I ((yB+1:Nat):Int)),(5,.lsl 3 0 ((ym++((za yq by_).l)).length) 2 none),(18,.lsl 3 0 ((ym++((za yq by_).l)).length) 2 none),(17,.sl ((za yq by_).nl) (((za yq by_).l).map Sn.D) (zsl ((za yq by_).nl) 2) none),(16,.agg [I yq.lo,I yq.hi]),(15,.fn (.func 85) [] [.lref 0 0 1 0]),(14,.lsl 1 0 ym.length 2 none),(7,.lref 2 0 2 0),(13,.agg [I yq.lo,I yq.hi]),(12,.ptr (.agg [I yq.lo,I yq.hi])),(11,B true),(1,.fn (.func 85) [] [.lref 0 0 1 0]),(5,.lsl 1 0 ym.length 2 none),(8,.sl r.nl (r.l.map Sn.D) (zsl r.nl 2) none),(9,I ((r.l.length:Nat):Int)),(10,I ((yB:Nat):Int))],[(0,⟨[I by_],1,true⟩),(2,⟨[.agg [I yq.lo,I yq.hi]],2,false⟩),(3,⟨(ym++((za yq by_).l)).map Sn.D,2,false⟩)],4,1⟩

def sd204 (r:GS Sn) (by_:Int) (yB:Nat) (yq:Sn) (yk:List Sn):St:=⟨21,[(10,I ((yB+1:Nat):Int)),(19,I ((yB+1:Nat):Int)),(5,.lsl 1 0 yk.length 2 none),(18,.lsl 1 0 yk.length 2 none),(17,.sl ((za yq by_).nl) (((za yq by_).l).map Sn.D) (zsl ((za yq by_).nl) 2) none),(16,.agg [I yq.lo,I yq.hi]),(15,.fn (.func 85) [] [.lref 0 0 1 0]),(14,.lsl 1 0 yk.length 2 none),(7,.lref 2 0 2 0),(13,.agg [I yq.lo,I yq.hi]),(12,.ptr (.agg [I yq.lo,I yq.hi])),(11,B true),(1,.fn (.func 85) [] [.lref 0 0 1 0]),(5,.lsl 1 0 yk.length 2 none),(8,.sl r.nl (r.l.map Sn.D) (zsl r.nl 2) none),(9,I ((r.l.length:Nat):Int)),(10,I ((yB:Nat):Int))],[(0,⟨[I by_],1,false⟩),(1,⟨yk.map Sn.D,2,false⟩),(2,⟨[.agg [I yq.lo,I yq.hi]],2,false⟩)],3,1⟩

def sd205 (r:GS Sn) (by_:Int) (yB:Nat) (yq:Sn) (yk:List Sn):St:=⟨21,[(10,I ((yB+1:Nat):Int)),(19,I ((yB+1:Nat):Int)),(5,.lsl 3 0 ((yk++((za yq by_).l)).length) 2 none),(18,.lsl 3 0 ((yk++((za yq by_).l)).length) 2 none),(17,.sl ((za yq by_).nl) (((za yq by_).l).map Sn.D) (zsl ((za yq by_).nl) 2) none),(16,.agg [I yq.lo,I yq.hi]),(15,.fn (.func 85) [] [.lref 0 0 1 0]),(14,.lsl 1 0 yk.length 2 none),(7,.lref 2 0 2 0),(13,.agg [I yq.lo,I yq.hi]),(12,.ptr (.agg [I yq.lo,I yq.hi])),(11,B true),(1,.fn (.func 85) [] [.lref 0 0 1 0]),(5,.lsl 1 0 yk.length 2 none),(8,.sl r.nl (r.l.map Sn.D) (zsl r.nl 2) none),(9,I ((r.l.length:Nat):Int)),(10,I ((yB:Nat):Int))],[(0,⟨[I by_],1,false⟩),(2,⟨[.agg [I yq.lo,I yq.hi]],2,false⟩),(3,⟨(yk++((za yq by_).l)).map Sn.D,2,false⟩)],4,1⟩

def sd206 (r:GS Sn) (by_:Int) (yB:Nat) (yq:Sn) (yk:List Sn):St:=⟨21,[(10,I ((yB+1:Nat):Int)),(19,I ((yB+1:Nat):Int)),(5,.lsl 1 0 yk.length 2 none),(18,.lsl 1 0 yk.length 2 none),(17,.sl ((za yq by_).nl) (((za yq by_).l).map Sn.D) (zsl ((za yq by_).nl) 2) none),(16,.agg [I yq.lo,I yq.hi]),(15,.fn (.func 85) [] [.lref 0 0 1 0]),(14,.lsl 1 0 yk.length 2 none),(7,.lref 2 0 2 0),(13,.agg [I yq.lo,I yq.hi]),(12,.ptr (.agg [I yq.lo,I yq.hi])),(11,B true),(1,.fn (.func 85) [] [.lref 0 0 1 0]),(5,.lsl 1 0 yk.length 2 none),(8,.sl r.nl (r.l.map Sn.D) (zsl r.nl 2) none),(9,I ((r.l.length:Nat):Int)),(10,I ((yB:Nat):Int))],[(0,⟨[I by_],1,true⟩),(1,⟨yk.map Sn.D,2,false⟩),(2,⟨[.agg [I yq.lo,I yq.hi]],2,false⟩)],3,1⟩

def sd207 (r:GS Sn) (by_:Int) (yB:Nat) (yq:Sn) (yk:List Sn):St:=⟨21,[(10,I ((yB+1:Nat):Int)),(19,I ((yB+1:Nat):Int)),(5,.lsl 3 0 ((yk++((za yq by_).l)).length) 2 none),(18,.lsl 3 0 ((yk++((za yq by_).l)).length) 2 none),(17,.sl ((za yq by_).nl) (((za yq by_).l).map Sn.D) (zsl ((za yq by_).nl) 2) none),(16,.agg [I yq.lo,I yq.hi]),(15,.fn (.func 85) [] [.lref 0 0 1 0]),(14,.lsl 1 0 yk.length 2 none),(7,.lref 2 0 2 0),(13,.agg [I yq.lo,I yq.hi]),(12,.ptr (.agg [I yq.lo,I yq.hi])),(11,B true),(1,.fn (.func 85) [] [.lref 0 0 1 0]),(5,.lsl 1 0 yk.length 2 none),(8,.sl r.nl (r.l.map Sn.D) (zsl r.nl 2) none),(9,I ((r.l.length:Nat):Int)),(10,I ((yB:Nat):Int))],[(0,⟨[I by_],1,true⟩),(2,⟨[.agg [I yq.lo,I yq.hi]],2,false⟩),(3,⟨(yk++((za yq by_).l)).map Sn.D,2,false⟩)],4,1⟩

def sd208 (r:GS Sn) (by_:Int) (yB:Nat) (yq:Sn):St:=⟨21,[(10,I ((yB+1:Nat):Int)),(19,I ((yB+1:Nat):Int)),(5,.lsl 2 0 (((za yq by_).l).length) 2 none),(18,.lsl 2 0 (((za yq by_).l).length) 2 none),(17,.sl ((za yq by_).nl) (((za yq by_).l).map Sn.D) (zsl ((za yq by_).nl) 2) none),(16,.agg [I yq.lo,I yq.hi]),(15,.fn (.func 85) [] [.lref 0 0 1 0]),(14,.sl true [] 0 none),(7,.lref 1 0 2 0),(13,.agg [I yq.lo,I yq.hi]),(12,.ptr (.agg [I yq.lo,I yq.hi])),(11,B true),(1,.fn (.func 85) [] [.lref 0 0 1 0]),(5,.sl true [] 0 none),(8,.sl r.nl (r.l.map Sn.D) (zsl r.nl 2) none),(9,I ((r.l.length:Nat):Int)),(10,I ((yB:Nat):Int))],[(0,⟨[I by_],1,true⟩),(1,⟨[.agg [I yq.lo,I yq.hi]],2,false⟩),(2,⟨((za yq by_).l).map Sn.D,2,false⟩)],3,1⟩

def sd209 (r:GS Sn) (by_:Int) (yB:Nat) (yq:Sn):St:=⟨21,[(10,I ((yB+1:Nat):Int)),(19,I ((yB+1:Nat):Int)),(5,.lsl 2 0 (((za yq by_).l).length) 2 none),(18,.lsl 2 0 (((za yq by_).l).length) 2 none),(17,.sl ((za yq by_).nl) (((za yq by_).l).map Sn.D) (zsl ((za yq by_).nl) 2) none),(16,.agg [I yq.lo,I yq.hi]),(15,.fn (.func 85) [] [.lref 0 0 1 0]),(14,.sl true [] 0 none),(7,.lref 1 0 2 0),(13,.agg [I yq.lo,I yq.hi]),(12,.ptr (.agg [I yq.lo,I yq.hi])),(11,B true),(1,.fn (.func 85) [] [.lref 0 0 1 0]),(5,.sl true [] 0 none),(8,.sl r.nl (r.l.map Sn.D) (zsl r.nl 2) none),(9,I ((r.l.length:Nat):Int)),(10,I ((yB:Nat):Int))],[(0,⟨[I by_],1,false⟩),(1,⟨[.agg [I yq.lo,I yq.hi]],2,false⟩),(2,⟨((za yq by_).l).map Sn.D,2,false⟩)],3,1⟩

inductive LR_ranges_each_3p1 where
 | x0 (ym:List Sn)
 | x1 (yk:List Sn)
 | x2
 | x3
instance:Inhabited LR_ranges_each_3p1:=⟨.x0 default⟩
def zO (by_:Int):List Sn→(List Sn)→LR_ranges_each_3p1
 | [],ym=>.x0 ym
 | yq::yx,ym =>
  bif (za yq by_).nl then
   bif ((za yq by_).l).isEmpty then
    zO by_ yx ym
   else
    zO by_ yx (ym++((za yq by_).l))
  else
   bif ((za yq by_).l).isEmpty then
    zO by_ yx ym
   else
    zO by_ yx (ym++((za yq by_).l))
def yi (by_:Int):List Sn→(List Sn)→LR_ranges_each_3p1
 | [],yk=>.x1 yk
 | yq::yx,yk =>
  bif (za yq by_).nl then
   bif ((za yq by_).l).isEmpty then
    yi by_ yx yk
   else
    yi by_ yx (yk++((za yq by_).l))
  else
   bif ((za yq by_).l).isEmpty then
    zO by_ yx yk
   else
    zO by_ yx (yk++((za yq by_).l))
def ranges_each_3p1b (by_:Int):List Sn→LR_ranges_each_3p1
 | []=>.x2
 | yq::yx =>
  bif (za yq by_).nl then
   bif ((za yq by_).l).isEmpty then
    ranges_each_3p1b by_ yx
   else
    zO by_ yx ((za yq by_).l)
  else
   bif ((za yq by_).l).isEmpty then
    ranges_each_3p1b by_ yx
   else
    zO by_ yx ((za yq by_).l)
def ya (by_:Int):List Sn→LR_ranges_each_3p1
 | []=>.x3
 | yq::yx =>
  bif (za yq by_).nl then
   bif ((za yq by_).l).isEmpty then
    ya by_ yx
   else
    yi by_ yx ((za yq by_).l)
  else
   bif ((za yq by_).l).isEmpty then
    ranges_each_3p1b by_ yx
   else
    zO by_ yx ((za yq by_).l)
def yj (r:GS Sn) (by_:Int):LR_ranges_each_3p1→Exit × St
 | .x0 ym=>((.exit 0),⟨21,[(11,B false),(1,.fn (.func 85) [] [.lref 0 0 1 0]),(5,.lsl 1 0 ym.length 2 none),(8,.sl r.nl (r.l.map Sn.D) (zsl r.nl 2) none),(9,I ((r.l.length:Nat):Int)),(10,I ((r.l.length:Nat):Int))],[(0,⟨[I by_],1,true⟩),(1,⟨ym.map Sn.D,2,false⟩)],2,1⟩)
 | .x1 yk=>((.exit 0),⟨21,[(11,B false),(1,.fn (.func 85) [] [.lref 0 0 1 0]),(5,.lsl 1 0 yk.length 2 none),(8,.sl r.nl (r.l.map Sn.D) (zsl r.nl 2) none),(9,I ((r.l.length:Nat):Int)),(10,I ((r.l.length:Nat):Int))],[(0,⟨[I by_],1,false⟩),(1,⟨yk.map Sn.D,2,false⟩)],2,1⟩)
 | .x2=>((.exit 0),⟨21,[(11,B false),(1,.fn (.func 85) [] [.lref 0 0 1 0]),(5,.sl true [] 0 none),(8,.sl r.nl (r.l.map Sn.D) (zsl r.nl 2) none),(9,I ((r.l.length:Nat):Int)),(10,I ((r.l.length:Nat):Int))],[(0,⟨[I by_],1,true⟩)],1,1⟩)
 | .x3=>((.exit 0),⟨21,[(11,B false),(1,.fn (.func 85) [] [.lref 0 0 1 0]),(5,.sl true [] 0 none),(8,.sl r.nl (r.l.map Sn.D) (zsl r.nl 2) none),(9,I ((r.l.length:Nat):Int)),(10,I ((r.l.length:Nat):Int))],[(0,⟨[I by_],1,false⟩)],1,1⟩)
def iv_ranges_each_3p1 (r:GS Sn) (by_:Int):LR_ranges_each_3p1→Prop
 | .x0 ym=>(ym.length≤r.l.length)
 | .x1 yk=>(yk.length≤r.l.length)
 | .x2=>True
 | .x3=>True
def ranges_each_3p1c_l_o1 (by_:Int) (yq:Sn):List Ora:=[.dec true,.el (.agg [I yq.lo,I yq.hi]),.pureS (.sl ((za yq by_).nl) (((za yq by_).l).map Sn.D) (zsl ((za yq by_).nl) 2) none) true []]
def ranges_each_3p1c_l_o2 (by_:Int) (yq:Sn):List Ora:=[.dec true,.el (.agg [I yq.lo,I yq.hi]),.pureS (.sl ((za yq by_).nl) (((za yq by_).l).map Sn.D) (zsl ((za yq by_).nl) 2) none) false []]
theorem lp_ranges_each_3p1c (r:GS Sn) (by_:Int):∀ (yx:List Sn) (yB:Nat) (ym:List Sn) (yy:r.l.drop yB=yx) (yV:yB≤r.l.length) (hg3p1_vc3p1_0:ym.length≤yB) (hL3p1:r.l.length≤1099511627776),(lim cfg).loop 70 lp70_3 ⟨21,[(1,.fn (.func 85) [] [.lref 0 0 1 0]),(5,.lsl 1 0 ym.length 2 none),(8,.sl r.nl (r.l.map Sn.D) (zsl r.nl 2) none),(9,I ((r.l.length:Nat):Int)),(10,I ((yB:Nat):Int))],[(0,⟨[I by_],1,true⟩),(1,⟨ym.map Sn.D,2,false⟩)],2,1⟩=some (yj r by_ (zO by_ yx ym)):=by
 intro yx
 induction yx with
 | nil =>
  intro yB ym yy yV hg3p1_vc3p1_0 hL3p1
  unfold zO
  obtain rfl:yB=r.l.length:=zY yy yV
  exact zR [.dec false] (Ai (lt_no yy) trivial) (by kernel_rfl)
 | cons yq yx ih =>
  intro yB ym yy yV hg3p1_vc3p1_0 hL3p1
  have hlt3p1:=zg yy
  have hlx:=shift1_len yq by_
  unfold zO
  have p1:=(el_at (s:=r) (f:=Sn.D) (k:=2) yy)
  cases h16:(za yq by_).nl with
  | true =>
   have p2:=(Ai (show flat fuelD (.sl ((za yq by_).nl) (((za yq by_).l).map Sn.D) (zsl ((za yq by_).nl) 2) none)=true from (by rw [h16] <;> kernel_rfl)) (Ai (trivial) (T_ranges_Shift_1 yq by_)))
   cases h17:((za yq by_).l).isEmpty with
   | true =>
    exact zH (ks:=[1,5,8,9,10]) (st':=(sd202 r by_ yB yq ym)) ((ranges_each_3p1c_l_o1 by_ yq)++[.op (some 18) ⟨.lsl 1 0 ym.length 2 none,[],[],3⟩,.rw 19 (I ((yB+1:Nat):Int))]) (Ai (zZ (i:=yB) (by have:=zg yy; omega)) (Ai (app_none (te:=ye) (gO:=zu [(0,⟨[I by_],1,true⟩),(1,⟨ym.map Sn.D,2,false⟩),(2,⟨[.agg [I yq.lo,I yq.hi]],2,false⟩)]) (nxt:=3) (f:=Sn.D) (sz:=2) (d:=.lsl 1 0 ym.length 2 none) (za yq by_) h17 rfl) (Ai p2 (Ai p1 (Ai (lt_at yy) trivial))))) (by kernel_rfl) (by (simp only [sd202,go_sem,List.length_set,Nat.reduceAdd,Nat.reduceEqDiff,Nat.reduceLT,Nat.reduceLeDiff,bI2,zb.idsL,zb.renL,zb.snapAll,z6.idsL,z6.renL,z6.snapAll]) <;> rfl) (ih (yB+1) ym (zj yy) (zg yy) (by omega) (by omega)) (by kernel_rfl)
   | false =>
    exact zH (ks:=[1,5,8,9,10]) (st':=(sd203 r by_ yB yq ym)) ((ranges_each_3p1c_l_o1 by_ yq)++[.op (some 18) ⟨.lsl 3 0 ((ym++((za yq by_).l)).length) 2 none,[(1,none),(3,some ⟨(ym++((za yq by_).l)).map Sn.D,2,false⟩)],[1],4⟩,.rw 19 (I ((yB+1:Nat):Int))]) (Ai (zZ (i:=yB) (by have:=zg yy; omega)) (Ai (app_moreD (te:=ye) (gO:=zu [(0,⟨[I by_],1,true⟩),(1,⟨ym.map Sn.D,2,false⟩),(2,⟨[.agg [I yq.lo,I yq.hi]],2,false⟩)]) (nxt:=3) (o:=1) (v:=ym) z6 (za yq by_) h17 (by kernel_rfl) rfl (by kernel_rfl) (by decide) ⟨by simp only [ye,big] <;> (first | assumption | omega | (exact zT (by omega) (by omega)) | (exact zA (by omega)) | (exact zr (by omega)) | (exact zB (by omega)) | (exact zt (by omega)) | (exact zx _ (by omega)) | (simp only [zf] at * <;> omega) | (simp only [zq,GS.some_l,List.length_set,List.length_append,List.length_cons,List.length_nil] at * <;> first | with_reducible assumption | omega) | (simp only [zq,GS.some_l,List.length_set,List.length_append,List.length_cons,List.length_nil,zf] at * <;> first | with_reducible assumption | omega) | (simp at * <;> omega)),by simp only [big] <;> (first | assumption | omega | (exact zT (by omega) (by omega)) | (exact zA (by omega)) | (exact zr (by omega)) | (exact zB (by omega)) | (exact zt (by omega)) | (exact zx _ (by omega)) | (simp only [zf] at * <;> omega) | (simp only [zq,GS.some_l,List.length_set,List.length_append,List.length_cons,List.length_nil] at * <;> first | with_reducible assumption | omega) | (simp only [zq,GS.some_l,List.length_set,List.length_append,List.length_cons,List.length_nil,zf] at * <;> first | with_reducible assumption | omega) | (simp at * <;> omega))⟩) (Ai p2 (Ai p1 (Ai (lt_at yy) trivial))))) (by kernel_rfl) (by (simp only [sd203,go_sem,List.length_set,Nat.reduceAdd,Nat.reduceEqDiff,Nat.reduceLT,Nat.reduceLeDiff,bI2,zb.idsL,zb.renL,zb.snapAll,z6.idsL,z6.renL,z6.snapAll]) <;> rfl) (ih (yB+1) (ym++((za yq by_).l)) (zj yy) (zg yy) (by simp only [List.length_append,List.length_cons,List.length_nil] at * <;> omega) (by omega)) (by kernel_rfl)
  | false =>
   have p3:=(Ai (show flat fuelD (.sl ((za yq by_).nl) (((za yq by_).l).map Sn.D) (zsl ((za yq by_).nl) 2) none)=false from (by rw [h16] <;> kernel_rfl)) (Ai (trivial) (T_ranges_Shift_1 yq by_)))
   cases h18:((za yq by_).l).isEmpty with
   | true =>
    exact zH (ks:=[1,5,8,9,10]) (st':=(sd202 r by_ yB yq ym)) ((ranges_each_3p1c_l_o2 by_ yq)++[.op (some 18) ⟨.lsl 1 0 ym.length 2 none,[],[],3⟩,.rw 19 (I ((yB+1:Nat):Int))]) (Ai (zZ (i:=yB) (by have:=zg yy; omega)) (Ai (app_none (te:=ye) (gO:=zu [(0,⟨[I by_],1,true⟩),(1,⟨ym.map Sn.D,2,false⟩),(2,⟨[.agg [I yq.lo,I yq.hi]],2,false⟩)]) (nxt:=3) (f:=Sn.D) (sz:=2) (d:=.lsl 1 0 ym.length 2 none) (za yq by_) h18 rfl) (Ai p3 (Ai p1 (Ai (lt_at yy) trivial))))) (by kernel_rfl) (by (simp only [sd202,go_sem,List.length_set,Nat.reduceAdd,Nat.reduceEqDiff,Nat.reduceLT,Nat.reduceLeDiff,bI2,zb.idsL,zb.renL,zb.snapAll,z6.idsL,z6.renL,z6.snapAll]) <;> rfl) (ih (yB+1) ym (zj yy) (zg yy) (by omega) (by omega)) (by kernel_rfl)
   | false =>
    exact zH (ks:=[1,5,8,9,10]) (st':=(sd203 r by_ yB yq ym)) ((ranges_each_3p1c_l_o2 by_ yq)++[.op (some 18) ⟨.lsl 3 0 ((ym++((za yq by_).l)).length) 2 none,[(1,none),(3,some ⟨(ym++((za yq by_).l)).map Sn.D,2,false⟩)],[1],4⟩,.rw 19 (I ((yB+1:Nat):Int))]) (Ai (zZ (i:=yB) (by have:=zg yy; omega)) (Ai (app_moreD (te:=ye) (gO:=zu [(0,⟨[I by_],1,true⟩),(1,⟨ym.map Sn.D,2,false⟩),(2,⟨[.agg [I yq.lo,I yq.hi]],2,false⟩)]) (nxt:=3) (o:=1) (v:=ym) z6 (za yq by_) h18 (by kernel_rfl) rfl (by kernel_rfl) (by decide) ⟨by simp only [ye,big] <;> (first | assumption | omega | (exact zT (by omega) (by omega)) | (exact zA (by omega)) | (exact zr (by omega)) | (exact zB (by omega)) | (exact zt (by omega)) | (exact zx _ (by omega)) | (simp only [zf] at * <;> omega) | (simp only [zq,GS.some_l,List.length_set,List.length_append,List.length_cons,List.length_nil] at * <;> first | with_reducible assumption | omega) | (simp only [zq,GS.some_l,List.length_set,List.length_append,List.length_cons,List.length_nil,zf] at * <;> first | with_reducible assumption | omega) | (simp at * <;> omega)),by simp only [big] <;> (first | assumption | omega | (exact zT (by omega) (by omega)) | (exact zA (by omega)) | (exact zr (by omega)) | (exact zB (by omega)) | (exact zt (by omega)) | (exact zx _ (by omega)) | (simp only [zf] at * <;> omega) | (simp only [zq,GS.some_l,List.length_set,List.length_append,List.length_cons,List.length_nil] at * <;> first | with_reducible assumption | omega) | (simp only [zq,GS.some_l,List.length_set,List.length_append,List.length_cons,List.length_nil,zf] at * <;> first | with_reducible assumption | omega) | (simp at * <;> omega))⟩) (Ai p3 (Ai p1 (Ai (lt_at yy) trivial))))) (by kernel_rfl) (by (simp only [sd203,go_sem,List.length_set,Nat.reduceAdd,Nat.reduceEqDiff,Nat.reduceLT,Nat.reduceLeDiff,bI2,zb.idsL,zb.renL,zb.snapAll,z6.idsL,z6.renL,z6.snapAll]) <;> rfl) (ih (yB+1) (ym++((za yq by_).l)) (zj yy) (zg yy) (by simp only [List.length_append,List.length_cons,List.length_nil] at * <;> omega) (by omega)) (by kernel_rfl)
theorem ivt_ranges_each_3p1c (r:GS Sn) (by_:Int):∀ (yx:List Sn) (yB:Nat) (ym:List Sn) (yy:r.l.drop yB=yx) (yV:yB≤r.l.length) (hg3p1_vc3p1_0:ym.length≤yB) (hL3p1:r.l.length≤1099511627776),iv_ranges_each_3p1 r by_ (zO by_ yx ym):=by
 intro yx
 induction yx with
 | nil =>
  intro yB ym yy yV hg3p1_vc3p1_0 hL3p1
  unfold zO
  obtain rfl:yB=r.l.length:=zY yy yV
  exact hg3p1_vc3p1_0
 | cons yq yx ih =>
  intro yB ym yy yV hg3p1_vc3p1_0 hL3p1
  have hlt3p1:=zg yy
  have hlx:=shift1_len yq by_
  unfold zO
  cases h16:(za yq by_).nl with
  | true =>
   cases h17:((za yq by_).l).isEmpty with
   | true =>
    exact ih (yB+1) ym (zj yy) (zg yy) (by omega) (by omega)
   | false =>
    exact ih (yB+1) (ym++((za yq by_).l)) (zj yy) (zg yy) (by simp only [List.length_append,List.length_cons,List.length_nil] at * <;> omega) (by omega)
  | false =>
   cases h18:((za yq by_).l).isEmpty with
   | true =>
    exact ih (yB+1) ym (zj yy) (zg yy) (by omega) (by omega)
   | false =>
    exact ih (yB+1) (ym++((za yq by_).l)) (zj yy) (zg yy) (by simp only [List.length_append,List.length_cons,List.length_nil] at * <;> omega) (by omega)
def ranges_each_3p1a_l_o1 (by_:Int) (yq:Sn):List Ora:=[.dec true,.el (.agg [I yq.lo,I yq.hi]),.pureS (.sl ((za yq by_).nl) (((za yq by_).l).map Sn.D) (zsl ((za yq by_).nl) 2) none) true []]
def ranges_each_3p1a_l_o2 (by_:Int) (yq:Sn):List Ora:=[.dec true,.el (.agg [I yq.lo,I yq.hi]),.pureS (.sl ((za yq by_).nl) (((za yq by_).l).map Sn.D) (zsl ((za yq by_).nl) 2) none) false []]
theorem lp_ranges_each_3p1a (r:GS Sn) (by_:Int):∀ (yx:List Sn) (yB:Nat) (yk:List Sn) (yy:r.l.drop yB=yx) (yV:yB≤r.l.length) (hg3p1_va3p1_0:yk.length≤yB) (hL3p1:r.l.length≤1099511627776),(lim cfg).loop 70 lp70_3 ⟨21,[(1,.fn (.func 85) [] [.lref 0 0 1 0]),(5,.lsl 1 0 yk.length 2 none),(8,.sl r.nl (r.l.map Sn.D) (zsl r.nl 2) none),(9,I ((r.l.length:Nat):Int)),(10,I ((yB:Nat):Int))],[(0,⟨[I by_],1,false⟩),(1,⟨yk.map Sn.D,2,false⟩)],2,1⟩=some (yj r by_ (yi by_ yx yk)):=by
 intro yx
 induction yx with
 | nil =>
  intro yB yk yy yV hg3p1_va3p1_0 hL3p1
  unfold yi
  obtain rfl:yB=r.l.length:=zY yy yV
  exact zR [.dec false] (Ai (lt_no yy) trivial) (by kernel_rfl)
 | cons yq yx ih =>
  intro yB yk yy yV hg3p1_va3p1_0 hL3p1
  have hlt3p1:=zg yy
  have hlx:=shift1_len yq by_
  unfold yi
  have p1:=(el_at (s:=r) (f:=Sn.D) (k:=2) yy)
  cases h19:(za yq by_).nl with
  | true =>
   have p2:=(Ai (show flat fuelD (.sl ((za yq by_).nl) (((za yq by_).l).map Sn.D) (zsl ((za yq by_).nl) 2) none)=true from (by rw [h19] <;> kernel_rfl)) (Ai (trivial) (T_ranges_Shift_1 yq by_)))
   cases h20:((za yq by_).l).isEmpty with
   | true =>
    exact zH (ks:=[1,5,8,9,10]) (st':=(sd204 r by_ yB yq yk)) ((ranges_each_3p1a_l_o1 by_ yq)++[.op (some 18) ⟨.lsl 1 0 yk.length 2 none,[],[],3⟩,.rw 19 (I ((yB+1:Nat):Int))]) (Ai (zZ (i:=yB) (by have:=zg yy; omega)) (Ai (app_none (te:=ye) (gO:=zu [(0,⟨[I by_],1,false⟩),(1,⟨yk.map Sn.D,2,false⟩),(2,⟨[.agg [I yq.lo,I yq.hi]],2,false⟩)]) (nxt:=3) (f:=Sn.D) (sz:=2) (d:=.lsl 1 0 yk.length 2 none) (za yq by_) h20 rfl) (Ai p2 (Ai p1 (Ai (lt_at yy) trivial))))) (by kernel_rfl) (by (simp only [sd204,go_sem,List.length_set,Nat.reduceAdd,Nat.reduceEqDiff,Nat.reduceLT,Nat.reduceLeDiff,bI2,zb.idsL,zb.renL,zb.snapAll,z6.idsL,z6.renL,z6.snapAll]) <;> rfl) (ih (yB+1) yk (zj yy) (zg yy) (by omega) (by omega)) (by kernel_rfl)
   | false =>
    exact zH (ks:=[1,5,8,9,10]) (st':=(sd205 r by_ yB yq yk)) ((ranges_each_3p1a_l_o1 by_ yq)++[.op (some 18) ⟨.lsl 3 0 ((yk++((za yq by_).l)).length) 2 none,[(1,none),(3,some ⟨(yk++((za yq by_).l)).map Sn.D,2,false⟩)],[1],4⟩,.rw 19 (I ((yB+1:Nat):Int))]) (Ai (zZ (i:=yB) (by have:=zg yy; omega)) (Ai (app_moreD (te:=ye) (gO:=zu [(0,⟨[I by_],1,false⟩),(1,⟨yk.map Sn.D,2,false⟩),(2,⟨[.agg [I yq.lo,I yq.hi]],2,false⟩)]) (nxt:=3) (o:=1) (v:=yk) z6 (za yq by_) h20 (by kernel_rfl) rfl (by kernel_rfl) (by decide) ⟨by simp only [ye,big] <;> (first | assumption | omega | (exact zT (by omega) (by omega)) | (exact zA (by omega)) | (exact zr (by omega)) | (exact zB (by omega)) | (exact zt (by omega)) | (exact zx _ (by omega)) | (simp only [zf] at * <;> omega) | (simp only [zq,GS.some_l,List.length_set,List.length_append,List.length_cons,List.length_nil] at * <;> first | with_reducible assumption | omega) | (simp only [zq,GS.some_l,List.length_set,List.length_append,List.length_cons,List.length_nil,zf] at * <;> first | with_reducible assumption | omega) | (simp at * <;> omega)),by simp only [big] <;> (first | assumption | omega | (exact zT (by omega) (by omega)) | (exact zA (by omega)) | (exact zr (by omega)) | (exact zB (by omega)) | (exact zt (by omega)) | (exact zx _ (by omega)) | (simp only [zf] at * <;> omega) | (simp only [zq,GS.some_l,List.length_set,List.length_append,List.length_cons,List.length_nil] at * <;> first | with_reducible assumption | omega) | (simp only [zq,GS.some_l,List.length_set,List.length_append,List.length_cons,List.length_nil,zf] at * <;> first | with_reducible assumption | omega) | (simp at * <;> omega))⟩) (Ai p2 (Ai p1 (Ai (lt_at yy) trivial))))) (by kernel_rfl) (by (simp only [sd205,go_sem,List.length_set,Nat.reduceAdd,Nat.reduceEqDiff,Nat.reduceLT,Nat.reduceLeDiff,bI2,zb.idsL,zb.renL,zb.snapAll,z6.idsL,z6.renL,z6.snapAll]) <;> rfl) (ih (yB+1) (yk++((za yq by_).l)) (zj yy) (zg yy) (by simp only [List.length_append,List.length_cons,List.length_nil] at * <;> omega) (by omega)) (by kernel_rfl)
  | false =>
   have p3:=(Ai (show flat fuelD (.sl ((za yq by_).nl) (((za yq by_).l).map Sn.D) (zsl ((za yq by_).nl) 2) none)=false from (by rw [h19] <;> kernel_rfl)) (Ai (trivial) (T_ranges_Shift_1 yq by_)))
   cases h21:((za yq by_).l).isEmpty with
   | true =>
    exact zH (ks:=[1,5,8,9,10]) (st':=(sd206 r by_ yB yq yk)) ((ranges_each_3p1a_l_o2 by_ yq)++[.op (some 18) ⟨.lsl 1 0 yk.length 2 none,[],[],3⟩,.rw 19 (I ((yB+1:Nat):Int))]) (Ai (zZ (i:=yB) (by have:=zg yy; omega)) (Ai (app_none (te:=ye) (gO:=zu [(0,⟨[I by_],1,true⟩),(1,⟨yk.map Sn.D,2,false⟩),(2,⟨[.agg [I yq.lo,I yq.hi]],2,false⟩)]) (nxt:=3) (f:=Sn.D) (sz:=2) (d:=.lsl 1 0 yk.length 2 none) (za yq by_) h21 rfl) (Ai p3 (Ai p1 (Ai (lt_at yy) trivial))))) (by kernel_rfl) (by (simp only [sd206,go_sem,List.length_set,Nat.reduceAdd,Nat.reduceEqDiff,Nat.reduceLT,Nat.reduceLeDiff,bI2,zb.idsL,zb.renL,zb.snapAll,z6.idsL,z6.renL,z6.snapAll]) <;> rfl) (lp_ranges_each_3p1c r by_ _ (yB+1) yk (zj yy) (zg yy) (by omega) (by omega)) (by kernel_rfl)
   | false =>
    exact zH (ks:=[1,5,8,9,10]) (st':=(sd207 r by_ yB yq yk)) ((ranges_each_3p1a_l_o2 by_ yq)++[.op (some 18) ⟨.lsl 3 0 ((yk++((za yq by_).l)).length) 2 none,[(1,none),(3,some ⟨(yk++((za yq by_).l)).map Sn.D,2,false⟩)],[1],4⟩,.rw 19 (I ((yB+1:Nat):Int))]) (Ai (zZ (i:=yB) (by have:=zg yy; omega)) (Ai (app_moreD (te:=ye) (gO:=zu [(0,⟨[I by_],1,true⟩),(1,⟨yk.map Sn.D,2,false⟩),(2,⟨[.agg [I yq.lo,I yq.hi]],2,false⟩)]) (nxt:=3) (o:=1) (v:=yk) z6 (za yq by_) h21 (by kernel_rfl) rfl (by kernel_rfl) (by decide) ⟨by simp only [ye,big] <;> (first | assumption | omega | (exact zT (by omega) (by omega)) | (exact zA (by omega)) | (exact zr (by omega)) | (exact zB (by omega)) | (exact zt (by omega)) | (exact zx _ (by omega)) | (simp only [zf] at * <;> omega) | (simp only [zq,GS.some_l,List.length_set,List.length_append,List.length_cons,List.length_nil] at * <;> first | with_reducible assumption | omega) | (simp only [zq,GS.some_l,List.length_set,List.length_append,List.length_cons,List.length_nil,zf] at * <;> first | with_reducible assumption | omega) | (simp at * <;> omega)),by simp only [big] <;> (first | assumption | omega | (exact zT (by omega) (by omega)) | (exact zA (by omega)) | (exact zr (by omega)) | (exact zB (by omega)) | (exact zt (by omega)) | (exact zx _ (by omega)) | (simp only [zf] at * <;> omega) | (simp only [zq,GS.some_l,List.length_set,List.length_append,List.length_cons,List.length_nil] at * <;> first | with_reducible assumption | omega) | (simp only [zq,GS.some_l,List.length_set,List.length_append,List.length_cons,List.length_nil,zf] at * <;> first | with_reducible assumption | omega) | (simp at * <;> omega))⟩) (Ai p3 (Ai p1 (Ai (lt_at yy) trivial))))) (by kernel_rfl) (by (simp only [sd207,go_sem,List.length_set,Nat.reduceAdd,Nat.reduceEqDiff,Nat.reduceLT,Nat.reduceLeDiff,bI2,zb.idsL,zb.renL,zb.snapAll,z6.idsL,z6.renL,z6.snapAll]) <;> rfl) (lp_ranges_each_3p1c r by_ _ (yB+1) (yk++((za yq by_).l)) (zj yy) (zg yy) (by simp only [List.length_append,List.length_cons,List.length_nil] at * <;> omega) (by omega)) (by kernel_rfl)
theorem ivt_ranges_each_3p1a (r:GS Sn) (by_:Int):∀ (yx:List Sn) (yB:Nat) (yk:List Sn) (yy:r.l.drop yB=yx) (yV:yB≤r.l.length) (hg3p1_va3p1_0:yk.length≤yB) (hL3p1:r.l.length≤1099511627776),iv_ranges_each_3p1 r by_ (yi by_ yx yk):=by
 intro yx
 induction yx with
 | nil =>
  intro yB yk yy yV hg3p1_va3p1_0 hL3p1
  unfold yi
  obtain rfl:yB=r.l.length:=zY yy yV
  exact hg3p1_va3p1_0
 | cons yq yx ih =>
  intro yB yk yy yV hg3p1_va3p1_0 hL3p1
  have hlt3p1:=zg yy
  have hlx:=shift1_len yq by_
  unfold yi
  cases h19:(za yq by_).nl with
  | true =>
   cases h20:((za yq by_).l).isEmpty with
   | true =>
    exact ih (yB+1) yk (zj yy) (zg yy) (by omega) (by omega)
   | false =>
    exact ih (yB+1) (yk++((za yq by_).l)) (zj yy) (zg yy) (by simp only [List.length_append,List.length_cons,List.length_nil] at * <;> omega) (by omega)
  | false =>
   cases h21:((za yq by_).l).isEmpty with
   | true =>
    exact ivt_ranges_each_3p1c r by_ _ (yB+1) yk (zj yy) (zg yy) (by omega) (by omega)
   | false =>
    exact ivt_ranges_each_3p1c r by_ _ (yB+1) (yk++((za yq by_).l)) (zj yy) (zg yy) (by simp only [List.length_append,List.length_cons,List.length_nil] at * <;> omega) (by omega)
def ranges_each_3p1b_l_o1 (by_:Int) (yq:Sn):List Ora:=[.dec true,.el (.agg [I yq.lo,I yq.hi]),.pureS (.sl ((za yq by_).nl) (((za yq by_).l).map Sn.D) (zsl ((za yq by_).nl) 2) none) true []]
def ranges_each_3p1b_l_o2 (by_:Int) (yq:Sn):List Ora:=[.dec true,.el (.agg [I yq.lo,I yq.hi]),.pureS (.sl ((za yq by_).nl) (((za yq by_).l).map Sn.D) (zsl ((za yq by_).nl) 2) none) false []]
theorem lp_ranges_each_3p1b (r:GS Sn) (by_:Int):∀ (yx:List Sn) (yB:Nat) (yy:r.l.drop yB=yx) (yV:yB≤r.l.length) (hL3p1:r.l.length≤1099511627776),(lim cfg).loop 70 lp70_3 ⟨21,[(1,.fn (.func 85) [] [.lref 0 0 1 0]),(5,.sl true [] 0 none),(8,.sl r.nl (r.l.map Sn.D) (zsl r.nl 2) none),(9,I ((r.l.length:Nat):Int)),(10,I ((yB:Nat):Int))],[(0,⟨[I by_],1,true⟩)],1,1⟩=some (yj r by_ (ranges_each_3p1b by_ yx)):=by
 intro yx
 induction yx with
 | nil =>
  intro yB yy yV hL3p1
  unfold ranges_each_3p1b
  obtain rfl:yB=r.l.length:=zY yy yV
  exact zR [.dec false] (Ai (lt_no yy) trivial) (by kernel_rfl)
 | cons yq yx ih =>
  intro yB yy yV hL3p1
  have hlt3p1:=zg yy
  have hlx:=shift1_len yq by_
  unfold ranges_each_3p1b
  have p1:=(el_at (s:=r) (f:=Sn.D) (k:=2) yy)
  cases h22:(za yq by_).nl with
  | true =>
   have p2:=(Ai (show flat fuelD (.sl ((za yq by_).nl) (((za yq by_).l).map Sn.D) (zsl ((za yq by_).nl) 2) none)=true from (by rw [h22] <;> kernel_rfl)) (Ai (trivial) (T_ranges_Shift_1 yq by_)))
   cases h23:((za yq by_).l).isEmpty with
   | true =>
    exact po_turn ((ranges_each_3p1b_l_o1 by_ yq)++[.op (some 18) ⟨.sl true [] 0 none,[],[],2⟩,.rw 19 (I ((yB+1:Nat):Int))]) (Ai (zZ (i:=yB) (by have:=zg yy; omega)) (Ai (app_none (te:=ye) (gO:=zu [(0,⟨[I by_],1,true⟩),(1,⟨[.agg [I yq.lo,I yq.hi]],2,false⟩)]) (nxt:=2) (f:=Sn.D) (sz:=2) (d:=.sl true [] 0 none) (za yq by_) h23 rfl) (Ai p2 (Ai p1 (Ai (lt_at yy) trivial))))) (ih (yB+1) (zj yy) (zg yy) (by omega)) (by kernel_rfl)
   | false =>
    exact zH (ks:=[1,5,8,9,10]) (st':=(sd208 r by_ yB yq)) ((ranges_each_3p1b_l_o1 by_ yq)++[.op (some 18) ⟨.lsl 2 0 (((za yq by_).l).length) 2 none,[(2,some ⟨((za yq by_).l).map Sn.D,2,false⟩)],[],3⟩,.rw 19 (I ((yB+1:Nat):Int))]) (Ai (zZ (i:=yB) (by have:=zg yy; omega)) (Ai (app_newD (te:=ye) (gO:=zu [(0,⟨[I by_],1,true⟩),(1,⟨[.agg [I yq.lo,I yq.hi]],2,false⟩)]) (nxt:=2) (els0:=[]) (sz0:=0) (cap0:=none) z6 (za yq by_) h23 rfl (by kernel_rfl) (by decide) ⟨by simp only [ye,big] <;> (first | assumption | omega | (exact zT (by omega) (by omega)) | (exact zA (by omega)) | (exact zr (by omega)) | (exact zB (by omega)) | (exact zt (by omega)) | (exact zx _ (by omega)) | (simp only [zf] at * <;> omega) | (simp only [zq,GS.some_l,List.length_set,List.length_append,List.length_cons,List.length_nil] at * <;> first | with_reducible assumption | omega) | (simp only [zq,GS.some_l,List.length_set,List.length_append,List.length_cons,List.length_nil,zf] at * <;> first | with_reducible assumption | omega) | (simp at * <;> omega)),by simp only [big] <;> (first | assumption | omega | (exact zT (by omega) (by omega)) | (exact zA (by omega)) | (exact zr (by omega)) | (exact zB (by omega)) | (exact zt (by omega)) | (exact zx _ (by omega)) | (simp only [zf] at * <;> omega) | (simp only [zq,GS.some_l,List.length_set,List.length_append,List.length_cons,List.length_nil] at * <;> first | with_reducible assumption | omega) | (simp only [zq,GS.some_l,List.length_set,List.length_append,List.length_cons,List.length_nil,zf] at * <;> first | with_reducible assumption | omega) | (simp at * <;> omega))⟩) (Ai p2 (Ai p1 (Ai (lt_at yy) trivial))))) (by kernel_rfl) (by (simp only [sd208,go_sem,List.length_set,Nat.reduceAdd,Nat.reduceEqDiff,Nat.reduceLT,Nat.reduceLeDiff,bI2,zb.idsL,zb.renL,zb.snapAll,z6.idsL,z6.renL,z6.snapAll]) <;> rfl) (lp_ranges_each_3p1c r by_ _ (yB+1) ((za yq by_).l) (zj yy) (zg yy) (by omega) (by omega)) (by kernel_rfl)
  | false =>
   have p3:=(Ai (show flat fuelD (.sl ((za yq by_).nl) (((za yq by_).l).map Sn.D) (zsl ((za yq by_).nl) 2) none)=false from (by rw [h22] <;> kernel_rfl)) (Ai (trivial) (T_ranges_Shift_1 yq by_)))
   cases h24:((za yq by_).l).isEmpty with
   | true =>
    exact po_turn ((ranges_each_3p1b_l_o2 by_ yq)++[.op (some 18) ⟨.sl true [] 0 none,[],[],2⟩,.rw 19 (I ((yB+1:Nat):Int))]) (Ai (zZ (i:=yB) (by have:=zg yy; omega)) (Ai (app_none (te:=ye) (gO:=zu [(0,⟨[I by_],1,true⟩),(1,⟨[.agg [I yq.lo,I yq.hi]],2,false⟩)]) (nxt:=2) (f:=Sn.D) (sz:=2) (d:=.sl true [] 0 none) (za yq by_) h24 rfl) (Ai p3 (Ai p1 (Ai (lt_at yy) trivial))))) (ih (yB+1) (zj yy) (zg yy) (by omega)) (by kernel_rfl)
   | false =>
    exact zH (ks:=[1,5,8,9,10]) (st':=(sd208 r by_ yB yq)) ((ranges_each_3p1b_l_o2 by_ yq)++[.op (some 18) ⟨.lsl 2 0 (((za yq by_).l).length) 2 none,[(2,some ⟨((za yq by_).l).map Sn.D,2,false⟩)],[],3⟩,.rw 19 (I ((yB+1:Nat):Int))]) (Ai (zZ (i:=yB) (by have:=zg yy; omega)) (Ai (app_newD (te:=ye) (gO:=zu [(0,⟨[I by_],1,true⟩),(1,⟨[.agg [I yq.lo,I yq.hi]],2,false⟩)]) (nxt:=2) (els0:=[]) (sz0:=0) (cap0:=none) z6 (za yq by_) h24 rfl (by kernel_rfl) (by decide) ⟨by simp only [ye,big] <;> (first | assumption | omega | (exact zT (by omega) (by omega)) | (exact zA (by omega)) | (exact zr (by omega)) | (exact zB (by omega)) | (exact zt (by omega)) | (exact zx _ (by omega)) | (simp only [zf] at * <;> omega) | (simp only [zq,GS.some_l,List.length_set,List.length_append,List.length_cons,List.length_nil] at * <;> first | with_reducible assumption | omega) | (simp only [zq,GS.some_l,List.length_set,List.length_append,List.length_cons,List.length_nil,zf] at * <;> first | with_reducible assumption | omega) | (simp at * <;> omega)),by simp only [big] <;> (first | assumption | omega | (exact zT (by omega) (by omega)) | (exact zA (by omega)) | (exact zr (by omega)) | (exact zB (by omega)) | (exact zt (by omega)) | (exact zx _ (by omega)) | (simp only [zf] at * <;> omega) | (simp only [zq,GS.some_l,List.length_set,List.length_append,List.length_cons,List.length_nil] at * <;> first | with_reducible assumption | omega) | (simp only [zq,GS.some_l,List.length_set,List.length_append,List.length_cons,List.length_nil,zf] at * <;> first | with_reducible assumption | omega) | (simp at * <;> omega))⟩) (Ai p3 (Ai p1 (Ai (lt_at yy) trivial))))) (by kernel_rfl) (by (simp only [sd208,go_sem,List.length_set,Nat.reduceAdd,Nat.reduceEqDiff,Nat.reduceLT,Nat.reduceLeDiff,bI2,zb.idsL,zb.renL,zb.snapAll,z6.idsL,z6.renL,z6.snapAll]) <;> rfl) (lp_ranges_each_3p1c r by_ _ (yB+1) ((za yq by_).l) (zj yy) (zg yy) (by omega) (by omega)) (by kernel_rfl)
theorem ivt_ranges_each_3p1b (r:GS Sn) (by_:Int):∀ (yx:List Sn) (yB:Nat) (yy:r.l.drop yB=yx) (yV:yB≤r.l.length) (hL3p1:r.l.length≤1099511627776),iv_ranges_each_3p1 r by_ (ranges_each_3p1b by_ yx):=by
 intro yx
 induction yx with
 | nil =>
  intro yB yy yV hL3p1
  unfold ranges_each_3p1b
  obtain rfl:yB=r.l.length:=zY yy yV
  exact trivial
 | cons yq yx ih =>
  intro yB yy yV hL3p1
  have hlt3p1:=zg yy
  have hlx:=shift1_len yq by_
  unfold ranges_each_3p1b
  cases h22:(za yq by_).nl with
  | true =>
   cases h23:((za yq by_).l).isEmpty with
   | true =>
    exact ih (yB+1) (zj yy) (zg yy) (by omega)
   | false =>
    exact ivt_ranges_each_3p1c r by_ _ (yB+1) ((za yq by_).l) (zj yy) (zg yy) (by omega) (by omega)
  | false =>
   cases h24:((za yq by_).l).isEmpty with
   | true =>
    exact ih (yB+1) (zj yy) (zg yy) (by omega)
   | false =>
    exact ivt_ranges_each_3p1c r by_ _ (yB+1) ((za yq by_).l) (zj yy) (zg yy) (by omega) (by omega)
def ranges_each_3p1_l_o1 (by_:Int) (yq:Sn):List Ora:=[.dec true,.el (.agg [I yq.lo,I yq.hi]),.pureS (.sl ((za yq by_).nl) (((za yq by_).l).map Sn.D) (zsl ((za yq by_).nl) 2) none) true []]
def ranges_each_3p1_l_o2 (by_:Int) (yq:Sn):List Ora:=[.dec true,.el (.agg [I yq.lo,I yq.hi]),.pureS (.sl ((za yq by_).nl) (((za yq by_).l).map Sn.D) (zsl ((za yq by_).nl) 2) none) false []]
theorem lp_ranges_each_3p1 (r:GS Sn) (by_:Int):∀ (yx:List Sn) (yB:Nat) (yy:r.l.drop yB=yx) (yV:yB≤r.l.length) (hL3p1:r.l.length≤1099511627776),(lim cfg).loop 70 lp70_3 ⟨21,[(1,.fn (.func 85) [] [.lref 0 0 1 0]),(5,.sl true [] 0 none),(8,.sl r.nl (r.l.map Sn.D) (zsl r.nl 2) none),(9,I ((r.l.length:Nat):Int)),(10,I ((yB:Nat):Int))],[(0,⟨[I by_],1,false⟩)],1,1⟩=some (yj r by_ (ya by_ yx)):=by
 intro yx
 induction yx with
 | nil =>
  intro yB yy yV hL3p1
  unfold ya
  obtain rfl:yB=r.l.length:=zY yy yV
  exact zR [.dec false] (Ai (lt_no yy) trivial) (by kernel_rfl)
 | cons yq yx ih =>
  intro yB yy yV hL3p1
  have hlt3p1:=zg yy
  have hlx:=shift1_len yq by_
  unfold ya
  have p1:=(el_at (s:=r) (f:=Sn.D) (k:=2) yy)
  cases h25:(za yq by_).nl with
  | true =>
   have p2:=(Ai (show flat fuelD (.sl ((za yq by_).nl) (((za yq by_).l).map Sn.D) (zsl ((za yq by_).nl) 2) none)=true from (by rw [h25] <;> kernel_rfl)) (Ai (trivial) (T_ranges_Shift_1 yq by_)))
   cases h26:((za yq by_).l).isEmpty with
   | true =>
    exact po_turn ((ranges_each_3p1_l_o1 by_ yq)++[.op (some 18) ⟨.sl true [] 0 none,[],[],2⟩,.rw 19 (I ((yB+1:Nat):Int))]) (Ai (zZ (i:=yB) (by have:=zg yy; omega)) (Ai (app_none (te:=ye) (gO:=zu [(0,⟨[I by_],1,false⟩),(1,⟨[.agg [I yq.lo,I yq.hi]],2,false⟩)]) (nxt:=2) (f:=Sn.D) (sz:=2) (d:=.sl true [] 0 none) (za yq by_) h26 rfl) (Ai p2 (Ai p1 (Ai (lt_at yy) trivial))))) (ih (yB+1) (zj yy) (zg yy) (by omega)) (by kernel_rfl)
   | false =>
    exact zH (ks:=[1,5,8,9,10]) (st':=(sd209 r by_ yB yq)) ((ranges_each_3p1_l_o1 by_ yq)++[.op (some 18) ⟨.lsl 2 0 (((za yq by_).l).length) 2 none,[(2,some ⟨((za yq by_).l).map Sn.D,2,false⟩)],[],3⟩,.rw 19 (I ((yB+1:Nat):Int))]) (Ai (zZ (i:=yB) (by have:=zg yy; omega)) (Ai (app_newD (te:=ye) (gO:=zu [(0,⟨[I by_],1,false⟩),(1,⟨[.agg [I yq.lo,I yq.hi]],2,false⟩)]) (nxt:=2) (els0:=[]) (sz0:=0) (cap0:=none) z6 (za yq by_) h26 rfl (by kernel_rfl) (by decide) ⟨by simp only [ye,big] <;> (first | assumption | omega | (exact zT (by omega) (by omega)) | (exact zA (by omega)) | (exact zr (by omega)) | (exact zB (by omega)) | (exact zt (by omega)) | (exact zx _ (by omega)) | (simp only [zf] at * <;> omega) | (simp only [zq,GS.some_l,List.length_set,List.length_append,List.length_cons,List.length_nil] at * <;> first | with_reducible assumption | omega) | (simp only [zq,GS.some_l,List.length_set,List.length_append,List.length_cons,List.length_nil,zf] at * <;> first | with_reducible assumption | omega) | (simp at * <;> omega)),by simp only [big] <;> (first | assumption | omega | (exact zT (by omega) (by omega)) | (exact zA (by omega)) | (exact zr (by omega)) | (exact zB (by omega)) | (exact zt (by omega)) | (exact zx _ (by omega)) | (simp only [zf] at * <;> omega) | (simp only [zq,GS.some_l,List.length_set,List.length_append,List.length_cons,List.length_nil] at * <;> first | with_reducible assumption | omega) | (simp only [zq,GS.some_l,List.length_set,List.length_append,List.length_cons,List.length_nil,zf] at * <;> first | with_reducible assumption | omega) | (simp at * <;> omega))⟩) (Ai p2 (Ai p1 (Ai (lt_at yy) trivial))))) (by kernel_rfl) (by (simp only [sd209,go_sem,List.length_set,Nat.reduceAdd,Nat.reduceEqDiff,Nat.reduceLT,Nat.reduceLeDiff,bI2,zb.idsL,zb.renL,zb.snapAll,z6.idsL,z6.renL,z6.snapAll]) <;> rfl) (lp_ranges_each_3p1a r by_ _ (yB+1) ((za yq by_).l) (zj yy) (zg yy) (by omega) (by omega)) (by kernel_rfl)
  | false =>
   have p3:=(Ai (show flat fuelD (.sl ((za yq by_).nl) (((za yq by_).l).map Sn.D) (zsl ((za yq by_).nl) 2) none)=false from (by rw [h25] <;> kernel_rfl)) (Ai (trivial) (T_ranges_Shift_1 yq by_)))
   cases h27:((za yq by_).l).isEmpty with
   | true =>
    exact po_turn ((ranges_each_3p1_l_o2 by_ yq)++[.op (some 18) ⟨.sl true [] 0 none,[],[],2⟩,.rw 19 (I ((yB+1:Nat):Int))]) (Ai (zZ (i:=yB) (by have:=zg yy; omega)) (Ai (app_none (te:=ye) (gO:=zu [(0,⟨[I by_],1,true⟩),(1,⟨[.agg [I yq.lo,I yq.hi]],2,false⟩)]) (nxt:=2) (f:=Sn.D) (sz:=2) (d:=.sl true [] 0 none) (za yq by_) h27 rfl) (Ai p3 (Ai p1 (Ai (lt_at yy) trivial))))) (lp_ranges_each_3p1b r by_ _ (yB+1) (zj yy) (zg yy) (by omega)) (by kernel_rfl)
   | false =>
    exact zH (ks:=[1,5,8,9,10]) (st':=(sd208 r by_ yB yq)) ((ranges_each_3p1_l_o2 by_ yq)++[.op (some 18) ⟨.lsl 2 0 (((za yq by_).l).length) 2 none,[(2,some ⟨((za yq by_).l).map Sn.D,2,false⟩)],[],3⟩,.rw 19 (I ((yB+1:Nat):Int))]) (Ai (zZ (i:=yB) (by have:=zg yy; omega)) (Ai (app_newD (te:=ye) (gO:=zu [(0,⟨[I by_],1,true⟩),(1,⟨[.agg [I yq.lo,I yq.hi]],2,false⟩)]) (nxt:=2) (els0:=[]) (sz0:=0) (cap0:=none) z6 (za yq by_) h27 rfl (by kernel_rfl) (by decide) ⟨by simp only [ye,big] <;> (first | assumption | omega | (exact zT (by omega) (by omega)) | (exact zA (by omega)) | (exact zr (by omega)) | (exact zB (by omega)) | (exact zt (by omega)) | (exact zx _ (by omega)) | (simp only [zf] at * <;> omega) | (simp only [zq,GS.some_l,List.length_set,List.length_append,List.length_cons,List.length_nil] at * <;> first | with_reducible assumption | omega) | (simp only [zq,GS.some_l,List.length_set,List.length_append,List.length_cons,List.length_nil,zf] at * <;> first | with_reducible assumption | omega) | (simp at * <;> omega)),by simp only [big] <;> (first | assumption | omega | (exact zT (by omega) (by omega)) | (exact zA (by omega)) | (exact zr (by omega)) | (exact zB (by omega)) | (exact zt (by omega)) | (exact zx _ (by omega)) | (simp only [zf] at * <;> omega) | (simp only [zq,GS.some_l,List.length_set,List.length_append,List.length_cons,List.length_nil] at * <;> first | with_reducible assumption | omega) | (simp only [zq,GS.some_l,List.length_set,List.length_append,List.length_cons,List.length_nil,zf] at * <;> first | with_reducible assumption | omega) | (simp at * <;> omega))⟩) (Ai p3 (Ai p1 (Ai (lt_at yy) trivial))))) (by kernel_rfl) (by (simp only [sd208,go_sem,List.length_set,Nat.reduceAdd,Nat.reduceEqDiff,Nat.reduceLT,Nat.reduceLeDiff,bI2,zb.idsL,zb.renL,zb.snapAll,z6.idsL,z6.renL,z6.snapAll]) <;> rfl) (lp_ranges_each_3p1c r by_ _ (yB+1) ((za yq by_).l) (zj yy) (zg yy) (by omega) (by omega)) (by kernel_rfl)
theorem ivt_ranges_each_3p1 (r:GS Sn) (by_:Int):∀ (yx:List Sn) (yB:Nat) (yy:r.l.drop yB=yx) (yV:yB≤r.l.length) (hL3p1:r.l.length≤1099511627776),iv_ranges_each_3p1 r by_ (ya by_ yx):=by
 intro yx
 induction yx with
 | nil =>
  intro yB yy yV hL3p1
  unfold ya
  obtain rfl:yB=r.l.length:=zY yy yV
  exact trivial
 | cons yq yx ih =>
  intro yB yy yV hL3p1
  have hlt3p1:=zg yy
  have hlx:=shift1_len yq by_
  unfold ya
  cases h25:(za yq by_).nl with
  | true =>
   cases h26:((za yq by_).l).isEmpty with
   | true =>
    exact ih (yB+1) (zj yy) (zg yy) (by omega)
   | false =>
    exact ivt_ranges_each_3p1a r by_ _ (yB+1) ((za yq by_).l) (zj yy) (zg yy) (by omega) (by omega)
  | false =>
   cases h27:((za yq by_).l).isEmpty with
   | true =>
    exact ivt_ranges_each_3p1b r by_ _ (yB+1) (zj yy) (zg yy) (by omega)
   | false =>
    exact ivt_ranges_each_3p1c r by_ _ (yB+1) ((za yq by_).l) (zj yy) (zg yy) (by omega) (by omega)

def zW (r:GS Sn) (by_:Int):(GS Sn) × Int :=
 bif ((zF r) != 0) then
  (GS.nil,(zF r))
 else
  bif decide (((r.l.length:Nat):Int) > 0) then
   bif (ranges_in by_ (-2199023255552) 2199023255552) then
    match ya by_ r.l with
    | .x0 ym =>
     match zw (zm zl ym) 0 with
     | .x0 yn =>
      bif decide (((yn.length:Nat):Int) > 64) then
       (GS.nil,2)
      else
       (GS.some yn,0)
     | .x1 yE yw yn =>
      (GS.nil,2)
     | .x2 yE yw yn =>
      (GS.nil,2)
     | .x3 =>
      (GS.nil,0)
     | .x4 yE yw =>
      (GS.nil,2)
     | .x5 yE yw =>
      (GS.nil,2)
    | .x1 yk =>
     match zw (zm zl yk) 0 with
     | .x0 yn =>
      bif decide (((yn.length:Nat):Int) > 64) then
       (GS.nil,2)
      else
       (GS.some yn,0)
     | .x1 yE yw yn =>
      (GS.nil,2)
     | .x2 yE yw yn =>
      (GS.nil,2)
     | .x3 =>
      (GS.nil,0)
     | .x4 yE yw =>
      (GS.nil,2)
     | .x5 yE yw =>
      (GS.nil,2)
    | .x2 =>
     (GS.nil,0)
    | .x3 =>
     (GS.nil,0)
   else
    (GS.nil,2)
  else
   match ya by_ r.l with
   | .x0 ym =>
    match zw (zm zl ym) 0 with
    | .x0 yn =>
     bif decide (((yn.length:Nat):Int) > 64) then
      (GS.nil,2)
     else
      (GS.some yn,0)
    | .x1 yE yw yn =>
     (GS.nil,2)
    | .x2 yE yw yn =>
     (GS.nil,2)
    | .x3 =>
     (GS.nil,0)
    | .x4 yE yw =>
     (GS.nil,2)
    | .x5 yE yw =>
     (GS.nil,2)
   | .x1 yk =>
    match zw (zm zl yk) 0 with
    | .x0 yn =>
     bif decide (((yn.length:Nat):Int) > 64) then
      (GS.nil,2)
     else
      (GS.some yn,0)
    | .x1 yE yw yn =>
     (GS.nil,2)
    | .x2 yE yw yn =>
     (GS.nil,2)
    | .x3 =>
     (GS.nil,0)
    | .x4 yE yw =>
     (GS.nil,2)
    | .x5 yE yw =>
     (GS.nil,2)
   | .x2 =>
    (GS.nil,0)
   | .x3 =>
    (GS.nil,0)

def y5 (r:GS Sn) (by_:Int):List Ora:=[.pure (I (zF r)),.dec false,.rw 13 (I ((r.l.length:Nat):Int)),.dec true,.pure (B (ranges_in by_ (-2199023255552) 2199023255552))]

def ranges_Shift_o2 (r:GS Sn) (by_:Int) (ym:List Sn):List Ora:=[.pure (I (zF r)),.dec false,.rw 13 (I ((r.l.length:Nat):Int)),.dec false,.inl (.lsl 1 0 ym.length 2 none) [(0,⟨[I by_],1,true⟩),(1,⟨ym.map Sn.D,2,false⟩)] 2]

def ranges_Shift_o3 (r:GS Sn) (by_:Int) (yk:List Sn):List Ora:=[.pure (I (zF r)),.dec false,.rw 13 (I ((r.l.length:Nat):Int)),.dec false,.inl (.lsl 1 0 yk.length 2 none) [(0,⟨[I by_],1,false⟩),(1,⟨yk.map Sn.D,2,false⟩)] 2]

def sd210 (r:GS Sn) (by_:Int) (ym:List Sn):St:=⟨21,[(11,B false),(1,.fn (.func 85) [] [.lref 0 0 1 0]),(5,.lsl 1 0 ym.length 2 none),(8,.sl r.nl (r.l.map Sn.D) (zsl r.nl 2) none),(9,I ((r.l.length:Nat):Int)),(10,I ((r.l.length:Nat):Int))],[(0,⟨[I by_],1,true⟩),(1,⟨ym.map Sn.D,2,false⟩)],2,1⟩

def sd212 (ym:List Sn):St:=⟨65,[(4,.sl true [] 0 none),(10,.lsl 1 0 ym.length 2 none),(11,I ((ym.length:Nat):Int)),(12,I 0)],[(1,⟨(zm zl ym).map Sn.D,2,false⟩)],2,2⟩

def sd213 (ym:List Sn) (yn:List Sn):St:=⟨65,[(13,B false),(4,.lsl 2 0 yn.length 2 none),(10,.lsl 1 0 ym.length 2 none),(11,I ((ym.length:Nat):Int)),(12,I (((zm zl ym).length:Nat):Int))],[(1,⟨(zm zl ym).map Sn.D,2,false⟩),(2,⟨yn.map Sn.D,2,false⟩)],3,2⟩

def sd211 (ym:List Sn):St:=⟨65,[(12,I 0),(11,I ((ym.length:Nat):Int)),(10,.lsl 1 0 ym.length 2 none),(4,.sl true [] 0 none),(9,.tup []),(8,.lsl 1 0 ym.length 2 none),(3,I 0),(2,.sl true [] 0 none),(0,.lsl 1 0 ym.length 2 none)],[(1,⟨(zm zl ym).map Sn.D,2,false⟩)],2,2⟩

def sd214 (ym:List Sn) (yn:List Sn) (yE:Nat) (yw:Sn):St:=⟨65,[(3,I 2),(2,.sl true [] 0 none),(25,B true),(24,B true),(23,B false),(22,I yw.hi),(21,.lref 3 0 2 1),(20,B false),(19,B false),(18,B true),(17,I yw.lo),(16,.lref 3 0 2 0),(6,.lref 3 0 2 0),(15,.agg [I yw.lo,I yw.hi]),(14,.lref 1 yE 2 0),(13,B true),(4,.lsl 2 0 yn.length 2 none),(10,.lsl 1 0 ym.length 2 none),(11,I ((ym.length:Nat):Int)),(12,I ((yE:Nat):Int))],[(1,⟨(zm zl ym).map Sn.D,2,false⟩),(2,⟨yn.map Sn.D,2,false⟩),(3,⟨[.agg [I yw.lo,I yw.hi]],2,false⟩)],4,2⟩

def sd215 (ym:List Sn) (yn:List Sn) (yE:Nat) (yw:Sn):St:=⟨65,[(3,I 2),(2,.sl true [] 0 none),(25,B true),(24,.tup []),(23,.tup []),(22,.tup []),(21,.tup []),(20,B true),(19,B true),(18,B false),(17,I yw.lo),(16,.lref 3 0 2 0),(6,.lref 3 0 2 0),(15,.agg [I yw.lo,I yw.hi]),(14,.lref 1 yE 2 0),(13,B true),(4,.lsl 2 0 yn.length 2 none),(10,.lsl 1 0 ym.length 2 none),(11,I ((ym.length:Nat):Int)),(12,I ((yE:Nat):Int))],[(1,⟨(zm zl ym).map Sn.D,2,false⟩),(2,⟨yn.map Sn.D,2,false⟩),(3,⟨[.agg [I yw.lo,I yw.hi]],2,false⟩)],4,2⟩

def sd216 (ym:List Sn):St:=⟨65,[(13,B false),(4,.sl true [] 0 none),(10,.lsl 1 0 ym.length 2 none),(11,I ((ym.length:Nat):Int)),(12,I (((zm zl ym).length:Nat):Int))],[(1,⟨(zm zl ym).map Sn.D,2,false⟩)],2,2⟩

def sd217 (ym:List Sn) (yE:Nat) (yw:Sn):St:=⟨65,[(3,I 2),(2,.sl true [] 0 none),(25,B true),(24,B true),(23,B false),(22,I yw.hi),(21,.lref 2 0 2 1),(20,B false),(19,B false),(18,B true),(17,I yw.lo),(16,.lref 2 0 2 0),(6,.lref 2 0 2 0),(15,.agg [I yw.lo,I yw.hi]),(14,.lref 1 yE 2 0),(13,B true),(4,.sl true [] 0 none),(10,.lsl 1 0 ym.length 2 none),(11,I ((ym.length:Nat):Int)),(12,I ((yE:Nat):Int))],[(1,⟨(zm zl ym).map Sn.D,2,false⟩),(2,⟨[.agg [I yw.lo,I yw.hi]],2,false⟩)],3,2⟩

def sd218 (ym:List Sn) (yE:Nat) (yw:Sn):St:=⟨65,[(3,I 2),(2,.sl true [] 0 none),(25,B true),(24,.tup []),(23,.tup []),(22,.tup []),(21,.tup []),(20,B true),(19,B true),(18,B false),(17,I yw.lo),(16,.lref 2 0 2 0),(6,.lref 2 0 2 0),(15,.agg [I yw.lo,I yw.hi]),(14,.lref 1 yE 2 0),(13,B true),(4,.sl true [] 0 none),(10,.lsl 1 0 ym.length 2 none),(11,I ((ym.length:Nat):Int)),(12,I ((yE:Nat):Int))],[(1,⟨(zm zl ym).map Sn.D,2,false⟩),(2,⟨[.agg [I yw.lo,I yw.hi]],2,false⟩)],3,2⟩

def sd219 (r:GS Sn) (by_:Int) (yk:List Sn):St:=⟨21,[(11,B false),(1,.fn (.func 85) [] [.lref 0 0 1 0]),(5,.lsl 1 0 yk.length 2 none),(8,.sl r.nl (r.l.map Sn.D) (zsl r.nl 2) none),(9,I ((r.l.length:Nat):Int)),(10,I ((r.l.length:Nat):Int))],[(0,⟨[I by_],1,false⟩),(1,⟨yk.map Sn.D,2,false⟩)],2,1⟩

def sd220 (r:GS Sn) (by_:Int):St:=⟨21,[(11,B false),(1,.fn (.func 85) [] [.lref 0 0 1 0]),(5,.sl true [] 0 none),(8,.sl r.nl (r.l.map Sn.D) (zsl r.nl 2) none),(9,I ((r.l.length:Nat):Int)),(10,I ((r.l.length:Nat):Int))],[(0,⟨[I by_],1,true⟩)],1,1⟩

def sd221 (r:GS Sn) (by_:Int):St:=⟨21,[(11,B false),(1,.fn (.func 85) [] [.lref 0 0 1 0]),(5,.sl true [] 0 none),(8,.sl r.nl (r.l.map Sn.D) (zsl r.nl 2) none),(9,I ((r.l.length:Nat):Int)),(10,I ((r.l.length:Nat):Int))],[(0,⟨[I by_],1,false⟩)],1,1⟩

theorem T_ranges_Shift (r:GS Sn) (by_:Int) (hLr:r.l.length≤9223372036854775807) (hL_r:r.l.length≤9223372036854775807):(lim cfg).pure 26 [GS.D Sn.D 2 r,I by_]=some (.tup [GS.D Sn.D 2 ((zW r by_).1),I ((zW r by_).2)]):=by
 unfold zW
 cases h1:((zF r) != 0) with
 | true =>
  have g1:=bne_true h1
  exact zo [.pure (I (zF r)),.dec true] (Ai h1 (Ai (zv r (by omega)) trivial)) (by kernel_rfl)
 | false =>
  have g1:=check1_len (bne_false h1)
  cases h2:decide (((r.l.length:Nat):Int) > 0) with
  | true =>
   have g2:=of_decide_eq_true h2
   have p1:=(T_ranges_in by_ (-2199023255552) 2199023255552)
   cases h3:(ranges_in by_ (-2199023255552) 2199023255552) with
   | true =>
    cases h28:ya by_ r.l with
    | x0 ym =>
     try dsimp only
     have hv_h28:=ivt_ranges_each_3p1 r by_ r.l 0 (List.drop_zero) (Nat.zero_le _) (by omega)
     rw [h28] at hv_h28
     have hv_h28_0:=hv_h28
     try dsimp only [iv_ranges_each_3p1] at hv_h28_0
     have p2:=(show (lim cfg).inl 70 [.sl r.nl (r.l.map Sn.D) (zsl r.nl 2) none,.fn (.func 85) [] [.lref 0 0 1 0]] [(0,⟨[I by_],1,false⟩)] 1=some (.lsl 1 0 ym.length 2 none,[(0,⟨[I by_],1,true⟩),(1,⟨ym.map Sn.D,2,false⟩)],2) from zX [.rw 9 (I ((r.l.length:Nat):Int)),.loop (.exit 0) (sd210 r by_ ym)] (Ai (zU (q:=yj r by_) (lp_ranges_each_3p1 r by_ r.l 0 (List.drop_zero) (Nat.zero_le _) (by omega)) h28) (Ai (zi Sn.D r) trivial)) (by kernel_rfl))
     cases h29:zw (zm zl ym) 0 with
     | x0 yn =>
      try dsimp only
      have hv_h29:=zz ym (zm zl ym) (zm zl ym) 0 (List.drop_zero) (Nat.zero_le _) (by simp only [zq,GS.some_l,List.length_set,List.length_append,List.length_cons,List.length_nil] at * <;> first | with_reducible assumption | omega) (by simp only [zq,GS.some_l,List.length_set,List.length_append,List.length_cons,List.length_nil] at * <;> first | with_reducible assumption | omega)
      rw [h29] at hv_h29
      obtain ⟨hv_h29_0,hv_h29_1⟩:=hv_h29
      try dsimp only [zk] at hv_h29_0
      try dsimp only [zk] at hv_h29_1
      cases h30:decide (((yn.length:Nat):Int) > 64) with
      | true =>
       have g30:=of_decide_eq_true h30
       exact zo ((y5 r by_)++[.dec true,.inl (.lsl 1 0 ym.length 2 none) [(0,⟨[I by_],1,true⟩),(1,⟨ym.map Sn.D,2,false⟩)] 2,.inlS [1] (.tup [.sl true [] 0 none,I 2]) [(1,⟨(zm zl ym).map Sn.D,2,false⟩),(2,⟨yn.map Sn.D,2,false⟩)] 3]) (Ai (Ai (show ze [(0,⟨[I by_],1,true⟩),(1,⟨ym.map Sn.D,2,false⟩)] 256 [1] []=some [1] from (by (simp only [ze,go_sem,List.length_set,Nat.reduceAdd,Nat.reduceEqDiff,Nat.reduceLT,Nat.reduceLeDiff,bI2,zb.idsL,zb.renL,zb.snapAll,z6.idsL,z6.renL,z6.snapAll]) <;> rfl)) (show (lim cfg).inl 69 [.lsl 1 0 ym.length 2 none] [(1,⟨ym.map Sn.D,2,false⟩)] 2=some (.tup [.sl true [] 0 none,I 2],[(1,⟨(zm zl ym).map Sn.D,2,false⟩),(2,⟨yn.map Sn.D,2,false⟩)],3) from zX [.inlS [1] (.tup []) [(1,⟨(zm zl ym).map Sn.D,2,false⟩)] 2,.gloop (sd212 ym) (.exit 0) (sd213 ym yn),.dec true] (Ai h30 (Ai (zU (q:=zh ym (zm zl ym)) (lp_ranges_gathered_4p1 ym (zm zl ym) (zm zl ym) 0 (List.drop_zero) (Nat.zero_le _) (by simp only [zq,GS.some_l,List.length_set,List.length_append,List.length_cons,List.length_nil] at * <;> first | with_reducible assumption | omega) (by simp only [zq,GS.some_l,List.length_set,List.length_append,List.length_cons,List.length_nil] at * <;> first | with_reducible assumption | omega)) h29) (Ai (gc_of (C:=cfg) (f:=69) (a:=lp69_4) (ks:=[4,10,11,12]) (st:=(sd211 ym)) (st1:=(sd212 ym)) (by kernel_rfl) (by (simp only [sd211,sd212,go_sem,List.length_set,Nat.reduceAdd,Nat.reduceEqDiff,Nat.reduceLT,Nat.reduceLeDiff,bI2,zb.idsL,zb.renL,zb.snapAll,z6.idsL,z6.renL,z6.snapAll]) <;> rfl)) (Ai (Ai (show ze [(1,⟨ym.map Sn.D,2,false⟩)] 256 [1] []=some [1] from (by (simp only [ze,go_sem,List.length_set,Nat.reduceAdd,Nat.reduceEqDiff,Nat.reduceLT,Nat.reduceLeDiff,bI2,zb.idsL,zb.renL,zb.snapAll,z6.idsL,z6.renL,z6.snapAll]) <;> rfl)) (T_sort 1 2 none ym (by omega))) trivial)))) (by kernel_rfl))) (Ai p2 (Ai h3 (Ai p1 (Ai h2 (Ai (zi Sn.D r) (Ai h1 (Ai (zv r (by omega)) trivial)))))))) (by kernel_rfl)
      | false =>
       have g30:=of_decide_eq_false h30
       exact po_pureS ((y5 r by_)++[.dec true,.inl (.lsl 1 0 ym.length 2 none) [(0,⟨[I by_],1,true⟩),(1,⟨ym.map Sn.D,2,false⟩)] 2,.inlS [1] (.tup [.lsl 2 0 yn.length 2 none,I 0]) [(1,⟨(zm zl ym).map Sn.D,2,false⟩),(2,⟨yn.map Sn.D,2,false⟩)] 3]) [(2,.sl false (yn.map Sn.D) 2 none,[2])] (Ai (snap_row (gO:=zu [(0,⟨[I by_],1,true⟩),(1,⟨(zm zl ym).map Sn.D,2,false⟩),(2,⟨yn.map Sn.D,2,false⟩)]) (o:=2) (len:=yn.length) (cap:=none) (fz:=false) z6 yn (by kernel_rfl) (by omega)) (Ai (Ai (show ze [(0,⟨[I by_],1,true⟩),(1,⟨ym.map Sn.D,2,false⟩)] 256 [1] []=some [1] from (by (simp only [ze,go_sem,List.length_set,Nat.reduceAdd,Nat.reduceEqDiff,Nat.reduceLT,Nat.reduceLeDiff,bI2,zb.idsL,zb.renL,zb.snapAll,z6.idsL,z6.renL,z6.snapAll]) <;> rfl)) (show (lim cfg).inl 69 [.lsl 1 0 ym.length 2 none] [(1,⟨ym.map Sn.D,2,false⟩)] 2=some (.tup [.lsl 2 0 yn.length 2 none,I 0],[(1,⟨(zm zl ym).map Sn.D,2,false⟩),(2,⟨yn.map Sn.D,2,false⟩)],3) from zX [.inlS [1] (.tup []) [(1,⟨(zm zl ym).map Sn.D,2,false⟩)] 2,.gloop (sd212 ym) (.exit 0) (sd213 ym yn),.dec false] (Ai h30 (Ai (zU (q:=zh ym (zm zl ym)) (lp_ranges_gathered_4p1 ym (zm zl ym) (zm zl ym) 0 (List.drop_zero) (Nat.zero_le _) (by simp only [zq,GS.some_l,List.length_set,List.length_append,List.length_cons,List.length_nil] at * <;> first | with_reducible assumption | omega) (by simp only [zq,GS.some_l,List.length_set,List.length_append,List.length_cons,List.length_nil] at * <;> first | with_reducible assumption | omega)) h29) (Ai (gc_of (C:=cfg) (f:=69) (a:=lp69_4) (ks:=[4,10,11,12]) (st:=(sd211 ym)) (st1:=(sd212 ym)) (by kernel_rfl) (by (simp only [sd211,sd212,go_sem,List.length_set,Nat.reduceAdd,Nat.reduceEqDiff,Nat.reduceLT,Nat.reduceLeDiff,bI2,zb.idsL,zb.renL,zb.snapAll,z6.idsL,z6.renL,z6.snapAll]) <;> rfl)) (Ai (Ai (show ze [(1,⟨ym.map Sn.D,2,false⟩)] 256 [1] []=some [1] from (by (simp only [ze,go_sem,List.length_set,Nat.reduceAdd,Nat.reduceEqDiff,Nat.reduceLT,Nat.reduceLeDiff,bI2,zb.idsL,zb.renL,zb.snapAll,z6.idsL,z6.renL,z6.snapAll]) <;> rfl)) (T_sort 1 2 none ym (by omega))) trivial)))) (by kernel_rfl))) (Ai p2 (Ai h3 (Ai p1 (Ai h2 (Ai (zi Sn.D r) (Ai h1 (Ai (zv r (by omega)) trivial))))))))) (by kernel_rfl)
     | x1 yE yw yn =>
      try dsimp only
      have hv_h29:=zz ym (zm zl ym) (zm zl ym) 0 (List.drop_zero) (Nat.zero_le _) (by simp only [zq,GS.some_l,List.length_set,List.length_append,List.length_cons,List.length_nil] at * <;> first | with_reducible assumption | omega) (by simp only [zq,GS.some_l,List.length_set,List.length_append,List.length_cons,List.length_nil] at * <;> first | with_reducible assumption | omega)
      rw [h29] at hv_h29
      obtain ⟨hv_h29_0,hv_h29_1⟩:=hv_h29
      try dsimp only [zk] at hv_h29_0
      try dsimp only [zk] at hv_h29_1
      exact zo ((y5 r by_)++[.dec true,.inl (.lsl 1 0 ym.length 2 none) [(0,⟨[I by_],1,true⟩),(1,⟨ym.map Sn.D,2,false⟩)] 2,.inlS [1] (.tup [.sl true [] 0 none,I 2]) [(1,⟨(zm zl ym).map Sn.D,2,false⟩),(2,⟨yn.map Sn.D,2,false⟩),(3,⟨[.agg [I yw.lo,I yw.hi]],2,false⟩)] 4]) (Ai (Ai (show ze [(0,⟨[I by_],1,true⟩),(1,⟨ym.map Sn.D,2,false⟩)] 256 [1] []=some [1] from (by (simp only [ze,go_sem,List.length_set,Nat.reduceAdd,Nat.reduceEqDiff,Nat.reduceLT,Nat.reduceLeDiff,bI2,zb.idsL,zb.renL,zb.snapAll,z6.idsL,z6.renL,z6.snapAll]) <;> rfl)) (show (lim cfg).inl 69 [.lsl 1 0 ym.length 2 none] [(1,⟨ym.map Sn.D,2,false⟩)] 2=some (.tup [.sl true [] 0 none,I 2],[(1,⟨(zm zl ym).map Sn.D,2,false⟩),(2,⟨yn.map Sn.D,2,false⟩),(3,⟨[.agg [I yw.lo,I yw.hi]],2,false⟩)],4) from zX [.inlS [1] (.tup []) [(1,⟨(zm zl ym).map Sn.D,2,false⟩)] 2,.gloop (sd212 ym) .ret (sd214 ym yn yE yw)] (Ai (zU (q:=zh ym (zm zl ym)) (lp_ranges_gathered_4p1 ym (zm zl ym) (zm zl ym) 0 (List.drop_zero) (Nat.zero_le _) (by simp only [zq,GS.some_l,List.length_set,List.length_append,List.length_cons,List.length_nil] at * <;> first | with_reducible assumption | omega) (by simp only [zq,GS.some_l,List.length_set,List.length_append,List.length_cons,List.length_nil] at * <;> first | with_reducible assumption | omega)) h29) (Ai (gc_of (C:=cfg) (f:=69) (a:=lp69_4) (ks:=[4,10,11,12]) (st:=(sd211 ym)) (st1:=(sd212 ym)) (by kernel_rfl) (by (simp only [sd211,sd212,go_sem,List.length_set,Nat.reduceAdd,Nat.reduceEqDiff,Nat.reduceLT,Nat.reduceLeDiff,bI2,zb.idsL,zb.renL,zb.snapAll,z6.idsL,z6.renL,z6.snapAll]) <;> rfl)) (Ai (Ai (show ze [(1,⟨ym.map Sn.D,2,false⟩)] 256 [1] []=some [1] from (by (simp only [ze,go_sem,List.length_set,Nat.reduceAdd,Nat.reduceEqDiff,Nat.reduceLT,Nat.reduceLeDiff,bI2,zb.idsL,zb.renL,zb.snapAll,z6.idsL,z6.renL,z6.snapAll]) <;> rfl)) (T_sort 1 2 none ym (by omega))) trivial))) (by kernel_rfl))) (Ai p2 (Ai h3 (Ai p1 (Ai h2 (Ai (zi Sn.D r) (Ai h1 (Ai (zv r (by omega)) trivial)))))))) (by kernel_rfl)
     | x2 yE yw yn =>
      try dsimp only
      have hv_h29:=zz ym (zm zl ym) (zm zl ym) 0 (List.drop_zero) (Nat.zero_le _) (by simp only [zq,GS.some_l,List.length_set,List.length_append,List.length_cons,List.length_nil] at * <;> first | with_reducible assumption | omega) (by simp only [zq,GS.some_l,List.length_set,List.length_append,List.length_cons,List.length_nil] at * <;> first | with_reducible assumption | omega)
      rw [h29] at hv_h29
      obtain ⟨hv_h29_0,hv_h29_1⟩:=hv_h29
      try dsimp only [zk] at hv_h29_0
      try dsimp only [zk] at hv_h29_1
      exact zo ((y5 r by_)++[.dec true,.inl (.lsl 1 0 ym.length 2 none) [(0,⟨[I by_],1,true⟩),(1,⟨ym.map Sn.D,2,false⟩)] 2,.inlS [1] (.tup [.sl true [] 0 none,I 2]) [(1,⟨(zm zl ym).map Sn.D,2,false⟩),(2,⟨yn.map Sn.D,2,false⟩),(3,⟨[.agg [I yw.lo,I yw.hi]],2,false⟩)] 4]) (Ai (Ai (show ze [(0,⟨[I by_],1,true⟩),(1,⟨ym.map Sn.D,2,false⟩)] 256 [1] []=some [1] from (by (simp only [ze,go_sem,List.length_set,Nat.reduceAdd,Nat.reduceEqDiff,Nat.reduceLT,Nat.reduceLeDiff,bI2,zb.idsL,zb.renL,zb.snapAll,z6.idsL,z6.renL,z6.snapAll]) <;> rfl)) (show (lim cfg).inl 69 [.lsl 1 0 ym.length 2 none] [(1,⟨ym.map Sn.D,2,false⟩)] 2=some (.tup [.sl true [] 0 none,I 2],[(1,⟨(zm zl ym).map Sn.D,2,false⟩),(2,⟨yn.map Sn.D,2,false⟩),(3,⟨[.agg [I yw.lo,I yw.hi]],2,false⟩)],4) from zX [.inlS [1] (.tup []) [(1,⟨(zm zl ym).map Sn.D,2,false⟩)] 2,.gloop (sd212 ym) .ret (sd215 ym yn yE yw)] (Ai (zU (q:=zh ym (zm zl ym)) (lp_ranges_gathered_4p1 ym (zm zl ym) (zm zl ym) 0 (List.drop_zero) (Nat.zero_le _) (by simp only [zq,GS.some_l,List.length_set,List.length_append,List.length_cons,List.length_nil] at * <;> first | with_reducible assumption | omega) (by simp only [zq,GS.some_l,List.length_set,List.length_append,List.length_cons,List.length_nil] at * <;> first | with_reducible assumption | omega)) h29) (Ai (gc_of (C:=cfg) (f:=69) (a:=lp69_4) (ks:=[4,10,11,12]) (st:=(sd211 ym)) (st1:=(sd212 ym)) (by kernel_rfl) (by (simp only [sd211,sd212,go_sem,List.length_set,Nat.reduceAdd,Nat.reduceEqDiff,Nat.reduceLT,Nat.reduceLeDiff,bI2,zb.idsL,zb.renL,zb.snapAll,z6.idsL,z6.renL,z6.snapAll]) <;> rfl)) (Ai (Ai (show ze [(1,⟨ym.map Sn.D,2,false⟩)] 256 [1] []=some [1] from (by (simp only [ze,go_sem,List.length_set,Nat.reduceAdd,Nat.reduceEqDiff,Nat.reduceLT,Nat.reduceLeDiff,bI2,zb.idsL,zb.renL,zb.snapAll,z6.idsL,z6.renL,z6.snapAll]) <;> rfl)) (T_sort 1 2 none ym (by omega))) trivial))) (by kernel_rfl))) (Ai p2 (Ai h3 (Ai p1 (Ai h2 (Ai (zi Sn.D r) (Ai h1 (Ai (zv r (by omega)) trivial)))))))) (by kernel_rfl)
     | x3 =>
      try dsimp only
      exact zo ((y5 r by_)++[.dec true,.inl (.lsl 1 0 ym.length 2 none) [(0,⟨[I by_],1,true⟩),(1,⟨ym.map Sn.D,2,false⟩)] 2,.inlS [1] (.tup [.sl true [] 0 none,I 0]) [(1,⟨(zm zl ym).map Sn.D,2,false⟩)] 2]) (Ai (Ai (show ze [(0,⟨[I by_],1,true⟩),(1,⟨ym.map Sn.D,2,false⟩)] 256 [1] []=some [1] from (by (simp only [ze,go_sem,List.length_set,Nat.reduceAdd,Nat.reduceEqDiff,Nat.reduceLT,Nat.reduceLeDiff,bI2,zb.idsL,zb.renL,zb.snapAll,z6.idsL,z6.renL,z6.snapAll]) <;> rfl)) (show (lim cfg).inl 69 [.lsl 1 0 ym.length 2 none] [(1,⟨ym.map Sn.D,2,false⟩)] 2=some (.tup [.sl true [] 0 none,I 0],[(1,⟨(zm zl ym).map Sn.D,2,false⟩)],2) from zX [.inlS [1] (.tup []) [(1,⟨(zm zl ym).map Sn.D,2,false⟩)] 2,.gloop (sd212 ym) (.exit 0) (sd216 ym),.dec false] (Ai (Eq.refl false) (Ai (zU (q:=zh ym (zm zl ym)) (lp_ranges_gathered_4p1 ym (zm zl ym) (zm zl ym) 0 (List.drop_zero) (Nat.zero_le _) (by simp only [zq,GS.some_l,List.length_set,List.length_append,List.length_cons,List.length_nil] at * <;> first | with_reducible assumption | omega) (by simp only [zq,GS.some_l,List.length_set,List.length_append,List.length_cons,List.length_nil] at * <;> first | with_reducible assumption | omega)) h29) (Ai (gc_of (C:=cfg) (f:=69) (a:=lp69_4) (ks:=[4,10,11,12]) (st:=(sd211 ym)) (st1:=(sd212 ym)) (by kernel_rfl) (by (simp only [sd211,sd212,go_sem,List.length_set,Nat.reduceAdd,Nat.reduceEqDiff,Nat.reduceLT,Nat.reduceLeDiff,bI2,zb.idsL,zb.renL,zb.snapAll,z6.idsL,z6.renL,z6.snapAll]) <;> rfl)) (Ai (Ai (show ze [(1,⟨ym.map Sn.D,2,false⟩)] 256 [1] []=some [1] from (by (simp only [ze,go_sem,List.length_set,Nat.reduceAdd,Nat.reduceEqDiff,Nat.reduceLT,Nat.reduceLeDiff,bI2,zb.idsL,zb.renL,zb.snapAll,z6.idsL,z6.renL,z6.snapAll]) <;> rfl)) (T_sort 1 2 none ym (by omega))) trivial)))) (by kernel_rfl))) (Ai p2 (Ai h3 (Ai p1 (Ai h2 (Ai (zi Sn.D r) (Ai h1 (Ai (zv r (by omega)) trivial)))))))) (by kernel_rfl)
     | x4 yE yw =>
      try dsimp only
      exact zo ((y5 r by_)++[.dec true,.inl (.lsl 1 0 ym.length 2 none) [(0,⟨[I by_],1,true⟩),(1,⟨ym.map Sn.D,2,false⟩)] 2,.inlS [1] (.tup [.sl true [] 0 none,I 2]) [(1,⟨(zm zl ym).map Sn.D,2,false⟩),(2,⟨[.agg [I yw.lo,I yw.hi]],2,false⟩)] 3]) (Ai (Ai (show ze [(0,⟨[I by_],1,true⟩),(1,⟨ym.map Sn.D,2,false⟩)] 256 [1] []=some [1] from (by (simp only [ze,go_sem,List.length_set,Nat.reduceAdd,Nat.reduceEqDiff,Nat.reduceLT,Nat.reduceLeDiff,bI2,zb.idsL,zb.renL,zb.snapAll,z6.idsL,z6.renL,z6.snapAll]) <;> rfl)) (show (lim cfg).inl 69 [.lsl 1 0 ym.length 2 none] [(1,⟨ym.map Sn.D,2,false⟩)] 2=some (.tup [.sl true [] 0 none,I 2],[(1,⟨(zm zl ym).map Sn.D,2,false⟩),(2,⟨[.agg [I yw.lo,I yw.hi]],2,false⟩)],3) from zX [.inlS [1] (.tup []) [(1,⟨(zm zl ym).map Sn.D,2,false⟩)] 2,.gloop (sd212 ym) .ret (sd217 ym yE yw)] (Ai (zU (q:=zh ym (zm zl ym)) (lp_ranges_gathered_4p1 ym (zm zl ym) (zm zl ym) 0 (List.drop_zero) (Nat.zero_le _) (by simp only [zq,GS.some_l,List.length_set,List.length_append,List.length_cons,List.length_nil] at * <;> first | with_reducible assumption | omega) (by simp only [zq,GS.some_l,List.length_set,List.length_append,List.length_cons,List.length_nil] at * <;> first | with_reducible assumption | omega)) h29) (Ai (gc_of (C:=cfg) (f:=69) (a:=lp69_4) (ks:=[4,10,11,12]) (st:=(sd211 ym)) (st1:=(sd212 ym)) (by kernel_rfl) (by (simp only [sd211,sd212,go_sem,List.length_set,Nat.reduceAdd,Nat.reduceEqDiff,Nat.reduceLT,Nat.reduceLeDiff,bI2,zb.idsL,zb.renL,zb.snapAll,z6.idsL,z6.renL,z6.snapAll]) <;> rfl)) (Ai (Ai (show ze [(1,⟨ym.map Sn.D,2,false⟩)] 256 [1] []=some [1] from (by (simp only [ze,go_sem,List.length_set,Nat.reduceAdd,Nat.reduceEqDiff,Nat.reduceLT,Nat.reduceLeDiff,bI2,zb.idsL,zb.renL,zb.snapAll,z6.idsL,z6.renL,z6.snapAll]) <;> rfl)) (T_sort 1 2 none ym (by omega))) trivial))) (by kernel_rfl))) (Ai p2 (Ai h3 (Ai p1 (Ai h2 (Ai (zi Sn.D r) (Ai h1 (Ai (zv r (by omega)) trivial)))))))) (by kernel_rfl)
     | x5 yE yw =>
      try dsimp only
      exact zo ((y5 r by_)++[.dec true,.inl (.lsl 1 0 ym.length 2 none) [(0,⟨[I by_],1,true⟩),(1,⟨ym.map Sn.D,2,false⟩)] 2,.inlS [1] (.tup [.sl true [] 0 none,I 2]) [(1,⟨(zm zl ym).map Sn.D,2,false⟩),(2,⟨[.agg [I yw.lo,I yw.hi]],2,false⟩)] 3]) (Ai (Ai (show ze [(0,⟨[I by_],1,true⟩),(1,⟨ym.map Sn.D,2,false⟩)] 256 [1] []=some [1] from (by (simp only [ze,go_sem,List.length_set,Nat.reduceAdd,Nat.reduceEqDiff,Nat.reduceLT,Nat.reduceLeDiff,bI2,zb.idsL,zb.renL,zb.snapAll,z6.idsL,z6.renL,z6.snapAll]) <;> rfl)) (show (lim cfg).inl 69 [.lsl 1 0 ym.length 2 none] [(1,⟨ym.map Sn.D,2,false⟩)] 2=some (.tup [.sl true [] 0 none,I 2],[(1,⟨(zm zl ym).map Sn.D,2,false⟩),(2,⟨[.agg [I yw.lo,I yw.hi]],2,false⟩)],3) from zX [.inlS [1] (.tup []) [(1,⟨(zm zl ym).map Sn.D,2,false⟩)] 2,.gloop (sd212 ym) .ret (sd218 ym yE yw)] (Ai (zU (q:=zh ym (zm zl ym)) (lp_ranges_gathered_4p1 ym (zm zl ym) (zm zl ym) 0 (List.drop_zero) (Nat.zero_le _) (by simp only [zq,GS.some_l,List.length_set,List.length_append,List.length_cons,List.length_nil] at * <;> first | with_reducible assumption | omega) (by simp only [zq,GS.some_l,List.length_set,List.length_append,List.length_cons,List.length_nil] at * <;> first | with_reducible assumption | omega)) h29) (Ai (gc_of (C:=cfg) (f:=69) (a:=lp69_4) (ks:=[4,10,11,12]) (st:=(sd211 ym)) (st1:=(sd212 ym)) (by kernel_rfl) (by (simp only [sd211,sd212,go_sem,List.length_set,Nat.reduceAdd,Nat.reduceEqDiff,Nat.reduceLT,Nat.reduceLeDiff,bI2,zb.idsL,zb.renL,zb.snapAll,z6.idsL,z6.renL,z6.snapAll]) <;> rfl)) (Ai (Ai (show ze [(1,⟨ym.map Sn.D,2,false⟩)] 256 [1] []=some [1] from (by (simp only [ze,go_sem,List.length_set,Nat.reduceAdd,Nat.reduceEqDiff,Nat.reduceLT,Nat.reduceLeDiff,bI2,zb.idsL,zb.renL,zb.snapAll,z6.idsL,z6.renL,z6.snapAll]) <;> rfl)) (T_sort 1 2 none ym (by omega))) trivial))) (by kernel_rfl))) (Ai p2 (Ai h3 (Ai p1 (Ai h2 (Ai (zi Sn.D r) (Ai h1 (Ai (zv r (by omega)) trivial)))))))) (by kernel_rfl)
    | x1 yk =>
     try dsimp only
     have hv_h28:=ivt_ranges_each_3p1 r by_ r.l 0 (List.drop_zero) (Nat.zero_le _) (by omega)
     rw [h28] at hv_h28
     have hv_h28_0:=hv_h28
     try dsimp only [iv_ranges_each_3p1] at hv_h28_0
     have p3:=(show (lim cfg).inl 70 [.sl r.nl (r.l.map Sn.D) (zsl r.nl 2) none,.fn (.func 85) [] [.lref 0 0 1 0]] [(0,⟨[I by_],1,false⟩)] 1=some (.lsl 1 0 yk.length 2 none,[(0,⟨[I by_],1,false⟩),(1,⟨yk.map Sn.D,2,false⟩)],2) from zX [.rw 9 (I ((r.l.length:Nat):Int)),.loop (.exit 0) (sd219 r by_ yk)] (Ai (zU (q:=yj r by_) (lp_ranges_each_3p1 r by_ r.l 0 (List.drop_zero) (Nat.zero_le _) (by omega)) h28) (Ai (zi Sn.D r) trivial)) (by kernel_rfl))
     cases h31:zw (zm zl yk) 0 with
     | x0 yn =>
      try dsimp only
      have xn:=zz yk (zm zl yk) (zm zl yk) 0 (List.drop_zero) (Nat.zero_le _) (by simp only [zq,GS.some_l,List.length_set,List.length_append,List.length_cons,List.length_nil] at * <;> first | with_reducible assumption | omega) (by simp only [zq,GS.some_l,List.length_set,List.length_append,List.length_cons,List.length_nil] at * <;> first | with_reducible assumption | omega)
      rw [h31] at xn
      obtain ⟨xf,xg⟩:=xn
      try dsimp only [zk] at xf
      try dsimp only [zk] at xg
      cases h32:decide (((yn.length:Nat):Int) > 64) with
      | true =>
       have g32:=of_decide_eq_true h32
       exact zo ((y5 r by_)++[.dec true,.inl (.lsl 1 0 yk.length 2 none) [(0,⟨[I by_],1,false⟩),(1,⟨yk.map Sn.D,2,false⟩)] 2,.inlS [1] (.tup [.sl true [] 0 none,I 2]) [(1,⟨(zm zl yk).map Sn.D,2,false⟩),(2,⟨yn.map Sn.D,2,false⟩)] 3]) (Ai (Ai (show ze [(0,⟨[I by_],1,false⟩),(1,⟨yk.map Sn.D,2,false⟩)] 256 [1] []=some [1] from (by (simp only [ze,go_sem,List.length_set,Nat.reduceAdd,Nat.reduceEqDiff,Nat.reduceLT,Nat.reduceLeDiff,bI2,zb.idsL,zb.renL,zb.snapAll,z6.idsL,z6.renL,z6.snapAll]) <;> rfl)) (show (lim cfg).inl 69 [.lsl 1 0 yk.length 2 none] [(1,⟨yk.map Sn.D,2,false⟩)] 2=some (.tup [.sl true [] 0 none,I 2],[(1,⟨(zm zl yk).map Sn.D,2,false⟩),(2,⟨yn.map Sn.D,2,false⟩)],3) from zX [.inlS [1] (.tup []) [(1,⟨(zm zl yk).map Sn.D,2,false⟩)] 2,.gloop (sd97 yk) (.exit 0) (sd98 yk yn),.dec true] (Ai h32 (Ai (zU (q:=zh yk (zm zl yk)) (lp_ranges_gathered_4p1 yk (zm zl yk) (zm zl yk) 0 (List.drop_zero) (Nat.zero_le _) (by simp only [zq,GS.some_l,List.length_set,List.length_append,List.length_cons,List.length_nil] at * <;> first | with_reducible assumption | omega) (by simp only [zq,GS.some_l,List.length_set,List.length_append,List.length_cons,List.length_nil] at * <;> first | with_reducible assumption | omega)) h31) (Ai (gc_of (C:=cfg) (f:=69) (a:=lp69_4) (ks:=[4,10,11,12]) (st:=(sd96 yk)) (st1:=(sd97 yk)) (by kernel_rfl) (by (simp only [sd96,sd97,go_sem,List.length_set,Nat.reduceAdd,Nat.reduceEqDiff,Nat.reduceLT,Nat.reduceLeDiff,bI2,zb.idsL,zb.renL,zb.snapAll,z6.idsL,z6.renL,z6.snapAll]) <;> rfl)) (Ai (Ai (show ze [(1,⟨yk.map Sn.D,2,false⟩)] 256 [1] []=some [1] from (by (simp only [ze,go_sem,List.length_set,Nat.reduceAdd,Nat.reduceEqDiff,Nat.reduceLT,Nat.reduceLeDiff,bI2,zb.idsL,zb.renL,zb.snapAll,z6.idsL,z6.renL,z6.snapAll]) <;> rfl)) (T_sort 1 2 none yk (by omega))) trivial)))) (by kernel_rfl))) (Ai p3 (Ai h3 (Ai p1 (Ai h2 (Ai (zi Sn.D r) (Ai h1 (Ai (zv r (by omega)) trivial)))))))) (by kernel_rfl)
      | false =>
       have g32:=of_decide_eq_false h32
       exact po_pureS ((y5 r by_)++[.dec true,.inl (.lsl 1 0 yk.length 2 none) [(0,⟨[I by_],1,false⟩),(1,⟨yk.map Sn.D,2,false⟩)] 2,.inlS [1] (.tup [.lsl 2 0 yn.length 2 none,I 0]) [(1,⟨(zm zl yk).map Sn.D,2,false⟩),(2,⟨yn.map Sn.D,2,false⟩)] 3]) [(2,.sl false (yn.map Sn.D) 2 none,[2])] (Ai (snap_row (gO:=zu [(0,⟨[I by_],1,false⟩),(1,⟨(zm zl yk).map Sn.D,2,false⟩),(2,⟨yn.map Sn.D,2,false⟩)]) (o:=2) (len:=yn.length) (cap:=none) (fz:=false) z6 yn (by kernel_rfl) (by omega)) (Ai (Ai (show ze [(0,⟨[I by_],1,false⟩),(1,⟨yk.map Sn.D,2,false⟩)] 256 [1] []=some [1] from (by (simp only [ze,go_sem,List.length_set,Nat.reduceAdd,Nat.reduceEqDiff,Nat.reduceLT,Nat.reduceLeDiff,bI2,zb.idsL,zb.renL,zb.snapAll,z6.idsL,z6.renL,z6.snapAll]) <;> rfl)) (show (lim cfg).inl 69 [.lsl 1 0 yk.length 2 none] [(1,⟨yk.map Sn.D,2,false⟩)] 2=some (.tup [.lsl 2 0 yn.length 2 none,I 0],[(1,⟨(zm zl yk).map Sn.D,2,false⟩),(2,⟨yn.map Sn.D,2,false⟩)],3) from zX [.inlS [1] (.tup []) [(1,⟨(zm zl yk).map Sn.D,2,false⟩)] 2,.gloop (sd97 yk) (.exit 0) (sd98 yk yn),.dec false] (Ai h32 (Ai (zU (q:=zh yk (zm zl yk)) (lp_ranges_gathered_4p1 yk (zm zl yk) (zm zl yk) 0 (List.drop_zero) (Nat.zero_le _) (by simp only [zq,GS.some_l,List.length_set,List.length_append,List.length_cons,List.length_nil] at * <;> first | with_reducible assumption | omega) (by simp only [zq,GS.some_l,List.length_set,List.length_append,List.length_cons,List.length_nil] at * <;> first | with_reducible assumption | omega)) h31) (Ai (gc_of (C:=cfg) (f:=69) (a:=lp69_4) (ks:=[4,10,11,12]) (st:=(sd96 yk)) (st1:=(sd97 yk)) (by kernel_rfl) (by (simp only [sd96,sd97,go_sem,List.length_set,Nat.reduceAdd,Nat.reduceEqDiff,Nat.reduceLT,Nat.reduceLeDiff,bI2,zb.idsL,zb.renL,zb.snapAll,z6.idsL,z6.renL,z6.snapAll]) <;> rfl)) (Ai (Ai (show ze [(1,⟨yk.map Sn.D,2,false⟩)] 256 [1] []=some [1] from (by (simp only [ze,go_sem,List.length_set,Nat.reduceAdd,Nat.reduceEqDiff,Nat.reduceLT,Nat.reduceLeDiff,bI2,zb.idsL,zb.renL,zb.snapAll,z6.idsL,z6.renL,z6.snapAll]) <;> rfl)) (T_sort 1 2 none yk (by omega))) trivial)))) (by kernel_rfl))) (Ai p3 (Ai h3 (Ai p1 (Ai h2 (Ai (zi Sn.D r) (Ai h1 (Ai (zv r (by omega)) trivial))))))))) (by kernel_rfl)
     | x1 yE yw yn =>
      try dsimp only
      have xn:=zz yk (zm zl yk) (zm zl yk) 0 (List.drop_zero) (Nat.zero_le _) (by simp only [zq,GS.some_l,List.length_set,List.length_append,List.length_cons,List.length_nil] at * <;> first | with_reducible assumption | omega) (by simp only [zq,GS.some_l,List.length_set,List.length_append,List.length_cons,List.length_nil] at * <;> first | with_reducible assumption | omega)
      rw [h31] at xn
      obtain ⟨xf,xg⟩:=xn
      try dsimp only [zk] at xf
      try dsimp only [zk] at xg
      exact zo ((y5 r by_)++[.dec true,.inl (.lsl 1 0 yk.length 2 none) [(0,⟨[I by_],1,false⟩),(1,⟨yk.map Sn.D,2,false⟩)] 2,.inlS [1] (.tup [.sl true [] 0 none,I 2]) [(1,⟨(zm zl yk).map Sn.D,2,false⟩),(2,⟨yn.map Sn.D,2,false⟩),(3,⟨[.agg [I yw.lo,I yw.hi]],2,false⟩)] 4]) (Ai (Ai (show ze [(0,⟨[I by_],1,false⟩),(1,⟨yk.map Sn.D,2,false⟩)] 256 [1] []=some [1] from (by (simp only [ze,go_sem,List.length_set,Nat.reduceAdd,Nat.reduceEqDiff,Nat.reduceLT,Nat.reduceLeDiff,bI2,zb.idsL,zb.renL,zb.snapAll,z6.idsL,z6.renL,z6.snapAll]) <;> rfl)) (show (lim cfg).inl 69 [.lsl 1 0 yk.length 2 none] [(1,⟨yk.map Sn.D,2,false⟩)] 2=some (.tup [.sl true [] 0 none,I 2],[(1,⟨(zm zl yk).map Sn.D,2,false⟩),(2,⟨yn.map Sn.D,2,false⟩),(3,⟨[.agg [I yw.lo,I yw.hi]],2,false⟩)],4) from zX [.inlS [1] (.tup []) [(1,⟨(zm zl yk).map Sn.D,2,false⟩)] 2,.gloop (sd97 yk) .ret (sd99 yk yn yE yw)] (Ai (zU (q:=zh yk (zm zl yk)) (lp_ranges_gathered_4p1 yk (zm zl yk) (zm zl yk) 0 (List.drop_zero) (Nat.zero_le _) (by simp only [zq,GS.some_l,List.length_set,List.length_append,List.length_cons,List.length_nil] at * <;> first | with_reducible assumption | omega) (by simp only [zq,GS.some_l,List.length_set,List.length_append,List.length_cons,List.length_nil] at * <;> first | with_reducible assumption | omega)) h31) (Ai (gc_of (C:=cfg) (f:=69) (a:=lp69_4) (ks:=[4,10,11,12]) (st:=(sd96 yk)) (st1:=(sd97 yk)) (by kernel_rfl) (by (simp only [sd96,sd97,go_sem,List.length_set,Nat.reduceAdd,Nat.reduceEqDiff,Nat.reduceLT,Nat.reduceLeDiff,bI2,zb.idsL,zb.renL,zb.snapAll,z6.idsL,z6.renL,z6.snapAll]) <;> rfl)) (Ai (Ai (show ze [(1,⟨yk.map Sn.D,2,false⟩)] 256 [1] []=some [1] from (by (simp only [ze,go_sem,List.length_set,Nat.reduceAdd,Nat.reduceEqDiff,Nat.reduceLT,Nat.reduceLeDiff,bI2,zb.idsL,zb.renL,zb.snapAll,z6.idsL,z6.renL,z6.snapAll]) <;> rfl)) (T_sort 1 2 none yk (by omega))) trivial))) (by kernel_rfl))) (Ai p3 (Ai h3 (Ai p1 (Ai h2 (Ai (zi Sn.D r) (Ai h1 (Ai (zv r (by omega)) trivial)))))))) (by kernel_rfl)
     | x2 yE yw yn =>
      try dsimp only
      have xn:=zz yk (zm zl yk) (zm zl yk) 0 (List.drop_zero) (Nat.zero_le _) (by simp only [zq,GS.some_l,List.length_set,List.length_append,List.length_cons,List.length_nil] at * <;> first | with_reducible assumption | omega) (by simp only [zq,GS.some_l,List.length_set,List.length_append,List.length_cons,List.length_nil] at * <;> first | with_reducible assumption | omega)
      rw [h31] at xn
      obtain ⟨xf,xg⟩:=xn
      try dsimp only [zk] at xf
      try dsimp only [zk] at xg
      exact zo ((y5 r by_)++[.dec true,.inl (.lsl 1 0 yk.length 2 none) [(0,⟨[I by_],1,false⟩),(1,⟨yk.map Sn.D,2,false⟩)] 2,.inlS [1] (.tup [.sl true [] 0 none,I 2]) [(1,⟨(zm zl yk).map Sn.D,2,false⟩),(2,⟨yn.map Sn.D,2,false⟩),(3,⟨[.agg [I yw.lo,I yw.hi]],2,false⟩)] 4]) (Ai (Ai (show ze [(0,⟨[I by_],1,false⟩),(1,⟨yk.map Sn.D,2,false⟩)] 256 [1] []=some [1] from (by (simp only [ze,go_sem,List.length_set,Nat.reduceAdd,Nat.reduceEqDiff,Nat.reduceLT,Nat.reduceLeDiff,bI2,zb.idsL,zb.renL,zb.snapAll,z6.idsL,z6.renL,z6.snapAll]) <;> rfl)) (show (lim cfg).inl 69 [.lsl 1 0 yk.length 2 none] [(1,⟨yk.map Sn.D,2,false⟩)] 2=some (.tup [.sl true [] 0 none,I 2],[(1,⟨(zm zl yk).map Sn.D,2,false⟩),(2,⟨yn.map Sn.D,2,false⟩),(3,⟨[.agg [I yw.lo,I yw.hi]],2,false⟩)],4) from zX [.inlS [1] (.tup []) [(1,⟨(zm zl yk).map Sn.D,2,false⟩)] 2,.gloop (sd97 yk) .ret (sd100 yk yn yE yw)] (Ai (zU (q:=zh yk (zm zl yk)) (lp_ranges_gathered_4p1 yk (zm zl yk) (zm zl yk) 0 (List.drop_zero) (Nat.zero_le _) (by simp only [zq,GS.some_l,List.length_set,List.length_append,List.length_cons,List.length_nil] at * <;> first | with_reducible assumption | omega) (by simp only [zq,GS.some_l,List.length_set,List.length_append,List.length_cons,List.length_nil] at * <;> first | with_reducible assumption | omega)) h31) (Ai (gc_of (C:=cfg) (f:=69) (a:=lp69_4) (ks:=[4,10,11,12]) (st:=(sd96 yk)) (st1:=(sd97 yk)) (by kernel_rfl) (by (simp only [sd96,sd97,go_sem,List.length_set,Nat.reduceAdd,Nat.reduceEqDiff,Nat.reduceLT,Nat.reduceLeDiff,bI2,zb.idsL,zb.renL,zb.snapAll,z6.idsL,z6.renL,z6.snapAll]) <;> rfl)) (Ai (Ai (show ze [(1,⟨yk.map Sn.D,2,false⟩)] 256 [1] []=some [1] from (by (simp only [ze,go_sem,List.length_set,Nat.reduceAdd,Nat.reduceEqDiff,Nat.reduceLT,Nat.reduceLeDiff,bI2,zb.idsL,zb.renL,zb.snapAll,z6.idsL,z6.renL,z6.snapAll]) <;> rfl)) (T_sort 1 2 none yk (by omega))) trivial))) (by kernel_rfl))) (Ai p3 (Ai h3 (Ai p1 (Ai h2 (Ai (zi Sn.D r) (Ai h1 (Ai (zv r (by omega)) trivial)))))))) (by kernel_rfl)
     | x3 =>
      try dsimp only
      exact zo ((y5 r by_)++[.dec true,.inl (.lsl 1 0 yk.length 2 none) [(0,⟨[I by_],1,false⟩),(1,⟨yk.map Sn.D,2,false⟩)] 2,.inlS [1] (.tup [.sl true [] 0 none,I 0]) [(1,⟨(zm zl yk).map Sn.D,2,false⟩)] 2]) (Ai (Ai (show ze [(0,⟨[I by_],1,false⟩),(1,⟨yk.map Sn.D,2,false⟩)] 256 [1] []=some [1] from (by (simp only [ze,go_sem,List.length_set,Nat.reduceAdd,Nat.reduceEqDiff,Nat.reduceLT,Nat.reduceLeDiff,bI2,zb.idsL,zb.renL,zb.snapAll,z6.idsL,z6.renL,z6.snapAll]) <;> rfl)) (show (lim cfg).inl 69 [.lsl 1 0 yk.length 2 none] [(1,⟨yk.map Sn.D,2,false⟩)] 2=some (.tup [.sl true [] 0 none,I 0],[(1,⟨(zm zl yk).map Sn.D,2,false⟩)],2) from zX [.inlS [1] (.tup []) [(1,⟨(zm zl yk).map Sn.D,2,false⟩)] 2,.gloop (sd97 yk) (.exit 0) (sd101 yk),.dec false] (Ai (Eq.refl false) (Ai (zU (q:=zh yk (zm zl yk)) (lp_ranges_gathered_4p1 yk (zm zl yk) (zm zl yk) 0 (List.drop_zero) (Nat.zero_le _) (by simp only [zq,GS.some_l,List.length_set,List.length_append,List.length_cons,List.length_nil] at * <;> first | with_reducible assumption | omega) (by simp only [zq,GS.some_l,List.length_set,List.length_append,List.length_cons,List.length_nil] at * <;> first | with_reducible assumption | omega)) h31) (Ai (gc_of (C:=cfg) (f:=69) (a:=lp69_4) (ks:=[4,10,11,12]) (st:=(sd96 yk)) (st1:=(sd97 yk)) (by kernel_rfl) (by (simp only [sd96,sd97,go_sem,List.length_set,Nat.reduceAdd,Nat.reduceEqDiff,Nat.reduceLT,Nat.reduceLeDiff,bI2,zb.idsL,zb.renL,zb.snapAll,z6.idsL,z6.renL,z6.snapAll]) <;> rfl)) (Ai (Ai (show ze [(1,⟨yk.map Sn.D,2,false⟩)] 256 [1] []=some [1] from (by (simp only [ze,go_sem,List.length_set,Nat.reduceAdd,Nat.reduceEqDiff,Nat.reduceLT,Nat.reduceLeDiff,bI2,zb.idsL,zb.renL,zb.snapAll,z6.idsL,z6.renL,z6.snapAll]) <;> rfl)) (T_sort 1 2 none yk (by omega))) trivial)))) (by kernel_rfl))) (Ai p3 (Ai h3 (Ai p1 (Ai h2 (Ai (zi Sn.D r) (Ai h1 (Ai (zv r (by omega)) trivial)))))))) (by kernel_rfl)
     | x4 yE yw =>
      try dsimp only
      exact zo ((y5 r by_)++[.dec true,.inl (.lsl 1 0 yk.length 2 none) [(0,⟨[I by_],1,false⟩),(1,⟨yk.map Sn.D,2,false⟩)] 2,.inlS [1] (.tup [.sl true [] 0 none,I 2]) [(1,⟨(zm zl yk).map Sn.D,2,false⟩),(2,⟨[.agg [I yw.lo,I yw.hi]],2,false⟩)] 3]) (Ai (Ai (show ze [(0,⟨[I by_],1,false⟩),(1,⟨yk.map Sn.D,2,false⟩)] 256 [1] []=some [1] from (by (simp only [ze,go_sem,List.length_set,Nat.reduceAdd,Nat.reduceEqDiff,Nat.reduceLT,Nat.reduceLeDiff,bI2,zb.idsL,zb.renL,zb.snapAll,z6.idsL,z6.renL,z6.snapAll]) <;> rfl)) (show (lim cfg).inl 69 [.lsl 1 0 yk.length 2 none] [(1,⟨yk.map Sn.D,2,false⟩)] 2=some (.tup [.sl true [] 0 none,I 2],[(1,⟨(zm zl yk).map Sn.D,2,false⟩),(2,⟨[.agg [I yw.lo,I yw.hi]],2,false⟩)],3) from zX [.inlS [1] (.tup []) [(1,⟨(zm zl yk).map Sn.D,2,false⟩)] 2,.gloop (sd97 yk) .ret (sd102 yk yE yw)] (Ai (zU (q:=zh yk (zm zl yk)) (lp_ranges_gathered_4p1 yk (zm zl yk) (zm zl yk) 0 (List.drop_zero) (Nat.zero_le _) (by simp only [zq,GS.some_l,List.length_set,List.length_append,List.length_cons,List.length_nil] at * <;> first | with_reducible assumption | omega) (by simp only [zq,GS.some_l,List.length_set,List.length_append,List.length_cons,List.length_nil] at * <;> first | with_reducible assumption | omega)) h31) (Ai (gc_of (C:=cfg) (f:=69) (a:=lp69_4) (ks:=[4,10,11,12]) (st:=(sd96 yk)) (st1:=(sd97 yk)) (by kernel_rfl) (by (simp only [sd96,sd97,go_sem,List.length_set,Nat.reduceAdd,Nat.reduceEqDiff,Nat.reduceLT,Nat.reduceLeDiff,bI2,zb.idsL,zb.renL,zb.snapAll,z6.idsL,z6.renL,z6.snapAll]) <;> rfl)) (Ai (Ai (show ze [(1,⟨yk.map Sn.D,2,false⟩)] 256 [1] []=some [1] from (by (simp only [ze,go_sem,List.length_set,Nat.reduceAdd,Nat.reduceEqDiff,Nat.reduceLT,Nat.reduceLeDiff,bI2,zb.idsL,zb.renL,zb.snapAll,z6.idsL,z6.renL,z6.snapAll]) <;> rfl)) (T_sort 1 2 none yk (by omega))) trivial))) (by kernel_rfl))) (Ai p3 (Ai h3 (Ai p1 (Ai h2 (Ai (zi Sn.D r) (Ai h1 (Ai (zv r (by omega)) trivial)))))))) (by kernel_rfl)
     | x5 yE yw =>
      try dsimp only
      exact zo ((y5 r by_)++[.dec true,.inl (.lsl 1 0 yk.length 2 none) [(0,⟨[I by_],1,false⟩),(1,⟨yk.map Sn.D,2,false⟩)] 2,.inlS [1] (.tup [.sl true [] 0 none,I 2]) [(1,⟨(zm zl yk).map Sn.D,2,false⟩),(2,⟨[.agg [I yw.lo,I yw.hi]],2,false⟩)] 3]) (Ai (Ai (show ze [(0,⟨[I by_],1,false⟩),(1,⟨yk.map Sn.D,2,false⟩)] 256 [1] []=some [1] from (by (simp only [ze,go_sem,List.length_set,Nat.reduceAdd,Nat.reduceEqDiff,Nat.reduceLT,Nat.reduceLeDiff,bI2,zb.idsL,zb.renL,zb.snapAll,z6.idsL,z6.renL,z6.snapAll]) <;> rfl)) (show (lim cfg).inl 69 [.lsl 1 0 yk.length 2 none] [(1,⟨yk.map Sn.D,2,false⟩)] 2=some (.tup [.sl true [] 0 none,I 2],[(1,⟨(zm zl yk).map Sn.D,2,false⟩),(2,⟨[.agg [I yw.lo,I yw.hi]],2,false⟩)],3) from zX [.inlS [1] (.tup []) [(1,⟨(zm zl yk).map Sn.D,2,false⟩)] 2,.gloop (sd97 yk) .ret (sd103 yk yE yw)] (Ai (zU (q:=zh yk (zm zl yk)) (lp_ranges_gathered_4p1 yk (zm zl yk) (zm zl yk) 0 (List.drop_zero) (Nat.zero_le _) (by simp only [zq,GS.some_l,List.length_set,List.length_append,List.length_cons,List.length_nil] at * <;> first | with_reducible assumption | omega) (by simp only [zq,GS.some_l,List.length_set,List.length_append,List.length_cons,List.length_nil] at * <;> first | with_reducible assumption | omega)) h31) (Ai (gc_of (C:=cfg) (f:=69) (a:=lp69_4) (ks:=[4,10,11,12]) (st:=(sd96 yk)) (st1:=(sd97 yk)) (by kernel_rfl) (by (simp only [sd96,sd97,go_sem,List.length_set,Nat.reduceAdd,Nat.reduceEqDiff,Nat.reduceLT,Nat.reduceLeDiff,bI2,zb.idsL,zb.renL,zb.snapAll,z6.idsL,z6.renL,z6.snapAll]) <;> rfl)) (Ai (Ai (show ze [(1,⟨yk.map Sn.D,2,false⟩)] 256 [1] []=some [1] from (by (simp only [ze,go_sem,List.length_set,Nat.reduceAdd,Nat.reduceEqDiff,Nat.reduceLT,Nat.reduceLeDiff,bI2,zb.idsL,zb.renL,zb.snapAll,z6.idsL,z6.renL,z6.snapAll]) <;> rfl)) (T_sort 1 2 none yk (by omega))) trivial))) (by kernel_rfl))) (Ai p3 (Ai h3 (Ai p1 (Ai h2 (Ai (zi Sn.D r) (Ai h1 (Ai (zv r (by omega)) trivial)))))))) (by kernel_rfl)
    | x2 =>
     try dsimp only
     exact zo ((y5 r by_)++[.dec true,.inl (.sl true [] 0 none) [(0,⟨[I by_],1,true⟩)] 1,.inl (.tup [.sl true [] 0 none,I 0]) [] 1]) (Ai (show (lim cfg).inl 69 [.sl true [] 0 none] [] 1=some (.tup [.sl true [] 0 none,I 0],[],1) from zX [.inl (.tup []) [] 1,.loop (.exit 0) ⟨65,[(13,B false),(4,.sl true [] 0 none),(10,.sl true [] 0 none),(11,I 0),(12,I 0)],[],1,1⟩,.dec false] (Ai (Eq.refl false) (Ai (show (lim cfg).loop 69 lp69_4 ⟨65,[(4,.sl true [] 0 none),(10,.sl true [] 0 none),(11,I 0),(12,I 0)],[],1,1⟩=some ((.exit 0),⟨65,[(13,B false),(4,.sl true [] 0 none),(10,.sl true [] 0 none),(11,I 0),(12,I 0)],[],1,1⟩) from (zR [.dec false] (Ai (Eq.refl false) trivial) (by kernel_rfl))) (Ai (T_sort_nil 1) trivial))) (by kernel_rfl)) (Ai (show (lim cfg).inl 70 [.sl r.nl (r.l.map Sn.D) (zsl r.nl 2) none,.fn (.func 85) [] [.lref 0 0 1 0]] [(0,⟨[I by_],1,false⟩)] 1=some (.sl true [] 0 none,[(0,⟨[I by_],1,true⟩)],1) from zX [.rw 9 (I ((r.l.length:Nat):Int)),.loop (.exit 0) (sd220 r by_)] (Ai (zU (q:=yj r by_) (lp_ranges_each_3p1 r by_ r.l 0 (List.drop_zero) (Nat.zero_le _) (by omega)) h28) (Ai (zi Sn.D r) trivial)) (by kernel_rfl)) (Ai h3 (Ai p1 (Ai h2 (Ai (zi Sn.D r) (Ai h1 (Ai (zv r (by omega)) trivial)))))))) (by kernel_rfl)
    | x3 =>
     try dsimp only
     exact zo ((y5 r by_)++[.dec true,.inl (.sl true [] 0 none) [(0,⟨[I by_],1,false⟩)] 1,.inl (.tup [.sl true [] 0 none,I 0]) [] 1]) (Ai (show (lim cfg).inl 69 [.sl true [] 0 none] [] 1=some (.tup [.sl true [] 0 none,I 0],[],1) from zX [.inl (.tup []) [] 1,.loop (.exit 0) ⟨65,[(13,B false),(4,.sl true [] 0 none),(10,.sl true [] 0 none),(11,I 0),(12,I 0)],[],1,1⟩,.dec false] (Ai (Eq.refl false) (Ai (show (lim cfg).loop 69 lp69_4 ⟨65,[(4,.sl true [] 0 none),(10,.sl true [] 0 none),(11,I 0),(12,I 0)],[],1,1⟩=some ((.exit 0),⟨65,[(13,B false),(4,.sl true [] 0 none),(10,.sl true [] 0 none),(11,I 0),(12,I 0)],[],1,1⟩) from (zR [.dec false] (Ai (Eq.refl false) trivial) (by kernel_rfl))) (Ai (T_sort_nil 1) trivial))) (by kernel_rfl)) (Ai (show (lim cfg).inl 70 [.sl r.nl (r.l.map Sn.D) (zsl r.nl 2) none,.fn (.func 85) [] [.lref 0 0 1 0]] [(0,⟨[I by_],1,false⟩)] 1=some (.sl true [] 0 none,[(0,⟨[I by_],1,false⟩)],1) from zX [.rw 9 (I ((r.l.length:Nat):Int)),.loop (.exit 0) (sd221 r by_)] (Ai (zU (q:=yj r by_) (lp_ranges_each_3p1 r by_ r.l 0 (List.drop_zero) (Nat.zero_le _) (by omega)) h28) (Ai (zi Sn.D r) trivial)) (by kernel_rfl)) (Ai h3 (Ai p1 (Ai h2 (Ai (zi Sn.D r) (Ai h1 (Ai (zv r (by omega)) trivial)))))))) (by kernel_rfl)
   | false =>
    exact zo ((y5 r by_)++[.dec false]) (Ai h3 (Ai p1 (Ai h2 (Ai (zi Sn.D r) (Ai h1 (Ai (zv r (by omega)) trivial)))))) (by kernel_rfl)
  | false =>
   have g2:=of_decide_eq_false h2
   cases h33:ya by_ r.l with
   | x0 ym =>
    try dsimp only
    have hv_h33:=ivt_ranges_each_3p1 r by_ r.l 0 (List.drop_zero) (Nat.zero_le _) (by omega)
    rw [h33] at hv_h33
    have hv_h33_0:=hv_h33
    try dsimp only [iv_ranges_each_3p1] at hv_h33_0
    have p4:=(show (lim cfg).inl 70 [.sl r.nl (r.l.map Sn.D) (zsl r.nl 2) none,.fn (.func 85) [] [.lref 0 0 1 0]] [(0,⟨[I by_],1,false⟩)] 1=some (.lsl 1 0 ym.length 2 none,[(0,⟨[I by_],1,true⟩),(1,⟨ym.map Sn.D,2,false⟩)],2) from zX [.rw 9 (I ((r.l.length:Nat):Int)),.loop (.exit 0) (sd210 r by_ ym)] (Ai (zU (q:=yj r by_) (lp_ranges_each_3p1 r by_ r.l 0 (List.drop_zero) (Nat.zero_le _) (by omega)) h33) (Ai (zi Sn.D r) trivial)) (by kernel_rfl))
    cases h34:zw (zm zl ym) 0 with
    | x0 yn =>
     try dsimp only
     have hv_h34:=zz ym (zm zl ym) (zm zl ym) 0 (List.drop_zero) (Nat.zero_le _) (by simp only [zq,GS.some_l,List.length_set,List.length_append,List.length_cons,List.length_nil] at * <;> first | with_reducible assumption | omega) (by simp only [zq,GS.some_l,List.length_set,List.length_append,List.length_cons,List.length_nil] at * <;> first | with_reducible assumption | omega)
     rw [h34] at hv_h34
     obtain ⟨hv_h34_0,hv_h34_1⟩:=hv_h34
     try dsimp only [zk] at hv_h34_0
     try dsimp only [zk] at hv_h34_1
     cases h35:decide (((yn.length:Nat):Int) > 64) with
     | true =>
      have g35:=of_decide_eq_true h35
      exact zo ((ranges_Shift_o2 r by_ ym)++[.inlS [1] (.tup [.sl true [] 0 none,I 2]) [(1,⟨(zm zl ym).map Sn.D,2,false⟩),(2,⟨yn.map Sn.D,2,false⟩)] 3]) (Ai (Ai (show ze [(0,⟨[I by_],1,true⟩),(1,⟨ym.map Sn.D,2,false⟩)] 256 [1] []=some [1] from (by (simp only [ze,go_sem,List.length_set,Nat.reduceAdd,Nat.reduceEqDiff,Nat.reduceLT,Nat.reduceLeDiff,bI2,zb.idsL,zb.renL,zb.snapAll,z6.idsL,z6.renL,z6.snapAll]) <;> rfl)) (show (lim cfg).inl 69 [.lsl 1 0 ym.length 2 none] [(1,⟨ym.map Sn.D,2,false⟩)] 2=some (.tup [.sl true [] 0 none,I 2],[(1,⟨(zm zl ym).map Sn.D,2,false⟩),(2,⟨yn.map Sn.D,2,false⟩)],3) from zX [.inlS [1] (.tup []) [(1,⟨(zm zl ym).map Sn.D,2,false⟩)] 2,.gloop (sd212 ym) (.exit 0) (sd213 ym yn),.dec true] (Ai h35 (Ai (zU (q:=zh ym (zm zl ym)) (lp_ranges_gathered_4p1 ym (zm zl ym) (zm zl ym) 0 (List.drop_zero) (Nat.zero_le _) (by simp only [zq,GS.some_l,List.length_set,List.length_append,List.length_cons,List.length_nil] at * <;> first | with_reducible assumption | omega) (by simp only [zq,GS.some_l,List.length_set,List.length_append,List.length_cons,List.length_nil] at * <;> first | with_reducible assumption | omega)) h34) (Ai (gc_of (C:=cfg) (f:=69) (a:=lp69_4) (ks:=[4,10,11,12]) (st:=(sd211 ym)) (st1:=(sd212 ym)) (by kernel_rfl) (by (simp only [sd211,sd212,go_sem,List.length_set,Nat.reduceAdd,Nat.reduceEqDiff,Nat.reduceLT,Nat.reduceLeDiff,bI2,zb.idsL,zb.renL,zb.snapAll,z6.idsL,z6.renL,z6.snapAll]) <;> rfl)) (Ai (Ai (show ze [(1,⟨ym.map Sn.D,2,false⟩)] 256 [1] []=some [1] from (by (simp only [ze,go_sem,List.length_set,Nat.reduceAdd,Nat.reduceEqDiff,Nat.reduceLT,Nat.reduceLeDiff,bI2,zb.idsL,zb.renL,zb.snapAll,z6.idsL,z6.renL,z6.snapAll]) <;> rfl)) (T_sort 1 2 none ym (by omega))) trivial)))) (by kernel_rfl))) (Ai p4 (Ai h2 (Ai (zi Sn.D r) (Ai h1 (Ai (zv r (by omega)) trivial)))))) (by kernel_rfl)
     | false =>
      have g35:=of_decide_eq_false h35
      exact po_pureS ((ranges_Shift_o2 r by_ ym)++[.inlS [1] (.tup [.lsl 2 0 yn.length 2 none,I 0]) [(1,⟨(zm zl ym).map Sn.D,2,false⟩),(2,⟨yn.map Sn.D,2,false⟩)] 3]) [(2,.sl false (yn.map Sn.D) 2 none,[2])] (Ai (snap_row (gO:=zu [(0,⟨[I by_],1,true⟩),(1,⟨(zm zl ym).map Sn.D,2,false⟩),(2,⟨yn.map Sn.D,2,false⟩)]) (o:=2) (len:=yn.length) (cap:=none) (fz:=false) z6 yn (by kernel_rfl) (by omega)) (Ai (Ai (show ze [(0,⟨[I by_],1,true⟩),(1,⟨ym.map Sn.D,2,false⟩)] 256 [1] []=some [1] from (by (simp only [ze,go_sem,List.length_set,Nat.reduceAdd,Nat.reduceEqDiff,Nat.reduceLT,Nat.reduceLeDiff,bI2,zb.idsL,zb.renL,zb.snapAll,z6.idsL,z6.renL,z6.snapAll]) <;> rfl)) (show (lim cfg).inl 69 [.lsl 1 0 ym.length 2 none] [(1,⟨ym.map Sn.D,2,false⟩)] 2=some (.tup [.lsl 2 0 yn.length 2 none,I 0],[(1,⟨(zm zl ym).map Sn.D,2,false⟩),(2,⟨yn.map Sn.D,2,false⟩)],3) from zX [.inlS [1] (.tup []) [(1,⟨(zm zl ym).map Sn.D,2,false⟩)] 2,.gloop (sd212 ym) (.exit 0) (sd213 ym yn),.dec false] (Ai h35 (Ai (zU (q:=zh ym (zm zl ym)) (lp_ranges_gathered_4p1 ym (zm zl ym) (zm zl ym) 0 (List.drop_zero) (Nat.zero_le _) (by simp only [zq,GS.some_l,List.length_set,List.length_append,List.length_cons,List.length_nil] at * <;> first | with_reducible assumption | omega) (by simp only [zq,GS.some_l,List.length_set,List.length_append,List.length_cons,List.length_nil] at * <;> first | with_reducible assumption | omega)) h34) (Ai (gc_of (C:=cfg) (f:=69) (a:=lp69_4) (ks:=[4,10,11,12]) (st:=(sd211 ym)) (st1:=(sd212 ym)) (by kernel_rfl) (by (simp only [sd211,sd212,go_sem,List.length_set,Nat.reduceAdd,Nat.reduceEqDiff,Nat.reduceLT,Nat.reduceLeDiff,bI2,zb.idsL,zb.renL,zb.snapAll,z6.idsL,z6.renL,z6.snapAll]) <;> rfl)) (Ai (Ai (show ze [(1,⟨ym.map Sn.D,2,false⟩)] 256 [1] []=some [1] from (by (simp only [ze,go_sem,List.length_set,Nat.reduceAdd,Nat.reduceEqDiff,Nat.reduceLT,Nat.reduceLeDiff,bI2,zb.idsL,zb.renL,zb.snapAll,z6.idsL,z6.renL,z6.snapAll]) <;> rfl)) (T_sort 1 2 none ym (by omega))) trivial)))) (by kernel_rfl))) (Ai p4 (Ai h2 (Ai (zi Sn.D r) (Ai h1 (Ai (zv r (by omega)) trivial))))))) (by kernel_rfl)
    | x1 yE yw yn =>
     try dsimp only
     have hv_h34:=zz ym (zm zl ym) (zm zl ym) 0 (List.drop_zero) (Nat.zero_le _) (by simp only [zq,GS.some_l,List.length_set,List.length_append,List.length_cons,List.length_nil] at * <;> first | with_reducible assumption | omega) (by simp only [zq,GS.some_l,List.length_set,List.length_append,List.length_cons,List.length_nil] at * <;> first | with_reducible assumption | omega)
     rw [h34] at hv_h34
     obtain ⟨hv_h34_0,hv_h34_1⟩:=hv_h34
     try dsimp only [zk] at hv_h34_0
     try dsimp only [zk] at hv_h34_1
     exact zo ((ranges_Shift_o2 r by_ ym)++[.inlS [1] (.tup [.sl true [] 0 none,I 2]) [(1,⟨(zm zl ym).map Sn.D,2,false⟩),(2,⟨yn.map Sn.D,2,false⟩),(3,⟨[.agg [I yw.lo,I yw.hi]],2,false⟩)] 4]) (Ai (Ai (show ze [(0,⟨[I by_],1,true⟩),(1,⟨ym.map Sn.D,2,false⟩)] 256 [1] []=some [1] from (by (simp only [ze,go_sem,List.length_set,Nat.reduceAdd,Nat.reduceEqDiff,Nat.reduceLT,Nat.reduceLeDiff,bI2,zb.idsL,zb.renL,zb.snapAll,z6.idsL,z6.renL,z6.snapAll]) <;> rfl)) (show (lim cfg).inl 69 [.lsl 1 0 ym.length 2 none] [(1,⟨ym.map Sn.D,2,false⟩)] 2=some (.tup [.sl true [] 0 none,I 2],[(1,⟨(zm zl ym).map Sn.D,2,false⟩),(2,⟨yn.map Sn.D,2,false⟩),(3,⟨[.agg [I yw.lo,I yw.hi]],2,false⟩)],4) from zX [.inlS [1] (.tup []) [(1,⟨(zm zl ym).map Sn.D,2,false⟩)] 2,.gloop (sd212 ym) .ret (sd214 ym yn yE yw)] (Ai (zU (q:=zh ym (zm zl ym)) (lp_ranges_gathered_4p1 ym (zm zl ym) (zm zl ym) 0 (List.drop_zero) (Nat.zero_le _) (by simp only [zq,GS.some_l,List.length_set,List.length_append,List.length_cons,List.length_nil] at * <;> first | with_reducible assumption | omega) (by simp only [zq,GS.some_l,List.length_set,List.length_append,List.length_cons,List.length_nil] at * <;> first | with_reducible assumption | omega)) h34) (Ai (gc_of (C:=cfg) (f:=69) (a:=lp69_4) (ks:=[4,10,11,12]) (st:=(sd211 ym)) (st1:=(sd212 ym)) (by kernel_rfl) (by (simp only [sd211,sd212,go_sem,List.length_set,Nat.reduceAdd,Nat.reduceEqDiff,Nat.reduceLT,Nat.reduceLeDiff,bI2,zb.idsL,zb.renL,zb.snapAll,z6.idsL,z6.renL,z6.snapAll]) <;> rfl)) (Ai (Ai (show ze [(1,⟨ym.map Sn.D,2,false⟩)] 256 [1] []=some [1] from (by (simp only [ze,go_sem,List.length_set,Nat.reduceAdd,Nat.reduceEqDiff,Nat.reduceLT,Nat.reduceLeDiff,bI2,zb.idsL,zb.renL,zb.snapAll,z6.idsL,z6.renL,z6.snapAll]) <;> rfl)) (T_sort 1 2 none ym (by omega))) trivial))) (by kernel_rfl))) (Ai p4 (Ai h2 (Ai (zi Sn.D r) (Ai h1 (Ai (zv r (by omega)) trivial)))))) (by kernel_rfl)
    | x2 yE yw yn =>
     try dsimp only
     have hv_h34:=zz ym (zm zl ym) (zm zl ym) 0 (List.drop_zero) (Nat.zero_le _) (by simp only [zq,GS.some_l,List.length_set,List.length_append,List.length_cons,List.length_nil] at * <;> first | with_reducible assumption | omega) (by simp only [zq,GS.some_l,List.length_set,List.length_append,List.length_cons,List.length_nil] at * <;> first | with_reducible assumption | omega)
     rw [h34] at hv_h34
     obtain ⟨hv_h34_0,hv_h34_1⟩:=hv_h34
     try dsimp only [zk] at hv_h34_0
     try dsimp only [zk] at hv_h34_1
     exact zo ((ranges_Shift_o2 r by_ ym)++[.inlS [1] (.tup [.sl true [] 0 none,I 2]) [(1,⟨(zm zl ym).map Sn.D,2,false⟩),(2,⟨yn.map Sn.D,2,false⟩),(3,⟨[.agg [I yw.lo,I yw.hi]],2,false⟩)] 4]) (Ai (Ai (show ze [(0,⟨[I by_],1,true⟩),(1,⟨ym.map Sn.D,2,false⟩)] 256 [1] []=some [1] from (by (simp only [ze,go_sem,List.length_set,Nat.reduceAdd,Nat.reduceEqDiff,Nat.reduceLT,Nat.reduceLeDiff,bI2,zb.idsL,zb.renL,zb.snapAll,z6.idsL,z6.renL,z6.snapAll]) <;> rfl)) (show (lim cfg).inl 69 [.lsl 1 0 ym.length 2 none] [(1,⟨ym.map Sn.D,2,false⟩)] 2=some (.tup [.sl true [] 0 none,I 2],[(1,⟨(zm zl ym).map Sn.D,2,false⟩),(2,⟨yn.map Sn.D,2,false⟩),(3,⟨[.agg [I yw.lo,I yw.hi]],2,false⟩)],4) from zX [.inlS [1] (.tup []) [(1,⟨(zm zl ym).map Sn.D,2,false⟩)] 2,.gloop (sd212 ym) .ret (sd215 ym yn yE yw)] (Ai (zU (q:=zh ym (zm zl ym)) (lp_ranges_gathered_4p1 ym (zm zl ym) (zm zl ym) 0 (List.drop_zero) (Nat.zero_le _) (by simp only [zq,GS.some_l,List.length_set,List.length_append,List.length_cons,List.length_nil] at * <;> first | with_reducible assumption | omega) (by simp only [zq,GS.some_l,List.length_set,List.length_append,List.length_cons,List.length_nil] at * <;> first | with_reducible assumption | omega)) h34) (Ai (gc_of (C:=cfg) (f:=69) (a:=lp69_4) (ks:=[4,10,11,12]) (st:=(sd211 ym)) (st1:=(sd212 ym)) (by kernel_rfl) (by (simp only [sd211,sd212,go_sem,List.length_set,Nat.reduceAdd,Nat.reduceEqDiff,Nat.reduceLT,Nat.reduceLeDiff,bI2,zb.idsL,zb.renL,zb.snapAll,z6.idsL,z6.renL,z6.snapAll]) <;> rfl)) (Ai (Ai (show ze [(1,⟨ym.map Sn.D,2,false⟩)] 256 [1] []=some [1] from (by (simp only [ze,go_sem,List.length_set,Nat.reduceAdd,Nat.reduceEqDiff,Nat.reduceLT,Nat.reduceLeDiff,bI2,zb.idsL,zb.renL,zb.snapAll,z6.idsL,z6.renL,z6.snapAll]) <;> rfl)) (T_sort 1 2 none ym (by omega))) trivial))) (by kernel_rfl))) (Ai p4 (Ai h2 (Ai (zi Sn.D r) (Ai h1 (Ai (zv r (by omega)) trivial)))))) (by kernel_rfl)
    | x3 =>
     try dsimp only
     exact zo ((ranges_Shift_o2 r by_ ym)++[.inlS [1] (.tup [.sl true [] 0 none,I 0]) [(1,⟨(zm zl ym).map Sn.D,2,false⟩)] 2]) (Ai (Ai (show ze [(0,⟨[I by_],1,true⟩),(1,⟨ym.map Sn.D,2,false⟩)] 256 [1] []=some [1] from (by (simp only [ze,go_sem,List.length_set,Nat.reduceAdd,Nat.reduceEqDiff,Nat.reduceLT,Nat.reduceLeDiff,bI2,zb.idsL,zb.renL,zb.snapAll,z6.idsL,z6.renL,z6.snapAll]) <;> rfl)) (show (lim cfg).inl 69 [.lsl 1 0 ym.length 2 none] [(1,⟨ym.map Sn.D,2,false⟩)] 2=some (.tup [.sl true [] 0 none,I 0],[(1,⟨(zm zl ym).map Sn.D,2,false⟩)],2) from zX [.inlS [1] (.tup []) [(1,⟨(zm zl ym).map Sn.D,2,false⟩)] 2,.gloop (sd212 ym) (.exit 0) (sd216 ym),.dec false] (Ai (Eq.refl false) (Ai (zU (q:=zh ym (zm zl ym)) (lp_ranges_gathered_4p1 ym (zm zl ym) (zm zl ym) 0 (List.drop_zero) (Nat.zero_le _) (by simp only [zq,GS.some_l,List.length_set,List.length_append,List.length_cons,List.length_nil] at * <;> first | with_reducible assumption | omega) (by simp only [zq,GS.some_l,List.length_set,List.length_append,List.length_cons,List.length_nil] at * <;> first | with_reducible assumption | omega)) h34) (Ai (gc_of (C:=cfg) (f:=69) (a:=lp69_4) (ks:=[4,10,11,12]) (st:=(sd211 ym)) (st1:=(sd212 ym)) (by kernel_rfl) (by (simp only [sd211,sd212,go_sem,List.length_set,Nat.reduceAdd,Nat.reduceEqDiff,Nat.reduceLT,Nat.reduceLeDiff,bI2,zb.idsL,zb.renL,zb.snapAll,z6.idsL,z6.renL,z6.snapAll]) <;> rfl)) (Ai (Ai (show ze [(1,⟨ym.map Sn.D,2,false⟩)] 256 [1] []=some [1] from (by (simp only [ze,go_sem,List.length_set,Nat.reduceAdd,Nat.reduceEqDiff,Nat.reduceLT,Nat.reduceLeDiff,bI2,zb.idsL,zb.renL,zb.snapAll,z6.idsL,z6.renL,z6.snapAll]) <;> rfl)) (T_sort 1 2 none ym (by omega))) trivial)))) (by kernel_rfl))) (Ai p4 (Ai h2 (Ai (zi Sn.D r) (Ai h1 (Ai (zv r (by omega)) trivial)))))) (by kernel_rfl)
    | x4 yE yw =>
     try dsimp only
     exact zo ((ranges_Shift_o2 r by_ ym)++[.inlS [1] (.tup [.sl true [] 0 none,I 2]) [(1,⟨(zm zl ym).map Sn.D,2,false⟩),(2,⟨[.agg [I yw.lo,I yw.hi]],2,false⟩)] 3]) (Ai (Ai (show ze [(0,⟨[I by_],1,true⟩),(1,⟨ym.map Sn.D,2,false⟩)] 256 [1] []=some [1] from (by (simp only [ze,go_sem,List.length_set,Nat.reduceAdd,Nat.reduceEqDiff,Nat.reduceLT,Nat.reduceLeDiff,bI2,zb.idsL,zb.renL,zb.snapAll,z6.idsL,z6.renL,z6.snapAll]) <;> rfl)) (show (lim cfg).inl 69 [.lsl 1 0 ym.length 2 none] [(1,⟨ym.map Sn.D,2,false⟩)] 2=some (.tup [.sl true [] 0 none,I 2],[(1,⟨(zm zl ym).map Sn.D,2,false⟩),(2,⟨[.agg [I yw.lo,I yw.hi]],2,false⟩)],3) from zX [.inlS [1] (.tup []) [(1,⟨(zm zl ym).map Sn.D,2,false⟩)] 2,.gloop (sd212 ym) .ret (sd217 ym yE yw)] (Ai (zU (q:=zh ym (zm zl ym)) (lp_ranges_gathered_4p1 ym (zm zl ym) (zm zl ym) 0 (List.drop_zero) (Nat.zero_le _) (by simp only [zq,GS.some_l,List.length_set,List.length_append,List.length_cons,List.length_nil] at * <;> first | with_reducible assumption | omega) (by simp only [zq,GS.some_l,List.length_set,List.length_append,List.length_cons,List.length_nil] at * <;> first | with_reducible assumption | omega)) h34) (Ai (gc_of (C:=cfg) (f:=69) (a:=lp69_4) (ks:=[4,10,11,12]) (st:=(sd211 ym)) (st1:=(sd212 ym)) (by kernel_rfl) (by (simp only [sd211,sd212,go_sem,List.length_set,Nat.reduceAdd,Nat.reduceEqDiff,Nat.reduceLT,Nat.reduceLeDiff,bI2,zb.idsL,zb.renL,zb.snapAll,z6.idsL,z6.renL,z6.snapAll]) <;> rfl)) (Ai (Ai (show ze [(1,⟨ym.map Sn.D,2,false⟩)] 256 [1] []=some [1] from (by (simp only [ze,go_sem,List.length_set,Nat.reduceAdd,Nat.reduceEqDiff,Nat.reduceLT,Nat.reduceLeDiff,bI2,zb.idsL,zb.renL,zb.snapAll,z6.idsL,z6.renL,z6.snapAll]) <;> rfl)) (T_sort 1 2 none ym (by omega))) trivial))) (by kernel_rfl))) (Ai p4 (Ai h2 (Ai (zi Sn.D r) (Ai h1 (Ai (zv r (by omega)) trivial)))))) (by kernel_rfl)
    | x5 yE yw =>
     try dsimp only
     exact zo ((ranges_Shift_o2 r by_ ym)++[.inlS [1] (.tup [.sl true [] 0 none,I 2]) [(1,⟨(zm zl ym).map Sn.D,2,false⟩),(2,⟨[.agg [I yw.lo,I yw.hi]],2,false⟩)] 3]) (Ai (Ai (show ze [(0,⟨[I by_],1,true⟩),(1,⟨ym.map Sn.D,2,false⟩)] 256 [1] []=some [1] from (by (simp only [ze,go_sem,List.length_set,Nat.reduceAdd,Nat.reduceEqDiff,Nat.reduceLT,Nat.reduceLeDiff,bI2,zb.idsL,zb.renL,zb.snapAll,z6.idsL,z6.renL,z6.snapAll]) <;> rfl)) (show (lim cfg).inl 69 [.lsl 1 0 ym.length 2 none] [(1,⟨ym.map Sn.D,2,false⟩)] 2=some (.tup [.sl true [] 0 none,I 2],[(1,⟨(zm zl ym).map Sn.D,2,false⟩),(2,⟨[.agg [I yw.lo,I yw.hi]],2,false⟩)],3) from zX [.inlS [1] (.tup []) [(1,⟨(zm zl ym).map Sn.D,2,false⟩)] 2,.gloop (sd212 ym) .ret (sd218 ym yE yw)] (Ai (zU (q:=zh ym (zm zl ym)) (lp_ranges_gathered_4p1 ym (zm zl ym) (zm zl ym) 0 (List.drop_zero) (Nat.zero_le _) (by simp only [zq,GS.some_l,List.length_set,List.length_append,List.length_cons,List.length_nil] at * <;> first | with_reducible assumption | omega) (by simp only [zq,GS.some_l,List.length_set,List.length_append,List.length_cons,List.length_nil] at * <;> first | with_reducible assumption | omega)) h34) (Ai (gc_of (C:=cfg) (f:=69) (a:=lp69_4) (ks:=[4,10,11,12]) (st:=(sd211 ym)) (st1:=(sd212 ym)) (by kernel_rfl) (by (simp only [sd211,sd212,go_sem,List.length_set,Nat.reduceAdd,Nat.reduceEqDiff,Nat.reduceLT,Nat.reduceLeDiff,bI2,zb.idsL,zb.renL,zb.snapAll,z6.idsL,z6.renL,z6.snapAll]) <;> rfl)) (Ai (Ai (show ze [(1,⟨ym.map Sn.D,2,false⟩)] 256 [1] []=some [1] from (by (simp only [ze,go_sem,List.length_set,Nat.reduceAdd,Nat.reduceEqDiff,Nat.reduceLT,Nat.reduceLeDiff,bI2,zb.idsL,zb.renL,zb.snapAll,z6.idsL,z6.renL,z6.snapAll]) <;> rfl)) (T_sort 1 2 none ym (by omega))) trivial))) (by kernel_rfl))) (Ai p4 (Ai h2 (Ai (zi Sn.D r) (Ai h1 (Ai (zv r (by omega)) trivial)))))) (by kernel_rfl)
   | x1 yk =>
    try dsimp only
    have hv_h33:=ivt_ranges_each_3p1 r by_ r.l 0 (List.drop_zero) (Nat.zero_le _) (by omega)
    rw [h33] at hv_h33
    have hv_h33_0:=hv_h33
    try dsimp only [iv_ranges_each_3p1] at hv_h33_0
    have p5:=(show (lim cfg).inl 70 [.sl r.nl (r.l.map Sn.D) (zsl r.nl 2) none,.fn (.func 85) [] [.lref 0 0 1 0]] [(0,⟨[I by_],1,false⟩)] 1=some (.lsl 1 0 yk.length 2 none,[(0,⟨[I by_],1,false⟩),(1,⟨yk.map Sn.D,2,false⟩)],2) from zX [.rw 9 (I ((r.l.length:Nat):Int)),.loop (.exit 0) (sd219 r by_ yk)] (Ai (zU (q:=yj r by_) (lp_ranges_each_3p1 r by_ r.l 0 (List.drop_zero) (Nat.zero_le _) (by omega)) h33) (Ai (zi Sn.D r) trivial)) (by kernel_rfl))
    cases h36:zw (zm zl yk) 0 with
    | x0 yn =>
     try dsimp only
     have hv_h36:=zz yk (zm zl yk) (zm zl yk) 0 (List.drop_zero) (Nat.zero_le _) (by simp only [zq,GS.some_l,List.length_set,List.length_append,List.length_cons,List.length_nil] at * <;> first | with_reducible assumption | omega) (by simp only [zq,GS.some_l,List.length_set,List.length_append,List.length_cons,List.length_nil] at * <;> first | with_reducible assumption | omega)
     rw [h36] at hv_h36
     obtain ⟨hv_h36_0,hv_h36_1⟩:=hv_h36
     try dsimp only [zk] at hv_h36_0
     try dsimp only [zk] at hv_h36_1
     cases h37:decide (((yn.length:Nat):Int) > 64) with
     | true =>
      have g37:=of_decide_eq_true h37
      exact zo ((ranges_Shift_o3 r by_ yk)++[.inlS [1] (.tup [.sl true [] 0 none,I 2]) [(1,⟨(zm zl yk).map Sn.D,2,false⟩),(2,⟨yn.map Sn.D,2,false⟩)] 3]) (Ai (Ai (show ze [(0,⟨[I by_],1,false⟩),(1,⟨yk.map Sn.D,2,false⟩)] 256 [1] []=some [1] from (by (simp only [ze,go_sem,List.length_set,Nat.reduceAdd,Nat.reduceEqDiff,Nat.reduceLT,Nat.reduceLeDiff,bI2,zb.idsL,zb.renL,zb.snapAll,z6.idsL,z6.renL,z6.snapAll]) <;> rfl)) (show (lim cfg).inl 69 [.lsl 1 0 yk.length 2 none] [(1,⟨yk.map Sn.D,2,false⟩)] 2=some (.tup [.sl true [] 0 none,I 2],[(1,⟨(zm zl yk).map Sn.D,2,false⟩),(2,⟨yn.map Sn.D,2,false⟩)],3) from zX [.inlS [1] (.tup []) [(1,⟨(zm zl yk).map Sn.D,2,false⟩)] 2,.gloop (sd97 yk) (.exit 0) (sd98 yk yn),.dec true] (Ai h37 (Ai (zU (q:=zh yk (zm zl yk)) (lp_ranges_gathered_4p1 yk (zm zl yk) (zm zl yk) 0 (List.drop_zero) (Nat.zero_le _) (by simp only [zq,GS.some_l,List.length_set,List.length_append,List.length_cons,List.length_nil] at * <;> first | with_reducible assumption | omega) (by simp only [zq,GS.some_l,List.length_set,List.length_append,List.length_cons,List.length_nil] at * <;> first | with_reducible assumption | omega)) h36) (Ai (gc_of (C:=cfg) (f:=69) (a:=lp69_4) (ks:=[4,10,11,12]) (st:=(sd96 yk)) (st1:=(sd97 yk)) (by kernel_rfl) (by (simp only [sd96,sd97,go_sem,List.length_set,Nat.reduceAdd,Nat.reduceEqDiff,Nat.reduceLT,Nat.reduceLeDiff,bI2,zb.idsL,zb.renL,zb.snapAll,z6.idsL,z6.renL,z6.snapAll]) <;> rfl)) (Ai (Ai (show ze [(1,⟨yk.map Sn.D,2,false⟩)] 256 [1] []=some [1] from (by (simp only [ze,go_sem,List.length_set,Nat.reduceAdd,Nat.reduceEqDiff,Nat.reduceLT,Nat.reduceLeDiff,bI2,zb.idsL,zb.renL,zb.snapAll,z6.idsL,z6.renL,z6.snapAll]) <;> rfl)) (T_sort 1 2 none yk (by omega))) trivial)))) (by kernel_rfl))) (Ai p5 (Ai h2 (Ai (zi Sn.D r) (Ai h1 (Ai (zv r (by omega)) trivial)))))) (by kernel_rfl)
     | false =>
      have g37:=of_decide_eq_false h37
      exact po_pureS ((ranges_Shift_o3 r by_ yk)++[.inlS [1] (.tup [.lsl 2 0 yn.length 2 none,I 0]) [(1,⟨(zm zl yk).map Sn.D,2,false⟩),(2,⟨yn.map Sn.D,2,false⟩)] 3]) [(2,.sl false (yn.map Sn.D) 2 none,[2])] (Ai (snap_row (gO:=zu [(0,⟨[I by_],1,false⟩),(1,⟨(zm zl yk).map Sn.D,2,false⟩),(2,⟨yn.map Sn.D,2,false⟩)]) (o:=2) (len:=yn.length) (cap:=none) (fz:=false) z6 yn (by kernel_rfl) (by omega)) (Ai (Ai (show ze [(0,⟨[I by_],1,false⟩),(1,⟨yk.map Sn.D,2,false⟩)] 256 [1] []=some [1] from (by (simp only [ze,go_sem,List.length_set,Nat.reduceAdd,Nat.reduceEqDiff,Nat.reduceLT,Nat.reduceLeDiff,bI2,zb.idsL,zb.renL,zb.snapAll,z6.idsL,z6.renL,z6.snapAll]) <;> rfl)) (show (lim cfg).inl 69 [.lsl 1 0 yk.length 2 none] [(1,⟨yk.map Sn.D,2,false⟩)] 2=some (.tup [.lsl 2 0 yn.length 2 none,I 0],[(1,⟨(zm zl yk).map Sn.D,2,false⟩),(2,⟨yn.map Sn.D,2,false⟩)],3) from zX [.inlS [1] (.tup []) [(1,⟨(zm zl yk).map Sn.D,2,false⟩)] 2,.gloop (sd97 yk) (.exit 0) (sd98 yk yn),.dec false] (Ai h37 (Ai (zU (q:=zh yk (zm zl yk)) (lp_ranges_gathered_4p1 yk (zm zl yk) (zm zl yk) 0 (List.drop_zero) (Nat.zero_le _) (by simp only [zq,GS.some_l,List.length_set,List.length_append,List.length_cons,List.length_nil] at * <;> first | with_reducible assumption | omega) (by simp only [zq,GS.some_l,List.length_set,List.length_append,List.length_cons,List.length_nil] at * <;> first | with_reducible assumption | omega)) h36) (Ai (gc_of (C:=cfg) (f:=69) (a:=lp69_4) (ks:=[4,10,11,12]) (st:=(sd96 yk)) (st1:=(sd97 yk)) (by kernel_rfl) (by (simp only [sd96,sd97,go_sem,List.length_set,Nat.reduceAdd,Nat.reduceEqDiff,Nat.reduceLT,Nat.reduceLeDiff,bI2,zb.idsL,zb.renL,zb.snapAll,z6.idsL,z6.renL,z6.snapAll]) <;> rfl)) (Ai (Ai (show ze [(1,⟨yk.map Sn.D,2,false⟩)] 256 [1] []=some [1] from (by (simp only [ze,go_sem,List.length_set,Nat.reduceAdd,Nat.reduceEqDiff,Nat.reduceLT,Nat.reduceLeDiff,bI2,zb.idsL,zb.renL,zb.snapAll,z6.idsL,z6.renL,z6.snapAll]) <;> rfl)) (T_sort 1 2 none yk (by omega))) trivial)))) (by kernel_rfl))) (Ai p5 (Ai h2 (Ai (zi Sn.D r) (Ai h1 (Ai (zv r (by omega)) trivial))))))) (by kernel_rfl)
    | x1 yE yw yn =>
     try dsimp only
     have hv_h36:=zz yk (zm zl yk) (zm zl yk) 0 (List.drop_zero) (Nat.zero_le _) (by simp only [zq,GS.some_l,List.length_set,List.length_append,List.length_cons,List.length_nil] at * <;> first | with_reducible assumption | omega) (by simp only [zq,GS.some_l,List.length_set,List.length_append,List.length_cons,List.length_nil] at * <;> first | with_reducible assumption | omega)
     rw [h36] at hv_h36
     obtain ⟨hv_h36_0,hv_h36_1⟩:=hv_h36
     try dsimp only [zk] at hv_h36_0
     try dsimp only [zk] at hv_h36_1
     exact zo ((ranges_Shift_o3 r by_ yk)++[.inlS [1] (.tup [.sl true [] 0 none,I 2]) [(1,⟨(zm zl yk).map Sn.D,2,false⟩),(2,⟨yn.map Sn.D,2,false⟩),(3,⟨[.agg [I yw.lo,I yw.hi]],2,false⟩)] 4]) (Ai (Ai (show ze [(0,⟨[I by_],1,false⟩),(1,⟨yk.map Sn.D,2,false⟩)] 256 [1] []=some [1] from (by (simp only [ze,go_sem,List.length_set,Nat.reduceAdd,Nat.reduceEqDiff,Nat.reduceLT,Nat.reduceLeDiff,bI2,zb.idsL,zb.renL,zb.snapAll,z6.idsL,z6.renL,z6.snapAll]) <;> rfl)) (show (lim cfg).inl 69 [.lsl 1 0 yk.length 2 none] [(1,⟨yk.map Sn.D,2,false⟩)] 2=some (.tup [.sl true [] 0 none,I 2],[(1,⟨(zm zl yk).map Sn.D,2,false⟩),(2,⟨yn.map Sn.D,2,false⟩),(3,⟨[.agg [I yw.lo,I yw.hi]],2,false⟩)],4) from zX [.inlS [1] (.tup []) [(1,⟨(zm zl yk).map Sn.D,2,false⟩)] 2,.gloop (sd97 yk) .ret (sd99 yk yn yE yw)] (Ai (zU (q:=zh yk (zm zl yk)) (lp_ranges_gathered_4p1 yk (zm zl yk) (zm zl yk) 0 (List.drop_zero) (Nat.zero_le _) (by simp only [zq,GS.some_l,List.length_set,List.length_append,List.length_cons,List.length_nil] at * <;> first | with_reducible assumption | omega) (by simp only [zq,GS.some_l,List.length_set,List.length_append,List.length_cons,List.length_nil] at * <;> first | with_reducible assumption | omega)) h36) (Ai (gc_of (C:=cfg) (f:=69) (a:=lp69_4) (ks:=[4,10,11,12]) (st:=(sd96 yk)) (st1:=(sd97 yk)) (by kernel_rfl) (by (simp only [sd96,sd97,go_sem,List.length_set,Nat.reduceAdd,Nat.reduceEqDiff,Nat.reduceLT,Nat.reduceLeDiff,bI2,zb.idsL,zb.renL,zb.snapAll,z6.idsL,z6.renL,z6.snapAll]) <;> rfl)) (Ai (Ai (show ze [(1,⟨yk.map Sn.D,2,false⟩)] 256 [1] []=some [1] from (by (simp only [ze,go_sem,List.length_set,Nat.reduceAdd,Nat.reduceEqDiff,Nat.reduceLT,Nat.reduceLeDiff,bI2,zb.idsL,zb.renL,zb.snapAll,z6.idsL,z6.renL,z6.snapAll]) <;> rfl)) (T_sort 1 2 none yk (by omega))) trivial))) (by kernel_rfl))) (Ai p5 (Ai h2 (Ai (zi Sn.D r) (Ai h1 (Ai (zv r (by omega)) trivial)))))) (by kernel_rfl)
    | x2 yE yw yn =>
     try dsimp only
     have hv_h36:=zz yk (zm zl yk) (zm zl yk) 0 (List.drop_zero) (Nat.zero_le _) (by simp only [zq,GS.some_l,List.length_set,List.length_append,List.length_cons,List.length_nil] at * <;> first | with_reducible assumption | omega) (by simp only [zq,GS.some_l,List.length_set,List.length_append,List.length_cons,List.length_nil] at * <;> first | with_reducible assumption | omega)
     rw [h36] at hv_h36
     obtain ⟨hv_h36_0,hv_h36_1⟩:=hv_h36
     try dsimp only [zk] at hv_h36_0
     try dsimp only [zk] at hv_h36_1
     exact zo ((ranges_Shift_o3 r by_ yk)++[.inlS [1] (.tup [.sl true [] 0 none,I 2]) [(1,⟨(zm zl yk).map Sn.D,2,false⟩),(2,⟨yn.map Sn.D,2,false⟩),(3,⟨[.agg [I yw.lo,I yw.hi]],2,false⟩)] 4]) (Ai (Ai (show ze [(0,⟨[I by_],1,false⟩),(1,⟨yk.map Sn.D,2,false⟩)] 256 [1] []=some [1] from (by (simp only [ze,go_sem,List.length_set,Nat.reduceAdd,Nat.reduceEqDiff,Nat.reduceLT,Nat.reduceLeDiff,bI2,zb.idsL,zb.renL,zb.snapAll,z6.idsL,z6.renL,z6.snapAll]) <;> rfl)) (show (lim cfg).inl 69 [.lsl 1 0 yk.length 2 none] [(1,⟨yk.map Sn.D,2,false⟩)] 2=some (.tup [.sl true [] 0 none,I 2],[(1,⟨(zm zl yk).map Sn.D,2,false⟩),(2,⟨yn.map Sn.D,2,false⟩),(3,⟨[.agg [I yw.lo,I yw.hi]],2,false⟩)],4) from zX [.inlS [1] (.tup []) [(1,⟨(zm zl yk).map Sn.D,2,false⟩)] 2,.gloop (sd97 yk) .ret (sd100 yk yn yE yw)] (Ai (zU (q:=zh yk (zm zl yk)) (lp_ranges_gathered_4p1 yk (zm zl yk) (zm zl yk) 0 (List.drop_zero) (Nat.zero_le _) (by simp only [zq,GS.some_l,List.length_set,List.length_append,List.length_cons,List.length_nil] at * <;> first | with_reducible assumption | omega) (by simp only [zq,GS.some_l,List.length_set,List.length_append,List.length_cons,List.length_nil] at * <;> first | with_reducible assumption | omega)) h36) (Ai (gc_of (C:=cfg) (f:=69) (a:=lp69_4) (ks:=[4,10,11,12]) (st:=(sd96 yk)) (st1:=(sd97 yk)) (by kernel_rfl) (by (simp only [sd96,sd97,go_sem,List.length_set,Nat.reduceAdd,Nat.reduceEqDiff,Nat.reduceLT,Nat.reduceLeDiff,bI2,zb.idsL,zb.renL,zb.snapAll,z6.idsL,z6.renL,z6.snapAll]) <;> rfl)) (Ai (Ai (show ze [(1,⟨yk.map Sn.D,2,false⟩)] 256 [1] []=some [1] from (by (simp only [ze,go_sem,List.length_set,Nat.reduceAdd,Nat.reduceEqDiff,Nat.reduceLT,Nat.reduceLeDiff,bI2,zb.idsL,zb.renL,zb.snapAll,z6.idsL,z6.renL,z6.snapAll]) <;> rfl)) (T_sort 1 2 none yk (by omega))) trivial))) (by kernel_rfl))) (Ai p5 (Ai h2 (Ai (zi Sn.D r) (Ai h1 (Ai (zv r (by omega)) trivial)))))) (by kernel_rfl)
    | x3 =>
     try dsimp only
     exact zo ((ranges_Shift_o3 r by_ yk)++[.inlS [1] (.tup [.sl true [] 0 none,I 0]) [(1,⟨(zm zl yk).map Sn.D,2,false⟩)] 2]) (Ai (Ai (show ze [(0,⟨[I by_],1,false⟩),(1,⟨yk.map Sn.D,2,false⟩)] 256 [1] []=some [1] from (by (simp only [ze,go_sem,List.length_set,Nat.reduceAdd,Nat.reduceEqDiff,Nat.reduceLT,Nat.reduceLeDiff,bI2,zb.idsL,zb.renL,zb.snapAll,z6.idsL,z6.renL,z6.snapAll]) <;> rfl)) (show (lim cfg).inl 69 [.lsl 1 0 yk.length 2 none] [(1,⟨yk.map Sn.D,2,false⟩)] 2=some (.tup [.sl true [] 0 none,I 0],[(1,⟨(zm zl yk).map Sn.D,2,false⟩)],2) from zX [.inlS [1] (.tup []) [(1,⟨(zm zl yk).map Sn.D,2,false⟩)] 2,.gloop (sd97 yk) (.exit 0) (sd101 yk),.dec false] (Ai (Eq.refl false) (Ai (zU (q:=zh yk (zm zl yk)) (lp_ranges_gathered_4p1 yk (zm zl yk) (zm zl yk) 0 (List.drop_zero) (Nat.zero_le _) (by simp only [zq,GS.some_l,List.length_set,List.length_append,List.length_cons,List.length_nil] at * <;> first | with_reducible assumption | omega) (by simp only [zq,GS.some_l,List.length_set,List.length_append,List.length_cons,List.length_nil] at * <;> first | with_reducible assumption | omega)) h36) (Ai (gc_of (C:=cfg) (f:=69) (a:=lp69_4) (ks:=[4,10,11,12]) (st:=(sd96 yk)) (st1:=(sd97 yk)) (by kernel_rfl) (by (simp only [sd96,sd97,go_sem,List.length_set,Nat.reduceAdd,Nat.reduceEqDiff,Nat.reduceLT,Nat.reduceLeDiff,bI2,zb.idsL,zb.renL,zb.snapAll,z6.idsL,z6.renL,z6.snapAll]) <;> rfl)) (Ai (Ai (show ze [(1,⟨yk.map Sn.D,2,false⟩)] 256 [1] []=some [1] from (by (simp only [ze,go_sem,List.length_set,Nat.reduceAdd,Nat.reduceEqDiff,Nat.reduceLT,Nat.reduceLeDiff,bI2,zb.idsL,zb.renL,zb.snapAll,z6.idsL,z6.renL,z6.snapAll]) <;> rfl)) (T_sort 1 2 none yk (by omega))) trivial)))) (by kernel_rfl))) (Ai p5 (Ai h2 (Ai (zi Sn.D r) (Ai h1 (Ai (zv r (by omega)) trivial)))))) (by kernel_rfl)
    | x4 yE yw =>
     try dsimp only
     exact zo ((ranges_Shift_o3 r by_ yk)++[.inlS [1] (.tup [.sl true [] 0 none,I 2]) [(1,⟨(zm zl yk).map Sn.D,2,false⟩),(2,⟨[.agg [I yw.lo,I yw.hi]],2,false⟩)] 3]) (Ai (Ai (show ze [(0,⟨[I by_],1,false⟩),(1,⟨yk.map Sn.D,2,false⟩)] 256 [1] []=some [1] from (by (simp only [ze,go_sem,List.length_set,Nat.reduceAdd,Nat.reduceEqDiff,Nat.reduceLT,Nat.reduceLeDiff,bI2,zb.idsL,zb.renL,zb.snapAll,z6.idsL,z6.renL,z6.snapAll]) <;> rfl)) (show (lim cfg).inl 69 [.lsl 1 0 yk.length 2 none] [(1,⟨yk.map Sn.D,2,false⟩)] 2=some (.tup [.sl true [] 0 none,I 2],[(1,⟨(zm zl yk).map Sn.D,2,false⟩),(2,⟨[.agg [I yw.lo,I yw.hi]],2,false⟩)],3) from zX [.inlS [1] (.tup []) [(1,⟨(zm zl yk).map Sn.D,2,false⟩)] 2,.gloop (sd97 yk) .ret (sd102 yk yE yw)] (Ai (zU (q:=zh yk (zm zl yk)) (lp_ranges_gathered_4p1 yk (zm zl yk) (zm zl yk) 0 (List.drop_zero) (Nat.zero_le _) (by simp only [zq,GS.some_l,List.length_set,List.length_append,List.length_cons,List.length_nil] at * <;> first | with_reducible assumption | omega) (by simp only [zq,GS.some_l,List.length_set,List.length_append,List.length_cons,List.length_nil] at * <;> first | with_reducible assumption | omega)) h36) (Ai (gc_of (C:=cfg) (f:=69) (a:=lp69_4) (ks:=[4,10,11,12]) (st:=(sd96 yk)) (st1:=(sd97 yk)) (by kernel_rfl) (by (simp only [sd96,sd97,go_sem,List.length_set,Nat.reduceAdd,Nat.reduceEqDiff,Nat.reduceLT,Nat.reduceLeDiff,bI2,zb.idsL,zb.renL,zb.snapAll,z6.idsL,z6.renL,z6.snapAll]) <;> rfl)) (Ai (Ai (show ze [(1,⟨yk.map Sn.D,2,false⟩)] 256 [1] []=some [1] from (by (simp only [ze,go_sem,List.length_set,Nat.reduceAdd,Nat.reduceEqDiff,Nat.reduceLT,Nat.reduceLeDiff,bI2,zb.idsL,zb.renL,zb.snapAll,z6.idsL,z6.renL,z6.snapAll]) <;> rfl)) (T_sort 1 2 none yk (by omega))) trivial))) (by kernel_rfl))) (Ai p5 (Ai h2 (Ai (zi Sn.D r) (Ai h1 (Ai (zv r (by omega)) trivial)))))) (by kernel_rfl)
    | x5 yE yw =>
     try dsimp only
     exact zo ((ranges_Shift_o3 r by_ yk)++[.inlS [1] (.tup [.sl true [] 0 none,I 2]) [(1,⟨(zm zl yk).map Sn.D,2,false⟩),(2,⟨[.agg [I yw.lo,I yw.hi]],2,false⟩)] 3]) (Ai (Ai (show ze [(0,⟨[I by_],1,false⟩),(1,⟨yk.map Sn.D,2,false⟩)] 256 [1] []=some [1] from (by (simp only [ze,go_sem,List.length_set,Nat.reduceAdd,Nat.reduceEqDiff,Nat.reduceLT,Nat.reduceLeDiff,bI2,zb.idsL,zb.renL,zb.snapAll,z6.idsL,z6.renL,z6.snapAll]) <;> rfl)) (show (lim cfg).inl 69 [.lsl 1 0 yk.length 2 none] [(1,⟨yk.map Sn.D,2,false⟩)] 2=some (.tup [.sl true [] 0 none,I 2],[(1,⟨(zm zl yk).map Sn.D,2,false⟩),(2,⟨[.agg [I yw.lo,I yw.hi]],2,false⟩)],3) from zX [.inlS [1] (.tup []) [(1,⟨(zm zl yk).map Sn.D,2,false⟩)] 2,.gloop (sd97 yk) .ret (sd103 yk yE yw)] (Ai (zU (q:=zh yk (zm zl yk)) (lp_ranges_gathered_4p1 yk (zm zl yk) (zm zl yk) 0 (List.drop_zero) (Nat.zero_le _) (by simp only [zq,GS.some_l,List.length_set,List.length_append,List.length_cons,List.length_nil] at * <;> first | with_reducible assumption | omega) (by simp only [zq,GS.some_l,List.length_set,List.length_append,List.length_cons,List.length_nil] at * <;> first | with_reducible assumption | omega)) h36) (Ai (gc_of (C:=cfg) (f:=69) (a:=lp69_4) (ks:=[4,10,11,12]) (st:=(sd96 yk)) (st1:=(sd97 yk)) (by kernel_rfl) (by (simp only [sd96,sd97,go_sem,List.length_set,Nat.reduceAdd,Nat.reduceEqDiff,Nat.reduceLT,Nat.reduceLeDiff,bI2,zb.idsL,zb.renL,zb.snapAll,z6.idsL,z6.renL,z6.snapAll]) <;> rfl)) (Ai (Ai (show ze [(1,⟨yk.map Sn.D,2,false⟩)] 256 [1] []=some [1] from (by (simp only [ze,go_sem,List.length_set,Nat.reduceAdd,Nat.reduceEqDiff,Nat.reduceLT,Nat.reduceLeDiff,bI2,zb.idsL,zb.renL,zb.snapAll,z6.idsL,z6.renL,z6.snapAll]) <;> rfl)) (T_sort 1 2 none yk (by omega))) trivial))) (by kernel_rfl))) (Ai p5 (Ai h2 (Ai (zi Sn.D r) (Ai h1 (Ai (zv r (by omega)) trivial)))))) (by kernel_rfl)
   | x2 =>
    try dsimp only
    exact zo [.pure (I (zF r)),.dec false,.rw 13 (I ((r.l.length:Nat):Int)),.dec false,.inl (.sl true [] 0 none) [(0,⟨[I by_],1,true⟩)] 1,.inl (.tup [.sl true [] 0 none,I 0]) [] 1] (Ai (show (lim cfg).inl 69 [.sl true [] 0 none] [] 1=some (.tup [.sl true [] 0 none,I 0],[],1) from zX [.inl (.tup []) [] 1,.loop (.exit 0) ⟨65,[(13,B false),(4,.sl true [] 0 none),(10,.sl true [] 0 none),(11,I 0),(12,I 0)],[],1,1⟩,.dec false] (Ai (Eq.refl false) (Ai (show (lim cfg).loop 69 lp69_4 ⟨65,[(4,.sl true [] 0 none),(10,.sl true [] 0 none),(11,I 0),(12,I 0)],[],1,1⟩=some ((.exit 0),⟨65,[(13,B false),(4,.sl true [] 0 none),(10,.sl true [] 0 none),(11,I 0),(12,I 0)],[],1,1⟩) from (zR [.dec false] (Ai (Eq.refl false) trivial) (by kernel_rfl))) (Ai (T_sort_nil 1) trivial))) (by kernel_rfl)) (Ai (show (lim cfg).inl 70 [.sl r.nl (r.l.map Sn.D) (zsl r.nl 2) none,.fn (.func 85) [] [.lref 0 0 1 0]] [(0,⟨[I by_],1,false⟩)] 1=some (.sl true [] 0 none,[(0,⟨[I by_],1,true⟩)],1) from zX [.rw 9 (I ((r.l.length:Nat):Int)),.loop (.exit 0) (sd220 r by_)] (Ai (zU (q:=yj r by_) (lp_ranges_each_3p1 r by_ r.l 0 (List.drop_zero) (Nat.zero_le _) (by omega)) h33) (Ai (zi Sn.D r) trivial)) (by kernel_rfl)) (Ai h2 (Ai (zi Sn.D r) (Ai h1 (Ai (zv r (by omega)) trivial)))))) (by kernel_rfl)
   | x3 =>
    try dsimp only
    exact zo [.pure (I (zF r)),.dec false,.rw 13 (I ((r.l.length:Nat):Int)),.dec false,.inl (.sl true [] 0 none) [(0,⟨[I by_],1,false⟩)] 1,.inl (.tup [.sl true [] 0 none,I 0]) [] 1] (Ai (show (lim cfg).inl 69 [.sl true [] 0 none] [] 1=some (.tup [.sl true [] 0 none,I 0],[],1) from zX [.inl (.tup []) [] 1,.loop (.exit 0) ⟨65,[(13,B false),(4,.sl true [] 0 none),(10,.sl true [] 0 none),(11,I 0),(12,I 0)],[],1,1⟩,.dec false] (Ai (Eq.refl false) (Ai (show (lim cfg).loop 69 lp69_4 ⟨65,[(4,.sl true [] 0 none),(10,.sl true [] 0 none),(11,I 0),(12,I 0)],[],1,1⟩=some ((.exit 0),⟨65,[(13,B false),(4,.sl true [] 0 none),(10,.sl true [] 0 none),(11,I 0),(12,I 0)],[],1,1⟩) from (zR [.dec false] (Ai (Eq.refl false) trivial) (by kernel_rfl))) (Ai (T_sort_nil 1) trivial))) (by kernel_rfl)) (Ai (show (lim cfg).inl 70 [.sl r.nl (r.l.map Sn.D) (zsl r.nl 2) none,.fn (.func 85) [] [.lref 0 0 1 0]] [(0,⟨[I by_],1,false⟩)] 1=some (.sl true [] 0 none,[(0,⟨[I by_],1,false⟩)],1) from zX [.rw 9 (I ((r.l.length:Nat):Int)),.loop (.exit 0) (sd221 r by_)] (Ai (zU (q:=yj r by_) (lp_ranges_each_3p1 r by_ r.l 0 (List.drop_zero) (Nat.zero_le _) (by omega)) h33) (Ai (zi Sn.D r) trivial)) (by kernel_rfl)) (Ai h2 (Ai (zi Sn.D r) (Ai h1 (Ai (zv r (by omega)) trivial)))))) (by kernel_rfl)
end Go.VS

namespace Go.VS
open Go
set_option maxHeartbeats 0
set_option linter.unusedSimpArgs false
set_option linter.unusedVariables false
theorem getD_last {v:List Sn} {c:Sn}:(v++[c]).getD v.length default=c:=by
 rw [List.getD_eq_getElem?_getD,List.getElem?_append_right (Nat.le_refl _)]; simp
theorem set_last {v:List Sn} {c d:Sn}:(v++[c]).set v.length d=v++[d]:=by
 rw [List.set_append_right _ _ (Nat.le_refl _)]; simp
theorem len_last {v:List Sn} {c:Sn}:w64 ((((v++[c]).length:Nat):Int) - 1)=((v.length:Nat):Int) ∨ 9223372036854775807 < v.length:=by
 by_cases h:9223372036854775807 < v.length
 ·exact .inr h
 ·left
  simp only [List.length_append,List.length_cons,List.length_nil]
  rw [w64_eq (by omega) (by omega)]; omega
def ArL (l:List Sn):Prop:=∀ s∈l,Ar s.lo∧Ar s.hi

theorem ranges_gathered_4p1_ok:∀ (l:List Sn) (i:Nat) (v:List Sn) (c:Sn),ArL l→Ar c.hi→v.length+l.length≤1099511627776→zS l i (v++[c])=.x0 (v++jn c l)
 | [],i,v,c,_,_,_=>rfl
 | x::l,i,v,c,h,hc,hv=>by
  have hx:=h x List.mem_cons_self
  have h':ArL l:=fun t ht=>h t (List.mem_cons_of_mem _ ht)
  simp only [List.length_cons] at hv
  unfold zS jn
  rw [area_iff.2 hx.1,area_iff.2 hx.2]
  have hl:w64 ((((v++[c]).length:Nat):Int) - 1)=((v.length:Nat):Int):=by
   rcases len_last (v:=v) (c:=c) with e | e
   ·exact e
   ·omega
  have hp:decide ((((v++[c]).length:Nat):Int) > 0)=true:=decide_eq_true (by simp only [List.length_append,List.length_cons,List.length_nil]; omega)
  rw [hl,hp,Int.toNat_natCast,getD_last,set_last]
  unfold Ar at hc
  have hx2:=hx.2
  unfold Ar at hx2
  rw [w64_eq (n:=c.hi+1) (by omega) (by omega),imax_eq]
  by_cases hle:x.lo≤c.hi+1
  ·rw [decide_eq_true hle,if_pos hle]
   exact ranges_gathered_4p1_ok l (i+1) v ⟨c.lo,max c.hi x.hi⟩ h' (by unfold Ar; simp only; omega) (by omega)
  ·rw [decide_eq_false hle,if_neg hle]
   have:=ranges_gathered_4p1_ok l (i+1) (v++[c]) x h' hx.2 (by simp only [List.length_append,List.length_cons,List.length_nil]; omega)
   simp only [cond_true,cond_false]
   rw [this,List.append_assoc]; rfl
def ranges_gathered_4p1_er:LR_ranges_gathered_4p1→Bool
 | .x1 _ _ _=>true
 | .x2 _ _ _=>true
 | .x4 _ _=>true
 | .x5 _ _=>true
 | _=>false
theorem ranges_gathered_4p1_bad:∀ (l:List Sn) (i:Nat) (v:List Sn),¬ ArL l→ranges_gathered_4p1_er (zS l i v)=true
 | [],i,v,h=>absurd (fun s hs=>by cases hs) h
 | x::l,i,v,h=>by
  unfold zS
  cases h1:zD x.lo with
  | false=>rfl
  | true =>
   cases h2:zD x.hi with
   | false=>rfl
   | true =>
    have h':¬ ArL l:=fun k=>h fun s hs=>by
     rcases List.mem_cons.1 hs with rfl | hs
     ·exact ⟨area_iff.1 h1,area_iff.1 h2⟩
     ·exact k s hs
    have ih:=fun v=>ranges_gathered_4p1_bad l (i+1) v h'
    simp only [cond_true]
    cases decide (((v.length:Nat):Int) > 0) with
    | false=>exact ih _
    | true =>
     simp only [cond_true]
     cases decide (x.lo≤w64 ((v.getD ((w64 (((v.length:Nat):Int) - 1)).toNat) default).hi+1)) <;> exact ih _
theorem ranges_gathered_4p1_at {l:List Sn} (hne:l ≠ []) (hl:l.length≤1099511627776):(ArL l∧zw (zm zl l) 0=.x0 (can zl l)) ∨ (¬ ArL l∧ranges_gathered_4p1_er (zw (zm zl l) 0)=true):=by
 have hp:=srtG_perm gcmp_lo l
 have hlen:=srtG_len gcmp_lo l
 have har:ArL (zm zl l)↔ArL l:=⟨fun h s hs=>h s (hp.mem_iff.2 hs),fun h s hs=>h s (hp.mem_iff.1 hs)⟩
 rw [← har]
 unfold can
 have hne':zm zl l ≠ []:=fun h=>hne (by rw [h] at hp; exact List.nil_perm.1 hp)
 generalize zm zl l=q at *
 cases q with
 | nil=>exact absurd rfl hne'
 | cons c q =>
  simp only [List.length_cons] at hlen
  unfold zw jnL
  dsimp only
  by_cases hc:Ar c.lo∧Ar c.hi
  ·rw [area_iff.2 hc.1,area_iff.2 hc.2]
   by_cases hq:ArL q
   ·left
    refine ⟨fun s hs=>?_,?_⟩
    ·rcases List.mem_cons.1 hs with rfl | hs
     ·exact hc
     ·exact hq s hs
    ·exact ranges_gathered_4p1_ok q 1 [] c hq hc.2 (by simp; omega)
   ·right
    exact ⟨fun h=>hq fun s hs=>h s (List.mem_cons_of_mem _ hs),ranges_gathered_4p1_bad q 1 [c] hq⟩
  ·right
   refine ⟨fun h=>hc (h c List.mem_cons_self),?_⟩
   cases h1:zD c.lo with
   | false=>rfl
   | true =>
    cases h2:zD c.hi with
    | false=>rfl
    | true=>exact absurd ⟨area_iff.1 h1,area_iff.1 h2⟩ hc

end Go.VS

namespace Go.VS
open Go
set_option maxHeartbeats 0
theorem flat_cons_emp {α:Type} {f:α→List Sn} {x:α} {l:List α} (h:(f x).isEmpty=true):(x::l).flatMap f=l.flatMap f:=by
 have:f x=[]:=by simpa using h
 rw [List.flatMap_cons,this]; rfl

def f_ranges_Sum_1 (x y:Sn):List Sn:=((zc x y).1).l
theorem ranges_pairs_6_eq (x:Sn):∀ (l v:List Sn),ranges_pairs_6 x l v=.x0 (v++l.flatMap (f_ranges_Sum_1 x))
 | [],v=>by simp [ranges_pairs_6]
 | y::l,v=>by
  unfold ranges_pairs_6
  rw [emp_app (fun z=>ranges_pairs_6 x l z),ranges_pairs_6_eq x l _,List.flatMap_cons,List.append_assoc]; rfl
theorem ranges_pairs_6p1a_eq (x:Sn):∀ (l v:List Sn),yg x l v=.x0 (v++l.flatMap (f_ranges_Sum_1 x))
 | [],v=>by simp [yg]
 | y::l,v=>by
  unfold yg
  rw [emp_app (fun z=>yg x l z),ranges_pairs_6p1a_eq x l _,List.flatMap_cons,List.append_assoc]; rfl
theorem ranges_pairs_6p1_eq (x:Sn):∀ (l:List Sn),(l.flatMap (f_ranges_Sum_1 x)=[]∧ranges_pairs_6p1 x l=.x1) ∨ (l.flatMap (f_ranges_Sum_1 x) ≠ []∧ranges_pairs_6p1 x l=.x0 (l.flatMap (f_ranges_Sum_1 x)))
 | []=>.inl ⟨rfl,rfl⟩
 | y::l=>by
  unfold ranges_pairs_6p1
  cases h:(((zc x y).1).l).isEmpty with
  | true =>
   rw [flat_cons_emp (f:=f_ranges_Sum_1 x) h]
   exact ranges_pairs_6p1_eq x l
  | false =>
   right
   simp only [cond_false]
   rw [ranges_pairs_6p1a_eq,List.flatMap_cons]
   refine ⟨fun k=>?_,rfl⟩
   have:=(List.append_eq_nil_iff.1 k).1
   have h2:((zc x y).1).l=[]:=this
   rw [h2] at h; cases h
theorem ranges_pairs_3a_eq (b:GS Sn):∀ (l v:List Sn),ranges_pairs_3a b l v=.x0 (v++y7 l b.l f_ranges_Sum_1)
 | [],v=>by simp [ranges_pairs_3a,y7]
 | x::l,v=>by
  unfold ranges_pairs_3a
  rw [ranges_pairs_6_eq]
  dsimp only
  rw [ranges_pairs_3a_eq b l _,List.append_assoc]; rfl
theorem ranges_pairs_3_eq (b:GS Sn):∀ (l:List Sn),(y7 l b.l f_ranges_Sum_1=[]∧ranges_pairs_3 b l=.x1) ∨ (y7 l b.l f_ranges_Sum_1 ≠ []∧ranges_pairs_3 b l=.x0 (y7 l b.l f_ranges_Sum_1))
 | []=>.inl ⟨rfl,rfl⟩
 | x::l=>by
  unfold ranges_pairs_3
  have e:y7 (x::l) b.l f_ranges_Sum_1=b.l.flatMap (f_ranges_Sum_1 x)++y7 l b.l f_ranges_Sum_1:=rfl
  rw [e]
  rcases ranges_pairs_6p1_eq x b.l with ⟨h1,h2⟩ | ⟨h1,h2⟩ <;> rw [h2] <;> dsimp only
  ·rw [h1]
   exact ranges_pairs_3_eq b l
  ·right
   rw [ranges_pairs_3a_eq]
   exact ⟨fun k=>h1 (List.append_eq_nil_iff.1 k).1,rfl⟩

def zK (x y:Sn):List Sn:=((z7 x y).1).l
theorem ranges_pairs_6p2_eq (x:Sn):∀ (l v:List Sn),y9 x l v=.x0 (v++l.flatMap (zK x))
 | [],v=>by simp [y9]
 | y::l,v=>by
  unfold y9
  rw [emp_app (fun z=>y9 x l z),ranges_pairs_6p2_eq x l _,List.flatMap_cons,List.append_assoc]; rfl
theorem ranges_pairs_6p3a_eq (x:Sn):∀ (l v:List Sn),yh x l v=.x0 (v++l.flatMap (zK x))
 | [],v=>by simp [yh]
 | y::l,v=>by
  unfold yh
  rw [emp_app (fun z=>yh x l z),ranges_pairs_6p3a_eq x l _,List.flatMap_cons,List.append_assoc]; rfl
theorem ranges_pairs_6p3_eq (x:Sn):∀ (l:List Sn),(l.flatMap (zK x)=[]∧ranges_pairs_6p3 x l=.x1) ∨ (l.flatMap (zK x) ≠ []∧ranges_pairs_6p3 x l=.x0 (l.flatMap (zK x)))
 | []=>.inl ⟨rfl,rfl⟩
 | y::l=>by
  unfold ranges_pairs_6p3
  cases h:(((z7 x y).1).l).isEmpty with
  | true =>
   rw [flat_cons_emp (f:=zK x) h]
   exact ranges_pairs_6p3_eq x l
  | false =>
   right
   simp only [cond_false]
   rw [ranges_pairs_6p3a_eq,List.flatMap_cons]
   refine ⟨fun k=>?_,rfl⟩
   have:=(List.append_eq_nil_iff.1 k).1
   have h2:((z7 x y).1).l=[]:=this
   rw [h2] at h; cases h
theorem ranges_pairs_3p1a_eq (b:GS Sn):∀ (l v:List Sn),ranges_pairs_3p1a b l v=.x0 (v++y7 l b.l zK)
 | [],v=>by simp [ranges_pairs_3p1a,y7]
 | x::l,v=>by
  unfold ranges_pairs_3p1a
  rw [ranges_pairs_6p2_eq]
  dsimp only
  rw [ranges_pairs_3p1a_eq b l _,List.append_assoc]; rfl
theorem ranges_pairs_3p1_eq (b:GS Sn):∀ (l:List Sn),(y7 l b.l zK=[]∧ranges_pairs_3p1 b l=.x1) ∨ (y7 l b.l zK ≠ []∧ranges_pairs_3p1 b l=.x0 (y7 l b.l zK))
 | []=>.inl ⟨rfl,rfl⟩
 | x::l=>by
  unfold ranges_pairs_3p1
  have e:y7 (x::l) b.l zK=b.l.flatMap (zK x)++y7 l b.l zK:=rfl
  rw [e]
  rcases ranges_pairs_6p3_eq x b.l with ⟨h1,h2⟩ | ⟨h1,h2⟩ <;> rw [h2] <;> dsimp only
  ·rw [h1]
   exact ranges_pairs_3p1_eq b l
  ·right
   rw [ranges_pairs_3p1a_eq]
   exact ⟨fun k=>h1 (List.append_eq_nil_iff.1 k).1,rfl⟩

end Go.VS

namespace Go.VS
open Go
set_option maxHeartbeats 0
def GR (l:List Sn) (res:GS Sn × Int):Prop:=(ArL l∧(can zl l).length≤64∧res.1.l=can zl l∧res.2=0) ∨ ((¬ ArL l ∨ 64 < (can zl l).length)∧res=(GS.nil,2))
theorem can_nil:can zl []=[]:=by
 have:zm zl []=[]:=List.length_eq_zero_iff.1 (by rw [srtG_len gcmp_lo]; rfl)
 unfold can; rw [this]; rfl
theorem GR_nil:GR [] (GS.nil,0):=.inl ⟨(fun s hs=>by cases hs),by rw [can_nil]; simp,by rw [can_nil]; rfl,rfl⟩
theorem GR_end {l:List Sn} (h:ArL l):GR l (bif decide ((((can zl l).length:Nat):Int) > 64) then (GS.nil,2) else (GS.some (can zl l),0)):=by
 cases hd:decide ((((can zl l).length:Nat):Int) > 64) with
 | true=>have:=of_decide_eq_true hd; exact .inr ⟨.inr (by omega),rfl⟩
 | false=>have:=of_decide_eq_false hd; exact .inl ⟨h,by omega,rfl,rfl⟩
theorem pairs_congr {a b:List Sn} {f g:Sn→Sn→List Sn} (h:∀ s∈a,∀ t∈b,f s t=g s t):y7 a b f=y7 a b g:=by
 unfold y7
 induction a with
 | nil=>rfl
 | cons s a ih =>
  rw [List.flatMap_cons,List.flatMap_cons,ih fun s hs=>h s (List.mem_cons_of_mem _ hs)]
  congr 1
  have hs:=h s List.mem_cons_self
  clear ih h
  induction b with
  | nil=>rfl
  | cons t b ih=>rw [List.flatMap_cons,List.flatMap_cons,hs t List.mem_cons_self,ih fun t ht=>hs t (List.mem_cons_of_mem _ ht)]
theorem pairs_small {a b:List Sn} {f:Sn→Sn→List Sn} (h:∀ s t,(f s t).length≤1) (ha:a.length≤64) (hb:b.length≤65):(y7 a b f).length≤1099511627776:=by
 have:=pairs_len (a:=a) (b:=b) h
 have h2:a.length * b.length≤64 * 65:=Nat.mul_le_mul ha hb
 omega
def Res (S:Int→Prop) (res:GS Sn × Int):Prop:=(res.2=0∧Ok res.1.l∧Rg S res.1.l) ∨ res=(GS.nil,2)
theorem GR.res {l:List Sn} {res:GS Sn × Int} (hl:∀ s∈l,s.lo≤s.hi) (h:GR l res):Res (In l) res:=by
 rcases h with ⟨h1,h2,h3,h4⟩ | ⟨_,h⟩
 ·left
  have k:=can_rg gcmp_lo hl
  rw [h3]
  refine ⟨h4,⟨k.1,cn_bd k.1 fun x hx=>?_,h2⟩,k⟩
  obtain ⟨s,hs,a,b⟩:=(k.2 x).1 hx
  have:=h1 s hs
  unfold Ar at this
  omega
 ·exact .inr h
theorem Res.congr {S T:Int→Prop} {res:GS Sn × Int} (h:Res S res) (e:∀ x,S x↔T x):Res T res:=h.imp (fun ⟨a,b,c⟩=>⟨a,b,c.congr e⟩) id

theorem Sum_no {a b:GS Sn} (h:¬ (Ok a.l∧Ok b.l)):ranges_Sum a b=(GS.nil,20):=by
 unfold ranges_Sum
 have e:yf (GS.some [a,b])=20:=by
  rw [← valid_iff,← valid_iff] at h
  rw [check2]
  cases ha:zN a <;> cases hb:zN b <;> simp [ha,hb] at h ⊢
 rw [e]; rfl
theorem Sum_gr {a b:GS Sn} (ha:Ok a.l) (hb:Ok b.l):GR (y7 a.l b.l sumF) (ranges_Sum a b):=by
 have hbo:b.l=b.l:=rfl
 have hf:y7 a.l b.l f_ranges_Sum_1=y7 a.l b.l sumF:=pairs_congr fun s hs t ht=>by
  have h1:=ha.2.1 s hs
  have h2:=hb.2.1 t ht
  unfold f_ranges_Sum_1 zc sumF
  dsimp only
  rw [w64_eq (by omega) (by omega),w64_eq (by omega) (by omega),some_l]
 unfold ranges_Sum
 rw [check2_iff.2 ⟨ha,hb⟩]
 simp only [bne_self_eq_false,cond_false]
 have k:=ranges_pairs_3_eq b a.l
 rw [hbo,hf] at k
 rcases k with ⟨k1,k2⟩ | ⟨k1,k2⟩ <;> rw [k2] <;> dsimp only
 ·rw [k1]; exact GR_nil
 ·generalize hq:y7 a.l b.l sumF=q at *
  have hlen:q.length≤1099511627776:=by
   rw [← hq]
   exact pairs_small (fun s t=>some_len) ha.2.2 (by have:=hb.2.2; omega)
  rcases ranges_gathered_4p1_at k1 hlen with ⟨g1,g2⟩ | ⟨g1,g2⟩
  ·rw [g2]; exact GR_end g1
  ·refine .inr ⟨.inl g1,?_⟩
   revert g2
   cases zw (zm zl q) 0 <;> intro g2 <;> first | rfl | cases g2

theorem Difference_no {a b:GS Sn} (h:¬ (Ok a.l∧Ok b.l)):zJ a b=(GS.nil,20):=by
 unfold zJ
 have e:yf (GS.some [a,b])=20:=by
  rw [← valid_iff,← valid_iff] at h
  rw [check2]
  cases ha:zN a <;> cases hb:zN b <;> simp [ha,hb] at h ⊢
 rw [e]; rfl
theorem Difference_gr {a b:GS Sn} (ha:Ok a.l) (hb:Ok b.l):GR (y7 a.l b.l difF) (zJ a b):=by
 have hbo:b.l=b.l:=rfl
 have hf:y7 a.l b.l zK=y7 a.l b.l difF:=pairs_congr fun s hs t ht=>by
  have h1:=ha.2.1 s hs
  have h2:=hb.2.1 t ht
  unfold zK z7 difF
  dsimp only
  rw [w64_eq (by omega) (by omega),w64_eq (by omega) (by omega),some_l]
 unfold zJ
 rw [check2_iff.2 ⟨ha,hb⟩]
 simp only [bne_self_eq_false,cond_false]
 have k:=ranges_pairs_3p1_eq b a.l
 rw [hbo,hf] at k
 rcases k with ⟨k1,k2⟩ | ⟨k1,k2⟩ <;> rw [k2] <;> dsimp only
 ·rw [k1]; exact GR_nil
 ·generalize hq:y7 a.l b.l difF=q at *
  have hlen:q.length≤1099511627776:=by
   rw [← hq]
   exact pairs_small (fun s t=>some_len) ha.2.2 (by have:=hb.2.2; omega)
  rcases ranges_gathered_4p1_at k1 hlen with ⟨g1,g2⟩ | ⟨g1,g2⟩
  ·rw [g2]; exact GR_end g1
  ·refine .inr ⟨.inl g1,?_⟩
   revert g2
   cases zw (zm zl q) 0 <;> intro g2 <;> first | rfl | cases g2

end Go.VS

namespace Go.VS
open Go
set_option maxHeartbeats 0
def mrg:List Sn→List Sn→List Sn
 | [],q=>q
 | p,[]=>p
 | a::p,b::q=>if a.lo≤b.lo then a::mrg p (b::q) else b::mrg (a::p) q
termination_by p q=>p.length+q.length
theorem mrg_nil (p:List Sn):mrg p []=p:=by cases p <;> simp [mrg]
theorem nil_mrg (q:List Sn):mrg [] q=q:=by simp [mrg]
theorem mrg_cons (a b:Sn) (p q:List Sn):mrg (a::p) (b::q)=if a.lo≤b.lo then a::mrg p (b::q) else b::mrg (a::p) q:=by rw [mrg]
theorem mrg_perm:∀ (p q:List Sn),List.Perm (mrg p q) (p++q)
 | [],q=>by rw [nil_mrg]; exact List.Perm.refl _
 | a::p,[]=>by rw [mrg_nil,List.append_nil]
 | a::p,b::q=>by
  rw [mrg_cons]
  split
  ·exact (mrg_perm p (b::q)).cons a
  ·exact ((mrg_perm (a::p) q).cons b).trans (List.perm_middle.symm)
termination_by p q=>p.length+q.length
theorem mrg_srt:∀ (p q:List Sn),srtS p→srtS q→srtS (mrg p q)
 | [],q,_,hq=>by rw [nil_mrg]; exact hq
 | a::p,[],hp,_=>by rw [mrg_nil]; exact hp
 | a::p,b::q,hp,hq=>by
  rw [mrg_cons]
  have ha:=List.pairwise_cons.1 hp
  have hb:=List.pairwise_cons.1 hq
  split
  ·rename_i h
   refine List.pairwise_cons.2 ⟨fun s hs=>?_,mrg_srt p (b::q) ha.2 hq⟩
   rcases List.mem_append.1 ((mrg_perm p (b::q)).mem_iff.1 hs) with k | k
   ·exact ha.1 s k
   ·rcases List.mem_cons.1 k with rfl | k
    ·exact h
    ·have:=hb.1 s k; omega
  ·rename_i h
   refine List.pairwise_cons.2 ⟨fun s hs=>?_,mrg_srt (a::p) q hp hb.2⟩
   rcases List.mem_append.1 ((mrg_perm (a::p) q).mem_iff.1 hs) with k | k
   ·rcases List.mem_cons.1 k with rfl | k
    ·omega
    ·have:=ha.1 s k; omega
   ·exact hb.1 s k
termination_by p q=>p.length+q.length
theorem cn_srt:∀ {l:List Sn},cn l→srtS l
 | [],_=>List.Pairwise.nil
 | s::l,h=>List.pairwise_cons.2 ⟨fun t ht=>by
   have:=h.2.1 t ht
   have:=h.1
   omega,cn_srt h.2.2⟩
def Bd (l:List Sn):Prop:=∀ s∈l,-2305843009213693952≤s.lo∧s.lo≤s.hi∧s.hi≤2305843009213693952
section
variable {β:Type} (F:List Sn→β) {v:List Sn} {c x:Sn}
theorem stp (hc:-2305843009213693952≤c.hi∧c.hi≤2305843009213693952) (hv:v.length≤4611686018427387904) :
  (bif decide ((((v++[c]).length:Nat):Int) > 0) then
   bif decide (x.lo≤(w64 ((((v++[c]).getD ((w64 ((((v++[c]).length:Nat):Int) - 1)).toNat) default).hi)+1))) then
    F ((v++[c]).set ((w64 ((((v++[c]).length:Nat):Int) - 1)).toNat) (⟨((v++[c]).getD ((w64 ((((v++[c]).length:Nat):Int) - 1)).toNat) default).lo,imax (((v++[c]).getD ((w64 ((((v++[c]).length:Nat):Int) - 1)).toNat) default).hi) (x.hi)⟩:Sn))
   else F (v++[c]++[x])
  else F (v++[c]++[x]))=if x.lo≤c.hi+1 then F (v++[⟨c.lo,max c.hi x.hi⟩]) else F (v++[c]++[x]):=by
 have hl:w64 ((((v++[c]).length:Nat):Int) - 1)=((v.length:Nat):Int):=by
  rcases len_last (v:=v) (c:=c) with e | e
  ·exact e
  ·omega
 have hp:decide ((((v++[c]).length:Nat):Int) > 0)=true:=decide_eq_true (by simp only [List.length_append,List.length_cons,List.length_nil]; omega)
 rw [hl,hp,Int.toNat_natCast,getD_last,set_last,w64_eq (by omega) (by omega),imax_eq]
 by_cases h:x.lo≤c.hi+1
 ·rw [decide_eq_true h,if_pos h]; rfl
 ·rw [decide_eq_false h,if_neg h]; rfl
end
theorem at_drop {p:GS Sn} {i:Nat} {a:Sn} {l:List Sn} (h:p.l.drop i=a::l):GS.at p ((i:Nat):Int)=a:=by
 unfold GS.at
 rw [Int.toNat_natCast,List.getD_eq_getElem?_getD]
 have:p.l[i]?=some a:=by rw [← List.head?_drop,h]; rfl
 rw [this]; rfl
theorem drop_lt {p:List Sn} {i:Nat} {a:Sn} {l:List Sn} (h:p.drop i=a::l):i < p.length∧p.drop (i+1)=l:=by
 constructor
 ·rcases Nat.lt_or_ge i p.length with k | k
  ·exact k
  ·rw [List.drop_of_length_le k] at h; cases h
 ·rw [← List.drop_drop,h]; rfl
theorem bd_drop {l:List Sn} (h:Bd l) {i:Nat} {a:Sn} {r:List Sn} (e:l.drop i=a::r):-2305843009213693952≤a.lo∧a.lo≤a.hi∧a.hi≤2305843009213693952 :=
 h a (List.mem_of_mem_drop (by rw [e]; exact List.mem_cons_self))
section
variable {p q:GS Sn} (hp:p.l.length≤1073741824) (hq:q.l.length≤1073741824) (bp:Bd p.l) (bq:Bd q.l)
include hp hq bp bq
theorem join8a:∀ (n i k:Nat) (v:List Sn) (c:Sn),(p.l.drop i).length+(q.l.drop k).length < n→i≤p.l.length→k≤q.l.length→v.length≤4294967296+i+k→(-2305843009213693952≤c.hi∧c.hi≤2305843009213693952) →
  ∃ i' k',zQ p q n (v++[c]) ((i:Nat):Int) ((k:Nat):Int)=.x0 (v++jn c (mrg (p.l.drop i) (q.l.drop k))) i' k'
 | 0,i,k,v,c,h,_,_,_,_=>by omega
 | n+1,i,k,v,c,h,hi,hk,hv,hc=>by
  have stepP:∀ a l,p.l.drop i=a::l→∀ r,jn c (a::r)=(if a.lo≤c.hi+1 then jn ⟨c.lo,max c.hi a.hi⟩ r else c::jn a r):=fun a l _ r=>rfl
  have wi:i < p.l.length→w64 (((i:Nat):Int)+1)=((i+1:Nat):Int):=fun h=>by rw [w64_eq (by omega) (by omega)]; omega
  have wk:k < q.l.length→w64 (((k:Nat):Int)+1)=((k+1:Nat):Int):=fun h=>by rw [w64_eq (by omega) (by omega)]; omega
  have takeP:∀ a l,p.l.drop i=a::l→∃ i' k',(if a.lo≤c.hi+1 then zQ p q n (v++[⟨c.lo,max c.hi a.hi⟩]) ((i+1:Nat):Int) ((k:Nat):Int) else zQ p q n (v++[c]++[a]) ((i+1:Nat):Int) ((k:Nat):Int))=.x0 (v++jn c (a::mrg l (q.l.drop k))) i' k':=fun a l e=>by
   obtain ⟨h1,h2⟩:=drop_lt e
   have hb:=bd_drop bp e
   have hlen:(p.l.drop (i+1)).length+(q.l.drop k).length < n:=by rw [e] at h; rw [h2]; simp only [List.length_cons] at h; omega
   unfold jn
   split
   ·obtain ⟨i',k',e1⟩:=join8a n (i+1) k v ⟨c.lo,max c.hi a.hi⟩ hlen (by omega) hk (by omega) (by simp only; omega)
    rw [h2] at e1
    exact ⟨i',k',e1⟩
   ·obtain ⟨i',k',e1⟩:=join8a n (i+1) k (v++[c]) a hlen (by omega) hk (by simp only [List.length_append,List.length_cons,List.length_nil]; omega) (by omega)
    rw [h2,List.append_assoc] at e1
    exact ⟨i',k',by rw [List.append_assoc] at e1 ⊢; exact e1⟩
  have takeQ:∀ b l,q.l.drop k=b::l→∃ i' k',(if b.lo≤c.hi+1 then zQ p q n (v++[⟨c.lo,max c.hi b.hi⟩]) ((i:Nat):Int) ((k+1:Nat):Int) else zQ p q n (v++[c]++[b]) ((i:Nat):Int) ((k+1:Nat):Int))=.x0 (v++jn c (b::mrg (p.l.drop i) l)) i' k':=fun b l e=>by
   obtain ⟨h1,h2⟩:=drop_lt e
   have hb:=bd_drop bq e
   have hlen:(p.l.drop i).length+(q.l.drop (k+1)).length < n:=by rw [e] at h; rw [h2]; simp only [List.length_cons] at h; omega
   unfold jn
   split
   ·obtain ⟨i',k',e1⟩:=join8a n i (k+1) v ⟨c.lo,max c.hi b.hi⟩ hlen hi (by omega) (by omega) (by simp only; omega)
    rw [h2] at e1
    exact ⟨i',k',e1⟩
   ·obtain ⟨i',k',e1⟩:=join8a n i (k+1) (v++[c]) b hlen hi (by omega) (by simp only [List.length_append,List.length_cons,List.length_nil]; omega) (by omega)
    rw [h2,List.append_assoc] at e1
    exact ⟨i',k',by rw [List.append_assoc] at e1 ⊢; exact e1⟩
  unfold zQ
  have fP:=fun (x:Sn)=>stp (F:=fun z=>zQ p q n z (w64 (((i:Nat):Int)+1)) ((k:Nat):Int)) (v:=v) (c:=c) (x:=x) hc (by omega)
  have fQ:=fun (x:Sn)=>stp (F:=fun z=>zQ p q n z ((i:Nat):Int) (w64 (((k:Nat):Int)+1))) (v:=v) (c:=c) (x:=x) hc (by omega)
  cases eP:p.l.drop i with
  | nil =>
   have hip:¬ i < p.l.length:=fun h=>by have:=congrArg List.length eP; simp at this; omega
   rw [decide_eq_false (show ¬ ((i:Nat):Int) < ((p.l.length:Nat):Int) by omega),cond_false]
   cases eQ:q.l.drop k with
   | nil =>
    have hkq:¬ k < q.l.length:=fun h=>by have:=congrArg List.length eQ; simp at this; omega
    rw [decide_eq_false (show ¬ ((k:Nat):Int) < ((q.l.length:Nat):Int) by omega),cond_false,mrg_nil]
    exact ⟨_,_,rfl⟩
   | cons b l =>
    obtain ⟨h1,h2⟩:=drop_lt eQ
    have hne:(((k:Nat):Int) == ((q.l.length:Nat):Int))=false:=beq_eq_false_iff_ne.2 (by omega)
    rw [decide_eq_true (show ((k:Nat):Int) < ((q.l.length:Nat):Int) by omega),cond_true,hne,cond_false,at_drop eQ]
    have:=fQ b
    try dsimp only at this
    rw [this,wk h1,nil_mrg]
    have t:=takeQ b l eQ
    rw [eP,nil_mrg] at t
    exact t
  | cons a l =>
   obtain ⟨h1,h2⟩:=drop_lt eP
   rw [decide_eq_true (show ((i:Nat):Int) < ((p.l.length:Nat):Int) by omega),cond_true]
   cases eQ:q.l.drop k with
   | nil =>
    have hkq:¬ k < q.l.length:=fun h=>by have:=congrArg List.length eQ; simp at this; omega
    have he:(((k:Nat):Int) == ((q.l.length:Nat):Int))=true:=by rw [beq_iff_eq]; omega
    rw [he,cond_true,at_drop eP]
    have:=fP a
    try dsimp only at this
    rw [this,wi h1,mrg_nil]
    have t:=takeP a l eP
    rw [eQ,mrg_nil] at t
    exact t
   | cons b l' =>
    obtain ⟨k1,k2⟩:=drop_lt eQ
    have hne:(((k:Nat):Int) == ((q.l.length:Nat):Int))=false:=beq_eq_false_iff_ne.2 (by omega)
    rw [hne,cond_false,at_drop eP,at_drop eQ,mrg_cons]
    by_cases hab:a.lo≤b.lo
    ·rw [decide_eq_true hab,cond_true,if_pos hab]
     have:=fP a
     try dsimp only at this
     rw [this,wi h1]
     have t:=takeP a l eP
     rw [eQ] at t
     exact t
    ·rw [decide_eq_false hab,cond_false,if_neg hab]
     have:=fQ b
     try dsimp only at this
     rw [this,wk k1]
     have t:=takeQ b l' eQ
     rw [eP] at t
     exact t
theorem join8:(mrg p.l q.l=[]∧r_Join_8 p q (p.l.length+q.l.length+1)=.x1) ∨ ∃ i' k',r_Join_8 p q (p.l.length+q.l.length+1)=.x0 (jnL (mrg p.l q.l)) i' k':=by
 unfold r_Join_8
 dsimp only
 have one:∀ (i k:Nat) (c:Sn) (r:List Sn),i+k=1→i≤p.l.length→k≤q.l.length→(-2305843009213693952≤c.lo∧c.lo≤c.hi∧c.hi≤2305843009213693952)→mrg p.l q.l=c::mrg (p.l.drop i) (q.l.drop k)→∃ i' k',zQ p q (p.l.length+q.l.length) [c] ((i:Nat):Int) ((k:Nat):Int)=.x0 (jnL (mrg p.l q.l)) i' k':=fun i k c r hs hi hk hc e=>by
  obtain ⟨i',k',e1⟩:=join8a hp hq bp bq (p.l.length+q.l.length) i k [] c (by simp only [List.length_drop]; omega) hi hk (by simp) (by omega)
  exact ⟨i',k',by rw [e]; exact e1⟩
 cases eP:p.l with
 | nil =>
  simp only [List.length_nil,Int.natCast_zero,Int.lt_irrefl,decide_false,cond_false,Nat.zero_add]
  cases eQ:q.l with
  | nil=>exact .inl ⟨by rw [nil_mrg],rfl⟩
  | cons b l =>
   right
   have hb:=bq b (by rw [eQ]; exact List.mem_cons_self)
   have t:=one 0 1 b l rfl (by omega) (by rw [eQ]; simp) hb (by rw [eP,eQ]; simp [nil_mrg])
   rw [eP,eQ] at t
   have e0:GS.at q 0=b:=at_drop (i:=0) (l:=l) (by rw [List.drop_zero,eQ])
   have h1:decide ((0:Int) < (((b::l).length:Nat):Int))=true:=decide_eq_true (by simp only [List.length_cons]; omega)
   have h2:((0:Int) == (((b::l).length:Nat):Int))=false:=beq_eq_false_iff_ne.2 (by simp only [List.length_cons]; omega)
   rw [h1,h2,e0]
   simp only [List.length_nil,Nat.zero_add] at t
   exact t
 | cons a l =>
  right
  have ha:=bp a (by rw [eP]; exact List.mem_cons_self)
  have e0:GS.at p 0=a:=at_drop (i:=0) (l:=l) (by rw [List.drop_zero,eP])
  have h1:decide ((0:Int) < (((a::l).length:Nat):Int))=true:=decide_eq_true (by simp only [List.length_cons]; omega)
  rw [h1,e0,cond_true]
  cases eQ:q.l with
  | nil =>
   have t:=one 1 0 a l rfl (by rw [eP]; simp) (by omega) ha (by rw [eP,eQ]; simp [mrg_nil])
   rw [eP,eQ] at t
   exact t
  | cons b l' =>
   have hb:=bq b (by rw [eQ]; exact List.mem_cons_self)
   have f0:GS.at q 0=b:=at_drop (i:=0) (l:=l') (by rw [List.drop_zero,eQ])
   have h2:((0:Int) == (((b::l').length:Nat):Int))=false:=beq_eq_false_iff_ne.2 (by simp only [List.length_cons]; omega)
   rw [h2,f0,cond_false]
   by_cases hab:a.lo≤b.lo
   ·rw [decide_eq_true hab,cond_true]
    have t:=one 1 0 a l rfl (by rw [eP]; simp) (by omega) ha (by rw [eP,eQ,mrg_cons,if_pos hab]; rfl)
    rw [eP,eQ] at t
    exact t
   ·rw [decide_eq_false hab,cond_false]
    have t:=one 0 1 b l' rfl (by omega) (by rw [eQ]; simp) hb (by rw [eP,eQ,mrg_cons,if_neg hab]; rfl)
    rw [eP,eQ] at t
    exact t
end
theorem jn_len:∀ (l:List Sn) (c:Sn),(jn c l).length≤l.length+1
 | [],c=>Nat.le_refl _
 | x::l,c=>by
  unfold jn
  split
  ·have:=jn_len l ⟨c.lo,max c.hi x.hi⟩; simp only [List.length_cons]; omega
  ·have:=jn_len l x; simp only [List.length_cons]; omega
theorem can_len (l:List Sn):(can zl l).length≤l.length:=by
 have h:=srtG_len gcmp_lo l
 unfold can jnL
 cases e:zm zl l with
 | nil=>simp
 | cons x r=>rw [e] at h; simp only [List.length_cons] at h; have:=jn_len r x; simp only; omega
theorem can_one (s:Sn) (h:s.lo≤s.hi):can zl [s]=[s] :=
 (can_rg gcmp_lo (by intro t ht; rw [List.mem_singleton.1 ht]; exact h)).unique ⟨⟨h,(fun _ h=>by cases h),trivial⟩,fun _=>Iff.rfl⟩
theorem can_bd {l:List Sn} (h:Bd l):Bd (can zl l):=fun s hs=>by
 have hr:=can_rg gcmp_lo (l:=l) fun s hs=>(h s hs).2.1
 have hn:=cn_mem hr.1 hs
 obtain ⟨t,ht,h1,h2⟩:=(hr.2 s.lo).1 ⟨s,hs,Int.le_refl _,hn⟩
 obtain ⟨u,hu,h3,h4⟩:=(hr.2 s.hi).1 ⟨s,hs,hn,Int.le_refl _⟩
 have b1:=h t ht
 have b2:=h u hu
 omega
open Classical in
noncomputable def Jn (l:GS Sn):GS Sn:=if l.l.length≤1073741824∧Bd l.l then (if l.l.length < 2 then l else GS.some (can zl l.l)) else GS.nil
theorem Jn_len (l:GS Sn):(Jn l).l.length≤l.l.length:=by
 unfold Jn
 split
 ·split
  ·exact Nat.le_refl _
  ·exact can_len l.l
 ·simp [GS.nil]
theorem Jn_l {l:GS Sn} (h1:l.l.length≤1073741824) (h2:Bd l.l):(Jn l).l=can zl l.l:=by
 unfold Jn
 rw [if_pos ⟨h1,h2⟩]
 split
 ·rename_i h
  cases e:l.l with
  | nil=>rw [can_nil]
  | cons s r =>
   cases r with
   | nil=>rw [can_one s (h2 s (by rw [e]; exact List.mem_cons_self)).2.1]
   | cons t r=>rw [e] at h; simp only [List.length_cons] at h; omega
 ·rfl
theorem rjoin_eq {l:GS Sn} (h1:l.l.length≤1073741824) (h2:Bd l.l):r_Join Jn l=Jn l:=by
 unfold r_Join
 by_cases h:l.l.length < 2
 ·rw [decide_eq_true (show (((l.l.length:Nat):Int) < 2) by omega),cond_true]
  unfold Jn; rw [if_pos ⟨h1,h2⟩,if_pos h]
 ·rw [decide_eq_false (show ¬ (((l.l.length:Nat):Int) < 2) by omega),cond_false]
  generalize hp:cutG l 0 (l.l.length / 2)=p
  generalize hq:cutG l (l.l.length / 2) l.l.length=q
  have sp:∀ s∈p.l,s∈l.l:=by rw [← hp]; exact cut_sub l _ _
  have sq:∀ s∈q.l,s∈l.l:=by rw [← hq]; exact cut_sub l _ _
  have lp:p.l.length≤1073741824:=by rw [← hp,zn]; omega
  have lq:q.l.length≤1073741824:=by rw [← hq,zn]; omega
  have bp:Bd p.l:=fun s hs=>h2 s (sp s hs)
  have bq:Bd q.l:=fun s hs=>h2 s (sq s hs)
  have ep:=Jn_l lp bp
  have eq:=Jn_l lq bq
  have hsplit:∀ x,In l.l x↔In p.l x ∨ In q.l x:=fun x=>by
   rw [← In_append,← hp,← hq]
   unfold cutG
   rw [GS.some_l,GS.some_l,List.drop_zero,List.take_length,List.take_append_drop]
  have rp:=can_rg gcmp_lo (l:=p.l) fun s hs=>(bp s hs).2.1
  have rq:=can_rg gcmp_lo (l:=q.l) fun s hs=>(bq s hs).2.1
  have rl:=can_rg gcmp_lo (l:=l.l) fun s hs=>(h2 s hs).2.1
  have jp:=Jn_len p
  have jq:=Jn_len q
  have hm:Rg (In l.l) (jnL (mrg (Jn p).l (Jn q).l)):=by
   rw [ep,eq]
   refine (jnL_rg (fun s hs=>?_) (mrg_srt _ _ (cn_srt rp.1) (cn_srt rq.1))).congr fun x=>?_
   ·rcases List.mem_append.1 ((mrg_perm _ _).mem_iff.1 hs) with k | k
    ·exact cn_mem rp.1 k
    ·exact cn_mem rq.1 k
   ·rw [In_perm (mrg_perm _ _),In_append,rp.2,rq.2,hsplit]
  have hcan:=hm.unique rl
  have hne:mrg (Jn p).l (Jn q).l ≠ []:=fun e=>by
   rw [e] at hm
   cases el:l.l with
   | nil=>rw [el] at h; simp at h
   | cons s r =>
    have hs:=(h2 s (by rw [el]; exact List.mem_cons_self)).2.1
    exact In_nil ((hm.2 s.lo).2 ⟨s,by rw [el]; exact List.mem_cons_self,Int.le_refl _,hs⟩)
  rcases join8 (p:=Jn p) (q:=Jn q) (by omega) (by omega) (by rw [ep]; exact can_bd bp) (by rw [eq]; exact can_bd bq) with ⟨e,_⟩ | ⟨i',k',e⟩
  ·exact absurd e hne
  ·rw [e]
   dsimp only
   rw [hcan]
   unfold Jn; rw [if_pos ⟨h1,h2⟩,if_neg h]
end Go.VS

namespace Go.VS
open Go
set_option maxHeartbeats 0
theorem r_Join_len {J:GS Sn→GS Sn} {l:GS Sn} (hl:l.l.length≤1073741824) (hJ:∀ x:GS Sn,(J x).l.length≤x.l.length):(r_Join J l).l.length≤l.l.length:=by
 unfold r_Join
 by_cases h:l.l.length < 2
 ·rw [decide_eq_true (show (((l.l.length:Nat):Int) < 2) by omega),cond_true]; exact Nat.le_refl _
 ·rw [decide_eq_false (show ¬ (((l.l.length:Nat):Int) < 2) by omega),cond_false]
  have j1:=hJ (cutG l 0 (l.l.length / 2))
  have j2:=hJ (cutG l (l.l.length / 2) l.l.length)
  rw [zn] at j1 j2
  generalize J (cutG l 0 (l.l.length / 2))=p at *
  generalize J (cutG l (l.l.length / 2) l.l.length)=q at *
  have ne:=r_Join_ne p q (by omega) (by omega)
  have k:=ivt_r_Join_8 p q _ ne (by omega) (by omega)
  cases hr:r_Join_8 p q (p.l.length+q.l.length+1) with
  | x0 v i k' =>
   rw [hr] at k
   obtain ⟨k1,k2,k3⟩:=k
   simp only [GS.some_l]
   omega
  | x1=>simp [GS.nil]
  | out=>exact absurd hr ne
def JJN:Nat→GS Sn→GS Sn
 | 0,_=>GS.nil
 | n+1,l=>if l.l.length≤1073741824 then r_Join (JJN n) l else GS.nil
theorem JJN_len:∀ (n:Nat) (l:GS Sn),(JJN n l).l.length≤l.l.length
 | 0,l=>by simp [JJN,GS.nil]
 | n+1,l=>by
  unfold JJN
  split
  ·rename_i h; exact r_Join_len h (JJN_len n)
  ·simp [GS.nil]
def JJ (l:GS Sn):GS Sn:=JJN (l.l.length+1) l
theorem JJ_len (l:GS Sn):(JJ l).l.length≤l.l.length:=JJN_len _ l
theorem T_JJN:∀ (n:Nat) (l:GS Sn),l.l.length≤n→l.l.length≤1073741824→(lim cfg).pure 75 [GS.D Sn.D 2 l]=some (GS.D Sn.D 2 (JJN (n+1) l)):=by
 intro n
 induction n with
 | zero =>
  intro l hn h1
  have e:JJN (0+1) l=r_Join (JJN 0) l:=by unfold JJN; rw [if_pos h1]
  rw [e]
  exact T_r_Join (JJN 0) l h1 (fun x hx _=>by omega) (JJN_len 0)
 | succ n ih =>
  intro l hn h1
  have e:JJN (n+1+1) l=r_Join (JJN (n+1)) l:=by unfold JJN; rw [if_pos h1]
  rw [e]
  exact T_r_Join (JJN (n+1)) l h1 (fun x hx _=>ih x (by omega) (by omega)) (JJN_len (n+1))
theorem T_JJ (l:GS Sn) (h1:l.l.length≤1073741824):(lim cfg).pure 75 [GS.D Sn.D 2 l]=some (GS.D Sn.D 2 (JJ l)):=T_JJN _ l (Nat.le_refl _) h1
theorem JJN_eq:∀ (n:Nat) (l:GS Sn),l.l.length≤n→l.l.length≤1073741824→Bd l.l→JJN (n+1) l=Jn l:=by
 intro n
 induction n with
 | zero =>
  intro l hn h1 h2
  unfold JJN
  rw [if_pos h1,← rjoin_eq h1 h2]
  unfold r_Join
  have h:decide (((l.l.length:Nat):Int) < 2)=true:=decide_eq_true (by omega)
  rw [h]; rfl
 | succ n ih =>
  intro l hn h1 h2
  have e:JJN (n+1+1) l=r_Join (JJN (n+1)) l:=by unfold JJN; rw [if_pos h1]
  rw [e,← rjoin_eq h1 h2]
  unfold r_Join
  by_cases h:l.l.length < 2
  ·rw [decide_eq_true (show (((l.l.length:Nat):Int) < 2) by omega)]; rfl
  ·have sp:∀ a b,Bd (cutG l a b).l:=fun a b s hs=>h2 s (cut_sub l _ _ s hs)
   rw [ih (cutG l 0 (l.l.length / 2)) (by rw [zn]; omega) (by rw [zn]; omega) (sp _ _),ih (cutG l (l.l.length / 2) l.l.length) (by rw [zn]; omega) (by rw [zn]; omega) (sp _ _)]
theorem JJ_l {l:GS Sn} (h1:l.l.length≤1073741824) (h2:Bd l.l):(JJ l).l=can zl l.l:=by
 unfold JJ
 rw [JJN_eq _ l (Nat.le_refl _) h1 h2,Jn_l h1 h2]
end Go.VS

namespace Go.VS
open Go Go.Proofs
set_option maxHeartbeats 0
set_option linter.unusedSimpArgs false
set_option linter.unusedVariables false
def yc (l:GS Sn):(GS Sn) × Int :=
 bif decide (((l.l.length:Nat):Int) > 64) then
  (GS.nil,2)
 else
  bif decide (((l.l.length:Nat):Int) > 0) then
   bif decide (((GS.at l 0).lo) < (-1099511627776)) then
    (GS.nil,2)
   else
    bif decide (((GS.at l (w64 (((l.l.length:Nat):Int) - 1))).hi) > 1099511627776) then
     (GS.nil,2)
    else
     (l,0)
  else
   (l,0)

def r_Fit_o1 (l:GS Sn):List Ora:=[.rw 6 (I ((l.l.length:Nat):Int)),.dec false,.dec true,.el (.agg [I ((GS.at l 0).lo),I ((GS.at l 0).hi)]),.dec false,.el (.agg [I ((GS.at l (w64 (((l.l.length:Nat):Int) - 1))).lo),I ((GS.at l (w64 (((l.l.length:Nat):Int) - 1))).hi)])]

theorem T_r_Fit (l:GS Sn):(lim cfg).pure 74 [GS.D Sn.D 2 l]=some (.tup [GS.D Sn.D 2 ((yc l).1),I ((yc l).2)]):=by
 unfold yc
 cases h1:decide (((l.l.length:Nat):Int) > 64) with
 | true =>
  have g1:=of_decide_eq_true h1
  exact zo [.rw 6 (I ((l.l.length:Nat):Int)),.dec true] (Ai h1 (Ai (zi Sn.D l) trivial)) (by kernel_rfl)
 | false =>
  have g1:=of_decide_eq_false h1
  cases h2:decide (((l.l.length:Nat):Int) > 0) with
  | true =>
   have g2:=of_decide_eq_true h2
   have p1:=(el_in (s:=l) (f:=Sn.D) (k:=2) (i:=0) (by omega) (by omega))
   cases h3:decide (((GS.at l 0).lo) < (-1099511627776)) with
   | true =>
    have g3:=of_decide_eq_true h3
    exact zo [.rw 6 (I ((l.l.length:Nat):Int)),.dec false,.dec true,.el (.agg [I ((GS.at l 0).lo),I ((GS.at l 0).hi)]),.dec true] (Ai h3 (Ai p1 (Ai h2 (Ai h1 (Ai (zi Sn.D l) trivial))))) (by kernel_rfl)
   | false =>
    have g3:=of_decide_eq_false h3
    have p2:=(el_in (s:=l) (f:=Sn.D) (k:=2) (i:=w64 (((l.l.length:Nat):Int) - 1)) (by simp only [List.length_append,List.length_cons,List.length_nil,zf] at * <;> omega) (by simp only [List.length_append,List.length_cons,List.length_nil,zf] at * <;> omega))
    cases h4:decide (((GS.at l (w64 (((l.l.length:Nat):Int) - 1))).hi) > 1099511627776) with
    | true =>
     have g4:=of_decide_eq_true h4
     exact zo ((r_Fit_o1 l)++[.dec true]) (Ai h4 (Ai p2 (Ai h3 (Ai p1 (Ai h2 (Ai h1 (Ai (zi Sn.D l) trivial))))))) (by kernel_rfl)
    | false =>
     have g4:=of_decide_eq_false h4
     exact zo ((r_Fit_o1 l)++[.dec false]) (Ai h4 (Ai p2 (Ai h3 (Ai p1 (Ai h2 (Ai h1 (Ai (zi Sn.D l) trivial))))))) (by kernel_rfl)
  | false =>
   have g2:=of_decide_eq_false h2
   exact zo [.rw 6 (I ((l.l.length:Nat):Int)),.dec false,.dec false] (Ai h2 (Ai h1 (Ai (zi Sn.D l) trivial))) (by kernel_rfl)

end Go.VS

