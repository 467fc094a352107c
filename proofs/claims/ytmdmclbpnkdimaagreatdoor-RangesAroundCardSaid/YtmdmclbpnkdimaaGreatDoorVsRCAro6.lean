/- Nothing of a statement is proved in this text alone: it is part 6 of the proof's own tools, an evaluator of the code over deep values, its soundness, and what it makes of this seat's functions. Conditions: none beyond the statement's own. -/
import Derived.Test.YtmdmclbpnkdimaaGreatDoorVsRCAro5
set_option linter.unusedSimpArgs false
set_option linter.unusedVariables false
namespace Go.VS
open Go Go.Proofs
set_option maxHeartbeats 0
set_option linter.unusedSimpArgs false
set_option linter.unusedVariables false
inductive LR_ranges_each_3p5 where
 | x0 (yK:List Sn)
 | x1 (yO:List Sn)
 | x2
 | x3
instance:Inhabited LR_ranges_each_3p5:=⟨.x0 default⟩
def y6 (n:Int):List Sn→(List Sn)→LR_ranges_each_3p5
 | [],yK=>.x0 yK
 | xc::x9,yK =>
  bif (z7 xc n).nl then
   bif ((z7 xc n).l).isEmpty then
    y6 n x9 yK
   else
    y6 n x9 (yK++((z7 xc n).l))
  else
   bif ((z7 xc n).l).isEmpty then
    y6 n x9 yK
   else
    y6 n x9 (yK++((z7 xc n).l))
def yC (n:Int):List Sn→(List Sn)→LR_ranges_each_3p5
 | [],yO=>.x1 yO
 | xc::x9,yO =>
  bif (z7 xc n).nl then
   bif ((z7 xc n).l).isEmpty then
    yC n x9 yO
   else
    yC n x9 (yO++((z7 xc n).l))
  else
   bif ((z7 xc n).l).isEmpty then
    y6 n x9 yO
   else
    y6 n x9 (yO++((z7 xc n).l))
def ranges_each_3p5b (n:Int):List Sn→LR_ranges_each_3p5
 | []=>.x2
 | xc::x9 =>
  bif (z7 xc n).nl then
   bif ((z7 xc n).l).isEmpty then
    ranges_each_3p5b n x9
   else
    y6 n x9 ((z7 xc n).l)
  else
   bif ((z7 xc n).l).isEmpty then
    ranges_each_3p5b n x9
   else
    y6 n x9 ((z7 xc n).l)
def ranges_each_3p5 (n:Int):List Sn→LR_ranges_each_3p5
 | []=>.x3
 | xc::x9 =>
  bif (z7 xc n).nl then
   bif ((z7 xc n).l).isEmpty then
    ranges_each_3p5 n x9
   else
    yC n x9 ((z7 xc n).l)
  else
   bif ((z7 xc n).l).isEmpty then
    ranges_each_3p5b n x9
   else
    y6 n x9 ((z7 xc n).l)
def lr_ranges_each_3p5 (r:GS Sn) (n:Int):LR_ranges_each_3p5→Exit × St
 | .x0 yK=>((.exit 0),(sd40132 1 2 3 yK r n))
 | .x1 yO=>((.exit 0),(sd40133 1 2 3 yO r n))
 | .x2=>((.exit 0),(sd40134 1 2 r n))
 | .x3=>((.exit 0),(sd40135 1 2 r n))
def iv_ranges_each_3p5 (r:GS Sn) (n:Int):LR_ranges_each_3p5→Prop
 | .x0 yK=>(∀ s∈yK,0≤s.lo∧s.lo≤s.hi∧s.hi < n)∧(yK.length≤2 * r.l.length)
 | .x1 yO=>(∀ s∈yO,0≤s.lo∧s.lo≤s.hi∧s.hi < n)∧(yO.length≤2 * r.l.length)
 | .x2=>True
 | .x3=>True
def ranges_each_3p5c_l_o1 (n:Int) (xc:Sn):List Ora:=[.dec true,.el (.agg [I xc.lo,I xc.hi]),.pureS (.sl ((z7 xc n).nl) (((z7 xc n).l).map Sn.D) (zsl ((z7 xc n).nl) 2) none) true []]
def ranges_each_3p5c_l_o2 (n:Int) (xc:Sn):List Ora:=[.dec true,.el (.agg [I xc.lo,I xc.hi]),.pureS (.sl ((z7 xc n).nl) (((z7 xc n).l).map Sn.D) (zsl ((z7 xc n).nl) 2) none) false []]
theorem lp_ranges_each_3p5c (r:GS Sn) (n:Int):∀ (x9:List Sn) (xo:Nat) (yK:List Sn) (yY:r.l.drop xo=x9) (xL:xo≤r.l.length) (hB:∀ x∈r.l,-1099511627776≤x.lo∧x.lo≤x.hi∧x.hi≤1099511627776) (xQ:r.l.length≤64) (hn:1≤n∧n≤10000) (hr3:∀ s∈yK,0≤s.lo∧s.lo≤s.hi∧s.hi < n) (hg3p5_vc3p5_0:yK.length≤2 * xo) (hL3p5:r.l.length≤1099511627776),(lim cfg).loop 70 lp70_3 ⟨21,[(1,.fn (.func 106) [] [.lref 1 0 1 0]),(5,.lsl 2 0 yK.length 2 none),(8,.sl r.nl (r.l.map Sn.D) (zsl r.nl 2) none),(9,I ((r.l.length:Nat):Int)),(10,I ((xo:Nat):Int))],[(1,⟨[I n],1,true⟩),(2,⟨yK.map Sn.D,2,false⟩)],3,2⟩=some (lr_ranges_each_3p5 r n (y6 n x9 yK)):=by
 intro x9
 induction x9 with
 | nil =>
  intro xo yK yY xL hB xQ hn hr3 hg3p5_vc3p5_0 hL3p5
  unfold y6
  obtain rfl:xo=r.l.length:=nil_eq yY xL
  exact yc [.dec false] (Ai (lt_no yY) trivial) (by kernel_rfl)
 | cons xc x9 ih =>
  intro xo yK yY xL hB xQ hn hr3 hg3p5_vc3p5_0 hL3p5
  have hlt3p5:=zj yY
  have hbx:=hB xc (mem_drop yY)
  have hlx:=rests1_len xc n
  have hrx:=rests1_bd xc n hbx hn
  unfold y6
  have p1:=(el_at (s:=r) (f:=Sn.D) (k:=2) yY)
  cases h18:(z7 xc n).nl with
  | true =>
   have p2:=(Ai (show flat fuelD (.sl ((z7 xc n).nl) (((z7 xc n).l).map Sn.D) (zsl ((z7 xc n).nl) 2) none)=true from (by rw [h18] <;> kernel_rfl)) (Ai (trivial) (ym xc n (by omega) (by omega))))
   cases h19:((z7 xc n).l).isEmpty with
   | true =>
    exact zR (ks:=[1,5,8,9,10]) (st':=(sd40136 2 1 3 4 xo yK xc n r)) ((ranges_each_3p5c_l_o1 n xc)++[.op (some 18) ⟨.lsl 2 0 yK.length 2 none,[],[],4⟩,.rw 19 (I ((xo+1:Nat):Int))]) (Ai (ya (i:=xo) (by have:=zj yY; omega)) (Ai (app_none (te:=yl) (gO:=zB [(1,⟨[I n],1,true⟩),(2,⟨yK.map Sn.D,2,false⟩),(3,⟨[.agg [I xc.lo,I xc.hi]],2,false⟩)]) (nxt:=4) (f:=Sn.D) (sz:=2) (d:=.lsl 2 0 yK.length 2 none) (z7 xc n) h19 rfl) (Ai p2 (Ai p1 (Ai (yy yY) trivial))))) (by kernel_rfl) (by (simp only [sd40136,go_sem,List.length_set,Nat.reduceAdd,Nat.reduceEqDiff,Nat.reduceLT,Nat.reduceLeDiff,bI2,zb.idsL,zb.renL,zb.snapAll,z6.idsL,z6.renL,z6.snapAll]) <;> rfl) (ih (xo+1) yK (zn yY) (zj yY) (by omega) (by omega) (by omega) (by omega) (by omega) (by omega)) (by kernel_rfl)
   | false =>
    exact zR (ks:=[1,5,8,9,10]) (st':=(sd40137 4 1 2 3 5 xo yK xc n r)) ((ranges_each_3p5c_l_o1 n xc)++[.op (some 18) ⟨.lsl 4 0 ((yK++((z7 xc n).l)).length) 2 none,[(2,none),(4,some ⟨(yK++((z7 xc n).l)).map Sn.D,2,false⟩)],[2],5⟩,.rw 19 (I ((xo+1:Nat):Int))]) (Ai (ya (i:=xo) (by have:=zj yY; omega)) (Ai (app_moreD (te:=yl) (gO:=zB [(1,⟨[I n],1,true⟩),(2,⟨yK.map Sn.D,2,false⟩),(3,⟨[.agg [I xc.lo,I xc.hi]],2,false⟩)]) (nxt:=4) (o:=2) (v:=yK) z6 (z7 xc n) h19 (by kernel_rfl) rfl (by kernel_rfl) (by decide) ⟨by simp only [yl,big] <;> (omega),by simp only [big] <;> (omega)⟩) (Ai p2 (Ai p1 (Ai (yy yY) trivial))))) (by kernel_rfl) (by (simp only [sd40137,go_sem,List.length_set,Nat.reduceAdd,Nat.reduceEqDiff,Nat.reduceLT,Nat.reduceLeDiff,bI2,zb.idsL,zb.renL,zb.snapAll,z6.idsL,z6.renL,z6.snapAll]) <;> rfl) (ih (xo+1) (yK++((z7 xc n).l)) (zn yY) (zj yY) (by omega) (by omega) (by omega) (by exact all_app (by assumption) (by assumption)) (by simp only [List.length_append,List.length_cons,List.length_nil] at * <;> omega) (by omega)) (by kernel_rfl)
  | false =>
   have p3:=(Ai (show flat fuelD (.sl ((z7 xc n).nl) (((z7 xc n).l).map Sn.D) (zsl ((z7 xc n).nl) 2) none)=false from (by rw [h18] <;> kernel_rfl)) (Ai (trivial) (ym xc n (by omega) (by omega))))
   cases h20:((z7 xc n).l).isEmpty with
   | true =>
    exact zR (ks:=[1,5,8,9,10]) (st':=(sd40136 2 1 3 4 xo yK xc n r)) ((ranges_each_3p5c_l_o2 n xc)++[.op (some 18) ⟨.lsl 2 0 yK.length 2 none,[],[],4⟩,.rw 19 (I ((xo+1:Nat):Int))]) (Ai (ya (i:=xo) (by have:=zj yY; omega)) (Ai (app_none (te:=yl) (gO:=zB [(1,⟨[I n],1,true⟩),(2,⟨yK.map Sn.D,2,false⟩),(3,⟨[.agg [I xc.lo,I xc.hi]],2,false⟩)]) (nxt:=4) (f:=Sn.D) (sz:=2) (d:=.lsl 2 0 yK.length 2 none) (z7 xc n) h20 rfl) (Ai p3 (Ai p1 (Ai (yy yY) trivial))))) (by kernel_rfl) (by (simp only [sd40136,go_sem,List.length_set,Nat.reduceAdd,Nat.reduceEqDiff,Nat.reduceLT,Nat.reduceLeDiff,bI2,zb.idsL,zb.renL,zb.snapAll,z6.idsL,z6.renL,z6.snapAll]) <;> rfl) (ih (xo+1) yK (zn yY) (zj yY) (by omega) (by omega) (by omega) (by omega) (by omega) (by omega)) (by kernel_rfl)
   | false =>
    exact zR (ks:=[1,5,8,9,10]) (st':=(sd40137 4 1 2 3 5 xo yK xc n r)) ((ranges_each_3p5c_l_o2 n xc)++[.op (some 18) ⟨.lsl 4 0 ((yK++((z7 xc n).l)).length) 2 none,[(2,none),(4,some ⟨(yK++((z7 xc n).l)).map Sn.D,2,false⟩)],[2],5⟩,.rw 19 (I ((xo+1:Nat):Int))]) (Ai (ya (i:=xo) (by have:=zj yY; omega)) (Ai (app_moreD (te:=yl) (gO:=zB [(1,⟨[I n],1,true⟩),(2,⟨yK.map Sn.D,2,false⟩),(3,⟨[.agg [I xc.lo,I xc.hi]],2,false⟩)]) (nxt:=4) (o:=2) (v:=yK) z6 (z7 xc n) h20 (by kernel_rfl) rfl (by kernel_rfl) (by decide) ⟨by simp only [yl,big] <;> (omega),by simp only [big] <;> (omega)⟩) (Ai p3 (Ai p1 (Ai (yy yY) trivial))))) (by kernel_rfl) (by (simp only [sd40137,go_sem,List.length_set,Nat.reduceAdd,Nat.reduceEqDiff,Nat.reduceLT,Nat.reduceLeDiff,bI2,zb.idsL,zb.renL,zb.snapAll,z6.idsL,z6.renL,z6.snapAll]) <;> rfl) (ih (xo+1) (yK++((z7 xc n).l)) (zn yY) (zj yY) (by omega) (by omega) (by omega) (by exact all_app (by assumption) (by assumption)) (by simp only [List.length_append,List.length_cons,List.length_nil] at * <;> omega) (by omega)) (by kernel_rfl)
theorem ivt_ranges_each_3p5c (r:GS Sn) (n:Int):∀ (x9:List Sn) (xo:Nat) (yK:List Sn) (yY:r.l.drop xo=x9) (xL:xo≤r.l.length) (hB:∀ x∈r.l,-1099511627776≤x.lo∧x.lo≤x.hi∧x.hi≤1099511627776) (xQ:r.l.length≤64) (hn:1≤n∧n≤10000) (hr3:∀ s∈yK,0≤s.lo∧s.lo≤s.hi∧s.hi < n) (hg3p5_vc3p5_0:yK.length≤2 * xo) (hL3p5:r.l.length≤1099511627776),iv_ranges_each_3p5 r n (y6 n x9 yK):=by
 intro x9
 induction x9 with
 | nil =>
  intro xo yK yY xL hB xQ hn hr3 hg3p5_vc3p5_0 hL3p5
  unfold y6
  obtain rfl:xo=r.l.length:=nil_eq yY xL
  exact ⟨hr3,hg3p5_vc3p5_0⟩
 | cons xc x9 ih =>
  intro xo yK yY xL hB xQ hn hr3 hg3p5_vc3p5_0 hL3p5
  have hlt3p5:=zj yY
  have hbx:=hB xc (mem_drop yY)
  have hlx:=rests1_len xc n
  have hrx:=rests1_bd xc n hbx hn
  unfold y6
  cases h18:(z7 xc n).nl with
  | true =>
   cases h19:((z7 xc n).l).isEmpty with
   | true =>
    exact ih (xo+1) yK (zn yY) (zj yY) (by omega) (by omega) (by omega) (by omega) (by omega) (by omega)
   | false =>
    exact ih (xo+1) (yK++((z7 xc n).l)) (zn yY) (zj yY) (by omega) (by omega) (by omega) (by exact all_app (by assumption) (by assumption)) (by simp only [List.length_append,List.length_cons,List.length_nil] at * <;> omega) (by omega)
  | false =>
   cases h20:((z7 xc n).l).isEmpty with
   | true =>
    exact ih (xo+1) yK (zn yY) (zj yY) (by omega) (by omega) (by omega) (by omega) (by omega) (by omega)
   | false =>
    exact ih (xo+1) (yK++((z7 xc n).l)) (zn yY) (zj yY) (by omega) (by omega) (by omega) (by exact all_app (by assumption) (by assumption)) (by simp only [List.length_append,List.length_cons,List.length_nil] at * <;> omega) (by omega)
def ranges_each_3p5a_l_o1 (n:Int) (xc:Sn):List Ora:=[.dec true,.el (.agg [I xc.lo,I xc.hi]),.pureS (.sl ((z7 xc n).nl) (((z7 xc n).l).map Sn.D) (zsl ((z7 xc n).nl) 2) none) true []]
def ranges_each_3p5a_l_o2 (n:Int) (xc:Sn):List Ora:=[.dec true,.el (.agg [I xc.lo,I xc.hi]),.pureS (.sl ((z7 xc n).nl) (((z7 xc n).l).map Sn.D) (zsl ((z7 xc n).nl) 2) none) false []]
theorem lp_ranges_each_3p5a (r:GS Sn) (n:Int):∀ (x9:List Sn) (xo:Nat) (yO:List Sn) (yY:r.l.drop xo=x9) (xL:xo≤r.l.length) (hB:∀ x∈r.l,-1099511627776≤x.lo∧x.lo≤x.hi∧x.hi≤1099511627776) (xQ:r.l.length≤64) (hn:1≤n∧n≤10000) (hr1:∀ s∈yO,0≤s.lo∧s.lo≤s.hi∧s.hi < n) (hg3p5_va3p5_0:yO.length≤2 * xo) (hL3p5:r.l.length≤1099511627776),(lim cfg).loop 70 lp70_3 ⟨21,[(1,.fn (.func 106) [] [.lref 1 0 1 0]),(5,.lsl 2 0 yO.length 2 none),(8,.sl r.nl (r.l.map Sn.D) (zsl r.nl 2) none),(9,I ((r.l.length:Nat):Int)),(10,I ((xo:Nat):Int))],[(1,⟨[I n],1,false⟩),(2,⟨yO.map Sn.D,2,false⟩)],3,2⟩=some (lr_ranges_each_3p5 r n (yC n x9 yO)):=by
 intro x9
 induction x9 with
 | nil =>
  intro xo yO yY xL hB xQ hn hr1 hg3p5_va3p5_0 hL3p5
  unfold yC
  obtain rfl:xo=r.l.length:=nil_eq yY xL
  exact yc [.dec false] (Ai (lt_no yY) trivial) (by kernel_rfl)
 | cons xc x9 ih =>
  intro xo yO yY xL hB xQ hn hr1 hg3p5_va3p5_0 hL3p5
  have hlt3p5:=zj yY
  have hbx:=hB xc (mem_drop yY)
  have hlx:=rests1_len xc n
  have hrx:=rests1_bd xc n hbx hn
  unfold yC
  have p1:=(el_at (s:=r) (f:=Sn.D) (k:=2) yY)
  cases h21:(z7 xc n).nl with
  | true =>
   have p2:=(Ai (show flat fuelD (.sl ((z7 xc n).nl) (((z7 xc n).l).map Sn.D) (zsl ((z7 xc n).nl) 2) none)=true from (by rw [h21] <;> kernel_rfl)) (Ai (trivial) (ym xc n (by omega) (by omega))))
   cases h22:((z7 xc n).l).isEmpty with
   | true =>
    exact zR (ks:=[1,5,8,9,10]) (st':=(sd40138 2 1 3 4 xo yO xc n r)) ((ranges_each_3p5a_l_o1 n xc)++[.op (some 18) ⟨.lsl 2 0 yO.length 2 none,[],[],4⟩,.rw 19 (I ((xo+1:Nat):Int))]) (Ai (ya (i:=xo) (by have:=zj yY; omega)) (Ai (app_none (te:=yl) (gO:=zB [(1,⟨[I n],1,false⟩),(2,⟨yO.map Sn.D,2,false⟩),(3,⟨[.agg [I xc.lo,I xc.hi]],2,false⟩)]) (nxt:=4) (f:=Sn.D) (sz:=2) (d:=.lsl 2 0 yO.length 2 none) (z7 xc n) h22 rfl) (Ai p2 (Ai p1 (Ai (yy yY) trivial))))) (by kernel_rfl) (by (simp only [sd40138,go_sem,List.length_set,Nat.reduceAdd,Nat.reduceEqDiff,Nat.reduceLT,Nat.reduceLeDiff,bI2,zb.idsL,zb.renL,zb.snapAll,z6.idsL,z6.renL,z6.snapAll]) <;> rfl) (ih (xo+1) yO (zn yY) (zj yY) (by omega) (by omega) (by omega) (by omega) (by omega) (by omega)) (by kernel_rfl)
   | false =>
    exact zR (ks:=[1,5,8,9,10]) (st':=(sd40139 4 1 2 3 5 xo yO xc n r)) ((ranges_each_3p5a_l_o1 n xc)++[.op (some 18) ⟨.lsl 4 0 ((yO++((z7 xc n).l)).length) 2 none,[(2,none),(4,some ⟨(yO++((z7 xc n).l)).map Sn.D,2,false⟩)],[2],5⟩,.rw 19 (I ((xo+1:Nat):Int))]) (Ai (ya (i:=xo) (by have:=zj yY; omega)) (Ai (app_moreD (te:=yl) (gO:=zB [(1,⟨[I n],1,false⟩),(2,⟨yO.map Sn.D,2,false⟩),(3,⟨[.agg [I xc.lo,I xc.hi]],2,false⟩)]) (nxt:=4) (o:=2) (v:=yO) z6 (z7 xc n) h22 (by kernel_rfl) rfl (by kernel_rfl) (by decide) ⟨by simp only [yl,big] <;> (omega),by simp only [big] <;> (omega)⟩) (Ai p2 (Ai p1 (Ai (yy yY) trivial))))) (by kernel_rfl) (by (simp only [sd40139,go_sem,List.length_set,Nat.reduceAdd,Nat.reduceEqDiff,Nat.reduceLT,Nat.reduceLeDiff,bI2,zb.idsL,zb.renL,zb.snapAll,z6.idsL,z6.renL,z6.snapAll]) <;> rfl) (ih (xo+1) (yO++((z7 xc n).l)) (zn yY) (zj yY) (by omega) (by omega) (by omega) (by exact all_app (by assumption) (by assumption)) (by simp only [List.length_append,List.length_cons,List.length_nil] at * <;> omega) (by omega)) (by kernel_rfl)
  | false =>
   have p3:=(Ai (show flat fuelD (.sl ((z7 xc n).nl) (((z7 xc n).l).map Sn.D) (zsl ((z7 xc n).nl) 2) none)=false from (by rw [h21] <;> kernel_rfl)) (Ai (trivial) (ym xc n (by omega) (by omega))))
   cases h23:((z7 xc n).l).isEmpty with
   | true =>
    exact zR (ks:=[1,5,8,9,10]) (st':=(sd40136 2 1 3 4 xo yO xc n r)) ((ranges_each_3p5a_l_o2 n xc)++[.op (some 18) ⟨.lsl 2 0 yO.length 2 none,[],[],4⟩,.rw 19 (I ((xo+1:Nat):Int))]) (Ai (ya (i:=xo) (by have:=zj yY; omega)) (Ai (app_none (te:=yl) (gO:=zB [(1,⟨[I n],1,true⟩),(2,⟨yO.map Sn.D,2,false⟩),(3,⟨[.agg [I xc.lo,I xc.hi]],2,false⟩)]) (nxt:=4) (f:=Sn.D) (sz:=2) (d:=.lsl 2 0 yO.length 2 none) (z7 xc n) h23 rfl) (Ai p3 (Ai p1 (Ai (yy yY) trivial))))) (by kernel_rfl) (by (simp only [sd40136,go_sem,List.length_set,Nat.reduceAdd,Nat.reduceEqDiff,Nat.reduceLT,Nat.reduceLeDiff,bI2,zb.idsL,zb.renL,zb.snapAll,z6.idsL,z6.renL,z6.snapAll]) <;> rfl) (lp_ranges_each_3p5c r n _ (xo+1) yO (zn yY) (zj yY) (by omega) (by omega) (by omega) (by omega) (by omega) (by omega)) (by kernel_rfl)
   | false =>
    exact zR (ks:=[1,5,8,9,10]) (st':=(sd40137 4 1 2 3 5 xo yO xc n r)) ((ranges_each_3p5a_l_o2 n xc)++[.op (some 18) ⟨.lsl 4 0 ((yO++((z7 xc n).l)).length) 2 none,[(2,none),(4,some ⟨(yO++((z7 xc n).l)).map Sn.D,2,false⟩)],[2],5⟩,.rw 19 (I ((xo+1:Nat):Int))]) (Ai (ya (i:=xo) (by have:=zj yY; omega)) (Ai (app_moreD (te:=yl) (gO:=zB [(1,⟨[I n],1,true⟩),(2,⟨yO.map Sn.D,2,false⟩),(3,⟨[.agg [I xc.lo,I xc.hi]],2,false⟩)]) (nxt:=4) (o:=2) (v:=yO) z6 (z7 xc n) h23 (by kernel_rfl) rfl (by kernel_rfl) (by decide) ⟨by simp only [yl,big] <;> (omega),by simp only [big] <;> (omega)⟩) (Ai p3 (Ai p1 (Ai (yy yY) trivial))))) (by kernel_rfl) (by (simp only [sd40137,go_sem,List.length_set,Nat.reduceAdd,Nat.reduceEqDiff,Nat.reduceLT,Nat.reduceLeDiff,bI2,zb.idsL,zb.renL,zb.snapAll,z6.idsL,z6.renL,z6.snapAll]) <;> rfl) (lp_ranges_each_3p5c r n _ (xo+1) (yO++((z7 xc n).l)) (zn yY) (zj yY) (by omega) (by omega) (by omega) (by exact all_app (by assumption) (by assumption)) (by simp only [List.length_append,List.length_cons,List.length_nil] at * <;> omega) (by omega)) (by kernel_rfl)
theorem ivt_ranges_each_3p5a (r:GS Sn) (n:Int):∀ (x9:List Sn) (xo:Nat) (yO:List Sn) (yY:r.l.drop xo=x9) (xL:xo≤r.l.length) (hB:∀ x∈r.l,-1099511627776≤x.lo∧x.lo≤x.hi∧x.hi≤1099511627776) (xQ:r.l.length≤64) (hn:1≤n∧n≤10000) (hr1:∀ s∈yO,0≤s.lo∧s.lo≤s.hi∧s.hi < n) (hg3p5_va3p5_0:yO.length≤2 * xo) (hL3p5:r.l.length≤1099511627776),iv_ranges_each_3p5 r n (yC n x9 yO):=by
 intro x9
 induction x9 with
 | nil =>
  intro xo yO yY xL hB xQ hn hr1 hg3p5_va3p5_0 hL3p5
  unfold yC
  obtain rfl:xo=r.l.length:=nil_eq yY xL
  exact ⟨hr1,hg3p5_va3p5_0⟩
 | cons xc x9 ih =>
  intro xo yO yY xL hB xQ hn hr1 hg3p5_va3p5_0 hL3p5
  have hlt3p5:=zj yY
  have hbx:=hB xc (mem_drop yY)
  have hlx:=rests1_len xc n
  have hrx:=rests1_bd xc n hbx hn
  unfold yC
  cases h21:(z7 xc n).nl with
  | true =>
   cases h22:((z7 xc n).l).isEmpty with
   | true =>
    exact ih (xo+1) yO (zn yY) (zj yY) (by omega) (by omega) (by omega) (by omega) (by omega) (by omega)
   | false =>
    exact ih (xo+1) (yO++((z7 xc n).l)) (zn yY) (zj yY) (by omega) (by omega) (by omega) (by exact all_app (by assumption) (by assumption)) (by simp only [List.length_append,List.length_cons,List.length_nil] at * <;> omega) (by omega)
  | false =>
   cases h23:((z7 xc n).l).isEmpty with
   | true =>
    exact ivt_ranges_each_3p5c r n _ (xo+1) yO (zn yY) (zj yY) (by omega) (by omega) (by omega) (by omega) (by omega) (by omega)
   | false =>
    exact ivt_ranges_each_3p5c r n _ (xo+1) (yO++((z7 xc n).l)) (zn yY) (zj yY) (by omega) (by omega) (by omega) (by exact all_app (by assumption) (by assumption)) (by simp only [List.length_append,List.length_cons,List.length_nil] at * <;> omega) (by omega)
def ranges_each_3p5b_l_o1 (n:Int) (xc:Sn):List Ora:=[.dec true,.el (.agg [I xc.lo,I xc.hi]),.pureS (.sl ((z7 xc n).nl) (((z7 xc n).l).map Sn.D) (zsl ((z7 xc n).nl) 2) none) true []]
def ranges_each_3p5b_l_o2 (n:Int) (xc:Sn):List Ora:=[.dec true,.el (.agg [I xc.lo,I xc.hi]),.pureS (.sl ((z7 xc n).nl) (((z7 xc n).l).map Sn.D) (zsl ((z7 xc n).nl) 2) none) false []]
theorem lp_ranges_each_3p5b (r:GS Sn) (n:Int):∀ (x9:List Sn) (xo:Nat) (yY:r.l.drop xo=x9) (xL:xo≤r.l.length) (hB:∀ x∈r.l,-1099511627776≤x.lo∧x.lo≤x.hi∧x.hi≤1099511627776) (xQ:r.l.length≤64) (hn:1≤n∧n≤10000) (hL3p5:r.l.length≤1099511627776),(lim cfg).loop 70 lp70_3 ⟨21,[(1,.fn (.func 106) [] [.lref 1 0 1 0]),(5,.sl true [] 0 none),(8,.sl r.nl (r.l.map Sn.D) (zsl r.nl 2) none),(9,I ((r.l.length:Nat):Int)),(10,I ((xo:Nat):Int))],[(1,⟨[I n],1,true⟩)],2,2⟩=some (lr_ranges_each_3p5 r n (ranges_each_3p5b n x9)):=by
 intro x9
 induction x9 with
 | nil =>
  intro xo yY xL hB xQ hn hL3p5
  unfold ranges_each_3p5b
  obtain rfl:xo=r.l.length:=nil_eq yY xL
  exact yc [.dec false] (Ai (lt_no yY) trivial) (by kernel_rfl)
 | cons xc x9 ih =>
  intro xo yY xL hB xQ hn hL3p5
  have hlt3p5:=zj yY
  have hbx:=hB xc (mem_drop yY)
  have hlx:=rests1_len xc n
  have hrx:=rests1_bd xc n hbx hn
  unfold ranges_each_3p5b
  have p1:=(el_at (s:=r) (f:=Sn.D) (k:=2) yY)
  cases h24:(z7 xc n).nl with
  | true =>
   have p2:=(Ai (show flat fuelD (.sl ((z7 xc n).nl) (((z7 xc n).l).map Sn.D) (zsl ((z7 xc n).nl) 2) none)=true from (by rw [h24] <;> kernel_rfl)) (Ai (trivial) (ym xc n (by omega) (by omega))))
   cases h25:((z7 xc n).l).isEmpty with
   | true =>
    exact po_turn ((ranges_each_3p5b_l_o1 n xc)++[.op (some 18) ⟨.sl true [] 0 none,[],[],3⟩,.rw 19 (I ((xo+1:Nat):Int))]) (Ai (ya (i:=xo) (by have:=zj yY; omega)) (Ai (app_none (te:=yl) (gO:=zB [(1,⟨[I n],1,true⟩),(2,⟨[.agg [I xc.lo,I xc.hi]],2,false⟩)]) (nxt:=3) (f:=Sn.D) (sz:=2) (d:=.sl true [] 0 none) (z7 xc n) h25 rfl) (Ai p2 (Ai p1 (Ai (yy yY) trivial))))) (ih (xo+1) (zn yY) (zj yY) (by omega) (by omega) (by omega) (by omega)) (by kernel_rfl)
   | false =>
    exact zR (ks:=[1,5,8,9,10]) (st':=(sd40140 3 1 2 4 xo xc n r)) ((ranges_each_3p5b_l_o1 n xc)++[.op (some 18) ⟨.lsl 3 0 (((z7 xc n).l).length) 2 none,[(3,some ⟨((z7 xc n).l).map Sn.D,2,false⟩)],[],4⟩,.rw 19 (I ((xo+1:Nat):Int))]) (Ai (ya (i:=xo) (by have:=zj yY; omega)) (Ai (app_newD (te:=yl) (gO:=zB [(1,⟨[I n],1,true⟩),(2,⟨[.agg [I xc.lo,I xc.hi]],2,false⟩)]) (nxt:=3) (els0:=[]) (sz0:=0) (cap0:=none) z6 (z7 xc n) h25 rfl (by kernel_rfl) (by decide) ⟨by simp only [yl,big] <;> (omega),by simp only [big] <;> (omega)⟩) (Ai p2 (Ai p1 (Ai (yy yY) trivial))))) (by kernel_rfl) (by (simp only [sd40140,go_sem,List.length_set,Nat.reduceAdd,Nat.reduceEqDiff,Nat.reduceLT,Nat.reduceLeDiff,bI2,zb.idsL,zb.renL,zb.snapAll,z6.idsL,z6.renL,z6.snapAll]) <;> rfl) (lp_ranges_each_3p5c r n _ (xo+1) ((z7 xc n).l) (zn yY) (zj yY) (by omega) (by omega) (by omega) (by omega) (by omega) (by omega)) (by kernel_rfl)
  | false =>
   have p3:=(Ai (show flat fuelD (.sl ((z7 xc n).nl) (((z7 xc n).l).map Sn.D) (zsl ((z7 xc n).nl) 2) none)=false from (by rw [h24] <;> kernel_rfl)) (Ai (trivial) (ym xc n (by omega) (by omega))))
   cases h26:((z7 xc n).l).isEmpty with
   | true =>
    exact po_turn ((ranges_each_3p5b_l_o2 n xc)++[.op (some 18) ⟨.sl true [] 0 none,[],[],3⟩,.rw 19 (I ((xo+1:Nat):Int))]) (Ai (ya (i:=xo) (by have:=zj yY; omega)) (Ai (app_none (te:=yl) (gO:=zB [(1,⟨[I n],1,true⟩),(2,⟨[.agg [I xc.lo,I xc.hi]],2,false⟩)]) (nxt:=3) (f:=Sn.D) (sz:=2) (d:=.sl true [] 0 none) (z7 xc n) h26 rfl) (Ai p3 (Ai p1 (Ai (yy yY) trivial))))) (ih (xo+1) (zn yY) (zj yY) (by omega) (by omega) (by omega) (by omega)) (by kernel_rfl)
   | false =>
    exact zR (ks:=[1,5,8,9,10]) (st':=(sd40140 3 1 2 4 xo xc n r)) ((ranges_each_3p5b_l_o2 n xc)++[.op (some 18) ⟨.lsl 3 0 (((z7 xc n).l).length) 2 none,[(3,some ⟨((z7 xc n).l).map Sn.D,2,false⟩)],[],4⟩,.rw 19 (I ((xo+1:Nat):Int))]) (Ai (ya (i:=xo) (by have:=zj yY; omega)) (Ai (app_newD (te:=yl) (gO:=zB [(1,⟨[I n],1,true⟩),(2,⟨[.agg [I xc.lo,I xc.hi]],2,false⟩)]) (nxt:=3) (els0:=[]) (sz0:=0) (cap0:=none) z6 (z7 xc n) h26 rfl (by kernel_rfl) (by decide) ⟨by simp only [yl,big] <;> (omega),by simp only [big] <;> (omega)⟩) (Ai p3 (Ai p1 (Ai (yy yY) trivial))))) (by kernel_rfl) (by (simp only [sd40140,go_sem,List.length_set,Nat.reduceAdd,Nat.reduceEqDiff,Nat.reduceLT,Nat.reduceLeDiff,bI2,zb.idsL,zb.renL,zb.snapAll,z6.idsL,z6.renL,z6.snapAll]) <;> rfl) (lp_ranges_each_3p5c r n _ (xo+1) ((z7 xc n).l) (zn yY) (zj yY) (by omega) (by omega) (by omega) (by omega) (by omega) (by omega)) (by kernel_rfl)
theorem ivt_ranges_each_3p5b (r:GS Sn) (n:Int):∀ (x9:List Sn) (xo:Nat) (yY:r.l.drop xo=x9) (xL:xo≤r.l.length) (hB:∀ x∈r.l,-1099511627776≤x.lo∧x.lo≤x.hi∧x.hi≤1099511627776) (xQ:r.l.length≤64) (hn:1≤n∧n≤10000) (hL3p5:r.l.length≤1099511627776),iv_ranges_each_3p5 r n (ranges_each_3p5b n x9):=by
 intro x9
 induction x9 with
 | nil =>
  intro xo yY xL hB xQ hn hL3p5
  unfold ranges_each_3p5b
  obtain rfl:xo=r.l.length:=nil_eq yY xL
  exact trivial
 | cons xc x9 ih =>
  intro xo yY xL hB xQ hn hL3p5
  have hlt3p5:=zj yY
  have hbx:=hB xc (mem_drop yY)
  have hlx:=rests1_len xc n
  have hrx:=rests1_bd xc n hbx hn
  unfold ranges_each_3p5b
  cases h24:(z7 xc n).nl with
  | true =>
   cases h25:((z7 xc n).l).isEmpty with
   | true =>
    exact ih (xo+1) (zn yY) (zj yY) (by omega) (by omega) (by omega) (by omega)
   | false =>
    exact ivt_ranges_each_3p5c r n _ (xo+1) ((z7 xc n).l) (zn yY) (zj yY) (by omega) (by omega) (by omega) (by omega) (by omega) (by omega)
  | false =>
   cases h26:((z7 xc n).l).isEmpty with
   | true =>
    exact ih (xo+1) (zn yY) (zj yY) (by omega) (by omega) (by omega) (by omega)
   | false =>
    exact ivt_ranges_each_3p5c r n _ (xo+1) ((z7 xc n).l) (zn yY) (zj yY) (by omega) (by omega) (by omega) (by omega) (by omega) (by omega)
def ranges_each_3p5_l_o1 (n:Int) (xc:Sn):List Ora:=[.dec true,.el (.agg [I xc.lo,I xc.hi]),.pureS (.sl ((z7 xc n).nl) (((z7 xc n).l).map Sn.D) (zsl ((z7 xc n).nl) 2) none) true []]
def ranges_each_3p5_l_o2 (n:Int) (xc:Sn):List Ora:=[.dec true,.el (.agg [I xc.lo,I xc.hi]),.pureS (.sl ((z7 xc n).nl) (((z7 xc n).l).map Sn.D) (zsl ((z7 xc n).nl) 2) none) false []]
theorem lp_ranges_each_3p5 (r:GS Sn) (n:Int):∀ (x9:List Sn) (xo:Nat) (yY:r.l.drop xo=x9) (xL:xo≤r.l.length) (hB:∀ x∈r.l,-1099511627776≤x.lo∧x.lo≤x.hi∧x.hi≤1099511627776) (xQ:r.l.length≤64) (hn:1≤n∧n≤10000) (hL3p5:r.l.length≤1099511627776),(lim cfg).loop 70 lp70_3 ⟨21,[(1,.fn (.func 106) [] [.lref 1 0 1 0]),(5,.sl true [] 0 none),(8,.sl r.nl (r.l.map Sn.D) (zsl r.nl 2) none),(9,I ((r.l.length:Nat):Int)),(10,I ((xo:Nat):Int))],[(1,⟨[I n],1,false⟩)],2,2⟩=some (lr_ranges_each_3p5 r n (ranges_each_3p5 n x9)):=by
 intro x9
 induction x9 with
 | nil =>
  intro xo yY xL hB xQ hn hL3p5
  unfold ranges_each_3p5
  obtain rfl:xo=r.l.length:=nil_eq yY xL
  exact yc [.dec false] (Ai (lt_no yY) trivial) (by kernel_rfl)
 | cons xc x9 ih =>
  intro xo yY xL hB xQ hn hL3p5
  have hlt3p5:=zj yY
  have hbx:=hB xc (mem_drop yY)
  have hlx:=rests1_len xc n
  have hrx:=rests1_bd xc n hbx hn
  unfold ranges_each_3p5
  have p1:=(el_at (s:=r) (f:=Sn.D) (k:=2) yY)
  cases h27:(z7 xc n).nl with
  | true =>
   have p2:=(Ai (show flat fuelD (.sl ((z7 xc n).nl) (((z7 xc n).l).map Sn.D) (zsl ((z7 xc n).nl) 2) none)=true from (by rw [h27] <;> kernel_rfl)) (Ai (trivial) (ym xc n (by omega) (by omega))))
   cases h28:((z7 xc n).l).isEmpty with
   | true =>
    exact po_turn ((ranges_each_3p5_l_o1 n xc)++[.op (some 18) ⟨.sl true [] 0 none,[],[],3⟩,.rw 19 (I ((xo+1:Nat):Int))]) (Ai (ya (i:=xo) (by have:=zj yY; omega)) (Ai (app_none (te:=yl) (gO:=zB [(1,⟨[I n],1,false⟩),(2,⟨[.agg [I xc.lo,I xc.hi]],2,false⟩)]) (nxt:=3) (f:=Sn.D) (sz:=2) (d:=.sl true [] 0 none) (z7 xc n) h28 rfl) (Ai p2 (Ai p1 (Ai (yy yY) trivial))))) (ih (xo+1) (zn yY) (zj yY) (by omega) (by omega) (by omega) (by omega)) (by kernel_rfl)
   | false =>
    exact zR (ks:=[1,5,8,9,10]) (st':=(sd40141 3 1 2 4 xo xc n r)) ((ranges_each_3p5_l_o1 n xc)++[.op (some 18) ⟨.lsl 3 0 (((z7 xc n).l).length) 2 none,[(3,some ⟨((z7 xc n).l).map Sn.D,2,false⟩)],[],4⟩,.rw 19 (I ((xo+1:Nat):Int))]) (Ai (ya (i:=xo) (by have:=zj yY; omega)) (Ai (app_newD (te:=yl) (gO:=zB [(1,⟨[I n],1,false⟩),(2,⟨[.agg [I xc.lo,I xc.hi]],2,false⟩)]) (nxt:=3) (els0:=[]) (sz0:=0) (cap0:=none) z6 (z7 xc n) h28 rfl (by kernel_rfl) (by decide) ⟨by simp only [yl,big] <;> (omega),by simp only [big] <;> (omega)⟩) (Ai p2 (Ai p1 (Ai (yy yY) trivial))))) (by kernel_rfl) (by (simp only [sd40141,go_sem,List.length_set,Nat.reduceAdd,Nat.reduceEqDiff,Nat.reduceLT,Nat.reduceLeDiff,bI2,zb.idsL,zb.renL,zb.snapAll,z6.idsL,z6.renL,z6.snapAll]) <;> rfl) (lp_ranges_each_3p5a r n _ (xo+1) ((z7 xc n).l) (zn yY) (zj yY) (by omega) (by omega) (by omega) (by omega) (by omega) (by omega)) (by kernel_rfl)
  | false =>
   have p3:=(Ai (show flat fuelD (.sl ((z7 xc n).nl) (((z7 xc n).l).map Sn.D) (zsl ((z7 xc n).nl) 2) none)=false from (by rw [h27] <;> kernel_rfl)) (Ai (trivial) (ym xc n (by omega) (by omega))))
   cases h29:((z7 xc n).l).isEmpty with
   | true =>
    exact po_turn ((ranges_each_3p5_l_o2 n xc)++[.op (some 18) ⟨.sl true [] 0 none,[],[],3⟩,.rw 19 (I ((xo+1:Nat):Int))]) (Ai (ya (i:=xo) (by have:=zj yY; omega)) (Ai (app_none (te:=yl) (gO:=zB [(1,⟨[I n],1,true⟩),(2,⟨[.agg [I xc.lo,I xc.hi]],2,false⟩)]) (nxt:=3) (f:=Sn.D) (sz:=2) (d:=.sl true [] 0 none) (z7 xc n) h29 rfl) (Ai p3 (Ai p1 (Ai (yy yY) trivial))))) (lp_ranges_each_3p5b r n _ (xo+1) (zn yY) (zj yY) (by omega) (by omega) (by omega) (by omega)) (by kernel_rfl)
   | false =>
    exact zR (ks:=[1,5,8,9,10]) (st':=(sd40140 3 1 2 4 xo xc n r)) ((ranges_each_3p5_l_o2 n xc)++[.op (some 18) ⟨.lsl 3 0 (((z7 xc n).l).length) 2 none,[(3,some ⟨((z7 xc n).l).map Sn.D,2,false⟩)],[],4⟩,.rw 19 (I ((xo+1:Nat):Int))]) (Ai (ya (i:=xo) (by have:=zj yY; omega)) (Ai (app_newD (te:=yl) (gO:=zB [(1,⟨[I n],1,true⟩),(2,⟨[.agg [I xc.lo,I xc.hi]],2,false⟩)]) (nxt:=3) (els0:=[]) (sz0:=0) (cap0:=none) z6 (z7 xc n) h29 rfl (by kernel_rfl) (by decide) ⟨by simp only [yl,big] <;> (omega),by simp only [big] <;> (omega)⟩) (Ai p3 (Ai p1 (Ai (yy yY) trivial))))) (by kernel_rfl) (by (simp only [sd40140,go_sem,List.length_set,Nat.reduceAdd,Nat.reduceEqDiff,Nat.reduceLT,Nat.reduceLeDiff,bI2,zb.idsL,zb.renL,zb.snapAll,z6.idsL,z6.renL,z6.snapAll]) <;> rfl) (lp_ranges_each_3p5c r n _ (xo+1) ((z7 xc n).l) (zn yY) (zj yY) (by omega) (by omega) (by omega) (by omega) (by omega) (by omega)) (by kernel_rfl)
theorem ivt_ranges_each_3p5 (r:GS Sn) (n:Int):∀ (x9:List Sn) (xo:Nat) (yY:r.l.drop xo=x9) (xL:xo≤r.l.length) (hB:∀ x∈r.l,-1099511627776≤x.lo∧x.lo≤x.hi∧x.hi≤1099511627776) (xQ:r.l.length≤64) (hn:1≤n∧n≤10000) (hL3p5:r.l.length≤1099511627776),iv_ranges_each_3p5 r n (ranges_each_3p5 n x9):=by
 intro x9
 induction x9 with
 | nil =>
  intro xo yY xL hB xQ hn hL3p5
  unfold ranges_each_3p5
  obtain rfl:xo=r.l.length:=nil_eq yY xL
  exact trivial
 | cons xc x9 ih =>
  intro xo yY xL hB xQ hn hL3p5
  have hlt3p5:=zj yY
  have hbx:=hB xc (mem_drop yY)
  have hlx:=rests1_len xc n
  have hrx:=rests1_bd xc n hbx hn
  unfold ranges_each_3p5
  cases h27:(z7 xc n).nl with
  | true =>
   cases h28:((z7 xc n).l).isEmpty with
   | true =>
    exact ih (xo+1) (zn yY) (zj yY) (by omega) (by omega) (by omega) (by omega)
   | false =>
    exact ivt_ranges_each_3p5a r n _ (xo+1) ((z7 xc n).l) (zn yY) (zj yY) (by omega) (by omega) (by omega) (by omega) (by omega) (by omega)
  | false =>
   cases h29:((z7 xc n).l).isEmpty with
   | true =>
    exact ivt_ranges_each_3p5b r n _ (xo+1) (zn yY) (zj yY) (by omega) (by omega) (by omega) (by omega)
   | false =>
    exact ivt_ranges_each_3p5c r n _ (xo+1) ((z7 xc n).l) (zn yY) (zj yY) (by omega) (by omega) (by omega) (by omega) (by omega) (by omega)

def sd40142 (ν0 ν1 ν2 ν3:Nat) (μ0:Int) (μ1:List Sn) (μ2:Int) (μ3:List Sn) (μ4:Int) (μ5:Sn):St:=⟨104,[(75,B false),(1,I μ0),(5,.lref ν0 0 2 0),(9,.lsl ν1 0 μ1.length 2 none),(11,I μ2),(12,.lsl ν2 0 μ3.length 2 none),(13,I μ4),(72,.lsl ν1 0 μ1.length 2 none),(73,I ((μ1.length:Nat):Int)),(74,I ((μ1.length:Nat):Int))],[(ν0,⟨[.agg [I μ5.lo,I μ5.hi]],2,false⟩),(ν1,⟨μ1.map Sn.D,2,false⟩),(ν2,⟨μ3.map Sn.D,2,false⟩)],ν3,ν0⟩

noncomputable def lp22_19:Code:=subC [1,1,1,1,1,1,1,1,1,0,1,0,0,1,0,0,1,0,0] (bodyC Tryz.f22)

def sd40144 (ν0 ν1 ν2 ν3 ν4:Nat) (μ0:Nat) (μ1:List Sn) (μ2:Sn) (μ3:Sn) (μ4:Int) (μ5:Int) (μ6:List Sn) (μ7:Int):St:=⟨104,[(74,I ((μ0+1:Nat):Int)),(99,I ((μ0+1:Nat):Int)),(12,.lsl ν0 0 μ1.length 2 none),(98,.lsl ν0 0 μ1.length 2 none),(97,.sl ((zl (yj μ2.lo (w64 (μ3.lo+(w64 (μ4 * μ5))))) (imin μ2.hi (w64 (μ3.hi+(w64 (μ4 * μ5)))))).nl) (((zl (yj μ2.lo (w64 (μ3.lo+(w64 (μ4 * μ5))))) (imin μ2.hi (w64 (μ3.hi+(w64 (μ4 * μ5)))))).l).map Sn.D) (zsl ((zl (yj μ2.lo (w64 (μ3.lo+(w64 (μ4 * μ5))))) (imin μ2.hi (w64 (μ3.hi+(w64 (μ4 * μ5)))))).nl) 2) none),(96,I (imin μ2.hi (w64 (μ3.hi+(w64 (μ4 * μ5)))))),(95,I (w64 (μ3.hi+(w64 (μ4 * μ5))))),(94,I (w64 (μ4 * μ5))),(93,I μ5),(92,I μ4),(91,I μ3.hi),(90,.lref ν1 0 2 1),(89,I μ2.hi),(88,.lref ν2 0 2 1),(87,I (yj μ2.lo (w64 (μ3.lo+(w64 (μ4 * μ5)))))),(86,I (w64 (μ3.lo+(w64 (μ4 * μ5))))),(85,I (w64 (μ4 * μ5))),(84,I μ5),(83,I μ4),(82,I μ3.lo),(81,.lref ν1 0 2 0),(80,I μ2.lo),(79,.lref ν2 0 2 0),(78,.lsl ν0 0 μ1.length 2 none),(15,.lref ν1 0 2 0),(77,.agg [I μ3.lo,I μ3.hi]),(76,.lref ν3 μ0 2 0),(75,B true),(1,I μ5),(5,.lref ν2 0 2 0),(9,.lsl ν3 0 μ6.length 2 none),(11,I μ7),(12,.lsl ν0 0 μ1.length 2 none),(13,I μ4),(72,.lsl ν3 0 μ6.length 2 none),(73,I ((μ6.length:Nat):Int)),(74,I ((μ0:Nat):Int))],[(ν2,⟨[.agg [I μ2.lo,I μ2.hi]],2,false⟩),(ν3,⟨μ6.map Sn.D,2,false⟩),(ν0,⟨μ1.map Sn.D,2,false⟩),(ν1,⟨[.agg [I μ3.lo,I μ3.hi]],2,false⟩)],ν4,ν2⟩

def sd40145 (ν0 ν1 ν2 ν3 ν4 ν5:Nat) (μ0:Nat) (μ1:List Sn) (μ2:Sn) (μ3:Sn) (μ4:Int) (μ5:Int) (μ6:List Sn) (μ7:Int):St:=⟨104,[(74,I ((μ0+1:Nat):Int)),(99,I ((μ0+1:Nat):Int)),(12,.lsl ν0 0 ((μ1++((zl (yj μ2.lo (w64 (μ3.lo+(w64 (μ4 * μ5))))) (imin μ2.hi (w64 (μ3.hi+(w64 (μ4 * μ5)))))).l)).length) 2 none),(98,.lsl ν0 0 ((μ1++((zl (yj μ2.lo (w64 (μ3.lo+(w64 (μ4 * μ5))))) (imin μ2.hi (w64 (μ3.hi+(w64 (μ4 * μ5)))))).l)).length) 2 none),(97,.sl ((zl (yj μ2.lo (w64 (μ3.lo+(w64 (μ4 * μ5))))) (imin μ2.hi (w64 (μ3.hi+(w64 (μ4 * μ5)))))).nl) (((zl (yj μ2.lo (w64 (μ3.lo+(w64 (μ4 * μ5))))) (imin μ2.hi (w64 (μ3.hi+(w64 (μ4 * μ5)))))).l).map Sn.D) (zsl ((zl (yj μ2.lo (w64 (μ3.lo+(w64 (μ4 * μ5))))) (imin μ2.hi (w64 (μ3.hi+(w64 (μ4 * μ5)))))).nl) 2) none),(96,I (imin μ2.hi (w64 (μ3.hi+(w64 (μ4 * μ5)))))),(95,I (w64 (μ3.hi+(w64 (μ4 * μ5))))),(94,I (w64 (μ4 * μ5))),(93,I μ5),(92,I μ4),(91,I μ3.hi),(90,.lref ν1 0 2 1),(89,I μ2.hi),(88,.lref ν2 0 2 1),(87,I (yj μ2.lo (w64 (μ3.lo+(w64 (μ4 * μ5)))))),(86,I (w64 (μ3.lo+(w64 (μ4 * μ5))))),(85,I (w64 (μ4 * μ5))),(84,I μ5),(83,I μ4),(82,I μ3.lo),(81,.lref ν1 0 2 0),(80,I μ2.lo),(79,.lref ν2 0 2 0),(78,.lsl ν3 0 μ1.length 2 none),(15,.lref ν1 0 2 0),(77,.agg [I μ3.lo,I μ3.hi]),(76,.lref ν4 μ0 2 0),(75,B true),(1,I μ5),(5,.lref ν2 0 2 0),(9,.lsl ν4 0 μ6.length 2 none),(11,I μ7),(12,.lsl ν3 0 μ1.length 2 none),(13,I μ4),(72,.lsl ν4 0 μ6.length 2 none),(73,I ((μ6.length:Nat):Int)),(74,I ((μ0:Nat):Int))],[(ν2,⟨[.agg [I μ2.lo,I μ2.hi]],2,false⟩),(ν4,⟨μ6.map Sn.D,2,false⟩),(ν1,⟨[.agg [I μ3.lo,I μ3.hi]],2,false⟩),(ν0,⟨(μ1++((zl (yj μ2.lo (w64 (μ3.lo+(w64 (μ4 * μ5))))) (imin μ2.hi (w64 (μ3.hi+(w64 (μ4 * μ5)))))).l)).map Sn.D,2,false⟩)],ν5,ν2⟩

inductive LR_ranges_Turns_19 where
 | x0 (xA:List Sn)
instance:Inhabited LR_ranges_Turns_19:=⟨.x0 default⟩
def yF (n:Int) (within:Sn) (yQ:Int):List Sn→(List Sn)→LR_ranges_Turns_19
 | [],xA=>.x0 xA
 | x19::xU,xA =>
  bif ((zl (yj within.lo (w64 (x19.lo+(w64 (yQ * n))))) (imin within.hi (w64 (x19.hi+(w64 (yQ * n)))))).l).isEmpty then
   yF n within yQ xU xA
  else
   yF n within yQ xU (xA++((zl (yj within.lo (w64 (x19.lo+(w64 (yQ * n))))) (imin within.hi (w64 (x19.hi+(w64 (yQ * n)))))).l))
def lr_ranges_Turns_19 (n:Int) (within:Sn) (yV:Int) (yT:List Sn) (yQ:Int):LR_ranges_Turns_19→Exit × St
 | .x0 xA=>((.exit 2),(sd40142 0 1 2 3 n yT yV xA yQ within))
def iv_ranges_Turns_19 (n:Int) (within:Sn) (yV:Int) (yT:List Sn) (yQ:Int):LR_ranges_Turns_19→Prop
 | .x0 xA=>(((xA.length:Nat):Int)≤128 * (yQ - yV+66)+yT.length)
theorem lp_ranges_Turns_19 (n:Int) (within:Sn) (yV:Int) (yT:List Sn) (yQ:Int):∀ (xU:List Sn) (i19:Nat) (xA:List Sn) (hd19:yT.drop i19=xU) (hi19:i19≤yT.length) (ho:yT.length≤128) (hv0:yV - 66≤yQ∧yQ≤yV+1∧-1099511627777≤yQ∧yV≤1099511627777) (hg0:((xA.length:Nat):Int)≤128 * (yQ - yV+66)+i19) (hL19:yT.length≤9223372036854775807),(lim cfg).loop 22 lp22_19 ⟨104,[(1,I n),(5,.lref 0 0 2 0),(9,.lsl 1 0 yT.length 2 none),(11,I yV),(12,.lsl 2 0 xA.length 2 none),(13,I yQ),(72,.lsl 1 0 yT.length 2 none),(73,I ((yT.length:Nat):Int)),(74,I ((i19:Nat):Int))],[(0,⟨[.agg [I within.lo,I within.hi]],2,false⟩),(1,⟨yT.map Sn.D,2,false⟩),(2,⟨xA.map Sn.D,2,false⟩)],3,0⟩=some (lr_ranges_Turns_19 n within yV yT yQ (yF n within yQ xU xA)):=by
 intro xU
 induction xU with
 | nil =>
  intro i19 xA hd19 hi19 ho hv0 hg0 hL19
  unfold yF
  obtain rfl:i19=yT.length:=nil_eq hd19 hi19
  exact yc [.dec false] (Ai (lt_no hd19) trivial) (by kernel_rfl)
 | cons x19 xU ih =>
  intro i19 xA hd19 hi19 ho hv0 hg0 hL19
  have hlt19:=zj hd19
  have hlx:=some1 (yj within.lo (w64 (x19.lo+(w64 (yQ * n))))) (imin within.hi (w64 (x19.hi+(w64 (yQ * n)))))
  unfold yF
  cases h46:((zl (yj within.lo (w64 (x19.lo+(w64 (yQ * n))))) (imin within.hi (w64 (x19.hi+(w64 (yQ * n)))))).l).isEmpty with
  | true =>
   exact zR (ks:=[1,5,9,11,12,13,72,73,74]) (st':=(sd40144 2 3 0 1 4 i19 xA within x19 yQ n yT yV)) [.dec true,.op (some 76) ⟨.lref 1 i19 2 0,[],[],3⟩,.op (some 77) ⟨.agg [I x19.lo,I x19.hi],[],[1],3⟩,.pure (.sl ((zl (yj within.lo (w64 (x19.lo+(w64 (yQ * n))))) (imin within.hi (w64 (x19.hi+(w64 (yQ * n)))))).nl) (((zl (yj within.lo (w64 (x19.lo+(w64 (yQ * n))))) (imin within.hi (w64 (x19.hi+(w64 (yQ * n)))))).l).map Sn.D) (zsl ((zl (yj within.lo (w64 (x19.lo+(w64 (yQ * n))))) (imin within.hi (w64 (x19.hi+(w64 (yQ * n)))))).nl) 2) none),.op (some 98) ⟨.lsl 2 0 xA.length 2 none,[],[],4⟩,.rw 99 (I ((i19+1:Nat):Int))] (Ai (ya (i:=i19) (by have:=zj hd19; omega)) (Ai (app_none (te:=yl) (gO:=zB [(0,⟨[.agg [I within.lo,I within.hi]],2,false⟩),(1,⟨yT.map Sn.D,2,false⟩),(2,⟨xA.map Sn.D,2,false⟩),(3,⟨[.agg [I x19.lo,I x19.hi]],2,false⟩)]) (nxt:=4) (f:=Sn.D) (sz:=2) (d:=.lsl 2 0 xA.length 2 none) (zl (yj within.lo (w64 (x19.lo+(w64 (yQ * n))))) (imin within.hi (w64 (x19.hi+(w64 (yQ * n)))))) h46 rfl) (Ai (T_ranges_some (yj within.lo (w64 (x19.lo+(w64 (yQ * n))))) (imin within.hi (w64 (x19.hi+(w64 (yQ * n)))))) (Ai (load_row (C:=cfg) (objs:=[(0,⟨[.agg [I within.lo,I within.hi]],2,false⟩),(1,⟨yT.map Sn.D,2,false⟩),(2,⟨xA.map Sn.D,2,false⟩)]) (nxt:=3) (t:=25) (ty:=yl) (o:=1) (n:=i19) (sz:=2) (sub:=0) (ob:=⟨yT.map Sn.D,2,false⟩) (e:=Sn.D x19) (d:=.agg [I x19.lo,I x19.hi]) (by kernel_rfl) (by kernel_rfl) rfl (row_at (f:=Sn.D) hd19) (by kernel_rfl)) (Ai (idx_row (C:=cfg) (nxt:=3) (t:=22) (ty:=ty22) (te:=yl) (e:=25) (o:=1) (len:=yT.length) (sz:=2) (cap:=none) (i:=((i19:Nat):Int)) (by kernel_rfl) rfl (by kernel_rfl) rfl (by omega) (by omega)) (Ai (yy hd19) trivial)))))) (by kernel_rfl) (by (simp only [sd40144,go_sem,List.length_set,Nat.reduceAdd,Nat.reduceEqDiff,Nat.reduceLT,Nat.reduceLeDiff,bI2,zb.idsL,zb.renL,zb.snapAll,z6.idsL,z6.renL,z6.snapAll]) <;> rfl) (ih (i19+1) xA (zn hd19) (zj hd19) (by omega) (by omega) (by omega) (by omega)) (by kernel_rfl)
  | false =>
   exact zR (ks:=[1,5,9,11,12,13,72,73,74]) (st':=(sd40145 4 3 0 2 1 5 i19 xA within x19 yQ n yT yV)) [.dec true,.op (some 76) ⟨.lref 1 i19 2 0,[],[],3⟩,.op (some 77) ⟨.agg [I x19.lo,I x19.hi],[],[1],3⟩,.pure (.sl ((zl (yj within.lo (w64 (x19.lo+(w64 (yQ * n))))) (imin within.hi (w64 (x19.hi+(w64 (yQ * n)))))).nl) (((zl (yj within.lo (w64 (x19.lo+(w64 (yQ * n))))) (imin within.hi (w64 (x19.hi+(w64 (yQ * n)))))).l).map Sn.D) (zsl ((zl (yj within.lo (w64 (x19.lo+(w64 (yQ * n))))) (imin within.hi (w64 (x19.hi+(w64 (yQ * n)))))).nl) 2) none),.op (some 98) ⟨.lsl 4 0 ((xA++((zl (yj within.lo (w64 (x19.lo+(w64 (yQ * n))))) (imin within.hi (w64 (x19.hi+(w64 (yQ * n)))))).l)).length) 2 none,[(2,none),(4,some ⟨(xA++((zl (yj within.lo (w64 (x19.lo+(w64 (yQ * n))))) (imin within.hi (w64 (x19.hi+(w64 (yQ * n)))))).l)).map Sn.D,2,false⟩)],[2],5⟩,.rw 99 (I ((i19+1:Nat):Int))] (Ai (ya (i:=i19) (by have:=zj hd19; omega)) (Ai (app_moreD (te:=yl) (gO:=zB [(0,⟨[.agg [I within.lo,I within.hi]],2,false⟩),(1,⟨yT.map Sn.D,2,false⟩),(2,⟨xA.map Sn.D,2,false⟩),(3,⟨[.agg [I x19.lo,I x19.hi]],2,false⟩)]) (nxt:=4) (o:=2) (v:=xA) z6 (zl (yj within.lo (w64 (x19.lo+(w64 (yQ * n))))) (imin within.hi (w64 (x19.hi+(w64 (yQ * n)))))) h46 (by kernel_rfl) rfl (by kernel_rfl) (by decide) ⟨by simp only [yl,big] <;> (omega),by simp only [big] <;> (omega)⟩) (Ai (T_ranges_some (yj within.lo (w64 (x19.lo+(w64 (yQ * n))))) (imin within.hi (w64 (x19.hi+(w64 (yQ * n)))))) (Ai (load_row (C:=cfg) (objs:=[(0,⟨[.agg [I within.lo,I within.hi]],2,false⟩),(1,⟨yT.map Sn.D,2,false⟩),(2,⟨xA.map Sn.D,2,false⟩)]) (nxt:=3) (t:=25) (ty:=yl) (o:=1) (n:=i19) (sz:=2) (sub:=0) (ob:=⟨yT.map Sn.D,2,false⟩) (e:=Sn.D x19) (d:=.agg [I x19.lo,I x19.hi]) (by kernel_rfl) (by kernel_rfl) rfl (row_at (f:=Sn.D) hd19) (by kernel_rfl)) (Ai (idx_row (C:=cfg) (nxt:=3) (t:=22) (ty:=ty22) (te:=yl) (e:=25) (o:=1) (len:=yT.length) (sz:=2) (cap:=none) (i:=((i19:Nat):Int)) (by kernel_rfl) rfl (by kernel_rfl) rfl (by omega) (by omega)) (Ai (yy hd19) trivial)))))) (by kernel_rfl) (by (simp only [sd40145,go_sem,List.length_set,Nat.reduceAdd,Nat.reduceEqDiff,Nat.reduceLT,Nat.reduceLeDiff,bI2,zb.idsL,zb.renL,zb.snapAll,z6.idsL,z6.renL,z6.snapAll]) <;> rfl) (ih (i19+1) (xA++((zl (yj within.lo (w64 (x19.lo+(w64 (yQ * n))))) (imin within.hi (w64 (x19.hi+(w64 (yQ * n)))))).l)) (zn hd19) (zj hd19) (by omega) (by omega) (by simp only [List.length_append,List.length_cons,List.length_nil] at * <;> omega) (by omega)) (by kernel_rfl)
theorem ivt_ranges_Turns_19 (n:Int) (within:Sn) (yV:Int) (yT:List Sn) (yQ:Int):∀ (xU:List Sn) (i19:Nat) (xA:List Sn) (hd19:yT.drop i19=xU) (hi19:i19≤yT.length) (ho:yT.length≤128) (hv0:yV - 66≤yQ∧yQ≤yV+1∧-1099511627777≤yQ∧yV≤1099511627777) (hg0:((xA.length:Nat):Int)≤128 * (yQ - yV+66)+i19) (hL19:yT.length≤9223372036854775807),iv_ranges_Turns_19 n within yV yT yQ (yF n within yQ xU xA):=by
 intro xU
 induction xU with
 | nil =>
  intro i19 xA hd19 hi19 ho hv0 hg0 hL19
  unfold yF
  obtain rfl:i19=yT.length:=nil_eq hd19 hi19
  exact hg0
 | cons x19 xU ih =>
  intro i19 xA hd19 hi19 ho hv0 hg0 hL19
  have hlt19:=zj hd19
  have hlx:=some1 (yj within.lo (w64 (x19.lo+(w64 (yQ * n))))) (imin within.hi (w64 (x19.hi+(w64 (yQ * n)))))
  unfold yF
  cases h46:((zl (yj within.lo (w64 (x19.lo+(w64 (yQ * n))))) (imin within.hi (w64 (x19.hi+(w64 (yQ * n)))))).l).isEmpty with
  | true =>
   exact ih (i19+1) xA (zn hd19) (zj hd19) (by omega) (by omega) (by omega) (by omega)
  | false =>
   exact ih (i19+1) (xA++((zl (yj within.lo (w64 (x19.lo+(w64 (yQ * n))))) (imin within.hi (w64 (x19.hi+(w64 (yQ * n)))))).l)) (zn hd19) (zj hd19) (by omega) (by omega) (by simp only [List.length_append,List.length_cons,List.length_nil] at * <;> omega) (by omega)

def sd40143 (ν0 ν1 ν2:Nat) (μ0:Int) (μ1:List Sn) (μ2:Int) (μ3:Int) (μ4:Sn):St:=⟨104,[(75,B false),(1,I μ0),(5,.lref ν0 0 2 0),(9,.lsl ν1 0 μ1.length 2 none),(11,I μ2),(12,.sl true [] 0 none),(13,I μ3),(72,.lsl ν1 0 μ1.length 2 none),(73,I ((μ1.length:Nat):Int)),(74,I ((μ1.length:Nat):Int))],[(ν0,⟨[.agg [I μ4.lo,I μ4.hi]],2,false⟩),(ν1,⟨μ1.map Sn.D,2,false⟩)],ν2,ν0⟩

def sd40146 (ν0 ν1 ν2 ν3:Nat) (μ0:Nat) (μ1:Sn) (μ2:Sn) (μ3:Int) (μ4:Int) (μ5:List Sn) (μ6:Int):St:=⟨104,[(74,I ((μ0+1:Nat):Int)),(99,I ((μ0+1:Nat):Int)),(12,.sl true [] 0 none),(98,.sl true [] 0 none),(97,.sl ((zl (yj μ1.lo (w64 (μ2.lo+(w64 (μ3 * μ4))))) (imin μ1.hi (w64 (μ2.hi+(w64 (μ3 * μ4)))))).nl) (((zl (yj μ1.lo (w64 (μ2.lo+(w64 (μ3 * μ4))))) (imin μ1.hi (w64 (μ2.hi+(w64 (μ3 * μ4)))))).l).map Sn.D) (zsl ((zl (yj μ1.lo (w64 (μ2.lo+(w64 (μ3 * μ4))))) (imin μ1.hi (w64 (μ2.hi+(w64 (μ3 * μ4)))))).nl) 2) none),(96,I (imin μ1.hi (w64 (μ2.hi+(w64 (μ3 * μ4)))))),(95,I (w64 (μ2.hi+(w64 (μ3 * μ4))))),(94,I (w64 (μ3 * μ4))),(93,I μ4),(92,I μ3),(91,I μ2.hi),(90,.lref ν0 0 2 1),(89,I μ1.hi),(88,.lref ν1 0 2 1),(87,I (yj μ1.lo (w64 (μ2.lo+(w64 (μ3 * μ4)))))),(86,I (w64 (μ2.lo+(w64 (μ3 * μ4))))),(85,I (w64 (μ3 * μ4))),(84,I μ4),(83,I μ3),(82,I μ2.lo),(81,.lref ν0 0 2 0),(80,I μ1.lo),(79,.lref ν1 0 2 0),(78,.sl true [] 0 none),(15,.lref ν0 0 2 0),(77,.agg [I μ2.lo,I μ2.hi]),(76,.lref ν2 μ0 2 0),(75,B true),(1,I μ4),(5,.lref ν1 0 2 0),(9,.lsl ν2 0 μ5.length 2 none),(11,I μ6),(12,.sl true [] 0 none),(13,I μ3),(72,.lsl ν2 0 μ5.length 2 none),(73,I ((μ5.length:Nat):Int)),(74,I ((μ0:Nat):Int))],[(ν1,⟨[.agg [I μ1.lo,I μ1.hi]],2,false⟩),(ν2,⟨μ5.map Sn.D,2,false⟩),(ν0,⟨[.agg [I μ2.lo,I μ2.hi]],2,false⟩)],ν3,ν1⟩

def sd40147 (ν0 ν1 ν2 ν3 ν4:Nat) (μ0:Nat) (μ1:Sn) (μ2:Sn) (μ3:Int) (μ4:Int) (μ5:List Sn) (μ6:Int):St:=⟨104,[(74,I ((μ0+1:Nat):Int)),(99,I ((μ0+1:Nat):Int)),(12,.lsl ν0 0 (((zl (yj μ1.lo (w64 (μ2.lo+(w64 (μ3 * μ4))))) (imin μ1.hi (w64 (μ2.hi+(w64 (μ3 * μ4)))))).l).length) 2 none),(98,.lsl ν0 0 (((zl (yj μ1.lo (w64 (μ2.lo+(w64 (μ3 * μ4))))) (imin μ1.hi (w64 (μ2.hi+(w64 (μ3 * μ4)))))).l).length) 2 none),(97,.sl ((zl (yj μ1.lo (w64 (μ2.lo+(w64 (μ3 * μ4))))) (imin μ1.hi (w64 (μ2.hi+(w64 (μ3 * μ4)))))).nl) (((zl (yj μ1.lo (w64 (μ2.lo+(w64 (μ3 * μ4))))) (imin μ1.hi (w64 (μ2.hi+(w64 (μ3 * μ4)))))).l).map Sn.D) (zsl ((zl (yj μ1.lo (w64 (μ2.lo+(w64 (μ3 * μ4))))) (imin μ1.hi (w64 (μ2.hi+(w64 (μ3 * μ4)))))).nl) 2) none),(96,I (imin μ1.hi (w64 (μ2.hi+(w64 (μ3 * μ4)))))),(95,I (w64 (μ2.hi+(w64 (μ3 * μ4))))),(94,I (w64 (μ3 * μ4))),(93,I μ4),(92,I μ3),(91,I μ2.hi),(90,.lref ν1 0 2 1),(89,I μ1.hi),(88,.lref ν2 0 2 1),(87,I (yj μ1.lo (w64 (μ2.lo+(w64 (μ3 * μ4)))))),(86,I (w64 (μ2.lo+(w64 (μ3 * μ4))))),(85,I (w64 (μ3 * μ4))),(84,I μ4),(83,I μ3),(82,I μ2.lo),(81,.lref ν1 0 2 0),(80,I μ1.lo),(79,.lref ν2 0 2 0),(78,.sl true [] 0 none),(15,.lref ν1 0 2 0),(77,.agg [I μ2.lo,I μ2.hi]),(76,.lref ν3 μ0 2 0),(75,B true),(1,I μ4),(5,.lref ν2 0 2 0),(9,.lsl ν3 0 μ5.length 2 none),(11,I μ6),(12,.sl true [] 0 none),(13,I μ3),(72,.lsl ν3 0 μ5.length 2 none),(73,I ((μ5.length:Nat):Int)),(74,I ((μ0:Nat):Int))],[(ν2,⟨[.agg [I μ1.lo,I μ1.hi]],2,false⟩),(ν3,⟨μ5.map Sn.D,2,false⟩),(ν1,⟨[.agg [I μ2.lo,I μ2.hi]],2,false⟩),(ν0,⟨((zl (yj μ1.lo (w64 (μ2.lo+(w64 (μ3 * μ4))))) (imin μ1.hi (w64 (μ2.hi+(w64 (μ3 * μ4)))))).l).map Sn.D,2,false⟩)],ν4,ν2⟩

inductive LR_ranges_Turns_19p1 where
 | x0 (xe:List Sn)
 | x1
instance:Inhabited LR_ranges_Turns_19p1:=⟨.x0 default⟩
def yv (n:Int) (within:Sn) (yS:Int):List Sn→(List Sn)→LR_ranges_Turns_19p1
 | [],xe=>.x0 xe
 | xd::xm,xe =>
  bif ((zl (yj within.lo (w64 (xd.lo+(w64 (yS * n))))) (imin within.hi (w64 (xd.hi+(w64 (yS * n)))))).l).isEmpty then
   yv n within yS xm xe
  else
   yv n within yS xm (xe++((zl (yj within.lo (w64 (xd.lo+(w64 (yS * n))))) (imin within.hi (w64 (xd.hi+(w64 (yS * n)))))).l))
def yD (n:Int) (within:Sn) (yS:Int):List Sn→LR_ranges_Turns_19p1
 | []=>.x1
 | xd::xm =>
  bif ((zl (yj within.lo (w64 (xd.lo+(w64 (yS * n))))) (imin within.hi (w64 (xd.hi+(w64 (yS * n)))))).l).isEmpty then
   yD n within yS xm
  else
   yv n within yS xm ((zl (yj within.lo (w64 (xd.lo+(w64 (yS * n))))) (imin within.hi (w64 (xd.hi+(w64 (yS * n)))))).l)
def lr_ranges_Turns_19p1 (n:Int) (within:Sn) (yK:List Sn) (yV:Int) (yS:Int):LR_ranges_Turns_19p1→Exit × St
 | .x0 xe=>((.exit 2),(sd40142 0 1 2 3 n yK yV xe yS within))
 | .x1=>((.exit 2),(sd40143 0 1 2 n yK yV yS within))
def iv_ranges_Turns_19p1 (n:Int) (within:Sn) (yK:List Sn) (yV:Int) (yS:Int):LR_ranges_Turns_19p1→Prop
 | .x0 xe=>(((xe.length:Nat):Int)≤128 * (yS - yV+66)+yK.length)
 | .x1=>True
theorem lp_ranges_Turns_19p1a (n:Int) (within:Sn) (yK:List Sn) (yV:Int) (yS:Int):∀ (xm:List Sn) (xt:Nat) (xe:List Sn) (xn:yK.drop xt=xm) (xR:xt≤yK.length) (ho:yK.length≤128) (hv1:yV - 66≤yS∧yS≤yV+1∧-1099511627777≤yS∧yV≤1099511627777) (hg1:((xe.length:Nat):Int)≤128 * (yS - yV+66)+xt) (hL19p1:yK.length≤9223372036854775807),(lim cfg).loop 22 lp22_19 ⟨104,[(1,I n),(5,.lref 0 0 2 0),(9,.lsl 1 0 yK.length 2 none),(11,I yV),(12,.lsl 2 0 xe.length 2 none),(13,I yS),(72,.lsl 1 0 yK.length 2 none),(73,I ((yK.length:Nat):Int)),(74,I ((xt:Nat):Int))],[(0,⟨[.agg [I within.lo,I within.hi]],2,false⟩),(1,⟨yK.map Sn.D,2,false⟩),(2,⟨xe.map Sn.D,2,false⟩)],3,0⟩=some (lr_ranges_Turns_19p1 n within yK yV yS (yv n within yS xm xe)):=by
 intro xm
 induction xm with
 | nil =>
  intro xt xe xn xR ho hv1 hg1 hL19p1
  unfold yv
  obtain rfl:xt=yK.length:=nil_eq xn xR
  exact yc [.dec false] (Ai (lt_no xn) trivial) (by kernel_rfl)
 | cons xd xm ih =>
  intro xt xe xn xR ho hv1 hg1 hL19p1
  have hlt19p1:=zj xn
  have hlx:=some1 (yj within.lo (w64 (xd.lo+(w64 (yS * n))))) (imin within.hi (w64 (xd.hi+(w64 (yS * n)))))
  unfold yv
  cases h51:((zl (yj within.lo (w64 (xd.lo+(w64 (yS * n))))) (imin within.hi (w64 (xd.hi+(w64 (yS * n)))))).l).isEmpty with
  | true =>
   exact zR (ks:=[1,5,9,11,12,13,72,73,74]) (st':=(sd40144 2 3 0 1 4 xt xe within xd yS n yK yV)) [.dec true,.op (some 76) ⟨.lref 1 xt 2 0,[],[],3⟩,.op (some 77) ⟨.agg [I xd.lo,I xd.hi],[],[1],3⟩,.pure (.sl ((zl (yj within.lo (w64 (xd.lo+(w64 (yS * n))))) (imin within.hi (w64 (xd.hi+(w64 (yS * n)))))).nl) (((zl (yj within.lo (w64 (xd.lo+(w64 (yS * n))))) (imin within.hi (w64 (xd.hi+(w64 (yS * n)))))).l).map Sn.D) (zsl ((zl (yj within.lo (w64 (xd.lo+(w64 (yS * n))))) (imin within.hi (w64 (xd.hi+(w64 (yS * n)))))).nl) 2) none),.op (some 98) ⟨.lsl 2 0 xe.length 2 none,[],[],4⟩,.rw 99 (I ((xt+1:Nat):Int))] (Ai (ya (i:=xt) (by have:=zj xn; omega)) (Ai (app_none (te:=yl) (gO:=zB [(0,⟨[.agg [I within.lo,I within.hi]],2,false⟩),(1,⟨yK.map Sn.D,2,false⟩),(2,⟨xe.map Sn.D,2,false⟩),(3,⟨[.agg [I xd.lo,I xd.hi]],2,false⟩)]) (nxt:=4) (f:=Sn.D) (sz:=2) (d:=.lsl 2 0 xe.length 2 none) (zl (yj within.lo (w64 (xd.lo+(w64 (yS * n))))) (imin within.hi (w64 (xd.hi+(w64 (yS * n)))))) h51 rfl) (Ai (T_ranges_some (yj within.lo (w64 (xd.lo+(w64 (yS * n))))) (imin within.hi (w64 (xd.hi+(w64 (yS * n)))))) (Ai (load_row (C:=cfg) (objs:=[(0,⟨[.agg [I within.lo,I within.hi]],2,false⟩),(1,⟨yK.map Sn.D,2,false⟩),(2,⟨xe.map Sn.D,2,false⟩)]) (nxt:=3) (t:=25) (ty:=yl) (o:=1) (n:=xt) (sz:=2) (sub:=0) (ob:=⟨yK.map Sn.D,2,false⟩) (e:=Sn.D xd) (d:=.agg [I xd.lo,I xd.hi]) (by kernel_rfl) (by kernel_rfl) rfl (row_at (f:=Sn.D) xn) (by kernel_rfl)) (Ai (idx_row (C:=cfg) (nxt:=3) (t:=22) (ty:=ty22) (te:=yl) (e:=25) (o:=1) (len:=yK.length) (sz:=2) (cap:=none) (i:=((xt:Nat):Int)) (by kernel_rfl) rfl (by kernel_rfl) rfl (by omega) (by omega)) (Ai (yy xn) trivial)))))) (by kernel_rfl) (by (simp only [sd40144,go_sem,List.length_set,Nat.reduceAdd,Nat.reduceEqDiff,Nat.reduceLT,Nat.reduceLeDiff,bI2,zb.idsL,zb.renL,zb.snapAll,z6.idsL,z6.renL,z6.snapAll]) <;> rfl) (ih (xt+1) xe (zn xn) (zj xn) (by omega) (by omega) (by omega) (by omega)) (by kernel_rfl)
  | false =>
   exact zR (ks:=[1,5,9,11,12,13,72,73,74]) (st':=(sd40145 4 3 0 2 1 5 xt xe within xd yS n yK yV)) [.dec true,.op (some 76) ⟨.lref 1 xt 2 0,[],[],3⟩,.op (some 77) ⟨.agg [I xd.lo,I xd.hi],[],[1],3⟩,.pure (.sl ((zl (yj within.lo (w64 (xd.lo+(w64 (yS * n))))) (imin within.hi (w64 (xd.hi+(w64 (yS * n)))))).nl) (((zl (yj within.lo (w64 (xd.lo+(w64 (yS * n))))) (imin within.hi (w64 (xd.hi+(w64 (yS * n)))))).l).map Sn.D) (zsl ((zl (yj within.lo (w64 (xd.lo+(w64 (yS * n))))) (imin within.hi (w64 (xd.hi+(w64 (yS * n)))))).nl) 2) none),.op (some 98) ⟨.lsl 4 0 ((xe++((zl (yj within.lo (w64 (xd.lo+(w64 (yS * n))))) (imin within.hi (w64 (xd.hi+(w64 (yS * n)))))).l)).length) 2 none,[(2,none),(4,some ⟨(xe++((zl (yj within.lo (w64 (xd.lo+(w64 (yS * n))))) (imin within.hi (w64 (xd.hi+(w64 (yS * n)))))).l)).map Sn.D,2,false⟩)],[2],5⟩,.rw 99 (I ((xt+1:Nat):Int))] (Ai (ya (i:=xt) (by have:=zj xn; omega)) (Ai (app_moreD (te:=yl) (gO:=zB [(0,⟨[.agg [I within.lo,I within.hi]],2,false⟩),(1,⟨yK.map Sn.D,2,false⟩),(2,⟨xe.map Sn.D,2,false⟩),(3,⟨[.agg [I xd.lo,I xd.hi]],2,false⟩)]) (nxt:=4) (o:=2) (v:=xe) z6 (zl (yj within.lo (w64 (xd.lo+(w64 (yS * n))))) (imin within.hi (w64 (xd.hi+(w64 (yS * n)))))) h51 (by kernel_rfl) rfl (by kernel_rfl) (by decide) ⟨by simp only [yl,big] <;> (omega),by simp only [big] <;> (omega)⟩) (Ai (T_ranges_some (yj within.lo (w64 (xd.lo+(w64 (yS * n))))) (imin within.hi (w64 (xd.hi+(w64 (yS * n)))))) (Ai (load_row (C:=cfg) (objs:=[(0,⟨[.agg [I within.lo,I within.hi]],2,false⟩),(1,⟨yK.map Sn.D,2,false⟩),(2,⟨xe.map Sn.D,2,false⟩)]) (nxt:=3) (t:=25) (ty:=yl) (o:=1) (n:=xt) (sz:=2) (sub:=0) (ob:=⟨yK.map Sn.D,2,false⟩) (e:=Sn.D xd) (d:=.agg [I xd.lo,I xd.hi]) (by kernel_rfl) (by kernel_rfl) rfl (row_at (f:=Sn.D) xn) (by kernel_rfl)) (Ai (idx_row (C:=cfg) (nxt:=3) (t:=22) (ty:=ty22) (te:=yl) (e:=25) (o:=1) (len:=yK.length) (sz:=2) (cap:=none) (i:=((xt:Nat):Int)) (by kernel_rfl) rfl (by kernel_rfl) rfl (by omega) (by omega)) (Ai (yy xn) trivial)))))) (by kernel_rfl) (by (simp only [sd40145,go_sem,List.length_set,Nat.reduceAdd,Nat.reduceEqDiff,Nat.reduceLT,Nat.reduceLeDiff,bI2,zb.idsL,zb.renL,zb.snapAll,z6.idsL,z6.renL,z6.snapAll]) <;> rfl) (ih (xt+1) (xe++((zl (yj within.lo (w64 (xd.lo+(w64 (yS * n))))) (imin within.hi (w64 (xd.hi+(w64 (yS * n)))))).l)) (zn xn) (zj xn) (by omega) (by omega) (by simp only [List.length_append,List.length_cons,List.length_nil] at * <;> omega) (by omega)) (by kernel_rfl)
theorem ivt_ranges_Turns_19p1a (n:Int) (within:Sn) (yK:List Sn) (yV:Int) (yS:Int):∀ (xm:List Sn) (xt:Nat) (xe:List Sn) (xn:yK.drop xt=xm) (xR:xt≤yK.length) (ho:yK.length≤128) (hv1:yV - 66≤yS∧yS≤yV+1∧-1099511627777≤yS∧yV≤1099511627777) (hg1:((xe.length:Nat):Int)≤128 * (yS - yV+66)+xt) (hL19p1:yK.length≤9223372036854775807),iv_ranges_Turns_19p1 n within yK yV yS (yv n within yS xm xe):=by
 intro xm
 induction xm with
 | nil =>
  intro xt xe xn xR ho hv1 hg1 hL19p1
  unfold yv
  obtain rfl:xt=yK.length:=nil_eq xn xR
  exact hg1
 | cons xd xm ih =>
  intro xt xe xn xR ho hv1 hg1 hL19p1
  have hlt19p1:=zj xn
  have hlx:=some1 (yj within.lo (w64 (xd.lo+(w64 (yS * n))))) (imin within.hi (w64 (xd.hi+(w64 (yS * n)))))
  unfold yv
  cases h51:((zl (yj within.lo (w64 (xd.lo+(w64 (yS * n))))) (imin within.hi (w64 (xd.hi+(w64 (yS * n)))))).l).isEmpty with
  | true =>
   exact ih (xt+1) xe (zn xn) (zj xn) (by omega) (by omega) (by omega) (by omega)
  | false =>
   exact ih (xt+1) (xe++((zl (yj within.lo (w64 (xd.lo+(w64 (yS * n))))) (imin within.hi (w64 (xd.hi+(w64 (yS * n)))))).l)) (zn xn) (zj xn) (by omega) (by omega) (by simp only [List.length_append,List.length_cons,List.length_nil] at * <;> omega) (by omega)
theorem lp_ranges_Turns_19p1 (n:Int) (within:Sn) (yK:List Sn) (yV:Int) (yS:Int):∀ (xm:List Sn) (xt:Nat) (xn:yK.drop xt=xm) (xR:xt≤yK.length) (ho:yK.length≤128) (hv0:yV - 66≤yS∧yS≤yV+1∧-1099511627777≤yS∧yV≤1099511627777) (hL19p1:yK.length≤9223372036854775807),(lim cfg).loop 22 lp22_19 ⟨104,[(1,I n),(5,.lref 0 0 2 0),(9,.lsl 1 0 yK.length 2 none),(11,I yV),(12,.sl true [] 0 none),(13,I yS),(72,.lsl 1 0 yK.length 2 none),(73,I ((yK.length:Nat):Int)),(74,I ((xt:Nat):Int))],[(0,⟨[.agg [I within.lo,I within.hi]],2,false⟩),(1,⟨yK.map Sn.D,2,false⟩)],2,0⟩=some (lr_ranges_Turns_19p1 n within yK yV yS (yD n within yS xm)):=by
 intro xm
 induction xm with
 | nil =>
  intro xt xn xR ho hv0 hL19p1
  unfold yD
  obtain rfl:xt=yK.length:=nil_eq xn xR
  exact yc [.dec false] (Ai (lt_no xn) trivial) (by kernel_rfl)
 | cons xd xm ih =>
  intro xt xn xR ho hv0 hL19p1
  have hlt19p1:=zj xn
  have hlx:=some1 (yj within.lo (w64 (xd.lo+(w64 (yS * n))))) (imin within.hi (w64 (xd.hi+(w64 (yS * n)))))
  unfold yD
  cases h52:((zl (yj within.lo (w64 (xd.lo+(w64 (yS * n))))) (imin within.hi (w64 (xd.hi+(w64 (yS * n)))))).l).isEmpty with
  | true =>
   exact zR (ks:=[1,5,9,11,12,13,72,73,74]) (st':=(sd40146 2 0 1 3 xt within xd yS n yK yV)) [.dec true,.op (some 76) ⟨.lref 1 xt 2 0,[],[],2⟩,.op (some 77) ⟨.agg [I xd.lo,I xd.hi],[],[1],2⟩,.pure (.sl ((zl (yj within.lo (w64 (xd.lo+(w64 (yS * n))))) (imin within.hi (w64 (xd.hi+(w64 (yS * n)))))).nl) (((zl (yj within.lo (w64 (xd.lo+(w64 (yS * n))))) (imin within.hi (w64 (xd.hi+(w64 (yS * n)))))).l).map Sn.D) (zsl ((zl (yj within.lo (w64 (xd.lo+(w64 (yS * n))))) (imin within.hi (w64 (xd.hi+(w64 (yS * n)))))).nl) 2) none),.op (some 98) ⟨.sl true [] 0 none,[],[],3⟩,.rw 99 (I ((xt+1:Nat):Int))] (Ai (ya (i:=xt) (by have:=zj xn; omega)) (Ai (app_none (te:=yl) (gO:=zB [(0,⟨[.agg [I within.lo,I within.hi]],2,false⟩),(1,⟨yK.map Sn.D,2,false⟩),(2,⟨[.agg [I xd.lo,I xd.hi]],2,false⟩)]) (nxt:=3) (f:=Sn.D) (sz:=2) (d:=.sl true [] 0 none) (zl (yj within.lo (w64 (xd.lo+(w64 (yS * n))))) (imin within.hi (w64 (xd.hi+(w64 (yS * n)))))) h52 rfl) (Ai (T_ranges_some (yj within.lo (w64 (xd.lo+(w64 (yS * n))))) (imin within.hi (w64 (xd.hi+(w64 (yS * n)))))) (Ai (load_row (C:=cfg) (objs:=[(0,⟨[.agg [I within.lo,I within.hi]],2,false⟩),(1,⟨yK.map Sn.D,2,false⟩)]) (nxt:=2) (t:=25) (ty:=yl) (o:=1) (n:=xt) (sz:=2) (sub:=0) (ob:=⟨yK.map Sn.D,2,false⟩) (e:=Sn.D xd) (d:=.agg [I xd.lo,I xd.hi]) (by kernel_rfl) (by kernel_rfl) rfl (row_at (f:=Sn.D) xn) (by kernel_rfl)) (Ai (idx_row (C:=cfg) (nxt:=2) (t:=22) (ty:=ty22) (te:=yl) (e:=25) (o:=1) (len:=yK.length) (sz:=2) (cap:=none) (i:=((xt:Nat):Int)) (by kernel_rfl) rfl (by kernel_rfl) rfl (by omega) (by omega)) (Ai (yy xn) trivial)))))) (by kernel_rfl) (by (simp only [sd40146,go_sem,List.length_set,Nat.reduceAdd,Nat.reduceEqDiff,Nat.reduceLT,Nat.reduceLeDiff,bI2,zb.idsL,zb.renL,zb.snapAll,z6.idsL,z6.renL,z6.snapAll]) <;> rfl) (ih (xt+1) (zn xn) (zj xn) (by omega) (by omega) (by omega)) (by kernel_rfl)
  | false =>
   exact zR (ks:=[1,5,9,11,12,13,72,73,74]) (st':=(sd40147 3 2 0 1 4 xt within xd yS n yK yV)) [.dec true,.op (some 76) ⟨.lref 1 xt 2 0,[],[],2⟩,.op (some 77) ⟨.agg [I xd.lo,I xd.hi],[],[1],2⟩,.pure (.sl ((zl (yj within.lo (w64 (xd.lo+(w64 (yS * n))))) (imin within.hi (w64 (xd.hi+(w64 (yS * n)))))).nl) (((zl (yj within.lo (w64 (xd.lo+(w64 (yS * n))))) (imin within.hi (w64 (xd.hi+(w64 (yS * n)))))).l).map Sn.D) (zsl ((zl (yj within.lo (w64 (xd.lo+(w64 (yS * n))))) (imin within.hi (w64 (xd.hi+(w64 (yS * n)))))).nl) 2) none),.op (some 98) ⟨.lsl 3 0 (((zl (yj within.lo (w64 (xd.lo+(w64 (yS * n))))) (imin within.hi (w64 (xd.hi+(w64 (yS * n)))))).l).length) 2 none,[(3,some ⟨((zl (yj within.lo (w64 (xd.lo+(w64 (yS * n))))) (imin within.hi (w64 (xd.hi+(w64 (yS * n)))))).l).map Sn.D,2,false⟩)],[],4⟩,.rw 99 (I ((xt+1:Nat):Int))] (Ai (ya (i:=xt) (by have:=zj xn; omega)) (Ai (app_newD (te:=yl) (gO:=zB [(0,⟨[.agg [I within.lo,I within.hi]],2,false⟩),(1,⟨yK.map Sn.D,2,false⟩),(2,⟨[.agg [I xd.lo,I xd.hi]],2,false⟩)]) (nxt:=3) (els0:=[]) (sz0:=0) (cap0:=none) z6 (zl (yj within.lo (w64 (xd.lo+(w64 (yS * n))))) (imin within.hi (w64 (xd.hi+(w64 (yS * n)))))) h52 rfl (by kernel_rfl) (by decide) ⟨by simp only [yl,big] <;> (omega),by simp only [big] <;> (omega)⟩) (Ai (T_ranges_some (yj within.lo (w64 (xd.lo+(w64 (yS * n))))) (imin within.hi (w64 (xd.hi+(w64 (yS * n)))))) (Ai (load_row (C:=cfg) (objs:=[(0,⟨[.agg [I within.lo,I within.hi]],2,false⟩),(1,⟨yK.map Sn.D,2,false⟩)]) (nxt:=2) (t:=25) (ty:=yl) (o:=1) (n:=xt) (sz:=2) (sub:=0) (ob:=⟨yK.map Sn.D,2,false⟩) (e:=Sn.D xd) (d:=.agg [I xd.lo,I xd.hi]) (by kernel_rfl) (by kernel_rfl) rfl (row_at (f:=Sn.D) xn) (by kernel_rfl)) (Ai (idx_row (C:=cfg) (nxt:=2) (t:=22) (ty:=ty22) (te:=yl) (e:=25) (o:=1) (len:=yK.length) (sz:=2) (cap:=none) (i:=((xt:Nat):Int)) (by kernel_rfl) rfl (by kernel_rfl) rfl (by omega) (by omega)) (Ai (yy xn) trivial)))))) (by kernel_rfl) (by (simp only [sd40147,go_sem,List.length_set,Nat.reduceAdd,Nat.reduceEqDiff,Nat.reduceLT,Nat.reduceLeDiff,bI2,zb.idsL,zb.renL,zb.snapAll,z6.idsL,z6.renL,z6.snapAll]) <;> rfl) (lp_ranges_Turns_19p1a n within yK yV yS _ (xt+1) ((zl (yj within.lo (w64 (xd.lo+(w64 (yS * n))))) (imin within.hi (w64 (xd.hi+(w64 (yS * n)))))).l) (zn xn) (zj xn) (by omega) (by omega) (by omega) (by omega)) (by kernel_rfl)
theorem ivt_ranges_Turns_19p1 (n:Int) (within:Sn) (yK:List Sn) (yV:Int) (yS:Int):∀ (xm:List Sn) (xt:Nat) (xn:yK.drop xt=xm) (xR:xt≤yK.length) (ho:yK.length≤128) (hv0:yV - 66≤yS∧yS≤yV+1∧-1099511627777≤yS∧yV≤1099511627777) (hL19p1:yK.length≤9223372036854775807),iv_ranges_Turns_19p1 n within yK yV yS (yD n within yS xm):=by
 intro xm
 induction xm with
 | nil =>
  intro xt xn xR ho hv0 hL19p1
  unfold yD
  obtain rfl:xt=yK.length:=nil_eq xn xR
  exact trivial
 | cons xd xm ih =>
  intro xt xn xR ho hv0 hL19p1
  have hlt19p1:=zj xn
  have hlx:=some1 (yj within.lo (w64 (xd.lo+(w64 (yS * n))))) (imin within.hi (w64 (xd.hi+(w64 (yS * n)))))
  unfold yD
  cases h52:((zl (yj within.lo (w64 (xd.lo+(w64 (yS * n))))) (imin within.hi (w64 (xd.hi+(w64 (yS * n)))))).l).isEmpty with
  | true =>
   exact ih (xt+1) (zn xn) (zj xn) (by omega) (by omega) (by omega)
  | false =>
   exact ivt_ranges_Turns_19p1a n within yK yV yS _ (xt+1) ((zl (yj within.lo (w64 (xd.lo+(w64 (yS * n))))) (imin within.hi (w64 (xd.hi+(w64 (yS * n)))))).l) (zn xn) (zj xn) (by omega) (by omega) (by omega) (by omega)

def sd40152 (ν0 ν1 ν2 ν3:Nat) (μ0:Int) (μ1:Int) (μ2:Int) (μ3:List Sn) (μ4:List Sn) (μ5:Sn):St:=⟨104,[(69,B false),(68,I μ0),(67,I μ1),(1,I μ2),(5,.lref ν0 0 2 0),(9,.lsl ν1 0 μ3.length 2 none),(11,I μ0),(12,.lsl ν2 0 μ4.length 2 none),(13,I μ1)],[(ν0,⟨[.agg [I μ5.lo,I μ5.hi]],2,false⟩),(ν1,⟨μ3.map Sn.D,2,false⟩),(ν2,⟨μ4.map Sn.D,2,false⟩)],ν3,ν0⟩

def sd40153 (ν0 ν1 ν2:Nat) (μ0:Int) (μ1:Int) (μ2:Int) (μ3:List Sn) (μ4:Sn):St:=⟨104,[(69,B false),(68,I μ0),(67,I μ1),(1,I μ2),(5,.lref ν0 0 2 0),(9,.lsl ν1 0 μ3.length 2 none),(11,I μ0),(12,.sl true [] 0 none),(13,I μ1)],[(ν0,⟨[.agg [I μ4.lo,I μ4.hi]],2,false⟩),(ν1,⟨μ3.map Sn.D,2,false⟩)],ν2,ν0⟩

noncomputable def lp22_16:Code:=subC [1,1,1,1,1,1,1,1,1,0,1,0,0] (bodyC Tryz.f22)

def sd40154 (ν0 ν1 ν2 ν3:Nat) (μ0:Int) (μ1:Int) (μ2:List Sn) (μ3:Int) (μ4:List Sn) (μ5:Sn):St:=⟨104,[(13,I (w64 (μ0+1))),(71,I (w64 (μ0+1))),(70,I μ0),(75,B false),(1,I μ1),(5,.lref ν0 0 2 0),(9,.lsl ν1 0 μ2.length 2 none),(11,I μ3),(12,.lsl ν2 0 μ4.length 2 none),(13,I μ0),(72,.lsl ν1 0 μ2.length 2 none),(73,I ((μ2.length:Nat):Int)),(74,I ((μ2.length:Nat):Int))],[(ν0,⟨[.agg [I μ5.lo,I μ5.hi]],2,false⟩),(ν1,⟨μ2.map Sn.D,2,false⟩),(ν2,⟨μ4.map Sn.D,2,false⟩)],ν3,ν0⟩

def sd40151 (ν0 ν1 ν2 ν3:Nat) (μ0:Int) (μ1:List Sn) (μ2:Int) (μ3:List Sn) (μ4:Int) (μ5:Sn):St:=⟨104,[(1,I μ0),(5,.lref ν0 0 2 0),(9,.lsl ν1 0 μ1.length 2 none),(11,I μ2),(12,.lsl ν2 0 μ3.length 2 none),(13,I μ4),(72,.lsl ν1 0 μ1.length 2 none),(73,I ((μ1.length:Nat):Int)),(74,I 0)],[(ν0,⟨[.agg [I μ5.lo,I μ5.hi]],2,false⟩),(ν1,⟨μ1.map Sn.D,2,false⟩),(ν2,⟨μ3.map Sn.D,2,false⟩)],ν3,ν0⟩

def sd40150 (ν0 ν1 ν2 ν3:Nat) (μ0:List Sn) (μ1:Int) (μ2:Int) (μ3:Int) (μ4:List Sn) (μ5:Sn):St:=⟨104,[(74,I 0),(73,I ((μ0.length:Nat):Int)),(72,.lsl ν0 0 μ0.length 2 none),(69,B true),(68,I μ1),(67,I μ2),(1,I μ3),(5,.lref ν1 0 2 0),(9,.lsl ν0 0 μ0.length 2 none),(11,I μ1),(12,.lsl ν2 0 μ4.length 2 none),(13,I μ2)],[(ν1,⟨[.agg [I μ5.lo,I μ5.hi]],2,false⟩),(ν0,⟨μ0.map Sn.D,2,false⟩),(ν2,⟨μ4.map Sn.D,2,false⟩)],ν3,ν1⟩

def sd40148 (ν0 ν1 ν2:Nat) (μ0:List Sn) (μ1:Int) (μ2:Int) (μ3:Int) (μ4:Sn):St:=⟨104,[(74,I 0),(73,I ((μ0.length:Nat):Int)),(72,.lsl ν0 0 μ0.length 2 none),(69,B true),(68,I μ1),(67,I μ2),(1,I μ3),(5,.lref ν1 0 2 0),(9,.lsl ν0 0 μ0.length 2 none),(11,I μ1),(12,.sl true [] 0 none),(13,I μ2)],[(ν1,⟨[.agg [I μ4.lo,I μ4.hi]],2,false⟩),(ν0,⟨μ0.map Sn.D,2,false⟩)],ν2,ν1⟩

def sd40149 (ν0 ν1 ν2:Nat) (μ0:Int) (μ1:List Sn) (μ2:Int) (μ3:Int) (μ4:Sn):St:=⟨104,[(1,I μ0),(5,.lref ν0 0 2 0),(9,.lsl ν1 0 μ1.length 2 none),(11,I μ2),(12,.sl true [] 0 none),(13,I μ3),(72,.lsl ν1 0 μ1.length 2 none),(73,I ((μ1.length:Nat):Int)),(74,I 0)],[(ν0,⟨[.agg [I μ4.lo,I μ4.hi]],2,false⟩),(ν1,⟨μ1.map Sn.D,2,false⟩)],ν2,ν0⟩

def sd40155 (ν0 ν1 ν2:Nat) (μ0:Int) (μ1:Int) (μ2:List Sn) (μ3:Int) (μ4:Sn):St:=⟨104,[(13,I (w64 (μ0+1))),(71,I (w64 (μ0+1))),(70,I μ0),(75,B false),(1,I μ1),(5,.lref ν0 0 2 0),(9,.lsl ν1 0 μ2.length 2 none),(11,I μ3),(12,.sl true [] 0 none),(13,I μ0),(72,.lsl ν1 0 μ2.length 2 none),(73,I ((μ2.length:Nat):Int)),(74,I ((μ2.length:Nat):Int))],[(ν0,⟨[.agg [I μ4.lo,I μ4.hi]],2,false⟩),(ν1,⟨μ2.map Sn.D,2,false⟩)],ν2,ν0⟩

inductive LR_ranges_Turns_16 where
 | x0 (yT:List Sn) (yJ:List Sn) (yQ:Int)
 | x1 (yS:Int)
 | out
instance:Inhabited LR_ranges_Turns_16:=⟨.out⟩
def ranges_Turns_16a (n:Int) (within:Sn) (yK:List Sn) (yV:Int):Nat→(List Sn)→(List Sn)→Int→LR_ranges_Turns_16
 | 0,_,_,_=>.out
 | xC+1,yT,yJ,yQ =>
  bif decide (yQ≤yV) then
   match yF n within yQ yT yJ with
   | .x0 xA =>
    ranges_Turns_16a n within yK yV xC yT xA (w64 (yQ+1))
  else
   .x0 yT yJ yQ
def yd (n:Int) (within:Sn) (yK:List Sn) (yV:Int):Nat→Int→LR_ranges_Turns_16
 | 0,_=>.out
 | xC+1,yS =>
  bif decide (yS≤yV) then
   match yD n within yS yK with
   | .x0 xe =>
    ranges_Turns_16a n within yK yV xC yK xe (w64 (yS+1))
   | .x1 =>
    yd n within yK yV xC (w64 (yS+1))
  else
   .x1 yS
def lr_ranges_Turns_16 (n:Int) (within:Sn) (yK:List Sn) (yV:Int):LR_ranges_Turns_16→Exit × St
 | .x0 yT yJ yQ=>((.exit 0),(sd40152 0 1 2 3 yV yQ n yT yJ within))
 | .x1 yS=>((.exit 0),(sd40153 0 1 2 yV yS n yK within))
 | .out=>(.normal,⟨0,[],[],0,0⟩)
def iv_ranges_Turns_16 (n:Int) (within:Sn) (yK:List Sn) (yV:Int):LR_ranges_Turns_16→Prop
 | .x0 yT yJ yQ=>(yV - 66≤yQ∧yQ≤yV+1∧-1099511627777≤yQ∧yV≤1099511627777)∧(yT.length≤128)∧(((yJ.length:Nat):Int)≤128 * (yQ - yV+66))
 | .x1 yS=>(yV - 66≤yS∧yS≤yV+1∧-1099511627777≤yS∧yV≤1099511627777)
 | .out=>True
theorem lp_ranges_Turns_16a (n:Int) (within:Sn) (yK:List Sn) (yV:Int):∀ (xC:Nat) (yT:List Sn) (yJ:List Sn) (yQ:Int) (xX:ranges_Turns_16a n within yK yV xC yT yJ yQ ≠ .out) (hv1:yV - 66≤yQ∧yQ≤yV+1∧-1099511627777≤yQ∧yV≤1099511627777) (ho1:yT.length≤128) (hw1:((yJ.length:Nat):Int)≤128 * (yQ - yV+66)),(lim cfg).loop 22 lp22_16 ⟨104,[(1,I n),(5,.lref 0 0 2 0),(9,.lsl 1 0 yT.length 2 none),(11,I yV),(12,.lsl 2 0 yJ.length 2 none),(13,I yQ)],[(0,⟨[.agg [I within.lo,I within.hi]],2,false⟩),(1,⟨yT.map Sn.D,2,false⟩),(2,⟨yJ.map Sn.D,2,false⟩)],3,0⟩=some (lr_ranges_Turns_16 n within yK yV (ranges_Turns_16a n within yK yV xC yT yJ yQ)):=by
 intro xC
 induction xC with
 | zero =>
  intro yT yJ yQ xX hv1 ho1 hw1
  exact absurd rfl xX
 | succ xC ih =>
  intro yT yJ yQ xX hv1 ho1 hw1
  unfold ranges_Turns_16a at xX ⊢
  revert xX
  cases h44:decide (yQ≤yV) with
  | true =>
   have g44:=of_decide_eq_true h44
   cases h47:yF n within yQ yT yJ with
   | x0 xA =>
    try dsimp only
    have hv_h47:=ivt_ranges_Turns_19 n within yV yT yQ yT 0 yJ (List.drop_zero) (Nat.zero_le _) (by omega) (by omega) (by omega) (by omega)
    rw [h47] at hv_h47
    have hv_h47_0:=hv_h47
    try dsimp only [iv_ranges_Turns_19] at hv_h47_0
    intro xX
    exact zR (ks:=[1,5,9,11,12,13]) (st':=(sd40154 0 1 2 3 yQ n yT yV xA within)) [.dec true,.gloop (sd40151 0 1 2 3 n yT yV yJ yQ within) (.exit 2) (sd40142 0 1 2 3 n yT yV xA yQ within)] (Ai (zY (q:=lr_ranges_Turns_19 n within yV yT yQ) (lp_ranges_Turns_19 n within yV yT yQ yT 0 yJ (List.drop_zero) (Nat.zero_le _) (by omega) (by omega) (by omega) (by omega)) h47) (Ai (gc_of (C:=cfg) (f:=22) (a:=lp22_19) (ks:=[1,5,9,11,12,13,72,73,74]) (st:=(sd40150 1 0 2 3 yT yV yQ n yJ within)) (st1:=(sd40151 0 1 2 3 n yT yV yJ yQ within)) (by kernel_rfl) (by (simp only [sd40150,sd40151,go_sem,List.length_set,Nat.reduceAdd,Nat.reduceEqDiff,Nat.reduceLT,Nat.reduceLeDiff,bI2,zb.idsL,zb.renL,zb.snapAll,z6.idsL,z6.renL,z6.snapAll]) <;> rfl)) (Ai h44 trivial))) (by kernel_rfl) (by (simp only [sd40154,go_sem,List.length_set,Nat.reduceAdd,Nat.reduceEqDiff,Nat.reduceLT,Nat.reduceLeDiff,bI2,zb.idsL,zb.renL,zb.snapAll,z6.idsL,z6.renL,z6.snapAll]) <;> rfl) (ih yT xA (w64 (yQ+1)) xX (by simp only [List.length_append,List.length_cons,List.length_nil,zT] at * <;> omega) (by omega) (by simp only [List.length_append,List.length_cons,List.length_nil,zT] at * <;> omega)) (by kernel_rfl)
  | false =>
   have g44:=of_decide_eq_false h44
   intro xX
   exact yc [.dec false] (Ai h44 trivial) (by kernel_rfl)
theorem ivt_ranges_Turns_16a (n:Int) (within:Sn) (yK:List Sn) (yV:Int):∀ (xC:Nat) (yT:List Sn) (yJ:List Sn) (yQ:Int) (xX:ranges_Turns_16a n within yK yV xC yT yJ yQ ≠ .out) (hv1:yV - 66≤yQ∧yQ≤yV+1∧-1099511627777≤yQ∧yV≤1099511627777) (ho1:yT.length≤128) (hw1:((yJ.length:Nat):Int)≤128 * (yQ - yV+66)),iv_ranges_Turns_16 n within yK yV (ranges_Turns_16a n within yK yV xC yT yJ yQ):=by
 intro xC
 induction xC with
 | zero =>
  intro yT yJ yQ xX hv1 ho1 hw1
  exact absurd rfl xX
 | succ xC ih =>
  intro yT yJ yQ xX hv1 ho1 hw1
  unfold ranges_Turns_16a at xX ⊢
  revert xX
  cases h44:decide (yQ≤yV) with
  | true =>
   have g44:=of_decide_eq_true h44
   cases h47:yF n within yQ yT yJ with
   | x0 xA =>
    try dsimp only
    have hv_h47:=ivt_ranges_Turns_19 n within yV yT yQ yT 0 yJ (List.drop_zero) (Nat.zero_le _) (by omega) (by omega) (by omega) (by omega)
    rw [h47] at hv_h47
    have hv_h47_0:=hv_h47
    try dsimp only [iv_ranges_Turns_19] at hv_h47_0
    intro xX
    exact ih yT xA (w64 (yQ+1)) xX (by simp only [List.length_append,List.length_cons,List.length_nil,zT] at * <;> omega) (by omega) (by simp only [List.length_append,List.length_cons,List.length_nil,zT] at * <;> omega)
  | false =>
   have g44:=of_decide_eq_false h44
   intro xX
   exact ⟨hv1,ho1,hw1⟩
theorem lp_ranges_Turns_16 (n:Int) (within:Sn) (yK:List Sn) (yV:Int):∀ (xC:Nat) (yS:Int) (xX:yd n within yK yV xC yS ≠ .out) (hv0:yV - 66≤yS∧yS≤yV+1∧-1099511627777≤yS∧yV≤1099511627777) (ho0:yK.length≤128),(lim cfg).loop 22 lp22_16 ⟨104,[(1,I n),(5,.lref 0 0 2 0),(9,.lsl 1 0 yK.length 2 none),(11,I yV),(12,.sl true [] 0 none),(13,I yS)],[(0,⟨[.agg [I within.lo,I within.hi]],2,false⟩),(1,⟨yK.map Sn.D,2,false⟩)],2,0⟩=some (lr_ranges_Turns_16 n within yK yV (yd n within yK yV xC yS)):=by
 intro xC
 induction xC with
 | zero =>
  intro yS xX hv0 ho0
  exact absurd rfl xX
 | succ xC ih =>
  intro yS xX hv0 ho0
  unfold yd at xX ⊢
  revert xX
  cases h48:decide (yS≤yV) with
  | true =>
   have g48:=of_decide_eq_true h48
   have p1:=(gc_of (C:=cfg) (f:=22) (a:=lp22_19) (ks:=[1,5,9,11,12,13,72,73,74]) (st:=(sd40148 1 0 2 yK yV yS n within)) (st1:=(sd40149 0 1 2 n yK yV yS within)) (by kernel_rfl) (by (simp only [sd40148,sd40149,go_sem,List.length_set,Nat.reduceAdd,Nat.reduceEqDiff,Nat.reduceLT,Nat.reduceLeDiff,bI2,zb.idsL,zb.renL,zb.snapAll,z6.idsL,z6.renL,z6.snapAll]) <;> rfl))
   cases h53:yD n within yS yK with
   | x0 xe =>
    try dsimp only
    have hv_h53:=ivt_ranges_Turns_19p1 n within yK yV yS yK 0 (List.drop_zero) (Nat.zero_le _) (by omega) (by omega) (by omega)
    rw [h53] at hv_h53
    have hv_h53_0:=hv_h53
    try dsimp only [iv_ranges_Turns_19p1] at hv_h53_0
    intro xX
    exact zR (ks:=[1,5,9,11,12,13]) (st':=(sd40154 0 1 2 3 yS n yK yV xe within)) [.dec true,.gloop (sd40149 0 1 2 n yK yV yS within) (.exit 2) (sd40142 0 1 2 3 n yK yV xe yS within)] (Ai (zY (q:=lr_ranges_Turns_19p1 n within yK yV yS) (lp_ranges_Turns_19p1 n within yK yV yS yK 0 (List.drop_zero) (Nat.zero_le _) (by omega) (by omega) (by omega)) h53) (Ai p1 (Ai h48 trivial))) (by kernel_rfl) (by (simp only [sd40154,go_sem,List.length_set,Nat.reduceAdd,Nat.reduceEqDiff,Nat.reduceLT,Nat.reduceLeDiff,bI2,zb.idsL,zb.renL,zb.snapAll,z6.idsL,z6.renL,z6.snapAll]) <;> rfl) (lp_ranges_Turns_16a n within yK yV _ yK xe (w64 (yS+1)) xX (by simp only [List.length_append,List.length_cons,List.length_nil,zT] at * <;> omega) (by omega) (by simp only [List.length_append,List.length_cons,List.length_nil,zT] at * <;> omega)) (by kernel_rfl)
   | x1 =>
    try dsimp only
    intro xX
    exact zR (ks:=[1,5,9,11,12,13]) (st':=(sd40155 0 1 2 yS n yK yV within)) [.dec true,.gloop (sd40149 0 1 2 n yK yV yS within) (.exit 2) (sd40143 0 1 2 n yK yV yS within)] (Ai (zY (q:=lr_ranges_Turns_19p1 n within yK yV yS) (lp_ranges_Turns_19p1 n within yK yV yS yK 0 (List.drop_zero) (Nat.zero_le _) (by omega) (by omega) (by omega)) h53) (Ai p1 (Ai h48 trivial))) (by kernel_rfl) (by (simp only [sd40155,go_sem,List.length_set,Nat.reduceAdd,Nat.reduceEqDiff,Nat.reduceLT,Nat.reduceLeDiff,bI2,zb.idsL,zb.renL,zb.snapAll,z6.idsL,z6.renL,z6.snapAll]) <;> rfl) (ih (w64 (yS+1)) xX (by simp only [List.length_append,List.length_cons,List.length_nil,zT] at * <;> omega) (by omega)) (by kernel_rfl)
  | false =>
   have g48:=of_decide_eq_false h48
   intro xX
   exact yc [.dec false] (Ai h48 trivial) (by kernel_rfl)
theorem ivt_ranges_Turns_16 (n:Int) (within:Sn) (yK:List Sn) (yV:Int):∀ (xC:Nat) (yS:Int) (xX:yd n within yK yV xC yS ≠ .out) (hv0:yV - 66≤yS∧yS≤yV+1∧-1099511627777≤yS∧yV≤1099511627777) (ho0:yK.length≤128),iv_ranges_Turns_16 n within yK yV (yd n within yK yV xC yS):=by
 intro xC
 induction xC with
 | zero =>
  intro yS xX hv0 ho0
  exact absurd rfl xX
 | succ xC ih =>
  intro yS xX hv0 ho0
  unfold yd at xX ⊢
  revert xX
  cases h48:decide (yS≤yV) with
  | true =>
   have g48:=of_decide_eq_true h48
   cases h53:yD n within yS yK with
   | x0 xe =>
    try dsimp only
    have hv_h53:=ivt_ranges_Turns_19p1 n within yK yV yS yK 0 (List.drop_zero) (Nat.zero_le _) (by omega) (by omega) (by omega)
    rw [h53] at hv_h53
    have hv_h53_0:=hv_h53
    try dsimp only [iv_ranges_Turns_19p1] at hv_h53_0
    intro xX
    exact ivt_ranges_Turns_16a n within yK yV _ yK xe (w64 (yS+1)) xX (by simp only [List.length_append,List.length_cons,List.length_nil,zT] at * <;> omega) (by omega) (by simp only [List.length_append,List.length_cons,List.length_nil,zT] at * <;> omega)
   | x1 =>
    try dsimp only
    intro xX
    exact ih (w64 (yS+1)) xX (by simp only [List.length_append,List.length_cons,List.length_nil,zT] at * <;> omega) (by omega)
  | false =>
   have g48:=of_decide_eq_false h48
   intro xX
   exact hv0

theorem ranges_Turns_16_ne' (n:Int) (within:Sn) (yK:List Sn) (yV:Int) (ht:yV≤1099511627777):∀ (f:Nat) (o w:List Sn) (v:Int),-1099511627777≤v→v≤yV+1→yV - v+1 < f→ranges_Turns_16a n within yK yV f o w v ≠ .out
 | 0,o,w,v,h0,h1,h=>by intro _; omega
 | f+1,o,w,v,h0,h1,h=>by
  unfold ranges_Turns_16a
  by_cases hc:v≤yV
  ·rw [decide_eq_true hc,w64_eq (n:=v+1) (by omega) (by omega)]
   simp only [cond_true]
   repeat' split
   all_goals exact ranges_Turns_16_ne' n within yK yV ht f _ _ _ (by omega) (by omega) (by omega)
  ·rw [decide_eq_false hc]; intro z; cases z
theorem ranges_Turns_16_ne'' (n:Int) (within:Sn) (yK:List Sn) (yV:Int) (ht:yV≤1099511627777):∀ (f:Nat) (v:Int),-1099511627777≤v→v≤yV+1→yV - v+1 < f→yd n within yK yV f v ≠ .out
 | 0,v,h0,h1,h=>by intro _; omega
 | f+1,v,h0,h1,h=>by
  unfold yd
  by_cases hc:v≤yV
  ·rw [decide_eq_true hc,w64_eq (n:=v+1) (by omega) (by omega)]
   simp only [cond_true]
   repeat' split
   all_goals first | exact ranges_Turns_16_ne' n within yK yV ht f _ _ _ (by omega) (by omega) (by omega) | exact ranges_Turns_16_ne'' n within yK yV ht f _ (by omega) (by omega) (by omega)
  ·rw [decide_eq_false hc]; intro z; cases z
theorem ranges_Turns_16_ne (n:Int) (within:Sn) (yK:List Sn) (yV:Int) (v:Int) (h:-1099511627777≤v∧v≤yV+1∧yV≤1099511627777):yd n within yK yV ((yV - v).toNat+2) v ≠ .out:=ranges_Turns_16_ne'' n within yK yV h.2.2 _ _ h.1 h.2.1 (by omega)

def sd40159 (ν0 ν1 ν2:Nat) (μ0:List Sn) (μ1:List Sn) (μ2:List Sn):St:=⟨65,[(13,B false),(4,.lsl ν0 0 μ0.length 2 none),(10,.lsl ν1 0 μ1.length 2 none),(11,I ((μ1.length:Nat):Int)),(12,I ((μ2.length:Nat):Int))],[(ν1,⟨μ2.map Sn.D,2,false⟩),(ν0,⟨μ0.map Sn.D,2,false⟩)],ν2,ν0⟩

def sd40160 (ν0 ν1 ν2 ν3:Nat) (μ0:Sn) (μ1:Nat) (μ2:List Sn) (μ3:List Sn) (μ4:List Sn):St:=⟨65,[(3,I 2),(2,.sl true [] 0 none),(25,B true),(24,B true),(23,B false),(22,I μ0.hi),(21,.lref ν0 0 2 1),(20,B false),(19,B false),(18,B true),(17,I μ0.lo),(16,.lref ν0 0 2 0),(6,.lref ν0 0 2 0),(15,.agg [I μ0.lo,I μ0.hi]),(14,.lref ν1 μ1 2 0),(13,B true),(4,.lsl ν2 0 μ2.length 2 none),(10,.lsl ν1 0 μ3.length 2 none),(11,I ((μ3.length:Nat):Int)),(12,I ((μ1:Nat):Int))],[(ν1,⟨μ4.map Sn.D,2,false⟩),(ν2,⟨μ2.map Sn.D,2,false⟩),(ν0,⟨[.agg [I μ0.lo,I μ0.hi]],2,false⟩)],ν3,ν2⟩

def sd40161 (ν0 ν1 ν2 ν3:Nat) (μ0:Sn) (μ1:Nat) (μ2:List Sn) (μ3:List Sn) (μ4:List Sn):St:=⟨65,[(3,I 2),(2,.sl true [] 0 none),(25,B true),(24,.tup []),(23,.tup []),(22,.tup []),(21,.tup []),(20,B true),(19,B true),(18,B false),(17,I μ0.lo),(16,.lref ν0 0 2 0),(6,.lref ν0 0 2 0),(15,.agg [I μ0.lo,I μ0.hi]),(14,.lref ν1 μ1 2 0),(13,B true),(4,.lsl ν2 0 μ2.length 2 none),(10,.lsl ν1 0 μ3.length 2 none),(11,I ((μ3.length:Nat):Int)),(12,I ((μ1:Nat):Int))],[(ν1,⟨μ4.map Sn.D,2,false⟩),(ν2,⟨μ2.map Sn.D,2,false⟩),(ν0,⟨[.agg [I μ0.lo,I μ0.hi]],2,false⟩)],ν3,ν2⟩

def sd40162 (ν0 ν1:Nat) (μ0:List Sn) (μ1:List Sn):St:=⟨65,[(13,B false),(4,.sl true [] 0 none),(10,.lsl ν0 0 μ0.length 2 none),(11,I ((μ0.length:Nat):Int)),(12,I ((μ1.length:Nat):Int))],[(ν0,⟨μ1.map Sn.D,2,false⟩)],ν1,ν1⟩

def sd40163 (ν0 ν1 ν2:Nat) (μ0:Sn) (μ1:Nat) (μ2:List Sn) (μ3:List Sn):St:=⟨65,[(3,I 2),(2,.sl true [] 0 none),(25,B true),(24,B true),(23,B false),(22,I μ0.hi),(21,.lref ν0 0 2 1),(20,B false),(19,B false),(18,B true),(17,I μ0.lo),(16,.lref ν0 0 2 0),(6,.lref ν0 0 2 0),(15,.agg [I μ0.lo,I μ0.hi]),(14,.lref ν1 μ1 2 0),(13,B true),(4,.sl true [] 0 none),(10,.lsl ν1 0 μ2.length 2 none),(11,I ((μ2.length:Nat):Int)),(12,I ((μ1:Nat):Int))],[(ν1,⟨μ3.map Sn.D,2,false⟩),(ν0,⟨[.agg [I μ0.lo,I μ0.hi]],2,false⟩)],ν2,ν0⟩

def sd40164 (ν0 ν1 ν2:Nat) (μ0:Sn) (μ1:Nat) (μ2:List Sn) (μ3:List Sn):St:=⟨65,[(3,I 2),(2,.sl true [] 0 none),(25,B true),(24,.tup []),(23,.tup []),(22,.tup []),(21,.tup []),(20,B true),(19,B true),(18,B false),(17,I μ0.lo),(16,.lref ν0 0 2 0),(6,.lref ν0 0 2 0),(15,.agg [I μ0.lo,I μ0.hi]),(14,.lref ν1 μ1 2 0),(13,B true),(4,.sl true [] 0 none),(10,.lsl ν1 0 μ2.length 2 none),(11,I ((μ2.length:Nat):Int)),(12,I ((μ1:Nat):Int))],[(ν1,⟨μ3.map Sn.D,2,false⟩),(ν0,⟨[.agg [I μ0.lo,I μ0.hi]],2,false⟩)],ν2,ν0⟩

def sd40165 (ν0 ν1 ν2 ν3:Nat) (μ0:Nat) (μ1:List Sn) (μ2:Sn) (μ3:List Sn) (μ4:List Sn):St:=⟨65,[(12,I ((μ0+1:Nat):Int)),(60,I ((μ0+1:Nat):Int)),(55,.lref ν0 ((w64 (((μ1.length:Nat):Int) - 1)).toNat) 2 1),(54,.lref ν0 ((w64 (((μ1.length:Nat):Int) - 1)).toNat) 2 0),(53,I (yj ((μ1.getD ((w64 (((μ1.length:Nat):Int) - 1)).toNat) default).hi) μ2.hi)),(52,I μ2.hi),(51,.lref ν1 0 2 1),(50,I ((μ1.getD ((w64 (((μ1.length:Nat):Int) - 1)).toNat) default).hi)),(49,.lref ν0 ((w64 (((μ1.length:Nat):Int) - 1)).toNat) 2 1),(48,.lref ν0 ((w64 (((μ1.length:Nat):Int) - 1)).toNat) 2 0),(47,I (w64 (((μ1.length:Nat):Int) - 1))),(46,I ((μ1.length:Nat):Int)),(45,.lsl ν0 0 μ1.length 2 none),(44,I (w64 (((μ1.length:Nat):Int) - 1))),(43,I ((μ1.length:Nat):Int)),(42,.lsl ν0 0 μ1.length 2 none),(41,B true),(40,B true),(39,I (w64 (((μ1.getD ((w64 (((μ1.length:Nat):Int) - 1)).toNat) default).hi)+1))),(38,I ((μ1.getD ((w64 (((μ1.length:Nat):Int) - 1)).toNat) default).hi)),(37,.lref ν0 ((w64 (((μ1.length:Nat):Int) - 1)).toNat) 2 1),(36,.lref ν0 ((w64 (((μ1.length:Nat):Int) - 1)).toNat) 2 0),(35,I (w64 (((μ1.length:Nat):Int) - 1))),(34,I ((μ1.length:Nat):Int)),(33,.lsl ν0 0 μ1.length 2 none),(32,I μ2.lo),(31,.lref ν1 0 2 0),(30,B true),(29,B true),(28,I ((μ1.length:Nat):Int)),(7,I ((μ1.length:Nat):Int)),(27,I ((μ1.length:Nat):Int)),(26,.lsl ν0 0 μ1.length 2 none),(25,B false),(24,B false),(23,B true),(22,I μ2.hi),(21,.lref ν1 0 2 1),(20,B false),(19,B false),(18,B true),(17,I μ2.lo),(16,.lref ν1 0 2 0),(6,.lref ν1 0 2 0),(15,.agg [I μ2.lo,I μ2.hi]),(14,.lref ν2 μ0 2 0),(13,B true),(4,.lsl ν0 0 μ1.length 2 none),(10,.lsl ν2 0 μ3.length 2 none),(11,I ((μ3.length:Nat):Int)),(12,I ((μ0:Nat):Int))],[(ν2,⟨μ4.map Sn.D,2,false⟩),(ν0,⟨(μ1.set ((w64 (((μ1.length:Nat):Int) - 1)).toNat) (⟨(μ1.getD ((w64 (((μ1.length:Nat):Int) - 1)).toNat) default).lo,yj ((μ1.getD ((w64 (((μ1.length:Nat):Int) - 1)).toNat) default).hi) μ2.hi⟩:Sn)).map Sn.D,2,false⟩),(ν1,⟨[.agg [I μ2.lo,I μ2.hi]],2,false⟩)],ν3,ν0⟩

def sd40166 (ν0 ν1 ν2 ν3 ν4 ν5:Nat) (μ0:Nat) (μ1:List Sn) (μ2:Sn) (μ3:List Sn) (μ4:List Sn):St:=⟨65,[(12,I ((μ0+1:Nat):Int)),(60,I ((μ0+1:Nat):Int)),(4,.lsl ν0 0 ((μ1++[μ2]).length) 2 none),(59,.lsl ν0 0 ((μ1++[μ2]).length) 2 none),(58,.lsl ν1 0 1 2 (some 1)),(57,.agg [I μ2.lo,I μ2.hi]),(56,.lsl ν2 0 μ1.length 2 none),(41,B false),(40,B false),(39,I (w64 (((μ1.getD ((w64 (((μ1.length:Nat):Int) - 1)).toNat) default).hi)+1))),(38,I ((μ1.getD ((w64 (((μ1.length:Nat):Int) - 1)).toNat) default).hi)),(37,.lref ν2 ((w64 (((μ1.length:Nat):Int) - 1)).toNat) 2 1),(36,.lref ν2 ((w64 (((μ1.length:Nat):Int) - 1)).toNat) 2 0),(35,I (w64 (((μ1.length:Nat):Int) - 1))),(34,I ((μ1.length:Nat):Int)),(33,.lsl ν2 0 μ1.length 2 none),(32,I μ2.lo),(31,.lref ν3 0 2 0),(30,B true),(29,B true),(28,I ((μ1.length:Nat):Int)),(7,I ((μ1.length:Nat):Int)),(27,I ((μ1.length:Nat):Int)),(26,.lsl ν2 0 μ1.length 2 none),(25,B false),(24,B false),(23,B true),(22,I μ2.hi),(21,.lref ν3 0 2 1),(20,B false),(19,B false),(18,B true),(17,I μ2.lo),(16,.lref ν3 0 2 0),(6,.lref ν3 0 2 0),(15,.agg [I μ2.lo,I μ2.hi]),(14,.lref ν4 μ0 2 0),(13,B true),(4,.lsl ν2 0 μ1.length 2 none),(10,.lsl ν4 0 μ3.length 2 none),(11,I ((μ3.length:Nat):Int)),(12,I ((μ0:Nat):Int))],[(ν4,⟨μ4.map Sn.D,2,false⟩),(ν3,⟨[.agg [I μ2.lo,I μ2.hi]],2,false⟩),(ν1,⟨[.agg [I μ2.lo,I μ2.hi]],2,false⟩),(ν0,⟨(μ1++[μ2]).map Sn.D,2,false⟩)],ν5,ν2⟩

def sd40167 (ν0 ν1 ν2 ν3 ν4 ν5:Nat) (μ0:Nat) (μ1:List Sn) (μ2:Sn) (μ3:List Sn) (μ4:List Sn):St:=⟨65,[(12,I ((μ0+1:Nat):Int)),(60,I ((μ0+1:Nat):Int)),(4,.lsl ν0 0 ((μ1++[μ2]).length) 2 none),(59,.lsl ν0 0 ((μ1++[μ2]).length) 2 none),(58,.lsl ν1 0 1 2 (some 1)),(57,.agg [I μ2.lo,I μ2.hi]),(56,.lsl ν2 0 μ1.length 2 none),(41,B false),(40,.tup []),(39,.tup []),(38,.tup []),(37,.tup []),(36,.tup []),(35,.tup []),(34,.tup []),(33,.tup []),(32,.tup []),(31,.tup []),(30,B false),(29,B false),(28,I ((μ1.length:Nat):Int)),(7,I ((μ1.length:Nat):Int)),(27,I ((μ1.length:Nat):Int)),(26,.lsl ν2 0 μ1.length 2 none),(25,B false),(24,B false),(23,B true),(22,I μ2.hi),(21,.lref ν3 0 2 1),(20,B false),(19,B false),(18,B true),(17,I μ2.lo),(16,.lref ν3 0 2 0),(6,.lref ν3 0 2 0),(15,.agg [I μ2.lo,I μ2.hi]),(14,.lref ν4 μ0 2 0),(13,B true),(4,.lsl ν2 0 μ1.length 2 none),(10,.lsl ν4 0 μ3.length 2 none),(11,I ((μ3.length:Nat):Int)),(12,I ((μ0:Nat):Int))],[(ν4,⟨μ4.map Sn.D,2,false⟩),(ν3,⟨[.agg [I μ2.lo,I μ2.hi]],2,false⟩),(ν1,⟨[.agg [I μ2.lo,I μ2.hi]],2,false⟩),(ν0,⟨(μ1++[μ2]).map Sn.D,2,false⟩)],ν5,ν2⟩

def sd40168 (ν0 ν1 ν2 ν3 ν4:Nat) (μ0:Nat) (μ1:Sn) (μ2:List Sn) (μ3:List Sn):St:=⟨65,[(12,I ((μ0+1:Nat):Int)),(60,I ((μ0+1:Nat):Int)),(4,.lsl ν0 0 1 2 none),(59,.lsl ν0 0 1 2 none),(58,.lsl ν1 0 1 2 (some 1)),(57,.agg [I μ1.lo,I μ1.hi]),(56,.sl true [] 0 none),(41,B false),(40,.tup []),(39,.tup []),(38,.tup []),(37,.tup []),(36,.tup []),(35,.tup []),(34,.tup []),(33,.tup []),(32,.tup []),(31,.tup []),(30,B false),(29,B false),(28,I 0),(7,I 0),(27,I 0),(26,.sl true [] 0 none),(25,B false),(24,B false),(23,B true),(22,I μ1.hi),(21,.lref ν2 0 2 1),(20,B false),(19,B false),(18,B true),(17,I μ1.lo),(16,.lref ν2 0 2 0),(6,.lref ν2 0 2 0),(15,.agg [I μ1.lo,I μ1.hi]),(14,.lref ν3 μ0 2 0),(13,B true),(4,.sl true [] 0 none),(10,.lsl ν3 0 μ2.length 2 none),(11,I ((μ2.length:Nat):Int)),(12,I ((μ0:Nat):Int))],[(ν3,⟨μ3.map Sn.D,2,false⟩),(ν2,⟨[.agg [I μ1.lo,I μ1.hi]],2,false⟩),(ν1,⟨[.agg [I μ1.lo,I μ1.hi]],2,false⟩),(ν0,⟨[.agg [I μ1.lo,I μ1.hi]],2,false⟩)],ν4,ν2⟩

inductive LR_ranges_gathered_4p3 where
 | x0 (yN:List Sn)
 | x1 (xp:Nat) (xh:Sn) (yN:List Sn)
 | x2 (xp:Nat) (xh:Sn) (yN:List Sn)
 | x3
 | x4 (xp:Nat) (xh:Sn)
 | x5 (xp:Nat) (xh:Sn)
instance:Inhabited LR_ranges_gathered_4p3:=⟨.x0 default⟩
def yg:List Sn→Nat→(List Sn)→LR_ranges_gathered_4p3
 | [],xp,yN=>.x0 yN
 | xh::xu,xp,yN =>
  bif (zv xh.lo) then
   bif (zv xh.hi) then
    bif decide (((yN.length:Nat):Int) > 0) then
     bif decide (xh.lo≤(w64 (((yN.getD ((w64 (((yN.length:Nat):Int) - 1)).toNat) default).hi)+1))) then
      yg xu (xp+1) (yN.set ((w64 (((yN.length:Nat):Int) - 1)).toNat) (⟨(yN.getD ((w64 (((yN.length:Nat):Int) - 1)).toNat) default).lo,yj ((yN.getD ((w64 (((yN.length:Nat):Int) - 1)).toNat) default).hi) xh.hi⟩:Sn))
     else
      yg xu (xp+1) (yN++[xh])
    else
     yg xu (xp+1) (yN++[xh])
   else
    .x1 xp xh yN
  else
   .x2 xp xh yN
def zV:List Sn→Nat→LR_ranges_gathered_4p3
 | [],xp=>.x3
 | xh::xu,xp =>
  bif (zv xh.lo) then
   bif (zv xh.hi) then
    yg xu (xp+1) [xh]
   else
    .x4 xp xh
  else
   .x5 xp xh
def zS (yJ:List Sn) (xj:List Sn):LR_ranges_gathered_4p3→Exit × St
 | .x0 yN=>((.exit 0),(sd40159 3 2 4 yN yJ xj))
 | .x1 xp xh yN=>(.ret,(sd40160 4 2 3 5 xh xp yN yJ xj))
 | .x2 xp xh yN=>(.ret,(sd40161 4 2 3 5 xh xp yN yJ xj))
 | .x3=>((.exit 0),(sd40162 2 3 yJ xj))
 | .x4 xp xh=>(.ret,(sd40163 3 2 4 xh xp yJ xj))
 | .x5 xp xh=>(.ret,(sd40164 3 2 4 xh xp yJ xj))
def zX (yJ:List Sn) (xj:List Sn):LR_ranges_gathered_4p3→Prop
 | .x0 yN=>(1≤yN.length)∧(yN.length≤xj.length)
 | .x1 xp xh yN=>(1≤yN.length)∧(yN.length≤xp)
 | .x2 xp xh yN=>(1≤yN.length)∧(yN.length≤xp)
 | .x3=>True
 | .x4 xp xh=>True
 | .x5 xp xh=>True
def ranges_gathered_4p3a_l_o1 (xp:Nat) (xh:Sn):List Ora:=[.dec true,.op (some 14) ⟨.lref 2 xp 2 0,[],[],4⟩,.op (some 15) ⟨.agg [I xh.lo,I xh.hi],[],[2],4⟩,.pure (B (zv xh.lo))]
def ranges_gathered_4p3a_l_o2 (xh:Sn) (yN:List Sn):List Ora:=[.dec true,.pure (B (zv xh.hi)),.dec true,.dec true,.op (some 36) ⟨.lref 3 ((w64 (((yN.length:Nat):Int) - 1)).toNat) 2 0,[],[],5⟩,.op (some 38) ⟨I ((yN.getD ((w64 (((yN.length:Nat):Int) - 1)).toNat) default).hi),[],[3],5⟩]
theorem lp_ranges_gathered_4p3a (yJ:List Sn) (xj:List Sn):∀ (xu:List Sn) (xp:Nat) (yN:List Sn) (xy:xj.drop xp=xu) (hi4p3:xp≤xj.length) (hz4p3_va4p3_0:1≤yN.length) (hq4p3:xj.length=yJ.length) (hg4p3_va4p3_0:yN.length≤xp) (hL4p3:xj.length≤1099511627776),(lim cfg).loop 69 lp69_4 ⟨65,[(4,.lsl 3 0 yN.length 2 none),(10,.lsl 2 0 yJ.length 2 none),(11,I ((yJ.length:Nat):Int)),(12,I ((xp:Nat):Int))],[(2,⟨xj.map Sn.D,2,false⟩),(3,⟨yN.map Sn.D,2,false⟩)],4,3⟩=some (zS yJ xj (yg xu xp yN)):=by
 intro xu
 induction xu with
 | nil =>
  intro xp yN xy hi4p3 hz4p3_va4p3_0 hq4p3 hg4p3_va4p3_0 hL4p3
  unfold yg
  obtain rfl:xp=xj.length:=nil_eq xy hi4p3
  exact yc [.dec false] (Ai (lt_no' xy hq4p3) trivial) (by kernel_rfl)
 | cons xh xu ih =>
  intro xp yN xy hi4p3 hz4p3_va4p3_0 hq4p3 hg4p3_va4p3_0 hL4p3
  have hlt4p3:=zj xy
  unfold yg
  have p1:=(idx_row (C:=cfg) (nxt:=4) (t:=22) (ty:=ty22) (te:=yl) (e:=25) (o:=2) (len:=yJ.length) (sz:=2) (cap:=none) (i:=((xp:Nat):Int)) (by kernel_rfl) rfl (by kernel_rfl) rfl (by omega) (by omega))
  have p2:=(load_row (C:=cfg) (objs:=[(2,⟨xj.map Sn.D,2,false⟩),(3,⟨yN.map Sn.D,2,false⟩)]) (nxt:=4) (t:=25) (ty:=yl) (o:=2) (n:=xp) (sz:=2) (sub:=0) (ob:=⟨xj.map Sn.D,2,false⟩) (e:=Sn.D xh) (d:=.agg [I xh.lo,I xh.hi]) (by kernel_rfl) (by kernel_rfl) rfl (row_at (f:=Sn.D) xy) (by kernel_rfl))
  cases h61:(zv xh.lo) with
  | true =>
   cases h62:(zv xh.hi) with
   | true =>
    cases h63:decide (((yN.length:Nat):Int) > 0) with
    | true =>
     have g63:=of_decide_eq_true h63
     have p3:=(idx_row (C:=cfg) (nxt:=5) (t:=23) (ty:=ty23) (te:=yl) (e:=25) (o:=3) (len:=yN.length) (sz:=2) (cap:=none) (i:=w64 (((yN.length:Nat):Int) - 1)) (by kernel_rfl) rfl (by kernel_rfl) rfl (by simp only [List.length_append,List.length_cons,List.length_nil,zT] at * <;> omega) (by simp only [List.length_append,List.length_cons,List.length_nil,zT] at * <;> omega))
     have p4:=(load_row (C:=cfg) (objs:=[(2,⟨xj.map Sn.D,2,false⟩),(3,⟨yN.map Sn.D,2,false⟩),(4,⟨[.agg [I xh.lo,I xh.hi]],2,false⟩)]) (nxt:=5) (t:=3) (ty:=ty3) (o:=3) (n:=(w64 (((yN.length:Nat):Int) - 1)).toNat) (sz:=2) (sub:=1) (ob:=⟨yN.map Sn.D,2,false⟩) (e:=Sn.D (yN.getD ((w64 (((yN.length:Nat):Int) - 1)).toNat) default)) (d:=I ((yN.getD ((w64 (((yN.length:Nat):Int) - 1)).toNat) default).hi)) (by kernel_rfl) (by kernel_rfl) rfl (row_get (f:=Sn.D) (by simp only [List.length_append,List.length_cons,List.length_nil,zT] at * <;> omega)) (by kernel_rfl))
     cases h64:decide (xh.lo≤(w64 (((yN.getD ((w64 (((yN.length:Nat):Int) - 1)).toNat) default).hi)+1))) with
     | true =>
      have g64:=of_decide_eq_true h64
      exact zR (ks:=[4,10,11,12]) (st':=(sd40165 3 4 2 5 xp yN xh yJ xj)) ((ranges_gathered_4p3a_l_o1 xp xh)++((ranges_gathered_4p3a_l_o2 xh yN)++[.dec true,.op (some 48) ⟨.lref 3 ((w64 (((yN.length:Nat):Int) - 1)).toNat) 2 0,[],[],5⟩,.op (some 50) ⟨I ((yN.getD ((w64 (((yN.length:Nat):Int) - 1)).toNat) default).hi),[],[3],5⟩,.op (some 54) ⟨.lref 3 ((w64 (((yN.length:Nat):Int) - 1)).toNat) 2 0,[],[],5⟩,.stS 3 ⟨.tup [],[(3,some ⟨(yN.set ((w64 (((yN.length:Nat):Int) - 1)).toNat) (⟨(yN.getD ((w64 (((yN.length:Nat):Int) - 1)).toNat) default).lo,yj ((yN.getD ((w64 (((yN.length:Nat):Int) - 1)).toNat) default).hi) xh.hi⟩:Sn)).map Sn.D,2,false⟩)],[3],5⟩,.rw 60 (I ((xp+1:Nat):Int))])) (Ai (ya (i:=xp) (by have:=zj xy; omega)) (Ai (store_row (C:=cfg) (objs:=[(2,⟨xj.map Sn.D,2,false⟩),(3,⟨yN.map Sn.D,2,false⟩),(4,⟨[.agg [I xh.lo,I xh.hi]],2,false⟩)]) (nxt:=5) (t:=3) (ty:=ty3) (o:=3) (n:=(w64 (((yN.length:Nat):Int) - 1)).toNat) (sz:=2) (sub:=1) (els:=yN.map Sn.D) (els':=(yN.set ((w64 (((yN.length:Nat):Int) - 1)).toNat) (⟨(yN.getD ((w64 (((yN.length:Nat):Int) - 1)).toNat) default).lo,yj ((yN.getD ((w64 (((yN.length:Nat):Int) - 1)).toNat) default).hi) xh.hi⟩:Sn)).map Sn.D) (e:=Sn.D (yN.getD ((w64 (((yN.length:Nat):Int) - 1)).toNat) default)) (e':=Sn.D (⟨(yN.getD ((w64 (((yN.length:Nat):Int) - 1)).toNat) default).lo,yj ((yN.getD ((w64 (((yN.length:Nat):Int) - 1)).toNat) default).hi) xh.hi⟩:Sn)) (v:=I (yj ((yN.getD ((w64 (((yN.length:Nat):Int) - 1)).toNat) default).hi) xh.hi)) (by kernel_rfl) (by kernel_rfl) (row_get (f:=Sn.D) (by simp only [List.length_append,List.length_cons,List.length_nil,zT] at * <;> omega)) rfl (by kernel_rfl) rfl (by kernel_rfl) (row_set (f:=Sn.D))) (Ai (idx_row (C:=cfg) (nxt:=5) (t:=23) (ty:=ty23) (te:=yl) (e:=25) (o:=3) (len:=yN.length) (sz:=2) (cap:=none) (i:=w64 (((yN.length:Nat):Int) - 1)) (by kernel_rfl) rfl (by kernel_rfl) rfl (by simp only [List.length_append,List.length_cons,List.length_nil,zT] at * <;> omega) (by simp only [List.length_append,List.length_cons,List.length_nil,zT] at * <;> omega)) (Ai (load_row (C:=cfg) (objs:=[(2,⟨xj.map Sn.D,2,false⟩),(3,⟨yN.map Sn.D,2,false⟩),(4,⟨[.agg [I xh.lo,I xh.hi]],2,false⟩)]) (nxt:=5) (t:=3) (ty:=ty3) (o:=3) (n:=(w64 (((yN.length:Nat):Int) - 1)).toNat) (sz:=2) (sub:=1) (ob:=⟨yN.map Sn.D,2,false⟩) (e:=Sn.D (yN.getD ((w64 (((yN.length:Nat):Int) - 1)).toNat) default)) (d:=I ((yN.getD ((w64 (((yN.length:Nat):Int) - 1)).toNat) default).hi)) (by kernel_rfl) (by kernel_rfl) rfl (row_get (f:=Sn.D) (by simp only [List.length_append,List.length_cons,List.length_nil,zT] at * <;> omega)) (by kernel_rfl)) (Ai (idx_row (C:=cfg) (nxt:=5) (t:=23) (ty:=ty23) (te:=yl) (e:=25) (o:=3) (len:=yN.length) (sz:=2) (cap:=none) (i:=w64 (((yN.length:Nat):Int) - 1)) (by kernel_rfl) rfl (by kernel_rfl) rfl (by simp only [List.length_append,List.length_cons,List.length_nil,zT] at * <;> omega) (by simp only [List.length_append,List.length_cons,List.length_nil,zT] at * <;> omega)) (Ai h64 (Ai p4 (Ai p3 (Ai h63 (Ai h62 (Ai (zk xh.hi) (Ai h61 (Ai (zk xh.lo) (Ai p2 (Ai p1 (Ai (lt_at' xy hq4p3) trivial)))))))))))))))) (by kernel_rfl) (by (simp only [sd40165,go_sem,List.length_set,Nat.reduceAdd,Nat.reduceEqDiff,Nat.reduceLT,Nat.reduceLeDiff,bI2,zb.idsL,zb.renL,zb.snapAll,z6.idsL,z6.renL,z6.snapAll]) <;> rfl) (ih (xp+1) (yN.set ((w64 (((yN.length:Nat):Int) - 1)).toNat) (⟨(yN.getD ((w64 (((yN.length:Nat):Int) - 1)).toNat) default).lo,yj ((yN.getD ((w64 (((yN.length:Nat):Int) - 1)).toNat) default).hi) xh.hi⟩:Sn)) (zn xy) (zj xy) (by simp only [List.length_set] at * <;> omega) (by omega) (by simp only [List.length_set] at * <;> omega) (by omega)) (by kernel_rfl)
     | false =>
      have g64:=of_decide_eq_false h64
      exact zR (ks:=[4,10,11,12]) (st':=(sd40166 6 5 3 4 2 7 xp yN xh yJ xj)) ((ranges_gathered_4p3a_l_o1 xp xh)++((ranges_gathered_4p3a_l_o2 xh yN)++[.dec false,.op (some 59) ⟨.lsl 6 0 ((yN++[xh]).length) 2 none,[(3,none),(6,some ⟨(yN++[xh]).map Sn.D,2,false⟩)],[3,5],7⟩,.rw 60 (I ((xp+1:Nat):Int))])) (Ai (ya (i:=xp) (by have:=zj xy; omega)) (Ai (app_row (f:=Sn.D) (te:=yl) (gO:=zB [(2,⟨xj.map Sn.D,2,false⟩),(3,⟨yN.map Sn.D,2,false⟩),(4,⟨[.agg [I xh.lo,I xh.hi]],2,false⟩),(5,⟨[.agg [I xh.lo,I xh.hi]],2,false⟩)]) (nxt:=6) (o:=3) (o2:=5) (fz:=false) z6 yN xh (by kernel_rfl) (by kernel_rfl) rfl (by kernel_rfl) (by decide) ⟨by simp only [yl,big] <;> (omega),by simp only [big] <;> (omega)⟩) (Ai h64 (Ai p4 (Ai p3 (Ai h63 (Ai h62 (Ai (zk xh.hi) (Ai h61 (Ai (zk xh.lo) (Ai p2 (Ai p1 (Ai (lt_at' xy hq4p3) trivial))))))))))))) (by kernel_rfl) (by (simp only [sd40166,go_sem,List.length_set,Nat.reduceAdd,Nat.reduceEqDiff,Nat.reduceLT,Nat.reduceLeDiff,bI2,zb.idsL,zb.renL,zb.snapAll,z6.idsL,z6.renL,z6.snapAll]) <;> rfl) (ih (xp+1) (yN++[xh]) (zn xy) (zj xy) (by simp only [List.length_append,List.length_cons,List.length_nil] at * <;> omega) (by omega) (by simp only [List.length_append,List.length_cons,List.length_nil] at * <;> omega) (by omega)) (by kernel_rfl)
    | false =>
     have g63:=of_decide_eq_false h63
     exact zR (ks:=[4,10,11,12]) (st':=(sd40167 6 5 3 4 2 7 xp yN xh yJ xj)) ((ranges_gathered_4p3a_l_o1 xp xh)++[.dec true,.pure (B (zv xh.hi)),.dec true,.dec false,.op (some 59) ⟨.lsl 6 0 ((yN++[xh]).length) 2 none,[(3,none),(6,some ⟨(yN++[xh]).map Sn.D,2,false⟩)],[3,5],7⟩,.rw 60 (I ((xp+1:Nat):Int))]) (Ai (ya (i:=xp) (by have:=zj xy; omega)) (Ai (app_row (f:=Sn.D) (te:=yl) (gO:=zB [(2,⟨xj.map Sn.D,2,false⟩),(3,⟨yN.map Sn.D,2,false⟩),(4,⟨[.agg [I xh.lo,I xh.hi]],2,false⟩),(5,⟨[.agg [I xh.lo,I xh.hi]],2,false⟩)]) (nxt:=6) (o:=3) (o2:=5) (fz:=false) z6 yN xh (by kernel_rfl) (by kernel_rfl) rfl (by kernel_rfl) (by decide) ⟨by simp only [yl,big] <;> (omega),by simp only [big] <;> (omega)⟩) (Ai h63 (Ai h62 (Ai (zk xh.hi) (Ai h61 (Ai (zk xh.lo) (Ai p2 (Ai p1 (Ai (lt_at' xy hq4p3) trivial)))))))))) (by kernel_rfl) (by (simp only [sd40167,go_sem,List.length_set,Nat.reduceAdd,Nat.reduceEqDiff,Nat.reduceLT,Nat.reduceLeDiff,bI2,zb.idsL,zb.renL,zb.snapAll,z6.idsL,z6.renL,z6.snapAll]) <;> rfl) (ih (xp+1) (yN++[xh]) (zn xy) (zj xy) (by omega) (by omega) (by omega) (by omega)) (by kernel_rfl)
   | false =>
    exact yc ((ranges_gathered_4p3a_l_o1 xp xh)++[.dec true,.pure (B (zv xh.hi)),.dec false]) (Ai h62 (Ai (zk xh.hi) (Ai h61 (Ai (zk xh.lo) (Ai p2 (Ai p1 (Ai (lt_at' xy hq4p3) trivial))))))) (by kernel_rfl)
  | false =>
   exact yc ((ranges_gathered_4p3a_l_o1 xp xh)++[.dec false]) (Ai h61 (Ai (zk xh.lo) (Ai p2 (Ai p1 (Ai (lt_at' xy hq4p3) trivial))))) (by kernel_rfl)
theorem ivt_ranges_gathered_4p3a (yJ:List Sn) (xj:List Sn):∀ (xu:List Sn) (xp:Nat) (yN:List Sn) (xy:xj.drop xp=xu) (hi4p3:xp≤xj.length) (hz4p3_va4p3_0:1≤yN.length) (hq4p3:xj.length=yJ.length) (hg4p3_va4p3_0:yN.length≤xp) (hL4p3:xj.length≤1099511627776),zX yJ xj (yg xu xp yN):=by
 intro xu
 induction xu with
 | nil =>
  intro xp yN xy hi4p3 hz4p3_va4p3_0 hq4p3 hg4p3_va4p3_0 hL4p3
  unfold yg
  obtain rfl:xp=xj.length:=nil_eq xy hi4p3
  exact ⟨hz4p3_va4p3_0,hg4p3_va4p3_0⟩
 | cons xh xu ih =>
  intro xp yN xy hi4p3 hz4p3_va4p3_0 hq4p3 hg4p3_va4p3_0 hL4p3
  have hlt4p3:=zj xy
  unfold yg
  cases h61:(zv xh.lo) with
  | true =>
   cases h62:(zv xh.hi) with
   | true =>
    cases h63:decide (((yN.length:Nat):Int) > 0) with
    | true =>
     have g63:=of_decide_eq_true h63
     cases h64:decide (xh.lo≤(w64 (((yN.getD ((w64 (((yN.length:Nat):Int) - 1)).toNat) default).hi)+1))) with
     | true =>
      have g64:=of_decide_eq_true h64
      exact ih (xp+1) (yN.set ((w64 (((yN.length:Nat):Int) - 1)).toNat) (⟨(yN.getD ((w64 (((yN.length:Nat):Int) - 1)).toNat) default).lo,yj ((yN.getD ((w64 (((yN.length:Nat):Int) - 1)).toNat) default).hi) xh.hi⟩:Sn)) (zn xy) (zj xy) (by simp only [List.length_set] at * <;> omega) (by omega) (by simp only [List.length_set] at * <;> omega) (by omega)
     | false =>
      have g64:=of_decide_eq_false h64
      exact ih (xp+1) (yN++[xh]) (zn xy) (zj xy) (by simp only [List.length_append,List.length_cons,List.length_nil] at * <;> omega) (by omega) (by simp only [List.length_append,List.length_cons,List.length_nil] at * <;> omega) (by omega)
    | false =>
     have g63:=of_decide_eq_false h63
     exact ih (xp+1) (yN++[xh]) (zn xy) (zj xy) (by omega) (by omega) (by omega) (by omega)
   | false =>
    exact ⟨hz4p3_va4p3_0,hg4p3_va4p3_0⟩
  | false =>
   exact ⟨hz4p3_va4p3_0,hg4p3_va4p3_0⟩
def ranges_gathered_4p3_l_o1 (xp:Nat) (xh:Sn):List Ora:=[.dec true,.op (some 14) ⟨.lref 2 xp 2 0,[],[],3⟩,.op (some 15) ⟨.agg [I xh.lo,I xh.hi],[],[2],3⟩,.pure (B (zv xh.lo))]
theorem lp_ranges_gathered_4p3 (yJ:List Sn) (xj:List Sn):∀ (xu:List Sn) (xp:Nat) (xy:xj.drop xp=xu) (hi4p3:xp≤xj.length) (hq4p3:xj.length=yJ.length) (hL4p3:xj.length≤1099511627776),(lim cfg).loop 69 lp69_4 ⟨65,[(4,.sl true [] 0 none),(10,.lsl 2 0 yJ.length 2 none),(11,I ((yJ.length:Nat):Int)),(12,I ((xp:Nat):Int))],[(2,⟨xj.map Sn.D,2,false⟩)],3,3⟩=some (zS yJ xj (zV xu xp)):=by
 intro xu
 induction xu with
 | nil =>
  intro xp xy hi4p3 hq4p3 hL4p3
  unfold zV
  obtain rfl:xp=xj.length:=nil_eq xy hi4p3
  exact yc [.dec false] (Ai (lt_no' xy hq4p3) trivial) (by kernel_rfl)
 | cons xh xu ih =>
  intro xp xy hi4p3 hq4p3 hL4p3
  have hlt4p3:=zj xy
  unfold zV
  dsimp only
  have p1:=(idx_row (C:=cfg) (nxt:=3) (t:=22) (ty:=ty22) (te:=yl) (e:=25) (o:=2) (len:=yJ.length) (sz:=2) (cap:=none) (i:=((xp:Nat):Int)) (by kernel_rfl) rfl (by kernel_rfl) rfl (by omega) (by omega))
  have p2:=(load_row (C:=cfg) (objs:=[(2,⟨xj.map Sn.D,2,false⟩)]) (nxt:=3) (t:=25) (ty:=yl) (o:=2) (n:=xp) (sz:=2) (sub:=0) (ob:=⟨xj.map Sn.D,2,false⟩) (e:=Sn.D xh) (d:=.agg [I xh.lo,I xh.hi]) (by kernel_rfl) (by kernel_rfl) rfl (row_at (f:=Sn.D) xy) (by kernel_rfl))
  cases h65:(zv xh.lo) with
  | true =>
   cases h66:(zv xh.hi) with
   | true =>
    exact zR (ks:=[4,10,11,12]) (st':=(sd40168 5 4 3 2 6 xp xh yJ xj)) ((ranges_gathered_4p3_l_o1 xp xh)++[.dec true,.pure (B (zv xh.hi)),.dec true,.dec false,.rw 60 (I ((xp+1:Nat):Int))]) (Ai (ya (i:=xp) (by have:=zj xy; omega)) (Ai (Eq.refl false) (Ai h66 (Ai (zk xh.hi) (Ai h65 (Ai (zk xh.lo) (Ai p2 (Ai p1 (Ai (lt_at' xy hq4p3) trivial))))))))) (by kernel_rfl) (by (simp only [sd40168,go_sem,List.length_set,Nat.reduceAdd,Nat.reduceEqDiff,Nat.reduceLT,Nat.reduceLeDiff,bI2,zb.idsL,zb.renL,zb.snapAll,z6.idsL,z6.renL,z6.snapAll]) <;> rfl) (lp_ranges_gathered_4p3a yJ xj _ (xp+1) [xh] (zn xy) (zj xy) (by simp only [List.length_append,List.length_cons,List.length_nil] at * <;> omega) (by omega) (by simp only [List.length_append,List.length_cons,List.length_nil] at * <;> omega) (by omega)) (by kernel_rfl)
   | false =>
    exact yc ((ranges_gathered_4p3_l_o1 xp xh)++[.dec true,.pure (B (zv xh.hi)),.dec false]) (Ai h66 (Ai (zk xh.hi) (Ai h65 (Ai (zk xh.lo) (Ai p2 (Ai p1 (Ai (lt_at' xy hq4p3) trivial))))))) (by kernel_rfl)
  | false =>
   exact yc ((ranges_gathered_4p3_l_o1 xp xh)++[.dec false]) (Ai h65 (Ai (zk xh.lo) (Ai p2 (Ai p1 (Ai (lt_at' xy hq4p3) trivial))))) (by kernel_rfl)
theorem ivt_ranges_gathered_4p3 (yJ:List Sn) (xj:List Sn):∀ (xu:List Sn) (xp:Nat) (xy:xj.drop xp=xu) (hi4p3:xp≤xj.length) (hq4p3:xj.length=yJ.length) (hL4p3:xj.length≤1099511627776),zX yJ xj (zV xu xp):=by
 intro xu
 induction xu with
 | nil =>
  intro xp xy hi4p3 hq4p3 hL4p3
  unfold zV
  obtain rfl:xp=xj.length:=nil_eq xy hi4p3
  exact trivial
 | cons xh xu ih =>
  intro xp xy hi4p3 hq4p3 hL4p3
  have hlt4p3:=zj xy
  unfold zV
  dsimp only
  cases h65:(zv xh.lo) with
  | true =>
   cases h66:(zv xh.hi) with
   | true =>
    exact ivt_ranges_gathered_4p3a yJ xj _ (xp+1) [xh] (zn xy) (zj xy) (by simp only [List.length_append,List.length_cons,List.length_nil] at * <;> omega) (by omega) (by simp only [List.length_append,List.length_cons,List.length_nil] at * <;> omega) (by omega)
   | false =>
    exact trivial
  | false =>
   exact trivial

def z8 (r:GS Sn) (n:Int) (within:Sn):(GS Sn) × Int :=
 bif ((zz r) != 0) then
  (GS.nil,(zz r))
 else
  bif (yu n 1 10000) then
   bif decide (within.lo > within.hi) then
    (GS.nil,1)
   else
    bif (zv within.lo) then
     bif (zv within.hi) then
      match ranges_each_3p5 n r.l with
      | .x0 yK =>
       bif (((yK.length:Nat):Int) == 0) then
        (GS.nil,0)
       else
        bif (ranges_full (GS.some yK) n) then
         (GS.some [within],0)
        else
         bif decide ((w64 ((zg within.hi n) - (zg within.lo n))) > 66) then
          (GS.nil,2)
         else
          match yd n within yK (zg within.hi n) ((zg within.hi n - zg within.lo n).toNat+2) (zg within.lo n) with
          | .x0 yT yJ yQ =>
           match zV (zo zm yJ) 0 with
           | .x0 yN =>
            bif decide (((yN.length:Nat):Int) > 64) then
             (GS.nil,2)
            else
             (GS.some yN,0)
           | .x1 xp xh yN =>
            (GS.nil,2)
           | .x2 xp xh yN =>
            (GS.nil,2)
           | .x3 =>
            (GS.nil,0)
           | .x4 xp xh =>
            (GS.nil,2)
           | .x5 xp xh =>
            (GS.nil,2)
          | .x1 yS =>
           (GS.nil,0)
          | .out =>
           default
      | .x1 yO =>
       bif (((yO.length:Nat):Int) == 0) then
        (GS.nil,0)
       else
        bif (ranges_full (GS.some yO) n) then
         (GS.some [within],0)
        else
         bif decide ((w64 ((zg within.hi n) - (zg within.lo n))) > 66) then
          (GS.nil,2)
         else
          match yd n within yO (zg within.hi n) ((zg within.hi n - zg within.lo n).toNat+2) (zg within.lo n) with
          | .x0 yT yJ yQ =>
           match zV (zo zm yJ) 0 with
           | .x0 yN =>
            bif decide (((yN.length:Nat):Int) > 64) then
             (GS.nil,2)
            else
             (GS.some yN,0)
           | .x1 xp xh yN =>
            (GS.nil,2)
           | .x2 xp xh yN =>
            (GS.nil,2)
           | .x3 =>
            (GS.nil,0)
           | .x4 xp xh =>
            (GS.nil,2)
           | .x5 xp xh =>
            (GS.nil,2)
          | .x1 yS =>
           (GS.nil,0)
          | .out =>
           default
      | .x2 =>
       (GS.nil,0)
      | .x3 =>
       (GS.nil,0)
     else
      (GS.nil,1)
    else
     (GS.nil,1)
  else
   (GS.nil,1)

def zN (r:GS Sn) (n:Int) (within:Sn):List Ora:=[.pure (I (zz r)),.dec false,.pure (B (yu n 1 10000)),.dec true,.dec false,.pure (B (zv within.lo))]

def ranges_Turns_o2 (n:Int) (within:Sn) (yK:List Sn):List Ora:=[.dec true,.pure (B (zv within.hi)),.dec true,.inl (.lsl 2 0 yK.length 2 none) [(1,⟨[I n],1,true⟩),(2,⟨yK.map Sn.D,2,false⟩)] 3]

def ranges_Turns_o3 (n:Int) (within:Sn) (yK:List Sn):List Ora:=[.dec false,.pureS (B (ranges_full (GS.some yK) n)) true [(2,.sl false (yK.map Sn.D) 2 none,[2])],.dec false,.pure (I (zg within.lo n)),.pure (I (zg within.hi n))]

def ranges_Turns_o4 (n:Int) (within:Sn) (yO:List Sn):List Ora:=[.dec true,.pure (B (zv within.hi)),.dec true,.inl (.lsl 2 0 yO.length 2 none) [(1,⟨[I n],1,false⟩),(2,⟨yO.map Sn.D,2,false⟩)] 3]

def ranges_Turns_o5 (n:Int) (within:Sn) (yO:List Sn):List Ora:=[.dec false,.pureS (B (ranges_full (GS.some yO) n)) true [(2,.sl false (yO.map Sn.D) 2 none,[2])],.dec false,.pure (I (zg within.lo n)),.pure (I (zg within.hi n))]

def sd40156 (ν0 ν1 ν2 ν3:Nat) (μ0:Sn) (μ1:Int) (μ2:List Sn) (μ3:GS Sn):St:=⟨104,[(13,I (zg μ0.lo μ1)),(66,I (zg μ0.lo μ1)),(12,.sl true [] 0 none),(65,B false),(64,I (w64 ((zg μ0.hi μ1) - (zg μ0.lo μ1)))),(63,I (zg μ0.lo μ1)),(62,I (zg μ0.hi μ1)),(11,I (zg μ0.hi μ1)),(10,I (zg μ0.lo μ1)),(61,I (zg μ0.hi μ1)),(60,I μ1),(59,I μ0.hi),(58,.lref ν0 0 2 1),(57,I (zg μ0.lo μ1)),(56,I μ1),(55,I μ0.lo),(54,.lref ν0 0 2 0),(51,B false),(50,I μ1),(49,.lsl ν1 0 μ2.length 2 none),(48,B false),(47,I ((μ2.length:Nat):Int)),(46,.lsl ν1 0 μ2.length 2 none),(9,.lsl ν1 0 μ2.length 2 none),(45,.lsl ν1 0 μ2.length 2 none),(44,I μ1),(43,.sl μ3.nl (μ3.l.map Sn.D) (zsl μ3.nl 2) none),(42,B false),(41,B false),(40,B true),(39,I μ0.hi),(38,.lref ν0 0 2 1),(37,B false),(36,B false),(35,B false),(34,B true),(33,I μ0.lo),(32,.lref ν0 0 2 0),(31,B false),(30,B false),(29,B false),(28,I μ0.hi),(27,.lref ν0 0 2 1),(26,I μ0.lo),(25,.lref ν0 0 2 0),(24,B false),(23,B false),(22,B true),(21,I μ1),(19,B false),(18,I (zz μ3)),(8,I (zz μ3)),(17,I (zz μ3)),(16,.sl μ3.nl (μ3.l.map Sn.D) (zsl μ3.nl 2) none),(7,I 0),(6,.sl true [] 0 none),(5,.lref ν0 0 2 0),(0,.sl μ3.nl (μ3.l.map Sn.D) (zsl μ3.nl 2) none),(1,I μ1),(2,.agg [I μ0.lo,I μ0.hi])],[(ν0,⟨[.agg [I μ0.lo,I μ0.hi]],2,false⟩),(ν2,⟨[I μ1],1,true⟩),(ν1,⟨μ2.map Sn.D,2,false⟩)],ν3,ν0⟩

def sd40157 (ν0 ν1 ν2:Nat) (μ0:Int) (μ1:List Sn) (μ2:Sn):St:=⟨104,[(1,I μ0),(5,.lref ν0 0 2 0),(9,.lsl ν1 0 μ1.length 2 none),(11,I (zg μ2.hi μ0)),(12,.sl true [] 0 none),(13,I (zg μ2.lo μ0))],[(ν0,⟨[.agg [I μ2.lo,I μ2.hi]],2,false⟩),(ν1,⟨μ1.map Sn.D,2,false⟩)],ν2,ν0⟩

def sd40158 (ν0 ν1 ν2 ν3:Nat) (μ0:Sn) (μ1:Int) (μ2:Int) (μ3:List Sn) (μ4:List Sn):St:=⟨104,[(69,B false),(68,I (zg μ0.hi μ1)),(67,I μ2),(1,I μ1),(5,.lref ν0 0 2 0),(9,.lsl ν1 0 μ3.length 2 none),(11,I (zg μ0.hi μ1)),(12,.lsl ν2 0 μ4.length 2 none),(13,I μ2)],[(ν0,⟨[.agg [I μ0.lo,I μ0.hi]],2,false⟩),(ν1,⟨μ3.map Sn.D,2,false⟩),(ν2,⟨μ4.map Sn.D,2,false⟩)],ν3,ν0⟩

def sd40169 (ν0 ν1 ν2:Nat) (μ0:Sn) (μ1:Int) (μ2:Int) (μ3:List Sn):St:=⟨104,[(69,B false),(68,I (zg μ0.hi μ1)),(67,I μ2),(1,I μ1),(5,.lref ν0 0 2 0),(9,.lsl ν1 0 μ3.length 2 none),(11,I (zg μ0.hi μ1)),(12,.sl true [] 0 none),(13,I μ2)],[(ν0,⟨[.agg [I μ0.lo,I μ0.hi]],2,false⟩),(ν1,⟨μ3.map Sn.D,2,false⟩)],ν2,ν0⟩

def sd40170 (ν0 ν1 ν2 ν3:Nat) (μ0:Sn) (μ1:Int) (μ2:List Sn) (μ3:GS Sn):St:=⟨104,[(13,I (zg μ0.lo μ1)),(66,I (zg μ0.lo μ1)),(12,.sl true [] 0 none),(65,B false),(64,I (w64 ((zg μ0.hi μ1) - (zg μ0.lo μ1)))),(63,I (zg μ0.lo μ1)),(62,I (zg μ0.hi μ1)),(11,I (zg μ0.hi μ1)),(10,I (zg μ0.lo μ1)),(61,I (zg μ0.hi μ1)),(60,I μ1),(59,I μ0.hi),(58,.lref ν0 0 2 1),(57,I (zg μ0.lo μ1)),(56,I μ1),(55,I μ0.lo),(54,.lref ν0 0 2 0),(51,B false),(50,I μ1),(49,.lsl ν1 0 μ2.length 2 none),(48,B false),(47,I ((μ2.length:Nat):Int)),(46,.lsl ν1 0 μ2.length 2 none),(9,.lsl ν1 0 μ2.length 2 none),(45,.lsl ν1 0 μ2.length 2 none),(44,I μ1),(43,.sl μ3.nl (μ3.l.map Sn.D) (zsl μ3.nl 2) none),(42,B false),(41,B false),(40,B true),(39,I μ0.hi),(38,.lref ν0 0 2 1),(37,B false),(36,B false),(35,B false),(34,B true),(33,I μ0.lo),(32,.lref ν0 0 2 0),(31,B false),(30,B false),(29,B false),(28,I μ0.hi),(27,.lref ν0 0 2 1),(26,I μ0.lo),(25,.lref ν0 0 2 0),(24,B false),(23,B false),(22,B true),(21,I μ1),(19,B false),(18,I (zz μ3)),(8,I (zz μ3)),(17,I (zz μ3)),(16,.sl μ3.nl (μ3.l.map Sn.D) (zsl μ3.nl 2) none),(7,I 0),(6,.sl true [] 0 none),(5,.lref ν0 0 2 0),(0,.sl μ3.nl (μ3.l.map Sn.D) (zsl μ3.nl 2) none),(1,I μ1),(2,.agg [I μ0.lo,I μ0.hi])],[(ν0,⟨[.agg [I μ0.lo,I μ0.hi]],2,false⟩),(ν2,⟨[I μ1],1,false⟩),(ν1,⟨μ2.map Sn.D,2,false⟩)],ν3,ν0⟩

theorem zy (r:GS Sn) (n:Int) (within:Sn) (hLr:r.l.length≤9223372036854775807):(lim cfg).pure 22 [GS.D Sn.D 2 r,I n,Sn.D within]=some (.tup [GS.D Sn.D 2 ((z8 r n within).1),I ((z8 r n within).2)]):=by
 unfold z8
 cases h1:((zz r) != 0) with
 | true =>
  have g1:=bne_true h1
  exact zu [.pure (I (zz r)),.dec true] (Ai h1 (Ai (zi r (by omega)) trivial)) (by kernel_rfl)
 | false =>
  obtain ⟨g1,gb1⟩:=chk1 (bne_false h1)
  cases h2:(yu n 1 10000) with
  | true =>
   have hn:=in_iff.1 h2
   cases h3:decide (within.lo > within.hi) with
   | true =>
    have g3:=of_decide_eq_true h3
    exact zu [.pure (I (zz r)),.dec false,.pure (B (yu n 1 10000)),.dec true,.dec true] (Ai h3 (Ai h2 (Ai (zC n 1 10000) (Ai h1 (Ai (zi r (by omega)) trivial))))) (by kernel_rfl)
   | false =>
    have g3:=of_decide_eq_false h3
    cases h4:(zv within.lo) with
    | true =>
     have g4:=area_b h4
     cases h5:(zv within.hi) with
     | true =>
      have g5:=area_b h5
      cases h30:ranges_each_3p5 n r.l with
      | x0 yK =>
       try dsimp only
       have xT:=ivt_ranges_each_3p5 r n r.l 0 (List.drop_zero) (Nat.zero_le _) (by omega) (by omega) (by omega) (by omega)
       rw [h30] at xT
       obtain ⟨xO,xP⟩:=xT
       try dsimp only [iv_ranges_each_3p5] at xO
       try dsimp only [iv_ranges_each_3p5] at xP
       have p1:=(show (lim cfg).inl 82 [.sl r.nl (r.l.map Sn.D) (zsl r.nl 2) none,I n] [] 1=some (.lsl 2 0 yK.length 2 none,[(1,⟨[I n],1,true⟩),(2,⟨yK.map Sn.D,2,false⟩)],3) from zH [.inl (.lsl 2 0 yK.length 2 none) [(1,⟨[I n],1,true⟩),(2,⟨yK.map Sn.D,2,false⟩)] 3] (Ai (show (lim cfg).inl 70 [.sl r.nl (r.l.map Sn.D) (zsl r.nl 2) none,.fn (.func 106) [] [.lref 1 0 1 0]] [(1,⟨[I n],1,false⟩)] 2=some (.lsl 2 0 yK.length 2 none,[(1,⟨[I n],1,true⟩),(2,⟨yK.map Sn.D,2,false⟩)],3) from zH [.rw 9 (I ((r.l.length:Nat):Int)),.loop (.exit 0) (sd40132 1 2 3 yK r n)] (Ai (zY (q:=lr_ranges_each_3p5 r n) (lp_ranges_each_3p5 r n r.l 0 (List.drop_zero) (Nat.zero_le _) (by omega) (by omega) (by omega) (by omega)) h30) (Ai (zO Sn.D r) trivial)) (by kernel_rfl)) trivial) (by kernel_rfl))
       cases h31:(((yK.length:Nat):Int) == 0) with
       | true =>
        have g31:=eq_of_beq h31
        exact zu ((zN r n within)++((ranges_Turns_o2 n within yK)++[.dec true])) (Ai h31 (Ai p1 (Ai h5 (Ai (zk within.hi) (Ai h4 (Ai (zk within.lo) (Ai h3 (Ai h2 (Ai (zC n 1 10000) (Ai h1 (Ai (zi r (by omega)) trivial))))))))))) (by kernel_rfl)
       | false =>
        have g31:=ne_of_beq_false h31
        have p2:=(Ai (show flat fuelD (B (ranges_full (GS.some yK) n))=true from (by kernel_rfl)) (Ai (Ai (snap_row (gO:=zB [(0,⟨[.agg [I within.lo,I within.hi]],2,false⟩),(1,⟨[I n],1,true⟩),(2,⟨yK.map Sn.D,2,false⟩)]) (o:=2) (len:=yK.length) (cap:=none) (fz:=false) z6 yK (by kernel_rfl) (by omega)) trivial) (T_ranges_full (GS.some yK) n (by simp only [zK,GS.some_l,List.length_set,List.length_append,List.length_cons,List.length_nil] at * <;> first | with_reducible assumption | omega) (by omega) (by assumption))))
        cases h32:(ranges_full (GS.some yK) n) with
        | true =>
         exact zu ((zN r n within)++((ranges_Turns_o2 n within yK)++[.dec false,.pureS (B (ranges_full (GS.some yK) n)) true [(2,.sl false (yK.map Sn.D) 2 none,[2])],.dec true])) (Ai h32 (Ai p2 (Ai h31 (Ai p1 (Ai h5 (Ai (zk within.hi) (Ai h4 (Ai (zk within.lo) (Ai h3 (Ai h2 (Ai (zC n 1 10000) (Ai h1 (Ai (zi r (by omega)) trivial))))))))))))) (by kernel_rfl)
        | false =>
         have p3:=(T_ranges_down within.lo n (by omega))
         have p4:=(T_ranges_down within.hi n (by omega))
         cases h33:decide ((w64 ((zg within.hi n) - (zg within.lo n))) > 66) with
         | true =>
          have g33:=of_decide_eq_true h33
          exact zu ((zN r n within)++((ranges_Turns_o2 n within yK)++((ranges_Turns_o3 n within yK)++[.dec true]))) (Ai h33 (Ai p4 (Ai p3 (Ai h32 (Ai p2 (Ai h31 (Ai p1 (Ai h5 (Ai (zk within.hi) (Ai h4 (Ai (zk within.lo) (Ai h3 (Ai h2 (Ai (zC n 1 10000) (Ai h1 (Ai (zi r (by omega)) trivial)))))))))))))))) (by kernel_rfl)
         | false =>
          have hd66:=turns_k hn (by assumption) (by assumption) (by assumption) h33
          have p5:=(gc_of (C:=cfg) (f:=22) (a:=lp22_16) (ks:=[1,5,9,11,12,13]) (st:=(sd40156 0 2 1 3 within n yK r)) (st1:=(sd40157 0 1 2 n yK within)) (by kernel_rfl) (by (simp only [sd40156,sd40157,go_sem,List.length_set,Nat.reduceAdd,Nat.reduceEqDiff,Nat.reduceLT,Nat.reduceLeDiff,bI2,zb.idsL,zb.renL,zb.snapAll,z6.idsL,z6.renL,z6.snapAll]) <;> rfl))
          cases h54:yd n within yK (zg within.hi n) ((zg within.hi n - zg within.lo n).toNat+2) (zg within.lo n) with
          | x0 yT yJ yQ =>
           try dsimp only
           have hv_h54:=ivt_ranges_Turns_16 n within yK (zg within.hi n) ((zg within.hi n - zg within.lo n).toNat+2) (zg within.lo n) (ranges_Turns_16_ne _ _ _ _ _ (by omega)) (by omega) (by omega)
           rw [h54] at hv_h54
           obtain ⟨hv_h54_0,hv_h54_1,hv_h54_2⟩:=hv_h54
           try dsimp only [iv_ranges_Turns_16] at hv_h54_0
           try dsimp only [iv_ranges_Turns_16] at hv_h54_1
           try dsimp only [iv_ranges_Turns_16] at hv_h54_2
           have p6:=(zY (q:=lr_ranges_Turns_16 n within yK (zg within.hi n)) (lp_ranges_Turns_16 n within yK (zg within.hi n) ((zg within.hi n - zg within.lo n).toNat+2) (zg within.lo n) (ranges_Turns_16_ne _ _ _ _ _ (by omega)) (by omega) (by omega)) h54)
           cases h67:zV (zo zm yJ) 0 with
           | x0 yN =>
            try dsimp only
            have hv_h67:=ivt_ranges_gathered_4p3 yJ (zo zm yJ) (zo zm yJ) 0 (List.drop_zero) (Nat.zero_le _) (by simp only [zK,GS.some_l,List.length_set,List.length_append,List.length_cons,List.length_nil] at * <;> first | with_reducible assumption | omega) (by simp only [zK,GS.some_l,List.length_set,List.length_append,List.length_cons,List.length_nil] at * <;> first | with_reducible assumption | omega)
            rw [h67] at hv_h67
            obtain ⟨hv_h67_0,hv_h67_1⟩:=hv_h67
            try dsimp only [zX] at hv_h67_0
            try dsimp only [zX] at hv_h67_1
            cases h68:decide (((yN.length:Nat):Int) > 64) with
            | true =>
             have g68:=of_decide_eq_true h68
             exact zu ((zN r n within)++((ranges_Turns_o2 n within yK)++((ranges_Turns_o3 n within yK)++[.dec false,.gloop (sd40157 0 1 2 n yK within) (.exit 0) (sd40158 0 1 2 3 within n yQ yT yJ),.inlS [2] (.tup [.sl true [] 0 none,I 2]) [(2,⟨(zo zm yJ).map Sn.D,2,false⟩),(3,⟨yN.map Sn.D,2,false⟩)] 4]))) (Ai (Ai (show ze [(0,⟨[.agg [I within.lo,I within.hi]],2,false⟩),(1,⟨yT.map Sn.D,2,false⟩),(2,⟨yJ.map Sn.D,2,false⟩)] 256 [2] []=some [2] from (by (simp only [ze,go_sem,List.length_set,Nat.reduceAdd,Nat.reduceEqDiff,Nat.reduceLT,Nat.reduceLeDiff,bI2,zb.idsL,zb.renL,zb.snapAll,z6.idsL,z6.renL,z6.snapAll]) <;> rfl)) (show (lim cfg).inl 69 [.lsl 2 0 yJ.length 2 none] [(2,⟨yJ.map Sn.D,2,false⟩)] 3=some (.tup [.sl true [] 0 none,I 2],[(2,⟨(zo zm yJ).map Sn.D,2,false⟩),(3,⟨yN.map Sn.D,2,false⟩)],4) from zH [.inlS [2] (.tup []) [(2,⟨(zo zm yJ).map Sn.D,2,false⟩)] 3,.gloop (zG 2 3 yJ) (.exit 0) (sd40116 3 2 4 yN yJ),.dec true] (Ai h68 (Ai (zY (q:=zS yJ (zo zm yJ)) (lp_ranges_gathered_4p3 yJ (zo zm yJ) (zo zm yJ) 0 (List.drop_zero) (Nat.zero_le _) (by simp only [zK,GS.some_l,List.length_set,List.length_append,List.length_cons,List.length_nil] at * <;> first | with_reducible assumption | omega) (by simp only [zK,GS.some_l,List.length_set,List.length_append,List.length_cons,List.length_nil] at * <;> first | with_reducible assumption | omega)) h67) (Ai (gc_of (C:=cfg) (f:=69) (a:=lp69_4) (ks:=[4,10,11,12]) (st:=(y9 2 3 yJ)) (st1:=(zG 2 3 yJ)) (by kernel_rfl) (by (simp only [y9,zG,go_sem,List.length_set,Nat.reduceAdd,Nat.reduceEqDiff,Nat.reduceLT,Nat.reduceLeDiff,bI2,zb.idsL,zb.renL,zb.snapAll,z6.idsL,z6.renL,z6.snapAll]) <;> rfl)) (Ai (Ai (show ze [(2,⟨yJ.map Sn.D,2,false⟩)] 256 [2] []=some [2] from (by (simp only [ze,go_sem,List.length_set,Nat.reduceAdd,Nat.reduceEqDiff,Nat.reduceLT,Nat.reduceLeDiff,bI2,zb.idsL,zb.renL,zb.snapAll,z6.idsL,z6.renL,z6.snapAll]) <;> rfl)) (yq 2 3 none yJ (by omega))) trivial)))) (by kernel_rfl))) (Ai p6 (Ai p5 (Ai h33 (Ai p4 (Ai p3 (Ai h32 (Ai p2 (Ai h31 (Ai p1 (Ai h5 (Ai (zk within.hi) (Ai h4 (Ai (zk within.lo) (Ai h3 (Ai h2 (Ai (zC n 1 10000) (Ai h1 (Ai (zi r (by omega)) trivial))))))))))))))))))) (by kernel_rfl)
            | false =>
             have g68:=of_decide_eq_false h68
             exact po_pureS ((zN r n within)++((ranges_Turns_o2 n within yK)++((ranges_Turns_o3 n within yK)++[.dec false,.gloop (sd40157 0 1 2 n yK within) (.exit 0) (sd40158 0 1 2 3 within n yQ yT yJ),.inlS [2] (.tup [.lsl 3 0 yN.length 2 none,I 0]) [(2,⟨(zo zm yJ).map Sn.D,2,false⟩),(3,⟨yN.map Sn.D,2,false⟩)] 4]))) [(3,.sl false (yN.map Sn.D) 2 none,[3])] (Ai (snap_row (gO:=zB [(0,⟨[.agg [I within.lo,I within.hi]],2,false⟩),(1,⟨yT.map Sn.D,2,false⟩),(2,⟨(zo zm yJ).map Sn.D,2,false⟩),(3,⟨yN.map Sn.D,2,false⟩)]) (o:=3) (len:=yN.length) (cap:=none) (fz:=false) z6 yN (by kernel_rfl) (by omega)) (Ai (Ai (show ze [(0,⟨[.agg [I within.lo,I within.hi]],2,false⟩),(1,⟨yT.map Sn.D,2,false⟩),(2,⟨yJ.map Sn.D,2,false⟩)] 256 [2] []=some [2] from (by (simp only [ze,go_sem,List.length_set,Nat.reduceAdd,Nat.reduceEqDiff,Nat.reduceLT,Nat.reduceLeDiff,bI2,zb.idsL,zb.renL,zb.snapAll,z6.idsL,z6.renL,z6.snapAll]) <;> rfl)) (show (lim cfg).inl 69 [.lsl 2 0 yJ.length 2 none] [(2,⟨yJ.map Sn.D,2,false⟩)] 3=some (.tup [.lsl 3 0 yN.length 2 none,I 0],[(2,⟨(zo zm yJ).map Sn.D,2,false⟩),(3,⟨yN.map Sn.D,2,false⟩)],4) from zH [.inlS [2] (.tup []) [(2,⟨(zo zm yJ).map Sn.D,2,false⟩)] 3,.gloop (zG 2 3 yJ) (.exit 0) (sd40116 3 2 4 yN yJ),.dec false] (Ai h68 (Ai (zY (q:=zS yJ (zo zm yJ)) (lp_ranges_gathered_4p3 yJ (zo zm yJ) (zo zm yJ) 0 (List.drop_zero) (Nat.zero_le _) (by simp only [zK,GS.some_l,List.length_set,List.length_append,List.length_cons,List.length_nil] at * <;> first | with_reducible assumption | omega) (by simp only [zK,GS.some_l,List.length_set,List.length_append,List.length_cons,List.length_nil] at * <;> first | with_reducible assumption | omega)) h67) (Ai (gc_of (C:=cfg) (f:=69) (a:=lp69_4) (ks:=[4,10,11,12]) (st:=(y9 2 3 yJ)) (st1:=(zG 2 3 yJ)) (by kernel_rfl) (by (simp only [y9,zG,go_sem,List.length_set,Nat.reduceAdd,Nat.reduceEqDiff,Nat.reduceLT,Nat.reduceLeDiff,bI2,zb.idsL,zb.renL,zb.snapAll,z6.idsL,z6.renL,z6.snapAll]) <;> rfl)) (Ai (Ai (show ze [(2,⟨yJ.map Sn.D,2,false⟩)] 256 [2] []=some [2] from (by (simp only [ze,go_sem,List.length_set,Nat.reduceAdd,Nat.reduceEqDiff,Nat.reduceLT,Nat.reduceLeDiff,bI2,zb.idsL,zb.renL,zb.snapAll,z6.idsL,z6.renL,z6.snapAll]) <;> rfl)) (yq 2 3 none yJ (by omega))) trivial)))) (by kernel_rfl))) (Ai p6 (Ai p5 (Ai h33 (Ai p4 (Ai p3 (Ai h32 (Ai p2 (Ai h31 (Ai p1 (Ai h5 (Ai (zk within.hi) (Ai h4 (Ai (zk within.lo) (Ai h3 (Ai h2 (Ai (zC n 1 10000) (Ai h1 (Ai (zi r (by omega)) trivial)))))))))))))))))))) (by kernel_rfl)
           | x1 xp xh yN =>
            try dsimp only
            have hv_h67:=ivt_ranges_gathered_4p3 yJ (zo zm yJ) (zo zm yJ) 0 (List.drop_zero) (Nat.zero_le _) (by simp only [zK,GS.some_l,List.length_set,List.length_append,List.length_cons,List.length_nil] at * <;> first | with_reducible assumption | omega) (by simp only [zK,GS.some_l,List.length_set,List.length_append,List.length_cons,List.length_nil] at * <;> first | with_reducible assumption | omega)
            rw [h67] at hv_h67
            obtain ⟨hv_h67_0,hv_h67_1⟩:=hv_h67
            try dsimp only [zX] at hv_h67_0
            try dsimp only [zX] at hv_h67_1
            exact zu ((zN r n within)++((ranges_Turns_o2 n within yK)++((ranges_Turns_o3 n within yK)++[.dec false,.gloop (sd40157 0 1 2 n yK within) (.exit 0) (sd40158 0 1 2 3 within n yQ yT yJ),.inlS [2] (.tup [.sl true [] 0 none,I 2]) [(2,⟨(zo zm yJ).map Sn.D,2,false⟩),(3,⟨yN.map Sn.D,2,false⟩),(4,⟨[.agg [I xh.lo,I xh.hi]],2,false⟩)] 5]))) (Ai (Ai (show ze [(0,⟨[.agg [I within.lo,I within.hi]],2,false⟩),(1,⟨yT.map Sn.D,2,false⟩),(2,⟨yJ.map Sn.D,2,false⟩)] 256 [2] []=some [2] from (by (simp only [ze,go_sem,List.length_set,Nat.reduceAdd,Nat.reduceEqDiff,Nat.reduceLT,Nat.reduceLeDiff,bI2,zb.idsL,zb.renL,zb.snapAll,z6.idsL,z6.renL,z6.snapAll]) <;> rfl)) (show (lim cfg).inl 69 [.lsl 2 0 yJ.length 2 none] [(2,⟨yJ.map Sn.D,2,false⟩)] 3=some (.tup [.sl true [] 0 none,I 2],[(2,⟨(zo zm yJ).map Sn.D,2,false⟩),(3,⟨yN.map Sn.D,2,false⟩),(4,⟨[.agg [I xh.lo,I xh.hi]],2,false⟩)],5) from zH [.inlS [2] (.tup []) [(2,⟨(zo zm yJ).map Sn.D,2,false⟩)] 3,.gloop (zG 2 3 yJ) .ret (sd40117 4 2 3 5 xh xp yN yJ)] (Ai (zY (q:=zS yJ (zo zm yJ)) (lp_ranges_gathered_4p3 yJ (zo zm yJ) (zo zm yJ) 0 (List.drop_zero) (Nat.zero_le _) (by simp only [zK,GS.some_l,List.length_set,List.length_append,List.length_cons,List.length_nil] at * <;> first | with_reducible assumption | omega) (by simp only [zK,GS.some_l,List.length_set,List.length_append,List.length_cons,List.length_nil] at * <;> first | with_reducible assumption | omega)) h67) (Ai (gc_of (C:=cfg) (f:=69) (a:=lp69_4) (ks:=[4,10,11,12]) (st:=(y9 2 3 yJ)) (st1:=(zG 2 3 yJ)) (by kernel_rfl) (by (simp only [y9,zG,go_sem,List.length_set,Nat.reduceAdd,Nat.reduceEqDiff,Nat.reduceLT,Nat.reduceLeDiff,bI2,zb.idsL,zb.renL,zb.snapAll,z6.idsL,z6.renL,z6.snapAll]) <;> rfl)) (Ai (Ai (show ze [(2,⟨yJ.map Sn.D,2,false⟩)] 256 [2] []=some [2] from (by (simp only [ze,go_sem,List.length_set,Nat.reduceAdd,Nat.reduceEqDiff,Nat.reduceLT,Nat.reduceLeDiff,bI2,zb.idsL,zb.renL,zb.snapAll,z6.idsL,z6.renL,z6.snapAll]) <;> rfl)) (yq 2 3 none yJ (by omega))) trivial))) (by kernel_rfl))) (Ai p6 (Ai p5 (Ai h33 (Ai p4 (Ai p3 (Ai h32 (Ai p2 (Ai h31 (Ai p1 (Ai h5 (Ai (zk within.hi) (Ai h4 (Ai (zk within.lo) (Ai h3 (Ai h2 (Ai (zC n 1 10000) (Ai h1 (Ai (zi r (by omega)) trivial))))))))))))))))))) (by kernel_rfl)
           | x2 xp xh yN =>
            try dsimp only
            have hv_h67:=ivt_ranges_gathered_4p3 yJ (zo zm yJ) (zo zm yJ) 0 (List.drop_zero) (Nat.zero_le _) (by simp only [zK,GS.some_l,List.length_set,List.length_append,List.length_cons,List.length_nil] at * <;> first | with_reducible assumption | omega) (by simp only [zK,GS.some_l,List.length_set,List.length_append,List.length_cons,List.length_nil] at * <;> first | with_reducible assumption | omega)
            rw [h67] at hv_h67
            obtain ⟨hv_h67_0,hv_h67_1⟩:=hv_h67
            try dsimp only [zX] at hv_h67_0
            try dsimp only [zX] at hv_h67_1
            exact zu ((zN r n within)++((ranges_Turns_o2 n within yK)++((ranges_Turns_o3 n within yK)++[.dec false,.gloop (sd40157 0 1 2 n yK within) (.exit 0) (sd40158 0 1 2 3 within n yQ yT yJ),.inlS [2] (.tup [.sl true [] 0 none,I 2]) [(2,⟨(zo zm yJ).map Sn.D,2,false⟩),(3,⟨yN.map Sn.D,2,false⟩),(4,⟨[.agg [I xh.lo,I xh.hi]],2,false⟩)] 5]))) (Ai (Ai (show ze [(0,⟨[.agg [I within.lo,I within.hi]],2,false⟩),(1,⟨yT.map Sn.D,2,false⟩),(2,⟨yJ.map Sn.D,2,false⟩)] 256 [2] []=some [2] from (by (simp only [ze,go_sem,List.length_set,Nat.reduceAdd,Nat.reduceEqDiff,Nat.reduceLT,Nat.reduceLeDiff,bI2,zb.idsL,zb.renL,zb.snapAll,z6.idsL,z6.renL,z6.snapAll]) <;> rfl)) (show (lim cfg).inl 69 [.lsl 2 0 yJ.length 2 none] [(2,⟨yJ.map Sn.D,2,false⟩)] 3=some (.tup [.sl true [] 0 none,I 2],[(2,⟨(zo zm yJ).map Sn.D,2,false⟩),(3,⟨yN.map Sn.D,2,false⟩),(4,⟨[.agg [I xh.lo,I xh.hi]],2,false⟩)],5) from zH [.inlS [2] (.tup []) [(2,⟨(zo zm yJ).map Sn.D,2,false⟩)] 3,.gloop (zG 2 3 yJ) .ret (sd40118 4 2 3 5 xh xp yN yJ)] (Ai (zY (q:=zS yJ (zo zm yJ)) (lp_ranges_gathered_4p3 yJ (zo zm yJ) (zo zm yJ) 0 (List.drop_zero) (Nat.zero_le _) (by simp only [zK,GS.some_l,List.length_set,List.length_append,List.length_cons,List.length_nil] at * <;> first | with_reducible assumption | omega) (by simp only [zK,GS.some_l,List.length_set,List.length_append,List.length_cons,List.length_nil] at * <;> first | with_reducible assumption | omega)) h67) (Ai (gc_of (C:=cfg) (f:=69) (a:=lp69_4) (ks:=[4,10,11,12]) (st:=(y9 2 3 yJ)) (st1:=(zG 2 3 yJ)) (by kernel_rfl) (by (simp only [y9,zG,go_sem,List.length_set,Nat.reduceAdd,Nat.reduceEqDiff,Nat.reduceLT,Nat.reduceLeDiff,bI2,zb.idsL,zb.renL,zb.snapAll,z6.idsL,z6.renL,z6.snapAll]) <;> rfl)) (Ai (Ai (show ze [(2,⟨yJ.map Sn.D,2,false⟩)] 256 [2] []=some [2] from (by (simp only [ze,go_sem,List.length_set,Nat.reduceAdd,Nat.reduceEqDiff,Nat.reduceLT,Nat.reduceLeDiff,bI2,zb.idsL,zb.renL,zb.snapAll,z6.idsL,z6.renL,z6.snapAll]) <;> rfl)) (yq 2 3 none yJ (by omega))) trivial))) (by kernel_rfl))) (Ai p6 (Ai p5 (Ai h33 (Ai p4 (Ai p3 (Ai h32 (Ai p2 (Ai h31 (Ai p1 (Ai h5 (Ai (zk within.hi) (Ai h4 (Ai (zk within.lo) (Ai h3 (Ai h2 (Ai (zC n 1 10000) (Ai h1 (Ai (zi r (by omega)) trivial))))))))))))))))))) (by kernel_rfl)
           | x3 =>
            try dsimp only
            exact zu ((zN r n within)++((ranges_Turns_o2 n within yK)++((ranges_Turns_o3 n within yK)++[.dec false,.gloop (sd40157 0 1 2 n yK within) (.exit 0) (sd40158 0 1 2 3 within n yQ yT yJ),.inlS [2] (.tup [.sl true [] 0 none,I 0]) [(2,⟨(zo zm yJ).map Sn.D,2,false⟩)] 3]))) (Ai (Ai (show ze [(0,⟨[.agg [I within.lo,I within.hi]],2,false⟩),(1,⟨yT.map Sn.D,2,false⟩),(2,⟨yJ.map Sn.D,2,false⟩)] 256 [2] []=some [2] from (by (simp only [ze,go_sem,List.length_set,Nat.reduceAdd,Nat.reduceEqDiff,Nat.reduceLT,Nat.reduceLeDiff,bI2,zb.idsL,zb.renL,zb.snapAll,z6.idsL,z6.renL,z6.snapAll]) <;> rfl)) (show (lim cfg).inl 69 [.lsl 2 0 yJ.length 2 none] [(2,⟨yJ.map Sn.D,2,false⟩)] 3=some (.tup [.sl true [] 0 none,I 0],[(2,⟨(zo zm yJ).map Sn.D,2,false⟩)],3) from zH [.inlS [2] (.tup []) [(2,⟨(zo zm yJ).map Sn.D,2,false⟩)] 3,.gloop (zG 2 3 yJ) (.exit 0) (sd40119 2 3 yJ),.dec false] (Ai (Eq.refl false) (Ai (zY (q:=zS yJ (zo zm yJ)) (lp_ranges_gathered_4p3 yJ (zo zm yJ) (zo zm yJ) 0 (List.drop_zero) (Nat.zero_le _) (by simp only [zK,GS.some_l,List.length_set,List.length_append,List.length_cons,List.length_nil] at * <;> first | with_reducible assumption | omega) (by simp only [zK,GS.some_l,List.length_set,List.length_append,List.length_cons,List.length_nil] at * <;> first | with_reducible assumption | omega)) h67) (Ai (gc_of (C:=cfg) (f:=69) (a:=lp69_4) (ks:=[4,10,11,12]) (st:=(y9 2 3 yJ)) (st1:=(zG 2 3 yJ)) (by kernel_rfl) (by (simp only [y9,zG,go_sem,List.length_set,Nat.reduceAdd,Nat.reduceEqDiff,Nat.reduceLT,Nat.reduceLeDiff,bI2,zb.idsL,zb.renL,zb.snapAll,z6.idsL,z6.renL,z6.snapAll]) <;> rfl)) (Ai (Ai (show ze [(2,⟨yJ.map Sn.D,2,false⟩)] 256 [2] []=some [2] from (by (simp only [ze,go_sem,List.length_set,Nat.reduceAdd,Nat.reduceEqDiff,Nat.reduceLT,Nat.reduceLeDiff,bI2,zb.idsL,zb.renL,zb.snapAll,z6.idsL,z6.renL,z6.snapAll]) <;> rfl)) (yq 2 3 none yJ (by omega))) trivial)))) (by kernel_rfl))) (Ai p6 (Ai p5 (Ai h33 (Ai p4 (Ai p3 (Ai h32 (Ai p2 (Ai h31 (Ai p1 (Ai h5 (Ai (zk within.hi) (Ai h4 (Ai (zk within.lo) (Ai h3 (Ai h2 (Ai (zC n 1 10000) (Ai h1 (Ai (zi r (by omega)) trivial))))))))))))))))))) (by kernel_rfl)
           | x4 xp xh =>
            try dsimp only
            exact zu ((zN r n within)++((ranges_Turns_o2 n within yK)++((ranges_Turns_o3 n within yK)++[.dec false,.gloop (sd40157 0 1 2 n yK within) (.exit 0) (sd40158 0 1 2 3 within n yQ yT yJ),.inlS [2] (.tup [.sl true [] 0 none,I 2]) [(2,⟨(zo zm yJ).map Sn.D,2,false⟩),(3,⟨[.agg [I xh.lo,I xh.hi]],2,false⟩)] 4]))) (Ai (Ai (show ze [(0,⟨[.agg [I within.lo,I within.hi]],2,false⟩),(1,⟨yT.map Sn.D,2,false⟩),(2,⟨yJ.map Sn.D,2,false⟩)] 256 [2] []=some [2] from (by (simp only [ze,go_sem,List.length_set,Nat.reduceAdd,Nat.reduceEqDiff,Nat.reduceLT,Nat.reduceLeDiff,bI2,zb.idsL,zb.renL,zb.snapAll,z6.idsL,z6.renL,z6.snapAll]) <;> rfl)) (show (lim cfg).inl 69 [.lsl 2 0 yJ.length 2 none] [(2,⟨yJ.map Sn.D,2,false⟩)] 3=some (.tup [.sl true [] 0 none,I 2],[(2,⟨(zo zm yJ).map Sn.D,2,false⟩),(3,⟨[.agg [I xh.lo,I xh.hi]],2,false⟩)],4) from zH [.inlS [2] (.tup []) [(2,⟨(zo zm yJ).map Sn.D,2,false⟩)] 3,.gloop (zG 2 3 yJ) .ret (sd40120 3 2 4 xh xp yJ)] (Ai (zY (q:=zS yJ (zo zm yJ)) (lp_ranges_gathered_4p3 yJ (zo zm yJ) (zo zm yJ) 0 (List.drop_zero) (Nat.zero_le _) (by simp only [zK,GS.some_l,List.length_set,List.length_append,List.length_cons,List.length_nil] at * <;> first | with_reducible assumption | omega) (by simp only [zK,GS.some_l,List.length_set,List.length_append,List.length_cons,List.length_nil] at * <;> first | with_reducible assumption | omega)) h67) (Ai (gc_of (C:=cfg) (f:=69) (a:=lp69_4) (ks:=[4,10,11,12]) (st:=(y9 2 3 yJ)) (st1:=(zG 2 3 yJ)) (by kernel_rfl) (by (simp only [y9,zG,go_sem,List.length_set,Nat.reduceAdd,Nat.reduceEqDiff,Nat.reduceLT,Nat.reduceLeDiff,bI2,zb.idsL,zb.renL,zb.snapAll,z6.idsL,z6.renL,z6.snapAll]) <;> rfl)) (Ai (Ai (show ze [(2,⟨yJ.map Sn.D,2,false⟩)] 256 [2] []=some [2] from (by (simp only [ze,go_sem,List.length_set,Nat.reduceAdd,Nat.reduceEqDiff,Nat.reduceLT,Nat.reduceLeDiff,bI2,zb.idsL,zb.renL,zb.snapAll,z6.idsL,z6.renL,z6.snapAll]) <;> rfl)) (yq 2 3 none yJ (by omega))) trivial))) (by kernel_rfl))) (Ai p6 (Ai p5 (Ai h33 (Ai p4 (Ai p3 (Ai h32 (Ai p2 (Ai h31 (Ai p1 (Ai h5 (Ai (zk within.hi) (Ai h4 (Ai (zk within.lo) (Ai h3 (Ai h2 (Ai (zC n 1 10000) (Ai h1 (Ai (zi r (by omega)) trivial))))))))))))))))))) (by kernel_rfl)
           | x5 xp xh =>
            try dsimp only
            exact zu ((zN r n within)++((ranges_Turns_o2 n within yK)++((ranges_Turns_o3 n within yK)++[.dec false,.gloop (sd40157 0 1 2 n yK within) (.exit 0) (sd40158 0 1 2 3 within n yQ yT yJ),.inlS [2] (.tup [.sl true [] 0 none,I 2]) [(2,⟨(zo zm yJ).map Sn.D,2,false⟩),(3,⟨[.agg [I xh.lo,I xh.hi]],2,false⟩)] 4]))) (Ai (Ai (show ze [(0,⟨[.agg [I within.lo,I within.hi]],2,false⟩),(1,⟨yT.map Sn.D,2,false⟩),(2,⟨yJ.map Sn.D,2,false⟩)] 256 [2] []=some [2] from (by (simp only [ze,go_sem,List.length_set,Nat.reduceAdd,Nat.reduceEqDiff,Nat.reduceLT,Nat.reduceLeDiff,bI2,zb.idsL,zb.renL,zb.snapAll,z6.idsL,z6.renL,z6.snapAll]) <;> rfl)) (show (lim cfg).inl 69 [.lsl 2 0 yJ.length 2 none] [(2,⟨yJ.map Sn.D,2,false⟩)] 3=some (.tup [.sl true [] 0 none,I 2],[(2,⟨(zo zm yJ).map Sn.D,2,false⟩),(3,⟨[.agg [I xh.lo,I xh.hi]],2,false⟩)],4) from zH [.inlS [2] (.tup []) [(2,⟨(zo zm yJ).map Sn.D,2,false⟩)] 3,.gloop (zG 2 3 yJ) .ret (sd40121 3 2 4 xh xp yJ)] (Ai (zY (q:=zS yJ (zo zm yJ)) (lp_ranges_gathered_4p3 yJ (zo zm yJ) (zo zm yJ) 0 (List.drop_zero) (Nat.zero_le _) (by simp only [zK,GS.some_l,List.length_set,List.length_append,List.length_cons,List.length_nil] at * <;> first | with_reducible assumption | omega) (by simp only [zK,GS.some_l,List.length_set,List.length_append,List.length_cons,List.length_nil] at * <;> first | with_reducible assumption | omega)) h67) (Ai (gc_of (C:=cfg) (f:=69) (a:=lp69_4) (ks:=[4,10,11,12]) (st:=(y9 2 3 yJ)) (st1:=(zG 2 3 yJ)) (by kernel_rfl) (by (simp only [y9,zG,go_sem,List.length_set,Nat.reduceAdd,Nat.reduceEqDiff,Nat.reduceLT,Nat.reduceLeDiff,bI2,zb.idsL,zb.renL,zb.snapAll,z6.idsL,z6.renL,z6.snapAll]) <;> rfl)) (Ai (Ai (show ze [(2,⟨yJ.map Sn.D,2,false⟩)] 256 [2] []=some [2] from (by (simp only [ze,go_sem,List.length_set,Nat.reduceAdd,Nat.reduceEqDiff,Nat.reduceLT,Nat.reduceLeDiff,bI2,zb.idsL,zb.renL,zb.snapAll,z6.idsL,z6.renL,z6.snapAll]) <;> rfl)) (yq 2 3 none yJ (by omega))) trivial))) (by kernel_rfl))) (Ai p6 (Ai p5 (Ai h33 (Ai p4 (Ai p3 (Ai h32 (Ai p2 (Ai h31 (Ai p1 (Ai h5 (Ai (zk within.hi) (Ai h4 (Ai (zk within.lo) (Ai h3 (Ai h2 (Ai (zC n 1 10000) (Ai h1 (Ai (zi r (by omega)) trivial))))))))))))))))))) (by kernel_rfl)
          | x1 yS =>
           try dsimp only
           have hv_h54:=ivt_ranges_Turns_16 n within yK (zg within.hi n) ((zg within.hi n - zg within.lo n).toNat+2) (zg within.lo n) (ranges_Turns_16_ne _ _ _ _ _ (by omega)) (by omega) (by omega)
           rw [h54] at hv_h54
           have hv_h54_0:=hv_h54
           try dsimp only [iv_ranges_Turns_16] at hv_h54_0
           exact zu ((zN r n within)++((ranges_Turns_o2 n within yK)++((ranges_Turns_o3 n within yK)++[.dec false,.gloop (sd40157 0 1 2 n yK within) (.exit 0) (sd40169 0 1 2 within n yS yK),.inl (.tup [.sl true [] 0 none,I 0]) [] 2]))) (Ai (show (lim cfg).inl 69 [.sl true [] 0 none] [] 2=some (.tup [.sl true [] 0 none,I 0],[],2) from zH [.inl (.tup []) [] 2,.loop (.exit 0) ⟨65,[(13,B false),(4,.sl true [] 0 none),(10,.sl true [] 0 none),(11,I 0),(12,I 0)],[],2,2⟩,.dec false] (Ai (Eq.refl false) (Ai (show (lim cfg).loop 69 lp69_4 ⟨65,[(4,.sl true [] 0 none),(10,.sl true [] 0 none),(11,I 0),(12,I 0)],[],2,2⟩=some ((.exit 0),⟨65,[(13,B false),(4,.sl true [] 0 none),(10,.sl true [] 0 none),(11,I 0),(12,I 0)],[],2,2⟩) from (yc [.dec false] (Ai (Eq.refl false) trivial) (by kernel_rfl))) (Ai (T_sort_nil 2) trivial))) (by kernel_rfl)) (Ai (zY (q:=lr_ranges_Turns_16 n within yK (zg within.hi n)) (lp_ranges_Turns_16 n within yK (zg within.hi n) ((zg within.hi n - zg within.lo n).toNat+2) (zg within.lo n) (ranges_Turns_16_ne _ _ _ _ _ (by omega)) (by omega) (by omega)) h54) (Ai p5 (Ai h33 (Ai p4 (Ai p3 (Ai h32 (Ai p2 (Ai h31 (Ai p1 (Ai h5 (Ai (zk within.hi) (Ai h4 (Ai (zk within.lo) (Ai h3 (Ai h2 (Ai (zC n 1 10000) (Ai h1 (Ai (zi r (by omega)) trivial))))))))))))))))))) (by kernel_rfl)
          | out =>
           exact absurd h54 ((ranges_Turns_16_ne _ _ _ _ _ (by omega)))
      | x1 yO =>
       try dsimp only
       have xT:=ivt_ranges_each_3p5 r n r.l 0 (List.drop_zero) (Nat.zero_le _) (by omega) (by omega) (by omega) (by omega)
       rw [h30] at xT
       obtain ⟨xO,xP⟩:=xT
       try dsimp only [iv_ranges_each_3p5] at xO
       try dsimp only [iv_ranges_each_3p5] at xP
       have p7:=(show (lim cfg).inl 82 [.sl r.nl (r.l.map Sn.D) (zsl r.nl 2) none,I n] [] 1=some (.lsl 2 0 yO.length 2 none,[(1,⟨[I n],1,false⟩),(2,⟨yO.map Sn.D,2,false⟩)],3) from zH [.inl (.lsl 2 0 yO.length 2 none) [(1,⟨[I n],1,false⟩),(2,⟨yO.map Sn.D,2,false⟩)] 3] (Ai (show (lim cfg).inl 70 [.sl r.nl (r.l.map Sn.D) (zsl r.nl 2) none,.fn (.func 106) [] [.lref 1 0 1 0]] [(1,⟨[I n],1,false⟩)] 2=some (.lsl 2 0 yO.length 2 none,[(1,⟨[I n],1,false⟩),(2,⟨yO.map Sn.D,2,false⟩)],3) from zH [.rw 9 (I ((r.l.length:Nat):Int)),.loop (.exit 0) (sd40133 1 2 3 yO r n)] (Ai (zY (q:=lr_ranges_each_3p5 r n) (lp_ranges_each_3p5 r n r.l 0 (List.drop_zero) (Nat.zero_le _) (by omega) (by omega) (by omega) (by omega)) h30) (Ai (zO Sn.D r) trivial)) (by kernel_rfl)) trivial) (by kernel_rfl))
       cases h69:(((yO.length:Nat):Int) == 0) with
       | true =>
        have g69:=eq_of_beq h69
        exact zu ((zN r n within)++((ranges_Turns_o4 n within yO)++[.dec true])) (Ai h69 (Ai p7 (Ai h5 (Ai (zk within.hi) (Ai h4 (Ai (zk within.lo) (Ai h3 (Ai h2 (Ai (zC n 1 10000) (Ai h1 (Ai (zi r (by omega)) trivial))))))))))) (by kernel_rfl)
       | false =>
        have g69:=ne_of_beq_false h69
        have p8:=(Ai (show flat fuelD (B (ranges_full (GS.some yO) n))=true from (by kernel_rfl)) (Ai (Ai (snap_row (gO:=zB [(0,⟨[.agg [I within.lo,I within.hi]],2,false⟩),(1,⟨[I n],1,false⟩),(2,⟨yO.map Sn.D,2,false⟩)]) (o:=2) (len:=yO.length) (cap:=none) (fz:=false) z6 yO (by kernel_rfl) (by omega)) trivial) (T_ranges_full (GS.some yO) n (by simp only [zK,GS.some_l,List.length_set,List.length_append,List.length_cons,List.length_nil] at * <;> first | with_reducible assumption | omega) (by omega) (by assumption))))
        cases h70:(ranges_full (GS.some yO) n) with
        | true =>
         exact zu ((zN r n within)++((ranges_Turns_o4 n within yO)++[.dec false,.pureS (B (ranges_full (GS.some yO) n)) true [(2,.sl false (yO.map Sn.D) 2 none,[2])],.dec true])) (Ai h70 (Ai p8 (Ai h69 (Ai p7 (Ai h5 (Ai (zk within.hi) (Ai h4 (Ai (zk within.lo) (Ai h3 (Ai h2 (Ai (zC n 1 10000) (Ai h1 (Ai (zi r (by omega)) trivial))))))))))))) (by kernel_rfl)
        | false =>
         have p9:=(T_ranges_down within.lo n (by omega))
         have p10:=(T_ranges_down within.hi n (by omega))
         cases h71:decide ((w64 ((zg within.hi n) - (zg within.lo n))) > 66) with
         | true =>
          have g71:=of_decide_eq_true h71
          exact zu ((zN r n within)++((ranges_Turns_o4 n within yO)++((ranges_Turns_o5 n within yO)++[.dec true]))) (Ai h71 (Ai p10 (Ai p9 (Ai h70 (Ai p8 (Ai h69 (Ai p7 (Ai h5 (Ai (zk within.hi) (Ai h4 (Ai (zk within.lo) (Ai h3 (Ai h2 (Ai (zC n 1 10000) (Ai h1 (Ai (zi r (by omega)) trivial)))))))))))))))) (by kernel_rfl)
         | false =>
          have hd66:=turns_k hn (by assumption) (by assumption) (by assumption) h71
          have p11:=(gc_of (C:=cfg) (f:=22) (a:=lp22_16) (ks:=[1,5,9,11,12,13]) (st:=(sd40170 0 2 1 3 within n yO r)) (st1:=(sd40157 0 1 2 n yO within)) (by kernel_rfl) (by (simp only [sd40157,sd40170,go_sem,List.length_set,Nat.reduceAdd,Nat.reduceEqDiff,Nat.reduceLT,Nat.reduceLeDiff,bI2,zb.idsL,zb.renL,zb.snapAll,z6.idsL,z6.renL,z6.snapAll]) <;> rfl))
          cases h72:yd n within yO (zg within.hi n) ((zg within.hi n - zg within.lo n).toNat+2) (zg within.lo n) with
          | x0 yT yJ yQ =>
           try dsimp only
           have hv_h72:=ivt_ranges_Turns_16 n within yO (zg within.hi n) ((zg within.hi n - zg within.lo n).toNat+2) (zg within.lo n) (ranges_Turns_16_ne _ _ _ _ _ (by omega)) (by omega) (by omega)
           rw [h72] at hv_h72
           obtain ⟨hv_h72_0,hv_h72_1,hv_h72_2⟩:=hv_h72
           try dsimp only [iv_ranges_Turns_16] at hv_h72_0
           try dsimp only [iv_ranges_Turns_16] at hv_h72_1
           try dsimp only [iv_ranges_Turns_16] at hv_h72_2
           have p12:=(zY (q:=lr_ranges_Turns_16 n within yO (zg within.hi n)) (lp_ranges_Turns_16 n within yO (zg within.hi n) ((zg within.hi n - zg within.lo n).toNat+2) (zg within.lo n) (ranges_Turns_16_ne _ _ _ _ _ (by omega)) (by omega) (by omega)) h72)
           cases h73:zV (zo zm yJ) 0 with
           | x0 yN =>
            try dsimp only
            have hv_h73:=ivt_ranges_gathered_4p3 yJ (zo zm yJ) (zo zm yJ) 0 (List.drop_zero) (Nat.zero_le _) (by simp only [zK,GS.some_l,List.length_set,List.length_append,List.length_cons,List.length_nil] at * <;> first | with_reducible assumption | omega) (by simp only [zK,GS.some_l,List.length_set,List.length_append,List.length_cons,List.length_nil] at * <;> first | with_reducible assumption | omega)
            rw [h73] at hv_h73
            obtain ⟨hv_h73_0,hv_h73_1⟩:=hv_h73
            try dsimp only [zX] at hv_h73_0
            try dsimp only [zX] at hv_h73_1
            cases h74:decide (((yN.length:Nat):Int) > 64) with
            | true =>
             have g74:=of_decide_eq_true h74
             exact zu ((zN r n within)++((ranges_Turns_o4 n within yO)++((ranges_Turns_o5 n within yO)++[.dec false,.gloop (sd40157 0 1 2 n yO within) (.exit 0) (sd40158 0 1 2 3 within n yQ yT yJ),.inlS [2] (.tup [.sl true [] 0 none,I 2]) [(2,⟨(zo zm yJ).map Sn.D,2,false⟩),(3,⟨yN.map Sn.D,2,false⟩)] 4]))) (Ai (Ai (show ze [(0,⟨[.agg [I within.lo,I within.hi]],2,false⟩),(1,⟨yT.map Sn.D,2,false⟩),(2,⟨yJ.map Sn.D,2,false⟩)] 256 [2] []=some [2] from (by (simp only [ze,go_sem,List.length_set,Nat.reduceAdd,Nat.reduceEqDiff,Nat.reduceLT,Nat.reduceLeDiff,bI2,zb.idsL,zb.renL,zb.snapAll,z6.idsL,z6.renL,z6.snapAll]) <;> rfl)) (show (lim cfg).inl 69 [.lsl 2 0 yJ.length 2 none] [(2,⟨yJ.map Sn.D,2,false⟩)] 3=some (.tup [.sl true [] 0 none,I 2],[(2,⟨(zo zm yJ).map Sn.D,2,false⟩),(3,⟨yN.map Sn.D,2,false⟩)],4) from zH [.inlS [2] (.tup []) [(2,⟨(zo zm yJ).map Sn.D,2,false⟩)] 3,.gloop (zG 2 3 yJ) (.exit 0) (sd40116 3 2 4 yN yJ),.dec true] (Ai h74 (Ai (zY (q:=zS yJ (zo zm yJ)) (lp_ranges_gathered_4p3 yJ (zo zm yJ) (zo zm yJ) 0 (List.drop_zero) (Nat.zero_le _) (by simp only [zK,GS.some_l,List.length_set,List.length_append,List.length_cons,List.length_nil] at * <;> first | with_reducible assumption | omega) (by simp only [zK,GS.some_l,List.length_set,List.length_append,List.length_cons,List.length_nil] at * <;> first | with_reducible assumption | omega)) h73) (Ai (gc_of (C:=cfg) (f:=69) (a:=lp69_4) (ks:=[4,10,11,12]) (st:=(y9 2 3 yJ)) (st1:=(zG 2 3 yJ)) (by kernel_rfl) (by (simp only [y9,zG,go_sem,List.length_set,Nat.reduceAdd,Nat.reduceEqDiff,Nat.reduceLT,Nat.reduceLeDiff,bI2,zb.idsL,zb.renL,zb.snapAll,z6.idsL,z6.renL,z6.snapAll]) <;> rfl)) (Ai (Ai (show ze [(2,⟨yJ.map Sn.D,2,false⟩)] 256 [2] []=some [2] from (by (simp only [ze,go_sem,List.length_set,Nat.reduceAdd,Nat.reduceEqDiff,Nat.reduceLT,Nat.reduceLeDiff,bI2,zb.idsL,zb.renL,zb.snapAll,z6.idsL,z6.renL,z6.snapAll]) <;> rfl)) (yq 2 3 none yJ (by omega))) trivial)))) (by kernel_rfl))) (Ai p12 (Ai p11 (Ai h71 (Ai p10 (Ai p9 (Ai h70 (Ai p8 (Ai h69 (Ai p7 (Ai h5 (Ai (zk within.hi) (Ai h4 (Ai (zk within.lo) (Ai h3 (Ai h2 (Ai (zC n 1 10000) (Ai h1 (Ai (zi r (by omega)) trivial))))))))))))))))))) (by kernel_rfl)
            | false =>
             have g74:=of_decide_eq_false h74
             exact po_pureS ((zN r n within)++((ranges_Turns_o4 n within yO)++((ranges_Turns_o5 n within yO)++[.dec false,.gloop (sd40157 0 1 2 n yO within) (.exit 0) (sd40158 0 1 2 3 within n yQ yT yJ),.inlS [2] (.tup [.lsl 3 0 yN.length 2 none,I 0]) [(2,⟨(zo zm yJ).map Sn.D,2,false⟩),(3,⟨yN.map Sn.D,2,false⟩)] 4]))) [(3,.sl false (yN.map Sn.D) 2 none,[3])] (Ai (snap_row (gO:=zB [(0,⟨[.agg [I within.lo,I within.hi]],2,false⟩),(1,⟨yT.map Sn.D,2,false⟩),(2,⟨(zo zm yJ).map Sn.D,2,false⟩),(3,⟨yN.map Sn.D,2,false⟩)]) (o:=3) (len:=yN.length) (cap:=none) (fz:=false) z6 yN (by kernel_rfl) (by omega)) (Ai (Ai (show ze [(0,⟨[.agg [I within.lo,I within.hi]],2,false⟩),(1,⟨yT.map Sn.D,2,false⟩),(2,⟨yJ.map Sn.D,2,false⟩)] 256 [2] []=some [2] from (by (simp only [ze,go_sem,List.length_set,Nat.reduceAdd,Nat.reduceEqDiff,Nat.reduceLT,Nat.reduceLeDiff,bI2,zb.idsL,zb.renL,zb.snapAll,z6.idsL,z6.renL,z6.snapAll]) <;> rfl)) (show (lim cfg).inl 69 [.lsl 2 0 yJ.length 2 none] [(2,⟨yJ.map Sn.D,2,false⟩)] 3=some (.tup [.lsl 3 0 yN.length 2 none,I 0],[(2,⟨(zo zm yJ).map Sn.D,2,false⟩),(3,⟨yN.map Sn.D,2,false⟩)],4) from zH [.inlS [2] (.tup []) [(2,⟨(zo zm yJ).map Sn.D,2,false⟩)] 3,.gloop (zG 2 3 yJ) (.exit 0) (sd40116 3 2 4 yN yJ),.dec false] (Ai h74 (Ai (zY (q:=zS yJ (zo zm yJ)) (lp_ranges_gathered_4p3 yJ (zo zm yJ) (zo zm yJ) 0 (List.drop_zero) (Nat.zero_le _) (by simp only [zK,GS.some_l,List.length_set,List.length_append,List.length_cons,List.length_nil] at * <;> first | with_reducible assumption | omega) (by simp only [zK,GS.some_l,List.length_set,List.length_append,List.length_cons,List.length_nil] at * <;> first | with_reducible assumption | omega)) h73) (Ai (gc_of (C:=cfg) (f:=69) (a:=lp69_4) (ks:=[4,10,11,12]) (st:=(y9 2 3 yJ)) (st1:=(zG 2 3 yJ)) (by kernel_rfl) (by (simp only [y9,zG,go_sem,List.length_set,Nat.reduceAdd,Nat.reduceEqDiff,Nat.reduceLT,Nat.reduceLeDiff,bI2,zb.idsL,zb.renL,zb.snapAll,z6.idsL,z6.renL,z6.snapAll]) <;> rfl)) (Ai (Ai (show ze [(2,⟨yJ.map Sn.D,2,false⟩)] 256 [2] []=some [2] from (by (simp only [ze,go_sem,List.length_set,Nat.reduceAdd,Nat.reduceEqDiff,Nat.reduceLT,Nat.reduceLeDiff,bI2,zb.idsL,zb.renL,zb.snapAll,z6.idsL,z6.renL,z6.snapAll]) <;> rfl)) (yq 2 3 none yJ (by omega))) trivial)))) (by kernel_rfl))) (Ai p12 (Ai p11 (Ai h71 (Ai p10 (Ai p9 (Ai h70 (Ai p8 (Ai h69 (Ai p7 (Ai h5 (Ai (zk within.hi) (Ai h4 (Ai (zk within.lo) (Ai h3 (Ai h2 (Ai (zC n 1 10000) (Ai h1 (Ai (zi r (by omega)) trivial)))))))))))))))))))) (by kernel_rfl)
           | x1 xp xh yN =>
            try dsimp only
            have hv_h73:=ivt_ranges_gathered_4p3 yJ (zo zm yJ) (zo zm yJ) 0 (List.drop_zero) (Nat.zero_le _) (by simp only [zK,GS.some_l,List.length_set,List.length_append,List.length_cons,List.length_nil] at * <;> first | with_reducible assumption | omega) (by simp only [zK,GS.some_l,List.length_set,List.length_append,List.length_cons,List.length_nil] at * <;> first | with_reducible assumption | omega)
            rw [h73] at hv_h73
            obtain ⟨hv_h73_0,hv_h73_1⟩:=hv_h73
            try dsimp only [zX] at hv_h73_0
            try dsimp only [zX] at hv_h73_1
            exact zu ((zN r n within)++((ranges_Turns_o4 n within yO)++((ranges_Turns_o5 n within yO)++[.dec false,.gloop (sd40157 0 1 2 n yO within) (.exit 0) (sd40158 0 1 2 3 within n yQ yT yJ),.inlS [2] (.tup [.sl true [] 0 none,I 2]) [(2,⟨(zo zm yJ).map Sn.D,2,false⟩),(3,⟨yN.map Sn.D,2,false⟩),(4,⟨[.agg [I xh.lo,I xh.hi]],2,false⟩)] 5]))) (Ai (Ai (show ze [(0,⟨[.agg [I within.lo,I within.hi]],2,false⟩),(1,⟨yT.map Sn.D,2,false⟩),(2,⟨yJ.map Sn.D,2,false⟩)] 256 [2] []=some [2] from (by (simp only [ze,go_sem,List.length_set,Nat.reduceAdd,Nat.reduceEqDiff,Nat.reduceLT,Nat.reduceLeDiff,bI2,zb.idsL,zb.renL,zb.snapAll,z6.idsL,z6.renL,z6.snapAll]) <;> rfl)) (show (lim cfg).inl 69 [.lsl 2 0 yJ.length 2 none] [(2,⟨yJ.map Sn.D,2,false⟩)] 3=some (.tup [.sl true [] 0 none,I 2],[(2,⟨(zo zm yJ).map Sn.D,2,false⟩),(3,⟨yN.map Sn.D,2,false⟩),(4,⟨[.agg [I xh.lo,I xh.hi]],2,false⟩)],5) from zH [.inlS [2] (.tup []) [(2,⟨(zo zm yJ).map Sn.D,2,false⟩)] 3,.gloop (zG 2 3 yJ) .ret (sd40117 4 2 3 5 xh xp yN yJ)] (Ai (zY (q:=zS yJ (zo zm yJ)) (lp_ranges_gathered_4p3 yJ (zo zm yJ) (zo zm yJ) 0 (List.drop_zero) (Nat.zero_le _) (by simp only [zK,GS.some_l,List.length_set,List.length_append,List.length_cons,List.length_nil] at * <;> first | with_reducible assumption | omega) (by simp only [zK,GS.some_l,List.length_set,List.length_append,List.length_cons,List.length_nil] at * <;> first | with_reducible assumption | omega)) h73) (Ai (gc_of (C:=cfg) (f:=69) (a:=lp69_4) (ks:=[4,10,11,12]) (st:=(y9 2 3 yJ)) (st1:=(zG 2 3 yJ)) (by kernel_rfl) (by (simp only [y9,zG,go_sem,List.length_set,Nat.reduceAdd,Nat.reduceEqDiff,Nat.reduceLT,Nat.reduceLeDiff,bI2,zb.idsL,zb.renL,zb.snapAll,z6.idsL,z6.renL,z6.snapAll]) <;> rfl)) (Ai (Ai (show ze [(2,⟨yJ.map Sn.D,2,false⟩)] 256 [2] []=some [2] from (by (simp only [ze,go_sem,List.length_set,Nat.reduceAdd,Nat.reduceEqDiff,Nat.reduceLT,Nat.reduceLeDiff,bI2,zb.idsL,zb.renL,zb.snapAll,z6.idsL,z6.renL,z6.snapAll]) <;> rfl)) (yq 2 3 none yJ (by omega))) trivial))) (by kernel_rfl))) (Ai p12 (Ai p11 (Ai h71 (Ai p10 (Ai p9 (Ai h70 (Ai p8 (Ai h69 (Ai p7 (Ai h5 (Ai (zk within.hi) (Ai h4 (Ai (zk within.lo) (Ai h3 (Ai h2 (Ai (zC n 1 10000) (Ai h1 (Ai (zi r (by omega)) trivial))))))))))))))))))) (by kernel_rfl)
           | x2 xp xh yN =>
            try dsimp only
            have hv_h73:=ivt_ranges_gathered_4p3 yJ (zo zm yJ) (zo zm yJ) 0 (List.drop_zero) (Nat.zero_le _) (by simp only [zK,GS.some_l,List.length_set,List.length_append,List.length_cons,List.length_nil] at * <;> first | with_reducible assumption | omega) (by simp only [zK,GS.some_l,List.length_set,List.length_append,List.length_cons,List.length_nil] at * <;> first | with_reducible assumption | omega)
            rw [h73] at hv_h73
            obtain ⟨hv_h73_0,hv_h73_1⟩:=hv_h73
            try dsimp only [zX] at hv_h73_0
            try dsimp only [zX] at hv_h73_1
            exact zu ((zN r n within)++((ranges_Turns_o4 n within yO)++((ranges_Turns_o5 n within yO)++[.dec false,.gloop (sd40157 0 1 2 n yO within) (.exit 0) (sd40158 0 1 2 3 within n yQ yT yJ),.inlS [2] (.tup [.sl true [] 0 none,I 2]) [(2,⟨(zo zm yJ).map Sn.D,2,false⟩),(3,⟨yN.map Sn.D,2,false⟩),(4,⟨[.agg [I xh.lo,I xh.hi]],2,false⟩)] 5]))) (Ai (Ai (show ze [(0,⟨[.agg [I within.lo,I within.hi]],2,false⟩),(1,⟨yT.map Sn.D,2,false⟩),(2,⟨yJ.map Sn.D,2,false⟩)] 256 [2] []=some [2] from (by (simp only [ze,go_sem,List.length_set,Nat.reduceAdd,Nat.reduceEqDiff,Nat.reduceLT,Nat.reduceLeDiff,bI2,zb.idsL,zb.renL,zb.snapAll,z6.idsL,z6.renL,z6.snapAll]) <;> rfl)) (show (lim cfg).inl 69 [.lsl 2 0 yJ.length 2 none] [(2,⟨yJ.map Sn.D,2,false⟩)] 3=some (.tup [.sl true [] 0 none,I 2],[(2,⟨(zo zm yJ).map Sn.D,2,false⟩),(3,⟨yN.map Sn.D,2,false⟩),(4,⟨[.agg [I xh.lo,I xh.hi]],2,false⟩)],5) from zH [.inlS [2] (.tup []) [(2,⟨(zo zm yJ).map Sn.D,2,false⟩)] 3,.gloop (zG 2 3 yJ) .ret (sd40118 4 2 3 5 xh xp yN yJ)] (Ai (zY (q:=zS yJ (zo zm yJ)) (lp_ranges_gathered_4p3 yJ (zo zm yJ) (zo zm yJ) 0 (List.drop_zero) (Nat.zero_le _) (by simp only [zK,GS.some_l,List.length_set,List.length_append,List.length_cons,List.length_nil] at * <;> first | with_reducible assumption | omega) (by simp only [zK,GS.some_l,List.length_set,List.length_append,List.length_cons,List.length_nil] at * <;> first | with_reducible assumption | omega)) h73) (Ai (gc_of (C:=cfg) (f:=69) (a:=lp69_4) (ks:=[4,10,11,12]) (st:=(y9 2 3 yJ)) (st1:=(zG 2 3 yJ)) (by kernel_rfl) (by (simp only [y9,zG,go_sem,List.length_set,Nat.reduceAdd,Nat.reduceEqDiff,Nat.reduceLT,Nat.reduceLeDiff,bI2,zb.idsL,zb.renL,zb.snapAll,z6.idsL,z6.renL,z6.snapAll]) <;> rfl)) (Ai (Ai (show ze [(2,⟨yJ.map Sn.D,2,false⟩)] 256 [2] []=some [2] from (by (simp only [ze,go_sem,List.length_set,Nat.reduceAdd,Nat.reduceEqDiff,Nat.reduceLT,Nat.reduceLeDiff,bI2,zb.idsL,zb.renL,zb.snapAll,z6.idsL,z6.renL,z6.snapAll]) <;> rfl)) (yq 2 3 none yJ (by omega))) trivial))) (by kernel_rfl))) (Ai p12 (Ai p11 (Ai h71 (Ai p10 (Ai p9 (Ai h70 (Ai p8 (Ai h69 (Ai p7 (Ai h5 (Ai (zk within.hi) (Ai h4 (Ai (zk within.lo) (Ai h3 (Ai h2 (Ai (zC n 1 10000) (Ai h1 (Ai (zi r (by omega)) trivial))))))))))))))))))) (by kernel_rfl)
           | x3 =>
            try dsimp only
            exact zu ((zN r n within)++((ranges_Turns_o4 n within yO)++((ranges_Turns_o5 n within yO)++[.dec false,.gloop (sd40157 0 1 2 n yO within) (.exit 0) (sd40158 0 1 2 3 within n yQ yT yJ),.inlS [2] (.tup [.sl true [] 0 none,I 0]) [(2,⟨(zo zm yJ).map Sn.D,2,false⟩)] 3]))) (Ai (Ai (show ze [(0,⟨[.agg [I within.lo,I within.hi]],2,false⟩),(1,⟨yT.map Sn.D,2,false⟩),(2,⟨yJ.map Sn.D,2,false⟩)] 256 [2] []=some [2] from (by (simp only [ze,go_sem,List.length_set,Nat.reduceAdd,Nat.reduceEqDiff,Nat.reduceLT,Nat.reduceLeDiff,bI2,zb.idsL,zb.renL,zb.snapAll,z6.idsL,z6.renL,z6.snapAll]) <;> rfl)) (show (lim cfg).inl 69 [.lsl 2 0 yJ.length 2 none] [(2,⟨yJ.map Sn.D,2,false⟩)] 3=some (.tup [.sl true [] 0 none,I 0],[(2,⟨(zo zm yJ).map Sn.D,2,false⟩)],3) from zH [.inlS [2] (.tup []) [(2,⟨(zo zm yJ).map Sn.D,2,false⟩)] 3,.gloop (zG 2 3 yJ) (.exit 0) (sd40119 2 3 yJ),.dec false] (Ai (Eq.refl false) (Ai (zY (q:=zS yJ (zo zm yJ)) (lp_ranges_gathered_4p3 yJ (zo zm yJ) (zo zm yJ) 0 (List.drop_zero) (Nat.zero_le _) (by simp only [zK,GS.some_l,List.length_set,List.length_append,List.length_cons,List.length_nil] at * <;> first | with_reducible assumption | omega) (by simp only [zK,GS.some_l,List.length_set,List.length_append,List.length_cons,List.length_nil] at * <;> first | with_reducible assumption | omega)) h73) (Ai (gc_of (C:=cfg) (f:=69) (a:=lp69_4) (ks:=[4,10,11,12]) (st:=(y9 2 3 yJ)) (st1:=(zG 2 3 yJ)) (by kernel_rfl) (by (simp only [y9,zG,go_sem,List.length_set,Nat.reduceAdd,Nat.reduceEqDiff,Nat.reduceLT,Nat.reduceLeDiff,bI2,zb.idsL,zb.renL,zb.snapAll,z6.idsL,z6.renL,z6.snapAll]) <;> rfl)) (Ai (Ai (show ze [(2,⟨yJ.map Sn.D,2,false⟩)] 256 [2] []=some [2] from (by (simp only [ze,go_sem,List.length_set,Nat.reduceAdd,Nat.reduceEqDiff,Nat.reduceLT,Nat.reduceLeDiff,bI2,zb.idsL,zb.renL,zb.snapAll,z6.idsL,z6.renL,z6.snapAll]) <;> rfl)) (yq 2 3 none yJ (by omega))) trivial)))) (by kernel_rfl))) (Ai p12 (Ai p11 (Ai h71 (Ai p10 (Ai p9 (Ai h70 (Ai p8 (Ai h69 (Ai p7 (Ai h5 (Ai (zk within.hi) (Ai h4 (Ai (zk within.lo) (Ai h3 (Ai h2 (Ai (zC n 1 10000) (Ai h1 (Ai (zi r (by omega)) trivial))))))))))))))))))) (by kernel_rfl)
           | x4 xp xh =>
            try dsimp only
            exact zu ((zN r n within)++((ranges_Turns_o4 n within yO)++((ranges_Turns_o5 n within yO)++[.dec false,.gloop (sd40157 0 1 2 n yO within) (.exit 0) (sd40158 0 1 2 3 within n yQ yT yJ),.inlS [2] (.tup [.sl true [] 0 none,I 2]) [(2,⟨(zo zm yJ).map Sn.D,2,false⟩),(3,⟨[.agg [I xh.lo,I xh.hi]],2,false⟩)] 4]))) (Ai (Ai (show ze [(0,⟨[.agg [I within.lo,I within.hi]],2,false⟩),(1,⟨yT.map Sn.D,2,false⟩),(2,⟨yJ.map Sn.D,2,false⟩)] 256 [2] []=some [2] from (by (simp only [ze,go_sem,List.length_set,Nat.reduceAdd,Nat.reduceEqDiff,Nat.reduceLT,Nat.reduceLeDiff,bI2,zb.idsL,zb.renL,zb.snapAll,z6.idsL,z6.renL,z6.snapAll]) <;> rfl)) (show (lim cfg).inl 69 [.lsl 2 0 yJ.length 2 none] [(2,⟨yJ.map Sn.D,2,false⟩)] 3=some (.tup [.sl true [] 0 none,I 2],[(2,⟨(zo zm yJ).map Sn.D,2,false⟩),(3,⟨[.agg [I xh.lo,I xh.hi]],2,false⟩)],4) from zH [.inlS [2] (.tup []) [(2,⟨(zo zm yJ).map Sn.D,2,false⟩)] 3,.gloop (zG 2 3 yJ) .ret (sd40120 3 2 4 xh xp yJ)] (Ai (zY (q:=zS yJ (zo zm yJ)) (lp_ranges_gathered_4p3 yJ (zo zm yJ) (zo zm yJ) 0 (List.drop_zero) (Nat.zero_le _) (by simp only [zK,GS.some_l,List.length_set,List.length_append,List.length_cons,List.length_nil] at * <;> first | with_reducible assumption | omega) (by simp only [zK,GS.some_l,List.length_set,List.length_append,List.length_cons,List.length_nil] at * <;> first | with_reducible assumption | omega)) h73) (Ai (gc_of (C:=cfg) (f:=69) (a:=lp69_4) (ks:=[4,10,11,12]) (st:=(y9 2 3 yJ)) (st1:=(zG 2 3 yJ)) (by kernel_rfl) (by (simp only [y9,zG,go_sem,List.length_set,Nat.reduceAdd,Nat.reduceEqDiff,Nat.reduceLT,Nat.reduceLeDiff,bI2,zb.idsL,zb.renL,zb.snapAll,z6.idsL,z6.renL,z6.snapAll]) <;> rfl)) (Ai (Ai (show ze [(2,⟨yJ.map Sn.D,2,false⟩)] 256 [2] []=some [2] from (by (simp only [ze,go_sem,List.length_set,Nat.reduceAdd,Nat.reduceEqDiff,Nat.reduceLT,Nat.reduceLeDiff,bI2,zb.idsL,zb.renL,zb.snapAll,z6.idsL,z6.renL,z6.snapAll]) <;> rfl)) (yq 2 3 none yJ (by omega))) trivial))) (by kernel_rfl))) (Ai p12 (Ai p11 (Ai h71 (Ai p10 (Ai p9 (Ai h70 (Ai p8 (Ai h69 (Ai p7 (Ai h5 (Ai (zk within.hi) (Ai h4 (Ai (zk within.lo) (Ai h3 (Ai h2 (Ai (zC n 1 10000) (Ai h1 (Ai (zi r (by omega)) trivial))))))))))))))))))) (by kernel_rfl)
           | x5 xp xh =>
            try dsimp only
            exact zu ((zN r n within)++((ranges_Turns_o4 n within yO)++((ranges_Turns_o5 n within yO)++[.dec false,.gloop (sd40157 0 1 2 n yO within) (.exit 0) (sd40158 0 1 2 3 within n yQ yT yJ),.inlS [2] (.tup [.sl true [] 0 none,I 2]) [(2,⟨(zo zm yJ).map Sn.D,2,false⟩),(3,⟨[.agg [I xh.lo,I xh.hi]],2,false⟩)] 4]))) (Ai (Ai (show ze [(0,⟨[.agg [I within.lo,I within.hi]],2,false⟩),(1,⟨yT.map Sn.D,2,false⟩),(2,⟨yJ.map Sn.D,2,false⟩)] 256 [2] []=some [2] from (by (simp only [ze,go_sem,List.length_set,Nat.reduceAdd,Nat.reduceEqDiff,Nat.reduceLT,Nat.reduceLeDiff,bI2,zb.idsL,zb.renL,zb.snapAll,z6.idsL,z6.renL,z6.snapAll]) <;> rfl)) (show (lim cfg).inl 69 [.lsl 2 0 yJ.length 2 none] [(2,⟨yJ.map Sn.D,2,false⟩)] 3=some (.tup [.sl true [] 0 none,I 2],[(2,⟨(zo zm yJ).map Sn.D,2,false⟩),(3,⟨[.agg [I xh.lo,I xh.hi]],2,false⟩)],4) from zH [.inlS [2] (.tup []) [(2,⟨(zo zm yJ).map Sn.D,2,false⟩)] 3,.gloop (zG 2 3 yJ) .ret (sd40121 3 2 4 xh xp yJ)] (Ai (zY (q:=zS yJ (zo zm yJ)) (lp_ranges_gathered_4p3 yJ (zo zm yJ) (zo zm yJ) 0 (List.drop_zero) (Nat.zero_le _) (by simp only [zK,GS.some_l,List.length_set,List.length_append,List.length_cons,List.length_nil] at * <;> first | with_reducible assumption | omega) (by simp only [zK,GS.some_l,List.length_set,List.length_append,List.length_cons,List.length_nil] at * <;> first | with_reducible assumption | omega)) h73) (Ai (gc_of (C:=cfg) (f:=69) (a:=lp69_4) (ks:=[4,10,11,12]) (st:=(y9 2 3 yJ)) (st1:=(zG 2 3 yJ)) (by kernel_rfl) (by (simp only [y9,zG,go_sem,List.length_set,Nat.reduceAdd,Nat.reduceEqDiff,Nat.reduceLT,Nat.reduceLeDiff,bI2,zb.idsL,zb.renL,zb.snapAll,z6.idsL,z6.renL,z6.snapAll]) <;> rfl)) (Ai (Ai (show ze [(2,⟨yJ.map Sn.D,2,false⟩)] 256 [2] []=some [2] from (by (simp only [ze,go_sem,List.length_set,Nat.reduceAdd,Nat.reduceEqDiff,Nat.reduceLT,Nat.reduceLeDiff,bI2,zb.idsL,zb.renL,zb.snapAll,z6.idsL,z6.renL,z6.snapAll]) <;> rfl)) (yq 2 3 none yJ (by omega))) trivial))) (by kernel_rfl))) (Ai p12 (Ai p11 (Ai h71 (Ai p10 (Ai p9 (Ai h70 (Ai p8 (Ai h69 (Ai p7 (Ai h5 (Ai (zk within.hi) (Ai h4 (Ai (zk within.lo) (Ai h3 (Ai h2 (Ai (zC n 1 10000) (Ai h1 (Ai (zi r (by omega)) trivial))))))))))))))))))) (by kernel_rfl)
          | x1 yS =>
           try dsimp only
           have hv_h72:=ivt_ranges_Turns_16 n within yO (zg within.hi n) ((zg within.hi n - zg within.lo n).toNat+2) (zg within.lo n) (ranges_Turns_16_ne _ _ _ _ _ (by omega)) (by omega) (by omega)
           rw [h72] at hv_h72
           have hv_h72_0:=hv_h72
           try dsimp only [iv_ranges_Turns_16] at hv_h72_0
           exact zu ((zN r n within)++((ranges_Turns_o4 n within yO)++((ranges_Turns_o5 n within yO)++[.dec false,.gloop (sd40157 0 1 2 n yO within) (.exit 0) (sd40169 0 1 2 within n yS yO),.inl (.tup [.sl true [] 0 none,I 0]) [] 2]))) (Ai (show (lim cfg).inl 69 [.sl true [] 0 none] [] 2=some (.tup [.sl true [] 0 none,I 0],[],2) from zH [.inl (.tup []) [] 2,.loop (.exit 0) ⟨65,[(13,B false),(4,.sl true [] 0 none),(10,.sl true [] 0 none),(11,I 0),(12,I 0)],[],2,2⟩,.dec false] (Ai (Eq.refl false) (Ai (show (lim cfg).loop 69 lp69_4 ⟨65,[(4,.sl true [] 0 none),(10,.sl true [] 0 none),(11,I 0),(12,I 0)],[],2,2⟩=some ((.exit 0),⟨65,[(13,B false),(4,.sl true [] 0 none),(10,.sl true [] 0 none),(11,I 0),(12,I 0)],[],2,2⟩) from (yc [.dec false] (Ai (Eq.refl false) trivial) (by kernel_rfl))) (Ai (T_sort_nil 2) trivial))) (by kernel_rfl)) (Ai (zY (q:=lr_ranges_Turns_16 n within yO (zg within.hi n)) (lp_ranges_Turns_16 n within yO (zg within.hi n) ((zg within.hi n - zg within.lo n).toNat+2) (zg within.lo n) (ranges_Turns_16_ne _ _ _ _ _ (by omega)) (by omega) (by omega)) h72) (Ai p11 (Ai h71 (Ai p10 (Ai p9 (Ai h70 (Ai p8 (Ai h69 (Ai p7 (Ai h5 (Ai (zk within.hi) (Ai h4 (Ai (zk within.lo) (Ai h3 (Ai h2 (Ai (zC n 1 10000) (Ai h1 (Ai (zi r (by omega)) trivial))))))))))))))))))) (by kernel_rfl)
          | out =>
           exact absurd h72 ((ranges_Turns_16_ne _ _ _ _ _ (by omega)))
      | x2 =>
       try dsimp only
       exact zu ((zN r n within)++[.dec true,.pure (B (zv within.hi)),.dec true,.inl (.sl true [] 0 none) [(1,⟨[I n],1,true⟩)] 2,.dec true]) (Ai (Eq.refl true) (Ai (show (lim cfg).inl 82 [.sl r.nl (r.l.map Sn.D) (zsl r.nl 2) none,I n] [] 1=some (.sl true [] 0 none,[(1,⟨[I n],1,true⟩)],2) from zH [.inl (.sl true [] 0 none) [(1,⟨[I n],1,true⟩)] 2] (Ai (show (lim cfg).inl 70 [.sl r.nl (r.l.map Sn.D) (zsl r.nl 2) none,.fn (.func 106) [] [.lref 1 0 1 0]] [(1,⟨[I n],1,false⟩)] 2=some (.sl true [] 0 none,[(1,⟨[I n],1,true⟩)],2) from zH [.rw 9 (I ((r.l.length:Nat):Int)),.loop (.exit 0) (sd40134 1 2 r n)] (Ai (zY (q:=lr_ranges_each_3p5 r n) (lp_ranges_each_3p5 r n r.l 0 (List.drop_zero) (Nat.zero_le _) (by omega) (by omega) (by omega) (by omega)) h30) (Ai (zO Sn.D r) trivial)) (by kernel_rfl)) trivial) (by kernel_rfl)) (Ai h5 (Ai (zk within.hi) (Ai h4 (Ai (zk within.lo) (Ai h3 (Ai h2 (Ai (zC n 1 10000) (Ai h1 (Ai (zi r (by omega)) trivial))))))))))) (by kernel_rfl)
      | x3 =>
       try dsimp only
       exact zu ((zN r n within)++[.dec true,.pure (B (zv within.hi)),.dec true,.inl (.sl true [] 0 none) [(1,⟨[I n],1,false⟩)] 2,.dec true]) (Ai (Eq.refl true) (Ai (show (lim cfg).inl 82 [.sl r.nl (r.l.map Sn.D) (zsl r.nl 2) none,I n] [] 1=some (.sl true [] 0 none,[(1,⟨[I n],1,false⟩)],2) from zH [.inl (.sl true [] 0 none) [(1,⟨[I n],1,false⟩)] 2] (Ai (show (lim cfg).inl 70 [.sl r.nl (r.l.map Sn.D) (zsl r.nl 2) none,.fn (.func 106) [] [.lref 1 0 1 0]] [(1,⟨[I n],1,false⟩)] 2=some (.sl true [] 0 none,[(1,⟨[I n],1,false⟩)],2) from zH [.rw 9 (I ((r.l.length:Nat):Int)),.loop (.exit 0) (sd40135 1 2 r n)] (Ai (zY (q:=lr_ranges_each_3p5 r n) (lp_ranges_each_3p5 r n r.l 0 (List.drop_zero) (Nat.zero_le _) (by omega) (by omega) (by omega) (by omega)) h30) (Ai (zO Sn.D r) trivial)) (by kernel_rfl)) trivial) (by kernel_rfl)) (Ai h5 (Ai (zk within.hi) (Ai h4 (Ai (zk within.lo) (Ai h3 (Ai h2 (Ai (zC n 1 10000) (Ai h1 (Ai (zi r (by omega)) trivial))))))))))) (by kernel_rfl)
     | false =>
      exact zu ((zN r n within)++[.dec true,.pure (B (zv within.hi)),.dec false]) (Ai h5 (Ai (zk within.hi) (Ai h4 (Ai (zk within.lo) (Ai h3 (Ai h2 (Ai (zC n 1 10000) (Ai h1 (Ai (zi r (by omega)) trivial))))))))) (by kernel_rfl)
    | false =>
     exact zu ((zN r n within)++[.dec false]) (Ai h4 (Ai (zk within.lo) (Ai h3 (Ai h2 (Ai (zC n 1 10000) (Ai h1 (Ai (zi r (by omega)) trivial))))))) (by kernel_rfl)
  | false =>
   exact zu [.pure (I (zz r)),.dec false,.pure (B (yu n 1 10000)),.dec false] (Ai h2 (Ai (zC n 1 10000) (Ai h1 (Ai (zi r (by omega)) trivial)))) (by kernel_rfl)
end Go.VS

namespace Go.VS
open Go
set_option maxHeartbeats 0
set_option linter.unusedSimpArgs false
set_option linter.unusedVariables false

theorem ranges_gathered_4p3_ok:∀ (l:List Sn) (i:Nat) (v:List Sn) (c:Sn),ArL l→Ar c.hi→v.length+l.length≤1099511627776→yg l i (v++[c])=.x0 (v++jn c l)
 | [],i,v,c,_,_,_=>rfl
 | x::l,i,v,c,h,hc,hv=>by
  have hx:=h x List.mem_cons_self
  have h':ArL l:=fun t ht=>h t (List.mem_cons_of_mem _ ht)
  simp only [List.length_cons] at hv
  unfold yg jn
  rw [area_iff.2 hx.1,area_iff.2 hx.2]
  have hl:w64 ((((v++[c]).length:Nat):Int) - 1)=((v.length:Nat):Int):=by
   rcases len_last (v:=v) (c:=c) with e | e
   ·exact e
   ·omega
  have hp:decide ((((v++[c]).length:Nat):Int) > 0)=true:=decide_eq_true (by simp only [List.length_append,List.length_cons,List.length_nil]; omega)
  rw [hl,hp,Int.toNat_natCast,getD_last,set_last]
  unfold Ar at hc
  have hx2:=hx.2
  unfold Ar at hx2
  rw [w64_eq (n:=c.hi+1) (by omega) (by omega),imax_eq]
  by_cases hle:x.lo≤c.hi+1
  ·rw [decide_eq_true hle,if_pos hle]
   exact ranges_gathered_4p3_ok l (i+1) v ⟨c.lo,max c.hi x.hi⟩ h' (by unfold Ar; simp only; omega) (by omega)
  ·rw [decide_eq_false hle,if_neg hle]
   have:=ranges_gathered_4p3_ok l (i+1) (v++[c]) x h' hx.2 (by simp only [List.length_append,List.length_cons,List.length_nil]; omega)
   simp only [cond_true,cond_false]
   rw [this,List.append_assoc]; rfl
def ranges_gathered_4p3_er:LR_ranges_gathered_4p3→Bool
 | .x1 _ _ _=>true
 | .x2 _ _ _=>true
 | .x4 _ _=>true
 | .x5 _ _=>true
 | _=>false
theorem ranges_gathered_4p3_bad:∀ (l:List Sn) (i:Nat) (v:List Sn),¬ ArL l→ranges_gathered_4p3_er (yg l i v)=true
 | [],i,v,h=>absurd (fun s hs=>by cases hs) h
 | x::l,i,v,h=>by
  unfold yg
  cases h1:zv x.lo with
  | false=>rfl
  | true =>
   cases h2:zv x.hi with
   | false=>rfl
   | true =>
    have h':¬ ArL l:=fun k=>h fun s hs=>by
     rcases List.mem_cons.1 hs with rfl | hs
     ·exact ⟨area_iff.1 h1,area_iff.1 h2⟩
     ·exact k s hs
    have ih:=fun v=>ranges_gathered_4p3_bad l (i+1) v h'
    simp only [cond_true]
    cases decide (((v.length:Nat):Int) > 0) with
    | false=>exact ih _
    | true =>
     simp only [cond_true]
     cases decide (x.lo≤w64 ((v.getD ((w64 (((v.length:Nat):Int) - 1)).toNat) default).hi+1)) <;> exact ih _
theorem ranges_gathered_4p3_at {l:List Sn} (hne:l ≠ []) (hl:l.length≤1099511627776):(ArL l∧zV (zo zm l) 0=.x0 (can zm l)) ∨ (¬ ArL l∧ranges_gathered_4p3_er (zV (zo zm l) 0)=true):=by
 have hp:=srtG_perm gcmp_lo l
 have hlen:=srtG_len gcmp_lo l
 have har:ArL (zo zm l)↔ArL l:=⟨fun h s hs=>h s (hp.mem_iff.2 hs),fun h s hs=>h s (hp.mem_iff.1 hs)⟩
 rw [← har]
 unfold can
 have hne':zo zm l ≠ []:=fun h=>hne (by rw [h] at hp; exact List.nil_perm.1 hp)
 generalize zo zm l=q at *
 cases q with
 | nil=>exact absurd rfl hne'
 | cons c q =>
  simp only [List.length_cons] at hlen
  unfold zV jnL
  dsimp only
  by_cases hc:Ar c.lo∧Ar c.hi
  ·rw [area_iff.2 hc.1,area_iff.2 hc.2]
   by_cases hq:ArL q
   ·left
    refine ⟨fun s hs=>?_,?_⟩
    ·rcases List.mem_cons.1 hs with rfl | hs
     ·exact hc
     ·exact hq s hs
    ·exact ranges_gathered_4p3_ok q 1 [] c hq hc.2 (by simp; omega)
   ·right
    exact ⟨fun h=>hq fun s hs=>h s (List.mem_cons_of_mem _ hs),ranges_gathered_4p3_bad q 1 [c] hq⟩
  ·right
   refine ⟨fun h=>hc (h c List.mem_cons_self),?_⟩
   cases h1:zv c.lo with
   | false=>rfl
   | true =>
    cases h2:zv c.hi with
    | false=>rfl
    | true=>exact absurd ⟨area_iff.1 h1,area_iff.1 h2⟩ hc

end Go.VS

namespace Go.VS
open Go Go.Proofs
set_option maxHeartbeats 0
set_option linter.unusedSimpArgs false
set_option linter.unusedVariables false
end Go.VS

namespace Go.VS
open Go
set_option maxHeartbeats 0

theorem ok_bx {l:List Sn} (h:Ok l):∀ x∈l,-1099511627776≤x.lo∧x.lo≤x.hi∧x.hi≤1099511627776:=fun x hx=>by
 have:=cn_mem h.1 hx
 have:=h.2.1 x hx
 omega
theorem flat_congr {α:Type} {f g:α→List Sn}:∀ {l:List α},(∀ x∈l,f x=g x)→l.flatMap f=l.flatMap g
 | [],_=>rfl
 | x::l,h=>by rw [List.flatMap_cons,List.flatMap_cons,h x List.mem_cons_self,flat_congr fun y hy=>h y (List.mem_cons_of_mem _ hy)]
theorem flat_len {α:Type} {f:α→List Sn} {m:Nat}:∀ {l:List α},(∀ x∈l,(f x).length≤m)→(l.flatMap f).length≤m * l.length
 | [],_=>by simp
 | x::l,h=>by
  rw [List.flatMap_cons,List.length_append,List.length_cons,Nat.mul_succ]
  have:=h x List.mem_cons_self
  have:=flat_len fun y hy=>h y (List.mem_cons_of_mem _ hy)
  omega
def tm1 (k:Sn) (s:Sn):List Sn:=(ranges_Times_1 s k).l
def rs1 (k:Int) (s:Sn):List Sn:=(z7 s k).l
theorem ranges_each_3p4c_eq (k:Int):∀ (l v:List Sn),y5 k l v=.x0 (v++l.flatMap (rs1 k))
 | [],v=>by simp [y5]
 | y::l,v=>by
  unfold y5
  rw [emp_app (fun z=>y5 k l z),ranges_each_3p4c_eq k l _,List.flatMap_cons,List.append_assoc,Bool.cond_self]; rfl
theorem ranges_each_3p4a_eq (k:Int):∀ (l v:List Sn),yB k l v=.x0 (v++l.flatMap (rs1 k)) ∨ yB k l v=.x1 (v++l.flatMap (rs1 k))
 | [],v=>by right; simp [yB]
 | y::l,v=>by
  unfold yB
  rw [emp_app (fun z=>yB k l z),emp_app (fun z=>y5 k l z),ranges_each_3p4c_eq k l _,List.flatMap_cons,← List.append_assoc]
  cases (z7 y k).nl with
  | false=>exact .inl rfl
  | true=>exact ranges_each_3p4a_eq k l _
theorem ranges_each_3p4b_eq (k:Int):∀ (l:List Sn),(l.flatMap (rs1 k)=[]∧ranges_each_3p4b k l=.x2) ∨ (l.flatMap (rs1 k) ≠ []∧ranges_each_3p4b k l=.x0 (l.flatMap (rs1 k)))
 | []=>.inl ⟨rfl,rfl⟩
 | y::l=>by
  unfold ranges_each_3p4b
  rw [Bool.cond_self]
  cases h:((z7 y k).l).isEmpty with
  | true =>
   rw [flat_cons_emp (f:=rs1 k) h]
   exact ranges_each_3p4b_eq k l
  | false =>
   right
   simp only [cond_false]
   rw [ranges_each_3p4c_eq,List.flatMap_cons]
   refine ⟨fun z=>?_,rfl⟩
   have h2:(z7 y k).l=[]:=(List.append_eq_nil_iff.1 z).1
   rw [h2] at h; cases h
theorem ranges_each_3p4_eq (k:Int):∀ (l:List Sn),(l.flatMap (rs1 k)=[]∧(ranges_each_3p4 k l=.x2 ∨ ranges_each_3p4 k l=.x3)) ∨ (l.flatMap (rs1 k) ≠ []∧(ranges_each_3p4 k l=.x0 (l.flatMap (rs1 k)) ∨ ranges_each_3p4 k l=.x1 (l.flatMap (rs1 k))))
 | []=>.inl ⟨rfl,.inr rfl⟩
 | y::l=>by
  unfold ranges_each_3p4
  cases h:((z7 y k).l).isEmpty with
  | true =>
   rw [flat_cons_emp (f:=rs1 k) h]
   cases (z7 y k).nl with
   | true=>exact ranges_each_3p4_eq k l
   | false =>
    rcases ranges_each_3p4b_eq k l with ⟨h1,h2⟩ | ⟨h1,h2⟩
    ·exact .inl ⟨h1,.inl h2⟩
    ·exact .inr ⟨h1,.inl h2⟩
  | false =>
   right
   refine ⟨fun z=>?_,?_⟩
   ·rw [List.flatMap_cons] at z
    have h2:(z7 y k).l=[]:=(List.append_eq_nil_iff.1 z).1
    rw [h2] at h; cases h
   ·rw [List.flatMap_cons]
    cases (z7 y k).nl with
    | true=>exact ranges_each_3p4a_eq k l _
    | false=>exact .inl (ranges_each_3p4c_eq k l _)

def KOv (k:Sn):Prop:=1≤k.lo∧k.lo≤k.hi∧k.hi≤1000∧k.hi - k.lo≤99

def NOk (n:Int):Prop:=1≤n∧n≤10000

theorem Rest_gr {r:GS Sn} {n:Int} (hr:Ok r.l) (hn:NOk n):GR (r.l.flatMap (fun x=>restS x n)) (yf r n):=by
 have hq:r.l.flatMap (rs1 n)=r.l.flatMap (fun x=>restS x n):=flat_congr fun x hx=>rests1_eq (ok_bx hr x hx) hn
 have hlen:(r.l.flatMap (fun x=>restS x n)).length≤1099511627776:=by
  rw [← hq]
  have:=flat_len (f:=rs1 n) (m:=2) (l:=r.l) (fun x hx=>by unfold rs1; exact rests1_len x n)
  have:=hr.2.2
  omega
 unfold yf
 rw [check_iff.2 hr,in_iff.2 hn]
 simp only [bne_self_eq_false,cond_false,cond_true]
 have e:=ranges_each_3p4_eq n r.l
 rw [hq] at e
 rcases e with ⟨k1,k2 | k2⟩ | ⟨k1,k2 | k2⟩ <;> rw [k2] <;> dsimp only
 ·rw [k1]; exact GR_nil
 ·rw [k1]; exact GR_nil
 ·generalize r.l.flatMap (fun x=>restS x n)=q at *
  rcases ranges_gathered_4p1_at (l:=q) k1 (by omega) with ⟨g1,g2⟩ | ⟨g1,g2⟩
  ·rw [g2]; exact GR_end g1
  ·refine .inr ⟨.inl g1,?_⟩
   revert g2
   cases zD (zo zm q) 0 <;> intro g2 <;> first | rfl | cases g2
 ·generalize r.l.flatMap (fun x=>restS x n)=q at *
  rcases ranges_gathered_4p1_at (l:=q) k1 (by omega) with ⟨g1,g2⟩ | ⟨g1,g2⟩
  ·rw [g2]; exact GR_end g1
  ·refine .inr ⟨.inl g1,?_⟩
   revert g2
   cases zD (zo zm q) 0 <;> intro g2 <;> first | rfl | cases g2
end Go.VS

namespace Go.VS
open Go
set_option maxHeartbeats 0
end Go.VS

namespace Go.VS
open Go
set_option maxHeartbeats 0
end Go.VS

namespace Go.VS
open Go Go.Proofs
set_option maxHeartbeats 0
set_option linter.unusedSimpArgs false
set_option linter.unusedVariables false
section
variable {α:Type} {C:Cfg} {objs:List (Nat × Ob)} {t e:TypeId} {ty te:Ty} {f:α→VS.D} {sz nxt k:Nat} {s:GS α}
end
end Go.VS

namespace Go.VS
open Go
set_option maxHeartbeats 0
def Bd (l:List Sn):Prop:=∀ s∈l,-2305843009213693952≤s.lo∧s.lo≤s.hi∧s.hi≤2305843009213693952
section
variable {β:Type} (F:List Sn→β) {v:List Sn} {c x:Sn}
end
section
variable {p q:GS Sn} (hp:p.l.length≤1073741824) (hq:q.l.length≤1073741824) (bp:Bd p.l) (bq:Bd q.l)
include hp hq bp bq
end
open Classical in
noncomputable def Jn (l:GS Sn):GS Sn:=if l.l.length≤1073741824∧Bd l.l then (if l.l.length < 2 then l else GS.some (can zm l.l)) else GS.nil
end Go.VS

namespace Go.VS
open Go
set_option maxHeartbeats 0
end Go.VS

namespace Go.VS
open Go Go.Proofs
set_option maxHeartbeats 0
set_option linter.unusedSimpArgs false
set_option linter.unusedVariables false
end Go.VS

namespace Go.VS
open Go Go.Proofs
set_option maxHeartbeats 0
set_option linter.unusedSimpArgs false
set_option linter.unusedVariables false
end Go.VS

namespace Go.VS
open Go Go.Proofs
set_option maxHeartbeats 0
set_option linter.unusedSimpArgs false
set_option linter.unusedVariables false
end Go.VS

namespace Go.VS
open Go Go.Proofs
set_option maxHeartbeats 0
set_option linter.unusedSimpArgs false
set_option linter.unusedVariables false
end Go.VS

namespace Go.VS
open Go
set_option maxHeartbeats 0
end Go.VS

namespace Go.VS
open Go
set_option maxHeartbeats 0
theorem bd_ne {l:List Sn} (h:Bd l):∀ s∈l,s.lo≤s.hi:=fun s hs=>(h s hs).2.1
end Go.VS

namespace Go.VS
open Go Go.Proofs
set_option maxHeartbeats 0
set_option linter.unusedSimpArgs false
set_option linter.unusedVariables false
end Go.VS

namespace Go.VS
open Go
set_option maxHeartbeats 0
section
variable (x:Sn)
end
end Go.VS

namespace Go.VS
open Go
set_option maxHeartbeats 0
end Go.VS

namespace Go.VS
open Go
set_option maxHeartbeats 0
section
variable {c:Int} (hc:1≤c)
include hc
end
section
variable {r:GS Sn} {k:Sn} (hb:∀ x∈r.l,-1099511627776≤x.lo∧x.lo≤x.hi∧x.hi≤1099511627776) (hk:KOv k)
include hb hk
end
def RestS (n:Int) (r:List Sn) (y:Int):Prop:=∃ a,In r a∧y=a % n
theorem mod_t {n q r t:Int} (hr:0≤r∧r < n) (ht:0≤t∧t < n):(n * q+r+t) % n=if r+t < n then r+t else r+t - n:=by
 split
 ·rename_i h
  rw [Int.add_assoc,Int.add_comm,Int.add_mul_emod_self_left]
  exact Int.emod_eq_of_lt (by omega) h
 ·rename_i h
  have e:n * q+r+t=(r+t - n)+n * (q+1):=by rw [Int.mul_add]; omega
  rw [e,Int.add_mul_emod_self_left]
  exact Int.emod_eq_of_lt (by omega) (by omega)
theorem In_rest {x:Sn} {n:Int} (hx:x.lo≤x.hi) (hn:1≤n) {y:Int}:In (restS x n) y↔∃ a,x.lo≤a∧a≤x.hi∧y=a % n:=by
 have e:n * (x.lo / n)+x.lo % n=x.lo:=Int.mul_ediv_add_emod _ _
 have e1:=Int.emod_nonneg x.lo (show n ≠ 0 by omega)
 have e2:=Int.emod_lt_of_pos x.lo (show 0 < n by omega)
 have mt:∀ t,0≤t→t < n→(x.lo+t) % n=if x.lo % n+t < n then x.lo % n+t else x.lo % n+t - n:=fun t h1 h2=>by
  rw [← mod_t (q:=x.lo / n) ⟨e1,e2⟩ ⟨h1,h2⟩,e]
 have hit:∀ t,0≤t→t < n→t≤x.hi - x.lo→y=(if x.lo % n+t < n then x.lo % n+t else x.lo % n+t - n)→∃ a,x.lo≤a∧a≤x.hi∧y=a % n:=fun t h1 h2 h3 h4=>⟨x.lo+t,by omega,by omega,by rw [mt t h1 h2]; exact h4⟩
 unfold restS
 generalize x.lo % n=r at *
 split
 ·rename_i h
  rw [In_cons]
  constructor
  ·rintro (⟨h1,h2⟩ | h1)
   ·simp only at h1 h2
    by_cases hy:r≤y
    ·exact hit (y - r) (by omega) (by omega) (by omega) (by rw [if_pos (by omega)]; omega)
    ·exact hit (y - r+n) (by omega) (by omega) (by omega) (by rw [if_neg (by omega)]; omega)
   ·exact absurd h1 In_nil
  ·rintro ⟨a,h1,h2,rfl⟩
   exact .inl ⟨Int.emod_nonneg _ (by omega),by have:=Int.emod_lt_of_pos a (show 0 < n by omega); simp only; omega⟩
 ·rename_i h
  split
  ·rename_i h3
   rw [In_cons]
   constructor
   ·rintro (⟨h1,h2⟩ | h1)
    ·simp only at h1 h2
     exact hit (y - r) (by omega) (by omega) (by omega) (by rw [if_pos (by omega)]; omega)
    ·exact absurd h1 In_nil
   ·rintro ⟨a,h1,h2,rfl⟩
    have:=mt (a - x.lo) (by omega) (by omega)
    rw [show x.lo+(a - x.lo)=a by omega,if_pos (by omega)] at this
    exact .inl ⟨by simp only; omega,by simp only; omega⟩
  ·rename_i h3
   rw [In_cons,In_cons]
   constructor
   ·rintro (⟨h1,h2⟩ | ⟨h1,h2⟩ | h1)
    ·simp only at h1 h2
     exact hit (y - r) (by omega) (by omega) (by omega) (by rw [if_pos (by omega)]; omega)
    ·simp only at h1 h2
     exact hit (y - r+n) (by omega) (by omega) (by omega) (by rw [if_neg (by omega)]; omega)
    ·exact absurd h1 In_nil
   ·rintro ⟨a,h1,h2,rfl⟩
    have:=mt (a - x.lo) (by omega) (by omega)
    rw [show x.lo+(a - x.lo)=a by omega] at this
    split at this
    ·exact .inl ⟨by simp only; omega,by simp only; omega⟩
    ·exact .inr (.inl ⟨by simp only; omega,by simp only; omega⟩)
def restL (r:List Sn) (n:Int):List Sn:=r.flatMap fun x=>restS x n
theorem In_restL {r:List Sn} {n:Int} (hr:∀ x∈r,x.lo≤x.hi) (hn:1≤n) {y:Int}:In (restL r n) y↔RestS n r y:=by
 unfold restL
 rw [In_flat]
 constructor
 ·rintro ⟨x,hx,h⟩
  obtain ⟨a,h1,h2,h3⟩:=(In_rest (hr x hx) hn).1 h
  exact ⟨a,⟨x,hx,h1,h2⟩,h3⟩
 ·rintro ⟨a,⟨x,hx,h1,h2⟩,h3⟩
  exact ⟨x,hx,(In_rest (hr x hx) hn).2 ⟨a,h1,h2,h3⟩⟩
theorem restL_bd {r:List Sn} {n:Int} (hr:∀ x∈r,x.lo≤x.hi) (hn:1≤n):∀ s∈restL r n,0≤s.lo∧s.lo≤s.hi∧s.hi < n:=fun s hs=>by
 obtain ⟨x,hx,h⟩:=List.mem_flatMap.1 hs
 exact restS_bd (hr x hx) hn s h
theorem restL_len (r:List Sn) (n:Int):(restL r n).length≤2 * r.length:=flat_len fun x _=>by
 unfold restS
 repeat' split
 all_goals simp
end Go.VS

namespace Go.VS
open Go
set_option maxHeartbeats 0
section
variable {n:Int} (hn:NOk n)
include hn
end
theorem restL_Bd {r:List Sn} {n:Int} (hr:∀ x∈r,x.lo≤x.hi) (hn:NOk n):Bd (restL r n):=fun s hs=>by
 have:=restL_bd hr hn.1 s hs
 have:=hn.2
 omega
end Go.VS

namespace Go.VS
open Go
set_option maxHeartbeats 0
def rs5 (k:Int) (s:Sn):List Sn:=(z7 s k).l
theorem ranges_each_3p5c_eq (k:Int):∀ (l v:List Sn),y6 k l v=.x0 (v++l.flatMap (rs5 k))
 | [],v=>by simp [y6]
 | y::l,v=>by
  unfold y6
  rw [emp_app (fun z=>y6 k l z),ranges_each_3p5c_eq k l _,List.flatMap_cons,List.append_assoc,Bool.cond_self]; rfl
theorem ranges_each_3p5a_eq (k:Int):∀ (l v:List Sn),yC k l v=.x0 (v++l.flatMap (rs5 k)) ∨ yC k l v=.x1 (v++l.flatMap (rs5 k))
 | [],v=>by right; simp [yC]
 | y::l,v=>by
  unfold yC
  rw [emp_app (fun z=>yC k l z),emp_app (fun z=>y6 k l z),ranges_each_3p5c_eq k l _,List.flatMap_cons,← List.append_assoc]
  cases (z7 y k).nl with
  | false=>exact .inl rfl
  | true=>exact ranges_each_3p5a_eq k l _
theorem ranges_each_3p5b_eq (k:Int):∀ (l:List Sn),(l.flatMap (rs5 k)=[]∧ranges_each_3p5b k l=.x2) ∨ (l.flatMap (rs5 k) ≠ []∧ranges_each_3p5b k l=.x0 (l.flatMap (rs5 k)))
 | []=>.inl ⟨rfl,rfl⟩
 | y::l=>by
  unfold ranges_each_3p5b
  rw [Bool.cond_self]
  cases h:((z7 y k).l).isEmpty with
  | true =>
   rw [flat_cons_emp (f:=rs5 k) h]
   exact ranges_each_3p5b_eq k l
  | false =>
   right
   simp only [cond_false]
   rw [ranges_each_3p5c_eq,List.flatMap_cons]
   refine ⟨fun z=>?_,rfl⟩
   have h2:(z7 y k).l=[]:=(List.append_eq_nil_iff.1 z).1
   rw [h2] at h; cases h
theorem ranges_each_3p5_eq (k:Int):∀ (l:List Sn),(l.flatMap (rs5 k)=[]∧(ranges_each_3p5 k l=.x2 ∨ ranges_each_3p5 k l=.x3)) ∨ (l.flatMap (rs5 k) ≠ []∧(ranges_each_3p5 k l=.x0 (l.flatMap (rs5 k)) ∨ ranges_each_3p5 k l=.x1 (l.flatMap (rs5 k))))
 | []=>.inl ⟨rfl,.inr rfl⟩
 | y::l=>by
  unfold ranges_each_3p5
  cases h:((z7 y k).l).isEmpty with
  | true =>
   rw [flat_cons_emp (f:=rs5 k) h]
   cases (z7 y k).nl with
   | true=>exact ranges_each_3p5_eq k l
   | false =>
    rcases ranges_each_3p5b_eq k l with ⟨h1,h2⟩ | ⟨h1,h2⟩
    ·exact .inl ⟨h1,.inl h2⟩
    ·exact .inr ⟨h1,.inl h2⟩
  | false =>
   right
   refine ⟨fun z=>?_,?_⟩
   ·rw [List.flatMap_cons] at z
    have h2:(z7 y k).l=[]:=(List.append_eq_nil_iff.1 z).1
    rw [h2] at h; cases h
   ·rw [List.flatMap_cons]
    cases (z7 y k).nl with
    | true=>exact ranges_each_3p5a_eq k l _
    | false=>exact .inl (ranges_each_3p5c_eq k l _)

theorem getD_set {v:List Bool} {i j:Nat} (hi:i < v.length):(v.set i true).getD j false=(v.getD j false || decide (i=j)):=by
 rw [List.getD_eq_getElem?_getD,List.getD_eq_getElem?_getD,List.getElem?_set]
 by_cases h:i=j
 ·subst h
  rw [if_pos rfl,if_pos hi]; simp
 ·rw [if_neg h]; simp [h]
theorem full6_eq {x:Sn} {n:Int} (h0:0≤x.lo) (h1:x.hi < n) (hn:NOk n):∀ (f:Nat) (i:Int) (v:List Bool),x.lo≤i→i≤x.hi+1→x.hi - i+1 < f→v.length=n.toNat→∃ i' v',ranges_full_6 x f i v=.x0 i' v'∧v'.length=n.toNat∧∀ j:Nat,v'.getD j false=(v.getD j false || (decide (i≤(j:Int)) && decide ((j:Int)≤x.hi)))
 | 0,i,v,h2,h3,h4,h5=>by omega
 | f+1,i,v,h2,h3,h4,h5=>by
  have n2:=hn.2
  unfold ranges_full_6
  by_cases hc:i≤x.hi
  ·rw [decide_eq_true hc,cond_true,w64_eq (n:=i+1) (by omega) (by omega)]
   obtain ⟨i',v',e,hl,hv⟩:=full6_eq h0 h1 hn f (i+1) (v.set i.toNat true) (by omega) (by omega) (by omega) (by rw [List.length_set]; exact h5)
   refine ⟨i',v',e,hl,fun j=>?_⟩
   rw [hv j,getD_set (by omega),Bool.or_assoc]
   congr 1
   rw [Bool.eq_iff_iff]
   simp only [Bool.or_eq_true,Bool.and_eq_true,decide_eq_true_eq]
   omega
  ·rw [decide_eq_false hc]
   refine ⟨i,v,rfl,h5,fun j=>?_⟩
   have:(decide (i≤(j:Int)) && decide ((j:Int)≤x.hi))=false:=by
    rw [Bool.eq_false_iff]
    simp only [ne_eq,Bool.and_eq_true,decide_eq_true_eq]
    omega
   rw [this,Bool.or_false]
theorem full3_eq {n:Int} (hn:NOk n):∀ (l:List Sn) (v:List Bool),(∀ s∈l,0≤s.lo∧s.lo≤s.hi∧s.hi < n)→v.length=n.toNat→∃ v',ranges_full_3 l v=.x0 v'∧v'.length=n.toNat∧∀ j:Nat,v'.getD j false=true↔(v.getD j false=true ∨ In l (j:Int))
 | [],v,_,hv=>⟨v,rfl,hv,fun j=>⟨fun h=>.inl h,fun h=>h.elim id fun h=>absurd h In_nil⟩⟩
 | x::l,v,hb,hv=>by
  have hx:=hb x List.mem_cons_self
  unfold ranges_full_3
  obtain ⟨i',v',e,hl,h⟩:=full6_eq hx.1 hx.2.2 hn ((x.hi - x.lo).toNat+2) x.lo v (Int.le_refl _) (by omega) (by omega) hv
  rw [e]
  dsimp only
  obtain ⟨w,e2,hl2,h2⟩:=full3_eq hn l v' (fun s hs=>hb s (List.mem_cons_of_mem _ hs)) hl
  refine ⟨w,e2,hl2,fun j=>?_⟩
  rw [h2 j,h j,In_cons]
  simp only [Bool.or_eq_true,Bool.and_eq_true,decide_eq_true_eq]
  rw [or_assoc]
theorem full11_eq (v:List Bool):∀ (m i:Nat),(∃ j,ranges_full_11 v m i=.x0 j∧∀ k,i≤k→k < i+m→v.getD k default=true) ∨ (∃ j,ranges_full_11 v m i=.x1 j∧∃ k,i≤k∧k < i+m∧v.getD k default=false)
 | 0,i=>.inl ⟨i,rfl,fun k h1 h2=>by omega⟩
 | m+1,i=>by
  unfold ranges_full_11
  cases h:v.getD i default with
  | false=>exact .inr ⟨i,rfl,i,Nat.le_refl _,by omega,h⟩
  | true =>
   rcases full11_eq v m (i+1) with ⟨j,e,k⟩ | ⟨j,e,k,h1,h2,h3⟩
   ·refine .inl ⟨j,e,fun k' h1 h2=>?_⟩
    by_cases he:k'=i
    ·rw [he]; exact h
    ·exact k k' (by omega) (by omega)
   ·exact .inr ⟨j,e,k,by omega,by omega,h3⟩
theorem full_iff {l:GS Sn} {n:Int} (hn:NOk n) (hb:∀ s∈l.l,0≤s.lo∧s.lo≤s.hi∧s.hi < n):ranges_full l n=true↔∀ y,0≤y→y < n→In l.l y:=by
 unfold ranges_full
 obtain ⟨v,e,hl,h⟩:=full3_eq hn l.l (List.replicate n.toNat false) hb (by simp)
 have hv:∀ j:Nat,v.getD j false=true↔In l.l (j:Int):=fun j=>by
  rw [h j]
  have:(List.replicate n.toNat false).getD j false=false:=by
   rw [List.getD_eq_getElem?_getD,List.getElem?_replicate]
   split <;> rfl
  rw [this]
  simp
 rw [e]
 dsimp only
 rcases full11_eq v (((n.toNat:Nat):Int) - 0).toNat 0 with ⟨j,e2,k⟩ | ⟨j,e2,k,h1,h2,h3⟩ <;> rw [e2]
 ·refine ⟨fun _ y h1 h2=>?_,fun _=>rfl⟩
  have:=(hv y.toNat).1 (k y.toNat (Nat.zero_le _) (by omega))
  rwa [show ((y.toNat:Nat):Int)=y by omega] at this
 ·constructor
  ·intro h; cases h
  ·intro h
   have:=(hv k).2 (h k (by omega) (by omega))
   have h3':v.getD k false=false:=h3
   rw [h3'] at this
   cases this
def pF (n:Int) (W:Sn) (v:Int) (x:Sn):List Sn:=someS (max W.lo (x.lo+v * n)) (min W.hi (x.hi+v * n))
def WOk (W:Sn):Prop:=-1099511627776≤W.lo∧W.lo≤W.hi∧W.hi≤1099511627776
theorem vn_bd {n v:Int} (hn:NOk n) (hv:-1099511627777≤v∧v≤1099511627777):-10995116277770000≤v * n∧v * n≤10995116277770000:=by
 have n1:=hn.1
 have n2:=hn.2
 have h1:=Int.mul_le_mul_of_nonneg_right hv.2 (show 0≤n by omega)
 have h2:=Int.mul_le_mul_of_nonneg_right hv.1 (show 0≤n by omega)
 omega
section
variable {n:Int} {W:Sn} {v:Int} (hn:NOk n) (hv:-1099511627777≤v∧v≤1099511627777)
include hn hv
theorem pF_eq {x:Sn} (hx:0≤x.lo∧x.lo≤x.hi∧x.hi < n):(zl (yj W.lo (w64 (x.lo+(w64 (v * n))))) (imin W.hi (w64 (x.hi+(w64 (v * n)))))).l=pF n W v x:=by
 have b:=vn_bd hn hv
 have n2:=hn.2
 unfold pF
 rw [some_l,imax_eq,imin_eq,w64_eq (n:=v * n) (by omega) (by omega),w64_eq (by omega) (by omega),w64_eq (by omega) (by omega)]
theorem t19_eq:∀ (l w:List Sn),(∀ s∈l,0≤s.lo∧s.lo≤s.hi∧s.hi < n)→yF n W v l w=.x0 (w++l.flatMap (pF n W v))
 | [],w,_=>by simp [yF]
 | x::l,w,h=>by
  unfold yF
  rw [emp_app (fun z=>yF n W v l z),t19_eq l _ (fun s hs=>h s (List.mem_cons_of_mem _ hs)),List.flatMap_cons,List.append_assoc,pF_eq hn hv (h x List.mem_cons_self)]
theorem t19a_eq:∀ (l w:List Sn),(∀ s∈l,0≤s.lo∧s.lo≤s.hi∧s.hi < n)→yv n W v l w=.x0 (w++l.flatMap (pF n W v))
 | [],w,_=>by simp [yv]
 | x::l,w,h=>by
  unfold yv
  rw [emp_app (fun z=>yv n W v l z),t19a_eq l _ (fun s hs=>h s (List.mem_cons_of_mem _ hs)),List.flatMap_cons,List.append_assoc,pF_eq hn hv (h x List.mem_cons_self)]
theorem t19b_eq:∀ (l:List Sn),(∀ s∈l,0≤s.lo∧s.lo≤s.hi∧s.hi < n)→(l.flatMap (pF n W v)=[]∧yD n W v l=.x1) ∨ yD n W v l=.x0 (l.flatMap (pF n W v))
 | [],_=>.inl ⟨rfl,rfl⟩
 | x::l,h=>by
  have hl:=fun s hs=>h s (List.mem_cons_of_mem _ hs)
  unfold yD
  rw [pF_eq hn hv (h x List.mem_cons_self),List.flatMap_cons]
  cases hp:(pF n W v x).isEmpty with
  | true =>
   have hp:pF n W v x=[]:=by simpa using hp
   rw [hp,cond_true]
   exact t19b_eq l hl
  | false =>
   right
   rw [cond_false,t19a_eq hn hv l _ hl]
end
def pL (n:Int) (W:Sn) (one:List Sn):Nat→Int→List Sn
 | 0,_=>[]
 | m+1,v=>one.flatMap (pF n W v)++pL n W one m (v+1)
section
variable {n q:Int} {W:Sn} {one o':List Sn} (hn:NOk n) (hq:q≤1099511627777) (h1:∀ s∈one,0≤s.lo∧s.lo≤s.hi∧s.hi < n)
include hn hq h1
theorem t16a_eq:∀ (f:Nat) (w:List Sn) (v:Int),-1099511627777≤v→v≤q+1→q - v+1 < f→∃ v',ranges_Turns_16a n W o' q f one w v=.x0 one (w++pL n W one (q+1 - v).toNat v) v'
 | 0,w,v,k0,k1,k2=>by omega
 | f+1,w,v,k0,k1,k2=>by
  unfold ranges_Turns_16a
  by_cases hc:v≤q
  ·rw [decide_eq_true hc,cond_true,t19_eq hn ⟨k0,by omega⟩ _ _ h1,w64_eq (n:=v+1) (by omega) (by omega)]
   obtain ⟨v',e⟩:=t16a_eq f (w++one.flatMap (pF n W v)) (v+1) (by omega) (by omega) (by omega)
   refine ⟨v',?_⟩
   dsimp only
   rw [e,show (q+1 - v).toNat=(q+1 - (v+1)).toNat+1 by omega,pL,List.append_assoc]
  ·rw [decide_eq_false hc,show (q+1 - v).toNat=0 by omega]
   exact ⟨v,by simp [pL]⟩
theorem t16_eq:∀ (f:Nat) (v:Int),-1099511627777≤v→v≤q+1→q - v+1 < f→(∃ v',yd n W one q f v=.x0 one (pL n W one (q+1 - v).toNat v) v') ∨ (pL n W one (q+1 - v).toNat v=[]∧∃ v',yd n W one q f v=.x1 v')
 | 0,v,k0,k1,k2=>by omega
 | f+1,v,k0,k1,k2=>by
  unfold yd
  by_cases hc:v≤q
  ·rw [decide_eq_true hc,cond_true,w64_eq (n:=v+1) (by omega) (by omega),show (q+1 - v).toNat=(q+1 - (v+1)).toNat+1 by omega,pL]
   rcases t19b_eq (W:=W) hn ⟨k0,by omega⟩ one h1 with ⟨h3,e⟩ | e <;> rw [e] <;> dsimp only
   ·rw [h3]
    exact t16_eq f (v+1) (by omega) (by omega) (by omega)
   ·exact .inl (t16a_eq hn hq h1 f _ (v+1) (by omega) (by omega) (by omega))
  ·rw [decide_eq_false hc,show (q+1 - v).toNat=0 by omega]
   exact .inr ⟨rfl,v,rfl⟩
end
theorem pL_len {n:Int} {W:Sn} {one:List Sn}:∀ (m:Nat) (v:Int),(pL n W one m v).length≤m * one.length
 | 0,v=>by simp [pL]
 | m+1,v=>by
  unfold pL
  rw [List.length_append,Nat.succ_mul]
  have:=pL_len (n:=n) (W:=W) (one:=one) m (v+1)
  have:=flat_len (f:=pF n W v) (m:=1) (l:=one) (fun x _=>some_len)
  omega
theorem pL_ne {n:Int} {W:Sn} {one:List Sn}:∀ (m:Nat) (v:Int),∀ s∈pL n W one m v,s.lo≤s.hi
 | 0,v,s,h=>by cases h
 | m+1,v,s,h=>by
  rcases List.mem_append.1 h with h | h
  ·obtain ⟨x,_,h⟩:=List.mem_flatMap.1 h
   exact some_ne s h
  ·exact pL_ne m _ s h
theorem In_pL {n:Int} {W:Sn} {one:List Sn}:∀ (m:Nat) (v y:Int),In (pL n W one m v) y↔W.lo≤y∧y≤W.hi∧∃ k:Int,v≤k∧k < v+m∧In one (y - k * n)
 | 0,v,y=>⟨fun h=>absurd h In_nil,fun ⟨_,_,k,h1,h2,_⟩=>by omega⟩
 | m+1,v,y=>by
  unfold pL
  rw [In_append,In_pL m (v+1) y,In_flat]
  constructor
  ·rintro (⟨x,hx,h⟩ | ⟨h1,h2,k,h3,h4,h5⟩)
   ·have:=In_some.1 h
    exact ⟨by omega,by omega,v,Int.le_refl _,by omega,x,hx,by omega,by omega⟩
   ·exact ⟨h1,h2,k,by omega,by omega,h5⟩
  ·rintro ⟨h1,h2,k,h3,h4,h5⟩
   by_cases he:k=v
   ·subst he
    obtain ⟨x,hx,h6,h7⟩:=h5
    exact .inl ⟨x,hx,In_some.2 ⟨by omega,by omega⟩⟩
   ·exact .inr ⟨h1,h2,k,by omega,by omega,h5⟩
def TurnS (n:Int) (W:Sn) (one:List Sn) (y:Int):Prop:=W.lo≤y∧y≤W.hi∧In one (y % n)
theorem turn_k {n y k:Int} (hn:1≤n):(0≤y - k * n∧y - k * n < n)→k=y / n∧y - k * n=y % n:=fun ⟨h1,h2⟩=>by
 have e:y - k * n+n * k=y:=by rw [Int.mul_comm n k]; omega
 have:=(Int.ediv_emod_unique (a:=y) (b:=n) (r:=y - k * n) (q:=k) (by omega)).2 ⟨e,h1,h2⟩
 exact ⟨this.1.symm,this.2.symm⟩
theorem In_turns {n:Int} {W:Sn} {one:List Sn} (hn:1≤n) (hW:W.lo≤W.hi) (h1:∀ s∈one,0≤s.lo∧s.lo≤s.hi∧s.hi < n) {y:Int}:In (pL n W one (W.hi / n+1 - W.lo / n).toNat (W.lo / n)) y↔TurnS n W one y:=by
 rw [In_pL]
 unfold TurnS
 constructor
 ·rintro ⟨h2,h3,k,h4,h5,h6⟩
  refine ⟨h2,h3,?_⟩
  obtain ⟨s,hs,h7,h8⟩:=h6
  have:=h1 s hs
  have tk:=turn_k (n:=n) (y:=y) (k:=k) hn ⟨by omega,by omega⟩
  rw [← tk.2]
  exact ⟨s,hs,h7,h8⟩
 ·rintro ⟨h2,h3,h4⟩
  have e:n * (y / n)+y % n=y:=Int.mul_ediv_add_emod _ _
  have m1:W.lo / n≤y / n:=Int.ediv_le_ediv (by omega) h2
  have m2:y / n≤W.hi / n:=Int.ediv_le_ediv (by omega) h3
  refine ⟨h2,h3,y / n,m1,by omega,?_⟩
  rw [Int.mul_comm (y / n) n,show y - n * (y / n)=y % n by omega]
  exact h4
end Go.VS

namespace Go.VS
open Go Go.Proofs
set_option maxHeartbeats 0
set_option linter.unusedSimpArgs false
set_option linter.unusedVariables false
end Go.VS

namespace Go.VS
open Go
set_option maxHeartbeats 0
def SO (l:List Sn):Prop:=(∀ s∈l,s.lo≤s.hi)∧l.Pairwise fun a c=>a.hi < c.lo
def SG (l:List Sn):Prop:=(∀ s∈l,s.lo≤s.hi)∧l.Pairwise fun a c=>a.hi+1 < c.lo
theorem SG.so {l:List Sn} (h:SG l):SO l:=⟨h.1,h.2.imp fun {a b} k=>by omega⟩
def mg:List Sn→Nat
 | []=>0
 | a::l=>(match l with | []=>0 | c::_=>if c.lo≤a.hi+1 then 1 else 0)+mg l
theorem mg_app:∀ (a b:List Sn),mg (a++b)≤mg a+mg b+1
 | [],b=>by simp [mg]
 | [x],b=>by
  simp only [List.cons_append,List.nil_append,mg]
  cases b with
  | nil=>simp [mg]
  | cons y b=>simp only; split <;> omega
 | x::y::a,b=>by
  have:=mg_app (y::a) b
  simp only [List.cons_append,mg] at this ⊢
  omega
theorem mg_gap:∀ (a b:List Sn),(∀ s∈a,∀ t∈b,s.hi+1 < t.lo)→mg (a++b)=mg a+mg b
 | [],b,_=>by simp [mg]
 | [x],b,h=>by
  simp only [List.cons_append,List.nil_append,mg]
  cases b with
  | nil=>simp [mg]
  | cons y b =>
   have:=h x List.mem_cons_self y List.mem_cons_self
   simp only
   rw [if_neg (by omega)]
 | x::y::a,b,h=>by
  have:=mg_gap (y::a) b fun s hs=>h s (List.mem_cons_of_mem _ hs)
  simp only [List.cons_append,mg] at this ⊢
  omega
theorem mg_sg:∀ {l:List Sn},SG l→mg l=0
 | [],_=>rfl
 | [x],_=>rfl
 | x::y::l,h=>by
  have h1:=(List.pairwise_cons.1 h.2).1 y List.mem_cons_self
  have:=mg_sg (l:=y::l) ⟨fun s hs=>h.1 s (List.mem_cons_of_mem _ hs),(List.pairwise_cons.1 h.2).2⟩
  simp only [mg] at this ⊢
  rw [if_neg (by omega)]
  omega
def rF (W:Sn) (b:Int) (x:Sn):List Sn:=someS (max (b+x.lo) W.lo) (min (b+x.hi) W.hi)
def part (W:Sn) (b:Int) (l:List Sn):List Sn:=l.flatMap (rF W b)
theorem rF_mem {W:Sn} {b:Int} {x s:Sn} (h:s∈rF W b x):s.lo=max (b+x.lo) W.lo∧s.hi=min (b+x.hi) W.hi∧s.lo≤s.hi:=by
 have h0:=some_ne s h
 unfold rF someS at h
 split at h
 ·cases h
 ·rw [List.mem_singleton.1 h] at h0 ⊢
  exact ⟨rfl,rfl,h0⟩
theorem part_mem {W:Sn} {b:Int} {l:List Sn} {s:Sn} (h:s∈part W b l):∃ x∈l,s.lo=max (b+x.lo) W.lo∧s.hi=min (b+x.hi) W.hi∧s.lo≤s.hi:=by
 obtain ⟨x,hx,h⟩:=List.mem_flatMap.1 h
 exact ⟨x,hx,rF_mem h⟩
structure Rm (n:Int) (l:List Sn):Prop where
 c:cn l
 bd:∀ s∈l,0≤s.lo∧s.lo≤s.hi∧s.hi < n
 ne:l ≠ []
 nf:∀ s∈l,¬ (s.lo=0∧s.hi=n - 1)
theorem part_sg {W:Sn} {b:Int}:∀ {l:List Sn},cn l→SG (part W b l)
 | [],_=>⟨(fun s hs=>by cases hs),List.Pairwise.nil⟩
 | x::l,h=>by
  have ih:=part_sg (W:=W) (b:=b) h.2.2
  have e:part W b (x::l)=rF W b x++part W b l:=rfl
  rw [e]
  refine ⟨fun s hs=>?_,?_⟩
  ·rcases List.mem_append.1 hs with hs | hs
   ·exact (rF_mem hs).2.2
   ·exact ih.1 s hs
  ·refine List.pairwise_append.2 ⟨?_,ih.2,fun s hs t ht=>?_⟩
   ·unfold rF someS
    split
    ·exact List.Pairwise.nil
    ·exact List.pairwise_singleton _ _
   ·obtain ⟨_,s2,_⟩:=rF_mem hs
    obtain ⟨z,hz,t1,_⟩:=part_mem ht
    have:=h.2.1 z hz
    omega
theorem part_full {W:Sn} {b n:Int}:∀ {l:List Sn},(∀ s∈l,0≤s.lo∧s.lo≤s.hi∧s.hi < n)→W.lo≤b→b+n≤W.hi+1→(part W b l).length=l.length
 | [],_,_,_=>rfl
 | x::l,h,h1,h2=>by
  have hx:=h x List.mem_cons_self
  have ih:=part_full (W:=W) (b:=b) (l:=l) (fun s hs=>h s (List.mem_cons_of_mem _ hs)) h1 h2
  have e:part W b (x::l)=rF W b x++part W b l:=rfl
  rw [e,List.length_append,ih,List.length_cons]
  unfold rF someS
  rw [if_neg (by omega)]
  simp; omega
structure Iv (n:Int) (W:Sn) (l w:List Sn) (b:Int):Prop where
 so:SO w
 hi:∀ t∈w,∃ s∈l,t.hi≤b - n+s.hi
 fst:w=[] ∨ W.lo≤b
 lo:W.lo - n < b
 one:l.length=1→mg w=0
 two:2≤l.length→2 * mg w≤w.length
theorem Iv.step {n:Int} {W:Sn} {l w:List Sn} {b:Int} (hl:Rm n l) (h:Iv n W l w b) (hb:b+n≤W.hi):Iv n W l (w++part W b l) (b+n):=by
 have hp:=part_sg (W:=W) (b:=b) hl.c
 have hn:1≤n:=by
  cases hq:l with
  | nil=>exact absurd hq hl.ne
  | cons s _=>have:=hl.bd s (by rw [hq]; simp); omega
 have hlow:∀ t∈part W b l,b≤t.lo:=fun t ht=>by
  obtain ⟨x,hx,h1,_⟩:=part_mem ht
  have:=hl.bd x hx
  omega
 have hw:∀ t∈w,t.hi < b:=fun t ht=>by
  obtain ⟨s,hs,h1⟩:=h.hi t ht
  have:=hl.bd s hs
  omega
 refine ⟨⟨fun s hs=>?_,?_⟩,fun t ht=>?_,.inr (by have:=h.lo; omega),by have:=h.lo; omega,fun h1=>?_,fun h2=>?_⟩
 ·rcases List.mem_append.1 hs with hs | hs
  ·exact h.so.1 s hs
  ·exact hp.1 s hs
 ·exact List.pairwise_append.2 ⟨h.so.2,hp.so.2,fun s hs t ht=>by have:=hw s hs; have:=hlow t ht; omega⟩
 ·rcases List.mem_append.1 ht with ht | ht
  ·obtain ⟨s,hs,h1⟩:=h.hi t ht
   exact ⟨s,hs,by omega⟩
  ·obtain ⟨x,hx,_,h2,_⟩:=part_mem ht
   exact ⟨x,hx,by omega⟩
 ·rw [mg_gap,h.one h1,mg_sg hp]
  intro s hs t ht
  obtain ⟨x,hx,h3⟩:=h.hi s hs
  obtain ⟨z,hz,h4,_⟩:=part_mem ht
  have hxz:x=z:=by
   cases l with
   | nil=>cases hx
   | cons a r =>
    cases r with
    | nil=>rw [List.mem_singleton.1 hx,List.mem_singleton.1 hz]
    | cons c r=>simp at h1
  subst hxz
  have h5:=hl.bd x hx
  have h6:=hl.nf x hx
  omega
 ·rcases h.fst with h3 | h3
  ·subst h3
   rw [List.nil_append,mg_sg hp]; omega
  ·have h4:=mg_app w (part W b l)
   have h5:=h.two h2
   have h6:=part_full (W:=W) (b:=b) hl.bd h3 (by omega)
   rw [mg_sg hp] at h4
   rw [List.length_append,h6]
   omega
section
variable {n:Int} {W:Sn} {q:GS Sn} (hn:NOk n) (hW:W.hi≤1099511627776) (hl:Rm n q.l) (hq:q.l.length≤128)
include hn hW hl hq
end
end Go.VS

namespace Go.VS
open Go
set_option maxHeartbeats 0
theorem rs5_eq {r:List Sn} {n:Int} (hr:Ok r) (hn:NOk n):r.flatMap (rs5 n)=restL r n:=flat_congr fun x hx=>rests1_eq (ok_bx hr _ hx) hn
theorem restL_one {r:List Sn} {n:Int} (hr:Ok r) (hn:NOk n):∀ s∈restL r n,0≤s.lo∧s.lo≤s.hi∧s.hi < n:=restL_bd (fun x hx=>cn_mem hr.1 hx) hn.1
section
variable {r:GS Sn} {n:Int} {W:Sn} (hr:Ok r.l) (hn:NOk n) (hW:WOk W)
include hr hn hW
theorem turns_prog:(restL r.l n=[]∧z8 r n W=(GS.nil,0)) ∨ (restL r.l n ≠ []∧(∀ y,0≤y→y < n→In (restL r.l n) y)∧z8 r n W=(GS.some [W],0)) ∨
  (restL r.l n ≠ []∧¬ (∀ y,0≤y→y < n→In (restL r.l n) y)∧((66 < W.hi / n - W.lo / n∧z8 r n W=(GS.nil,2)) ∨ GR (pL n W (restL r.l n) (W.hi / n+1 - W.lo / n).toNat (W.lo / n)) (z8 r n W))):=by
 obtain ⟨w1,w2,w3⟩:=hW
 have n1:=hn.1
 have n2:=hn.2
 have bl:=ediv_bd (a:=W.lo) hn.1 (by omega)
 have bh:=ediv_bd (a:=W.hi) hn.1 (by omega)
 have hle:W.lo / n≤W.hi / n:=Int.ediv_le_ediv (by omega) (by omega)
 have h1:=restL_one hr hn
 have hlen:(restL r.l n).length≤128:=by
  have:=restL_len r.l n
  have:=hr.2.2
  omega
 unfold z8
 rw [check_iff.2 hr,in_iff.2 hn,decide_eq_false (show ¬ W.lo > W.hi by omega),area_iff.2 (show Ar W.lo from ⟨by omega,by omega⟩),area_iff.2 (show Ar W.hi from ⟨by omega,by omega⟩),down_eq n1 (by omega),down_eq n1 (by omega),w64_eq (n:=W.hi / n - W.lo / n) (by omega) (by omega)]
 simp only [bne_self_eq_false,cond_false,cond_true]
 have e:=ranges_each_3p5_eq n r.l
 rw [rs5_eq hr hn] at e
 have rest:restL r.l n ≠ []→∀ z:GS Sn × Int,z=(bif ranges_full (GS.some (restL r.l n)) n then ((GS.some [W],0):GS Sn × Int) else bif decide (W.hi / n - W.lo / n > 66) then ((GS.nil,2):GS Sn × Int) else
   match yd n W (restL r.l n) (W.hi / n) ((W.hi / n - W.lo / n).toNat+2) (W.lo / n) with
   | .x0 _ w _=>(match zV (zo zm w) 0 with
    | .x0 v=>bif decide (((v.length:Nat):Int) > 64) then ((GS.nil,2):GS Sn × Int) else ((GS.some v,0):GS Sn × Int)
    | .x3=>((GS.nil,0):GS Sn × Int)
    | _=>((GS.nil,2):GS Sn × Int))
   | .x1 _=>((GS.nil,0):GS Sn × Int)
   | .out=>default)→((∀ y,0≤y→y < n→In (restL r.l n) y)∧z=(GS.some [W],0)) ∨ (¬ (∀ y,0≤y→y < n→In (restL r.l n) y)∧((66 < W.hi / n - W.lo / n∧z=(GS.nil,2)) ∨ GR (pL n W (restL r.l n) (W.hi / n+1 - W.lo / n).toNat (W.lo / n)) z)):=fun hne z hz=>by
  have hf:=full_iff (l:=GS.some (restL r.l n)) hn h1
  rw [GS.some_l] at hf
  subst hz
  cases hfull:ranges_full (GS.some (restL r.l n)) n with
  | true=>exact .inl ⟨hf.1 hfull,rfl⟩
  | false =>
   refine .inr ⟨fun h=>?_,?_⟩
   ·rw [hf.2 h] at hfull; cases hfull
   ·rw [cond_false]
    by_cases hd:W.hi / n - W.lo / n > 66
    ·rw [decide_eq_true hd]
     exact .inl ⟨hd,rfl⟩
    ·rw [decide_eq_false hd,cond_false]
     right
     have hpl:=pL_len (n:=n) (W:=W) (one:=restL r.l n) (W.hi / n+1 - W.lo / n).toNat (W.lo / n)
     have hpl2:=Nat.mul_le_mul (show (W.hi / n+1 - W.lo / n).toNat≤67 by omega) hlen
     rcases t16_eq (W:=W) hn (q:=W.hi / n) (by omega) h1 ((W.hi / n - W.lo / n).toNat+2) (W.lo / n) (by omega) (by omega) (by omega) with ⟨v',e⟩ | ⟨he,v',e⟩ <;> rw [e] <;> dsimp only
     ·by_cases hp:pL n W (restL r.l n) (W.hi / n+1 - W.lo / n).toNat (W.lo / n)=[]
      ·rw [hp]
       have hs:zo zm ([]:List Sn)=[]:=List.length_eq_zero_iff.1 (by rw [srtG_len gcmp_lo]; rfl)
       rw [hs]
       exact GR_nil
      ·generalize pL n W (restL r.l n) (W.hi / n+1 - W.lo / n).toNat (W.lo / n)=q at *
       rcases ranges_gathered_4p3_at (l:=q) hp (by omega) with ⟨g1,g2⟩ | ⟨g1,g2⟩
       ·rw [g2]; exact GR_end g1
       ·refine .inr ⟨.inl g1,?_⟩
        revert g2
        cases zV (zo zm q) 0 <;> intro g2 <;> first | rfl | cases g2
     ·rw [he]; exact GR_nil
 have hz:restL r.l n ≠ []→(((((restL r.l n).length:Nat):Int)) == 0)=false:=fun hne=>by
  have:=List.length_pos_iff.2 hne
  simp; exact hne
 rcases e with ⟨k1,k2 | k2⟩ | ⟨k1,k2 | k2⟩ <;> rw [k2] <;> dsimp only
 ·exact .inl ⟨k1,rfl⟩
 ·exact .inl ⟨k1,rfl⟩
 ·rw [hz k1,cond_false]
  right
  refine (rest k1 _ ?_).elim (fun h=>.inl ⟨k1,h⟩) (fun h=>.inr ⟨k1,h⟩)
  cases yd n W (restL r.l n) (W.hi / n) ((W.hi / n - W.lo / n).toNat+2) (W.lo / n) with
  | x0 a w c=>dsimp only; cases zV (zo zm w) 0 <;> rfl
  | x1 _=>rfl
  | out=>rfl
 ·rw [hz k1,cond_false]
  right
  refine (rest k1 _ ?_).elim (fun h=>.inl ⟨k1,h⟩) (fun h=>.inr ⟨k1,h⟩)
  cases yd n W (restL r.l n) (W.hi / n) ((W.hi / n - W.lo / n).toNat+2) (W.lo / n) with
  | x0 a w c=>dsimp only; cases zV (zo zm w) 0 <;> rfl
  | x1 _=>rfl
  | out=>rfl
end
end Go.VS

namespace Go.VS
open Go
set_option maxHeartbeats 0
theorem rest_res {r:GS Sn} {n:Int} (hr:Ok r.l) (hn:NOk n):Res (RestS n r.l) (yf r n) :=
 ((Rest_gr hr hn).res (bd_ne (restL_Bd (fun x hx=>cn_mem hr.1 hx) hn))).congr fun y=>In_restL (fun x hx=>cn_mem hr.1 hx) hn.1
def TurnsS (n:Int) (W:Sn) (S:Int→Prop) (y:Int):Prop:=W.lo≤y∧y≤W.hi∧∃ a,S a∧y % n=a % n
theorem turns_res {r:GS Sn} {n:Int} {W:Sn} (hr:Ok r.l) (hn:NOk n) (hW:WOk W):Res (TurnsS n W (In r.l)) (z8 r n W):=by
 have hle:∀ x∈r.l,x.lo≤x.hi:=fun x hx=>cn_mem hr.1 hx
 have hT:∀ y,TurnS n W (restL r.l n) y↔TurnsS n W (In r.l) y:=fun y=>by
  unfold TurnS TurnsS
  rw [In_restL hle hn.1]
  exact Iff.rfl
 have n1:=hn.1
 rcases turns_prog hr hn hW with ⟨p1,p2⟩ | ⟨p1,p2,p3⟩ | ⟨_,_,⟨_,p3⟩ | p3⟩
 ·left
  rw [p2]
  refine ⟨rfl,ok_nil,trivial,fun y=>⟨fun h=>absurd h In_nil,fun h=>?_⟩⟩
  have:=((hT y).2 h).2.2
  rw [p1] at this
  exact absurd this In_nil
 ·left
  rw [p3]
  obtain ⟨w1,w2,w3⟩:=hW
  have c:cn (GS.some [W]).l:=⟨w2,(fun t ht=>by cases ht),trivial⟩
  refine ⟨rfl,⟨c,fun s hs=>?_,by simp [GS.some_l]⟩,c,fun y=>⟨fun h=>?_,fun h=>In_cons.2 (.inl ⟨h.1,h.2.1⟩)⟩⟩
  ·have:s=W:=by simpa [GS.some_l] using hs
   subst this
   omega
  ·rcases In_cons.1 h with ⟨h1,h2⟩ | h
   ·exact (hT y).1 ⟨h1,h2,p2 _ (Int.emod_nonneg _ (by omega)) (Int.emod_lt_of_pos _ (by omega))⟩
   ·exact absurd h In_nil
 ·exact .inr p3
 ·refine (p3.res (pL_ne _ _)).congr fun y=>?_
  rw [In_turns n1 hW.2.1 (restL_one hr hn)]
  exact hT y
theorem zF {r:GS Sn} {n:Int} (hr:Ok r.l) (hn:1≤n∧n≤10000):Tkn (yf r n).1 (yf r n).2:=tk_res (rest_res hr hn)
theorem zr {r:GS Sn} {n:Int} {W:Sn} (hr:Ok r.l) (h:1≤n∧n≤10000∧-1099511627776≤W.lo∧W.lo≤W.hi∧W.hi≤1099511627776):Tkn (z8 r n W).1 (z8 r n W).2:=tk_res (turns_res hr ⟨h.1,h.2.1⟩ h.2.2)
section
variable {L:Bool} {S:Int→Prop} {a:GS Sn} {n:Int} {W:Sn}
theorem Tk.rest (hn:NOk n) (ha:Tk L S a):Tk (takeL L (yf a n).2) (fun y=>∃ z,S z∧y=z % n) (takeR (yf a n).1 (yf a n).2):=by
 refine Tk.lift ?_
 rcases ha with h | ⟨ha,ra⟩
 ·exact .inl h
 exact .inr ((rest_res ha hn).congr fun y=>by unfold RestS; simp only [ra.2])
theorem Tk.turns (hn:NOk n) (hW:WOk W) (ha:Tk L S a):Tk (takeL L (z8 a n W).2) (TurnsS n W S) (takeR (z8 a n W).1 (z8 a n W).2):=by
 refine Tk.lift ?_
 rcases ha with h | ⟨ha,ra⟩
 ·exact .inl h
 exact .inr ((turns_res ha hn hW).congr fun y=>by unfold TurnsS; simp only [ra.2])
end
theorem err_hasN {r:GS Sn} (h:Ok r.l) (n:Int):((zJ r n).2 != 0)=false:=by rw [has_ok h]; rfl
end Go.VS

namespace Go.VS
open Go
abbrev tL0 (r:GS Sn) (n:Int):Bool:=(takeL false ((yf r n).2))
abbrev tv1 (r:GS Sn) (n:Int):GS Sn:=(takeR ((yf r n).1) ((yf r n).2))
abbrev tL2 (r:GS Sn) (n:Int):Bool:=(takeL (tL0 r n) ((yf (tv1 r n) n).2))
abbrev tv3 (r:GS Sn) (n:Int):GS Sn:=(takeR ((yf (tv1 r n) n).1) ((yf (tv1 r n) n).2))
abbrev tL4 (r:GS Sn) (n:Int) (within:Sn):Bool:=(takeL true ((z8 r n within).2))
abbrev tv5 (r:GS Sn) (n:Int) (within:Sn):GS Sn:=(takeR ((z8 r n within).1) ((z8 r n within).2))
abbrev tL6 (r:GS Sn) (n:Int) (within:Sn):Bool:=(takeL (tL4 r n within) ((z8 (tv1 r n) n within).2))
abbrev tv7 (r:GS Sn) (n:Int) (within:Sn):GS Sn:=(takeR ((z8 (tv1 r n) n within).1) ((z8 (tv1 r n) n within).2))
abbrev tL8 (r:GS Sn) (n:Int) (by_:Int):Bool:=(takeL true ((zd r (w64 (n * (by_.tmod 4096)))).2))
abbrev tv9 (r:GS Sn) (n:Int) (by_:Int):GS Sn:=(takeR ((zd r (w64 (n * (by_.tmod 4096)))).1) ((zd r (w64 (n * (by_.tmod 4096)))).2))
abbrev tL10 (r:GS Sn) (n:Int) (within:Sn) (by_:Int):Bool:=(takeL (tL8 r n by_) ((z8 (tv9 r n by_) n within).2))
abbrev zA (r:GS Sn) (n:Int) (within:Sn) (by_:Int):GS Sn:=(takeR ((z8 (tv9 r n by_) n within).1) ((z8 (tv9 r n by_) n within).2))
abbrev tL12 (r:GS Sn) (n:Int) (by_:Int):Bool:=(takeL false ((zd r (w64 (n * (by_.tmod 4096)))).2))
abbrev tL13 (r:GS Sn) (n:Int) (within:Sn) (by_:Int):Bool:=(takeL (tL12 r n by_) ((z8 (tv9 r n by_) n within).2))
abbrev tL14 (r:GS Sn) (n:Int) (within:Sn):Bool:=(takeL false ((z8 r n within).2))
abbrev tL15 (r:GS Sn) (n:Int) (within:Sn):Bool:=(takeL (tL14 r n within) ((z8 (tv1 r n) n within).2))

end Go.VS

namespace Go.VS
open Go
set_option maxHeartbeats 0
theorem takeL_t (e:Int):takeL true e=true:=by unfold takeL; cases (e == 2) <;> rfl
theorem takeL_f {L:Bool} {e:Int} (h:takeL L e=false):L=false:=by
 unfold takeL at h
 cases he:(e == 2) <;> rw [he] at h <;> simp at h
 exact h
theorem holds_t {L z:Bool} (h:L=true):zx L z=true:=holds_of (.inl h)
theorem aro_no {L a b:Bool} (h:L=true ∨ a=b) (hn:(a == b)=false):zx L false=true:=by
 rcases h with h | h
 ·exact holds_t h
 ·rw [h] at hn; simp at hn
section
variable (r:GS Sn) (n:Int) (W:Sn)
theorem aro_t1 (z:Bool):zx (tL4 r n W) z=true:=holds_t (takeL_t _)
theorem aro_t2:tL6 r n W=true:=by unfold tL6 tL4; rw [takeL_t,takeL_t]
theorem aro_t3 (z:Bool):zx (tL6 r n W) z=true:=holds_t (aro_t2 r n W)
theorem aro_t4 (by_:Int) (z:Bool):zx (tL10 r n W by_) z=true:=holds_t (by unfold tL10 tL8; rw [takeL_t,takeL_t])
end
theorem tmod_m {n x:Int} (hn:1≤n∧n≤10000):(w64 ((x.tmod n)+n)).tmod n=x % n:=by
 have e:=Int.mul_tdiv_add_tmod x n
 have e1:=Int.tmod_lt_of_pos x (show 0 < n by omega)
 have e2:-n < x.tmod n:=by
  have:=Int.tmod_lt_of_pos (-x) (show 0 < n by omega)
  rw [Int.neg_tmod] at this
  omega
 generalize x.tmod n=t at *
 rw [w64_eq (by omega) (by omega),Int.tmod_eq_emod_of_nonneg (by omega)]
 have k:t+n=x+n * (1 - x.tdiv n):=by rw [Int.mul_sub]; omega
 rw [k,Int.add_mul_emod_self_left]
section
variable {r:GS Sn} {n:Int} {W:Sn} (hr:Ok r.l) (hn:1≤n∧n≤10000)
include hr hn
theorem aro_tv1:Tk (tL0 r n) (fun y=>∃ z,In r.l z∧y=z % n) (tv1 r n):=Tk.rest hn (Tk.base (L:=false) hr)
theorem aro_1:zx (tL2 r n) (zh (tv3 r n) (tv1 r n))=true :=
 Tk.same (Tk.rest hn (aro_tv1 hr hn)) ((aro_tv1 hr hn).up _) fun y=>⟨fun ⟨_,⟨a,h1,h2⟩,h3⟩=>⟨a,h1,by rw [h3,h2,Int.emod_emod]⟩,fun ⟨a,h1,h2⟩=>⟨y,⟨a,h1,h2⟩,by rw [h2,Int.emod_emod]⟩⟩
theorem aro_rest (h2:tL2 r n=false):Ok (tv1 r n).l∧Rg (fun y=>∃ z,In r.l z∧y=z % n) (tv1 r n).l:=by
 have h0:tL0 r n=false:=takeL_f h2
 rcases aro_tv1 hr hn with h | h
 ·rw [h0] at h; cases h
 ·exact h
end
section
variable {r:GS Sn} {n:Int} {W:Sn} (hr:Ok r.l) (hn:1≤n∧n≤10000) (hW:-1099511627776≤W.lo∧W.lo≤W.hi∧W.hi≤1099511627776)
include hr hn hW
theorem aro_tv5:Tk (tL14 r n W) (TurnsS n W (In r.l)) (tv5 r n W):=Tk.turns hn hW (Tk.base (L:=false) hr)
theorem aro_has (x:Int) (h2:tL2 r n=false):tL14 r n W=true ∨ (zJ (tv5 r n W) x).1=((zJ (tv1 r n) ((w64 ((x.tmod n)+n)).tmod n)).1 && (decide (x ≥ W.lo) && decide (x≤W.hi))):=by
 rcases aro_tv5 hr hn hW with h | ⟨h,g⟩
 ·exact .inl h
 right
 obtain ⟨k,m⟩:=aro_rest hr hn h2
 rw [has_ok h,has_ok k,tmod_m hn,Bool.eq_iff_iff]
 simp only [Bool.and_eq_true,decide_eq_true_eq,inB_iff]
 rw [g.2,m.2]
 unfold TurnsS
 constructor
 ·rintro ⟨a,b,z,c,d⟩; exact ⟨⟨z,c,d⟩,a,b⟩
 ·rintro ⟨⟨z,c,d⟩,a,b⟩; exact ⟨a,b,z,c,d⟩
theorem aro_4 (h2:tL2 r n=false):zx (tL15 r n W) (zh (tv7 r n W) (tv5 r n W))=true:=by
 obtain ⟨k,m⟩:=aro_rest hr hn h2
 have t7:Tk (tL15 r n W) (TurnsS n W (In (tv1 r n).l)) (tv7 r n W):=Tk.turns hn hW (Tk.base (L:=tL14 r n W) k)
 refine Tk.same t7 ((aro_tv5 hr hn hW).up _) fun y=>?_
 unfold TurnsS
 constructor
 ·rintro ⟨a,b,z,c,d⟩
  obtain ⟨u,p,q⟩:=(m.2 z).1 c
  exact ⟨a,b,u,p,by rw [d,q,Int.emod_emod]⟩
 ·rintro ⟨a,b,z,c,d⟩
  exact ⟨a,b,z % n,(m.2 _).2 ⟨z,c,rfl⟩,by rw [Int.emod_emod]; exact d⟩
theorem aro_5 (by_:Int) (h:tL15 r n W=false):zx (tL13 r n W by_) (zh (zA r n W by_) (tv5 r n W))=true:=by
 have h14:tL14 r n W=false:=takeL_f h
 have hb:=Int.tmod_lt_of_pos by_ (show (0:Int) < 4096 by omega)
 have hb2:-4096 < by_.tmod 4096:=by
  have:=Int.tmod_lt_of_pos (-by_) (show (0:Int) < 4096 by omega)
  rw [Int.neg_tmod] at this
  omega
 have hk:w64 (n * (by_.tmod 4096))=n * (by_.tmod 4096):=by
  have h1:=Int.mul_le_mul_of_nonneg_left (show by_.tmod 4096≤4096 by omega) (show 0≤n by omega)
  have h2:=Int.mul_le_mul_of_nonneg_left (show -4096≤by_.tmod 4096 by omega) (show 0≤n by omega)
  exact w64_eq (by omega) (by omega)
 have t9:Tk (tL12 r n by_) (fun y=>In r.l (y - w64 (n * (by_.tmod 4096)))) (tv9 r n by_):=Tk.shift _ (Tk.base (L:=false) hr)
 have t11:Tk (tL13 r n W by_) _ (zA r n W by_):=Tk.turns hn hW t9
 refine Tk.same t11 ((aro_tv5 hr hn hW).down h14) fun y=>?_
 rw [hk]
 unfold TurnsS
 have md:∀ z:Int,(z - n * (by_.tmod 4096)) % n=z % n:=fun z=>by
  rw [show z - n * (by_.tmod 4096)=z+n * (-(by_.tmod 4096)) by rw [Int.mul_neg]; omega,Int.add_mul_emod_self_left]
 constructor
 ·rintro ⟨a,b,z,c,d⟩
  exact ⟨a,b,z - n * (by_.tmod 4096),c,by rw [d,md]⟩
 ·rintro ⟨a,b,z,c,d⟩
  refine ⟨a,b,z+n * (by_.tmod 4096),by show In r.l (z+n * (by_.tmod 4096) - n * (by_.tmod 4096)); rw [show z+n * (by_.tmod 4096) - n * (by_.tmod 4096)=z by omega]; exact c,?_⟩
  rw [d,← md (z+n * (by_.tmod 4096)),show z+n * (by_.tmod 4096) - n * (by_.tmod 4096)=z by omega]
end
end Go.VS

