/- Nothing of a statement is proved in this text alone: it is part 5 of the proof's own tools, an evaluator of the code over deep values, its soundness, and what it makes of this seat's functions. Conditions: none beyond the statement's own. -/
import Derived.Test.YtmdmclbpnkdimaaGreatDoorVsRCDial4
set_option linter.unusedSimpArgs false
set_option linter.unusedVariables false
namespace Go.VS
open Go Go.Proofs
set_option maxHeartbeats 0
set_option linter.unusedSimpArgs false
set_option linter.unusedVariables false
inductive LR_ranges_each_3p5 where
 | x0 (yo:List Sn)
 | x1 (yz:List Sn)
 | x2
 | x3
instance:Inhabited LR_ranges_each_3p5:=⟨.x0 default⟩
def zJ (n:Int):List Sn→(List Sn)→LR_ranges_each_3p5
 | [],yo=>.x0 yo
 | yO::yM,yo =>
  bif (z7 yO n).nl then
   bif ((z7 yO n).l).isEmpty then
    zJ n yM yo
   else
    zJ n yM (yo++((z7 yO n).l))
  else
   bif ((z7 yO n).l).isEmpty then
    zJ n yM yo
   else
    zJ n yM (yo++((z7 yO n).l))
def ye (n:Int):List Sn→(List Sn)→LR_ranges_each_3p5
 | [],yz=>.x1 yz
 | yO::yM,yz =>
  bif (z7 yO n).nl then
   bif ((z7 yO n).l).isEmpty then
    ye n yM yz
   else
    ye n yM (yz++((z7 yO n).l))
  else
   bif ((z7 yO n).l).isEmpty then
    zJ n yM yz
   else
    zJ n yM (yz++((z7 yO n).l))
def ranges_each_3p5b (n:Int):List Sn→LR_ranges_each_3p5
 | []=>.x2
 | yO::yM =>
  bif (z7 yO n).nl then
   bif ((z7 yO n).l).isEmpty then
    ranges_each_3p5b n yM
   else
    zJ n yM ((z7 yO n).l)
  else
   bif ((z7 yO n).l).isEmpty then
    ranges_each_3p5b n yM
   else
    zJ n yM ((z7 yO n).l)
def ranges_each_3p5 (n:Int):List Sn→LR_ranges_each_3p5
 | []=>.x3
 | yO::yM =>
  bif (z7 yO n).nl then
   bif ((z7 yO n).l).isEmpty then
    ranges_each_3p5 n yM
   else
    ye n yM ((z7 yO n).l)
  else
   bif ((z7 yO n).l).isEmpty then
    ranges_each_3p5b n yM
   else
    zJ n yM ((z7 yO n).l)
def lr_ranges_each_3p5 (r:GS Sn) (n:Int):LR_ranges_each_3p5→Exit × St
 | .x0 yo=>((.exit 0),(sd40132 1 2 3 yo r n))
 | .x1 yz=>((.exit 0),(sd40133 1 2 3 yz r n))
 | .x2=>((.exit 0),(sd40134 1 2 r n))
 | .x3=>((.exit 0),(sd40135 1 2 r n))
def iv_ranges_each_3p5 (r:GS Sn) (n:Int):LR_ranges_each_3p5→Prop
 | .x0 yo=>(∀ s∈yo,0≤s.lo∧s.lo≤s.hi∧s.hi < n)∧(yo.length≤2 * r.l.length)
 | .x1 yz=>(∀ s∈yz,0≤s.lo∧s.lo≤s.hi∧s.hi < n)∧(yz.length≤2 * r.l.length)
 | .x2=>True
 | .x3=>True
def ranges_each_3p5c_l_o1 (n:Int) (yO:Sn):List Ora:=[.dec true,.el (.agg [I yO.lo,I yO.hi]),.pureS (.sl ((z7 yO n).nl) (((z7 yO n).l).map Sn.D) (zsl ((z7 yO n).nl) 2) none) true []]
def ranges_each_3p5c_l_o2 (n:Int) (yO:Sn):List Ora:=[.dec true,.el (.agg [I yO.lo,I yO.hi]),.pureS (.sl ((z7 yO n).nl) (((z7 yO n).l).map Sn.D) (zsl ((z7 yO n).nl) 2) none) false []]
theorem lp_ranges_each_3p5c (r:GS Sn) (n:Int):∀ (yM:List Sn) (x8:Nat) (yo:List Sn) (yJ:r.l.drop x8=yM) (xA:x8≤r.l.length) (hB:∀ x∈r.l,-1099511627776≤x.lo∧x.lo≤x.hi∧x.hi≤1099511627776) (xC:r.l.length≤64) (hn:1≤n∧n≤10000) (hr3:∀ s∈yo,0≤s.lo∧s.lo≤s.hi∧s.hi < n) (hg3p5_vc3p5_0:yo.length≤2 * x8) (hL3p5:r.l.length≤1099511627776),(lim cfg).loop 70 lp70_3 ⟨21,[(1,.fn (.func 106) [] [.lref 1 0 1 0]),(5,.lsl 2 0 yo.length 2 none),(8,.sl r.nl (r.l.map Sn.D) (zsl r.nl 2) none),(9,I ((r.l.length:Nat):Int)),(10,I ((x8:Nat):Int))],[(1,⟨[I n],1,true⟩),(2,⟨yo.map Sn.D,2,false⟩)],3,2⟩=some (lr_ranges_each_3p5 r n (zJ n yM yo)):=by
 intro yM
 induction yM with
 | nil =>
  intro x8 yo yJ xA hB xC hn hr3 hg3p5_vc3p5_0 hL3p5
  unfold zJ
  obtain rfl:x8=r.l.length:=nil_eq yJ xA
  exact zF [.dec false] (Ai (lt_no yJ) trivial) (by kernel_rfl)
 | cons yO yM ih =>
  intro x8 yo yJ xA hB xC hn hr3 hg3p5_vc3p5_0 hL3p5
  have hlt3p5:=zc yJ
  have hbx:=hB yO (mem_drop yJ)
  have hlx:=rests1_len yO n
  have hrx:=rests1_bd yO n hbx hn
  unfold zJ
  have p1:=(el_at (s:=r) (f:=Sn.D) (k:=2) yJ)
  cases h18:(z7 yO n).nl with
  | true =>
   have p2:=(Ai (show flat yi (.sl ((z7 yO n).nl) (((z7 yO n).l).map Sn.D) (zsl ((z7 yO n).nl) 2) none)=true from (by rw [h18] <;> kernel_rfl)) (Ai (trivial) (y6 yO n (by omega) (by omega))))
   cases h19:((z7 yO n).l).isEmpty with
   | true =>
    exact zv (ks:=[1,5,8,9,10]) (st':=(sd40136 2 1 3 4 x8 yo yO n r)) ((ranges_each_3p5c_l_o1 n yO)++[.op (some 18) ⟨.lsl 2 0 yo.length 2 none,[],[],4⟩,.rw 19 (I ((x8+1:Nat):Int))]) (Ai (zX (i:=x8) (by have:=zc yJ; omega)) (Ai (app_none (te:=zM) (gO:=zp [(1,⟨[I n],1,true⟩),(2,⟨yo.map Sn.D,2,false⟩),(3,⟨[.agg [I yO.lo,I yO.hi]],2,false⟩)]) (nxt:=4) (f:=Sn.D) (sz:=2) (d:=.lsl 2 0 yo.length 2 none) (z7 yO n) h19 rfl) (Ai p2 (Ai p1 (Ai (yk yJ) trivial))))) (by kernel_rfl) (by (simp only [sd40136,go_sem,List.length_set,Nat.reduceAdd,Nat.reduceEqDiff,Nat.reduceLT,Nat.reduceLeDiff,bI2,z8.idsL,z8.renL,z8.snapAll,z6.idsL,z6.renL,z6.snapAll]) <;> rfl) (ih (x8+1) yo (ze yJ) (zc yJ) (by omega) (by omega) (by omega) (by omega) (by omega) (by omega)) (by kernel_rfl)
   | false =>
    exact zv (ks:=[1,5,8,9,10]) (st':=(sd40137 4 1 2 3 5 x8 yo yO n r)) ((ranges_each_3p5c_l_o1 n yO)++[.op (some 18) ⟨.lsl 4 0 ((yo++((z7 yO n).l)).length) 2 none,[(2,none),(4,some ⟨(yo++((z7 yO n).l)).map Sn.D,2,false⟩)],[2],5⟩,.rw 19 (I ((x8+1:Nat):Int))]) (Ai (zX (i:=x8) (by have:=zc yJ; omega)) (Ai (app_moreD (te:=zM) (gO:=zp [(1,⟨[I n],1,true⟩),(2,⟨yo.map Sn.D,2,false⟩),(3,⟨[.agg [I yO.lo,I yO.hi]],2,false⟩)]) (nxt:=4) (o:=2) (v:=yo) z6 (z7 yO n) h19 (by kernel_rfl) rfl (by kernel_rfl) (by decide) ⟨by simp only [zM,big] <;> (omega),by simp only [big] <;> (omega)⟩) (Ai p2 (Ai p1 (Ai (yk yJ) trivial))))) (by kernel_rfl) (by (simp only [sd40137,go_sem,List.length_set,Nat.reduceAdd,Nat.reduceEqDiff,Nat.reduceLT,Nat.reduceLeDiff,bI2,z8.idsL,z8.renL,z8.snapAll,z6.idsL,z6.renL,z6.snapAll]) <;> rfl) (ih (x8+1) (yo++((z7 yO n).l)) (ze yJ) (zc yJ) (by omega) (by omega) (by omega) (by exact all_app (by assumption) (by assumption)) (by simp only [List.length_append,List.length_cons,List.length_nil] at * <;> omega) (by omega)) (by kernel_rfl)
  | false =>
   have p3:=(Ai (show flat yi (.sl ((z7 yO n).nl) (((z7 yO n).l).map Sn.D) (zsl ((z7 yO n).nl) 2) none)=false from (by rw [h18] <;> kernel_rfl)) (Ai (trivial) (y6 yO n (by omega) (by omega))))
   cases h20:((z7 yO n).l).isEmpty with
   | true =>
    exact zv (ks:=[1,5,8,9,10]) (st':=(sd40136 2 1 3 4 x8 yo yO n r)) ((ranges_each_3p5c_l_o2 n yO)++[.op (some 18) ⟨.lsl 2 0 yo.length 2 none,[],[],4⟩,.rw 19 (I ((x8+1:Nat):Int))]) (Ai (zX (i:=x8) (by have:=zc yJ; omega)) (Ai (app_none (te:=zM) (gO:=zp [(1,⟨[I n],1,true⟩),(2,⟨yo.map Sn.D,2,false⟩),(3,⟨[.agg [I yO.lo,I yO.hi]],2,false⟩)]) (nxt:=4) (f:=Sn.D) (sz:=2) (d:=.lsl 2 0 yo.length 2 none) (z7 yO n) h20 rfl) (Ai p3 (Ai p1 (Ai (yk yJ) trivial))))) (by kernel_rfl) (by (simp only [sd40136,go_sem,List.length_set,Nat.reduceAdd,Nat.reduceEqDiff,Nat.reduceLT,Nat.reduceLeDiff,bI2,z8.idsL,z8.renL,z8.snapAll,z6.idsL,z6.renL,z6.snapAll]) <;> rfl) (ih (x8+1) yo (ze yJ) (zc yJ) (by omega) (by omega) (by omega) (by omega) (by omega) (by omega)) (by kernel_rfl)
   | false =>
    exact zv (ks:=[1,5,8,9,10]) (st':=(sd40137 4 1 2 3 5 x8 yo yO n r)) ((ranges_each_3p5c_l_o2 n yO)++[.op (some 18) ⟨.lsl 4 0 ((yo++((z7 yO n).l)).length) 2 none,[(2,none),(4,some ⟨(yo++((z7 yO n).l)).map Sn.D,2,false⟩)],[2],5⟩,.rw 19 (I ((x8+1:Nat):Int))]) (Ai (zX (i:=x8) (by have:=zc yJ; omega)) (Ai (app_moreD (te:=zM) (gO:=zp [(1,⟨[I n],1,true⟩),(2,⟨yo.map Sn.D,2,false⟩),(3,⟨[.agg [I yO.lo,I yO.hi]],2,false⟩)]) (nxt:=4) (o:=2) (v:=yo) z6 (z7 yO n) h20 (by kernel_rfl) rfl (by kernel_rfl) (by decide) ⟨by simp only [zM,big] <;> (omega),by simp only [big] <;> (omega)⟩) (Ai p3 (Ai p1 (Ai (yk yJ) trivial))))) (by kernel_rfl) (by (simp only [sd40137,go_sem,List.length_set,Nat.reduceAdd,Nat.reduceEqDiff,Nat.reduceLT,Nat.reduceLeDiff,bI2,z8.idsL,z8.renL,z8.snapAll,z6.idsL,z6.renL,z6.snapAll]) <;> rfl) (ih (x8+1) (yo++((z7 yO n).l)) (ze yJ) (zc yJ) (by omega) (by omega) (by omega) (by exact all_app (by assumption) (by assumption)) (by simp only [List.length_append,List.length_cons,List.length_nil] at * <;> omega) (by omega)) (by kernel_rfl)
theorem ivt_ranges_each_3p5c (r:GS Sn) (n:Int):∀ (yM:List Sn) (x8:Nat) (yo:List Sn) (yJ:r.l.drop x8=yM) (xA:x8≤r.l.length) (hB:∀ x∈r.l,-1099511627776≤x.lo∧x.lo≤x.hi∧x.hi≤1099511627776) (xC:r.l.length≤64) (hn:1≤n∧n≤10000) (hr3:∀ s∈yo,0≤s.lo∧s.lo≤s.hi∧s.hi < n) (hg3p5_vc3p5_0:yo.length≤2 * x8) (hL3p5:r.l.length≤1099511627776),iv_ranges_each_3p5 r n (zJ n yM yo):=by
 intro yM
 induction yM with
 | nil =>
  intro x8 yo yJ xA hB xC hn hr3 hg3p5_vc3p5_0 hL3p5
  unfold zJ
  obtain rfl:x8=r.l.length:=nil_eq yJ xA
  exact ⟨hr3,hg3p5_vc3p5_0⟩
 | cons yO yM ih =>
  intro x8 yo yJ xA hB xC hn hr3 hg3p5_vc3p5_0 hL3p5
  have hlt3p5:=zc yJ
  have hbx:=hB yO (mem_drop yJ)
  have hlx:=rests1_len yO n
  have hrx:=rests1_bd yO n hbx hn
  unfold zJ
  cases h18:(z7 yO n).nl with
  | true =>
   cases h19:((z7 yO n).l).isEmpty with
   | true =>
    exact ih (x8+1) yo (ze yJ) (zc yJ) (by omega) (by omega) (by omega) (by omega) (by omega) (by omega)
   | false =>
    exact ih (x8+1) (yo++((z7 yO n).l)) (ze yJ) (zc yJ) (by omega) (by omega) (by omega) (by exact all_app (by assumption) (by assumption)) (by simp only [List.length_append,List.length_cons,List.length_nil] at * <;> omega) (by omega)
  | false =>
   cases h20:((z7 yO n).l).isEmpty with
   | true =>
    exact ih (x8+1) yo (ze yJ) (zc yJ) (by omega) (by omega) (by omega) (by omega) (by omega) (by omega)
   | false =>
    exact ih (x8+1) (yo++((z7 yO n).l)) (ze yJ) (zc yJ) (by omega) (by omega) (by omega) (by exact all_app (by assumption) (by assumption)) (by simp only [List.length_append,List.length_cons,List.length_nil] at * <;> omega) (by omega)
def ranges_each_3p5a_l_o1 (n:Int) (yO:Sn):List Ora:=[.dec true,.el (.agg [I yO.lo,I yO.hi]),.pureS (.sl ((z7 yO n).nl) (((z7 yO n).l).map Sn.D) (zsl ((z7 yO n).nl) 2) none) true []]
def ranges_each_3p5a_l_o2 (n:Int) (yO:Sn):List Ora:=[.dec true,.el (.agg [I yO.lo,I yO.hi]),.pureS (.sl ((z7 yO n).nl) (((z7 yO n).l).map Sn.D) (zsl ((z7 yO n).nl) 2) none) false []]
theorem lp_ranges_each_3p5a (r:GS Sn) (n:Int):∀ (yM:List Sn) (x8:Nat) (yz:List Sn) (yJ:r.l.drop x8=yM) (xA:x8≤r.l.length) (hB:∀ x∈r.l,-1099511627776≤x.lo∧x.lo≤x.hi∧x.hi≤1099511627776) (xC:r.l.length≤64) (hn:1≤n∧n≤10000) (hr1:∀ s∈yz,0≤s.lo∧s.lo≤s.hi∧s.hi < n) (hg3p5_va3p5_0:yz.length≤2 * x8) (hL3p5:r.l.length≤1099511627776),(lim cfg).loop 70 lp70_3 ⟨21,[(1,.fn (.func 106) [] [.lref 1 0 1 0]),(5,.lsl 2 0 yz.length 2 none),(8,.sl r.nl (r.l.map Sn.D) (zsl r.nl 2) none),(9,I ((r.l.length:Nat):Int)),(10,I ((x8:Nat):Int))],[(1,⟨[I n],1,false⟩),(2,⟨yz.map Sn.D,2,false⟩)],3,2⟩=some (lr_ranges_each_3p5 r n (ye n yM yz)):=by
 intro yM
 induction yM with
 | nil =>
  intro x8 yz yJ xA hB xC hn hr1 hg3p5_va3p5_0 hL3p5
  unfold ye
  obtain rfl:x8=r.l.length:=nil_eq yJ xA
  exact zF [.dec false] (Ai (lt_no yJ) trivial) (by kernel_rfl)
 | cons yO yM ih =>
  intro x8 yz yJ xA hB xC hn hr1 hg3p5_va3p5_0 hL3p5
  have hlt3p5:=zc yJ
  have hbx:=hB yO (mem_drop yJ)
  have hlx:=rests1_len yO n
  have hrx:=rests1_bd yO n hbx hn
  unfold ye
  have p1:=(el_at (s:=r) (f:=Sn.D) (k:=2) yJ)
  cases h21:(z7 yO n).nl with
  | true =>
   have p2:=(Ai (show flat yi (.sl ((z7 yO n).nl) (((z7 yO n).l).map Sn.D) (zsl ((z7 yO n).nl) 2) none)=true from (by rw [h21] <;> kernel_rfl)) (Ai (trivial) (y6 yO n (by omega) (by omega))))
   cases h22:((z7 yO n).l).isEmpty with
   | true =>
    exact zv (ks:=[1,5,8,9,10]) (st':=(sd40138 2 1 3 4 x8 yz yO n r)) ((ranges_each_3p5a_l_o1 n yO)++[.op (some 18) ⟨.lsl 2 0 yz.length 2 none,[],[],4⟩,.rw 19 (I ((x8+1:Nat):Int))]) (Ai (zX (i:=x8) (by have:=zc yJ; omega)) (Ai (app_none (te:=zM) (gO:=zp [(1,⟨[I n],1,false⟩),(2,⟨yz.map Sn.D,2,false⟩),(3,⟨[.agg [I yO.lo,I yO.hi]],2,false⟩)]) (nxt:=4) (f:=Sn.D) (sz:=2) (d:=.lsl 2 0 yz.length 2 none) (z7 yO n) h22 rfl) (Ai p2 (Ai p1 (Ai (yk yJ) trivial))))) (by kernel_rfl) (by (simp only [sd40138,go_sem,List.length_set,Nat.reduceAdd,Nat.reduceEqDiff,Nat.reduceLT,Nat.reduceLeDiff,bI2,z8.idsL,z8.renL,z8.snapAll,z6.idsL,z6.renL,z6.snapAll]) <;> rfl) (ih (x8+1) yz (ze yJ) (zc yJ) (by omega) (by omega) (by omega) (by omega) (by omega) (by omega)) (by kernel_rfl)
   | false =>
    exact zv (ks:=[1,5,8,9,10]) (st':=(sd40139 4 1 2 3 5 x8 yz yO n r)) ((ranges_each_3p5a_l_o1 n yO)++[.op (some 18) ⟨.lsl 4 0 ((yz++((z7 yO n).l)).length) 2 none,[(2,none),(4,some ⟨(yz++((z7 yO n).l)).map Sn.D,2,false⟩)],[2],5⟩,.rw 19 (I ((x8+1:Nat):Int))]) (Ai (zX (i:=x8) (by have:=zc yJ; omega)) (Ai (app_moreD (te:=zM) (gO:=zp [(1,⟨[I n],1,false⟩),(2,⟨yz.map Sn.D,2,false⟩),(3,⟨[.agg [I yO.lo,I yO.hi]],2,false⟩)]) (nxt:=4) (o:=2) (v:=yz) z6 (z7 yO n) h22 (by kernel_rfl) rfl (by kernel_rfl) (by decide) ⟨by simp only [zM,big] <;> (omega),by simp only [big] <;> (omega)⟩) (Ai p2 (Ai p1 (Ai (yk yJ) trivial))))) (by kernel_rfl) (by (simp only [sd40139,go_sem,List.length_set,Nat.reduceAdd,Nat.reduceEqDiff,Nat.reduceLT,Nat.reduceLeDiff,bI2,z8.idsL,z8.renL,z8.snapAll,z6.idsL,z6.renL,z6.snapAll]) <;> rfl) (ih (x8+1) (yz++((z7 yO n).l)) (ze yJ) (zc yJ) (by omega) (by omega) (by omega) (by exact all_app (by assumption) (by assumption)) (by simp only [List.length_append,List.length_cons,List.length_nil] at * <;> omega) (by omega)) (by kernel_rfl)
  | false =>
   have p3:=(Ai (show flat yi (.sl ((z7 yO n).nl) (((z7 yO n).l).map Sn.D) (zsl ((z7 yO n).nl) 2) none)=false from (by rw [h21] <;> kernel_rfl)) (Ai (trivial) (y6 yO n (by omega) (by omega))))
   cases h23:((z7 yO n).l).isEmpty with
   | true =>
    exact zv (ks:=[1,5,8,9,10]) (st':=(sd40136 2 1 3 4 x8 yz yO n r)) ((ranges_each_3p5a_l_o2 n yO)++[.op (some 18) ⟨.lsl 2 0 yz.length 2 none,[],[],4⟩,.rw 19 (I ((x8+1:Nat):Int))]) (Ai (zX (i:=x8) (by have:=zc yJ; omega)) (Ai (app_none (te:=zM) (gO:=zp [(1,⟨[I n],1,true⟩),(2,⟨yz.map Sn.D,2,false⟩),(3,⟨[.agg [I yO.lo,I yO.hi]],2,false⟩)]) (nxt:=4) (f:=Sn.D) (sz:=2) (d:=.lsl 2 0 yz.length 2 none) (z7 yO n) h23 rfl) (Ai p3 (Ai p1 (Ai (yk yJ) trivial))))) (by kernel_rfl) (by (simp only [sd40136,go_sem,List.length_set,Nat.reduceAdd,Nat.reduceEqDiff,Nat.reduceLT,Nat.reduceLeDiff,bI2,z8.idsL,z8.renL,z8.snapAll,z6.idsL,z6.renL,z6.snapAll]) <;> rfl) (lp_ranges_each_3p5c r n _ (x8+1) yz (ze yJ) (zc yJ) (by omega) (by omega) (by omega) (by omega) (by omega) (by omega)) (by kernel_rfl)
   | false =>
    exact zv (ks:=[1,5,8,9,10]) (st':=(sd40137 4 1 2 3 5 x8 yz yO n r)) ((ranges_each_3p5a_l_o2 n yO)++[.op (some 18) ⟨.lsl 4 0 ((yz++((z7 yO n).l)).length) 2 none,[(2,none),(4,some ⟨(yz++((z7 yO n).l)).map Sn.D,2,false⟩)],[2],5⟩,.rw 19 (I ((x8+1:Nat):Int))]) (Ai (zX (i:=x8) (by have:=zc yJ; omega)) (Ai (app_moreD (te:=zM) (gO:=zp [(1,⟨[I n],1,true⟩),(2,⟨yz.map Sn.D,2,false⟩),(3,⟨[.agg [I yO.lo,I yO.hi]],2,false⟩)]) (nxt:=4) (o:=2) (v:=yz) z6 (z7 yO n) h23 (by kernel_rfl) rfl (by kernel_rfl) (by decide) ⟨by simp only [zM,big] <;> (omega),by simp only [big] <;> (omega)⟩) (Ai p3 (Ai p1 (Ai (yk yJ) trivial))))) (by kernel_rfl) (by (simp only [sd40137,go_sem,List.length_set,Nat.reduceAdd,Nat.reduceEqDiff,Nat.reduceLT,Nat.reduceLeDiff,bI2,z8.idsL,z8.renL,z8.snapAll,z6.idsL,z6.renL,z6.snapAll]) <;> rfl) (lp_ranges_each_3p5c r n _ (x8+1) (yz++((z7 yO n).l)) (ze yJ) (zc yJ) (by omega) (by omega) (by omega) (by exact all_app (by assumption) (by assumption)) (by simp only [List.length_append,List.length_cons,List.length_nil] at * <;> omega) (by omega)) (by kernel_rfl)
theorem ivt_ranges_each_3p5a (r:GS Sn) (n:Int):∀ (yM:List Sn) (x8:Nat) (yz:List Sn) (yJ:r.l.drop x8=yM) (xA:x8≤r.l.length) (hB:∀ x∈r.l,-1099511627776≤x.lo∧x.lo≤x.hi∧x.hi≤1099511627776) (xC:r.l.length≤64) (hn:1≤n∧n≤10000) (hr1:∀ s∈yz,0≤s.lo∧s.lo≤s.hi∧s.hi < n) (hg3p5_va3p5_0:yz.length≤2 * x8) (hL3p5:r.l.length≤1099511627776),iv_ranges_each_3p5 r n (ye n yM yz):=by
 intro yM
 induction yM with
 | nil =>
  intro x8 yz yJ xA hB xC hn hr1 hg3p5_va3p5_0 hL3p5
  unfold ye
  obtain rfl:x8=r.l.length:=nil_eq yJ xA
  exact ⟨hr1,hg3p5_va3p5_0⟩
 | cons yO yM ih =>
  intro x8 yz yJ xA hB xC hn hr1 hg3p5_va3p5_0 hL3p5
  have hlt3p5:=zc yJ
  have hbx:=hB yO (mem_drop yJ)
  have hlx:=rests1_len yO n
  have hrx:=rests1_bd yO n hbx hn
  unfold ye
  cases h21:(z7 yO n).nl with
  | true =>
   cases h22:((z7 yO n).l).isEmpty with
   | true =>
    exact ih (x8+1) yz (ze yJ) (zc yJ) (by omega) (by omega) (by omega) (by omega) (by omega) (by omega)
   | false =>
    exact ih (x8+1) (yz++((z7 yO n).l)) (ze yJ) (zc yJ) (by omega) (by omega) (by omega) (by exact all_app (by assumption) (by assumption)) (by simp only [List.length_append,List.length_cons,List.length_nil] at * <;> omega) (by omega)
  | false =>
   cases h23:((z7 yO n).l).isEmpty with
   | true =>
    exact ivt_ranges_each_3p5c r n _ (x8+1) yz (ze yJ) (zc yJ) (by omega) (by omega) (by omega) (by omega) (by omega) (by omega)
   | false =>
    exact ivt_ranges_each_3p5c r n _ (x8+1) (yz++((z7 yO n).l)) (ze yJ) (zc yJ) (by omega) (by omega) (by omega) (by exact all_app (by assumption) (by assumption)) (by simp only [List.length_append,List.length_cons,List.length_nil] at * <;> omega) (by omega)
def ranges_each_3p5b_l_o1 (n:Int) (yO:Sn):List Ora:=[.dec true,.el (.agg [I yO.lo,I yO.hi]),.pureS (.sl ((z7 yO n).nl) (((z7 yO n).l).map Sn.D) (zsl ((z7 yO n).nl) 2) none) true []]
def ranges_each_3p5b_l_o2 (n:Int) (yO:Sn):List Ora:=[.dec true,.el (.agg [I yO.lo,I yO.hi]),.pureS (.sl ((z7 yO n).nl) (((z7 yO n).l).map Sn.D) (zsl ((z7 yO n).nl) 2) none) false []]
theorem lp_ranges_each_3p5b (r:GS Sn) (n:Int):∀ (yM:List Sn) (x8:Nat) (yJ:r.l.drop x8=yM) (xA:x8≤r.l.length) (hB:∀ x∈r.l,-1099511627776≤x.lo∧x.lo≤x.hi∧x.hi≤1099511627776) (xC:r.l.length≤64) (hn:1≤n∧n≤10000) (hL3p5:r.l.length≤1099511627776),(lim cfg).loop 70 lp70_3 ⟨21,[(1,.fn (.func 106) [] [.lref 1 0 1 0]),(5,.sl true [] 0 none),(8,.sl r.nl (r.l.map Sn.D) (zsl r.nl 2) none),(9,I ((r.l.length:Nat):Int)),(10,I ((x8:Nat):Int))],[(1,⟨[I n],1,true⟩)],2,2⟩=some (lr_ranges_each_3p5 r n (ranges_each_3p5b n yM)):=by
 intro yM
 induction yM with
 | nil =>
  intro x8 yJ xA hB xC hn hL3p5
  unfold ranges_each_3p5b
  obtain rfl:x8=r.l.length:=nil_eq yJ xA
  exact zF [.dec false] (Ai (lt_no yJ) trivial) (by kernel_rfl)
 | cons yO yM ih =>
  intro x8 yJ xA hB xC hn hL3p5
  have hlt3p5:=zc yJ
  have hbx:=hB yO (mem_drop yJ)
  have hlx:=rests1_len yO n
  have hrx:=rests1_bd yO n hbx hn
  unfold ranges_each_3p5b
  have p1:=(el_at (s:=r) (f:=Sn.D) (k:=2) yJ)
  cases h24:(z7 yO n).nl with
  | true =>
   have p2:=(Ai (show flat yi (.sl ((z7 yO n).nl) (((z7 yO n).l).map Sn.D) (zsl ((z7 yO n).nl) 2) none)=true from (by rw [h24] <;> kernel_rfl)) (Ai (trivial) (y6 yO n (by omega) (by omega))))
   cases h25:((z7 yO n).l).isEmpty with
   | true =>
    exact po_turn ((ranges_each_3p5b_l_o1 n yO)++[.op (some 18) ⟨.sl true [] 0 none,[],[],3⟩,.rw 19 (I ((x8+1:Nat):Int))]) (Ai (zX (i:=x8) (by have:=zc yJ; omega)) (Ai (app_none (te:=zM) (gO:=zp [(1,⟨[I n],1,true⟩),(2,⟨[.agg [I yO.lo,I yO.hi]],2,false⟩)]) (nxt:=3) (f:=Sn.D) (sz:=2) (d:=.sl true [] 0 none) (z7 yO n) h25 rfl) (Ai p2 (Ai p1 (Ai (yk yJ) trivial))))) (ih (x8+1) (ze yJ) (zc yJ) (by omega) (by omega) (by omega) (by omega)) (by kernel_rfl)
   | false =>
    exact zv (ks:=[1,5,8,9,10]) (st':=(sd40140 3 1 2 4 x8 yO n r)) ((ranges_each_3p5b_l_o1 n yO)++[.op (some 18) ⟨.lsl 3 0 (((z7 yO n).l).length) 2 none,[(3,some ⟨((z7 yO n).l).map Sn.D,2,false⟩)],[],4⟩,.rw 19 (I ((x8+1:Nat):Int))]) (Ai (zX (i:=x8) (by have:=zc yJ; omega)) (Ai (app_newD (te:=zM) (gO:=zp [(1,⟨[I n],1,true⟩),(2,⟨[.agg [I yO.lo,I yO.hi]],2,false⟩)]) (nxt:=3) (els0:=[]) (sz0:=0) (cap0:=none) z6 (z7 yO n) h25 rfl (by kernel_rfl) (by decide) ⟨by simp only [zM,big] <;> (omega),by simp only [big] <;> (omega)⟩) (Ai p2 (Ai p1 (Ai (yk yJ) trivial))))) (by kernel_rfl) (by (simp only [sd40140,go_sem,List.length_set,Nat.reduceAdd,Nat.reduceEqDiff,Nat.reduceLT,Nat.reduceLeDiff,bI2,z8.idsL,z8.renL,z8.snapAll,z6.idsL,z6.renL,z6.snapAll]) <;> rfl) (lp_ranges_each_3p5c r n _ (x8+1) ((z7 yO n).l) (ze yJ) (zc yJ) (by omega) (by omega) (by omega) (by omega) (by omega) (by omega)) (by kernel_rfl)
  | false =>
   have p3:=(Ai (show flat yi (.sl ((z7 yO n).nl) (((z7 yO n).l).map Sn.D) (zsl ((z7 yO n).nl) 2) none)=false from (by rw [h24] <;> kernel_rfl)) (Ai (trivial) (y6 yO n (by omega) (by omega))))
   cases h26:((z7 yO n).l).isEmpty with
   | true =>
    exact po_turn ((ranges_each_3p5b_l_o2 n yO)++[.op (some 18) ⟨.sl true [] 0 none,[],[],3⟩,.rw 19 (I ((x8+1:Nat):Int))]) (Ai (zX (i:=x8) (by have:=zc yJ; omega)) (Ai (app_none (te:=zM) (gO:=zp [(1,⟨[I n],1,true⟩),(2,⟨[.agg [I yO.lo,I yO.hi]],2,false⟩)]) (nxt:=3) (f:=Sn.D) (sz:=2) (d:=.sl true [] 0 none) (z7 yO n) h26 rfl) (Ai p3 (Ai p1 (Ai (yk yJ) trivial))))) (ih (x8+1) (ze yJ) (zc yJ) (by omega) (by omega) (by omega) (by omega)) (by kernel_rfl)
   | false =>
    exact zv (ks:=[1,5,8,9,10]) (st':=(sd40140 3 1 2 4 x8 yO n r)) ((ranges_each_3p5b_l_o2 n yO)++[.op (some 18) ⟨.lsl 3 0 (((z7 yO n).l).length) 2 none,[(3,some ⟨((z7 yO n).l).map Sn.D,2,false⟩)],[],4⟩,.rw 19 (I ((x8+1:Nat):Int))]) (Ai (zX (i:=x8) (by have:=zc yJ; omega)) (Ai (app_newD (te:=zM) (gO:=zp [(1,⟨[I n],1,true⟩),(2,⟨[.agg [I yO.lo,I yO.hi]],2,false⟩)]) (nxt:=3) (els0:=[]) (sz0:=0) (cap0:=none) z6 (z7 yO n) h26 rfl (by kernel_rfl) (by decide) ⟨by simp only [zM,big] <;> (omega),by simp only [big] <;> (omega)⟩) (Ai p3 (Ai p1 (Ai (yk yJ) trivial))))) (by kernel_rfl) (by (simp only [sd40140,go_sem,List.length_set,Nat.reduceAdd,Nat.reduceEqDiff,Nat.reduceLT,Nat.reduceLeDiff,bI2,z8.idsL,z8.renL,z8.snapAll,z6.idsL,z6.renL,z6.snapAll]) <;> rfl) (lp_ranges_each_3p5c r n _ (x8+1) ((z7 yO n).l) (ze yJ) (zc yJ) (by omega) (by omega) (by omega) (by omega) (by omega) (by omega)) (by kernel_rfl)
theorem ivt_ranges_each_3p5b (r:GS Sn) (n:Int):∀ (yM:List Sn) (x8:Nat) (yJ:r.l.drop x8=yM) (xA:x8≤r.l.length) (hB:∀ x∈r.l,-1099511627776≤x.lo∧x.lo≤x.hi∧x.hi≤1099511627776) (xC:r.l.length≤64) (hn:1≤n∧n≤10000) (hL3p5:r.l.length≤1099511627776),iv_ranges_each_3p5 r n (ranges_each_3p5b n yM):=by
 intro yM
 induction yM with
 | nil =>
  intro x8 yJ xA hB xC hn hL3p5
  unfold ranges_each_3p5b
  obtain rfl:x8=r.l.length:=nil_eq yJ xA
  exact trivial
 | cons yO yM ih =>
  intro x8 yJ xA hB xC hn hL3p5
  have hlt3p5:=zc yJ
  have hbx:=hB yO (mem_drop yJ)
  have hlx:=rests1_len yO n
  have hrx:=rests1_bd yO n hbx hn
  unfold ranges_each_3p5b
  cases h24:(z7 yO n).nl with
  | true =>
   cases h25:((z7 yO n).l).isEmpty with
   | true =>
    exact ih (x8+1) (ze yJ) (zc yJ) (by omega) (by omega) (by omega) (by omega)
   | false =>
    exact ivt_ranges_each_3p5c r n _ (x8+1) ((z7 yO n).l) (ze yJ) (zc yJ) (by omega) (by omega) (by omega) (by omega) (by omega) (by omega)
  | false =>
   cases h26:((z7 yO n).l).isEmpty with
   | true =>
    exact ih (x8+1) (ze yJ) (zc yJ) (by omega) (by omega) (by omega) (by omega)
   | false =>
    exact ivt_ranges_each_3p5c r n _ (x8+1) ((z7 yO n).l) (ze yJ) (zc yJ) (by omega) (by omega) (by omega) (by omega) (by omega) (by omega)
def ranges_each_3p5_l_o1 (n:Int) (yO:Sn):List Ora:=[.dec true,.el (.agg [I yO.lo,I yO.hi]),.pureS (.sl ((z7 yO n).nl) (((z7 yO n).l).map Sn.D) (zsl ((z7 yO n).nl) 2) none) true []]
def ranges_each_3p5_l_o2 (n:Int) (yO:Sn):List Ora:=[.dec true,.el (.agg [I yO.lo,I yO.hi]),.pureS (.sl ((z7 yO n).nl) (((z7 yO n).l).map Sn.D) (zsl ((z7 yO n).nl) 2) none) false []]
theorem lp_ranges_each_3p5 (r:GS Sn) (n:Int):∀ (yM:List Sn) (x8:Nat) (yJ:r.l.drop x8=yM) (xA:x8≤r.l.length) (hB:∀ x∈r.l,-1099511627776≤x.lo∧x.lo≤x.hi∧x.hi≤1099511627776) (xC:r.l.length≤64) (hn:1≤n∧n≤10000) (hL3p5:r.l.length≤1099511627776),(lim cfg).loop 70 lp70_3 ⟨21,[(1,.fn (.func 106) [] [.lref 1 0 1 0]),(5,.sl true [] 0 none),(8,.sl r.nl (r.l.map Sn.D) (zsl r.nl 2) none),(9,I ((r.l.length:Nat):Int)),(10,I ((x8:Nat):Int))],[(1,⟨[I n],1,false⟩)],2,2⟩=some (lr_ranges_each_3p5 r n (ranges_each_3p5 n yM)):=by
 intro yM
 induction yM with
 | nil =>
  intro x8 yJ xA hB xC hn hL3p5
  unfold ranges_each_3p5
  obtain rfl:x8=r.l.length:=nil_eq yJ xA
  exact zF [.dec false] (Ai (lt_no yJ) trivial) (by kernel_rfl)
 | cons yO yM ih =>
  intro x8 yJ xA hB xC hn hL3p5
  have hlt3p5:=zc yJ
  have hbx:=hB yO (mem_drop yJ)
  have hlx:=rests1_len yO n
  have hrx:=rests1_bd yO n hbx hn
  unfold ranges_each_3p5
  have p1:=(el_at (s:=r) (f:=Sn.D) (k:=2) yJ)
  cases h27:(z7 yO n).nl with
  | true =>
   have p2:=(Ai (show flat yi (.sl ((z7 yO n).nl) (((z7 yO n).l).map Sn.D) (zsl ((z7 yO n).nl) 2) none)=true from (by rw [h27] <;> kernel_rfl)) (Ai (trivial) (y6 yO n (by omega) (by omega))))
   cases h28:((z7 yO n).l).isEmpty with
   | true =>
    exact po_turn ((ranges_each_3p5_l_o1 n yO)++[.op (some 18) ⟨.sl true [] 0 none,[],[],3⟩,.rw 19 (I ((x8+1:Nat):Int))]) (Ai (zX (i:=x8) (by have:=zc yJ; omega)) (Ai (app_none (te:=zM) (gO:=zp [(1,⟨[I n],1,false⟩),(2,⟨[.agg [I yO.lo,I yO.hi]],2,false⟩)]) (nxt:=3) (f:=Sn.D) (sz:=2) (d:=.sl true [] 0 none) (z7 yO n) h28 rfl) (Ai p2 (Ai p1 (Ai (yk yJ) trivial))))) (ih (x8+1) (ze yJ) (zc yJ) (by omega) (by omega) (by omega) (by omega)) (by kernel_rfl)
   | false =>
    exact zv (ks:=[1,5,8,9,10]) (st':=(sd40141 3 1 2 4 x8 yO n r)) ((ranges_each_3p5_l_o1 n yO)++[.op (some 18) ⟨.lsl 3 0 (((z7 yO n).l).length) 2 none,[(3,some ⟨((z7 yO n).l).map Sn.D,2,false⟩)],[],4⟩,.rw 19 (I ((x8+1:Nat):Int))]) (Ai (zX (i:=x8) (by have:=zc yJ; omega)) (Ai (app_newD (te:=zM) (gO:=zp [(1,⟨[I n],1,false⟩),(2,⟨[.agg [I yO.lo,I yO.hi]],2,false⟩)]) (nxt:=3) (els0:=[]) (sz0:=0) (cap0:=none) z6 (z7 yO n) h28 rfl (by kernel_rfl) (by decide) ⟨by simp only [zM,big] <;> (omega),by simp only [big] <;> (omega)⟩) (Ai p2 (Ai p1 (Ai (yk yJ) trivial))))) (by kernel_rfl) (by (simp only [sd40141,go_sem,List.length_set,Nat.reduceAdd,Nat.reduceEqDiff,Nat.reduceLT,Nat.reduceLeDiff,bI2,z8.idsL,z8.renL,z8.snapAll,z6.idsL,z6.renL,z6.snapAll]) <;> rfl) (lp_ranges_each_3p5a r n _ (x8+1) ((z7 yO n).l) (ze yJ) (zc yJ) (by omega) (by omega) (by omega) (by omega) (by omega) (by omega)) (by kernel_rfl)
  | false =>
   have p3:=(Ai (show flat yi (.sl ((z7 yO n).nl) (((z7 yO n).l).map Sn.D) (zsl ((z7 yO n).nl) 2) none)=false from (by rw [h27] <;> kernel_rfl)) (Ai (trivial) (y6 yO n (by omega) (by omega))))
   cases h29:((z7 yO n).l).isEmpty with
   | true =>
    exact po_turn ((ranges_each_3p5_l_o2 n yO)++[.op (some 18) ⟨.sl true [] 0 none,[],[],3⟩,.rw 19 (I ((x8+1:Nat):Int))]) (Ai (zX (i:=x8) (by have:=zc yJ; omega)) (Ai (app_none (te:=zM) (gO:=zp [(1,⟨[I n],1,true⟩),(2,⟨[.agg [I yO.lo,I yO.hi]],2,false⟩)]) (nxt:=3) (f:=Sn.D) (sz:=2) (d:=.sl true [] 0 none) (z7 yO n) h29 rfl) (Ai p3 (Ai p1 (Ai (yk yJ) trivial))))) (lp_ranges_each_3p5b r n _ (x8+1) (ze yJ) (zc yJ) (by omega) (by omega) (by omega) (by omega)) (by kernel_rfl)
   | false =>
    exact zv (ks:=[1,5,8,9,10]) (st':=(sd40140 3 1 2 4 x8 yO n r)) ((ranges_each_3p5_l_o2 n yO)++[.op (some 18) ⟨.lsl 3 0 (((z7 yO n).l).length) 2 none,[(3,some ⟨((z7 yO n).l).map Sn.D,2,false⟩)],[],4⟩,.rw 19 (I ((x8+1:Nat):Int))]) (Ai (zX (i:=x8) (by have:=zc yJ; omega)) (Ai (app_newD (te:=zM) (gO:=zp [(1,⟨[I n],1,true⟩),(2,⟨[.agg [I yO.lo,I yO.hi]],2,false⟩)]) (nxt:=3) (els0:=[]) (sz0:=0) (cap0:=none) z6 (z7 yO n) h29 rfl (by kernel_rfl) (by decide) ⟨by simp only [zM,big] <;> (omega),by simp only [big] <;> (omega)⟩) (Ai p3 (Ai p1 (Ai (yk yJ) trivial))))) (by kernel_rfl) (by (simp only [sd40140,go_sem,List.length_set,Nat.reduceAdd,Nat.reduceEqDiff,Nat.reduceLT,Nat.reduceLeDiff,bI2,z8.idsL,z8.renL,z8.snapAll,z6.idsL,z6.renL,z6.snapAll]) <;> rfl) (lp_ranges_each_3p5c r n _ (x8+1) ((z7 yO n).l) (ze yJ) (zc yJ) (by omega) (by omega) (by omega) (by omega) (by omega) (by omega)) (by kernel_rfl)
theorem ivt_ranges_each_3p5 (r:GS Sn) (n:Int):∀ (yM:List Sn) (x8:Nat) (yJ:r.l.drop x8=yM) (xA:x8≤r.l.length) (hB:∀ x∈r.l,-1099511627776≤x.lo∧x.lo≤x.hi∧x.hi≤1099511627776) (xC:r.l.length≤64) (hn:1≤n∧n≤10000) (hL3p5:r.l.length≤1099511627776),iv_ranges_each_3p5 r n (ranges_each_3p5 n yM):=by
 intro yM
 induction yM with
 | nil =>
  intro x8 yJ xA hB xC hn hL3p5
  unfold ranges_each_3p5
  obtain rfl:x8=r.l.length:=nil_eq yJ xA
  exact trivial
 | cons yO yM ih =>
  intro x8 yJ xA hB xC hn hL3p5
  have hlt3p5:=zc yJ
  have hbx:=hB yO (mem_drop yJ)
  have hlx:=rests1_len yO n
  have hrx:=rests1_bd yO n hbx hn
  unfold ranges_each_3p5
  cases h27:(z7 yO n).nl with
  | true =>
   cases h28:((z7 yO n).l).isEmpty with
   | true =>
    exact ih (x8+1) (ze yJ) (zc yJ) (by omega) (by omega) (by omega) (by omega)
   | false =>
    exact ivt_ranges_each_3p5a r n _ (x8+1) ((z7 yO n).l) (ze yJ) (zc yJ) (by omega) (by omega) (by omega) (by omega) (by omega) (by omega)
  | false =>
   cases h29:((z7 yO n).l).isEmpty with
   | true =>
    exact ivt_ranges_each_3p5b r n _ (x8+1) (ze yJ) (zc yJ) (by omega) (by omega) (by omega) (by omega)
   | false =>
    exact ivt_ranges_each_3p5c r n _ (x8+1) ((z7 yO n).l) (ze yJ) (zc yJ) (by omega) (by omega) (by omega) (by omega) (by omega) (by omega)

def sd40142 (ν0 ν1 ν2 ν3:Nat) (μ0:Int) (μ1:List Sn) (μ2:Int) (μ3:List Sn) (μ4:Int) (μ5:Sn):St:=⟨104,[(75,B false),(1,I μ0),(5,.lref ν0 0 2 0),(9,.lsl ν1 0 μ1.length 2 none),(11,I μ2),(12,.lsl ν2 0 μ3.length 2 none),(13,I μ4),(72,.lsl ν1 0 μ1.length 2 none),(73,I ((μ1.length:Nat):Int)),(74,I ((μ1.length:Nat):Int))],[(ν0,⟨[.agg [I μ5.lo,I μ5.hi]],2,false⟩),(ν1,⟨μ1.map Sn.D,2,false⟩),(ν2,⟨μ3.map Sn.D,2,false⟩)],ν3,ν0⟩

noncomputable def lp22_19:Code:=subC [1,1,1,1,1,1,1,1,1,0,1,0,0,1,0,0,1,0,0] (bodyC Tryz.f22)

def sd40144 (ν0 ν1 ν2 ν3 ν4:Nat) (μ0:Nat) (μ1:List Sn) (μ2:Sn) (μ3:Sn) (μ4:Int) (μ5:Int) (μ6:List Sn) (μ7:Int):St:=⟨104,[(74,I ((μ0+1:Nat):Int)),(99,I ((μ0+1:Nat):Int)),(12,.lsl ν0 0 μ1.length 2 none),(98,.lsl ν0 0 μ1.length 2 none),(97,.sl ((zd (zu μ2.lo (w64 (μ3.lo+(w64 (μ4 * μ5))))) (zT μ2.hi (w64 (μ3.hi+(w64 (μ4 * μ5)))))).nl) (((zd (zu μ2.lo (w64 (μ3.lo+(w64 (μ4 * μ5))))) (zT μ2.hi (w64 (μ3.hi+(w64 (μ4 * μ5)))))).l).map Sn.D) (zsl ((zd (zu μ2.lo (w64 (μ3.lo+(w64 (μ4 * μ5))))) (zT μ2.hi (w64 (μ3.hi+(w64 (μ4 * μ5)))))).nl) 2) none),(96,I (zT μ2.hi (w64 (μ3.hi+(w64 (μ4 * μ5)))))),(95,I (w64 (μ3.hi+(w64 (μ4 * μ5))))),(94,I (w64 (μ4 * μ5))),(93,I μ5),(92,I μ4),(91,I μ3.hi),(90,.lref ν1 0 2 1),(89,I μ2.hi),(88,.lref ν2 0 2 1),(87,I (zu μ2.lo (w64 (μ3.lo+(w64 (μ4 * μ5)))))),(86,I (w64 (μ3.lo+(w64 (μ4 * μ5))))),(85,I (w64 (μ4 * μ5))),(84,I μ5),(83,I μ4),(82,I μ3.lo),(81,.lref ν1 0 2 0),(80,I μ2.lo),(79,.lref ν2 0 2 0),(78,.lsl ν0 0 μ1.length 2 none),(15,.lref ν1 0 2 0),(77,.agg [I μ3.lo,I μ3.hi]),(76,.lref ν3 μ0 2 0),(75,B true),(1,I μ5),(5,.lref ν2 0 2 0),(9,.lsl ν3 0 μ6.length 2 none),(11,I μ7),(12,.lsl ν0 0 μ1.length 2 none),(13,I μ4),(72,.lsl ν3 0 μ6.length 2 none),(73,I ((μ6.length:Nat):Int)),(74,I ((μ0:Nat):Int))],[(ν2,⟨[.agg [I μ2.lo,I μ2.hi]],2,false⟩),(ν3,⟨μ6.map Sn.D,2,false⟩),(ν0,⟨μ1.map Sn.D,2,false⟩),(ν1,⟨[.agg [I μ3.lo,I μ3.hi]],2,false⟩)],ν4,ν2⟩

def sd40145 (ν0 ν1 ν2 ν3 ν4 ν5:Nat) (μ0:Nat) (μ1:List Sn) (μ2:Sn) (μ3:Sn) (μ4:Int) (μ5:Int) (μ6:List Sn) (μ7:Int):St:=⟨104,[(74,I ((μ0+1:Nat):Int)),(99,I ((μ0+1:Nat):Int)),(12,.lsl ν0 0 ((μ1++((zd (zu μ2.lo (w64 (μ3.lo+(w64 (μ4 * μ5))))) (zT μ2.hi (w64 (μ3.hi+(w64 (μ4 * μ5)))))).l)).length) 2 none),(98,.lsl ν0 0 ((μ1++((zd (zu μ2.lo (w64 (μ3.lo+(w64 (μ4 * μ5))))) (zT μ2.hi (w64 (μ3.hi+(w64 (μ4 * μ5)))))).l)).length) 2 none),(97,.sl ((zd (zu μ2.lo (w64 (μ3.lo+(w64 (μ4 * μ5))))) (zT μ2.hi (w64 (μ3.hi+(w64 (μ4 * μ5)))))).nl) (((zd (zu μ2.lo (w64 (μ3.lo+(w64 (μ4 * μ5))))) (zT μ2.hi (w64 (μ3.hi+(w64 (μ4 * μ5)))))).l).map Sn.D) (zsl ((zd (zu μ2.lo (w64 (μ3.lo+(w64 (μ4 * μ5))))) (zT μ2.hi (w64 (μ3.hi+(w64 (μ4 * μ5)))))).nl) 2) none),(96,I (zT μ2.hi (w64 (μ3.hi+(w64 (μ4 * μ5)))))),(95,I (w64 (μ3.hi+(w64 (μ4 * μ5))))),(94,I (w64 (μ4 * μ5))),(93,I μ5),(92,I μ4),(91,I μ3.hi),(90,.lref ν1 0 2 1),(89,I μ2.hi),(88,.lref ν2 0 2 1),(87,I (zu μ2.lo (w64 (μ3.lo+(w64 (μ4 * μ5)))))),(86,I (w64 (μ3.lo+(w64 (μ4 * μ5))))),(85,I (w64 (μ4 * μ5))),(84,I μ5),(83,I μ4),(82,I μ3.lo),(81,.lref ν1 0 2 0),(80,I μ2.lo),(79,.lref ν2 0 2 0),(78,.lsl ν3 0 μ1.length 2 none),(15,.lref ν1 0 2 0),(77,.agg [I μ3.lo,I μ3.hi]),(76,.lref ν4 μ0 2 0),(75,B true),(1,I μ5),(5,.lref ν2 0 2 0),(9,.lsl ν4 0 μ6.length 2 none),(11,I μ7),(12,.lsl ν3 0 μ1.length 2 none),(13,I μ4),(72,.lsl ν4 0 μ6.length 2 none),(73,I ((μ6.length:Nat):Int)),(74,I ((μ0:Nat):Int))],[(ν2,⟨[.agg [I μ2.lo,I μ2.hi]],2,false⟩),(ν4,⟨μ6.map Sn.D,2,false⟩),(ν1,⟨[.agg [I μ3.lo,I μ3.hi]],2,false⟩),(ν0,⟨(μ1++((zd (zu μ2.lo (w64 (μ3.lo+(w64 (μ4 * μ5))))) (zT μ2.hi (w64 (μ3.hi+(w64 (μ4 * μ5)))))).l)).map Sn.D,2,false⟩)],ν5,ν2⟩

inductive LR_ranges_Turns_19 where
 | x0 (xo:List Sn)
instance:Inhabited LR_ranges_Turns_19:=⟨.x0 default⟩
def yg (n:Int) (within:Sn) (yB:Int):List Sn→(List Sn)→LR_ranges_Turns_19
 | [],xo=>.x0 xo
 | x19::xL,xo =>
  bif ((zd (zu within.lo (w64 (x19.lo+(w64 (yB * n))))) (zT within.hi (w64 (x19.hi+(w64 (yB * n)))))).l).isEmpty then
   yg n within yB xL xo
  else
   yg n within yB xL (xo++((zd (zu within.lo (w64 (x19.lo+(w64 (yB * n))))) (zT within.hi (w64 (x19.hi+(w64 (yB * n)))))).l))
def lr_ranges_Turns_19 (n:Int) (within:Sn) (yG:Int) (yF:List Sn) (yB:Int):LR_ranges_Turns_19→Exit × St
 | .x0 xo=>((.exit 2),(sd40142 0 1 2 3 n yF yG xo yB within))
def iv_ranges_Turns_19 (n:Int) (within:Sn) (yG:Int) (yF:List Sn) (yB:Int):LR_ranges_Turns_19→Prop
 | .x0 xo=>(((xo.length:Nat):Int)≤128 * (yB - yG+66)+yF.length)
theorem lp_ranges_Turns_19 (n:Int) (within:Sn) (yG:Int) (yF:List Sn) (yB:Int):∀ (xL:List Sn) (i19:Nat) (xo:List Sn) (hd19:yF.drop i19=xL) (hi19:i19≤yF.length) (ho:yF.length≤128) (hv0:yG - 66≤yB∧yB≤yG+1∧-1099511627777≤yB∧yG≤1099511627777) (hg0:((xo.length:Nat):Int)≤128 * (yB - yG+66)+i19) (hL19:yF.length≤9223372036854775807),(lim cfg).loop 22 lp22_19 ⟨104,[(1,I n),(5,.lref 0 0 2 0),(9,.lsl 1 0 yF.length 2 none),(11,I yG),(12,.lsl 2 0 xo.length 2 none),(13,I yB),(72,.lsl 1 0 yF.length 2 none),(73,I ((yF.length:Nat):Int)),(74,I ((i19:Nat):Int))],[(0,⟨[.agg [I within.lo,I within.hi]],2,false⟩),(1,⟨yF.map Sn.D,2,false⟩),(2,⟨xo.map Sn.D,2,false⟩)],3,0⟩=some (lr_ranges_Turns_19 n within yG yF yB (yg n within yB xL xo)):=by
 intro xL
 induction xL with
 | nil =>
  intro i19 xo hd19 hi19 ho hv0 hg0 hL19
  unfold yg
  obtain rfl:i19=yF.length:=nil_eq hd19 hi19
  exact zF [.dec false] (Ai (lt_no hd19) trivial) (by kernel_rfl)
 | cons x19 xL ih =>
  intro i19 xo hd19 hi19 ho hv0 hg0 hL19
  have hlt19:=zc hd19
  have hlx:=some1 (zu within.lo (w64 (x19.lo+(w64 (yB * n))))) (zT within.hi (w64 (x19.hi+(w64 (yB * n)))))
  unfold yg
  cases h46:((zd (zu within.lo (w64 (x19.lo+(w64 (yB * n))))) (zT within.hi (w64 (x19.hi+(w64 (yB * n)))))).l).isEmpty with
  | true =>
   exact zv (ks:=[1,5,9,11,12,13,72,73,74]) (st':=(sd40144 2 3 0 1 4 i19 xo within x19 yB n yF yG)) [.dec true,.op (some 76) ⟨.lref 1 i19 2 0,[],[],3⟩,.op (some 77) ⟨.agg [I x19.lo,I x19.hi],[],[1],3⟩,.pure (.sl ((zd (zu within.lo (w64 (x19.lo+(w64 (yB * n))))) (zT within.hi (w64 (x19.hi+(w64 (yB * n)))))).nl) (((zd (zu within.lo (w64 (x19.lo+(w64 (yB * n))))) (zT within.hi (w64 (x19.hi+(w64 (yB * n)))))).l).map Sn.D) (zsl ((zd (zu within.lo (w64 (x19.lo+(w64 (yB * n))))) (zT within.hi (w64 (x19.hi+(w64 (yB * n)))))).nl) 2) none),.op (some 98) ⟨.lsl 2 0 xo.length 2 none,[],[],4⟩,.rw 99 (I ((i19+1:Nat):Int))] (Ai (zX (i:=i19) (by have:=zc hd19; omega)) (Ai (app_none (te:=zM) (gO:=zp [(0,⟨[.agg [I within.lo,I within.hi]],2,false⟩),(1,⟨yF.map Sn.D,2,false⟩),(2,⟨xo.map Sn.D,2,false⟩),(3,⟨[.agg [I x19.lo,I x19.hi]],2,false⟩)]) (nxt:=4) (f:=Sn.D) (sz:=2) (d:=.lsl 2 0 xo.length 2 none) (zd (zu within.lo (w64 (x19.lo+(w64 (yB * n))))) (zT within.hi (w64 (x19.hi+(w64 (yB * n)))))) h46 rfl) (Ai (T_ranges_some (zu within.lo (w64 (x19.lo+(w64 (yB * n))))) (zT within.hi (w64 (x19.hi+(w64 (yB * n)))))) (Ai (load_row (C:=cfg) (objs:=[(0,⟨[.agg [I within.lo,I within.hi]],2,false⟩),(1,⟨yF.map Sn.D,2,false⟩),(2,⟨xo.map Sn.D,2,false⟩)]) (nxt:=3) (t:=25) (ty:=zM) (o:=1) (n:=i19) (sz:=2) (sub:=0) (ob:=⟨yF.map Sn.D,2,false⟩) (e:=Sn.D x19) (d:=.agg [I x19.lo,I x19.hi]) (by kernel_rfl) (by kernel_rfl) rfl (row_at (f:=Sn.D) hd19) (by kernel_rfl)) (Ai (idx_row (C:=cfg) (nxt:=3) (t:=22) (ty:=ty22) (te:=zM) (e:=25) (o:=1) (len:=yF.length) (sz:=2) (cap:=none) (i:=((i19:Nat):Int)) (by kernel_rfl) rfl (by kernel_rfl) rfl (by omega) (by omega)) (Ai (yk hd19) trivial)))))) (by kernel_rfl) (by (simp only [sd40144,go_sem,List.length_set,Nat.reduceAdd,Nat.reduceEqDiff,Nat.reduceLT,Nat.reduceLeDiff,bI2,z8.idsL,z8.renL,z8.snapAll,z6.idsL,z6.renL,z6.snapAll]) <;> rfl) (ih (i19+1) xo (ze hd19) (zc hd19) (by omega) (by omega) (by omega) (by omega)) (by kernel_rfl)
  | false =>
   exact zv (ks:=[1,5,9,11,12,13,72,73,74]) (st':=(sd40145 4 3 0 2 1 5 i19 xo within x19 yB n yF yG)) [.dec true,.op (some 76) ⟨.lref 1 i19 2 0,[],[],3⟩,.op (some 77) ⟨.agg [I x19.lo,I x19.hi],[],[1],3⟩,.pure (.sl ((zd (zu within.lo (w64 (x19.lo+(w64 (yB * n))))) (zT within.hi (w64 (x19.hi+(w64 (yB * n)))))).nl) (((zd (zu within.lo (w64 (x19.lo+(w64 (yB * n))))) (zT within.hi (w64 (x19.hi+(w64 (yB * n)))))).l).map Sn.D) (zsl ((zd (zu within.lo (w64 (x19.lo+(w64 (yB * n))))) (zT within.hi (w64 (x19.hi+(w64 (yB * n)))))).nl) 2) none),.op (some 98) ⟨.lsl 4 0 ((xo++((zd (zu within.lo (w64 (x19.lo+(w64 (yB * n))))) (zT within.hi (w64 (x19.hi+(w64 (yB * n)))))).l)).length) 2 none,[(2,none),(4,some ⟨(xo++((zd (zu within.lo (w64 (x19.lo+(w64 (yB * n))))) (zT within.hi (w64 (x19.hi+(w64 (yB * n)))))).l)).map Sn.D,2,false⟩)],[2],5⟩,.rw 99 (I ((i19+1:Nat):Int))] (Ai (zX (i:=i19) (by have:=zc hd19; omega)) (Ai (app_moreD (te:=zM) (gO:=zp [(0,⟨[.agg [I within.lo,I within.hi]],2,false⟩),(1,⟨yF.map Sn.D,2,false⟩),(2,⟨xo.map Sn.D,2,false⟩),(3,⟨[.agg [I x19.lo,I x19.hi]],2,false⟩)]) (nxt:=4) (o:=2) (v:=xo) z6 (zd (zu within.lo (w64 (x19.lo+(w64 (yB * n))))) (zT within.hi (w64 (x19.hi+(w64 (yB * n)))))) h46 (by kernel_rfl) rfl (by kernel_rfl) (by decide) ⟨by simp only [zM,big] <;> (omega),by simp only [big] <;> (omega)⟩) (Ai (T_ranges_some (zu within.lo (w64 (x19.lo+(w64 (yB * n))))) (zT within.hi (w64 (x19.hi+(w64 (yB * n)))))) (Ai (load_row (C:=cfg) (objs:=[(0,⟨[.agg [I within.lo,I within.hi]],2,false⟩),(1,⟨yF.map Sn.D,2,false⟩),(2,⟨xo.map Sn.D,2,false⟩)]) (nxt:=3) (t:=25) (ty:=zM) (o:=1) (n:=i19) (sz:=2) (sub:=0) (ob:=⟨yF.map Sn.D,2,false⟩) (e:=Sn.D x19) (d:=.agg [I x19.lo,I x19.hi]) (by kernel_rfl) (by kernel_rfl) rfl (row_at (f:=Sn.D) hd19) (by kernel_rfl)) (Ai (idx_row (C:=cfg) (nxt:=3) (t:=22) (ty:=ty22) (te:=zM) (e:=25) (o:=1) (len:=yF.length) (sz:=2) (cap:=none) (i:=((i19:Nat):Int)) (by kernel_rfl) rfl (by kernel_rfl) rfl (by omega) (by omega)) (Ai (yk hd19) trivial)))))) (by kernel_rfl) (by (simp only [sd40145,go_sem,List.length_set,Nat.reduceAdd,Nat.reduceEqDiff,Nat.reduceLT,Nat.reduceLeDiff,bI2,z8.idsL,z8.renL,z8.snapAll,z6.idsL,z6.renL,z6.snapAll]) <;> rfl) (ih (i19+1) (xo++((zd (zu within.lo (w64 (x19.lo+(w64 (yB * n))))) (zT within.hi (w64 (x19.hi+(w64 (yB * n)))))).l)) (ze hd19) (zc hd19) (by omega) (by omega) (by simp only [List.length_append,List.length_cons,List.length_nil] at * <;> omega) (by omega)) (by kernel_rfl)
theorem ivt_ranges_Turns_19 (n:Int) (within:Sn) (yG:Int) (yF:List Sn) (yB:Int):∀ (xL:List Sn) (i19:Nat) (xo:List Sn) (hd19:yF.drop i19=xL) (hi19:i19≤yF.length) (ho:yF.length≤128) (hv0:yG - 66≤yB∧yB≤yG+1∧-1099511627777≤yB∧yG≤1099511627777) (hg0:((xo.length:Nat):Int)≤128 * (yB - yG+66)+i19) (hL19:yF.length≤9223372036854775807),iv_ranges_Turns_19 n within yG yF yB (yg n within yB xL xo):=by
 intro xL
 induction xL with
 | nil =>
  intro i19 xo hd19 hi19 ho hv0 hg0 hL19
  unfold yg
  obtain rfl:i19=yF.length:=nil_eq hd19 hi19
  exact hg0
 | cons x19 xL ih =>
  intro i19 xo hd19 hi19 ho hv0 hg0 hL19
  have hlt19:=zc hd19
  have hlx:=some1 (zu within.lo (w64 (x19.lo+(w64 (yB * n))))) (zT within.hi (w64 (x19.hi+(w64 (yB * n)))))
  unfold yg
  cases h46:((zd (zu within.lo (w64 (x19.lo+(w64 (yB * n))))) (zT within.hi (w64 (x19.hi+(w64 (yB * n)))))).l).isEmpty with
  | true =>
   exact ih (i19+1) xo (ze hd19) (zc hd19) (by omega) (by omega) (by omega) (by omega)
  | false =>
   exact ih (i19+1) (xo++((zd (zu within.lo (w64 (x19.lo+(w64 (yB * n))))) (zT within.hi (w64 (x19.hi+(w64 (yB * n)))))).l)) (ze hd19) (zc hd19) (by omega) (by omega) (by simp only [List.length_append,List.length_cons,List.length_nil] at * <;> omega) (by omega)

def sd40143 (ν0 ν1 ν2:Nat) (μ0:Int) (μ1:List Sn) (μ2:Int) (μ3:Int) (μ4:Sn):St:=⟨104,[(75,B false),(1,I μ0),(5,.lref ν0 0 2 0),(9,.lsl ν1 0 μ1.length 2 none),(11,I μ2),(12,.sl true [] 0 none),(13,I μ3),(72,.lsl ν1 0 μ1.length 2 none),(73,I ((μ1.length:Nat):Int)),(74,I ((μ1.length:Nat):Int))],[(ν0,⟨[.agg [I μ4.lo,I μ4.hi]],2,false⟩),(ν1,⟨μ1.map Sn.D,2,false⟩)],ν2,ν0⟩

def sd40146 (ν0 ν1 ν2 ν3:Nat) (μ0:Nat) (μ1:Sn) (μ2:Sn) (μ3:Int) (μ4:Int) (μ5:List Sn) (μ6:Int):St:=⟨104,[(74,I ((μ0+1:Nat):Int)),(99,I ((μ0+1:Nat):Int)),(12,.sl true [] 0 none),(98,.sl true [] 0 none),(97,.sl ((zd (zu μ1.lo (w64 (μ2.lo+(w64 (μ3 * μ4))))) (zT μ1.hi (w64 (μ2.hi+(w64 (μ3 * μ4)))))).nl) (((zd (zu μ1.lo (w64 (μ2.lo+(w64 (μ3 * μ4))))) (zT μ1.hi (w64 (μ2.hi+(w64 (μ3 * μ4)))))).l).map Sn.D) (zsl ((zd (zu μ1.lo (w64 (μ2.lo+(w64 (μ3 * μ4))))) (zT μ1.hi (w64 (μ2.hi+(w64 (μ3 * μ4)))))).nl) 2) none),(96,I (zT μ1.hi (w64 (μ2.hi+(w64 (μ3 * μ4)))))),(95,I (w64 (μ2.hi+(w64 (μ3 * μ4))))),(94,I (w64 (μ3 * μ4))),(93,I μ4),(92,I μ3),(91,I μ2.hi),(90,.lref ν0 0 2 1),(89,I μ1.hi),(88,.lref ν1 0 2 1),(87,I (zu μ1.lo (w64 (μ2.lo+(w64 (μ3 * μ4)))))),(86,I (w64 (μ2.lo+(w64 (μ3 * μ4))))),(85,I (w64 (μ3 * μ4))),(84,I μ4),(83,I μ3),(82,I μ2.lo),(81,.lref ν0 0 2 0),(80,I μ1.lo),(79,.lref ν1 0 2 0),(78,.sl true [] 0 none),(15,.lref ν0 0 2 0),(77,.agg [I μ2.lo,I μ2.hi]),(76,.lref ν2 μ0 2 0),(75,B true),(1,I μ4),(5,.lref ν1 0 2 0),(9,.lsl ν2 0 μ5.length 2 none),(11,I μ6),(12,.sl true [] 0 none),(13,I μ3),(72,.lsl ν2 0 μ5.length 2 none),(73,I ((μ5.length:Nat):Int)),(74,I ((μ0:Nat):Int))],[(ν1,⟨[.agg [I μ1.lo,I μ1.hi]],2,false⟩),(ν2,⟨μ5.map Sn.D,2,false⟩),(ν0,⟨[.agg [I μ2.lo,I μ2.hi]],2,false⟩)],ν3,ν1⟩

def sd40147 (ν0 ν1 ν2 ν3 ν4:Nat) (μ0:Nat) (μ1:Sn) (μ2:Sn) (μ3:Int) (μ4:Int) (μ5:List Sn) (μ6:Int):St:=⟨104,[(74,I ((μ0+1:Nat):Int)),(99,I ((μ0+1:Nat):Int)),(12,.lsl ν0 0 (((zd (zu μ1.lo (w64 (μ2.lo+(w64 (μ3 * μ4))))) (zT μ1.hi (w64 (μ2.hi+(w64 (μ3 * μ4)))))).l).length) 2 none),(98,.lsl ν0 0 (((zd (zu μ1.lo (w64 (μ2.lo+(w64 (μ3 * μ4))))) (zT μ1.hi (w64 (μ2.hi+(w64 (μ3 * μ4)))))).l).length) 2 none),(97,.sl ((zd (zu μ1.lo (w64 (μ2.lo+(w64 (μ3 * μ4))))) (zT μ1.hi (w64 (μ2.hi+(w64 (μ3 * μ4)))))).nl) (((zd (zu μ1.lo (w64 (μ2.lo+(w64 (μ3 * μ4))))) (zT μ1.hi (w64 (μ2.hi+(w64 (μ3 * μ4)))))).l).map Sn.D) (zsl ((zd (zu μ1.lo (w64 (μ2.lo+(w64 (μ3 * μ4))))) (zT μ1.hi (w64 (μ2.hi+(w64 (μ3 * μ4)))))).nl) 2) none),(96,I (zT μ1.hi (w64 (μ2.hi+(w64 (μ3 * μ4)))))),(95,I (w64 (μ2.hi+(w64 (μ3 * μ4))))),(94,I (w64 (μ3 * μ4))),(93,I μ4),(92,I μ3),(91,I μ2.hi),(90,.lref ν1 0 2 1),(89,I μ1.hi),(88,.lref ν2 0 2 1),(87,I (zu μ1.lo (w64 (μ2.lo+(w64 (μ3 * μ4)))))),(86,I (w64 (μ2.lo+(w64 (μ3 * μ4))))),(85,I (w64 (μ3 * μ4))),(84,I μ4),(83,I μ3),(82,I μ2.lo),(81,.lref ν1 0 2 0),(80,I μ1.lo),(79,.lref ν2 0 2 0),(78,.sl true [] 0 none),(15,.lref ν1 0 2 0),(77,.agg [I μ2.lo,I μ2.hi]),(76,.lref ν3 μ0 2 0),(75,B true),(1,I μ4),(5,.lref ν2 0 2 0),(9,.lsl ν3 0 μ5.length 2 none),(11,I μ6),(12,.sl true [] 0 none),(13,I μ3),(72,.lsl ν3 0 μ5.length 2 none),(73,I ((μ5.length:Nat):Int)),(74,I ((μ0:Nat):Int))],[(ν2,⟨[.agg [I μ1.lo,I μ1.hi]],2,false⟩),(ν3,⟨μ5.map Sn.D,2,false⟩),(ν1,⟨[.agg [I μ2.lo,I μ2.hi]],2,false⟩),(ν0,⟨((zd (zu μ1.lo (w64 (μ2.lo+(w64 (μ3 * μ4))))) (zT μ1.hi (w64 (μ2.hi+(w64 (μ3 * μ4)))))).l).map Sn.D,2,false⟩)],ν4,ν2⟩

inductive LR_ranges_Turns_19p1 where
 | x0 (yS:List Sn)
 | x1
instance:Inhabited LR_ranges_Turns_19p1:=⟨.x0 default⟩
def ya (n:Int) (within:Sn) (yC:Int):List Sn→(List Sn)→LR_ranges_Turns_19p1
 | [],yS=>.x0 yS
 | yR::yX,yS =>
  bif ((zd (zu within.lo (w64 (yR.lo+(w64 (yC * n))))) (zT within.hi (w64 (yR.hi+(w64 (yC * n)))))).l).isEmpty then
   ya n within yC yX yS
  else
   ya n within yC yX (yS++((zd (zu within.lo (w64 (yR.lo+(w64 (yC * n))))) (zT within.hi (w64 (yR.hi+(w64 (yC * n)))))).l))
def yf (n:Int) (within:Sn) (yC:Int):List Sn→LR_ranges_Turns_19p1
 | []=>.x1
 | yR::yX =>
  bif ((zd (zu within.lo (w64 (yR.lo+(w64 (yC * n))))) (zT within.hi (w64 (yR.hi+(w64 (yC * n)))))).l).isEmpty then
   yf n within yC yX
  else
   ya n within yC yX ((zd (zu within.lo (w64 (yR.lo+(w64 (yC * n))))) (zT within.hi (w64 (yR.hi+(w64 (yC * n)))))).l)
def lr_ranges_Turns_19p1 (n:Int) (within:Sn) (yo:List Sn) (yG:Int) (yC:Int):LR_ranges_Turns_19p1→Exit × St
 | .x0 yS=>((.exit 2),(sd40142 0 1 2 3 n yo yG yS yC within))
 | .x1=>((.exit 2),(sd40143 0 1 2 n yo yG yC within))
def iv_ranges_Turns_19p1 (n:Int) (within:Sn) (yo:List Sn) (yG:Int) (yC:Int):LR_ranges_Turns_19p1→Prop
 | .x0 yS=>(((yS.length:Nat):Int)≤128 * (yC - yG+66)+yo.length)
 | .x1=>True
theorem lp_ranges_Turns_19p1a (n:Int) (within:Sn) (yo:List Sn) (yG:Int) (yC:Int):∀ (yX:List Sn) (xd:Nat) (yS:List Sn) (yY:yo.drop xd=yX) (xH:xd≤yo.length) (ho:yo.length≤128) (hv1:yG - 66≤yC∧yC≤yG+1∧-1099511627777≤yC∧yG≤1099511627777) (hg1:((yS.length:Nat):Int)≤128 * (yC - yG+66)+xd) (hL19p1:yo.length≤9223372036854775807),(lim cfg).loop 22 lp22_19 ⟨104,[(1,I n),(5,.lref 0 0 2 0),(9,.lsl 1 0 yo.length 2 none),(11,I yG),(12,.lsl 2 0 yS.length 2 none),(13,I yC),(72,.lsl 1 0 yo.length 2 none),(73,I ((yo.length:Nat):Int)),(74,I ((xd:Nat):Int))],[(0,⟨[.agg [I within.lo,I within.hi]],2,false⟩),(1,⟨yo.map Sn.D,2,false⟩),(2,⟨yS.map Sn.D,2,false⟩)],3,0⟩=some (lr_ranges_Turns_19p1 n within yo yG yC (ya n within yC yX yS)):=by
 intro yX
 induction yX with
 | nil =>
  intro xd yS yY xH ho hv1 hg1 hL19p1
  unfold ya
  obtain rfl:xd=yo.length:=nil_eq yY xH
  exact zF [.dec false] (Ai (lt_no yY) trivial) (by kernel_rfl)
 | cons yR yX ih =>
  intro xd yS yY xH ho hv1 hg1 hL19p1
  have hlt19p1:=zc yY
  have hlx:=some1 (zu within.lo (w64 (yR.lo+(w64 (yC * n))))) (zT within.hi (w64 (yR.hi+(w64 (yC * n)))))
  unfold ya
  cases h51:((zd (zu within.lo (w64 (yR.lo+(w64 (yC * n))))) (zT within.hi (w64 (yR.hi+(w64 (yC * n)))))).l).isEmpty with
  | true =>
   exact zv (ks:=[1,5,9,11,12,13,72,73,74]) (st':=(sd40144 2 3 0 1 4 xd yS within yR yC n yo yG)) [.dec true,.op (some 76) ⟨.lref 1 xd 2 0,[],[],3⟩,.op (some 77) ⟨.agg [I yR.lo,I yR.hi],[],[1],3⟩,.pure (.sl ((zd (zu within.lo (w64 (yR.lo+(w64 (yC * n))))) (zT within.hi (w64 (yR.hi+(w64 (yC * n)))))).nl) (((zd (zu within.lo (w64 (yR.lo+(w64 (yC * n))))) (zT within.hi (w64 (yR.hi+(w64 (yC * n)))))).l).map Sn.D) (zsl ((zd (zu within.lo (w64 (yR.lo+(w64 (yC * n))))) (zT within.hi (w64 (yR.hi+(w64 (yC * n)))))).nl) 2) none),.op (some 98) ⟨.lsl 2 0 yS.length 2 none,[],[],4⟩,.rw 99 (I ((xd+1:Nat):Int))] (Ai (zX (i:=xd) (by have:=zc yY; omega)) (Ai (app_none (te:=zM) (gO:=zp [(0,⟨[.agg [I within.lo,I within.hi]],2,false⟩),(1,⟨yo.map Sn.D,2,false⟩),(2,⟨yS.map Sn.D,2,false⟩),(3,⟨[.agg [I yR.lo,I yR.hi]],2,false⟩)]) (nxt:=4) (f:=Sn.D) (sz:=2) (d:=.lsl 2 0 yS.length 2 none) (zd (zu within.lo (w64 (yR.lo+(w64 (yC * n))))) (zT within.hi (w64 (yR.hi+(w64 (yC * n)))))) h51 rfl) (Ai (T_ranges_some (zu within.lo (w64 (yR.lo+(w64 (yC * n))))) (zT within.hi (w64 (yR.hi+(w64 (yC * n)))))) (Ai (load_row (C:=cfg) (objs:=[(0,⟨[.agg [I within.lo,I within.hi]],2,false⟩),(1,⟨yo.map Sn.D,2,false⟩),(2,⟨yS.map Sn.D,2,false⟩)]) (nxt:=3) (t:=25) (ty:=zM) (o:=1) (n:=xd) (sz:=2) (sub:=0) (ob:=⟨yo.map Sn.D,2,false⟩) (e:=Sn.D yR) (d:=.agg [I yR.lo,I yR.hi]) (by kernel_rfl) (by kernel_rfl) rfl (row_at (f:=Sn.D) yY) (by kernel_rfl)) (Ai (idx_row (C:=cfg) (nxt:=3) (t:=22) (ty:=ty22) (te:=zM) (e:=25) (o:=1) (len:=yo.length) (sz:=2) (cap:=none) (i:=((xd:Nat):Int)) (by kernel_rfl) rfl (by kernel_rfl) rfl (by omega) (by omega)) (Ai (yk yY) trivial)))))) (by kernel_rfl) (by (simp only [sd40144,go_sem,List.length_set,Nat.reduceAdd,Nat.reduceEqDiff,Nat.reduceLT,Nat.reduceLeDiff,bI2,z8.idsL,z8.renL,z8.snapAll,z6.idsL,z6.renL,z6.snapAll]) <;> rfl) (ih (xd+1) yS (ze yY) (zc yY) (by omega) (by omega) (by omega) (by omega)) (by kernel_rfl)
  | false =>
   exact zv (ks:=[1,5,9,11,12,13,72,73,74]) (st':=(sd40145 4 3 0 2 1 5 xd yS within yR yC n yo yG)) [.dec true,.op (some 76) ⟨.lref 1 xd 2 0,[],[],3⟩,.op (some 77) ⟨.agg [I yR.lo,I yR.hi],[],[1],3⟩,.pure (.sl ((zd (zu within.lo (w64 (yR.lo+(w64 (yC * n))))) (zT within.hi (w64 (yR.hi+(w64 (yC * n)))))).nl) (((zd (zu within.lo (w64 (yR.lo+(w64 (yC * n))))) (zT within.hi (w64 (yR.hi+(w64 (yC * n)))))).l).map Sn.D) (zsl ((zd (zu within.lo (w64 (yR.lo+(w64 (yC * n))))) (zT within.hi (w64 (yR.hi+(w64 (yC * n)))))).nl) 2) none),.op (some 98) ⟨.lsl 4 0 ((yS++((zd (zu within.lo (w64 (yR.lo+(w64 (yC * n))))) (zT within.hi (w64 (yR.hi+(w64 (yC * n)))))).l)).length) 2 none,[(2,none),(4,some ⟨(yS++((zd (zu within.lo (w64 (yR.lo+(w64 (yC * n))))) (zT within.hi (w64 (yR.hi+(w64 (yC * n)))))).l)).map Sn.D,2,false⟩)],[2],5⟩,.rw 99 (I ((xd+1:Nat):Int))] (Ai (zX (i:=xd) (by have:=zc yY; omega)) (Ai (app_moreD (te:=zM) (gO:=zp [(0,⟨[.agg [I within.lo,I within.hi]],2,false⟩),(1,⟨yo.map Sn.D,2,false⟩),(2,⟨yS.map Sn.D,2,false⟩),(3,⟨[.agg [I yR.lo,I yR.hi]],2,false⟩)]) (nxt:=4) (o:=2) (v:=yS) z6 (zd (zu within.lo (w64 (yR.lo+(w64 (yC * n))))) (zT within.hi (w64 (yR.hi+(w64 (yC * n)))))) h51 (by kernel_rfl) rfl (by kernel_rfl) (by decide) ⟨by simp only [zM,big] <;> (omega),by simp only [big] <;> (omega)⟩) (Ai (T_ranges_some (zu within.lo (w64 (yR.lo+(w64 (yC * n))))) (zT within.hi (w64 (yR.hi+(w64 (yC * n)))))) (Ai (load_row (C:=cfg) (objs:=[(0,⟨[.agg [I within.lo,I within.hi]],2,false⟩),(1,⟨yo.map Sn.D,2,false⟩),(2,⟨yS.map Sn.D,2,false⟩)]) (nxt:=3) (t:=25) (ty:=zM) (o:=1) (n:=xd) (sz:=2) (sub:=0) (ob:=⟨yo.map Sn.D,2,false⟩) (e:=Sn.D yR) (d:=.agg [I yR.lo,I yR.hi]) (by kernel_rfl) (by kernel_rfl) rfl (row_at (f:=Sn.D) yY) (by kernel_rfl)) (Ai (idx_row (C:=cfg) (nxt:=3) (t:=22) (ty:=ty22) (te:=zM) (e:=25) (o:=1) (len:=yo.length) (sz:=2) (cap:=none) (i:=((xd:Nat):Int)) (by kernel_rfl) rfl (by kernel_rfl) rfl (by omega) (by omega)) (Ai (yk yY) trivial)))))) (by kernel_rfl) (by (simp only [sd40145,go_sem,List.length_set,Nat.reduceAdd,Nat.reduceEqDiff,Nat.reduceLT,Nat.reduceLeDiff,bI2,z8.idsL,z8.renL,z8.snapAll,z6.idsL,z6.renL,z6.snapAll]) <;> rfl) (ih (xd+1) (yS++((zd (zu within.lo (w64 (yR.lo+(w64 (yC * n))))) (zT within.hi (w64 (yR.hi+(w64 (yC * n)))))).l)) (ze yY) (zc yY) (by omega) (by omega) (by simp only [List.length_append,List.length_cons,List.length_nil] at * <;> omega) (by omega)) (by kernel_rfl)
theorem ivt_ranges_Turns_19p1a (n:Int) (within:Sn) (yo:List Sn) (yG:Int) (yC:Int):∀ (yX:List Sn) (xd:Nat) (yS:List Sn) (yY:yo.drop xd=yX) (xH:xd≤yo.length) (ho:yo.length≤128) (hv1:yG - 66≤yC∧yC≤yG+1∧-1099511627777≤yC∧yG≤1099511627777) (hg1:((yS.length:Nat):Int)≤128 * (yC - yG+66)+xd) (hL19p1:yo.length≤9223372036854775807),iv_ranges_Turns_19p1 n within yo yG yC (ya n within yC yX yS):=by
 intro yX
 induction yX with
 | nil =>
  intro xd yS yY xH ho hv1 hg1 hL19p1
  unfold ya
  obtain rfl:xd=yo.length:=nil_eq yY xH
  exact hg1
 | cons yR yX ih =>
  intro xd yS yY xH ho hv1 hg1 hL19p1
  have hlt19p1:=zc yY
  have hlx:=some1 (zu within.lo (w64 (yR.lo+(w64 (yC * n))))) (zT within.hi (w64 (yR.hi+(w64 (yC * n)))))
  unfold ya
  cases h51:((zd (zu within.lo (w64 (yR.lo+(w64 (yC * n))))) (zT within.hi (w64 (yR.hi+(w64 (yC * n)))))).l).isEmpty with
  | true =>
   exact ih (xd+1) yS (ze yY) (zc yY) (by omega) (by omega) (by omega) (by omega)
  | false =>
   exact ih (xd+1) (yS++((zd (zu within.lo (w64 (yR.lo+(w64 (yC * n))))) (zT within.hi (w64 (yR.hi+(w64 (yC * n)))))).l)) (ze yY) (zc yY) (by omega) (by omega) (by simp only [List.length_append,List.length_cons,List.length_nil] at * <;> omega) (by omega)
theorem lp_ranges_Turns_19p1 (n:Int) (within:Sn) (yo:List Sn) (yG:Int) (yC:Int):∀ (yX:List Sn) (xd:Nat) (yY:yo.drop xd=yX) (xH:xd≤yo.length) (ho:yo.length≤128) (hv0:yG - 66≤yC∧yC≤yG+1∧-1099511627777≤yC∧yG≤1099511627777) (hL19p1:yo.length≤9223372036854775807),(lim cfg).loop 22 lp22_19 ⟨104,[(1,I n),(5,.lref 0 0 2 0),(9,.lsl 1 0 yo.length 2 none),(11,I yG),(12,.sl true [] 0 none),(13,I yC),(72,.lsl 1 0 yo.length 2 none),(73,I ((yo.length:Nat):Int)),(74,I ((xd:Nat):Int))],[(0,⟨[.agg [I within.lo,I within.hi]],2,false⟩),(1,⟨yo.map Sn.D,2,false⟩)],2,0⟩=some (lr_ranges_Turns_19p1 n within yo yG yC (yf n within yC yX)):=by
 intro yX
 induction yX with
 | nil =>
  intro xd yY xH ho hv0 hL19p1
  unfold yf
  obtain rfl:xd=yo.length:=nil_eq yY xH
  exact zF [.dec false] (Ai (lt_no yY) trivial) (by kernel_rfl)
 | cons yR yX ih =>
  intro xd yY xH ho hv0 hL19p1
  have hlt19p1:=zc yY
  have hlx:=some1 (zu within.lo (w64 (yR.lo+(w64 (yC * n))))) (zT within.hi (w64 (yR.hi+(w64 (yC * n)))))
  unfold yf
  cases h52:((zd (zu within.lo (w64 (yR.lo+(w64 (yC * n))))) (zT within.hi (w64 (yR.hi+(w64 (yC * n)))))).l).isEmpty with
  | true =>
   exact zv (ks:=[1,5,9,11,12,13,72,73,74]) (st':=(sd40146 2 0 1 3 xd within yR yC n yo yG)) [.dec true,.op (some 76) ⟨.lref 1 xd 2 0,[],[],2⟩,.op (some 77) ⟨.agg [I yR.lo,I yR.hi],[],[1],2⟩,.pure (.sl ((zd (zu within.lo (w64 (yR.lo+(w64 (yC * n))))) (zT within.hi (w64 (yR.hi+(w64 (yC * n)))))).nl) (((zd (zu within.lo (w64 (yR.lo+(w64 (yC * n))))) (zT within.hi (w64 (yR.hi+(w64 (yC * n)))))).l).map Sn.D) (zsl ((zd (zu within.lo (w64 (yR.lo+(w64 (yC * n))))) (zT within.hi (w64 (yR.hi+(w64 (yC * n)))))).nl) 2) none),.op (some 98) ⟨.sl true [] 0 none,[],[],3⟩,.rw 99 (I ((xd+1:Nat):Int))] (Ai (zX (i:=xd) (by have:=zc yY; omega)) (Ai (app_none (te:=zM) (gO:=zp [(0,⟨[.agg [I within.lo,I within.hi]],2,false⟩),(1,⟨yo.map Sn.D,2,false⟩),(2,⟨[.agg [I yR.lo,I yR.hi]],2,false⟩)]) (nxt:=3) (f:=Sn.D) (sz:=2) (d:=.sl true [] 0 none) (zd (zu within.lo (w64 (yR.lo+(w64 (yC * n))))) (zT within.hi (w64 (yR.hi+(w64 (yC * n)))))) h52 rfl) (Ai (T_ranges_some (zu within.lo (w64 (yR.lo+(w64 (yC * n))))) (zT within.hi (w64 (yR.hi+(w64 (yC * n)))))) (Ai (load_row (C:=cfg) (objs:=[(0,⟨[.agg [I within.lo,I within.hi]],2,false⟩),(1,⟨yo.map Sn.D,2,false⟩)]) (nxt:=2) (t:=25) (ty:=zM) (o:=1) (n:=xd) (sz:=2) (sub:=0) (ob:=⟨yo.map Sn.D,2,false⟩) (e:=Sn.D yR) (d:=.agg [I yR.lo,I yR.hi]) (by kernel_rfl) (by kernel_rfl) rfl (row_at (f:=Sn.D) yY) (by kernel_rfl)) (Ai (idx_row (C:=cfg) (nxt:=2) (t:=22) (ty:=ty22) (te:=zM) (e:=25) (o:=1) (len:=yo.length) (sz:=2) (cap:=none) (i:=((xd:Nat):Int)) (by kernel_rfl) rfl (by kernel_rfl) rfl (by omega) (by omega)) (Ai (yk yY) trivial)))))) (by kernel_rfl) (by (simp only [sd40146,go_sem,List.length_set,Nat.reduceAdd,Nat.reduceEqDiff,Nat.reduceLT,Nat.reduceLeDiff,bI2,z8.idsL,z8.renL,z8.snapAll,z6.idsL,z6.renL,z6.snapAll]) <;> rfl) (ih (xd+1) (ze yY) (zc yY) (by omega) (by omega) (by omega)) (by kernel_rfl)
  | false =>
   exact zv (ks:=[1,5,9,11,12,13,72,73,74]) (st':=(sd40147 3 2 0 1 4 xd within yR yC n yo yG)) [.dec true,.op (some 76) ⟨.lref 1 xd 2 0,[],[],2⟩,.op (some 77) ⟨.agg [I yR.lo,I yR.hi],[],[1],2⟩,.pure (.sl ((zd (zu within.lo (w64 (yR.lo+(w64 (yC * n))))) (zT within.hi (w64 (yR.hi+(w64 (yC * n)))))).nl) (((zd (zu within.lo (w64 (yR.lo+(w64 (yC * n))))) (zT within.hi (w64 (yR.hi+(w64 (yC * n)))))).l).map Sn.D) (zsl ((zd (zu within.lo (w64 (yR.lo+(w64 (yC * n))))) (zT within.hi (w64 (yR.hi+(w64 (yC * n)))))).nl) 2) none),.op (some 98) ⟨.lsl 3 0 (((zd (zu within.lo (w64 (yR.lo+(w64 (yC * n))))) (zT within.hi (w64 (yR.hi+(w64 (yC * n)))))).l).length) 2 none,[(3,some ⟨((zd (zu within.lo (w64 (yR.lo+(w64 (yC * n))))) (zT within.hi (w64 (yR.hi+(w64 (yC * n)))))).l).map Sn.D,2,false⟩)],[],4⟩,.rw 99 (I ((xd+1:Nat):Int))] (Ai (zX (i:=xd) (by have:=zc yY; omega)) (Ai (app_newD (te:=zM) (gO:=zp [(0,⟨[.agg [I within.lo,I within.hi]],2,false⟩),(1,⟨yo.map Sn.D,2,false⟩),(2,⟨[.agg [I yR.lo,I yR.hi]],2,false⟩)]) (nxt:=3) (els0:=[]) (sz0:=0) (cap0:=none) z6 (zd (zu within.lo (w64 (yR.lo+(w64 (yC * n))))) (zT within.hi (w64 (yR.hi+(w64 (yC * n)))))) h52 rfl (by kernel_rfl) (by decide) ⟨by simp only [zM,big] <;> (omega),by simp only [big] <;> (omega)⟩) (Ai (T_ranges_some (zu within.lo (w64 (yR.lo+(w64 (yC * n))))) (zT within.hi (w64 (yR.hi+(w64 (yC * n)))))) (Ai (load_row (C:=cfg) (objs:=[(0,⟨[.agg [I within.lo,I within.hi]],2,false⟩),(1,⟨yo.map Sn.D,2,false⟩)]) (nxt:=2) (t:=25) (ty:=zM) (o:=1) (n:=xd) (sz:=2) (sub:=0) (ob:=⟨yo.map Sn.D,2,false⟩) (e:=Sn.D yR) (d:=.agg [I yR.lo,I yR.hi]) (by kernel_rfl) (by kernel_rfl) rfl (row_at (f:=Sn.D) yY) (by kernel_rfl)) (Ai (idx_row (C:=cfg) (nxt:=2) (t:=22) (ty:=ty22) (te:=zM) (e:=25) (o:=1) (len:=yo.length) (sz:=2) (cap:=none) (i:=((xd:Nat):Int)) (by kernel_rfl) rfl (by kernel_rfl) rfl (by omega) (by omega)) (Ai (yk yY) trivial)))))) (by kernel_rfl) (by (simp only [sd40147,go_sem,List.length_set,Nat.reduceAdd,Nat.reduceEqDiff,Nat.reduceLT,Nat.reduceLeDiff,bI2,z8.idsL,z8.renL,z8.snapAll,z6.idsL,z6.renL,z6.snapAll]) <;> rfl) (lp_ranges_Turns_19p1a n within yo yG yC _ (xd+1) ((zd (zu within.lo (w64 (yR.lo+(w64 (yC * n))))) (zT within.hi (w64 (yR.hi+(w64 (yC * n)))))).l) (ze yY) (zc yY) (by omega) (by omega) (by omega) (by omega)) (by kernel_rfl)
theorem ivt_ranges_Turns_19p1 (n:Int) (within:Sn) (yo:List Sn) (yG:Int) (yC:Int):∀ (yX:List Sn) (xd:Nat) (yY:yo.drop xd=yX) (xH:xd≤yo.length) (ho:yo.length≤128) (hv0:yG - 66≤yC∧yC≤yG+1∧-1099511627777≤yC∧yG≤1099511627777) (hL19p1:yo.length≤9223372036854775807),iv_ranges_Turns_19p1 n within yo yG yC (yf n within yC yX):=by
 intro yX
 induction yX with
 | nil =>
  intro xd yY xH ho hv0 hL19p1
  unfold yf
  obtain rfl:xd=yo.length:=nil_eq yY xH
  exact trivial
 | cons yR yX ih =>
  intro xd yY xH ho hv0 hL19p1
  have hlt19p1:=zc yY
  have hlx:=some1 (zu within.lo (w64 (yR.lo+(w64 (yC * n))))) (zT within.hi (w64 (yR.hi+(w64 (yC * n)))))
  unfold yf
  cases h52:((zd (zu within.lo (w64 (yR.lo+(w64 (yC * n))))) (zT within.hi (w64 (yR.hi+(w64 (yC * n)))))).l).isEmpty with
  | true =>
   exact ih (xd+1) (ze yY) (zc yY) (by omega) (by omega) (by omega)
  | false =>
   exact ivt_ranges_Turns_19p1a n within yo yG yC _ (xd+1) ((zd (zu within.lo (w64 (yR.lo+(w64 (yC * n))))) (zT within.hi (w64 (yR.hi+(w64 (yC * n)))))).l) (ze yY) (zc yY) (by omega) (by omega) (by omega) (by omega)

def sd40152 (ν0 ν1 ν2 ν3:Nat) (μ0:Int) (μ1:Int) (μ2:Int) (μ3:List Sn) (μ4:List Sn) (μ5:Sn):St:=⟨104,[(69,B false),(68,I μ0),(67,I μ1),(1,I μ2),(5,.lref ν0 0 2 0),(9,.lsl ν1 0 μ3.length 2 none),(11,I μ0),(12,.lsl ν2 0 μ4.length 2 none),(13,I μ1)],[(ν0,⟨[.agg [I μ5.lo,I μ5.hi]],2,false⟩),(ν1,⟨μ3.map Sn.D,2,false⟩),(ν2,⟨μ4.map Sn.D,2,false⟩)],ν3,ν0⟩

def sd40153 (ν0 ν1 ν2:Nat) (μ0:Int) (μ1:Int) (μ2:Int) (μ3:List Sn) (μ4:Sn):St:=⟨104,[(69,B false),(68,I μ0),(67,I μ1),(1,I μ2),(5,.lref ν0 0 2 0),(9,.lsl ν1 0 μ3.length 2 none),(11,I μ0),(12,.sl true [] 0 none),(13,I μ1)],[(ν0,⟨[.agg [I μ4.lo,I μ4.hi]],2,false⟩),(ν1,⟨μ3.map Sn.D,2,false⟩)],ν2,ν0⟩

noncomputable def lp22_16:Code:=subC [1,1,1,1,1,1,1,1,1,0,1,0,0] (bodyC Tryz.f22)

def sd40154 (ν0 ν1 ν2 ν3:Nat) (μ0:Int) (μ1:Int) (μ2:List Sn) (μ3:Int) (μ4:List Sn) (μ5:Sn):St:=⟨104,[(13,I (w64 (μ0+1))),(71,I (w64 (μ0+1))),(70,I μ0),(75,B false),(1,I μ1),(5,.lref ν0 0 2 0),(9,.lsl ν1 0 μ2.length 2 none),(11,I μ3),(12,.lsl ν2 0 μ4.length 2 none),(13,I μ0),(72,.lsl ν1 0 μ2.length 2 none),(73,I ((μ2.length:Nat):Int)),(74,I ((μ2.length:Nat):Int))],[(ν0,⟨[.agg [I μ5.lo,I μ5.hi]],2,false⟩),(ν1,⟨μ2.map Sn.D,2,false⟩),(ν2,⟨μ4.map Sn.D,2,false⟩)],ν3,ν0⟩

def sd40151 (ν0 ν1 ν2 ν3:Nat) (μ0:Int) (μ1:List Sn) (μ2:Int) (μ3:List Sn) (μ4:Int) (μ5:Sn):St:=⟨104,[(1,I μ0),(5,.lref ν0 0 2 0),(9,.lsl ν1 0 μ1.length 2 none),(11,I μ2),(12,.lsl ν2 0 μ3.length 2 none),(13,I μ4),(72,.lsl ν1 0 μ1.length 2 none),(73,I ((μ1.length:Nat):Int)),(74,I 0)],[(ν0,⟨[.agg [I μ5.lo,I μ5.hi]],2,false⟩),(ν1,⟨μ1.map Sn.D,2,false⟩),(ν2,⟨μ3.map Sn.D,2,false⟩)],ν3,ν0⟩

def sd40150 (ν0 ν1 ν2 ν3:Nat) (μ0:List Sn) (μ1:Int) (μ2:Int) (μ3:Int) (μ4:List Sn) (μ5:Sn):St:=⟨104,[(74,I 0),(73,I ((μ0.length:Nat):Int)),(72,.lsl ν0 0 μ0.length 2 none),(69,B true),(68,I μ1),(67,I μ2),(1,I μ3),(5,.lref ν1 0 2 0),(9,.lsl ν0 0 μ0.length 2 none),(11,I μ1),(12,.lsl ν2 0 μ4.length 2 none),(13,I μ2)],[(ν1,⟨[.agg [I μ5.lo,I μ5.hi]],2,false⟩),(ν0,⟨μ0.map Sn.D,2,false⟩),(ν2,⟨μ4.map Sn.D,2,false⟩)],ν3,ν1⟩

def sd40148 (ν0 ν1 ν2:Nat) (μ0:List Sn) (μ1:Int) (μ2:Int) (μ3:Int) (μ4:Sn):St:=⟨104,[(74,I 0),(73,I ((μ0.length:Nat):Int)),(72,.lsl ν0 0 μ0.length 2 none),(69,B true),(68,I μ1),(67,I μ2),(1,I μ3),(5,.lref ν1 0 2 0),(9,.lsl ν0 0 μ0.length 2 none),(11,I μ1),(12,.sl true [] 0 none),(13,I μ2)],[(ν1,⟨[.agg [I μ4.lo,I μ4.hi]],2,false⟩),(ν0,⟨μ0.map Sn.D,2,false⟩)],ν2,ν1⟩

def sd40149 (ν0 ν1 ν2:Nat) (μ0:Int) (μ1:List Sn) (μ2:Int) (μ3:Int) (μ4:Sn):St:=⟨104,[(1,I μ0),(5,.lref ν0 0 2 0),(9,.lsl ν1 0 μ1.length 2 none),(11,I μ2),(12,.sl true [] 0 none),(13,I μ3),(72,.lsl ν1 0 μ1.length 2 none),(73,I ((μ1.length:Nat):Int)),(74,I 0)],[(ν0,⟨[.agg [I μ4.lo,I μ4.hi]],2,false⟩),(ν1,⟨μ1.map Sn.D,2,false⟩)],ν2,ν0⟩

def sd40155 (ν0 ν1 ν2:Nat) (μ0:Int) (μ1:Int) (μ2:List Sn) (μ3:Int) (μ4:Sn):St:=⟨104,[(13,I (w64 (μ0+1))),(71,I (w64 (μ0+1))),(70,I μ0),(75,B false),(1,I μ1),(5,.lref ν0 0 2 0),(9,.lsl ν1 0 μ2.length 2 none),(11,I μ3),(12,.sl true [] 0 none),(13,I μ0),(72,.lsl ν1 0 μ2.length 2 none),(73,I ((μ2.length:Nat):Int)),(74,I ((μ2.length:Nat):Int))],[(ν0,⟨[.agg [I μ4.lo,I μ4.hi]],2,false⟩),(ν1,⟨μ2.map Sn.D,2,false⟩)],ν2,ν0⟩

inductive LR_ranges_Turns_16 where
 | x0 (yF:List Sn) (ym:List Sn) (yB:Int)
 | x1 (yC:Int)
 | out
instance:Inhabited LR_ranges_Turns_16:=⟨.out⟩
def ranges_Turns_16a (n:Int) (within:Sn) (yo:List Sn) (yG:Int):Nat→(List Sn)→(List Sn)→Int→LR_ranges_Turns_16
 | 0,_,_,_=>.out
 | xp+1,yF,ym,yB =>
  bif decide (yB≤yG) then
   match yg n within yB yF ym with
   | .x0 xo =>
    ranges_Turns_16a n within yo yG xp yF xo (w64 (yB+1))
  else
   .x0 yF ym yB
def zP (n:Int) (within:Sn) (yo:List Sn) (yG:Int):Nat→Int→LR_ranges_Turns_16
 | 0,_=>.out
 | xp+1,yC =>
  bif decide (yC≤yG) then
   match yf n within yC yo with
   | .x0 yS =>
    ranges_Turns_16a n within yo yG xp yo yS (w64 (yC+1))
   | .x1 =>
    zP n within yo yG xp (w64 (yC+1))
  else
   .x1 yC
def lr_ranges_Turns_16 (n:Int) (within:Sn) (yo:List Sn) (yG:Int):LR_ranges_Turns_16→Exit × St
 | .x0 yF ym yB=>((.exit 0),(sd40152 0 1 2 3 yG yB n yF ym within))
 | .x1 yC=>((.exit 0),(sd40153 0 1 2 yG yC n yo within))
 | .out=>(.normal,⟨0,[],[],0,0⟩)
def iv_ranges_Turns_16 (n:Int) (within:Sn) (yo:List Sn) (yG:Int):LR_ranges_Turns_16→Prop
 | .x0 yF ym yB=>(yG - 66≤yB∧yB≤yG+1∧-1099511627777≤yB∧yG≤1099511627777)∧(yF.length≤128)∧(((ym.length:Nat):Int)≤128 * (yB - yG+66))
 | .x1 yC=>(yG - 66≤yC∧yC≤yG+1∧-1099511627777≤yC∧yG≤1099511627777)
 | .out=>True
theorem lp_ranges_Turns_16a (n:Int) (within:Sn) (yo:List Sn) (yG:Int):∀ (xp:Nat) (yF:List Sn) (ym:List Sn) (yB:Int) (xQ:ranges_Turns_16a n within yo yG xp yF ym yB ≠ .out) (hv1:yG - 66≤yB∧yB≤yG+1∧-1099511627777≤yB∧yG≤1099511627777) (ho1:yF.length≤128) (hw1:((ym.length:Nat):Int)≤128 * (yB - yG+66)),(lim cfg).loop 22 lp22_16 ⟨104,[(1,I n),(5,.lref 0 0 2 0),(9,.lsl 1 0 yF.length 2 none),(11,I yG),(12,.lsl 2 0 ym.length 2 none),(13,I yB)],[(0,⟨[.agg [I within.lo,I within.hi]],2,false⟩),(1,⟨yF.map Sn.D,2,false⟩),(2,⟨ym.map Sn.D,2,false⟩)],3,0⟩=some (lr_ranges_Turns_16 n within yo yG (ranges_Turns_16a n within yo yG xp yF ym yB)):=by
 intro xp
 induction xp with
 | zero =>
  intro yF ym yB xQ hv1 ho1 hw1
  exact absurd rfl xQ
 | succ xp ih =>
  intro yF ym yB xQ hv1 ho1 hw1
  unfold ranges_Turns_16a at xQ ⊢
  revert xQ
  cases h44:decide (yB≤yG) with
  | true =>
   have g44:=of_decide_eq_true h44
   cases h47:yg n within yB yF ym with
   | x0 xo =>
    try dsimp only
    have hv_h47:=ivt_ranges_Turns_19 n within yG yF yB yF 0 ym (List.drop_zero) (Nat.zero_le _) (by omega) (by omega) (by omega) (by omega)
    rw [h47] at hv_h47
    have hv_h47_0:=hv_h47
    try dsimp only [iv_ranges_Turns_19] at hv_h47_0
    intro xQ
    exact zv (ks:=[1,5,9,11,12,13]) (st':=(sd40154 0 1 2 3 yB n yF yG xo within)) [.dec true,.gloop (sd40151 0 1 2 3 n yF yG ym yB within) (.exit 2) (sd40142 0 1 2 3 n yF yG xo yB within)] (Ai (zZ (q:=lr_ranges_Turns_19 n within yG yF yB) (lp_ranges_Turns_19 n within yG yF yB yF 0 ym (List.drop_zero) (Nat.zero_le _) (by omega) (by omega) (by omega) (by omega)) h47) (Ai (gc_of (C:=cfg) (f:=22) (a:=lp22_19) (ks:=[1,5,9,11,12,13,72,73,74]) (st:=(sd40150 1 0 2 3 yF yG yB n ym within)) (st1:=(sd40151 0 1 2 3 n yF yG ym yB within)) (by kernel_rfl) (by (simp only [sd40150,sd40151,go_sem,List.length_set,Nat.reduceAdd,Nat.reduceEqDiff,Nat.reduceLT,Nat.reduceLeDiff,bI2,z8.idsL,z8.renL,z8.snapAll,z6.idsL,z6.renL,z6.snapAll]) <;> rfl)) (Ai h44 trivial))) (by kernel_rfl) (by (simp only [sd40154,go_sem,List.length_set,Nat.reduceAdd,Nat.reduceEqDiff,Nat.reduceLT,Nat.reduceLeDiff,bI2,z8.idsL,z8.renL,z8.snapAll,z6.idsL,z6.renL,z6.snapAll]) <;> rfl) (ih yF xo (w64 (yB+1)) xQ (by simp only [List.length_append,List.length_cons,List.length_nil,zi] at * <;> omega) (by omega) (by simp only [List.length_append,List.length_cons,List.length_nil,zi] at * <;> omega)) (by kernel_rfl)
  | false =>
   have g44:=of_decide_eq_false h44
   intro xQ
   exact zF [.dec false] (Ai h44 trivial) (by kernel_rfl)
theorem ivt_ranges_Turns_16a (n:Int) (within:Sn) (yo:List Sn) (yG:Int):∀ (xp:Nat) (yF:List Sn) (ym:List Sn) (yB:Int) (xQ:ranges_Turns_16a n within yo yG xp yF ym yB ≠ .out) (hv1:yG - 66≤yB∧yB≤yG+1∧-1099511627777≤yB∧yG≤1099511627777) (ho1:yF.length≤128) (hw1:((ym.length:Nat):Int)≤128 * (yB - yG+66)),iv_ranges_Turns_16 n within yo yG (ranges_Turns_16a n within yo yG xp yF ym yB):=by
 intro xp
 induction xp with
 | zero =>
  intro yF ym yB xQ hv1 ho1 hw1
  exact absurd rfl xQ
 | succ xp ih =>
  intro yF ym yB xQ hv1 ho1 hw1
  unfold ranges_Turns_16a at xQ ⊢
  revert xQ
  cases h44:decide (yB≤yG) with
  | true =>
   have g44:=of_decide_eq_true h44
   cases h47:yg n within yB yF ym with
   | x0 xo =>
    try dsimp only
    have hv_h47:=ivt_ranges_Turns_19 n within yG yF yB yF 0 ym (List.drop_zero) (Nat.zero_le _) (by omega) (by omega) (by omega) (by omega)
    rw [h47] at hv_h47
    have hv_h47_0:=hv_h47
    try dsimp only [iv_ranges_Turns_19] at hv_h47_0
    intro xQ
    exact ih yF xo (w64 (yB+1)) xQ (by simp only [List.length_append,List.length_cons,List.length_nil,zi] at * <;> omega) (by omega) (by simp only [List.length_append,List.length_cons,List.length_nil,zi] at * <;> omega)
  | false =>
   have g44:=of_decide_eq_false h44
   intro xQ
   exact ⟨hv1,ho1,hw1⟩
theorem lp_ranges_Turns_16 (n:Int) (within:Sn) (yo:List Sn) (yG:Int):∀ (xp:Nat) (yC:Int) (xQ:zP n within yo yG xp yC ≠ .out) (hv0:yG - 66≤yC∧yC≤yG+1∧-1099511627777≤yC∧yG≤1099511627777) (ho0:yo.length≤128),(lim cfg).loop 22 lp22_16 ⟨104,[(1,I n),(5,.lref 0 0 2 0),(9,.lsl 1 0 yo.length 2 none),(11,I yG),(12,.sl true [] 0 none),(13,I yC)],[(0,⟨[.agg [I within.lo,I within.hi]],2,false⟩),(1,⟨yo.map Sn.D,2,false⟩)],2,0⟩=some (lr_ranges_Turns_16 n within yo yG (zP n within yo yG xp yC)):=by
 intro xp
 induction xp with
 | zero =>
  intro yC xQ hv0 ho0
  exact absurd rfl xQ
 | succ xp ih =>
  intro yC xQ hv0 ho0
  unfold zP at xQ ⊢
  revert xQ
  cases h48:decide (yC≤yG) with
  | true =>
   have g48:=of_decide_eq_true h48
   have p1:=(gc_of (C:=cfg) (f:=22) (a:=lp22_19) (ks:=[1,5,9,11,12,13,72,73,74]) (st:=(sd40148 1 0 2 yo yG yC n within)) (st1:=(sd40149 0 1 2 n yo yG yC within)) (by kernel_rfl) (by (simp only [sd40148,sd40149,go_sem,List.length_set,Nat.reduceAdd,Nat.reduceEqDiff,Nat.reduceLT,Nat.reduceLeDiff,bI2,z8.idsL,z8.renL,z8.snapAll,z6.idsL,z6.renL,z6.snapAll]) <;> rfl))
   cases h53:yf n within yC yo with
   | x0 yS =>
    try dsimp only
    have hv_h53:=ivt_ranges_Turns_19p1 n within yo yG yC yo 0 (List.drop_zero) (Nat.zero_le _) (by omega) (by omega) (by omega)
    rw [h53] at hv_h53
    have hv_h53_0:=hv_h53
    try dsimp only [iv_ranges_Turns_19p1] at hv_h53_0
    intro xQ
    exact zv (ks:=[1,5,9,11,12,13]) (st':=(sd40154 0 1 2 3 yC n yo yG yS within)) [.dec true,.gloop (sd40149 0 1 2 n yo yG yC within) (.exit 2) (sd40142 0 1 2 3 n yo yG yS yC within)] (Ai (zZ (q:=lr_ranges_Turns_19p1 n within yo yG yC) (lp_ranges_Turns_19p1 n within yo yG yC yo 0 (List.drop_zero) (Nat.zero_le _) (by omega) (by omega) (by omega)) h53) (Ai p1 (Ai h48 trivial))) (by kernel_rfl) (by (simp only [sd40154,go_sem,List.length_set,Nat.reduceAdd,Nat.reduceEqDiff,Nat.reduceLT,Nat.reduceLeDiff,bI2,z8.idsL,z8.renL,z8.snapAll,z6.idsL,z6.renL,z6.snapAll]) <;> rfl) (lp_ranges_Turns_16a n within yo yG _ yo yS (w64 (yC+1)) xQ (by simp only [List.length_append,List.length_cons,List.length_nil,zi] at * <;> omega) (by omega) (by simp only [List.length_append,List.length_cons,List.length_nil,zi] at * <;> omega)) (by kernel_rfl)
   | x1 =>
    try dsimp only
    intro xQ
    exact zv (ks:=[1,5,9,11,12,13]) (st':=(sd40155 0 1 2 yC n yo yG within)) [.dec true,.gloop (sd40149 0 1 2 n yo yG yC within) (.exit 2) (sd40143 0 1 2 n yo yG yC within)] (Ai (zZ (q:=lr_ranges_Turns_19p1 n within yo yG yC) (lp_ranges_Turns_19p1 n within yo yG yC yo 0 (List.drop_zero) (Nat.zero_le _) (by omega) (by omega) (by omega)) h53) (Ai p1 (Ai h48 trivial))) (by kernel_rfl) (by (simp only [sd40155,go_sem,List.length_set,Nat.reduceAdd,Nat.reduceEqDiff,Nat.reduceLT,Nat.reduceLeDiff,bI2,z8.idsL,z8.renL,z8.snapAll,z6.idsL,z6.renL,z6.snapAll]) <;> rfl) (ih (w64 (yC+1)) xQ (by simp only [List.length_append,List.length_cons,List.length_nil,zi] at * <;> omega) (by omega)) (by kernel_rfl)
  | false =>
   have g48:=of_decide_eq_false h48
   intro xQ
   exact zF [.dec false] (Ai h48 trivial) (by kernel_rfl)
theorem ivt_ranges_Turns_16 (n:Int) (within:Sn) (yo:List Sn) (yG:Int):∀ (xp:Nat) (yC:Int) (xQ:zP n within yo yG xp yC ≠ .out) (hv0:yG - 66≤yC∧yC≤yG+1∧-1099511627777≤yC∧yG≤1099511627777) (ho0:yo.length≤128),iv_ranges_Turns_16 n within yo yG (zP n within yo yG xp yC):=by
 intro xp
 induction xp with
 | zero =>
  intro yC xQ hv0 ho0
  exact absurd rfl xQ
 | succ xp ih =>
  intro yC xQ hv0 ho0
  unfold zP at xQ ⊢
  revert xQ
  cases h48:decide (yC≤yG) with
  | true =>
   have g48:=of_decide_eq_true h48
   cases h53:yf n within yC yo with
   | x0 yS =>
    try dsimp only
    have hv_h53:=ivt_ranges_Turns_19p1 n within yo yG yC yo 0 (List.drop_zero) (Nat.zero_le _) (by omega) (by omega) (by omega)
    rw [h53] at hv_h53
    have hv_h53_0:=hv_h53
    try dsimp only [iv_ranges_Turns_19p1] at hv_h53_0
    intro xQ
    exact ivt_ranges_Turns_16a n within yo yG _ yo yS (w64 (yC+1)) xQ (by simp only [List.length_append,List.length_cons,List.length_nil,zi] at * <;> omega) (by omega) (by simp only [List.length_append,List.length_cons,List.length_nil,zi] at * <;> omega)
   | x1 =>
    try dsimp only
    intro xQ
    exact ih (w64 (yC+1)) xQ (by simp only [List.length_append,List.length_cons,List.length_nil,zi] at * <;> omega) (by omega)
  | false =>
   have g48:=of_decide_eq_false h48
   intro xQ
   exact hv0

theorem ranges_Turns_16_ne' (n:Int) (within:Sn) (yo:List Sn) (yG:Int) (ht:yG≤1099511627777):∀ (f:Nat) (o w:List Sn) (v:Int),-1099511627777≤v→v≤yG+1→yG - v+1 < f→ranges_Turns_16a n within yo yG f o w v ≠ .out
 | 0,o,w,v,h0,h1,h=>by intro _; omega
 | f+1,o,w,v,h0,h1,h=>by
  unfold ranges_Turns_16a
  by_cases hc:v≤yG
  ·rw [decide_eq_true hc,y7 (n:=v+1) (by omega) (by omega)]
   simp only [cond_true]
   repeat' split
   all_goals exact ranges_Turns_16_ne' n within yo yG ht f _ _ _ (by omega) (by omega) (by omega)
  ·rw [decide_eq_false hc]; intro z; cases z
theorem ranges_Turns_16_ne'' (n:Int) (within:Sn) (yo:List Sn) (yG:Int) (ht:yG≤1099511627777):∀ (f:Nat) (v:Int),-1099511627777≤v→v≤yG+1→yG - v+1 < f→zP n within yo yG f v ≠ .out
 | 0,v,h0,h1,h=>by intro _; omega
 | f+1,v,h0,h1,h=>by
  unfold zP
  by_cases hc:v≤yG
  ·rw [decide_eq_true hc,y7 (n:=v+1) (by omega) (by omega)]
   simp only [cond_true]
   repeat' split
   all_goals first | exact ranges_Turns_16_ne' n within yo yG ht f _ _ _ (by omega) (by omega) (by omega) | exact ranges_Turns_16_ne'' n within yo yG ht f _ (by omega) (by omega) (by omega)
  ·rw [decide_eq_false hc]; intro z; cases z
theorem ranges_Turns_16_ne (n:Int) (within:Sn) (yo:List Sn) (yG:Int) (v:Int) (h:-1099511627777≤v∧v≤yG+1∧yG≤1099511627777):zP n within yo yG ((yG - v).toNat+2) v ≠ .out:=ranges_Turns_16_ne'' n within yo yG h.2.2 _ _ h.1 h.2.1 (by omega)

def sd40159 (ν0 ν1 ν2:Nat) (μ0:List Sn) (μ1:List Sn) (μ2:List Sn):St:=⟨65,[(13,B false),(4,.lsl ν0 0 μ0.length 2 none),(10,.lsl ν1 0 μ1.length 2 none),(11,I ((μ1.length:Nat):Int)),(12,I ((μ2.length:Nat):Int))],[(ν1,⟨μ2.map Sn.D,2,false⟩),(ν0,⟨μ0.map Sn.D,2,false⟩)],ν2,ν0⟩

def sd40160 (ν0 ν1 ν2 ν3:Nat) (μ0:Sn) (μ1:Nat) (μ2:List Sn) (μ3:List Sn) (μ4:List Sn):St:=⟨65,[(3,I 2),(2,.sl true [] 0 none),(25,B true),(24,B true),(23,B false),(22,I μ0.hi),(21,.lref ν0 0 2 1),(20,B false),(19,B false),(18,B true),(17,I μ0.lo),(16,.lref ν0 0 2 0),(6,.lref ν0 0 2 0),(15,.agg [I μ0.lo,I μ0.hi]),(14,.lref ν1 μ1 2 0),(13,B true),(4,.lsl ν2 0 μ2.length 2 none),(10,.lsl ν1 0 μ3.length 2 none),(11,I ((μ3.length:Nat):Int)),(12,I ((μ1:Nat):Int))],[(ν1,⟨μ4.map Sn.D,2,false⟩),(ν2,⟨μ2.map Sn.D,2,false⟩),(ν0,⟨[.agg [I μ0.lo,I μ0.hi]],2,false⟩)],ν3,ν2⟩

def sd40161 (ν0 ν1 ν2 ν3:Nat) (μ0:Sn) (μ1:Nat) (μ2:List Sn) (μ3:List Sn) (μ4:List Sn):St:=⟨65,[(3,I 2),(2,.sl true [] 0 none),(25,B true),(24,.tup []),(23,.tup []),(22,.tup []),(21,.tup []),(20,B true),(19,B true),(18,B false),(17,I μ0.lo),(16,.lref ν0 0 2 0),(6,.lref ν0 0 2 0),(15,.agg [I μ0.lo,I μ0.hi]),(14,.lref ν1 μ1 2 0),(13,B true),(4,.lsl ν2 0 μ2.length 2 none),(10,.lsl ν1 0 μ3.length 2 none),(11,I ((μ3.length:Nat):Int)),(12,I ((μ1:Nat):Int))],[(ν1,⟨μ4.map Sn.D,2,false⟩),(ν2,⟨μ2.map Sn.D,2,false⟩),(ν0,⟨[.agg [I μ0.lo,I μ0.hi]],2,false⟩)],ν3,ν2⟩

def sd40162 (ν0 ν1:Nat) (μ0:List Sn) (μ1:List Sn):St:=⟨65,[(13,B false),(4,.sl true [] 0 none),(10,.lsl ν0 0 μ0.length 2 none),(11,I ((μ0.length:Nat):Int)),(12,I ((μ1.length:Nat):Int))],[(ν0,⟨μ1.map Sn.D,2,false⟩)],ν1,ν1⟩

def sd40163 (ν0 ν1 ν2:Nat) (μ0:Sn) (μ1:Nat) (μ2:List Sn) (μ3:List Sn):St:=⟨65,[(3,I 2),(2,.sl true [] 0 none),(25,B true),(24,B true),(23,B false),(22,I μ0.hi),(21,.lref ν0 0 2 1),(20,B false),(19,B false),(18,B true),(17,I μ0.lo),(16,.lref ν0 0 2 0),(6,.lref ν0 0 2 0),(15,.agg [I μ0.lo,I μ0.hi]),(14,.lref ν1 μ1 2 0),(13,B true),(4,.sl true [] 0 none),(10,.lsl ν1 0 μ2.length 2 none),(11,I ((μ2.length:Nat):Int)),(12,I ((μ1:Nat):Int))],[(ν1,⟨μ3.map Sn.D,2,false⟩),(ν0,⟨[.agg [I μ0.lo,I μ0.hi]],2,false⟩)],ν2,ν0⟩

def sd40164 (ν0 ν1 ν2:Nat) (μ0:Sn) (μ1:Nat) (μ2:List Sn) (μ3:List Sn):St:=⟨65,[(3,I 2),(2,.sl true [] 0 none),(25,B true),(24,.tup []),(23,.tup []),(22,.tup []),(21,.tup []),(20,B true),(19,B true),(18,B false),(17,I μ0.lo),(16,.lref ν0 0 2 0),(6,.lref ν0 0 2 0),(15,.agg [I μ0.lo,I μ0.hi]),(14,.lref ν1 μ1 2 0),(13,B true),(4,.sl true [] 0 none),(10,.lsl ν1 0 μ2.length 2 none),(11,I ((μ2.length:Nat):Int)),(12,I ((μ1:Nat):Int))],[(ν1,⟨μ3.map Sn.D,2,false⟩),(ν0,⟨[.agg [I μ0.lo,I μ0.hi]],2,false⟩)],ν2,ν0⟩

def sd40165 (ν0 ν1 ν2 ν3:Nat) (μ0:Nat) (μ1:List Sn) (μ2:Sn) (μ3:List Sn) (μ4:List Sn):St:=⟨65,[(12,I ((μ0+1:Nat):Int)),(60,I ((μ0+1:Nat):Int)),(55,.lref ν0 ((w64 (((μ1.length:Nat):Int) - 1)).toNat) 2 1),(54,.lref ν0 ((w64 (((μ1.length:Nat):Int) - 1)).toNat) 2 0),(53,I (zu ((μ1.getD ((w64 (((μ1.length:Nat):Int) - 1)).toNat) default).hi) μ2.hi)),(52,I μ2.hi),(51,.lref ν1 0 2 1),(50,I ((μ1.getD ((w64 (((μ1.length:Nat):Int) - 1)).toNat) default).hi)),(49,.lref ν0 ((w64 (((μ1.length:Nat):Int) - 1)).toNat) 2 1),(48,.lref ν0 ((w64 (((μ1.length:Nat):Int) - 1)).toNat) 2 0),(47,I (w64 (((μ1.length:Nat):Int) - 1))),(46,I ((μ1.length:Nat):Int)),(45,.lsl ν0 0 μ1.length 2 none),(44,I (w64 (((μ1.length:Nat):Int) - 1))),(43,I ((μ1.length:Nat):Int)),(42,.lsl ν0 0 μ1.length 2 none),(41,B true),(40,B true),(39,I (w64 (((μ1.getD ((w64 (((μ1.length:Nat):Int) - 1)).toNat) default).hi)+1))),(38,I ((μ1.getD ((w64 (((μ1.length:Nat):Int) - 1)).toNat) default).hi)),(37,.lref ν0 ((w64 (((μ1.length:Nat):Int) - 1)).toNat) 2 1),(36,.lref ν0 ((w64 (((μ1.length:Nat):Int) - 1)).toNat) 2 0),(35,I (w64 (((μ1.length:Nat):Int) - 1))),(34,I ((μ1.length:Nat):Int)),(33,.lsl ν0 0 μ1.length 2 none),(32,I μ2.lo),(31,.lref ν1 0 2 0),(30,B true),(29,B true),(28,I ((μ1.length:Nat):Int)),(7,I ((μ1.length:Nat):Int)),(27,I ((μ1.length:Nat):Int)),(26,.lsl ν0 0 μ1.length 2 none),(25,B false),(24,B false),(23,B true),(22,I μ2.hi),(21,.lref ν1 0 2 1),(20,B false),(19,B false),(18,B true),(17,I μ2.lo),(16,.lref ν1 0 2 0),(6,.lref ν1 0 2 0),(15,.agg [I μ2.lo,I μ2.hi]),(14,.lref ν2 μ0 2 0),(13,B true),(4,.lsl ν0 0 μ1.length 2 none),(10,.lsl ν2 0 μ3.length 2 none),(11,I ((μ3.length:Nat):Int)),(12,I ((μ0:Nat):Int))],[(ν2,⟨μ4.map Sn.D,2,false⟩),(ν0,⟨(μ1.set ((w64 (((μ1.length:Nat):Int) - 1)).toNat) (⟨(μ1.getD ((w64 (((μ1.length:Nat):Int) - 1)).toNat) default).lo,zu ((μ1.getD ((w64 (((μ1.length:Nat):Int) - 1)).toNat) default).hi) μ2.hi⟩:Sn)).map Sn.D,2,false⟩),(ν1,⟨[.agg [I μ2.lo,I μ2.hi]],2,false⟩)],ν3,ν0⟩

def sd40166 (ν0 ν1 ν2 ν3 ν4 ν5:Nat) (μ0:Nat) (μ1:List Sn) (μ2:Sn) (μ3:List Sn) (μ4:List Sn):St:=⟨65,[(12,I ((μ0+1:Nat):Int)),(60,I ((μ0+1:Nat):Int)),(4,.lsl ν0 0 ((μ1++[μ2]).length) 2 none),(59,.lsl ν0 0 ((μ1++[μ2]).length) 2 none),(58,.lsl ν1 0 1 2 (some 1)),(57,.agg [I μ2.lo,I μ2.hi]),(56,.lsl ν2 0 μ1.length 2 none),(41,B false),(40,B false),(39,I (w64 (((μ1.getD ((w64 (((μ1.length:Nat):Int) - 1)).toNat) default).hi)+1))),(38,I ((μ1.getD ((w64 (((μ1.length:Nat):Int) - 1)).toNat) default).hi)),(37,.lref ν2 ((w64 (((μ1.length:Nat):Int) - 1)).toNat) 2 1),(36,.lref ν2 ((w64 (((μ1.length:Nat):Int) - 1)).toNat) 2 0),(35,I (w64 (((μ1.length:Nat):Int) - 1))),(34,I ((μ1.length:Nat):Int)),(33,.lsl ν2 0 μ1.length 2 none),(32,I μ2.lo),(31,.lref ν3 0 2 0),(30,B true),(29,B true),(28,I ((μ1.length:Nat):Int)),(7,I ((μ1.length:Nat):Int)),(27,I ((μ1.length:Nat):Int)),(26,.lsl ν2 0 μ1.length 2 none),(25,B false),(24,B false),(23,B true),(22,I μ2.hi),(21,.lref ν3 0 2 1),(20,B false),(19,B false),(18,B true),(17,I μ2.lo),(16,.lref ν3 0 2 0),(6,.lref ν3 0 2 0),(15,.agg [I μ2.lo,I μ2.hi]),(14,.lref ν4 μ0 2 0),(13,B true),(4,.lsl ν2 0 μ1.length 2 none),(10,.lsl ν4 0 μ3.length 2 none),(11,I ((μ3.length:Nat):Int)),(12,I ((μ0:Nat):Int))],[(ν4,⟨μ4.map Sn.D,2,false⟩),(ν3,⟨[.agg [I μ2.lo,I μ2.hi]],2,false⟩),(ν1,⟨[.agg [I μ2.lo,I μ2.hi]],2,false⟩),(ν0,⟨(μ1++[μ2]).map Sn.D,2,false⟩)],ν5,ν2⟩

def sd40167 (ν0 ν1 ν2 ν3 ν4 ν5:Nat) (μ0:Nat) (μ1:List Sn) (μ2:Sn) (μ3:List Sn) (μ4:List Sn):St:=⟨65,[(12,I ((μ0+1:Nat):Int)),(60,I ((μ0+1:Nat):Int)),(4,.lsl ν0 0 ((μ1++[μ2]).length) 2 none),(59,.lsl ν0 0 ((μ1++[μ2]).length) 2 none),(58,.lsl ν1 0 1 2 (some 1)),(57,.agg [I μ2.lo,I μ2.hi]),(56,.lsl ν2 0 μ1.length 2 none),(41,B false),(40,.tup []),(39,.tup []),(38,.tup []),(37,.tup []),(36,.tup []),(35,.tup []),(34,.tup []),(33,.tup []),(32,.tup []),(31,.tup []),(30,B false),(29,B false),(28,I ((μ1.length:Nat):Int)),(7,I ((μ1.length:Nat):Int)),(27,I ((μ1.length:Nat):Int)),(26,.lsl ν2 0 μ1.length 2 none),(25,B false),(24,B false),(23,B true),(22,I μ2.hi),(21,.lref ν3 0 2 1),(20,B false),(19,B false),(18,B true),(17,I μ2.lo),(16,.lref ν3 0 2 0),(6,.lref ν3 0 2 0),(15,.agg [I μ2.lo,I μ2.hi]),(14,.lref ν4 μ0 2 0),(13,B true),(4,.lsl ν2 0 μ1.length 2 none),(10,.lsl ν4 0 μ3.length 2 none),(11,I ((μ3.length:Nat):Int)),(12,I ((μ0:Nat):Int))],[(ν4,⟨μ4.map Sn.D,2,false⟩),(ν3,⟨[.agg [I μ2.lo,I μ2.hi]],2,false⟩),(ν1,⟨[.agg [I μ2.lo,I μ2.hi]],2,false⟩),(ν0,⟨(μ1++[μ2]).map Sn.D,2,false⟩)],ν5,ν2⟩

def sd40168 (ν0 ν1 ν2 ν3 ν4:Nat) (μ0:Nat) (μ1:Sn) (μ2:List Sn) (μ3:List Sn):St:=⟨65,[(12,I ((μ0+1:Nat):Int)),(60,I ((μ0+1:Nat):Int)),(4,.lsl ν0 0 1 2 none),(59,.lsl ν0 0 1 2 none),(58,.lsl ν1 0 1 2 (some 1)),(57,.agg [I μ1.lo,I μ1.hi]),(56,.sl true [] 0 none),(41,B false),(40,.tup []),(39,.tup []),(38,.tup []),(37,.tup []),(36,.tup []),(35,.tup []),(34,.tup []),(33,.tup []),(32,.tup []),(31,.tup []),(30,B false),(29,B false),(28,I 0),(7,I 0),(27,I 0),(26,.sl true [] 0 none),(25,B false),(24,B false),(23,B true),(22,I μ1.hi),(21,.lref ν2 0 2 1),(20,B false),(19,B false),(18,B true),(17,I μ1.lo),(16,.lref ν2 0 2 0),(6,.lref ν2 0 2 0),(15,.agg [I μ1.lo,I μ1.hi]),(14,.lref ν3 μ0 2 0),(13,B true),(4,.sl true [] 0 none),(10,.lsl ν3 0 μ2.length 2 none),(11,I ((μ2.length:Nat):Int)),(12,I ((μ0:Nat):Int))],[(ν3,⟨μ3.map Sn.D,2,false⟩),(ν2,⟨[.agg [I μ1.lo,I μ1.hi]],2,false⟩),(ν1,⟨[.agg [I μ1.lo,I μ1.hi]],2,false⟩),(ν0,⟨[.agg [I μ1.lo,I μ1.hi]],2,false⟩)],ν4,ν2⟩

inductive LR_ranges_gathered_4p3 where
 | x0 (yv:List Sn)
 | x1 (x9:Nat) (yU:Sn) (yv:List Sn)
 | x2 (x9:Nat) (yU:Sn) (yv:List Sn)
 | x3
 | x4 (x9:Nat) (yU:Sn)
 | x5 (x9:Nat) (yU:Sn)
instance:Inhabited LR_ranges_gathered_4p3:=⟨.x0 default⟩
def zS:List Sn→Nat→(List Sn)→LR_ranges_gathered_4p3
 | [],x9,yv=>.x0 yv
 | yU::xe,x9,yv =>
  bif (zh yU.lo) then
   bif (zh yU.hi) then
    bif decide (((yv.length:Nat):Int) > 0) then
     bif decide (yU.lo≤(w64 (((yv.getD ((w64 (((yv.length:Nat):Int) - 1)).toNat) default).hi)+1))) then
      zS xe (x9+1) (yv.set ((w64 (((yv.length:Nat):Int) - 1)).toNat) (⟨(yv.getD ((w64 (((yv.length:Nat):Int) - 1)).toNat) default).lo,zu ((yv.getD ((w64 (((yv.length:Nat):Int) - 1)).toNat) default).hi) yU.hi⟩:Sn))
     else
      zS xe (x9+1) (yv++[yU])
    else
     zS xe (x9+1) (yv++[yU])
   else
    .x1 x9 yU yv
  else
   .x2 x9 yU yv
def zD:List Sn→Nat→LR_ranges_gathered_4p3
 | [],x9=>.x3
 | yU::xe,x9 =>
  bif (zh yU.lo) then
   bif (zh yU.hi) then
    zS xe (x9+1) [yU]
   else
    .x4 x9 yU
  else
   .x5 x9 yU
def zA (ym:List Sn) (yV:List Sn):LR_ranges_gathered_4p3→Exit × St
 | .x0 yv=>((.exit 0),(sd40159 3 2 4 yv ym yV))
 | .x1 x9 yU yv=>(.ret,(sd40160 4 2 3 5 yU x9 yv ym yV))
 | .x2 x9 yU yv=>(.ret,(sd40161 4 2 3 5 yU x9 yv ym yV))
 | .x3=>((.exit 0),(sd40162 2 3 ym yV))
 | .x4 x9 yU=>(.ret,(sd40163 3 2 4 yU x9 ym yV))
 | .x5 x9 yU=>(.ret,(sd40164 3 2 4 yU x9 ym yV))
def zH (ym:List Sn) (yV:List Sn):LR_ranges_gathered_4p3→Prop
 | .x0 yv=>(1≤yv.length)∧(yv.length≤yV.length)
 | .x1 x9 yU yv=>(1≤yv.length)∧(yv.length≤x9)
 | .x2 x9 yU yv=>(1≤yv.length)∧(yv.length≤x9)
 | .x3=>True
 | .x4 x9 yU=>True
 | .x5 x9 yU=>True
def ranges_gathered_4p3a_l_o1 (x9:Nat) (yU:Sn):List Ora:=[.dec true,.op (some 14) ⟨.lref 2 x9 2 0,[],[],4⟩,.op (some 15) ⟨.agg [I yU.lo,I yU.hi],[],[2],4⟩,.pure (B (zh yU.lo))]
def ranges_gathered_4p3a_l_o2 (yU:Sn) (yv:List Sn):List Ora:=[.dec true,.pure (B (zh yU.hi)),.dec true,.dec true,.op (some 36) ⟨.lref 3 ((w64 (((yv.length:Nat):Int) - 1)).toNat) 2 0,[],[],5⟩,.op (some 38) ⟨I ((yv.getD ((w64 (((yv.length:Nat):Int) - 1)).toNat) default).hi),[],[3],5⟩]
theorem lp_ranges_gathered_4p3a (ym:List Sn) (yV:List Sn):∀ (xe:List Sn) (x9:Nat) (yv:List Sn) (xj:yV.drop x9=xe) (hi4p3:x9≤yV.length) (hz4p3_va4p3_0:1≤yv.length) (hq4p3:yV.length=ym.length) (hg4p3_va4p3_0:yv.length≤x9) (hL4p3:yV.length≤1099511627776),(lim cfg).loop 69 lp69_4 ⟨65,[(4,.lsl 3 0 yv.length 2 none),(10,.lsl 2 0 ym.length 2 none),(11,I ((ym.length:Nat):Int)),(12,I ((x9:Nat):Int))],[(2,⟨yV.map Sn.D,2,false⟩),(3,⟨yv.map Sn.D,2,false⟩)],4,3⟩=some (zA ym yV (zS xe x9 yv)):=by
 intro xe
 induction xe with
 | nil =>
  intro x9 yv xj hi4p3 hz4p3_va4p3_0 hq4p3 hg4p3_va4p3_0 hL4p3
  unfold zS
  obtain rfl:x9=yV.length:=nil_eq xj hi4p3
  exact zF [.dec false] (Ai (lt_no' xj hq4p3) trivial) (by kernel_rfl)
 | cons yU xe ih =>
  intro x9 yv xj hi4p3 hz4p3_va4p3_0 hq4p3 hg4p3_va4p3_0 hL4p3
  have hlt4p3:=zc xj
  unfold zS
  have p1:=(idx_row (C:=cfg) (nxt:=4) (t:=22) (ty:=ty22) (te:=zM) (e:=25) (o:=2) (len:=ym.length) (sz:=2) (cap:=none) (i:=((x9:Nat):Int)) (by kernel_rfl) rfl (by kernel_rfl) rfl (by omega) (by omega))
  have p2:=(load_row (C:=cfg) (objs:=[(2,⟨yV.map Sn.D,2,false⟩),(3,⟨yv.map Sn.D,2,false⟩)]) (nxt:=4) (t:=25) (ty:=zM) (o:=2) (n:=x9) (sz:=2) (sub:=0) (ob:=⟨yV.map Sn.D,2,false⟩) (e:=Sn.D yU) (d:=.agg [I yU.lo,I yU.hi]) (by kernel_rfl) (by kernel_rfl) rfl (row_at (f:=Sn.D) xj) (by kernel_rfl))
  cases h61:(zh yU.lo) with
  | true =>
   cases h62:(zh yU.hi) with
   | true =>
    cases h63:decide (((yv.length:Nat):Int) > 0) with
    | true =>
     have g63:=of_decide_eq_true h63
     have p3:=(idx_row (C:=cfg) (nxt:=5) (t:=23) (ty:=ty23) (te:=zM) (e:=25) (o:=3) (len:=yv.length) (sz:=2) (cap:=none) (i:=w64 (((yv.length:Nat):Int) - 1)) (by kernel_rfl) rfl (by kernel_rfl) rfl (by simp only [List.length_append,List.length_cons,List.length_nil,zi] at * <;> omega) (by simp only [List.length_append,List.length_cons,List.length_nil,zi] at * <;> omega))
     have p4:=(load_row (C:=cfg) (objs:=[(2,⟨yV.map Sn.D,2,false⟩),(3,⟨yv.map Sn.D,2,false⟩),(4,⟨[.agg [I yU.lo,I yU.hi]],2,false⟩)]) (nxt:=5) (t:=3) (ty:=ty3) (o:=3) (n:=(w64 (((yv.length:Nat):Int) - 1)).toNat) (sz:=2) (sub:=1) (ob:=⟨yv.map Sn.D,2,false⟩) (e:=Sn.D (yv.getD ((w64 (((yv.length:Nat):Int) - 1)).toNat) default)) (d:=I ((yv.getD ((w64 (((yv.length:Nat):Int) - 1)).toNat) default).hi)) (by kernel_rfl) (by kernel_rfl) rfl (row_get (f:=Sn.D) (by simp only [List.length_append,List.length_cons,List.length_nil,zi] at * <;> omega)) (by kernel_rfl))
     cases h64:decide (yU.lo≤(w64 (((yv.getD ((w64 (((yv.length:Nat):Int) - 1)).toNat) default).hi)+1))) with
     | true =>
      have g64:=of_decide_eq_true h64
      exact zv (ks:=[4,10,11,12]) (st':=(sd40165 3 4 2 5 x9 yv yU ym yV)) ((ranges_gathered_4p3a_l_o1 x9 yU)++((ranges_gathered_4p3a_l_o2 yU yv)++[.dec true,.op (some 48) ⟨.lref 3 ((w64 (((yv.length:Nat):Int) - 1)).toNat) 2 0,[],[],5⟩,.op (some 50) ⟨I ((yv.getD ((w64 (((yv.length:Nat):Int) - 1)).toNat) default).hi),[],[3],5⟩,.op (some 54) ⟨.lref 3 ((w64 (((yv.length:Nat):Int) - 1)).toNat) 2 0,[],[],5⟩,.stS 3 ⟨.tup [],[(3,some ⟨(yv.set ((w64 (((yv.length:Nat):Int) - 1)).toNat) (⟨(yv.getD ((w64 (((yv.length:Nat):Int) - 1)).toNat) default).lo,zu ((yv.getD ((w64 (((yv.length:Nat):Int) - 1)).toNat) default).hi) yU.hi⟩:Sn)).map Sn.D,2,false⟩)],[3],5⟩,.rw 60 (I ((x9+1:Nat):Int))])) (Ai (zX (i:=x9) (by have:=zc xj; omega)) (Ai (store_row (C:=cfg) (objs:=[(2,⟨yV.map Sn.D,2,false⟩),(3,⟨yv.map Sn.D,2,false⟩),(4,⟨[.agg [I yU.lo,I yU.hi]],2,false⟩)]) (nxt:=5) (t:=3) (ty:=ty3) (o:=3) (n:=(w64 (((yv.length:Nat):Int) - 1)).toNat) (sz:=2) (sub:=1) (els:=yv.map Sn.D) (els':=(yv.set ((w64 (((yv.length:Nat):Int) - 1)).toNat) (⟨(yv.getD ((w64 (((yv.length:Nat):Int) - 1)).toNat) default).lo,zu ((yv.getD ((w64 (((yv.length:Nat):Int) - 1)).toNat) default).hi) yU.hi⟩:Sn)).map Sn.D) (e:=Sn.D (yv.getD ((w64 (((yv.length:Nat):Int) - 1)).toNat) default)) (e':=Sn.D (⟨(yv.getD ((w64 (((yv.length:Nat):Int) - 1)).toNat) default).lo,zu ((yv.getD ((w64 (((yv.length:Nat):Int) - 1)).toNat) default).hi) yU.hi⟩:Sn)) (v:=I (zu ((yv.getD ((w64 (((yv.length:Nat):Int) - 1)).toNat) default).hi) yU.hi)) (by kernel_rfl) (by kernel_rfl) (row_get (f:=Sn.D) (by simp only [List.length_append,List.length_cons,List.length_nil,zi] at * <;> omega)) rfl (by kernel_rfl) rfl (by kernel_rfl) (row_set (f:=Sn.D))) (Ai (idx_row (C:=cfg) (nxt:=5) (t:=23) (ty:=ty23) (te:=zM) (e:=25) (o:=3) (len:=yv.length) (sz:=2) (cap:=none) (i:=w64 (((yv.length:Nat):Int) - 1)) (by kernel_rfl) rfl (by kernel_rfl) rfl (by simp only [List.length_append,List.length_cons,List.length_nil,zi] at * <;> omega) (by simp only [List.length_append,List.length_cons,List.length_nil,zi] at * <;> omega)) (Ai (load_row (C:=cfg) (objs:=[(2,⟨yV.map Sn.D,2,false⟩),(3,⟨yv.map Sn.D,2,false⟩),(4,⟨[.agg [I yU.lo,I yU.hi]],2,false⟩)]) (nxt:=5) (t:=3) (ty:=ty3) (o:=3) (n:=(w64 (((yv.length:Nat):Int) - 1)).toNat) (sz:=2) (sub:=1) (ob:=⟨yv.map Sn.D,2,false⟩) (e:=Sn.D (yv.getD ((w64 (((yv.length:Nat):Int) - 1)).toNat) default)) (d:=I ((yv.getD ((w64 (((yv.length:Nat):Int) - 1)).toNat) default).hi)) (by kernel_rfl) (by kernel_rfl) rfl (row_get (f:=Sn.D) (by simp only [List.length_append,List.length_cons,List.length_nil,zi] at * <;> omega)) (by kernel_rfl)) (Ai (idx_row (C:=cfg) (nxt:=5) (t:=23) (ty:=ty23) (te:=zM) (e:=25) (o:=3) (len:=yv.length) (sz:=2) (cap:=none) (i:=w64 (((yv.length:Nat):Int) - 1)) (by kernel_rfl) rfl (by kernel_rfl) rfl (by simp only [List.length_append,List.length_cons,List.length_nil,zi] at * <;> omega) (by simp only [List.length_append,List.length_cons,List.length_nil,zi] at * <;> omega)) (Ai h64 (Ai p4 (Ai p3 (Ai h63 (Ai h62 (Ai (zb yU.hi) (Ai h61 (Ai (zb yU.lo) (Ai p2 (Ai p1 (Ai (lt_at' xj hq4p3) trivial)))))))))))))))) (by kernel_rfl) (by (simp only [sd40165,go_sem,List.length_set,Nat.reduceAdd,Nat.reduceEqDiff,Nat.reduceLT,Nat.reduceLeDiff,bI2,z8.idsL,z8.renL,z8.snapAll,z6.idsL,z6.renL,z6.snapAll]) <;> rfl) (ih (x9+1) (yv.set ((w64 (((yv.length:Nat):Int) - 1)).toNat) (⟨(yv.getD ((w64 (((yv.length:Nat):Int) - 1)).toNat) default).lo,zu ((yv.getD ((w64 (((yv.length:Nat):Int) - 1)).toNat) default).hi) yU.hi⟩:Sn)) (ze xj) (zc xj) (by simp only [List.length_set] at * <;> omega) (by omega) (by simp only [List.length_set] at * <;> omega) (by omega)) (by kernel_rfl)
     | false =>
      have g64:=of_decide_eq_false h64
      exact zv (ks:=[4,10,11,12]) (st':=(sd40166 6 5 3 4 2 7 x9 yv yU ym yV)) ((ranges_gathered_4p3a_l_o1 x9 yU)++((ranges_gathered_4p3a_l_o2 yU yv)++[.dec false,.op (some 59) ⟨.lsl 6 0 ((yv++[yU]).length) 2 none,[(3,none),(6,some ⟨(yv++[yU]).map Sn.D,2,false⟩)],[3,5],7⟩,.rw 60 (I ((x9+1:Nat):Int))])) (Ai (zX (i:=x9) (by have:=zc xj; omega)) (Ai (app_row (f:=Sn.D) (te:=zM) (gO:=zp [(2,⟨yV.map Sn.D,2,false⟩),(3,⟨yv.map Sn.D,2,false⟩),(4,⟨[.agg [I yU.lo,I yU.hi]],2,false⟩),(5,⟨[.agg [I yU.lo,I yU.hi]],2,false⟩)]) (nxt:=6) (o:=3) (o2:=5) (fz:=false) z6 yv yU (by kernel_rfl) (by kernel_rfl) rfl (by kernel_rfl) (by decide) ⟨by simp only [zM,big] <;> (omega),by simp only [big] <;> (omega)⟩) (Ai h64 (Ai p4 (Ai p3 (Ai h63 (Ai h62 (Ai (zb yU.hi) (Ai h61 (Ai (zb yU.lo) (Ai p2 (Ai p1 (Ai (lt_at' xj hq4p3) trivial))))))))))))) (by kernel_rfl) (by (simp only [sd40166,go_sem,List.length_set,Nat.reduceAdd,Nat.reduceEqDiff,Nat.reduceLT,Nat.reduceLeDiff,bI2,z8.idsL,z8.renL,z8.snapAll,z6.idsL,z6.renL,z6.snapAll]) <;> rfl) (ih (x9+1) (yv++[yU]) (ze xj) (zc xj) (by simp only [List.length_append,List.length_cons,List.length_nil] at * <;> omega) (by omega) (by simp only [List.length_append,List.length_cons,List.length_nil] at * <;> omega) (by omega)) (by kernel_rfl)
    | false =>
     have g63:=of_decide_eq_false h63
     exact zv (ks:=[4,10,11,12]) (st':=(sd40167 6 5 3 4 2 7 x9 yv yU ym yV)) ((ranges_gathered_4p3a_l_o1 x9 yU)++[.dec true,.pure (B (zh yU.hi)),.dec true,.dec false,.op (some 59) ⟨.lsl 6 0 ((yv++[yU]).length) 2 none,[(3,none),(6,some ⟨(yv++[yU]).map Sn.D,2,false⟩)],[3,5],7⟩,.rw 60 (I ((x9+1:Nat):Int))]) (Ai (zX (i:=x9) (by have:=zc xj; omega)) (Ai (app_row (f:=Sn.D) (te:=zM) (gO:=zp [(2,⟨yV.map Sn.D,2,false⟩),(3,⟨yv.map Sn.D,2,false⟩),(4,⟨[.agg [I yU.lo,I yU.hi]],2,false⟩),(5,⟨[.agg [I yU.lo,I yU.hi]],2,false⟩)]) (nxt:=6) (o:=3) (o2:=5) (fz:=false) z6 yv yU (by kernel_rfl) (by kernel_rfl) rfl (by kernel_rfl) (by decide) ⟨by simp only [zM,big] <;> (omega),by simp only [big] <;> (omega)⟩) (Ai h63 (Ai h62 (Ai (zb yU.hi) (Ai h61 (Ai (zb yU.lo) (Ai p2 (Ai p1 (Ai (lt_at' xj hq4p3) trivial)))))))))) (by kernel_rfl) (by (simp only [sd40167,go_sem,List.length_set,Nat.reduceAdd,Nat.reduceEqDiff,Nat.reduceLT,Nat.reduceLeDiff,bI2,z8.idsL,z8.renL,z8.snapAll,z6.idsL,z6.renL,z6.snapAll]) <;> rfl) (ih (x9+1) (yv++[yU]) (ze xj) (zc xj) (by omega) (by omega) (by omega) (by omega)) (by kernel_rfl)
   | false =>
    exact zF ((ranges_gathered_4p3a_l_o1 x9 yU)++[.dec true,.pure (B (zh yU.hi)),.dec false]) (Ai h62 (Ai (zb yU.hi) (Ai h61 (Ai (zb yU.lo) (Ai p2 (Ai p1 (Ai (lt_at' xj hq4p3) trivial))))))) (by kernel_rfl)
  | false =>
   exact zF ((ranges_gathered_4p3a_l_o1 x9 yU)++[.dec false]) (Ai h61 (Ai (zb yU.lo) (Ai p2 (Ai p1 (Ai (lt_at' xj hq4p3) trivial))))) (by kernel_rfl)
theorem ivt_ranges_gathered_4p3a (ym:List Sn) (yV:List Sn):∀ (xe:List Sn) (x9:Nat) (yv:List Sn) (xj:yV.drop x9=xe) (hi4p3:x9≤yV.length) (hz4p3_va4p3_0:1≤yv.length) (hq4p3:yV.length=ym.length) (hg4p3_va4p3_0:yv.length≤x9) (hL4p3:yV.length≤1099511627776),zH ym yV (zS xe x9 yv):=by
 intro xe
 induction xe with
 | nil =>
  intro x9 yv xj hi4p3 hz4p3_va4p3_0 hq4p3 hg4p3_va4p3_0 hL4p3
  unfold zS
  obtain rfl:x9=yV.length:=nil_eq xj hi4p3
  exact ⟨hz4p3_va4p3_0,hg4p3_va4p3_0⟩
 | cons yU xe ih =>
  intro x9 yv xj hi4p3 hz4p3_va4p3_0 hq4p3 hg4p3_va4p3_0 hL4p3
  have hlt4p3:=zc xj
  unfold zS
  cases h61:(zh yU.lo) with
  | true =>
   cases h62:(zh yU.hi) with
   | true =>
    cases h63:decide (((yv.length:Nat):Int) > 0) with
    | true =>
     have g63:=of_decide_eq_true h63
     cases h64:decide (yU.lo≤(w64 (((yv.getD ((w64 (((yv.length:Nat):Int) - 1)).toNat) default).hi)+1))) with
     | true =>
      have g64:=of_decide_eq_true h64
      exact ih (x9+1) (yv.set ((w64 (((yv.length:Nat):Int) - 1)).toNat) (⟨(yv.getD ((w64 (((yv.length:Nat):Int) - 1)).toNat) default).lo,zu ((yv.getD ((w64 (((yv.length:Nat):Int) - 1)).toNat) default).hi) yU.hi⟩:Sn)) (ze xj) (zc xj) (by simp only [List.length_set] at * <;> omega) (by omega) (by simp only [List.length_set] at * <;> omega) (by omega)
     | false =>
      have g64:=of_decide_eq_false h64
      exact ih (x9+1) (yv++[yU]) (ze xj) (zc xj) (by simp only [List.length_append,List.length_cons,List.length_nil] at * <;> omega) (by omega) (by simp only [List.length_append,List.length_cons,List.length_nil] at * <;> omega) (by omega)
    | false =>
     have g63:=of_decide_eq_false h63
     exact ih (x9+1) (yv++[yU]) (ze xj) (zc xj) (by omega) (by omega) (by omega) (by omega)
   | false =>
    exact ⟨hz4p3_va4p3_0,hg4p3_va4p3_0⟩
  | false =>
   exact ⟨hz4p3_va4p3_0,hg4p3_va4p3_0⟩
def ranges_gathered_4p3_l_o1 (x9:Nat) (yU:Sn):List Ora:=[.dec true,.op (some 14) ⟨.lref 2 x9 2 0,[],[],3⟩,.op (some 15) ⟨.agg [I yU.lo,I yU.hi],[],[2],3⟩,.pure (B (zh yU.lo))]
theorem lp_ranges_gathered_4p3 (ym:List Sn) (yV:List Sn):∀ (xe:List Sn) (x9:Nat) (xj:yV.drop x9=xe) (hi4p3:x9≤yV.length) (hq4p3:yV.length=ym.length) (hL4p3:yV.length≤1099511627776),(lim cfg).loop 69 lp69_4 ⟨65,[(4,.sl true [] 0 none),(10,.lsl 2 0 ym.length 2 none),(11,I ((ym.length:Nat):Int)),(12,I ((x9:Nat):Int))],[(2,⟨yV.map Sn.D,2,false⟩)],3,3⟩=some (zA ym yV (zD xe x9)):=by
 intro xe
 induction xe with
 | nil =>
  intro x9 xj hi4p3 hq4p3 hL4p3
  unfold zD
  obtain rfl:x9=yV.length:=nil_eq xj hi4p3
  exact zF [.dec false] (Ai (lt_no' xj hq4p3) trivial) (by kernel_rfl)
 | cons yU xe ih =>
  intro x9 xj hi4p3 hq4p3 hL4p3
  have hlt4p3:=zc xj
  unfold zD
  dsimp only
  have p1:=(idx_row (C:=cfg) (nxt:=3) (t:=22) (ty:=ty22) (te:=zM) (e:=25) (o:=2) (len:=ym.length) (sz:=2) (cap:=none) (i:=((x9:Nat):Int)) (by kernel_rfl) rfl (by kernel_rfl) rfl (by omega) (by omega))
  have p2:=(load_row (C:=cfg) (objs:=[(2,⟨yV.map Sn.D,2,false⟩)]) (nxt:=3) (t:=25) (ty:=zM) (o:=2) (n:=x9) (sz:=2) (sub:=0) (ob:=⟨yV.map Sn.D,2,false⟩) (e:=Sn.D yU) (d:=.agg [I yU.lo,I yU.hi]) (by kernel_rfl) (by kernel_rfl) rfl (row_at (f:=Sn.D) xj) (by kernel_rfl))
  cases h65:(zh yU.lo) with
  | true =>
   cases h66:(zh yU.hi) with
   | true =>
    exact zv (ks:=[4,10,11,12]) (st':=(sd40168 5 4 3 2 6 x9 yU ym yV)) ((ranges_gathered_4p3_l_o1 x9 yU)++[.dec true,.pure (B (zh yU.hi)),.dec true,.dec false,.rw 60 (I ((x9+1:Nat):Int))]) (Ai (zX (i:=x9) (by have:=zc xj; omega)) (Ai (Eq.refl false) (Ai h66 (Ai (zb yU.hi) (Ai h65 (Ai (zb yU.lo) (Ai p2 (Ai p1 (Ai (lt_at' xj hq4p3) trivial))))))))) (by kernel_rfl) (by (simp only [sd40168,go_sem,List.length_set,Nat.reduceAdd,Nat.reduceEqDiff,Nat.reduceLT,Nat.reduceLeDiff,bI2,z8.idsL,z8.renL,z8.snapAll,z6.idsL,z6.renL,z6.snapAll]) <;> rfl) (lp_ranges_gathered_4p3a ym yV _ (x9+1) [yU] (ze xj) (zc xj) (by simp only [List.length_append,List.length_cons,List.length_nil] at * <;> omega) (by omega) (by simp only [List.length_append,List.length_cons,List.length_nil] at * <;> omega) (by omega)) (by kernel_rfl)
   | false =>
    exact zF ((ranges_gathered_4p3_l_o1 x9 yU)++[.dec true,.pure (B (zh yU.hi)),.dec false]) (Ai h66 (Ai (zb yU.hi) (Ai h65 (Ai (zb yU.lo) (Ai p2 (Ai p1 (Ai (lt_at' xj hq4p3) trivial))))))) (by kernel_rfl)
  | false =>
   exact zF ((ranges_gathered_4p3_l_o1 x9 yU)++[.dec false]) (Ai h65 (Ai (zb yU.lo) (Ai p2 (Ai p1 (Ai (lt_at' xj hq4p3) trivial))))) (by kernel_rfl)
theorem ivt_ranges_gathered_4p3 (ym:List Sn) (yV:List Sn):∀ (xe:List Sn) (x9:Nat) (xj:yV.drop x9=xe) (hi4p3:x9≤yV.length) (hq4p3:yV.length=ym.length) (hL4p3:yV.length≤1099511627776),zH ym yV (zD xe x9):=by
 intro xe
 induction xe with
 | nil =>
  intro x9 xj hi4p3 hq4p3 hL4p3
  unfold zD
  obtain rfl:x9=yV.length:=nil_eq xj hi4p3
  exact trivial
 | cons yU xe ih =>
  intro x9 xj hi4p3 hq4p3 hL4p3
  have hlt4p3:=zc xj
  unfold zD
  dsimp only
  cases h65:(zh yU.lo) with
  | true =>
   cases h66:(zh yU.hi) with
   | true =>
    exact ivt_ranges_gathered_4p3a ym yV _ (x9+1) [yU] (ze xj) (zc xj) (by simp only [List.length_append,List.length_cons,List.length_nil] at * <;> omega) (by omega) (by simp only [List.length_append,List.length_cons,List.length_nil] at * <;> omega) (by omega)
   | false =>
    exact trivial
  | false =>
   exact trivial

def zW (r:GS Sn) (n:Int) (within:Sn):(GS Sn) × Int :=
 bif ((zC r) != 0) then
  (GS.nil,(zC r))
 else
  bif (ranges_in n 1 10000) then
   bif decide (within.lo > within.hi) then
    (GS.nil,1)
   else
    bif (zh within.lo) then
     bif (zh within.hi) then
      match ranges_each_3p5 n r.l with
      | .x0 yo =>
       bif (((yo.length:Nat):Int) == 0) then
        (GS.nil,0)
       else
        bif (ranges_full (GS.some yo) n) then
         (GS.some [within],0)
        else
         bif decide ((w64 ((za within.hi n) - (za within.lo n))) > 66) then
          (GS.nil,2)
         else
          match zP n within yo (za within.hi n) ((za within.hi n - za within.lo n).toNat+2) (za within.lo n) with
          | .x0 yF ym yB =>
           match zD (zq zo ym) 0 with
           | .x0 yv =>
            bif decide (((yv.length:Nat):Int) > 64) then
             (GS.nil,2)
            else
             (GS.some yv,0)
           | .x1 x9 yU yv =>
            (GS.nil,2)
           | .x2 x9 yU yv =>
            (GS.nil,2)
           | .x3 =>
            (GS.nil,0)
           | .x4 x9 yU =>
            (GS.nil,2)
           | .x5 x9 yU =>
            (GS.nil,2)
          | .x1 yC =>
           (GS.nil,0)
          | .out =>
           default
      | .x1 yz =>
       bif (((yz.length:Nat):Int) == 0) then
        (GS.nil,0)
       else
        bif (ranges_full (GS.some yz) n) then
         (GS.some [within],0)
        else
         bif decide ((w64 ((za within.hi n) - (za within.lo n))) > 66) then
          (GS.nil,2)
         else
          match zP n within yz (za within.hi n) ((za within.hi n - za within.lo n).toNat+2) (za within.lo n) with
          | .x0 yF ym yB =>
           match zD (zq zo ym) 0 with
           | .x0 yv =>
            bif decide (((yv.length:Nat):Int) > 64) then
             (GS.nil,2)
            else
             (GS.some yv,0)
           | .x1 x9 yU yv =>
            (GS.nil,2)
           | .x2 x9 yU yv =>
            (GS.nil,2)
           | .x3 =>
            (GS.nil,0)
           | .x4 x9 yU =>
            (GS.nil,2)
           | .x5 x9 yU =>
            (GS.nil,2)
          | .x1 yC =>
           (GS.nil,0)
          | .out =>
           default
      | .x2 =>
       (GS.nil,0)
      | .x3 =>
       (GS.nil,0)
     else
      (GS.nil,1)
    else
     (GS.nil,1)
  else
   (GS.nil,1)

def zx (r:GS Sn) (n:Int) (within:Sn):List Ora:=[.pure (I (zC r)),.dec false,.pure (B (ranges_in n 1 10000)),.dec true,.dec false,.pure (B (zh within.lo))]

def ranges_Turns_o2 (n:Int) (within:Sn) (yo:List Sn):List Ora:=[.dec true,.pure (B (zh within.hi)),.dec true,.inl (.lsl 2 0 yo.length 2 none) [(1,⟨[I n],1,true⟩),(2,⟨yo.map Sn.D,2,false⟩)] 3]

def ranges_Turns_o3 (n:Int) (within:Sn) (yo:List Sn):List Ora:=[.dec false,.pureS (B (ranges_full (GS.some yo) n)) true [(2,.sl false (yo.map Sn.D) 2 none,[2])],.dec false,.pure (I (za within.lo n)),.pure (I (za within.hi n))]

def ranges_Turns_o4 (n:Int) (within:Sn) (yz:List Sn):List Ora:=[.dec true,.pure (B (zh within.hi)),.dec true,.inl (.lsl 2 0 yz.length 2 none) [(1,⟨[I n],1,false⟩),(2,⟨yz.map Sn.D,2,false⟩)] 3]

def ranges_Turns_o5 (n:Int) (within:Sn) (yz:List Sn):List Ora:=[.dec false,.pureS (B (ranges_full (GS.some yz) n)) true [(2,.sl false (yz.map Sn.D) 2 none,[2])],.dec false,.pure (I (za within.lo n)),.pure (I (za within.hi n))]

def sd40156 (ν0 ν1 ν2 ν3:Nat) (μ0:Sn) (μ1:Int) (μ2:List Sn) (μ3:GS Sn):St:=⟨104,[(13,I (za μ0.lo μ1)),(66,I (za μ0.lo μ1)),(12,.sl true [] 0 none),(65,B false),(64,I (w64 ((za μ0.hi μ1) - (za μ0.lo μ1)))),(63,I (za μ0.lo μ1)),(62,I (za μ0.hi μ1)),(11,I (za μ0.hi μ1)),(10,I (za μ0.lo μ1)),(61,I (za μ0.hi μ1)),(60,I μ1),(59,I μ0.hi),(58,.lref ν0 0 2 1),(57,I (za μ0.lo μ1)),(56,I μ1),(55,I μ0.lo),(54,.lref ν0 0 2 0),(51,B false),(50,I μ1),(49,.lsl ν1 0 μ2.length 2 none),(48,B false),(47,I ((μ2.length:Nat):Int)),(46,.lsl ν1 0 μ2.length 2 none),(9,.lsl ν1 0 μ2.length 2 none),(45,.lsl ν1 0 μ2.length 2 none),(44,I μ1),(43,.sl μ3.nl (μ3.l.map Sn.D) (zsl μ3.nl 2) none),(42,B false),(41,B false),(40,B true),(39,I μ0.hi),(38,.lref ν0 0 2 1),(37,B false),(36,B false),(35,B false),(34,B true),(33,I μ0.lo),(32,.lref ν0 0 2 0),(31,B false),(30,B false),(29,B false),(28,I μ0.hi),(27,.lref ν0 0 2 1),(26,I μ0.lo),(25,.lref ν0 0 2 0),(24,B false),(23,B false),(22,B true),(21,I μ1),(19,B false),(18,I (zC μ3)),(8,I (zC μ3)),(17,I (zC μ3)),(16,.sl μ3.nl (μ3.l.map Sn.D) (zsl μ3.nl 2) none),(7,I 0),(6,.sl true [] 0 none),(5,.lref ν0 0 2 0),(0,.sl μ3.nl (μ3.l.map Sn.D) (zsl μ3.nl 2) none),(1,I μ1),(2,.agg [I μ0.lo,I μ0.hi])],[(ν0,⟨[.agg [I μ0.lo,I μ0.hi]],2,false⟩),(ν2,⟨[I μ1],1,true⟩),(ν1,⟨μ2.map Sn.D,2,false⟩)],ν3,ν0⟩

def sd40157 (ν0 ν1 ν2:Nat) (μ0:Int) (μ1:List Sn) (μ2:Sn):St:=⟨104,[(1,I μ0),(5,.lref ν0 0 2 0),(9,.lsl ν1 0 μ1.length 2 none),(11,I (za μ2.hi μ0)),(12,.sl true [] 0 none),(13,I (za μ2.lo μ0))],[(ν0,⟨[.agg [I μ2.lo,I μ2.hi]],2,false⟩),(ν1,⟨μ1.map Sn.D,2,false⟩)],ν2,ν0⟩

def sd40158 (ν0 ν1 ν2 ν3:Nat) (μ0:Sn) (μ1:Int) (μ2:Int) (μ3:List Sn) (μ4:List Sn):St:=⟨104,[(69,B false),(68,I (za μ0.hi μ1)),(67,I μ2),(1,I μ1),(5,.lref ν0 0 2 0),(9,.lsl ν1 0 μ3.length 2 none),(11,I (za μ0.hi μ1)),(12,.lsl ν2 0 μ4.length 2 none),(13,I μ2)],[(ν0,⟨[.agg [I μ0.lo,I μ0.hi]],2,false⟩),(ν1,⟨μ3.map Sn.D,2,false⟩),(ν2,⟨μ4.map Sn.D,2,false⟩)],ν3,ν0⟩

def sd40169 (ν0 ν1 ν2:Nat) (μ0:Sn) (μ1:Int) (μ2:Int) (μ3:List Sn):St:=⟨104,[(69,B false),(68,I (za μ0.hi μ1)),(67,I μ2),(1,I μ1),(5,.lref ν0 0 2 0),(9,.lsl ν1 0 μ3.length 2 none),(11,I (za μ0.hi μ1)),(12,.sl true [] 0 none),(13,I μ2)],[(ν0,⟨[.agg [I μ0.lo,I μ0.hi]],2,false⟩),(ν1,⟨μ3.map Sn.D,2,false⟩)],ν2,ν0⟩

def sd40170 (ν0 ν1 ν2 ν3:Nat) (μ0:Sn) (μ1:Int) (μ2:List Sn) (μ3:GS Sn):St:=⟨104,[(13,I (za μ0.lo μ1)),(66,I (za μ0.lo μ1)),(12,.sl true [] 0 none),(65,B false),(64,I (w64 ((za μ0.hi μ1) - (za μ0.lo μ1)))),(63,I (za μ0.lo μ1)),(62,I (za μ0.hi μ1)),(11,I (za μ0.hi μ1)),(10,I (za μ0.lo μ1)),(61,I (za μ0.hi μ1)),(60,I μ1),(59,I μ0.hi),(58,.lref ν0 0 2 1),(57,I (za μ0.lo μ1)),(56,I μ1),(55,I μ0.lo),(54,.lref ν0 0 2 0),(51,B false),(50,I μ1),(49,.lsl ν1 0 μ2.length 2 none),(48,B false),(47,I ((μ2.length:Nat):Int)),(46,.lsl ν1 0 μ2.length 2 none),(9,.lsl ν1 0 μ2.length 2 none),(45,.lsl ν1 0 μ2.length 2 none),(44,I μ1),(43,.sl μ3.nl (μ3.l.map Sn.D) (zsl μ3.nl 2) none),(42,B false),(41,B false),(40,B true),(39,I μ0.hi),(38,.lref ν0 0 2 1),(37,B false),(36,B false),(35,B false),(34,B true),(33,I μ0.lo),(32,.lref ν0 0 2 0),(31,B false),(30,B false),(29,B false),(28,I μ0.hi),(27,.lref ν0 0 2 1),(26,I μ0.lo),(25,.lref ν0 0 2 0),(24,B false),(23,B false),(22,B true),(21,I μ1),(19,B false),(18,I (zC μ3)),(8,I (zC μ3)),(17,I (zC μ3)),(16,.sl μ3.nl (μ3.l.map Sn.D) (zsl μ3.nl 2) none),(7,I 0),(6,.sl true [] 0 none),(5,.lref ν0 0 2 0),(0,.sl μ3.nl (μ3.l.map Sn.D) (zsl μ3.nl 2) none),(1,I μ1),(2,.agg [I μ0.lo,I μ0.hi])],[(ν0,⟨[.agg [I μ0.lo,I μ0.hi]],2,false⟩),(ν2,⟨[I μ1],1,false⟩),(ν1,⟨μ2.map Sn.D,2,false⟩)],ν3,ν0⟩

theorem T_ranges_Turns (r:GS Sn) (n:Int) (within:Sn) (hLr:r.l.length≤9223372036854775807):(lim cfg).pure 22 [GS.D Sn.D 2 r,I n,Sn.D within]=some (.tup [GS.D Sn.D 2 ((zW r n within).1),I ((zW r n within).2)]):=by
 unfold zW
 cases h1:((zC r) != 0) with
 | true =>
  have g1:=bne_true h1
  exact zk [.pure (I (zC r)),.dec true] (Ai h1 (Ai (zm r (by omega)) trivial)) (by kernel_rfl)
 | false =>
  obtain ⟨g1,gb1⟩:=chk1 (bne_false h1)
  cases h2:(ranges_in n 1 10000) with
  | true =>
   have hn:=in_iff.1 h2
   cases h3:decide (within.lo > within.hi) with
   | true =>
    have g3:=of_decide_eq_true h3
    exact zk [.pure (I (zC r)),.dec false,.pure (B (ranges_in n 1 10000)),.dec true,.dec true] (Ai h3 (Ai h2 (Ai (zr n 1 10000) (Ai h1 (Ai (zm r (by omega)) trivial))))) (by kernel_rfl)
   | false =>
    have g3:=of_decide_eq_false h3
    cases h4:(zh within.lo) with
    | true =>
     have g4:=area_b h4
     cases h5:(zh within.hi) with
     | true =>
      have g5:=area_b h5
      cases h30:ranges_each_3p5 n r.l with
      | x0 yo =>
       try dsimp only
       have xK:=ivt_ranges_each_3p5 r n r.l 0 (List.drop_zero) (Nat.zero_le _) (by omega) (by omega) (by omega) (by omega)
       rw [h30] at xK
       obtain ⟨xD,xE⟩:=xK
       try dsimp only [iv_ranges_each_3p5] at xD
       try dsimp only [iv_ranges_each_3p5] at xE
       have p1:=(show (lim cfg).inl 82 [.sl r.nl (r.l.map Sn.D) (zsl r.nl 2) none,I n] [] 1=some (.lsl 2 0 yo.length 2 none,[(1,⟨[I n],1,true⟩),(2,⟨yo.map Sn.D,2,false⟩)],3) from po_inl [.inl (.lsl 2 0 yo.length 2 none) [(1,⟨[I n],1,true⟩),(2,⟨yo.map Sn.D,2,false⟩)] 3] (Ai (show (lim cfg).inl 70 [.sl r.nl (r.l.map Sn.D) (zsl r.nl 2) none,.fn (.func 106) [] [.lref 1 0 1 0]] [(1,⟨[I n],1,false⟩)] 2=some (.lsl 2 0 yo.length 2 none,[(1,⟨[I n],1,true⟩),(2,⟨yo.map Sn.D,2,false⟩)],3) from po_inl [.rw 9 (I ((r.l.length:Nat):Int)),.loop (.exit 0) (sd40132 1 2 3 yo r n)] (Ai (zZ (q:=lr_ranges_each_3p5 r n) (lp_ranges_each_3p5 r n r.l 0 (List.drop_zero) (Nat.zero_le _) (by omega) (by omega) (by omega) (by omega)) h30) (Ai (zj Sn.D r) trivial)) (by kernel_rfl)) trivial) (by kernel_rfl))
       cases h31:(((yo.length:Nat):Int) == 0) with
       | true =>
        have g31:=eq_of_beq h31
        exact zk ((zx r n within)++((ranges_Turns_o2 n within yo)++[.dec true])) (Ai h31 (Ai p1 (Ai h5 (Ai (zb within.hi) (Ai h4 (Ai (zb within.lo) (Ai h3 (Ai h2 (Ai (zr n 1 10000) (Ai h1 (Ai (zm r (by omega)) trivial))))))))))) (by kernel_rfl)
       | false =>
        have g31:=ne_of_beq_false h31
        have p2:=(Ai (show flat yi (B (ranges_full (GS.some yo) n))=true from (by kernel_rfl)) (Ai (Ai (snap_row (gO:=zp [(0,⟨[.agg [I within.lo,I within.hi]],2,false⟩),(1,⟨[I n],1,true⟩),(2,⟨yo.map Sn.D,2,false⟩)]) (o:=2) (len:=yo.length) (cap:=none) (fz:=false) z6 yo (by kernel_rfl) (by omega)) trivial) (T_ranges_full (GS.some yo) n (by simp only [zY,GS.some_l,List.length_set,List.length_append,List.length_cons,List.length_nil] at * <;> first | with_reducible assumption | omega) (by omega) (by assumption))))
        cases h32:(ranges_full (GS.some yo) n) with
        | true =>
         exact zk ((zx r n within)++((ranges_Turns_o2 n within yo)++[.dec false,.pureS (B (ranges_full (GS.some yo) n)) true [(2,.sl false (yo.map Sn.D) 2 none,[2])],.dec true])) (Ai h32 (Ai p2 (Ai h31 (Ai p1 (Ai h5 (Ai (zb within.hi) (Ai h4 (Ai (zb within.lo) (Ai h3 (Ai h2 (Ai (zr n 1 10000) (Ai h1 (Ai (zm r (by omega)) trivial))))))))))))) (by kernel_rfl)
        | false =>
         have p3:=(T_ranges_down within.lo n (by omega))
         have p4:=(T_ranges_down within.hi n (by omega))
         cases h33:decide ((w64 ((za within.hi n) - (za within.lo n))) > 66) with
         | true =>
          have g33:=of_decide_eq_true h33
          exact zk ((zx r n within)++((ranges_Turns_o2 n within yo)++((ranges_Turns_o3 n within yo)++[.dec true]))) (Ai h33 (Ai p4 (Ai p3 (Ai h32 (Ai p2 (Ai h31 (Ai p1 (Ai h5 (Ai (zb within.hi) (Ai h4 (Ai (zb within.lo) (Ai h3 (Ai h2 (Ai (zr n 1 10000) (Ai h1 (Ai (zm r (by omega)) trivial)))))))))))))))) (by kernel_rfl)
         | false =>
          have hd66:=turns_k hn (by assumption) (by assumption) (by assumption) h33
          have p5:=(gc_of (C:=cfg) (f:=22) (a:=lp22_16) (ks:=[1,5,9,11,12,13]) (st:=(sd40156 0 2 1 3 within n yo r)) (st1:=(sd40157 0 1 2 n yo within)) (by kernel_rfl) (by (simp only [sd40156,sd40157,go_sem,List.length_set,Nat.reduceAdd,Nat.reduceEqDiff,Nat.reduceLT,Nat.reduceLeDiff,bI2,z8.idsL,z8.renL,z8.snapAll,z6.idsL,z6.renL,z6.snapAll]) <;> rfl))
          cases h54:zP n within yo (za within.hi n) ((za within.hi n - za within.lo n).toNat+2) (za within.lo n) with
          | x0 yF ym yB =>
           try dsimp only
           have hv_h54:=ivt_ranges_Turns_16 n within yo (za within.hi n) ((za within.hi n - za within.lo n).toNat+2) (za within.lo n) (ranges_Turns_16_ne _ _ _ _ _ (by omega)) (by omega) (by omega)
           rw [h54] at hv_h54
           obtain ⟨hv_h54_0,hv_h54_1,hv_h54_2⟩:=hv_h54
           try dsimp only [iv_ranges_Turns_16] at hv_h54_0
           try dsimp only [iv_ranges_Turns_16] at hv_h54_1
           try dsimp only [iv_ranges_Turns_16] at hv_h54_2
           have p6:=(zZ (q:=lr_ranges_Turns_16 n within yo (za within.hi n)) (lp_ranges_Turns_16 n within yo (za within.hi n) ((za within.hi n - za within.lo n).toNat+2) (za within.lo n) (ranges_Turns_16_ne _ _ _ _ _ (by omega)) (by omega) (by omega)) h54)
           cases h67:zD (zq zo ym) 0 with
           | x0 yv =>
            try dsimp only
            have hv_h67:=ivt_ranges_gathered_4p3 ym (zq zo ym) (zq zo ym) 0 (List.drop_zero) (Nat.zero_le _) (by simp only [zY,GS.some_l,List.length_set,List.length_append,List.length_cons,List.length_nil] at * <;> first | with_reducible assumption | omega) (by simp only [zY,GS.some_l,List.length_set,List.length_append,List.length_cons,List.length_nil] at * <;> first | with_reducible assumption | omega)
            rw [h67] at hv_h67
            obtain ⟨hv_h67_0,hv_h67_1⟩:=hv_h67
            try dsimp only [zH] at hv_h67_0
            try dsimp only [zH] at hv_h67_1
            cases h68:decide (((yv.length:Nat):Int) > 64) with
            | true =>
             have g68:=of_decide_eq_true h68
             exact zk ((zx r n within)++((ranges_Turns_o2 n within yo)++((ranges_Turns_o3 n within yo)++[.dec false,.gloop (sd40157 0 1 2 n yo within) (.exit 0) (sd40158 0 1 2 3 within n yB yF ym),.inlS [2] (.tup [.sl true [] 0 none,I 2]) [(2,⟨(zq zo ym).map Sn.D,2,false⟩),(3,⟨yv.map Sn.D,2,false⟩)] 4]))) (Ai (Ai (show zg [(0,⟨[.agg [I within.lo,I within.hi]],2,false⟩),(1,⟨yF.map Sn.D,2,false⟩),(2,⟨ym.map Sn.D,2,false⟩)] 256 [2] []=some [2] from (by (simp only [zg,go_sem,List.length_set,Nat.reduceAdd,Nat.reduceEqDiff,Nat.reduceLT,Nat.reduceLeDiff,bI2,z8.idsL,z8.renL,z8.snapAll,z6.idsL,z6.renL,z6.snapAll]) <;> rfl)) (show (lim cfg).inl 69 [.lsl 2 0 ym.length 2 none] [(2,⟨ym.map Sn.D,2,false⟩)] 3=some (.tup [.sl true [] 0 none,I 2],[(2,⟨(zq zo ym).map Sn.D,2,false⟩),(3,⟨yv.map Sn.D,2,false⟩)],4) from po_inl [.inlS [2] (.tup []) [(2,⟨(zq zo ym).map Sn.D,2,false⟩)] 3,.gloop (zt 2 3 ym) (.exit 0) (sd40116 3 2 4 yv ym),.dec true] (Ai h68 (Ai (zZ (q:=zA ym (zq zo ym)) (lp_ranges_gathered_4p3 ym (zq zo ym) (zq zo ym) 0 (List.drop_zero) (Nat.zero_le _) (by simp only [zY,GS.some_l,List.length_set,List.length_append,List.length_cons,List.length_nil] at * <;> first | with_reducible assumption | omega) (by simp only [zY,GS.some_l,List.length_set,List.length_append,List.length_cons,List.length_nil] at * <;> first | with_reducible assumption | omega)) h67) (Ai (gc_of (C:=cfg) (f:=69) (a:=lp69_4) (ks:=[4,10,11,12]) (st:=(zK 2 3 ym)) (st1:=(zt 2 3 ym)) (by kernel_rfl) (by (simp only [zK,zt,go_sem,List.length_set,Nat.reduceAdd,Nat.reduceEqDiff,Nat.reduceLT,Nat.reduceLeDiff,bI2,z8.idsL,z8.renL,z8.snapAll,z6.idsL,z6.renL,z6.snapAll]) <;> rfl)) (Ai (Ai (show zg [(2,⟨ym.map Sn.D,2,false⟩)] 256 [2] []=some [2] from (by (simp only [zg,go_sem,List.length_set,Nat.reduceAdd,Nat.reduceEqDiff,Nat.reduceLT,Nat.reduceLeDiff,bI2,z8.idsL,z8.renL,z8.snapAll,z6.idsL,z6.renL,z6.snapAll]) <;> rfl)) (T_sort 2 3 none ym (by omega))) trivial)))) (by kernel_rfl))) (Ai p6 (Ai p5 (Ai h33 (Ai p4 (Ai p3 (Ai h32 (Ai p2 (Ai h31 (Ai p1 (Ai h5 (Ai (zb within.hi) (Ai h4 (Ai (zb within.lo) (Ai h3 (Ai h2 (Ai (zr n 1 10000) (Ai h1 (Ai (zm r (by omega)) trivial))))))))))))))))))) (by kernel_rfl)
            | false =>
             have g68:=of_decide_eq_false h68
             exact po_pureS ((zx r n within)++((ranges_Turns_o2 n within yo)++((ranges_Turns_o3 n within yo)++[.dec false,.gloop (sd40157 0 1 2 n yo within) (.exit 0) (sd40158 0 1 2 3 within n yB yF ym),.inlS [2] (.tup [.lsl 3 0 yv.length 2 none,I 0]) [(2,⟨(zq zo ym).map Sn.D,2,false⟩),(3,⟨yv.map Sn.D,2,false⟩)] 4]))) [(3,.sl false (yv.map Sn.D) 2 none,[3])] (Ai (snap_row (gO:=zp [(0,⟨[.agg [I within.lo,I within.hi]],2,false⟩),(1,⟨yF.map Sn.D,2,false⟩),(2,⟨(zq zo ym).map Sn.D,2,false⟩),(3,⟨yv.map Sn.D,2,false⟩)]) (o:=3) (len:=yv.length) (cap:=none) (fz:=false) z6 yv (by kernel_rfl) (by omega)) (Ai (Ai (show zg [(0,⟨[.agg [I within.lo,I within.hi]],2,false⟩),(1,⟨yF.map Sn.D,2,false⟩),(2,⟨ym.map Sn.D,2,false⟩)] 256 [2] []=some [2] from (by (simp only [zg,go_sem,List.length_set,Nat.reduceAdd,Nat.reduceEqDiff,Nat.reduceLT,Nat.reduceLeDiff,bI2,z8.idsL,z8.renL,z8.snapAll,z6.idsL,z6.renL,z6.snapAll]) <;> rfl)) (show (lim cfg).inl 69 [.lsl 2 0 ym.length 2 none] [(2,⟨ym.map Sn.D,2,false⟩)] 3=some (.tup [.lsl 3 0 yv.length 2 none,I 0],[(2,⟨(zq zo ym).map Sn.D,2,false⟩),(3,⟨yv.map Sn.D,2,false⟩)],4) from po_inl [.inlS [2] (.tup []) [(2,⟨(zq zo ym).map Sn.D,2,false⟩)] 3,.gloop (zt 2 3 ym) (.exit 0) (sd40116 3 2 4 yv ym),.dec false] (Ai h68 (Ai (zZ (q:=zA ym (zq zo ym)) (lp_ranges_gathered_4p3 ym (zq zo ym) (zq zo ym) 0 (List.drop_zero) (Nat.zero_le _) (by simp only [zY,GS.some_l,List.length_set,List.length_append,List.length_cons,List.length_nil] at * <;> first | with_reducible assumption | omega) (by simp only [zY,GS.some_l,List.length_set,List.length_append,List.length_cons,List.length_nil] at * <;> first | with_reducible assumption | omega)) h67) (Ai (gc_of (C:=cfg) (f:=69) (a:=lp69_4) (ks:=[4,10,11,12]) (st:=(zK 2 3 ym)) (st1:=(zt 2 3 ym)) (by kernel_rfl) (by (simp only [zK,zt,go_sem,List.length_set,Nat.reduceAdd,Nat.reduceEqDiff,Nat.reduceLT,Nat.reduceLeDiff,bI2,z8.idsL,z8.renL,z8.snapAll,z6.idsL,z6.renL,z6.snapAll]) <;> rfl)) (Ai (Ai (show zg [(2,⟨ym.map Sn.D,2,false⟩)] 256 [2] []=some [2] from (by (simp only [zg,go_sem,List.length_set,Nat.reduceAdd,Nat.reduceEqDiff,Nat.reduceLT,Nat.reduceLeDiff,bI2,z8.idsL,z8.renL,z8.snapAll,z6.idsL,z6.renL,z6.snapAll]) <;> rfl)) (T_sort 2 3 none ym (by omega))) trivial)))) (by kernel_rfl))) (Ai p6 (Ai p5 (Ai h33 (Ai p4 (Ai p3 (Ai h32 (Ai p2 (Ai h31 (Ai p1 (Ai h5 (Ai (zb within.hi) (Ai h4 (Ai (zb within.lo) (Ai h3 (Ai h2 (Ai (zr n 1 10000) (Ai h1 (Ai (zm r (by omega)) trivial)))))))))))))))))))) (by kernel_rfl)
           | x1 x9 yU yv =>
            try dsimp only
            have hv_h67:=ivt_ranges_gathered_4p3 ym (zq zo ym) (zq zo ym) 0 (List.drop_zero) (Nat.zero_le _) (by simp only [zY,GS.some_l,List.length_set,List.length_append,List.length_cons,List.length_nil] at * <;> first | with_reducible assumption | omega) (by simp only [zY,GS.some_l,List.length_set,List.length_append,List.length_cons,List.length_nil] at * <;> first | with_reducible assumption | omega)
            rw [h67] at hv_h67
            obtain ⟨hv_h67_0,hv_h67_1⟩:=hv_h67
            try dsimp only [zH] at hv_h67_0
            try dsimp only [zH] at hv_h67_1
            exact zk ((zx r n within)++((ranges_Turns_o2 n within yo)++((ranges_Turns_o3 n within yo)++[.dec false,.gloop (sd40157 0 1 2 n yo within) (.exit 0) (sd40158 0 1 2 3 within n yB yF ym),.inlS [2] (.tup [.sl true [] 0 none,I 2]) [(2,⟨(zq zo ym).map Sn.D,2,false⟩),(3,⟨yv.map Sn.D,2,false⟩),(4,⟨[.agg [I yU.lo,I yU.hi]],2,false⟩)] 5]))) (Ai (Ai (show zg [(0,⟨[.agg [I within.lo,I within.hi]],2,false⟩),(1,⟨yF.map Sn.D,2,false⟩),(2,⟨ym.map Sn.D,2,false⟩)] 256 [2] []=some [2] from (by (simp only [zg,go_sem,List.length_set,Nat.reduceAdd,Nat.reduceEqDiff,Nat.reduceLT,Nat.reduceLeDiff,bI2,z8.idsL,z8.renL,z8.snapAll,z6.idsL,z6.renL,z6.snapAll]) <;> rfl)) (show (lim cfg).inl 69 [.lsl 2 0 ym.length 2 none] [(2,⟨ym.map Sn.D,2,false⟩)] 3=some (.tup [.sl true [] 0 none,I 2],[(2,⟨(zq zo ym).map Sn.D,2,false⟩),(3,⟨yv.map Sn.D,2,false⟩),(4,⟨[.agg [I yU.lo,I yU.hi]],2,false⟩)],5) from po_inl [.inlS [2] (.tup []) [(2,⟨(zq zo ym).map Sn.D,2,false⟩)] 3,.gloop (zt 2 3 ym) .ret (sd40117 4 2 3 5 yU x9 yv ym)] (Ai (zZ (q:=zA ym (zq zo ym)) (lp_ranges_gathered_4p3 ym (zq zo ym) (zq zo ym) 0 (List.drop_zero) (Nat.zero_le _) (by simp only [zY,GS.some_l,List.length_set,List.length_append,List.length_cons,List.length_nil] at * <;> first | with_reducible assumption | omega) (by simp only [zY,GS.some_l,List.length_set,List.length_append,List.length_cons,List.length_nil] at * <;> first | with_reducible assumption | omega)) h67) (Ai (gc_of (C:=cfg) (f:=69) (a:=lp69_4) (ks:=[4,10,11,12]) (st:=(zK 2 3 ym)) (st1:=(zt 2 3 ym)) (by kernel_rfl) (by (simp only [zK,zt,go_sem,List.length_set,Nat.reduceAdd,Nat.reduceEqDiff,Nat.reduceLT,Nat.reduceLeDiff,bI2,z8.idsL,z8.renL,z8.snapAll,z6.idsL,z6.renL,z6.snapAll]) <;> rfl)) (Ai (Ai (show zg [(2,⟨ym.map Sn.D,2,false⟩)] 256 [2] []=some [2] from (by (simp only [zg,go_sem,List.length_set,Nat.reduceAdd,Nat.reduceEqDiff,Nat.reduceLT,Nat.reduceLeDiff,bI2,z8.idsL,z8.renL,z8.snapAll,z6.idsL,z6.renL,z6.snapAll]) <;> rfl)) (T_sort 2 3 none ym (by omega))) trivial))) (by kernel_rfl))) (Ai p6 (Ai p5 (Ai h33 (Ai p4 (Ai p3 (Ai h32 (Ai p2 (Ai h31 (Ai p1 (Ai h5 (Ai (zb within.hi) (Ai h4 (Ai (zb within.lo) (Ai h3 (Ai h2 (Ai (zr n 1 10000) (Ai h1 (Ai (zm r (by omega)) trivial))))))))))))))))))) (by kernel_rfl)
           | x2 x9 yU yv =>
            try dsimp only
            have hv_h67:=ivt_ranges_gathered_4p3 ym (zq zo ym) (zq zo ym) 0 (List.drop_zero) (Nat.zero_le _) (by simp only [zY,GS.some_l,List.length_set,List.length_append,List.length_cons,List.length_nil] at * <;> first | with_reducible assumption | omega) (by simp only [zY,GS.some_l,List.length_set,List.length_append,List.length_cons,List.length_nil] at * <;> first | with_reducible assumption | omega)
            rw [h67] at hv_h67
            obtain ⟨hv_h67_0,hv_h67_1⟩:=hv_h67
            try dsimp only [zH] at hv_h67_0
            try dsimp only [zH] at hv_h67_1
            exact zk ((zx r n within)++((ranges_Turns_o2 n within yo)++((ranges_Turns_o3 n within yo)++[.dec false,.gloop (sd40157 0 1 2 n yo within) (.exit 0) (sd40158 0 1 2 3 within n yB yF ym),.inlS [2] (.tup [.sl true [] 0 none,I 2]) [(2,⟨(zq zo ym).map Sn.D,2,false⟩),(3,⟨yv.map Sn.D,2,false⟩),(4,⟨[.agg [I yU.lo,I yU.hi]],2,false⟩)] 5]))) (Ai (Ai (show zg [(0,⟨[.agg [I within.lo,I within.hi]],2,false⟩),(1,⟨yF.map Sn.D,2,false⟩),(2,⟨ym.map Sn.D,2,false⟩)] 256 [2] []=some [2] from (by (simp only [zg,go_sem,List.length_set,Nat.reduceAdd,Nat.reduceEqDiff,Nat.reduceLT,Nat.reduceLeDiff,bI2,z8.idsL,z8.renL,z8.snapAll,z6.idsL,z6.renL,z6.snapAll]) <;> rfl)) (show (lim cfg).inl 69 [.lsl 2 0 ym.length 2 none] [(2,⟨ym.map Sn.D,2,false⟩)] 3=some (.tup [.sl true [] 0 none,I 2],[(2,⟨(zq zo ym).map Sn.D,2,false⟩),(3,⟨yv.map Sn.D,2,false⟩),(4,⟨[.agg [I yU.lo,I yU.hi]],2,false⟩)],5) from po_inl [.inlS [2] (.tup []) [(2,⟨(zq zo ym).map Sn.D,2,false⟩)] 3,.gloop (zt 2 3 ym) .ret (sd40118 4 2 3 5 yU x9 yv ym)] (Ai (zZ (q:=zA ym (zq zo ym)) (lp_ranges_gathered_4p3 ym (zq zo ym) (zq zo ym) 0 (List.drop_zero) (Nat.zero_le _) (by simp only [zY,GS.some_l,List.length_set,List.length_append,List.length_cons,List.length_nil] at * <;> first | with_reducible assumption | omega) (by simp only [zY,GS.some_l,List.length_set,List.length_append,List.length_cons,List.length_nil] at * <;> first | with_reducible assumption | omega)) h67) (Ai (gc_of (C:=cfg) (f:=69) (a:=lp69_4) (ks:=[4,10,11,12]) (st:=(zK 2 3 ym)) (st1:=(zt 2 3 ym)) (by kernel_rfl) (by (simp only [zK,zt,go_sem,List.length_set,Nat.reduceAdd,Nat.reduceEqDiff,Nat.reduceLT,Nat.reduceLeDiff,bI2,z8.idsL,z8.renL,z8.snapAll,z6.idsL,z6.renL,z6.snapAll]) <;> rfl)) (Ai (Ai (show zg [(2,⟨ym.map Sn.D,2,false⟩)] 256 [2] []=some [2] from (by (simp only [zg,go_sem,List.length_set,Nat.reduceAdd,Nat.reduceEqDiff,Nat.reduceLT,Nat.reduceLeDiff,bI2,z8.idsL,z8.renL,z8.snapAll,z6.idsL,z6.renL,z6.snapAll]) <;> rfl)) (T_sort 2 3 none ym (by omega))) trivial))) (by kernel_rfl))) (Ai p6 (Ai p5 (Ai h33 (Ai p4 (Ai p3 (Ai h32 (Ai p2 (Ai h31 (Ai p1 (Ai h5 (Ai (zb within.hi) (Ai h4 (Ai (zb within.lo) (Ai h3 (Ai h2 (Ai (zr n 1 10000) (Ai h1 (Ai (zm r (by omega)) trivial))))))))))))))))))) (by kernel_rfl)
           | x3 =>
            try dsimp only
            exact zk ((zx r n within)++((ranges_Turns_o2 n within yo)++((ranges_Turns_o3 n within yo)++[.dec false,.gloop (sd40157 0 1 2 n yo within) (.exit 0) (sd40158 0 1 2 3 within n yB yF ym),.inlS [2] (.tup [.sl true [] 0 none,I 0]) [(2,⟨(zq zo ym).map Sn.D,2,false⟩)] 3]))) (Ai (Ai (show zg [(0,⟨[.agg [I within.lo,I within.hi]],2,false⟩),(1,⟨yF.map Sn.D,2,false⟩),(2,⟨ym.map Sn.D,2,false⟩)] 256 [2] []=some [2] from (by (simp only [zg,go_sem,List.length_set,Nat.reduceAdd,Nat.reduceEqDiff,Nat.reduceLT,Nat.reduceLeDiff,bI2,z8.idsL,z8.renL,z8.snapAll,z6.idsL,z6.renL,z6.snapAll]) <;> rfl)) (show (lim cfg).inl 69 [.lsl 2 0 ym.length 2 none] [(2,⟨ym.map Sn.D,2,false⟩)] 3=some (.tup [.sl true [] 0 none,I 0],[(2,⟨(zq zo ym).map Sn.D,2,false⟩)],3) from po_inl [.inlS [2] (.tup []) [(2,⟨(zq zo ym).map Sn.D,2,false⟩)] 3,.gloop (zt 2 3 ym) (.exit 0) (sd40119 2 3 ym),.dec false] (Ai (Eq.refl false) (Ai (zZ (q:=zA ym (zq zo ym)) (lp_ranges_gathered_4p3 ym (zq zo ym) (zq zo ym) 0 (List.drop_zero) (Nat.zero_le _) (by simp only [zY,GS.some_l,List.length_set,List.length_append,List.length_cons,List.length_nil] at * <;> first | with_reducible assumption | omega) (by simp only [zY,GS.some_l,List.length_set,List.length_append,List.length_cons,List.length_nil] at * <;> first | with_reducible assumption | omega)) h67) (Ai (gc_of (C:=cfg) (f:=69) (a:=lp69_4) (ks:=[4,10,11,12]) (st:=(zK 2 3 ym)) (st1:=(zt 2 3 ym)) (by kernel_rfl) (by (simp only [zK,zt,go_sem,List.length_set,Nat.reduceAdd,Nat.reduceEqDiff,Nat.reduceLT,Nat.reduceLeDiff,bI2,z8.idsL,z8.renL,z8.snapAll,z6.idsL,z6.renL,z6.snapAll]) <;> rfl)) (Ai (Ai (show zg [(2,⟨ym.map Sn.D,2,false⟩)] 256 [2] []=some [2] from (by (simp only [zg,go_sem,List.length_set,Nat.reduceAdd,Nat.reduceEqDiff,Nat.reduceLT,Nat.reduceLeDiff,bI2,z8.idsL,z8.renL,z8.snapAll,z6.idsL,z6.renL,z6.snapAll]) <;> rfl)) (T_sort 2 3 none ym (by omega))) trivial)))) (by kernel_rfl))) (Ai p6 (Ai p5 (Ai h33 (Ai p4 (Ai p3 (Ai h32 (Ai p2 (Ai h31 (Ai p1 (Ai h5 (Ai (zb within.hi) (Ai h4 (Ai (zb within.lo) (Ai h3 (Ai h2 (Ai (zr n 1 10000) (Ai h1 (Ai (zm r (by omega)) trivial))))))))))))))))))) (by kernel_rfl)
           | x4 x9 yU =>
            try dsimp only
            exact zk ((zx r n within)++((ranges_Turns_o2 n within yo)++((ranges_Turns_o3 n within yo)++[.dec false,.gloop (sd40157 0 1 2 n yo within) (.exit 0) (sd40158 0 1 2 3 within n yB yF ym),.inlS [2] (.tup [.sl true [] 0 none,I 2]) [(2,⟨(zq zo ym).map Sn.D,2,false⟩),(3,⟨[.agg [I yU.lo,I yU.hi]],2,false⟩)] 4]))) (Ai (Ai (show zg [(0,⟨[.agg [I within.lo,I within.hi]],2,false⟩),(1,⟨yF.map Sn.D,2,false⟩),(2,⟨ym.map Sn.D,2,false⟩)] 256 [2] []=some [2] from (by (simp only [zg,go_sem,List.length_set,Nat.reduceAdd,Nat.reduceEqDiff,Nat.reduceLT,Nat.reduceLeDiff,bI2,z8.idsL,z8.renL,z8.snapAll,z6.idsL,z6.renL,z6.snapAll]) <;> rfl)) (show (lim cfg).inl 69 [.lsl 2 0 ym.length 2 none] [(2,⟨ym.map Sn.D,2,false⟩)] 3=some (.tup [.sl true [] 0 none,I 2],[(2,⟨(zq zo ym).map Sn.D,2,false⟩),(3,⟨[.agg [I yU.lo,I yU.hi]],2,false⟩)],4) from po_inl [.inlS [2] (.tup []) [(2,⟨(zq zo ym).map Sn.D,2,false⟩)] 3,.gloop (zt 2 3 ym) .ret (sd40120 3 2 4 yU x9 ym)] (Ai (zZ (q:=zA ym (zq zo ym)) (lp_ranges_gathered_4p3 ym (zq zo ym) (zq zo ym) 0 (List.drop_zero) (Nat.zero_le _) (by simp only [zY,GS.some_l,List.length_set,List.length_append,List.length_cons,List.length_nil] at * <;> first | with_reducible assumption | omega) (by simp only [zY,GS.some_l,List.length_set,List.length_append,List.length_cons,List.length_nil] at * <;> first | with_reducible assumption | omega)) h67) (Ai (gc_of (C:=cfg) (f:=69) (a:=lp69_4) (ks:=[4,10,11,12]) (st:=(zK 2 3 ym)) (st1:=(zt 2 3 ym)) (by kernel_rfl) (by (simp only [zK,zt,go_sem,List.length_set,Nat.reduceAdd,Nat.reduceEqDiff,Nat.reduceLT,Nat.reduceLeDiff,bI2,z8.idsL,z8.renL,z8.snapAll,z6.idsL,z6.renL,z6.snapAll]) <;> rfl)) (Ai (Ai (show zg [(2,⟨ym.map Sn.D,2,false⟩)] 256 [2] []=some [2] from (by (simp only [zg,go_sem,List.length_set,Nat.reduceAdd,Nat.reduceEqDiff,Nat.reduceLT,Nat.reduceLeDiff,bI2,z8.idsL,z8.renL,z8.snapAll,z6.idsL,z6.renL,z6.snapAll]) <;> rfl)) (T_sort 2 3 none ym (by omega))) trivial))) (by kernel_rfl))) (Ai p6 (Ai p5 (Ai h33 (Ai p4 (Ai p3 (Ai h32 (Ai p2 (Ai h31 (Ai p1 (Ai h5 (Ai (zb within.hi) (Ai h4 (Ai (zb within.lo) (Ai h3 (Ai h2 (Ai (zr n 1 10000) (Ai h1 (Ai (zm r (by omega)) trivial))))))))))))))))))) (by kernel_rfl)
           | x5 x9 yU =>
            try dsimp only
            exact zk ((zx r n within)++((ranges_Turns_o2 n within yo)++((ranges_Turns_o3 n within yo)++[.dec false,.gloop (sd40157 0 1 2 n yo within) (.exit 0) (sd40158 0 1 2 3 within n yB yF ym),.inlS [2] (.tup [.sl true [] 0 none,I 2]) [(2,⟨(zq zo ym).map Sn.D,2,false⟩),(3,⟨[.agg [I yU.lo,I yU.hi]],2,false⟩)] 4]))) (Ai (Ai (show zg [(0,⟨[.agg [I within.lo,I within.hi]],2,false⟩),(1,⟨yF.map Sn.D,2,false⟩),(2,⟨ym.map Sn.D,2,false⟩)] 256 [2] []=some [2] from (by (simp only [zg,go_sem,List.length_set,Nat.reduceAdd,Nat.reduceEqDiff,Nat.reduceLT,Nat.reduceLeDiff,bI2,z8.idsL,z8.renL,z8.snapAll,z6.idsL,z6.renL,z6.snapAll]) <;> rfl)) (show (lim cfg).inl 69 [.lsl 2 0 ym.length 2 none] [(2,⟨ym.map Sn.D,2,false⟩)] 3=some (.tup [.sl true [] 0 none,I 2],[(2,⟨(zq zo ym).map Sn.D,2,false⟩),(3,⟨[.agg [I yU.lo,I yU.hi]],2,false⟩)],4) from po_inl [.inlS [2] (.tup []) [(2,⟨(zq zo ym).map Sn.D,2,false⟩)] 3,.gloop (zt 2 3 ym) .ret (sd40121 3 2 4 yU x9 ym)] (Ai (zZ (q:=zA ym (zq zo ym)) (lp_ranges_gathered_4p3 ym (zq zo ym) (zq zo ym) 0 (List.drop_zero) (Nat.zero_le _) (by simp only [zY,GS.some_l,List.length_set,List.length_append,List.length_cons,List.length_nil] at * <;> first | with_reducible assumption | omega) (by simp only [zY,GS.some_l,List.length_set,List.length_append,List.length_cons,List.length_nil] at * <;> first | with_reducible assumption | omega)) h67) (Ai (gc_of (C:=cfg) (f:=69) (a:=lp69_4) (ks:=[4,10,11,12]) (st:=(zK 2 3 ym)) (st1:=(zt 2 3 ym)) (by kernel_rfl) (by (simp only [zK,zt,go_sem,List.length_set,Nat.reduceAdd,Nat.reduceEqDiff,Nat.reduceLT,Nat.reduceLeDiff,bI2,z8.idsL,z8.renL,z8.snapAll,z6.idsL,z6.renL,z6.snapAll]) <;> rfl)) (Ai (Ai (show zg [(2,⟨ym.map Sn.D,2,false⟩)] 256 [2] []=some [2] from (by (simp only [zg,go_sem,List.length_set,Nat.reduceAdd,Nat.reduceEqDiff,Nat.reduceLT,Nat.reduceLeDiff,bI2,z8.idsL,z8.renL,z8.snapAll,z6.idsL,z6.renL,z6.snapAll]) <;> rfl)) (T_sort 2 3 none ym (by omega))) trivial))) (by kernel_rfl))) (Ai p6 (Ai p5 (Ai h33 (Ai p4 (Ai p3 (Ai h32 (Ai p2 (Ai h31 (Ai p1 (Ai h5 (Ai (zb within.hi) (Ai h4 (Ai (zb within.lo) (Ai h3 (Ai h2 (Ai (zr n 1 10000) (Ai h1 (Ai (zm r (by omega)) trivial))))))))))))))))))) (by kernel_rfl)
          | x1 yC =>
           try dsimp only
           have hv_h54:=ivt_ranges_Turns_16 n within yo (za within.hi n) ((za within.hi n - za within.lo n).toNat+2) (za within.lo n) (ranges_Turns_16_ne _ _ _ _ _ (by omega)) (by omega) (by omega)
           rw [h54] at hv_h54
           have hv_h54_0:=hv_h54
           try dsimp only [iv_ranges_Turns_16] at hv_h54_0
           exact zk ((zx r n within)++((ranges_Turns_o2 n within yo)++((ranges_Turns_o3 n within yo)++[.dec false,.gloop (sd40157 0 1 2 n yo within) (.exit 0) (sd40169 0 1 2 within n yC yo),.inl (.tup [.sl true [] 0 none,I 0]) [] 2]))) (Ai (show (lim cfg).inl 69 [.sl true [] 0 none] [] 2=some (.tup [.sl true [] 0 none,I 0],[],2) from po_inl [.inl (.tup []) [] 2,.loop (.exit 0) ⟨65,[(13,B false),(4,.sl true [] 0 none),(10,.sl true [] 0 none),(11,I 0),(12,I 0)],[],2,2⟩,.dec false] (Ai (Eq.refl false) (Ai (show (lim cfg).loop 69 lp69_4 ⟨65,[(4,.sl true [] 0 none),(10,.sl true [] 0 none),(11,I 0),(12,I 0)],[],2,2⟩=some ((.exit 0),⟨65,[(13,B false),(4,.sl true [] 0 none),(10,.sl true [] 0 none),(11,I 0),(12,I 0)],[],2,2⟩) from (zF [.dec false] (Ai (Eq.refl false) trivial) (by kernel_rfl))) (Ai (T_sort_nil 2) trivial))) (by kernel_rfl)) (Ai (zZ (q:=lr_ranges_Turns_16 n within yo (za within.hi n)) (lp_ranges_Turns_16 n within yo (za within.hi n) ((za within.hi n - za within.lo n).toNat+2) (za within.lo n) (ranges_Turns_16_ne _ _ _ _ _ (by omega)) (by omega) (by omega)) h54) (Ai p5 (Ai h33 (Ai p4 (Ai p3 (Ai h32 (Ai p2 (Ai h31 (Ai p1 (Ai h5 (Ai (zb within.hi) (Ai h4 (Ai (zb within.lo) (Ai h3 (Ai h2 (Ai (zr n 1 10000) (Ai h1 (Ai (zm r (by omega)) trivial))))))))))))))))))) (by kernel_rfl)
          | out =>
           exact absurd h54 ((ranges_Turns_16_ne _ _ _ _ _ (by omega)))
      | x1 yz =>
       try dsimp only
       have xK:=ivt_ranges_each_3p5 r n r.l 0 (List.drop_zero) (Nat.zero_le _) (by omega) (by omega) (by omega) (by omega)
       rw [h30] at xK
       obtain ⟨xD,xE⟩:=xK
       try dsimp only [iv_ranges_each_3p5] at xD
       try dsimp only [iv_ranges_each_3p5] at xE
       have p7:=(show (lim cfg).inl 82 [.sl r.nl (r.l.map Sn.D) (zsl r.nl 2) none,I n] [] 1=some (.lsl 2 0 yz.length 2 none,[(1,⟨[I n],1,false⟩),(2,⟨yz.map Sn.D,2,false⟩)],3) from po_inl [.inl (.lsl 2 0 yz.length 2 none) [(1,⟨[I n],1,false⟩),(2,⟨yz.map Sn.D,2,false⟩)] 3] (Ai (show (lim cfg).inl 70 [.sl r.nl (r.l.map Sn.D) (zsl r.nl 2) none,.fn (.func 106) [] [.lref 1 0 1 0]] [(1,⟨[I n],1,false⟩)] 2=some (.lsl 2 0 yz.length 2 none,[(1,⟨[I n],1,false⟩),(2,⟨yz.map Sn.D,2,false⟩)],3) from po_inl [.rw 9 (I ((r.l.length:Nat):Int)),.loop (.exit 0) (sd40133 1 2 3 yz r n)] (Ai (zZ (q:=lr_ranges_each_3p5 r n) (lp_ranges_each_3p5 r n r.l 0 (List.drop_zero) (Nat.zero_le _) (by omega) (by omega) (by omega) (by omega)) h30) (Ai (zj Sn.D r) trivial)) (by kernel_rfl)) trivial) (by kernel_rfl))
       cases h69:(((yz.length:Nat):Int) == 0) with
       | true =>
        have g69:=eq_of_beq h69
        exact zk ((zx r n within)++((ranges_Turns_o4 n within yz)++[.dec true])) (Ai h69 (Ai p7 (Ai h5 (Ai (zb within.hi) (Ai h4 (Ai (zb within.lo) (Ai h3 (Ai h2 (Ai (zr n 1 10000) (Ai h1 (Ai (zm r (by omega)) trivial))))))))))) (by kernel_rfl)
       | false =>
        have g69:=ne_of_beq_false h69
        have p8:=(Ai (show flat yi (B (ranges_full (GS.some yz) n))=true from (by kernel_rfl)) (Ai (Ai (snap_row (gO:=zp [(0,⟨[.agg [I within.lo,I within.hi]],2,false⟩),(1,⟨[I n],1,false⟩),(2,⟨yz.map Sn.D,2,false⟩)]) (o:=2) (len:=yz.length) (cap:=none) (fz:=false) z6 yz (by kernel_rfl) (by omega)) trivial) (T_ranges_full (GS.some yz) n (by simp only [zY,GS.some_l,List.length_set,List.length_append,List.length_cons,List.length_nil] at * <;> first | with_reducible assumption | omega) (by omega) (by assumption))))
        cases h70:(ranges_full (GS.some yz) n) with
        | true =>
         exact zk ((zx r n within)++((ranges_Turns_o4 n within yz)++[.dec false,.pureS (B (ranges_full (GS.some yz) n)) true [(2,.sl false (yz.map Sn.D) 2 none,[2])],.dec true])) (Ai h70 (Ai p8 (Ai h69 (Ai p7 (Ai h5 (Ai (zb within.hi) (Ai h4 (Ai (zb within.lo) (Ai h3 (Ai h2 (Ai (zr n 1 10000) (Ai h1 (Ai (zm r (by omega)) trivial))))))))))))) (by kernel_rfl)
        | false =>
         have p9:=(T_ranges_down within.lo n (by omega))
         have p10:=(T_ranges_down within.hi n (by omega))
         cases h71:decide ((w64 ((za within.hi n) - (za within.lo n))) > 66) with
         | true =>
          have g71:=of_decide_eq_true h71
          exact zk ((zx r n within)++((ranges_Turns_o4 n within yz)++((ranges_Turns_o5 n within yz)++[.dec true]))) (Ai h71 (Ai p10 (Ai p9 (Ai h70 (Ai p8 (Ai h69 (Ai p7 (Ai h5 (Ai (zb within.hi) (Ai h4 (Ai (zb within.lo) (Ai h3 (Ai h2 (Ai (zr n 1 10000) (Ai h1 (Ai (zm r (by omega)) trivial)))))))))))))))) (by kernel_rfl)
         | false =>
          have hd66:=turns_k hn (by assumption) (by assumption) (by assumption) h71
          have p11:=(gc_of (C:=cfg) (f:=22) (a:=lp22_16) (ks:=[1,5,9,11,12,13]) (st:=(sd40170 0 2 1 3 within n yz r)) (st1:=(sd40157 0 1 2 n yz within)) (by kernel_rfl) (by (simp only [sd40157,sd40170,go_sem,List.length_set,Nat.reduceAdd,Nat.reduceEqDiff,Nat.reduceLT,Nat.reduceLeDiff,bI2,z8.idsL,z8.renL,z8.snapAll,z6.idsL,z6.renL,z6.snapAll]) <;> rfl))
          cases h72:zP n within yz (za within.hi n) ((za within.hi n - za within.lo n).toNat+2) (za within.lo n) with
          | x0 yF ym yB =>
           try dsimp only
           have hv_h72:=ivt_ranges_Turns_16 n within yz (za within.hi n) ((za within.hi n - za within.lo n).toNat+2) (za within.lo n) (ranges_Turns_16_ne _ _ _ _ _ (by omega)) (by omega) (by omega)
           rw [h72] at hv_h72
           obtain ⟨hv_h72_0,hv_h72_1,hv_h72_2⟩:=hv_h72
           try dsimp only [iv_ranges_Turns_16] at hv_h72_0
           try dsimp only [iv_ranges_Turns_16] at hv_h72_1
           try dsimp only [iv_ranges_Turns_16] at hv_h72_2
           have p12:=(zZ (q:=lr_ranges_Turns_16 n within yz (za within.hi n)) (lp_ranges_Turns_16 n within yz (za within.hi n) ((za within.hi n - za within.lo n).toNat+2) (za within.lo n) (ranges_Turns_16_ne _ _ _ _ _ (by omega)) (by omega) (by omega)) h72)
           cases h73:zD (zq zo ym) 0 with
           | x0 yv =>
            try dsimp only
            have hv_h73:=ivt_ranges_gathered_4p3 ym (zq zo ym) (zq zo ym) 0 (List.drop_zero) (Nat.zero_le _) (by simp only [zY,GS.some_l,List.length_set,List.length_append,List.length_cons,List.length_nil] at * <;> first | with_reducible assumption | omega) (by simp only [zY,GS.some_l,List.length_set,List.length_append,List.length_cons,List.length_nil] at * <;> first | with_reducible assumption | omega)
            rw [h73] at hv_h73
            obtain ⟨hv_h73_0,hv_h73_1⟩:=hv_h73
            try dsimp only [zH] at hv_h73_0
            try dsimp only [zH] at hv_h73_1
            cases h74:decide (((yv.length:Nat):Int) > 64) with
            | true =>
             have g74:=of_decide_eq_true h74
             exact zk ((zx r n within)++((ranges_Turns_o4 n within yz)++((ranges_Turns_o5 n within yz)++[.dec false,.gloop (sd40157 0 1 2 n yz within) (.exit 0) (sd40158 0 1 2 3 within n yB yF ym),.inlS [2] (.tup [.sl true [] 0 none,I 2]) [(2,⟨(zq zo ym).map Sn.D,2,false⟩),(3,⟨yv.map Sn.D,2,false⟩)] 4]))) (Ai (Ai (show zg [(0,⟨[.agg [I within.lo,I within.hi]],2,false⟩),(1,⟨yF.map Sn.D,2,false⟩),(2,⟨ym.map Sn.D,2,false⟩)] 256 [2] []=some [2] from (by (simp only [zg,go_sem,List.length_set,Nat.reduceAdd,Nat.reduceEqDiff,Nat.reduceLT,Nat.reduceLeDiff,bI2,z8.idsL,z8.renL,z8.snapAll,z6.idsL,z6.renL,z6.snapAll]) <;> rfl)) (show (lim cfg).inl 69 [.lsl 2 0 ym.length 2 none] [(2,⟨ym.map Sn.D,2,false⟩)] 3=some (.tup [.sl true [] 0 none,I 2],[(2,⟨(zq zo ym).map Sn.D,2,false⟩),(3,⟨yv.map Sn.D,2,false⟩)],4) from po_inl [.inlS [2] (.tup []) [(2,⟨(zq zo ym).map Sn.D,2,false⟩)] 3,.gloop (zt 2 3 ym) (.exit 0) (sd40116 3 2 4 yv ym),.dec true] (Ai h74 (Ai (zZ (q:=zA ym (zq zo ym)) (lp_ranges_gathered_4p3 ym (zq zo ym) (zq zo ym) 0 (List.drop_zero) (Nat.zero_le _) (by simp only [zY,GS.some_l,List.length_set,List.length_append,List.length_cons,List.length_nil] at * <;> first | with_reducible assumption | omega) (by simp only [zY,GS.some_l,List.length_set,List.length_append,List.length_cons,List.length_nil] at * <;> first | with_reducible assumption | omega)) h73) (Ai (gc_of (C:=cfg) (f:=69) (a:=lp69_4) (ks:=[4,10,11,12]) (st:=(zK 2 3 ym)) (st1:=(zt 2 3 ym)) (by kernel_rfl) (by (simp only [zK,zt,go_sem,List.length_set,Nat.reduceAdd,Nat.reduceEqDiff,Nat.reduceLT,Nat.reduceLeDiff,bI2,z8.idsL,z8.renL,z8.snapAll,z6.idsL,z6.renL,z6.snapAll]) <;> rfl)) (Ai (Ai (show zg [(2,⟨ym.map Sn.D,2,false⟩)] 256 [2] []=some [2] from (by (simp only [zg,go_sem,List.length_set,Nat.reduceAdd,Nat.reduceEqDiff,Nat.reduceLT,Nat.reduceLeDiff,bI2,z8.idsL,z8.renL,z8.snapAll,z6.idsL,z6.renL,z6.snapAll]) <;> rfl)) (T_sort 2 3 none ym (by omega))) trivial)))) (by kernel_rfl))) (Ai p12 (Ai p11 (Ai h71 (Ai p10 (Ai p9 (Ai h70 (Ai p8 (Ai h69 (Ai p7 (Ai h5 (Ai (zb within.hi) (Ai h4 (Ai (zb within.lo) (Ai h3 (Ai h2 (Ai (zr n 1 10000) (Ai h1 (Ai (zm r (by omega)) trivial))))))))))))))))))) (by kernel_rfl)
            | false =>
             have g74:=of_decide_eq_false h74
             exact po_pureS ((zx r n within)++((ranges_Turns_o4 n within yz)++((ranges_Turns_o5 n within yz)++[.dec false,.gloop (sd40157 0 1 2 n yz within) (.exit 0) (sd40158 0 1 2 3 within n yB yF ym),.inlS [2] (.tup [.lsl 3 0 yv.length 2 none,I 0]) [(2,⟨(zq zo ym).map Sn.D,2,false⟩),(3,⟨yv.map Sn.D,2,false⟩)] 4]))) [(3,.sl false (yv.map Sn.D) 2 none,[3])] (Ai (snap_row (gO:=zp [(0,⟨[.agg [I within.lo,I within.hi]],2,false⟩),(1,⟨yF.map Sn.D,2,false⟩),(2,⟨(zq zo ym).map Sn.D,2,false⟩),(3,⟨yv.map Sn.D,2,false⟩)]) (o:=3) (len:=yv.length) (cap:=none) (fz:=false) z6 yv (by kernel_rfl) (by omega)) (Ai (Ai (show zg [(0,⟨[.agg [I within.lo,I within.hi]],2,false⟩),(1,⟨yF.map Sn.D,2,false⟩),(2,⟨ym.map Sn.D,2,false⟩)] 256 [2] []=some [2] from (by (simp only [zg,go_sem,List.length_set,Nat.reduceAdd,Nat.reduceEqDiff,Nat.reduceLT,Nat.reduceLeDiff,bI2,z8.idsL,z8.renL,z8.snapAll,z6.idsL,z6.renL,z6.snapAll]) <;> rfl)) (show (lim cfg).inl 69 [.lsl 2 0 ym.length 2 none] [(2,⟨ym.map Sn.D,2,false⟩)] 3=some (.tup [.lsl 3 0 yv.length 2 none,I 0],[(2,⟨(zq zo ym).map Sn.D,2,false⟩),(3,⟨yv.map Sn.D,2,false⟩)],4) from po_inl [.inlS [2] (.tup []) [(2,⟨(zq zo ym).map Sn.D,2,false⟩)] 3,.gloop (zt 2 3 ym) (.exit 0) (sd40116 3 2 4 yv ym),.dec false] (Ai h74 (Ai (zZ (q:=zA ym (zq zo ym)) (lp_ranges_gathered_4p3 ym (zq zo ym) (zq zo ym) 0 (List.drop_zero) (Nat.zero_le _) (by simp only [zY,GS.some_l,List.length_set,List.length_append,List.length_cons,List.length_nil] at * <;> first | with_reducible assumption | omega) (by simp only [zY,GS.some_l,List.length_set,List.length_append,List.length_cons,List.length_nil] at * <;> first | with_reducible assumption | omega)) h73) (Ai (gc_of (C:=cfg) (f:=69) (a:=lp69_4) (ks:=[4,10,11,12]) (st:=(zK 2 3 ym)) (st1:=(zt 2 3 ym)) (by kernel_rfl) (by (simp only [zK,zt,go_sem,List.length_set,Nat.reduceAdd,Nat.reduceEqDiff,Nat.reduceLT,Nat.reduceLeDiff,bI2,z8.idsL,z8.renL,z8.snapAll,z6.idsL,z6.renL,z6.snapAll]) <;> rfl)) (Ai (Ai (show zg [(2,⟨ym.map Sn.D,2,false⟩)] 256 [2] []=some [2] from (by (simp only [zg,go_sem,List.length_set,Nat.reduceAdd,Nat.reduceEqDiff,Nat.reduceLT,Nat.reduceLeDiff,bI2,z8.idsL,z8.renL,z8.snapAll,z6.idsL,z6.renL,z6.snapAll]) <;> rfl)) (T_sort 2 3 none ym (by omega))) trivial)))) (by kernel_rfl))) (Ai p12 (Ai p11 (Ai h71 (Ai p10 (Ai p9 (Ai h70 (Ai p8 (Ai h69 (Ai p7 (Ai h5 (Ai (zb within.hi) (Ai h4 (Ai (zb within.lo) (Ai h3 (Ai h2 (Ai (zr n 1 10000) (Ai h1 (Ai (zm r (by omega)) trivial)))))))))))))))))))) (by kernel_rfl)
           | x1 x9 yU yv =>
            try dsimp only
            have hv_h73:=ivt_ranges_gathered_4p3 ym (zq zo ym) (zq zo ym) 0 (List.drop_zero) (Nat.zero_le _) (by simp only [zY,GS.some_l,List.length_set,List.length_append,List.length_cons,List.length_nil] at * <;> first | with_reducible assumption | omega) (by simp only [zY,GS.some_l,List.length_set,List.length_append,List.length_cons,List.length_nil] at * <;> first | with_reducible assumption | omega)
            rw [h73] at hv_h73
            obtain ⟨hv_h73_0,hv_h73_1⟩:=hv_h73
            try dsimp only [zH] at hv_h73_0
            try dsimp only [zH] at hv_h73_1
            exact zk ((zx r n within)++((ranges_Turns_o4 n within yz)++((ranges_Turns_o5 n within yz)++[.dec false,.gloop (sd40157 0 1 2 n yz within) (.exit 0) (sd40158 0 1 2 3 within n yB yF ym),.inlS [2] (.tup [.sl true [] 0 none,I 2]) [(2,⟨(zq zo ym).map Sn.D,2,false⟩),(3,⟨yv.map Sn.D,2,false⟩),(4,⟨[.agg [I yU.lo,I yU.hi]],2,false⟩)] 5]))) (Ai (Ai (show zg [(0,⟨[.agg [I within.lo,I within.hi]],2,false⟩),(1,⟨yF.map Sn.D,2,false⟩),(2,⟨ym.map Sn.D,2,false⟩)] 256 [2] []=some [2] from (by (simp only [zg,go_sem,List.length_set,Nat.reduceAdd,Nat.reduceEqDiff,Nat.reduceLT,Nat.reduceLeDiff,bI2,z8.idsL,z8.renL,z8.snapAll,z6.idsL,z6.renL,z6.snapAll]) <;> rfl)) (show (lim cfg).inl 69 [.lsl 2 0 ym.length 2 none] [(2,⟨ym.map Sn.D,2,false⟩)] 3=some (.tup [.sl true [] 0 none,I 2],[(2,⟨(zq zo ym).map Sn.D,2,false⟩),(3,⟨yv.map Sn.D,2,false⟩),(4,⟨[.agg [I yU.lo,I yU.hi]],2,false⟩)],5) from po_inl [.inlS [2] (.tup []) [(2,⟨(zq zo ym).map Sn.D,2,false⟩)] 3,.gloop (zt 2 3 ym) .ret (sd40117 4 2 3 5 yU x9 yv ym)] (Ai (zZ (q:=zA ym (zq zo ym)) (lp_ranges_gathered_4p3 ym (zq zo ym) (zq zo ym) 0 (List.drop_zero) (Nat.zero_le _) (by simp only [zY,GS.some_l,List.length_set,List.length_append,List.length_cons,List.length_nil] at * <;> first | with_reducible assumption | omega) (by simp only [zY,GS.some_l,List.length_set,List.length_append,List.length_cons,List.length_nil] at * <;> first | with_reducible assumption | omega)) h73) (Ai (gc_of (C:=cfg) (f:=69) (a:=lp69_4) (ks:=[4,10,11,12]) (st:=(zK 2 3 ym)) (st1:=(zt 2 3 ym)) (by kernel_rfl) (by (simp only [zK,zt,go_sem,List.length_set,Nat.reduceAdd,Nat.reduceEqDiff,Nat.reduceLT,Nat.reduceLeDiff,bI2,z8.idsL,z8.renL,z8.snapAll,z6.idsL,z6.renL,z6.snapAll]) <;> rfl)) (Ai (Ai (show zg [(2,⟨ym.map Sn.D,2,false⟩)] 256 [2] []=some [2] from (by (simp only [zg,go_sem,List.length_set,Nat.reduceAdd,Nat.reduceEqDiff,Nat.reduceLT,Nat.reduceLeDiff,bI2,z8.idsL,z8.renL,z8.snapAll,z6.idsL,z6.renL,z6.snapAll]) <;> rfl)) (T_sort 2 3 none ym (by omega))) trivial))) (by kernel_rfl))) (Ai p12 (Ai p11 (Ai h71 (Ai p10 (Ai p9 (Ai h70 (Ai p8 (Ai h69 (Ai p7 (Ai h5 (Ai (zb within.hi) (Ai h4 (Ai (zb within.lo) (Ai h3 (Ai h2 (Ai (zr n 1 10000) (Ai h1 (Ai (zm r (by omega)) trivial))))))))))))))))))) (by kernel_rfl)
           | x2 x9 yU yv =>
            try dsimp only
            have hv_h73:=ivt_ranges_gathered_4p3 ym (zq zo ym) (zq zo ym) 0 (List.drop_zero) (Nat.zero_le _) (by simp only [zY,GS.some_l,List.length_set,List.length_append,List.length_cons,List.length_nil] at * <;> first | with_reducible assumption | omega) (by simp only [zY,GS.some_l,List.length_set,List.length_append,List.length_cons,List.length_nil] at * <;> first | with_reducible assumption | omega)
            rw [h73] at hv_h73
            obtain ⟨hv_h73_0,hv_h73_1⟩:=hv_h73
            try dsimp only [zH] at hv_h73_0
            try dsimp only [zH] at hv_h73_1
            exact zk ((zx r n within)++((ranges_Turns_o4 n within yz)++((ranges_Turns_o5 n within yz)++[.dec false,.gloop (sd40157 0 1 2 n yz within) (.exit 0) (sd40158 0 1 2 3 within n yB yF ym),.inlS [2] (.tup [.sl true [] 0 none,I 2]) [(2,⟨(zq zo ym).map Sn.D,2,false⟩),(3,⟨yv.map Sn.D,2,false⟩),(4,⟨[.agg [I yU.lo,I yU.hi]],2,false⟩)] 5]))) (Ai (Ai (show zg [(0,⟨[.agg [I within.lo,I within.hi]],2,false⟩),(1,⟨yF.map Sn.D,2,false⟩),(2,⟨ym.map Sn.D,2,false⟩)] 256 [2] []=some [2] from (by (simp only [zg,go_sem,List.length_set,Nat.reduceAdd,Nat.reduceEqDiff,Nat.reduceLT,Nat.reduceLeDiff,bI2,z8.idsL,z8.renL,z8.snapAll,z6.idsL,z6.renL,z6.snapAll]) <;> rfl)) (show (lim cfg).inl 69 [.lsl 2 0 ym.length 2 none] [(2,⟨ym.map Sn.D,2,false⟩)] 3=some (.tup [.sl true [] 0 none,I 2],[(2,⟨(zq zo ym).map Sn.D,2,false⟩),(3,⟨yv.map Sn.D,2,false⟩),(4,⟨[.agg [I yU.lo,I yU.hi]],2,false⟩)],5) from po_inl [.inlS [2] (.tup []) [(2,⟨(zq zo ym).map Sn.D,2,false⟩)] 3,.gloop (zt 2 3 ym) .ret (sd40118 4 2 3 5 yU x9 yv ym)] (Ai (zZ (q:=zA ym (zq zo ym)) (lp_ranges_gathered_4p3 ym (zq zo ym) (zq zo ym) 0 (List.drop_zero) (Nat.zero_le _) (by simp only [zY,GS.some_l,List.length_set,List.length_append,List.length_cons,List.length_nil] at * <;> first | with_reducible assumption | omega) (by simp only [zY,GS.some_l,List.length_set,List.length_append,List.length_cons,List.length_nil] at * <;> first | with_reducible assumption | omega)) h73) (Ai (gc_of (C:=cfg) (f:=69) (a:=lp69_4) (ks:=[4,10,11,12]) (st:=(zK 2 3 ym)) (st1:=(zt 2 3 ym)) (by kernel_rfl) (by (simp only [zK,zt,go_sem,List.length_set,Nat.reduceAdd,Nat.reduceEqDiff,Nat.reduceLT,Nat.reduceLeDiff,bI2,z8.idsL,z8.renL,z8.snapAll,z6.idsL,z6.renL,z6.snapAll]) <;> rfl)) (Ai (Ai (show zg [(2,⟨ym.map Sn.D,2,false⟩)] 256 [2] []=some [2] from (by (simp only [zg,go_sem,List.length_set,Nat.reduceAdd,Nat.reduceEqDiff,Nat.reduceLT,Nat.reduceLeDiff,bI2,z8.idsL,z8.renL,z8.snapAll,z6.idsL,z6.renL,z6.snapAll]) <;> rfl)) (T_sort 2 3 none ym (by omega))) trivial))) (by kernel_rfl))) (Ai p12 (Ai p11 (Ai h71 (Ai p10 (Ai p9 (Ai h70 (Ai p8 (Ai h69 (Ai p7 (Ai h5 (Ai (zb within.hi) (Ai h4 (Ai (zb within.lo) (Ai h3 (Ai h2 (Ai (zr n 1 10000) (Ai h1 (Ai (zm r (by omega)) trivial))))))))))))))))))) (by kernel_rfl)
           | x3 =>
            try dsimp only
            exact zk ((zx r n within)++((ranges_Turns_o4 n within yz)++((ranges_Turns_o5 n within yz)++[.dec false,.gloop (sd40157 0 1 2 n yz within) (.exit 0) (sd40158 0 1 2 3 within n yB yF ym),.inlS [2] (.tup [.sl true [] 0 none,I 0]) [(2,⟨(zq zo ym).map Sn.D,2,false⟩)] 3]))) (Ai (Ai (show zg [(0,⟨[.agg [I within.lo,I within.hi]],2,false⟩),(1,⟨yF.map Sn.D,2,false⟩),(2,⟨ym.map Sn.D,2,false⟩)] 256 [2] []=some [2] from (by (simp only [zg,go_sem,List.length_set,Nat.reduceAdd,Nat.reduceEqDiff,Nat.reduceLT,Nat.reduceLeDiff,bI2,z8.idsL,z8.renL,z8.snapAll,z6.idsL,z6.renL,z6.snapAll]) <;> rfl)) (show (lim cfg).inl 69 [.lsl 2 0 ym.length 2 none] [(2,⟨ym.map Sn.D,2,false⟩)] 3=some (.tup [.sl true [] 0 none,I 0],[(2,⟨(zq zo ym).map Sn.D,2,false⟩)],3) from po_inl [.inlS [2] (.tup []) [(2,⟨(zq zo ym).map Sn.D,2,false⟩)] 3,.gloop (zt 2 3 ym) (.exit 0) (sd40119 2 3 ym),.dec false] (Ai (Eq.refl false) (Ai (zZ (q:=zA ym (zq zo ym)) (lp_ranges_gathered_4p3 ym (zq zo ym) (zq zo ym) 0 (List.drop_zero) (Nat.zero_le _) (by simp only [zY,GS.some_l,List.length_set,List.length_append,List.length_cons,List.length_nil] at * <;> first | with_reducible assumption | omega) (by simp only [zY,GS.some_l,List.length_set,List.length_append,List.length_cons,List.length_nil] at * <;> first | with_reducible assumption | omega)) h73) (Ai (gc_of (C:=cfg) (f:=69) (a:=lp69_4) (ks:=[4,10,11,12]) (st:=(zK 2 3 ym)) (st1:=(zt 2 3 ym)) (by kernel_rfl) (by (simp only [zK,zt,go_sem,List.length_set,Nat.reduceAdd,Nat.reduceEqDiff,Nat.reduceLT,Nat.reduceLeDiff,bI2,z8.idsL,z8.renL,z8.snapAll,z6.idsL,z6.renL,z6.snapAll]) <;> rfl)) (Ai (Ai (show zg [(2,⟨ym.map Sn.D,2,false⟩)] 256 [2] []=some [2] from (by (simp only [zg,go_sem,List.length_set,Nat.reduceAdd,Nat.reduceEqDiff,Nat.reduceLT,Nat.reduceLeDiff,bI2,z8.idsL,z8.renL,z8.snapAll,z6.idsL,z6.renL,z6.snapAll]) <;> rfl)) (T_sort 2 3 none ym (by omega))) trivial)))) (by kernel_rfl))) (Ai p12 (Ai p11 (Ai h71 (Ai p10 (Ai p9 (Ai h70 (Ai p8 (Ai h69 (Ai p7 (Ai h5 (Ai (zb within.hi) (Ai h4 (Ai (zb within.lo) (Ai h3 (Ai h2 (Ai (zr n 1 10000) (Ai h1 (Ai (zm r (by omega)) trivial))))))))))))))))))) (by kernel_rfl)
           | x4 x9 yU =>
            try dsimp only
            exact zk ((zx r n within)++((ranges_Turns_o4 n within yz)++((ranges_Turns_o5 n within yz)++[.dec false,.gloop (sd40157 0 1 2 n yz within) (.exit 0) (sd40158 0 1 2 3 within n yB yF ym),.inlS [2] (.tup [.sl true [] 0 none,I 2]) [(2,⟨(zq zo ym).map Sn.D,2,false⟩),(3,⟨[.agg [I yU.lo,I yU.hi]],2,false⟩)] 4]))) (Ai (Ai (show zg [(0,⟨[.agg [I within.lo,I within.hi]],2,false⟩),(1,⟨yF.map Sn.D,2,false⟩),(2,⟨ym.map Sn.D,2,false⟩)] 256 [2] []=some [2] from (by (simp only [zg,go_sem,List.length_set,Nat.reduceAdd,Nat.reduceEqDiff,Nat.reduceLT,Nat.reduceLeDiff,bI2,z8.idsL,z8.renL,z8.snapAll,z6.idsL,z6.renL,z6.snapAll]) <;> rfl)) (show (lim cfg).inl 69 [.lsl 2 0 ym.length 2 none] [(2,⟨ym.map Sn.D,2,false⟩)] 3=some (.tup [.sl true [] 0 none,I 2],[(2,⟨(zq zo ym).map Sn.D,2,false⟩),(3,⟨[.agg [I yU.lo,I yU.hi]],2,false⟩)],4) from po_inl [.inlS [2] (.tup []) [(2,⟨(zq zo ym).map Sn.D,2,false⟩)] 3,.gloop (zt 2 3 ym) .ret (sd40120 3 2 4 yU x9 ym)] (Ai (zZ (q:=zA ym (zq zo ym)) (lp_ranges_gathered_4p3 ym (zq zo ym) (zq zo ym) 0 (List.drop_zero) (Nat.zero_le _) (by simp only [zY,GS.some_l,List.length_set,List.length_append,List.length_cons,List.length_nil] at * <;> first | with_reducible assumption | omega) (by simp only [zY,GS.some_l,List.length_set,List.length_append,List.length_cons,List.length_nil] at * <;> first | with_reducible assumption | omega)) h73) (Ai (gc_of (C:=cfg) (f:=69) (a:=lp69_4) (ks:=[4,10,11,12]) (st:=(zK 2 3 ym)) (st1:=(zt 2 3 ym)) (by kernel_rfl) (by (simp only [zK,zt,go_sem,List.length_set,Nat.reduceAdd,Nat.reduceEqDiff,Nat.reduceLT,Nat.reduceLeDiff,bI2,z8.idsL,z8.renL,z8.snapAll,z6.idsL,z6.renL,z6.snapAll]) <;> rfl)) (Ai (Ai (show zg [(2,⟨ym.map Sn.D,2,false⟩)] 256 [2] []=some [2] from (by (simp only [zg,go_sem,List.length_set,Nat.reduceAdd,Nat.reduceEqDiff,Nat.reduceLT,Nat.reduceLeDiff,bI2,z8.idsL,z8.renL,z8.snapAll,z6.idsL,z6.renL,z6.snapAll]) <;> rfl)) (T_sort 2 3 none ym (by omega))) trivial))) (by kernel_rfl))) (Ai p12 (Ai p11 (Ai h71 (Ai p10 (Ai p9 (Ai h70 (Ai p8 (Ai h69 (Ai p7 (Ai h5 (Ai (zb within.hi) (Ai h4 (Ai (zb within.lo) (Ai h3 (Ai h2 (Ai (zr n 1 10000) (Ai h1 (Ai (zm r (by omega)) trivial))))))))))))))))))) (by kernel_rfl)
           | x5 x9 yU =>
            try dsimp only
            exact zk ((zx r n within)++((ranges_Turns_o4 n within yz)++((ranges_Turns_o5 n within yz)++[.dec false,.gloop (sd40157 0 1 2 n yz within) (.exit 0) (sd40158 0 1 2 3 within n yB yF ym),.inlS [2] (.tup [.sl true [] 0 none,I 2]) [(2,⟨(zq zo ym).map Sn.D,2,false⟩),(3,⟨[.agg [I yU.lo,I yU.hi]],2,false⟩)] 4]))) (Ai (Ai (show zg [(0,⟨[.agg [I within.lo,I within.hi]],2,false⟩),(1,⟨yF.map Sn.D,2,false⟩),(2,⟨ym.map Sn.D,2,false⟩)] 256 [2] []=some [2] from (by (simp only [zg,go_sem,List.length_set,Nat.reduceAdd,Nat.reduceEqDiff,Nat.reduceLT,Nat.reduceLeDiff,bI2,z8.idsL,z8.renL,z8.snapAll,z6.idsL,z6.renL,z6.snapAll]) <;> rfl)) (show (lim cfg).inl 69 [.lsl 2 0 ym.length 2 none] [(2,⟨ym.map Sn.D,2,false⟩)] 3=some (.tup [.sl true [] 0 none,I 2],[(2,⟨(zq zo ym).map Sn.D,2,false⟩),(3,⟨[.agg [I yU.lo,I yU.hi]],2,false⟩)],4) from po_inl [.inlS [2] (.tup []) [(2,⟨(zq zo ym).map Sn.D,2,false⟩)] 3,.gloop (zt 2 3 ym) .ret (sd40121 3 2 4 yU x9 ym)] (Ai (zZ (q:=zA ym (zq zo ym)) (lp_ranges_gathered_4p3 ym (zq zo ym) (zq zo ym) 0 (List.drop_zero) (Nat.zero_le _) (by simp only [zY,GS.some_l,List.length_set,List.length_append,List.length_cons,List.length_nil] at * <;> first | with_reducible assumption | omega) (by simp only [zY,GS.some_l,List.length_set,List.length_append,List.length_cons,List.length_nil] at * <;> first | with_reducible assumption | omega)) h73) (Ai (gc_of (C:=cfg) (f:=69) (a:=lp69_4) (ks:=[4,10,11,12]) (st:=(zK 2 3 ym)) (st1:=(zt 2 3 ym)) (by kernel_rfl) (by (simp only [zK,zt,go_sem,List.length_set,Nat.reduceAdd,Nat.reduceEqDiff,Nat.reduceLT,Nat.reduceLeDiff,bI2,z8.idsL,z8.renL,z8.snapAll,z6.idsL,z6.renL,z6.snapAll]) <;> rfl)) (Ai (Ai (show zg [(2,⟨ym.map Sn.D,2,false⟩)] 256 [2] []=some [2] from (by (simp only [zg,go_sem,List.length_set,Nat.reduceAdd,Nat.reduceEqDiff,Nat.reduceLT,Nat.reduceLeDiff,bI2,z8.idsL,z8.renL,z8.snapAll,z6.idsL,z6.renL,z6.snapAll]) <;> rfl)) (T_sort 2 3 none ym (by omega))) trivial))) (by kernel_rfl))) (Ai p12 (Ai p11 (Ai h71 (Ai p10 (Ai p9 (Ai h70 (Ai p8 (Ai h69 (Ai p7 (Ai h5 (Ai (zb within.hi) (Ai h4 (Ai (zb within.lo) (Ai h3 (Ai h2 (Ai (zr n 1 10000) (Ai h1 (Ai (zm r (by omega)) trivial))))))))))))))))))) (by kernel_rfl)
          | x1 yC =>
           try dsimp only
           have hv_h72:=ivt_ranges_Turns_16 n within yz (za within.hi n) ((za within.hi n - za within.lo n).toNat+2) (za within.lo n) (ranges_Turns_16_ne _ _ _ _ _ (by omega)) (by omega) (by omega)
           rw [h72] at hv_h72
           have hv_h72_0:=hv_h72
           try dsimp only [iv_ranges_Turns_16] at hv_h72_0
           exact zk ((zx r n within)++((ranges_Turns_o4 n within yz)++((ranges_Turns_o5 n within yz)++[.dec false,.gloop (sd40157 0 1 2 n yz within) (.exit 0) (sd40169 0 1 2 within n yC yz),.inl (.tup [.sl true [] 0 none,I 0]) [] 2]))) (Ai (show (lim cfg).inl 69 [.sl true [] 0 none] [] 2=some (.tup [.sl true [] 0 none,I 0],[],2) from po_inl [.inl (.tup []) [] 2,.loop (.exit 0) ⟨65,[(13,B false),(4,.sl true [] 0 none),(10,.sl true [] 0 none),(11,I 0),(12,I 0)],[],2,2⟩,.dec false] (Ai (Eq.refl false) (Ai (show (lim cfg).loop 69 lp69_4 ⟨65,[(4,.sl true [] 0 none),(10,.sl true [] 0 none),(11,I 0),(12,I 0)],[],2,2⟩=some ((.exit 0),⟨65,[(13,B false),(4,.sl true [] 0 none),(10,.sl true [] 0 none),(11,I 0),(12,I 0)],[],2,2⟩) from (zF [.dec false] (Ai (Eq.refl false) trivial) (by kernel_rfl))) (Ai (T_sort_nil 2) trivial))) (by kernel_rfl)) (Ai (zZ (q:=lr_ranges_Turns_16 n within yz (za within.hi n)) (lp_ranges_Turns_16 n within yz (za within.hi n) ((za within.hi n - za within.lo n).toNat+2) (za within.lo n) (ranges_Turns_16_ne _ _ _ _ _ (by omega)) (by omega) (by omega)) h72) (Ai p11 (Ai h71 (Ai p10 (Ai p9 (Ai h70 (Ai p8 (Ai h69 (Ai p7 (Ai h5 (Ai (zb within.hi) (Ai h4 (Ai (zb within.lo) (Ai h3 (Ai h2 (Ai (zr n 1 10000) (Ai h1 (Ai (zm r (by omega)) trivial))))))))))))))))))) (by kernel_rfl)
          | out =>
           exact absurd h72 ((ranges_Turns_16_ne _ _ _ _ _ (by omega)))
      | x2 =>
       try dsimp only
       exact zk ((zx r n within)++[.dec true,.pure (B (zh within.hi)),.dec true,.inl (.sl true [] 0 none) [(1,⟨[I n],1,true⟩)] 2,.dec true]) (Ai (Eq.refl true) (Ai (show (lim cfg).inl 82 [.sl r.nl (r.l.map Sn.D) (zsl r.nl 2) none,I n] [] 1=some (.sl true [] 0 none,[(1,⟨[I n],1,true⟩)],2) from po_inl [.inl (.sl true [] 0 none) [(1,⟨[I n],1,true⟩)] 2] (Ai (show (lim cfg).inl 70 [.sl r.nl (r.l.map Sn.D) (zsl r.nl 2) none,.fn (.func 106) [] [.lref 1 0 1 0]] [(1,⟨[I n],1,false⟩)] 2=some (.sl true [] 0 none,[(1,⟨[I n],1,true⟩)],2) from po_inl [.rw 9 (I ((r.l.length:Nat):Int)),.loop (.exit 0) (sd40134 1 2 r n)] (Ai (zZ (q:=lr_ranges_each_3p5 r n) (lp_ranges_each_3p5 r n r.l 0 (List.drop_zero) (Nat.zero_le _) (by omega) (by omega) (by omega) (by omega)) h30) (Ai (zj Sn.D r) trivial)) (by kernel_rfl)) trivial) (by kernel_rfl)) (Ai h5 (Ai (zb within.hi) (Ai h4 (Ai (zb within.lo) (Ai h3 (Ai h2 (Ai (zr n 1 10000) (Ai h1 (Ai (zm r (by omega)) trivial))))))))))) (by kernel_rfl)
      | x3 =>
       try dsimp only
       exact zk ((zx r n within)++[.dec true,.pure (B (zh within.hi)),.dec true,.inl (.sl true [] 0 none) [(1,⟨[I n],1,false⟩)] 2,.dec true]) (Ai (Eq.refl true) (Ai (show (lim cfg).inl 82 [.sl r.nl (r.l.map Sn.D) (zsl r.nl 2) none,I n] [] 1=some (.sl true [] 0 none,[(1,⟨[I n],1,false⟩)],2) from po_inl [.inl (.sl true [] 0 none) [(1,⟨[I n],1,false⟩)] 2] (Ai (show (lim cfg).inl 70 [.sl r.nl (r.l.map Sn.D) (zsl r.nl 2) none,.fn (.func 106) [] [.lref 1 0 1 0]] [(1,⟨[I n],1,false⟩)] 2=some (.sl true [] 0 none,[(1,⟨[I n],1,false⟩)],2) from po_inl [.rw 9 (I ((r.l.length:Nat):Int)),.loop (.exit 0) (sd40135 1 2 r n)] (Ai (zZ (q:=lr_ranges_each_3p5 r n) (lp_ranges_each_3p5 r n r.l 0 (List.drop_zero) (Nat.zero_le _) (by omega) (by omega) (by omega) (by omega)) h30) (Ai (zj Sn.D r) trivial)) (by kernel_rfl)) trivial) (by kernel_rfl)) (Ai h5 (Ai (zb within.hi) (Ai h4 (Ai (zb within.lo) (Ai h3 (Ai h2 (Ai (zr n 1 10000) (Ai h1 (Ai (zm r (by omega)) trivial))))))))))) (by kernel_rfl)
     | false =>
      exact zk ((zx r n within)++[.dec true,.pure (B (zh within.hi)),.dec false]) (Ai h5 (Ai (zb within.hi) (Ai h4 (Ai (zb within.lo) (Ai h3 (Ai h2 (Ai (zr n 1 10000) (Ai h1 (Ai (zm r (by omega)) trivial))))))))) (by kernel_rfl)
    | false =>
     exact zk ((zx r n within)++[.dec false]) (Ai h4 (Ai (zb within.lo) (Ai h3 (Ai h2 (Ai (zr n 1 10000) (Ai h1 (Ai (zm r (by omega)) trivial))))))) (by kernel_rfl)
  | false =>
   exact zk [.pure (I (zC r)),.dec false,.pure (B (ranges_in n 1 10000)),.dec false] (Ai h2 (Ai (zr n 1 10000) (Ai h1 (Ai (zm r (by omega)) trivial)))) (by kernel_rfl)
end Go.VS

namespace Go.VS
open Go
set_option maxHeartbeats 0
set_option linter.unusedSimpArgs false
set_option linter.unusedVariables false

theorem ranges_gathered_4p3_ok:∀ (l:List Sn) (i:Nat) (v:List Sn) (c:Sn),ArL l→Ar c.hi→v.length+l.length≤1099511627776→zS l i (v++[c])=.x0 (v++jn c l)
 | [],i,v,c,_,_,_=>rfl
 | x::l,i,v,c,h,hc,hv=>by
  have hx:=h x List.mem_cons_self
  have h':ArL l:=fun t ht=>h t (List.mem_cons_of_mem _ ht)
  simp only [List.length_cons] at hv
  unfold zS jn
  rw [area_iff.2 hx.1,area_iff.2 hx.2]
  have hl:w64 ((((v++[c]).length:Nat):Int) - 1)=((v.length:Nat):Int):=by
   rcases len_last (v:=v) (c:=c) with e | e
   ·exact e
   ·omega
  have hp:decide ((((v++[c]).length:Nat):Int) > 0)=true:=decide_eq_true (by simp only [List.length_append,List.length_cons,List.length_nil]; omega)
  rw [hl,hp,Int.toNat_natCast,getD_last,set_last]
  unfold Ar at hc
  have hx2:=hx.2
  unfold Ar at hx2
  rw [y7 (n:=c.hi+1) (by omega) (by omega),imax_eq]
  by_cases hle:x.lo≤c.hi+1
  ·rw [decide_eq_true hle,if_pos hle]
   exact ranges_gathered_4p3_ok l (i+1) v ⟨c.lo,max c.hi x.hi⟩ h' (by unfold Ar; simp only; omega) (by omega)
  ·rw [decide_eq_false hle,if_neg hle]
   have:=ranges_gathered_4p3_ok l (i+1) (v++[c]) x h' hx.2 (by simp only [List.length_append,List.length_cons,List.length_nil]; omega)
   simp only [cond_true,cond_false]
   rw [this,List.append_assoc]; rfl
def ranges_gathered_4p3_er:LR_ranges_gathered_4p3→Bool
 | .x1 _ _ _=>true
 | .x2 _ _ _=>true
 | .x4 _ _=>true
 | .x5 _ _=>true
 | _=>false
theorem ranges_gathered_4p3_bad:∀ (l:List Sn) (i:Nat) (v:List Sn),¬ ArL l→ranges_gathered_4p3_er (zS l i v)=true
 | [],i,v,h=>absurd (fun s hs=>by cases hs) h
 | x::l,i,v,h=>by
  unfold zS
  cases h1:zh x.lo with
  | false=>rfl
  | true =>
   cases h2:zh x.hi with
   | false=>rfl
   | true =>
    have h':¬ ArL l:=fun k=>h fun s hs=>by
     rcases List.mem_cons.1 hs with rfl | hs
     ·exact ⟨area_iff.1 h1,area_iff.1 h2⟩
     ·exact k s hs
    have ih:=fun v=>ranges_gathered_4p3_bad l (i+1) v h'
    simp only [cond_true]
    cases decide (((v.length:Nat):Int) > 0) with
    | false=>exact ih _
    | true =>
     simp only [cond_true]
     cases decide (x.lo≤w64 ((v.getD ((w64 (((v.length:Nat):Int) - 1)).toNat) default).hi+1)) <;> exact ih _
theorem ranges_gathered_4p3_at {l:List Sn} (hne:l ≠ []) (hl:l.length≤1099511627776):(ArL l∧zD (zq zo l) 0=.x0 (can zo l)) ∨ (¬ ArL l∧ranges_gathered_4p3_er (zD (zq zo l) 0)=true):=by
 have hp:=srtG_perm gcmp_lo l
 have hlen:=srtG_len gcmp_lo l
 have har:ArL (zq zo l)↔ArL l:=⟨fun h s hs=>h s (hp.mem_iff.2 hs),fun h s hs=>h s (hp.mem_iff.1 hs)⟩
 rw [← har]
 unfold can
 have hne':zq zo l ≠ []:=fun h=>hne (by rw [h] at hp; exact List.nil_perm.1 hp)
 generalize zq zo l=q at *
 cases q with
 | nil=>exact absurd rfl hne'
 | cons c q =>
  simp only [List.length_cons] at hlen
  unfold zD jnL
  dsimp only
  by_cases hc:Ar c.lo∧Ar c.hi
  ·rw [area_iff.2 hc.1,area_iff.2 hc.2]
   by_cases hq:ArL q
   ·left
    refine ⟨fun s hs=>?_,?_⟩
    ·rcases List.mem_cons.1 hs with rfl | hs
     ·exact hc
     ·exact hq s hs
    ·exact ranges_gathered_4p3_ok q 1 [] c hq hc.2 (by simp; omega)
   ·right
    exact ⟨fun h=>hq fun s hs=>h s (List.mem_cons_of_mem _ hs),ranges_gathered_4p3_bad q 1 [c] hq⟩
  ·right
   refine ⟨fun h=>hc (h c List.mem_cons_self),?_⟩
   cases h1:zh c.lo with
   | false=>rfl
   | true =>
    cases h2:zh c.hi with
    | false=>rfl
    | true=>exact absurd ⟨area_iff.1 h1,area_iff.1 h2⟩ hc

end Go.VS

namespace Go.VS
open Go Go.Proofs
set_option maxHeartbeats 0
set_option linter.unusedSimpArgs false
set_option linter.unusedVariables false
end Go.VS

namespace Go.VS
open Go
set_option maxHeartbeats 0

theorem ok_bx {l:List Sn} (h:Ok l):∀ x∈l,-1099511627776≤x.lo∧x.lo≤x.hi∧x.hi≤1099511627776:=fun x hx=>by
 have:=cn_mem h.1 hx
 have:=h.2.1 x hx
 omega
theorem chk_no {r:GS Sn} (h:¬ Ok r.l):zC r=20:=by
 rw [check_valid]
 rw [← valid_iff] at h
 cases hv:r_Valid r <;> simp [hv] at h ⊢
theorem flat_congr {α:Type} {f g:α→List Sn}:∀ {l:List α},(∀ x∈l,f x=g x)→l.flatMap f=l.flatMap g
 | [],_=>rfl
 | x::l,h=>by rw [List.flatMap_cons,List.flatMap_cons,h x List.mem_cons_self,flat_congr fun y hy=>h y (List.mem_cons_of_mem _ hy)]
theorem flat_len {α:Type} {f:α→List Sn} {m:Nat}:∀ {l:List α},(∀ x∈l,(f x).length≤m)→(l.flatMap f).length≤m * l.length
 | [],_=>by simp
 | x::l,h=>by
  rw [List.flatMap_cons,List.length_append,List.length_cons,Nat.mul_succ]
  have:=h x List.mem_cons_self
  have:=flat_len fun y hy=>h y (List.mem_cons_of_mem _ hy)
  omega
def tm1 (k:Sn) (s:Sn):List Sn:=(ranges_Times_1 s k).l
def rs1 (k:Int) (s:Sn):List Sn:=(z7 s k).l
theorem ranges_each_3p4c_eq (k:Int):∀ (l v:List Sn),zI k l v=.x0 (v++l.flatMap (rs1 k))
 | [],v=>by simp [zI]
 | y::l,v=>by
  unfold zI
  rw [emp_app (fun z=>zI k l z),ranges_each_3p4c_eq k l _,List.flatMap_cons,List.append_assoc,Bool.cond_self]; rfl
theorem ranges_each_3p4a_eq (k:Int):∀ (l v:List Sn),yd k l v=.x0 (v++l.flatMap (rs1 k)) ∨ yd k l v=.x1 (v++l.flatMap (rs1 k))
 | [],v=>by right; simp [yd]
 | y::l,v=>by
  unfold yd
  rw [emp_app (fun z=>yd k l z),emp_app (fun z=>zI k l z),ranges_each_3p4c_eq k l _,List.flatMap_cons,← List.append_assoc]
  cases (z7 y k).nl with
  | false=>exact .inl rfl
  | true=>exact ranges_each_3p4a_eq k l _
theorem ranges_each_3p4b_eq (k:Int):∀ (l:List Sn),(l.flatMap (rs1 k)=[]∧ranges_each_3p4b k l=.x2) ∨ (l.flatMap (rs1 k) ≠ []∧ranges_each_3p4b k l=.x0 (l.flatMap (rs1 k)))
 | []=>.inl ⟨rfl,rfl⟩
 | y::l=>by
  unfold ranges_each_3p4b
  rw [Bool.cond_self]
  cases h:((z7 y k).l).isEmpty with
  | true =>
   rw [flat_cons_emp (f:=rs1 k) h]
   exact ranges_each_3p4b_eq k l
  | false =>
   right
   simp only [cond_false]
   rw [ranges_each_3p4c_eq,List.flatMap_cons]
   refine ⟨fun z=>?_,rfl⟩
   have h2:(z7 y k).l=[]:=(List.append_eq_nil_iff.1 z).1
   rw [h2] at h; cases h
theorem ranges_each_3p4_eq (k:Int):∀ (l:List Sn),(l.flatMap (rs1 k)=[]∧(ranges_each_3p4 k l=.x2 ∨ ranges_each_3p4 k l=.x3)) ∨ (l.flatMap (rs1 k) ≠ []∧(ranges_each_3p4 k l=.x0 (l.flatMap (rs1 k)) ∨ ranges_each_3p4 k l=.x1 (l.flatMap (rs1 k))))
 | []=>.inl ⟨rfl,.inr rfl⟩
 | y::l=>by
  unfold ranges_each_3p4
  cases h:((z7 y k).l).isEmpty with
  | true =>
   rw [flat_cons_emp (f:=rs1 k) h]
   cases (z7 y k).nl with
   | true=>exact ranges_each_3p4_eq k l
   | false =>
    rcases ranges_each_3p4b_eq k l with ⟨h1,h2⟩ | ⟨h1,h2⟩
    ·exact .inl ⟨h1,.inl h2⟩
    ·exact .inr ⟨h1,.inl h2⟩
  | false =>
   right
   refine ⟨fun z=>?_,?_⟩
   ·rw [List.flatMap_cons] at z
    have h2:(z7 y k).l=[]:=(List.append_eq_nil_iff.1 z).1
    rw [h2] at h; cases h
   ·rw [List.flatMap_cons]
    cases (z7 y k).nl with
    | true=>exact ranges_each_3p4a_eq k l _
    | false=>exact .inl (ranges_each_3p4c_eq k l _)

def KOv (k:Sn):Prop:=1≤k.lo∧k.lo≤k.hi∧k.hi≤1000∧k.hi - k.lo≤99

def NOk (n:Int):Prop:=1≤n∧n≤10000

theorem Rest_gr {r:GS Sn} {n:Int} (hr:Ok r.l) (hn:NOk n):GR (r.l.flatMap (fun x=>restS x n)) (yh r n):=by
 have hq:r.l.flatMap (rs1 n)=r.l.flatMap (fun x=>restS x n):=flat_congr fun x hx=>rests1_eq (ok_bx hr x hx) hn
 have hlen:(r.l.flatMap (fun x=>restS x n)).length≤1099511627776:=by
  rw [← hq]
  have:=flat_len (f:=rs1 n) (m:=2) (l:=r.l) (fun x hx=>by unfold rs1; exact rests1_len x n)
  have:=hr.2.2
  omega
 unfold yh
 rw [check_iff.2 hr,in_iff.2 hn]
 simp only [bne_self_eq_false,cond_false,cond_true]
 have e:=ranges_each_3p4_eq n r.l
 rw [hq] at e
 rcases e with ⟨k1,k2 | k2⟩ | ⟨k1,k2 | k2⟩ <;> rw [k2] <;> dsimp only
 ·rw [k1]; exact GR_nil
 ·rw [k1]; exact GR_nil
 ·generalize r.l.flatMap (fun x=>restS x n)=q at *
  rcases ranges_gathered_4p1_at (l:=q) k1 (by omega) with ⟨g1,g2⟩ | ⟨g1,g2⟩
  ·rw [g2]; exact GR_end g1
  ·refine .inr ⟨.inl g1,?_⟩
   revert g2
   cases zQ (zq zo q) 0 <;> intro g2 <;> first | rfl | cases g2
 ·generalize r.l.flatMap (fun x=>restS x n)=q at *
  rcases ranges_gathered_4p1_at (l:=q) k1 (by omega) with ⟨g1,g2⟩ | ⟨g1,g2⟩
  ·rw [g2]; exact GR_end g1
  ·refine .inr ⟨.inl g1,?_⟩
   revert g2
   cases zQ (zq zo q) 0 <;> intro g2 <;> first | rfl | cases g2
theorem Rest_no {r:GS Sn} {n:Int} (h:¬ Ok r.l):yh r n=(GS.nil,20):=by
 unfold yh
 rw [chk_no h]; rfl

theorem Rest_bad {r:GS Sn} {n:Int} (h:Ok r.l) (hn:¬ NOk n):yh r n=(GS.nil,1):=by
 unfold yh
 have e:ranges_in n 1 10000=false:=by
  cases hc:ranges_in n 1 10000
  ·rfl
  ·exact absurd (in_iff.1 hc) hn
 rw [check_iff.2 h,e]; rfl
end Go.VS

namespace Go.VS
open Go
set_option maxHeartbeats 0
theorem cn_count:∀ {r:List Sn} (_:cn r) (n:Nat) (p q:Nat→Int),(∀ j,j < n→In r (p j))→(∀ j,j+1 < n→¬ In r (q j)∧p j < q j∧q j < p (j+1))→n≤r.length
 | [],_,n,p,q,hp,_=>by
  cases n with
  | zero=>exact Nat.le_refl _
  | succ n=>exact absurd (hp 0 (by omega)) In_nil
 | s::l,h,n,p,q,hp,hq=>by
  cases n with
  | zero=>exact Nat.zero_le _
  | succ n =>
   have mono:∀ j,j+1 < n+1→q 0≤q j∧q 0 < p (j+1):=fun j hj=>by
    induction j with
    | zero=>exact ⟨Int.le_refl _,(hq 0 hj).2.2⟩
    | succ j ih =>
     have i1:=ih (by omega)
     have h1:=hq j (by omega)
     have h2:=hq (j+1) hj
     exact ⟨by omega,by omega⟩
   have hin:∀ j,j < n→In l (p (j+1)):=fun j hj=>by
    have h0:=hp 0 (by omega)
    have h1:=hp (j+1) (by omega)
    have h2:=hq 0 (by omega)
    have h3:=(mono j (by omega)).2
    rcases In_cons.1 h1 with k | k
    ·exfalso
     rcases In_cons.1 h0 with k0 | k0
     ·exact h2.1 (In_cons.2 (.inl ⟨by omega,by omega⟩))
     ·have:=cn_above h k0; omega
    ·exact k
   have:=cn_count h.2.2 n (fun j=>p (j+1)) (fun j=>q (j+1)) hin (fun j hj=>by
    have:=hq (j+1) (by omega)
    refine ⟨fun k=>this.1 (In_cons.2 (.inr k)),this.2.1,this.2.2⟩)
   simp only [List.length_cons]; omega
end Go.VS

namespace Go.VS
open Go
set_option maxHeartbeats 0
end Go.VS

namespace Go.VS
open Go Go.Proofs
set_option maxHeartbeats 0
set_option linter.unusedSimpArgs false
set_option linter.unusedVariables false
def zl (n:Int) (by_:Int):Int :=
 bif decide ((n.tmod by_) < 0) then
  w64 ((w64 (n.tdiv by_)) - 1)
 else
  w64 (n.tdiv by_)

theorem T_r_Down (n:Int) (by_:Int) (hb:by_ ≠ 0):(lim cfg).pure 79 [I n,I by_]=some (I (zl n by_)):=by
 unfold zl
 cases h1:decide ((n.tmod by_) < 0) with
 | true =>
  have g1:=of_decide_eq_true h1
  exact zk [.op (some 8) ⟨I (w64 (n.tdiv by_)),[],[],0⟩,.op (some 11) ⟨I (n.tmod by_),[],[],0⟩,.dec true] (Ai h1 (Ai (rem_op (C:=cfg) (t:=3) (cst:=false) (nxt:=0) (a:=n) (b:=by_) (by omega)) (Ai (quo_op (C:=cfg) (t:=3) (cst:=false) (nxt:=0) (a:=n) (b:=by_) (by omega)) trivial))) (by kernel_rfl)
 | false =>
  have g1:=of_decide_eq_false h1
  exact zk [.op (some 8) ⟨I (w64 (n.tdiv by_)),[],[],0⟩,.op (some 11) ⟨I (n.tmod by_),[],[],0⟩,.dec false] (Ai h1 (Ai (rem_op (C:=cfg) (t:=3) (cst:=false) (nxt:=0) (a:=n) (b:=by_) (by omega)) (Ai (quo_op (C:=cfg) (t:=3) (cst:=false) (nxt:=0) (a:=n) (b:=by_) (by omega)) trivial))) (by kernel_rfl)

def sd45000 (ν0 ν1:Nat) (μ0:GS Sn) (μ1:Int) (μ2:List Sn):St:=⟨76,[(13,B false),(12,I ((μ0.l.length:Nat):Int)),(11,.sl μ0.nl (μ0.l.map Sn.D) (zsl μ0.nl 2) none),(10,I ((μ0.l.length:Nat):Int)),(0,.sl μ0.nl (μ0.l.map Sn.D) (zsl μ0.nl 2) none),(1,I μ1),(5,.lsl ν0 0 μ2.length 2 none),(6,I ((μ0.l.length:Nat):Int))],[(ν0,⟨μ2.map Sn.D,2,false⟩)],ν1,ν0⟩

def sd45001 (ν0 ν1 ν2:Nat) (μ0:Int) (μ1:Sn) (μ2:Nat) (μ3:GS Sn) (μ4:List Sn):St:=⟨76,[(4,.lsl ν0 0 1 2 (some 1)),(34,.lsl ν0 0 1 2 (some 1)),(33,.agg [I 0,I (w64 (μ0 - 1))]),(32,I (w64 (μ0 - 1))),(31,I μ0),(30,B true),(29,I μ0),(28,I (w64 ((w64 (μ1.hi - μ1.lo))+1))),(7,I (w64 ((w64 (μ1.hi - μ1.lo))+1))),(27,I (w64 ((w64 (μ1.hi - μ1.lo))+1))),(26,I (w64 (μ1.hi - μ1.lo))),(25,I μ1.lo),(24,.ptr (I μ1.lo)),(23,.ptr (.agg [I μ1.lo,I μ1.hi])),(22,I ((μ2:Nat):Int)),(21,.sl μ3.nl (μ3.l.map Sn.D) (zsl μ3.nl 2) none),(20,I μ1.hi),(19,.ptr (I μ1.hi)),(18,.ptr (.agg [I μ1.lo,I μ1.hi])),(17,I ((μ2:Nat):Int)),(16,.sl μ3.nl (μ3.l.map Sn.D) (zsl μ3.nl 2) none),(13,B true),(12,I ((μ3.l.length:Nat):Int)),(11,.sl μ3.nl (μ3.l.map Sn.D) (zsl μ3.nl 2) none),(10,I ((μ2:Nat):Int)),(0,.sl μ3.nl (μ3.l.map Sn.D) (zsl μ3.nl 2) none),(1,I μ0),(5,.lsl ν1 0 μ4.length 2 none),(6,I ((μ2:Nat):Int))],[(ν1,⟨μ4.map Sn.D,2,false⟩),(ν0,⟨[.agg [I 0,I (w64 (μ0 - 1))]],2,false⟩)],ν2,ν1⟩

def sd45002 (ν0:Nat) (μ0:GS Sn) (μ1:Int):St:=⟨76,[(13,B false),(12,I ((μ0.l.length:Nat):Int)),(11,.sl μ0.nl (μ0.l.map Sn.D) (zsl μ0.nl 2) none),(10,I ((μ0.l.length:Nat):Int)),(0,.sl μ0.nl (μ0.l.map Sn.D) (zsl μ0.nl 2) none),(1,I μ1),(5,.sl true [] 0 none),(6,I ((μ0.l.length:Nat):Int))],[],ν0,ν0⟩

def sd45003 (ν0 ν1:Nat) (μ0:Int) (μ1:Sn) (μ2:Nat) (μ3:GS Sn):St:=⟨76,[(4,.lsl ν0 0 1 2 (some 1)),(34,.lsl ν0 0 1 2 (some 1)),(33,.agg [I 0,I (w64 (μ0 - 1))]),(32,I (w64 (μ0 - 1))),(31,I μ0),(30,B true),(29,I μ0),(28,I (w64 ((w64 (μ1.hi - μ1.lo))+1))),(7,I (w64 ((w64 (μ1.hi - μ1.lo))+1))),(27,I (w64 ((w64 (μ1.hi - μ1.lo))+1))),(26,I (w64 (μ1.hi - μ1.lo))),(25,I μ1.lo),(24,.ptr (I μ1.lo)),(23,.ptr (.agg [I μ1.lo,I μ1.hi])),(22,I ((μ2:Nat):Int)),(21,.sl μ3.nl (μ3.l.map Sn.D) (zsl μ3.nl 2) none),(20,I μ1.hi),(19,.ptr (I μ1.hi)),(18,.ptr (.agg [I μ1.lo,I μ1.hi])),(17,I ((μ2:Nat):Int)),(16,.sl μ3.nl (μ3.l.map Sn.D) (zsl μ3.nl 2) none),(13,B true),(12,I ((μ3.l.length:Nat):Int)),(11,.sl μ3.nl (μ3.l.map Sn.D) (zsl μ3.nl 2) none),(10,I ((μ2:Nat):Int)),(0,.sl μ3.nl (μ3.l.map Sn.D) (zsl μ3.nl 2) none),(1,I μ0),(5,.sl true [] 0 none),(6,I ((μ2:Nat):Int))],[(ν0,⟨[.agg [I 0,I (w64 (μ0 - 1))]],2,false⟩)],ν1,ν0⟩

noncomputable def lp84_3:Code:=subC [1,1,0,1,0,0] (bodyC Tryz.f84)

def sd45004 (ν0 ν1 ν2 ν3:Nat) (μ0:Nat) (μ1:List Sn) (μ2:Sn) (μ3:Int) (μ4:GS Sn):St:=⟨76,[(6,I ((μ0+1:Nat):Int)),(15,I ((μ0+1:Nat):Int)),(14,I ((μ0:Nat):Int)),(5,.lsl ν0 0 ((μ1++[(⟨w64 (μ2.lo - (w64 (μ3 * (zl μ2.lo μ3)))),w64 ((w64 ((w64 (μ2.lo - (w64 (μ3 * (zl μ2.lo μ3)))))+(w64 ((w64 (μ2.hi - μ2.lo))+1)))) - 1)⟩:Sn)]).length) 2 none),(62,.lsl ν0 0 ((μ1++[(⟨w64 (μ2.lo - (w64 (μ3 * (zl μ2.lo μ3)))),w64 ((w64 ((w64 (μ2.lo - (w64 (μ3 * (zl μ2.lo μ3)))))+(w64 ((w64 (μ2.hi - μ2.lo))+1)))) - 1)⟩:Sn)]).length) 2 none),(61,.lsl ν1 0 1 2 (some 1)),(60,.agg [I (w64 (μ2.lo - (w64 (μ3 * (zl μ2.lo μ3))))),I (w64 ((w64 ((w64 (μ2.lo - (w64 (μ3 * (zl μ2.lo μ3)))))+(w64 ((w64 (μ2.hi - μ2.lo))+1)))) - 1))]),(59,I (w64 ((w64 ((w64 (μ2.lo - (w64 (μ3 * (zl μ2.lo μ3)))))+(w64 ((w64 (μ2.hi - μ2.lo))+1)))) - 1))),(58,I (w64 (μ2.lo - (w64 (μ3 * (zl μ2.lo μ3)))))),(57,.lsl ν2 0 μ1.length 2 none),(56,B true),(55,I μ3),(54,I (w64 ((w64 ((w64 (μ2.lo - (w64 (μ3 * (zl μ2.lo μ3)))))+(w64 ((w64 (μ2.hi - μ2.lo))+1)))) - 1))),(9,I (w64 ((w64 ((w64 (μ2.lo - (w64 (μ3 * (zl μ2.lo μ3)))))+(w64 ((w64 (μ2.hi - μ2.lo))+1)))) - 1))),(53,I (w64 ((w64 ((w64 (μ2.lo - (w64 (μ3 * (zl μ2.lo μ3)))))+(w64 ((w64 (μ2.hi - μ2.lo))+1)))) - 1))),(52,I (w64 ((w64 (μ2.lo - (w64 (μ3 * (zl μ2.lo μ3)))))+(w64 ((w64 (μ2.hi - μ2.lo))+1))))),(51,I (w64 ((w64 (μ2.hi - μ2.lo))+1))),(50,I (w64 (μ2.lo - (w64 (μ3 * (zl μ2.lo μ3)))))),(8,I (w64 (μ2.lo - (w64 (μ3 * (zl μ2.lo μ3)))))),(49,I (w64 (μ2.lo - (w64 (μ3 * (zl μ2.lo μ3)))))),(48,I (w64 (μ3 * (zl μ2.lo μ3)))),(47,I (zl μ2.lo μ3)),(46,I μ3),(45,I μ2.lo),(44,.ptr (I μ2.lo)),(43,.ptr (.agg [I μ2.lo,I μ2.hi])),(42,I ((μ0:Nat):Int)),(41,.sl μ4.nl (μ4.l.map Sn.D) (zsl μ4.nl 2) none),(40,I μ3),(39,I μ2.lo),(38,.ptr (I μ2.lo)),(37,.ptr (.agg [I μ2.lo,I μ2.hi])),(36,I ((μ0:Nat):Int)),(35,.sl μ4.nl (μ4.l.map Sn.D) (zsl μ4.nl 2) none),(30,B false),(29,I μ3),(28,I (w64 ((w64 (μ2.hi - μ2.lo))+1))),(7,I (w64 ((w64 (μ2.hi - μ2.lo))+1))),(27,I (w64 ((w64 (μ2.hi - μ2.lo))+1))),(26,I (w64 (μ2.hi - μ2.lo))),(25,I μ2.lo),(24,.ptr (I μ2.lo)),(23,.ptr (.agg [I μ2.lo,I μ2.hi])),(22,I ((μ0:Nat):Int)),(21,.sl μ4.nl (μ4.l.map Sn.D) (zsl μ4.nl 2) none),(20,I μ2.hi),(19,.ptr (I μ2.hi)),(18,.ptr (.agg [I μ2.lo,I μ2.hi])),(17,I ((μ0:Nat):Int)),(16,.sl μ4.nl (μ4.l.map Sn.D) (zsl μ4.nl 2) none),(13,B true),(12,I ((μ4.l.length:Nat):Int)),(11,.sl μ4.nl (μ4.l.map Sn.D) (zsl μ4.nl 2) none),(10,I ((μ0:Nat):Int)),(0,.sl μ4.nl (μ4.l.map Sn.D) (zsl μ4.nl 2) none),(1,I μ3),(5,.lsl ν2 0 μ1.length 2 none),(6,I ((μ0:Nat):Int))],[(ν1,⟨[.agg [I (w64 (μ2.lo - (w64 (μ3 * (zl μ2.lo μ3))))),I (w64 ((w64 ((w64 (μ2.lo - (w64 (μ3 * (zl μ2.lo μ3)))))+(w64 ((w64 (μ2.hi - μ2.lo))+1)))) - 1))]],2,false⟩),(ν0,⟨(μ1++[(⟨w64 (μ2.lo - (w64 (μ3 * (zl μ2.lo μ3)))),w64 ((w64 ((w64 (μ2.lo - (w64 (μ3 * (zl μ2.lo μ3)))))+(w64 ((w64 (μ2.hi - μ2.lo))+1)))) - 1)⟩:Sn)]).map Sn.D,2,false⟩)],ν3,ν2⟩

def sd45005 (ν0 ν1 ν2 ν3:Nat) (μ0:Nat) (μ1:List Sn) (μ2:Sn) (μ3:Int) (μ4:GS Sn):St:=⟨76,[(6,I ((μ0+1:Nat):Int)),(15,I ((μ0+1:Nat):Int)),(14,I ((μ0:Nat):Int)),(5,.lsl ν0 0 ((μ1++[(⟨w64 (μ2.lo - (w64 (μ3 * (zl μ2.lo μ3)))),w64 (μ3 - 1)⟩:Sn),(⟨0,w64 ((w64 ((w64 ((w64 (μ2.lo - (w64 (μ3 * (zl μ2.lo μ3)))))+(w64 ((w64 (μ2.hi - μ2.lo))+1)))) - 1)) - μ3)⟩:Sn)]).length) 2 none),(73,.lsl ν0 0 ((μ1++[(⟨w64 (μ2.lo - (w64 (μ3 * (zl μ2.lo μ3)))),w64 (μ3 - 1)⟩:Sn),(⟨0,w64 ((w64 ((w64 ((w64 (μ2.lo - (w64 (μ3 * (zl μ2.lo μ3)))))+(w64 ((w64 (μ2.hi - μ2.lo))+1)))) - 1)) - μ3)⟩:Sn)]).length) 2 none),(72,.lsl ν1 0 2 2 (some 2)),(71,.agg [I 0,I (w64 ((w64 ((w64 ((w64 (μ2.lo - (w64 (μ3 * (zl μ2.lo μ3)))))+(w64 ((w64 (μ2.hi - μ2.lo))+1)))) - 1)) - μ3))]),(70,I (w64 ((w64 ((w64 ((w64 (μ2.lo - (w64 (μ3 * (zl μ2.lo μ3)))))+(w64 ((w64 (μ2.hi - μ2.lo))+1)))) - 1)) - μ3))),(69,I μ3),(68,I (w64 ((w64 ((w64 (μ2.lo - (w64 (μ3 * (zl μ2.lo μ3)))))+(w64 ((w64 (μ2.hi - μ2.lo))+1)))) - 1))),(67,.agg [I (w64 (μ2.lo - (w64 (μ3 * (zl μ2.lo μ3))))),I (w64 (μ3 - 1))]),(66,I (w64 (μ3 - 1))),(65,I μ3),(64,I (w64 (μ2.lo - (w64 (μ3 * (zl μ2.lo μ3)))))),(63,.lsl ν2 0 μ1.length 2 none),(56,B false),(55,I μ3),(54,I (w64 ((w64 ((w64 (μ2.lo - (w64 (μ3 * (zl μ2.lo μ3)))))+(w64 ((w64 (μ2.hi - μ2.lo))+1)))) - 1))),(9,I (w64 ((w64 ((w64 (μ2.lo - (w64 (μ3 * (zl μ2.lo μ3)))))+(w64 ((w64 (μ2.hi - μ2.lo))+1)))) - 1))),(53,I (w64 ((w64 ((w64 (μ2.lo - (w64 (μ3 * (zl μ2.lo μ3)))))+(w64 ((w64 (μ2.hi - μ2.lo))+1)))) - 1))),(52,I (w64 ((w64 (μ2.lo - (w64 (μ3 * (zl μ2.lo μ3)))))+(w64 ((w64 (μ2.hi - μ2.lo))+1))))),(51,I (w64 ((w64 (μ2.hi - μ2.lo))+1))),(50,I (w64 (μ2.lo - (w64 (μ3 * (zl μ2.lo μ3)))))),(8,I (w64 (μ2.lo - (w64 (μ3 * (zl μ2.lo μ3)))))),(49,I (w64 (μ2.lo - (w64 (μ3 * (zl μ2.lo μ3)))))),(48,I (w64 (μ3 * (zl μ2.lo μ3)))),(47,I (zl μ2.lo μ3)),(46,I μ3),(45,I μ2.lo),(44,.ptr (I μ2.lo)),(43,.ptr (.agg [I μ2.lo,I μ2.hi])),(42,I ((μ0:Nat):Int)),(41,.sl μ4.nl (μ4.l.map Sn.D) (zsl μ4.nl 2) none),(40,I μ3),(39,I μ2.lo),(38,.ptr (I μ2.lo)),(37,.ptr (.agg [I μ2.lo,I μ2.hi])),(36,I ((μ0:Nat):Int)),(35,.sl μ4.nl (μ4.l.map Sn.D) (zsl μ4.nl 2) none),(30,B false),(29,I μ3),(28,I (w64 ((w64 (μ2.hi - μ2.lo))+1))),(7,I (w64 ((w64 (μ2.hi - μ2.lo))+1))),(27,I (w64 ((w64 (μ2.hi - μ2.lo))+1))),(26,I (w64 (μ2.hi - μ2.lo))),(25,I μ2.lo),(24,.ptr (I μ2.lo)),(23,.ptr (.agg [I μ2.lo,I μ2.hi])),(22,I ((μ0:Nat):Int)),(21,.sl μ4.nl (μ4.l.map Sn.D) (zsl μ4.nl 2) none),(20,I μ2.hi),(19,.ptr (I μ2.hi)),(18,.ptr (.agg [I μ2.lo,I μ2.hi])),(17,I ((μ0:Nat):Int)),(16,.sl μ4.nl (μ4.l.map Sn.D) (zsl μ4.nl 2) none),(13,B true),(12,I ((μ4.l.length:Nat):Int)),(11,.sl μ4.nl (μ4.l.map Sn.D) (zsl μ4.nl 2) none),(10,I ((μ0:Nat):Int)),(0,.sl μ4.nl (μ4.l.map Sn.D) (zsl μ4.nl 2) none),(1,I μ3),(5,.lsl ν2 0 μ1.length 2 none),(6,I ((μ0:Nat):Int))],[(ν1,⟨[.agg [I (w64 (μ2.lo - (w64 (μ3 * (zl μ2.lo μ3))))),I (w64 (μ3 - 1))],.agg [I 0,I (w64 ((w64 ((w64 ((w64 (μ2.lo - (w64 (μ3 * (zl μ2.lo μ3)))))+(w64 ((w64 (μ2.hi - μ2.lo))+1)))) - 1)) - μ3))]],2,false⟩),(ν0,⟨(μ1++[(⟨w64 (μ2.lo - (w64 (μ3 * (zl μ2.lo μ3)))),w64 (μ3 - 1)⟩:Sn),(⟨0,w64 ((w64 ((w64 ((w64 (μ2.lo - (w64 (μ3 * (zl μ2.lo μ3)))))+(w64 ((w64 (μ2.hi - μ2.lo))+1)))) - 1)) - μ3)⟩:Sn)]).map Sn.D,2,false⟩)],ν3,ν2⟩

inductive LR_r_Rests_3 where
 | x0 (yH:List Sn)
 | x1 (i3:Nat) (x3:Sn) (yH:List Sn)
 | x2
 | x3 (i3:Nat) (x3:Sn)
instance:Inhabited LR_r_Rests_3:=⟨.x0 default⟩
def r_Rests_3a (n:Int):List Sn→Nat→(List Sn)→LR_r_Rests_3
 | [],i3,yH=>.x0 yH
 | x3::xk,i3,yH =>
  bif decide ((w64 ((w64 (x3.hi - x3.lo))+1)) ≥ n) then
   .x1 i3 x3 yH
  else
   bif decide ((w64 ((w64 ((w64 (x3.lo - (w64 (n * (zl x3.lo n)))))+(w64 ((w64 (x3.hi - x3.lo))+1)))) - 1)) < n) then
    r_Rests_3a n xk (i3+1) (yH++[(⟨w64 (x3.lo - (w64 (n * (zl x3.lo n)))),w64 ((w64 ((w64 (x3.lo - (w64 (n * (zl x3.lo n)))))+(w64 ((w64 (x3.hi - x3.lo))+1)))) - 1)⟩:Sn)])
   else
    r_Rests_3a n xk (i3+1) (yH++[(⟨w64 (x3.lo - (w64 (n * (zl x3.lo n)))),w64 (n - 1)⟩:Sn),(⟨0,w64 ((w64 ((w64 ((w64 (x3.lo - (w64 (n * (zl x3.lo n)))))+(w64 ((w64 (x3.hi - x3.lo))+1)))) - 1)) - n)⟩:Sn)])
def r_Rests_3 (n:Int):List Sn→Nat→LR_r_Rests_3
 | [],i3=>.x2
 | x3::xk,i3 =>
  bif decide ((w64 ((w64 (x3.hi - x3.lo))+1)) ≥ n) then
   .x3 i3 x3
  else
   bif decide ((w64 ((w64 ((w64 (x3.lo - (w64 (n * (zl x3.lo n)))))+(w64 ((w64 (x3.hi - x3.lo))+1)))) - 1)) < n) then
    r_Rests_3a n xk (i3+1) [(⟨w64 (x3.lo - (w64 (n * (zl x3.lo n)))),w64 ((w64 ((w64 (x3.lo - (w64 (n * (zl x3.lo n)))))+(w64 ((w64 (x3.hi - x3.lo))+1)))) - 1)⟩:Sn)]
   else
    r_Rests_3a n xk (i3+1) [(⟨w64 (x3.lo - (w64 (n * (zl x3.lo n)))),w64 (n - 1)⟩:Sn),(⟨0,w64 ((w64 ((w64 ((w64 (x3.lo - (w64 (n * (zl x3.lo n)))))+(w64 ((w64 (x3.hi - x3.lo))+1)))) - 1)) - n)⟩:Sn)]
def lr_r_Rests_3 (r:GS Sn) (n:Int):LR_r_Rests_3→Exit × St
 | .x0 yH=>((.exit 0),(sd45000 0 1 r n yH))
 | .x1 i3 x3 yH=>(.ret,(sd45001 1 0 2 n x3 i3 r yH))
 | .x2=>((.exit 0),(sd45002 0 r n))
 | .x3 i3 x3=>(.ret,(sd45003 0 1 n x3 i3 r))
def iv_r_Rests_3 (r:GS Sn) (n:Int):LR_r_Rests_3→Prop
 | .x0 yH=>(yH.length≤2 * r.l.length)
 | .x1 i3 x3 yH=>(yH.length≤2 * i3)
 | .x2=>True
 | .x3 i3 x3=>True
def r_Rests_3a_l_o1 (r:GS Sn) (n:Int) (x3:Sn):List Ora:=[.rw 12 (I ((r.l.length:Nat):Int)),.dec true,.el (.agg [I x3.lo,I x3.hi]),.el (.agg [I x3.lo,I x3.hi]),.dec false,.el (.agg [I x3.lo,I x3.hi]),.el (.agg [I x3.lo,I x3.hi]),.pure (I (zl x3.lo n))]
theorem lp_r_Rests_3a (r:GS Sn) (n:Int):∀ (xk:List Sn) (i3:Nat) (yH:List Sn) (hd3:r.l.drop i3=xk) (hi3:i3≤r.l.length) (xC:r.l.length≤64) (hn:1≤n∧n≤10000) (hg3_va3_0:yH.length≤2 * i3) (hL3:r.l.length≤1099511627776),(lim cfg).loop 84 lp84_3 ⟨76,[(0,.sl r.nl (r.l.map Sn.D) (zsl r.nl 2) none),(1,I n),(5,.lsl 0 0 yH.length 2 none),(6,I ((i3:Nat):Int))],[(0,⟨yH.map Sn.D,2,false⟩)],1,0⟩=some (lr_r_Rests_3 r n (r_Rests_3a n xk i3 yH)):=by
 intro xk
 induction xk with
 | nil =>
  intro i3 yH hd3 hi3 xC hn hg3_va3_0 hL3
  unfold r_Rests_3a
  obtain rfl:i3=r.l.length:=nil_eq hd3 hi3
  exact zF [.rw 12 (I ((r.l.length:Nat):Int)),.dec false] (Ai (lt_no hd3) (Ai (zj Sn.D r) trivial)) (by kernel_rfl)
 | cons x3 xk ih =>
  intro i3 yH hd3 hi3 xC hn hg3_va3_0 hL3
  have hlt3:=zc hd3
  unfold r_Rests_3a
  have p1:=(el_at (s:=r) (f:=Sn.D) (k:=2) hd3)
  have p2:=(el_at (s:=r) (f:=Sn.D) (k:=2) hd3)
  cases h5:decide ((w64 ((w64 (x3.hi - x3.lo))+1)) ≥ n) with
  | true =>
   have g5:=of_decide_eq_true h5
   exact zF [.rw 12 (I ((r.l.length:Nat):Int)),.dec true,.el (.agg [I x3.lo,I x3.hi]),.el (.agg [I x3.lo,I x3.hi]),.dec true] (Ai h5 (Ai p2 (Ai p1 (Ai (yk hd3) (Ai (zj Sn.D r) trivial))))) (by kernel_rfl)
  | false =>
   have g5:=of_decide_eq_false h5
   have p3:=(el_at (s:=r) (f:=Sn.D) (k:=2) hd3)
   have p4:=(el_at (s:=r) (f:=Sn.D) (k:=2) hd3)
   cases h6:decide ((w64 ((w64 ((w64 (x3.lo - (w64 (n * (zl x3.lo n)))))+(w64 ((w64 (x3.hi - x3.lo))+1)))) - 1)) < n) with
   | true =>
    have g6:=of_decide_eq_true h6
    exact zv (ks:=[0,1,5,6]) (st':=(sd45004 2 1 0 3 i3 yH x3 n r)) ((r_Rests_3a_l_o1 r n x3)++[.dec true,.op (some 62) ⟨.lsl 2 0 ((yH++[(⟨w64 (x3.lo - (w64 (n * (zl x3.lo n)))),w64 ((w64 ((w64 (x3.lo - (w64 (n * (zl x3.lo n)))))+(w64 ((w64 (x3.hi - x3.lo))+1)))) - 1)⟩:Sn)]).length) 2 none,[(0,none),(2,some ⟨(yH++[(⟨w64 (x3.lo - (w64 (n * (zl x3.lo n)))),w64 ((w64 ((w64 (x3.lo - (w64 (n * (zl x3.lo n)))))+(w64 ((w64 (x3.hi - x3.lo))+1)))) - 1)⟩:Sn)]).map Sn.D,2,false⟩)],[0,1],3⟩,.rw 15 (I ((i3+1:Nat):Int))]) (Ai (zX (i:=i3) (by have:=zc hd3; omega)) (Ai (app_row (f:=Sn.D) (te:=zM) (gO:=zp [(0,⟨yH.map Sn.D,2,false⟩),(1,⟨[.agg [I (w64 (x3.lo - (w64 (n * (zl x3.lo n))))),I (w64 ((w64 ((w64 (x3.lo - (w64 (n * (zl x3.lo n)))))+(w64 ((w64 (x3.hi - x3.lo))+1)))) - 1))]],2,false⟩)]) (nxt:=2) (o:=0) (o2:=1) (fz:=false) z6 yH (⟨w64 (x3.lo - (w64 (n * (zl x3.lo n)))),w64 ((w64 ((w64 (x3.lo - (w64 (n * (zl x3.lo n)))))+(w64 ((w64 (x3.hi - x3.lo))+1)))) - 1)⟩:Sn) (by kernel_rfl) (by kernel_rfl) rfl (by kernel_rfl) (by decide) ⟨by simp only [zM,big] <;> (omega),by simp only [big] <;> (omega)⟩) (Ai h6 (Ai (T_r_Down x3.lo n (by omega)) (Ai p4 (Ai p3 (Ai h5 (Ai p2 (Ai p1 (Ai (yk hd3) (Ai (zj Sn.D r) trivial))))))))))) (by kernel_rfl) (by (simp only [sd45004,go_sem,List.length_set,Nat.reduceAdd,Nat.reduceEqDiff,Nat.reduceLT,Nat.reduceLeDiff,bI2,z8.idsL,z8.renL,z8.snapAll,z6.idsL,z6.renL,z6.snapAll]) <;> rfl) (ih (i3+1) (yH++[(⟨w64 (x3.lo - (w64 (n * (zl x3.lo n)))),w64 ((w64 ((w64 (x3.lo - (w64 (n * (zl x3.lo n)))))+(w64 ((w64 (x3.hi - x3.lo))+1)))) - 1)⟩:Sn)]) (ze hd3) (zc hd3) (by omega) (by omega) (by simp only [List.length_append,List.length_cons,List.length_nil] at * <;> omega) (by omega)) (by kernel_rfl)
   | false =>
    have g6:=of_decide_eq_false h6
    exact zv (ks:=[0,1,5,6]) (st':=(sd45005 2 1 0 3 i3 yH x3 n r)) ((r_Rests_3a_l_o1 r n x3)++[.dec false,.op (some 73) ⟨.lsl 2 0 ((yH++[(⟨w64 (x3.lo - (w64 (n * (zl x3.lo n)))),w64 (n - 1)⟩:Sn),(⟨0,w64 ((w64 ((w64 ((w64 (x3.lo - (w64 (n * (zl x3.lo n)))))+(w64 ((w64 (x3.hi - x3.lo))+1)))) - 1)) - n)⟩:Sn)]).length) 2 none,[(0,none),(2,some ⟨(yH++[(⟨w64 (x3.lo - (w64 (n * (zl x3.lo n)))),w64 (n - 1)⟩:Sn),(⟨0,w64 ((w64 ((w64 ((w64 (x3.lo - (w64 (n * (zl x3.lo n)))))+(w64 ((w64 (x3.hi - x3.lo))+1)))) - 1)) - n)⟩:Sn)]).map Sn.D,2,false⟩)],[0,1],3⟩,.rw 15 (I ((i3+1:Nat):Int))]) (Ai (zX (i:=i3) (by have:=zc hd3; omega)) (Ai (app_row2 (f:=Sn.D) (te:=zM) (gO:=zp [(0,⟨yH.map Sn.D,2,false⟩),(1,⟨[.agg [I (w64 (x3.lo - (w64 (n * (zl x3.lo n))))),I (w64 (n - 1))],.agg [I 0,I (w64 ((w64 ((w64 ((w64 (x3.lo - (w64 (n * (zl x3.lo n)))))+(w64 ((w64 (x3.hi - x3.lo))+1)))) - 1)) - n))]],2,false⟩)]) (nxt:=2) (o:=0) (o2:=1) (fz:=false) z6 yH (⟨w64 (x3.lo - (w64 (n * (zl x3.lo n)))),w64 (n - 1)⟩:Sn) (⟨0,w64 ((w64 ((w64 ((w64 (x3.lo - (w64 (n * (zl x3.lo n)))))+(w64 ((w64 (x3.hi - x3.lo))+1)))) - 1)) - n)⟩:Sn) (by kernel_rfl) (by kernel_rfl) rfl (by kernel_rfl) (by decide) ⟨by simp only [zM,big] <;> (omega),by simp only [big] <;> (omega)⟩) (Ai h6 (Ai (T_r_Down x3.lo n (by omega)) (Ai p4 (Ai p3 (Ai h5 (Ai p2 (Ai p1 (Ai (yk hd3) (Ai (zj Sn.D r) trivial))))))))))) (by kernel_rfl) (by (simp only [sd45005,go_sem,List.length_set,Nat.reduceAdd,Nat.reduceEqDiff,Nat.reduceLT,Nat.reduceLeDiff,bI2,z8.idsL,z8.renL,z8.snapAll,z6.idsL,z6.renL,z6.snapAll]) <;> rfl) (ih (i3+1) (yH++[(⟨w64 (x3.lo - (w64 (n * (zl x3.lo n)))),w64 (n - 1)⟩:Sn),(⟨0,w64 ((w64 ((w64 ((w64 (x3.lo - (w64 (n * (zl x3.lo n)))))+(w64 ((w64 (x3.hi - x3.lo))+1)))) - 1)) - n)⟩:Sn)]) (ze hd3) (zc hd3) (by omega) (by omega) (by simp only [List.length_append,List.length_cons,List.length_nil] at * <;> omega) (by omega)) (by kernel_rfl)
theorem ivt_r_Rests_3a (r:GS Sn) (n:Int):∀ (xk:List Sn) (i3:Nat) (yH:List Sn) (hd3:r.l.drop i3=xk) (hi3:i3≤r.l.length) (xC:r.l.length≤64) (hn:1≤n∧n≤10000) (hg3_va3_0:yH.length≤2 * i3) (hL3:r.l.length≤1099511627776),iv_r_Rests_3 r n (r_Rests_3a n xk i3 yH):=by
 intro xk
 induction xk with
 | nil =>
  intro i3 yH hd3 hi3 xC hn hg3_va3_0 hL3
  unfold r_Rests_3a
  obtain rfl:i3=r.l.length:=nil_eq hd3 hi3
  exact hg3_va3_0
 | cons x3 xk ih =>
  intro i3 yH hd3 hi3 xC hn hg3_va3_0 hL3
  have hlt3:=zc hd3
  unfold r_Rests_3a
  cases h5:decide ((w64 ((w64 (x3.hi - x3.lo))+1)) ≥ n) with
  | true =>
   have g5:=of_decide_eq_true h5
   exact hg3_va3_0
  | false =>
   have g5:=of_decide_eq_false h5
   cases h6:decide ((w64 ((w64 ((w64 (x3.lo - (w64 (n * (zl x3.lo n)))))+(w64 ((w64 (x3.hi - x3.lo))+1)))) - 1)) < n) with
   | true =>
    have g6:=of_decide_eq_true h6
    exact ih (i3+1) (yH++[(⟨w64 (x3.lo - (w64 (n * (zl x3.lo n)))),w64 ((w64 ((w64 (x3.lo - (w64 (n * (zl x3.lo n)))))+(w64 ((w64 (x3.hi - x3.lo))+1)))) - 1)⟩:Sn)]) (ze hd3) (zc hd3) (by omega) (by omega) (by simp only [List.length_append,List.length_cons,List.length_nil] at * <;> omega) (by omega)
   | false =>
    have g6:=of_decide_eq_false h6
    exact ih (i3+1) (yH++[(⟨w64 (x3.lo - (w64 (n * (zl x3.lo n)))),w64 (n - 1)⟩:Sn),(⟨0,w64 ((w64 ((w64 ((w64 (x3.lo - (w64 (n * (zl x3.lo n)))))+(w64 ((w64 (x3.hi - x3.lo))+1)))) - 1)) - n)⟩:Sn)]) (ze hd3) (zc hd3) (by omega) (by omega) (by simp only [List.length_append,List.length_cons,List.length_nil] at * <;> omega) (by omega)
def r_Rests_3_l_o1 (r:GS Sn) (n:Int) (x3:Sn):List Ora:=[.rw 12 (I ((r.l.length:Nat):Int)),.dec true,.el (.agg [I x3.lo,I x3.hi]),.el (.agg [I x3.lo,I x3.hi]),.dec false,.el (.agg [I x3.lo,I x3.hi]),.el (.agg [I x3.lo,I x3.hi]),.pure (I (zl x3.lo n))]
theorem lp_r_Rests_3 (r:GS Sn) (n:Int):∀ (xk:List Sn) (i3:Nat) (hd3:r.l.drop i3=xk) (hi3:i3≤r.l.length) (xC:r.l.length≤64) (hn:1≤n∧n≤10000) (hL3:r.l.length≤1099511627776),(lim cfg).loop 84 lp84_3 ⟨76,[(0,.sl r.nl (r.l.map Sn.D) (zsl r.nl 2) none),(1,I n),(5,.sl true [] 0 none),(6,I ((i3:Nat):Int))],[],0,0⟩=some (lr_r_Rests_3 r n (r_Rests_3 n xk i3)):=by
 intro xk
 induction xk with
 | nil =>
  intro i3 hd3 hi3 xC hn hL3
  unfold r_Rests_3
  obtain rfl:i3=r.l.length:=nil_eq hd3 hi3
  exact zF [.rw 12 (I ((r.l.length:Nat):Int)),.dec false] (Ai (lt_no hd3) (Ai (zj Sn.D r) trivial)) (by kernel_rfl)
 | cons x3 xk ih =>
  intro i3 hd3 hi3 xC hn hL3
  have hlt3:=zc hd3
  unfold r_Rests_3
  dsimp only
  have p1:=(el_at (s:=r) (f:=Sn.D) (k:=2) hd3)
  have p2:=(el_at (s:=r) (f:=Sn.D) (k:=2) hd3)
  cases h7:decide ((w64 ((w64 (x3.hi - x3.lo))+1)) ≥ n) with
  | true =>
   have g7:=of_decide_eq_true h7
   exact zF [.rw 12 (I ((r.l.length:Nat):Int)),.dec true,.el (.agg [I x3.lo,I x3.hi]),.el (.agg [I x3.lo,I x3.hi]),.dec true] (Ai h7 (Ai p2 (Ai p1 (Ai (yk hd3) (Ai (zj Sn.D r) trivial))))) (by kernel_rfl)
  | false =>
   have g7:=of_decide_eq_false h7
   have p3:=(el_at (s:=r) (f:=Sn.D) (k:=2) hd3)
   have p4:=(el_at (s:=r) (f:=Sn.D) (k:=2) hd3)
   cases h8:decide ((w64 ((w64 ((w64 (x3.lo - (w64 (n * (zl x3.lo n)))))+(w64 ((w64 (x3.hi - x3.lo))+1)))) - 1)) < n) with
   | true =>
    have g8:=of_decide_eq_true h8
    exact po_turn ((r_Rests_3_l_o1 r n x3)++[.dec true,.rw 15 (I ((i3+1:Nat):Int))]) (Ai (zX (i:=i3) (by have:=zc hd3; omega)) (Ai h8 (Ai (T_r_Down x3.lo n (by omega)) (Ai p4 (Ai p3 (Ai h7 (Ai p2 (Ai p1 (Ai (yk hd3) (Ai (zj Sn.D r) trivial)))))))))) (lp_r_Rests_3a r n _ (i3+1) [(⟨w64 (x3.lo - (w64 (n * (zl x3.lo n)))),w64 ((w64 ((w64 (x3.lo - (w64 (n * (zl x3.lo n)))))+(w64 ((w64 (x3.hi - x3.lo))+1)))) - 1)⟩:Sn)] (ze hd3) (zc hd3) (by omega) (by omega) (by simp only [List.length_append,List.length_cons,List.length_nil] at * <;> omega) (by omega)) (by kernel_rfl)
   | false =>
    have g8:=of_decide_eq_false h8
    exact po_turn ((r_Rests_3_l_o1 r n x3)++[.dec false,.rw 15 (I ((i3+1:Nat):Int))]) (Ai (zX (i:=i3) (by have:=zc hd3; omega)) (Ai h8 (Ai (T_r_Down x3.lo n (by omega)) (Ai p4 (Ai p3 (Ai h7 (Ai p2 (Ai p1 (Ai (yk hd3) (Ai (zj Sn.D r) trivial)))))))))) (lp_r_Rests_3a r n _ (i3+1) [(⟨w64 (x3.lo - (w64 (n * (zl x3.lo n)))),w64 (n - 1)⟩:Sn),(⟨0,w64 ((w64 ((w64 ((w64 (x3.lo - (w64 (n * (zl x3.lo n)))))+(w64 ((w64 (x3.hi - x3.lo))+1)))) - 1)) - n)⟩:Sn)] (ze hd3) (zc hd3) (by omega) (by omega) (by simp only [List.length_append,List.length_cons,List.length_nil] at * <;> omega) (by omega)) (by kernel_rfl)
theorem ivt_r_Rests_3 (r:GS Sn) (n:Int):∀ (xk:List Sn) (i3:Nat) (hd3:r.l.drop i3=xk) (hi3:i3≤r.l.length) (xC:r.l.length≤64) (hn:1≤n∧n≤10000) (hL3:r.l.length≤1099511627776),iv_r_Rests_3 r n (r_Rests_3 n xk i3):=by
 intro xk
 induction xk with
 | nil =>
  intro i3 hd3 hi3 xC hn hL3
  unfold r_Rests_3
  obtain rfl:i3=r.l.length:=nil_eq hd3 hi3
  exact trivial
 | cons x3 xk ih =>
  intro i3 hd3 hi3 xC hn hL3
  have hlt3:=zc hd3
  unfold r_Rests_3
  dsimp only
  cases h7:decide ((w64 ((w64 (x3.hi - x3.lo))+1)) ≥ n) with
  | true =>
   have g7:=of_decide_eq_true h7
   exact trivial
  | false =>
   have g7:=of_decide_eq_false h7
   cases h8:decide ((w64 ((w64 ((w64 (x3.lo - (w64 (n * (zl x3.lo n)))))+(w64 ((w64 (x3.hi - x3.lo))+1)))) - 1)) < n) with
   | true =>
    have g8:=of_decide_eq_true h8
    exact ivt_r_Rests_3a r n _ (i3+1) [(⟨w64 (x3.lo - (w64 (n * (zl x3.lo n)))),w64 ((w64 ((w64 (x3.lo - (w64 (n * (zl x3.lo n)))))+(w64 ((w64 (x3.hi - x3.lo))+1)))) - 1)⟩:Sn)] (ze hd3) (zc hd3) (by omega) (by omega) (by simp only [List.length_append,List.length_cons,List.length_nil] at * <;> omega) (by omega)
   | false =>
    have g8:=of_decide_eq_false h8
    exact ivt_r_Rests_3a r n _ (i3+1) [(⟨w64 (x3.lo - (w64 (n * (zl x3.lo n)))),w64 (n - 1)⟩:Sn),(⟨0,w64 ((w64 ((w64 ((w64 (x3.lo - (w64 (n * (zl x3.lo n)))))+(w64 ((w64 (x3.hi - x3.lo))+1)))) - 1)) - n)⟩:Sn)] (ze hd3) (zc hd3) (by omega) (by omega) (by simp only [List.length_append,List.length_cons,List.length_nil] at * <;> omega) (by omega)

def zf (r:GS Sn) (n:Int):(GS Sn) :=
 match r_Rests_3 n r.l 0 with
 | .x0 yH =>
  bif (JJ (GS.some yH)).nl then
   (JJ (GS.some yH))
  else
   (JJ (GS.some yH))
 | .x1 i3 x3 yH =>
  GS.some [(⟨0,w64 (n - 1)⟩:Sn)]
 | .x2 =>
  (JJ GS.nil)
 | .x3 i3 x3 =>
  GS.some [(⟨0,w64 (n - 1)⟩:Sn)]

theorem T_r_Rests (r:GS Sn) (n:Int) (hL:r.l.length≤64) (hn:1≤n∧n≤10000):(lim cfg).pure 84 [GS.D Sn.D 2 r,I n]=some (GS.D Sn.D 2 (zf r n)):=by
 unfold zf
 cases h9:r_Rests_3 n r.l 0 with
 | x0 yH =>
  try dsimp only
  have hv_h9:=ivt_r_Rests_3 r n r.l 0 (List.drop_zero) (Nat.zero_le _) (by omega) (by omega) (by omega)
  rw [h9] at hv_h9
  have hv_h9_0:=hv_h9
  try dsimp only [iv_r_Rests_3] at hv_h9_0
  have p1:=(zZ (q:=lr_r_Rests_3 r n) (lp_r_Rests_3 r n r.l 0 (List.drop_zero) (Nat.zero_le _) (by omega) (by omega) (by omega)) h9)
  cases h10:(JJ (GS.some yH)).nl with
  | true =>
   exact zk [.loop (.exit 0) (sd45000 0 1 r n yH),.pureS (.sl ((JJ (GS.some yH)).nl) (((JJ (GS.some yH)).l).map Sn.D) (zsl ((JJ (GS.some yH)).nl) 2) none) true [(0,.sl false (yH.map Sn.D) 2 none,[0])]] (Ai (Ai (show flat yi (.sl ((JJ (GS.some yH)).nl) (((JJ (GS.some yH)).l).map Sn.D) (zsl ((JJ (GS.some yH)).nl) 2) none)=true from (by rw [h10] <;> kernel_rfl)) (Ai (Ai (snap_row (gO:=zp [(0,⟨yH.map Sn.D,2,false⟩)]) (o:=0) (len:=yH.length) (cap:=none) (fz:=false) z6 yH (by kernel_rfl) (by omega)) trivial) (T_JJ (GS.some yH) (by simp only [zY,zV,GS.some_l,List.length_set,List.length_append,List.length_cons,List.length_nil] at * <;> first | with_reducible assumption | omega)))) (Ai p1 trivial)) (by kernel_rfl)
  | false =>
   exact zk [.loop (.exit 0) (sd45000 0 1 r n yH),.pureS (.sl ((JJ (GS.some yH)).nl) (((JJ (GS.some yH)).l).map Sn.D) (zsl ((JJ (GS.some yH)).nl) 2) none) false [(0,.sl false (yH.map Sn.D) 2 none,[0])]] (Ai (Ai (show flat yi (.sl ((JJ (GS.some yH)).nl) (((JJ (GS.some yH)).l).map Sn.D) (zsl ((JJ (GS.some yH)).nl) 2) none)=false from (by rw [h10] <;> kernel_rfl)) (Ai (Ai (snap_row (gO:=zp [(0,⟨yH.map Sn.D,2,false⟩)]) (o:=0) (len:=yH.length) (cap:=none) (fz:=false) z6 yH (by kernel_rfl) (by omega)) trivial) (T_JJ (GS.some yH) (by simp only [zY,zV,GS.some_l,List.length_set,List.length_append,List.length_cons,List.length_nil] at * <;> first | with_reducible assumption | omega)))) (Ai p1 trivial)) (by kernel_rfl)
 | x1 i3 x3 yH =>
  try dsimp only
  have hv_h9:=ivt_r_Rests_3 r n r.l 0 (List.drop_zero) (Nat.zero_le _) (by omega) (by omega) (by omega)
  rw [h9] at hv_h9
  have hv_h9_0:=hv_h9
  try dsimp only [iv_r_Rests_3] at hv_h9_0
  exact zk [.loop .ret (sd45001 1 0 2 n x3 i3 r yH)] (Ai (zZ (q:=lr_r_Rests_3 r n) (lp_r_Rests_3 r n r.l 0 (List.drop_zero) (Nat.zero_le _) (by omega) (by omega) (by omega)) h9) trivial) (by kernel_rfl)
 | x2 =>
  try dsimp only
  exact zk [.loop (.exit 0) (sd45002 0 r n),.pure (.sl ((JJ GS.nil).nl) (((JJ GS.nil).l).map Sn.D) (zsl ((JJ GS.nil).nl) 2) none)] (Ai (T_JJ GS.nil (by simp [GS.nil])) (Ai (zZ (q:=lr_r_Rests_3 r n) (lp_r_Rests_3 r n r.l 0 (List.drop_zero) (Nat.zero_le _) (by omega) (by omega) (by omega)) h9) trivial)) (by kernel_rfl)
 | x3 i3 x3 =>
  try dsimp only
  exact zk [.loop .ret (sd45003 0 1 n x3 i3 r)] (Ai (zZ (q:=lr_r_Rests_3 r n) (lp_r_Rests_3 r n r.l 0 (List.drop_zero) (Nat.zero_le _) (by omega) (by omega) (by omega)) h9) trivial) (by kernel_rfl)

theorem rrests_len (r:GS Sn) (n:Int) (hL:r.l.length≤64) (hn:1≤n∧n≤10000):(zf r n).l.length≤128:=by
 have h:=ivt_r_Rests_3 r n r.l 0 List.drop_zero (Nat.zero_le _) hL hn (by omega)
 unfold zf
 cases hr:r_Rests_3 n r.l 0 <;> rw [hr] at h <;> simp only [iv_r_Rests_3] at h <;> dsimp only
 ·rename_i v
  have:=JJ_len (GS.some v)
  simp only [GS.some_l] at this
  cases (JJ (GS.some v)).nl <;> simp only [cond_true,cond_false] <;> omega
 ·simp [GS.some_l]
 ·have:=JJ_len GS.nil
  simp only [GS.nil,List.length_nil] at this ⊢
  omega
 ·simp [GS.some_l]

def r_Rest (r:GS Sn) (n:Int):(GS Sn) × Int :=
 bif (r_Valid r) then
  bif decide (n < 1) then
   (GS.nil,1)
  else
   bif decide (n > 10000) then
    (GS.nil,1)
   else
    (((zw (zf r n)).1),((zw (zf r n)).2))
 else
  (GS.nil,20)

theorem T_r_Rest (r:GS Sn) (n:Int) (hLr:r.l.length≤9223372036854775807) (hL_r:r.l.length≤9223372036854775807):(lim cfg).pure 25 [GS.D Sn.D 2 r,I n]=some (.tup [GS.D Sn.D 2 ((r_Rest r n).1),I ((r_Rest r n).2)]):=by
 unfold r_Rest
 cases h1:(r_Valid r) with
 | true =>
  have g1:=valid_len h1
  cases h2:decide (n < 1) with
  | true =>
   have g2:=of_decide_eq_true h2
   exact zk [.pure (B (r_Valid r)),.dec true,.dec true] (Ai h2 (Ai h1 (Ai (yj r (by omega)) trivial))) (by kernel_rfl)
  | false =>
   have g2:=of_decide_eq_false h2
   cases h3:decide (n > 10000) with
   | true =>
    have g3:=of_decide_eq_true h3
    exact zk [.pure (B (r_Valid r)),.dec true,.dec false,.dec true] (Ai h3 (Ai h2 (Ai h1 (Ai (yj r (by omega)) trivial)))) (by kernel_rfl)
   | false =>
    have hn:1≤n∧n≤10000:=⟨by omega,by have:=of_decide_eq_false h3; omega⟩
    exact zk [.pure (B (r_Valid r)),.dec true,.dec false,.dec false,.pure (.sl ((zf r n).nl) (((zf r n).l).map Sn.D) (zsl ((zf r n).nl) 2) none),.pure (.tup [.sl (((zw (zf r n)).1).nl) ((((zw (zf r n)).1).l).map Sn.D) (zsl (((zw (zf r n)).1).nl) 2) none,I ((zw (zf r n)).2)])] (Ai (T_r_Fit (zf r n)) (Ai (T_r_Rests r n (by omega) (by omega)) (Ai h3 (Ai h2 (Ai h1 (Ai (yj r (by omega)) trivial)))))) (by kernel_rfl)
 | false =>
  exact zk [.pure (B (r_Valid r)),.dec false] (Ai h1 (Ai (yj r (by omega)) trivial)) (by kernel_rfl)
end Go.VS

namespace Go.VS
open Go Go.Proofs
set_option maxHeartbeats 0
set_option linter.unusedSimpArgs false
set_option linter.unusedVariables false
end Go.VS

namespace Go.VS
open Go
set_option maxHeartbeats 0
theorem rdown_eq {a b:Int} (hb:1≤b) (ha:-4398046511104≤a∧a≤4398046511104):zl a b=a / b:=by
 rw [← down_eq hb ha]; rfl
theorem mul_down {a n:Int} (hn:1≤n):a - n < n * (a / n)∧n * (a / n)≤a:=by
 have e:n * (a / n)+a % n=a:=Int.mul_ediv_add_emod _ _
 have e1:=Int.emod_nonneg a (show n ≠ 0 by omega)
 have e2:=Int.emod_lt_of_pos a (show 0 < n by omega)
 omega
theorem turns_base {n:Int} {w:Sn} (hn:1≤n∧n≤10000) (h0:¬ (w.lo > w.hi)) (h1:¬ (w.lo < -1099511627776)) (h2:¬ (w.hi > 1099511627776)):-1099511637777≤w64 (n * zl w.lo n)∧w64 (n * zl w.lo n)≤w.hi∧w.hi≤1099511627776∧-1099511627776≤w.lo:=by
 rw [rdown_eq hn.1 (by omega)]
 have:=mul_down (a:=w.lo) hn.1
 rw [y7 (by omega) (by omega)]
 omega
end Go.VS

namespace Go.VS
open Go
set_option maxHeartbeats 0
section
variable {c:Int} (hc:1≤c)
include hc
end
section
variable {r:GS Sn} {k:Sn} (hb:∀ x∈r.l,-1099511627776≤x.lo∧x.lo≤x.hi∧x.hi≤1099511627776) (hk:KOv k)
include hb hk
end
def restL (r:List Sn) (n:Int):List Sn:=r.flatMap fun x=>restS x n
theorem restL_bd {r:List Sn} {n:Int} (hr:∀ x∈r,x.lo≤x.hi) (hn:1≤n):∀ s∈restL r n,0≤s.lo∧s.lo≤s.hi∧s.hi < n:=fun s hs=>by
 obtain ⟨x,hx,h⟩:=List.mem_flatMap.1 hs
 exact restS_bd (hr x hx) hn s h
theorem restL_len (r:List Sn) (n:Int):(restL r n).length≤2 * r.length:=flat_len fun x _=>by
 unfold restS
 repeat' split
 all_goals simp
end Go.VS

namespace Go.VS
open Go
set_option maxHeartbeats 0
theorem restS_ref {x:Sn} {n:Int} (hx:-1099511627776≤x.lo∧x.lo≤x.hi∧x.hi≤1099511627776) (hn:NOk n):w64 ((w64 (x.hi - x.lo))+1)=x.hi - x.lo+1∧w64 (x.lo - (w64 (n * (zl x.lo n))))=x.lo % n∧w64 ((w64 ((w64 (x.lo - (w64 (n * (zl x.lo n)))))+(w64 ((w64 (x.hi - x.lo))+1)))) - 1)=x.lo % n+(x.hi - x.lo)∧w64 ((w64 ((w64 ((w64 (x.lo - (w64 (n * (zl x.lo n)))))+(w64 ((w64 (x.hi - x.lo))+1)))) - 1)) - n)=x.lo % n+(x.hi - x.lo) - n:=by
 obtain ⟨n1,n2⟩:=hn
 have e:n * (x.lo / n)+x.lo % n=x.lo:=Int.mul_ediv_add_emod _ _
 have e1:=Int.emod_nonneg x.lo (show n ≠ 0 by omega)
 have e2:=Int.emod_lt_of_pos x.lo (show 0 < n by omega)
 rw [rdown_eq n1 (by omega)]
 generalize n * (x.lo / n)=q at *
 generalize x.lo % n=r at *
 rw [y7 (n:=q) (by omega) (by omega),y7 (n:=x.lo - q) (by omega) (by omega),show x.lo - q=r by omega,y7 (n:=x.hi - x.lo) (by omega) (by omega),y7 (n:=x.hi - x.lo+1) (by omega) (by omega),y7 (n:=r+(x.hi - x.lo+1)) (by omega) (by omega),y7 (n:=r+(x.hi - x.lo+1) - 1) (by omega) (by omega),y7 (by omega) (by omega)]
 exact ⟨rfl,rfl,by omega,by omega⟩
def rR_r:LR_r_Rests_3→Option (List Sn)
 | .x0 v=>some v
 | .x2=>some []
 | _=>none
section
variable {n:Int} (hn:NOk n)
include hn
theorem rR3a_eq:∀ (l:List Sn) (i:Nat) (v:List Sn),(∀ x∈l,-1099511627776≤x.lo∧x.lo≤x.hi∧x.hi≤1099511627776)→((∃ x∈l,n - 1≤x.hi - x.lo)∧rR_r (r_Rests_3a n l i v)=none) ∨ rR_r (r_Rests_3a n l i v)=some (v++restL l n)
 | [],i,v,_=>.inr (by simp [r_Rests_3a,rR_r,restL])
 | x::l,i,v,h=>by
  have hl:=fun y hy=>h y (List.mem_cons_of_mem _ hy)
  obtain ⟨e1,e2,e3,e4⟩:=restS_ref (h x List.mem_cons_self) hn
  have n1:=hn.1
  have n2:=hn.2
  unfold r_Rests_3a
  rw [e4,e3,e2,e1]
  by_cases h1:n - 1≤x.hi - x.lo
  ·rw [decide_eq_true (show x.hi - x.lo+1 ≥ n by omega)]
   exact .inl ⟨⟨x,List.mem_cons_self,h1⟩,rfl⟩
  ·rw [decide_eq_false (show ¬ x.hi - x.lo+1 ≥ n by omega),cond_false]
   have hr:∀ w,w=restS x n→((∃ y∈x::l,n - 1≤y.hi - y.lo)∧rR_r (r_Rests_3a n l (i+1) (v++w))=none) ∨ rR_r (r_Rests_3a n l (i+1) (v++w))=some (v++restL (x::l) n):=fun w hw=>by
    rw [hw]
    rcases rR3a_eq l (i+1) (v++restS x n) hl with ⟨⟨y,hy,k1⟩,k2⟩ | k
    ·exact .inl ⟨⟨y,List.mem_cons_of_mem _ hy,k1⟩,k2⟩
    ·right
     rw [k,List.append_assoc]; rfl
   by_cases h2:x.lo % n+(x.hi - x.lo) < n
   ·rw [decide_eq_true h2,cond_true]
    exact hr _ (by unfold restS; rw [if_neg h1,if_pos h2])
   ·rw [decide_eq_false h2,cond_false,y7 (n:=n - 1) (by omega) (by omega)]
    exact hr _ (by unfold restS; rw [if_neg h1,if_neg h2])
theorem rR3_eq:∀ (l:List Sn) (i:Nat),(∀ x∈l,-1099511627776≤x.lo∧x.lo≤x.hi∧x.hi≤1099511627776)→((∃ x∈l,n - 1≤x.hi - x.lo)∧rR_r (r_Rests_3 n l i)=none) ∨ rR_r (r_Rests_3 n l i)=some (restL l n)
 | [],i,_=>.inr rfl
 | x::l,i,h=>by
  have hl:=fun y hy=>h y (List.mem_cons_of_mem _ hy)
  obtain ⟨e1,e2,e3,e4⟩:=restS_ref (h x List.mem_cons_self) hn
  have n1:=hn.1
  have n2:=hn.2
  unfold r_Rests_3
  dsimp only
  rw [e4,e3,e2,e1]
  by_cases h1:n - 1≤x.hi - x.lo
  ·rw [decide_eq_true (show x.hi - x.lo+1 ≥ n by omega)]
   exact .inl ⟨⟨x,List.mem_cons_self,h1⟩,rfl⟩
  ·rw [decide_eq_false (show ¬ x.hi - x.lo+1 ≥ n by omega),cond_false]
   have hr:∀ w,w=restS x n→((∃ y∈x::l,n - 1≤y.hi - y.lo)∧rR_r (r_Rests_3a n l (i+1) w)=none) ∨ rR_r (r_Rests_3a n l (i+1) w)=some (restL (x::l) n):=fun w hw=>by
    rw [hw]
    rcases rR3a_eq hn l (i+1) (restS x n) hl with ⟨⟨y,hy,k1⟩,k2⟩ | k
    ·exact .inl ⟨⟨y,List.mem_cons_of_mem _ hy,k1⟩,k2⟩
    ·right
     rw [k]; rfl
   by_cases h2:x.lo % n+(x.hi - x.lo) < n
   ·rw [decide_eq_true h2,cond_true]
    exact hr _ (by unfold restS; rw [if_neg h1,if_pos h2])
   ·rw [decide_eq_false h2,cond_false,y7 (n:=n - 1) (by omega) (by omega)]
    exact hr _ (by unfold restS; rw [if_neg h1,if_neg h2])
end
theorem restL_Bd {r:List Sn} {n:Int} (hr:∀ x∈r,x.lo≤x.hi) (hn:NOk n):Bd (restL r n):=fun s hs=>by
 have:=restL_bd hr hn.1 s hs
 have:=hn.2
 omega
theorem rRests_l {r:GS Sn} {n:Int} (hr:Ok r.l) (hn:NOk n):(zf r n).l=can zo (restL r.l n):=by
 have hle:∀ x∈r.l,x.lo≤x.hi:=fun x hx=>cn_mem hr.1 hx
 have bdl:=restL_Bd hle hn
 have len:(restL r.l n).length≤1073741824:=by
  have:=restL_len r.l n
  have:=hr.2.2
  omega
 have n1:=hn.1
 have n2:=hn.2
 unfold zf
 rcases rR3_eq hn r.l 0 (ok_bx hr) with ⟨⟨x,hx,h1⟩,h2⟩ | h2
 ·have hz:[(⟨0,n - 1⟩:Sn)]=can zo (restL r.l n):=by
   refine Rg.unique (S:=In (restL r.l n)) ⟨⟨by simp only; omega,(fun t ht=>by cases ht),trivial⟩,fun y=>?_⟩ (can_rg gcmp_lo (bd_ne bdl))
   constructor
   ·intro hy
    refine In_flat.2 ⟨x,hx,?_⟩
    unfold restS
    rw [if_pos h1]
    exact hy
   ·rintro ⟨s,hs,k1,k2⟩
    have:=restL_bd hle n1 s hs
    exact In_cons.2 (.inl ⟨by simp only; omega,by simp only; omega⟩)
  cases hq:r_Rests_3 n r.l 0 <;> rw [hq] at h2 <;> first | (cases h2; done) | (dsimp only; rw [y7 (n:=n - 1) (by omega) (by omega),GS.some_l]; exact hz)
 ·cases hq:r_Rests_3 n r.l 0 <;> rw [hq] at h2 <;> simp only [rR_r] at h2
  ·dsimp only
   rw [Bool.cond_self]
   cases h2
   exact JJ_l (l:=GS.some _) len bdl
  ·cases h2
  ·dsimp only
   have h2:=Option.some.inj h2
   rw [JJ_l (l:=GS.nil) (by simp [GS.nil]) (fun s hs=>by cases hs),← h2]; rfl
  ·cases h2
theorem rRest_gr {r:GS Sn} {n:Int} (hr:Ok r.l) (hn:NOk n):GR (restL r.l n) (zw (zf r n)):=by
 have hle:∀ x∈r.l,x.lo≤x.hi:=fun x hx=>cn_mem hr.1 hx
 refine fit_of (rRests_l hr hn) (bd_ne (restL_Bd hle hn)) ?_
 have:=rrests_len r n hr.2.2 hn
 omega
theorem same_Rest (r:GS Sn) (n:Int):l_same (yh r n).1 (yh r n).2 (r_Rest r n).1 (r_Rest r n).2=true:=by
 by_cases hr:Ok r.l
 rotate_left
 ·refine same_eq ?_
  rw [Rest_no hr]
  unfold r_Rest
  rw [valid_no.2 hr]; rfl
 by_cases hn:NOk n
 rotate_left
 ·refine same_eq ?_
  rw [Rest_bad hr hn]
  unfold r_Rest
  rw [valid_iff.2 hr]
  simp only [cond_true]
  by_cases h1:n < 1
  ·rw [decide_eq_true h1]; rfl
  ·rw [decide_eq_false h1]
   by_cases h2:n > 10000
   ·rw [decide_eq_true h2]; rfl
   ·exact absurd ⟨by omega,by omega⟩ hn
 have hle:∀ x∈r.l,x.lo≤x.hi:=fun x hx=>cn_mem hr.1 hx
 have ne:=bd_ne (restL_Bd hle hn)
 have n1:=hn.1
 have n2:=hn.2
 unfold r_Rest
 rw [valid_iff.2 hr,decide_eq_false (show ¬ n < 1 by omega),decide_eq_false (show ¬ n > 10000 by omega)]
 simp only [cond_true,cond_false]
 exact same_of ((Rest_gr hr hn).det (rRest_gr hr hn) ne ne fun _=>Iff.rfl)
theorem len_Rest (r:GS Sn) (n:Int):(yh r n).1.l.length≤9223372036854775807:=by
 by_cases hr:Ok r.l
 ·by_cases hk:NOk n
  ·exact Nat.le_trans (gr_len (Rest_gr hr hk)) (by decide)
  ·rw [Rest_bad hr hk]; exact short_nil
 ·rw [Rest_no hr]; exact short_nil
end Go.VS

