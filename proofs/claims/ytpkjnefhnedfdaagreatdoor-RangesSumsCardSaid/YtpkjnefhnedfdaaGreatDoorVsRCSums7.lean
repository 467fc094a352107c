/- Nothing of a statement is proved in this text alone: it is part 7 of the proof's own tools, an evaluator of the code over deep values, its soundness, and what it makes of this seat's functions. Conditions: none beyond the statement's own. -/
import Derived.Test.YtpkjnefhnedfdaaGreatDoorVsRCSums6
import Derived.Test.YtpkjnefhnedfdaaGreatDoorRows
import Derived.Test.YtpkjnefhnedfdaaGreatDoorTie
import Derived.WalkKit
import Derived.ProofKit
import Derived.Deep.DeepHandedRow
import Derived.Lib.LaidTab
set_option linter.unusedSimpArgs false
set_option linter.unusedVariables false
namespace Go.VS
open Go Go.Proofs
set_option maxHeartbeats 0
set_option linter.unusedSimpArgs false
set_option linter.unusedVariables false
theorem drop_tl {α:Type} {l rest:List α} {i:Nat} {x:α} (h:l.drop i=x::rest):l.drop i=x::l.drop (i+1):=by
 rw [← List.drop_drop,h]; rfl
theorem valid_len {r:GS Sn} (h:zN r=true):r.l.length≤64:=(valid_iff.1 h).2.2

noncomputable def lp27_9:Code:=subC [1,1,1,1,1,0,1,0,0] (bodyC Tryz.f27)

def sd20310 (r:GS Sn) (by_:Int) (i9:Nat) (x9:Sn) (yK:List Sn):St:=⟨48,[(7,I ((i9+1:Nat):Int)),(25,I ((i9+1:Nat):Int)),(24,I ((i9:Nat):Int)),(6,.lsl 2 0 ((yK++[(⟨w64 (x9.lo+by_),w64 (x9.hi+by_)⟩:Sn)]).length) 2 none),(43,.lsl 2 0 ((yK++[(⟨w64 (x9.lo+by_),w64 (x9.hi+by_)⟩:Sn)]).length) 2 none),(42,.lsl 1 0 1 2 (some 1)),(41,.agg [I (w64 (x9.lo+by_)),I (w64 (x9.hi+by_))]),(40,I (w64 (x9.hi+by_))),(39,I by_),(38,I x9.hi),(37,.ptr (I x9.hi)),(36,.ptr (.agg [I x9.lo,I x9.hi])),(35,I ((i9:Nat):Int)),(34,.sl r.nl (r.l.map Sn.D) (zsl r.nl 2) none),(33,I (w64 (x9.lo+by_))),(32,I by_),(31,I x9.lo),(30,.ptr (I x9.lo)),(29,.ptr (.agg [I x9.lo,I x9.hi])),(28,I ((i9:Nat):Int)),(27,.sl r.nl (r.l.map Sn.D) (zsl r.nl 2) none),(26,.lsl 0 0 yK.length 2 none),(23,B true),(22,I ((r.l.length:Nat):Int)),(21,.sl r.nl (r.l.map Sn.D) (zsl r.nl 2) none),(20,I ((i9:Nat):Int)),(0,.sl r.nl (r.l.map Sn.D) (zsl r.nl 2) none),(1,I by_),(6,.lsl 0 0 yK.length 2 none),(7,I ((i9:Nat):Int))],[(1,⟨[.agg [I (w64 (x9.lo+by_)),I (w64 (x9.hi+by_))]],2,false⟩),(2,⟨(yK++[(⟨w64 (x9.lo+by_),w64 (x9.hi+by_)⟩:Sn)]).map Sn.D,2,false⟩)],3,0⟩

inductive LR_r_Shift_9 where
 | x0 (yK:List Sn)
 | x1
instance:Inhabited LR_r_Shift_9:=⟨.x0 default⟩
def r_Shift_9a (by_:Int):List Sn→(List Sn)→LR_r_Shift_9
 | [],yK=>.x0 yK
 | x9::xm,yK =>
  r_Shift_9a by_ xm (yK++[(⟨w64 (x9.lo+by_),w64 (x9.hi+by_)⟩:Sn)])
def r_Shift_9 (by_:Int):List Sn→LR_r_Shift_9
 | []=>.x1
 | x9::xm =>
  r_Shift_9a by_ xm [(⟨w64 (x9.lo+by_),w64 (x9.hi+by_)⟩:Sn)]
def lr_r_Shift_9 (r:GS Sn) (by_:Int):LR_r_Shift_9→Exit × St
 | .x0 yK=>((.exit 0),⟨48,[(23,B false),(22,I ((r.l.length:Nat):Int)),(21,.sl r.nl (r.l.map Sn.D) (zsl r.nl 2) none),(20,I ((r.l.length:Nat):Int)),(0,.sl r.nl (r.l.map Sn.D) (zsl r.nl 2) none),(1,I by_),(6,.lsl 0 0 yK.length 2 none),(7,I ((r.l.length:Nat):Int))],[(0,⟨yK.map Sn.D,2,false⟩)],1,0⟩)
 | .x1=>((.exit 0),⟨48,[(23,B false),(22,I ((r.l.length:Nat):Int)),(21,.sl r.nl (r.l.map Sn.D) (zsl r.nl 2) none),(20,I ((r.l.length:Nat):Int)),(0,.sl r.nl (r.l.map Sn.D) (zsl r.nl 2) none),(1,I by_),(6,.sl true [] 0 none),(7,I ((r.l.length:Nat):Int))],[],0,0⟩)
def iv_r_Shift_9 (r:GS Sn) (by_:Int):LR_r_Shift_9→Prop
 | .x0 yK=>(yK.length≤r.l.length)
 | .x1=>True
theorem lp_r_Shift_9a (r:GS Sn) (by_:Int):∀ (xm:List Sn) (i9:Nat) (yK:List Sn) (hd9:r.l.drop i9=xm) (hi9:i9≤r.l.length) (hg9_va9_0:yK.length≤i9) (hL9:r.l.length≤1099511627776),(lim cfg).loop 27 lp27_9 ⟨48,[(0,.sl r.nl (r.l.map Sn.D) (zsl r.nl 2) none),(1,I by_),(6,.lsl 0 0 yK.length 2 none),(7,I ((i9:Nat):Int))],[(0,⟨yK.map Sn.D,2,false⟩)],1,0⟩=some (lr_r_Shift_9 r by_ (r_Shift_9a by_ xm yK)):=by
 intro xm
 induction xm with
 | nil =>
  intro i9 yK hd9 hi9 hg9_va9_0 hL9
  unfold r_Shift_9a
  obtain rfl:i9=r.l.length:=zY hd9 hi9
  exact zR [.rw 22 (I ((r.l.length:Nat):Int)),.dec false] (Ai (lt_no hd9) (Ai (zi Sn.D r) trivial)) (by kernel_rfl)
 | cons x9 xm ih =>
  intro i9 yK hd9 hi9 hg9_va9_0 hL9
  have hlt9:=zg hd9
  unfold r_Shift_9a
  exact zH (ks:=[0,1,6,7]) (st':=(sd20310 r by_ i9 x9 yK)) [.rw 22 (I ((r.l.length:Nat):Int)),.dec true,.el (.agg [I x9.lo,I x9.hi]),.el (.agg [I x9.lo,I x9.hi]),.op (some 43) ⟨.lsl 2 0 ((yK++[(⟨w64 (x9.lo+by_),w64 (x9.hi+by_)⟩:Sn)]).length) 2 none,[(0,none),(2,some ⟨(yK++[(⟨w64 (x9.lo+by_),w64 (x9.hi+by_)⟩:Sn)]).map Sn.D,2,false⟩)],[0,1],3⟩,.rw 25 (I ((i9+1:Nat):Int))] (Ai (zZ (i:=i9) (by have:=zg hd9; omega)) (Ai (app_row (f:=Sn.D) (te:=ye) (gO:=zu [(0,⟨yK.map Sn.D,2,false⟩),(1,⟨[.agg [I (w64 (x9.lo+by_)),I (w64 (x9.hi+by_))]],2,false⟩)]) (nxt:=2) (o:=0) (o2:=1) (fz:=false) z6 yK (⟨w64 (x9.lo+by_),w64 (x9.hi+by_)⟩:Sn) (by kernel_rfl) (by kernel_rfl) rfl (by kernel_rfl) (by decide) ⟨by simp only [ye,big] <;> (first | assumption | omega | (exact zT (by omega) (by omega)) | (exact zA (by omega)) | (exact zr (by omega)) | (exact zB (by omega)) | (exact zt (by omega)) | (exact zx _ (by omega)) | (exact Nat.le_trans (hJl _) (by rw [zn]; omega)) | (exact drop_tl (by assumption)) | (simp only [zf] at * <;> omega) | (simp only [zq,zn,GS.some_l,List.length_set,List.length_append,List.length_cons,List.length_nil] at * <;> first | with_reducible assumption | omega) | (simp only [zq,zn,GS.some_l,List.length_set,List.length_append,List.length_cons,List.length_nil,zf] at * <;> first | with_reducible assumption | omega) | (simp at * <;> omega)),by simp only [big] <;> (first | assumption | omega | (exact zT (by omega) (by omega)) | (exact zA (by omega)) | (exact zr (by omega)) | (exact zB (by omega)) | (exact zt (by omega)) | (exact zx _ (by omega)) | (exact Nat.le_trans (hJl _) (by rw [zn]; omega)) | (exact drop_tl (by assumption)) | (simp only [zf] at * <;> omega) | (simp only [zq,zn,GS.some_l,List.length_set,List.length_append,List.length_cons,List.length_nil] at * <;> first | with_reducible assumption | omega) | (simp only [zq,zn,GS.some_l,List.length_set,List.length_append,List.length_cons,List.length_nil,zf] at * <;> first | with_reducible assumption | omega) | (simp at * <;> omega))⟩) (Ai (el_at (s:=r) (f:=Sn.D) (k:=2) hd9) (Ai (el_at (s:=r) (f:=Sn.D) (k:=2) hd9) (Ai (lt_at hd9) (Ai (zi Sn.D r) trivial)))))) (by kernel_rfl) (by (simp only [sd20310,go_sem,List.length_set,Nat.reduceAdd,Nat.reduceEqDiff,Nat.reduceLT,Nat.reduceLeDiff,bI2,zb.idsL,zb.renL,zb.snapAll,z6.idsL,z6.renL,z6.snapAll]) <;> rfl) (ih (i9+1) (yK++[(⟨w64 (x9.lo+by_),w64 (x9.hi+by_)⟩:Sn)]) (zj hd9) (zg hd9) (by simp only [List.length_append,List.length_cons,List.length_nil] at * <;> omega) (by omega)) (by kernel_rfl)
theorem ivt_r_Shift_9a (r:GS Sn) (by_:Int):∀ (xm:List Sn) (i9:Nat) (yK:List Sn) (hd9:r.l.drop i9=xm) (hi9:i9≤r.l.length) (hg9_va9_0:yK.length≤i9) (hL9:r.l.length≤1099511627776),iv_r_Shift_9 r by_ (r_Shift_9a by_ xm yK):=by
 intro xm
 induction xm with
 | nil =>
  intro i9 yK hd9 hi9 hg9_va9_0 hL9
  unfold r_Shift_9a
  obtain rfl:i9=r.l.length:=zY hd9 hi9
  exact hg9_va9_0
 | cons x9 xm ih =>
  intro i9 yK hd9 hi9 hg9_va9_0 hL9
  have hlt9:=zg hd9
  unfold r_Shift_9a
  exact ih (i9+1) (yK++[(⟨w64 (x9.lo+by_),w64 (x9.hi+by_)⟩:Sn)]) (zj hd9) (zg hd9) (by simp only [List.length_append,List.length_cons,List.length_nil] at * <;> omega) (by omega)
theorem lp_r_Shift_9 (r:GS Sn) (by_:Int):∀ (xm:List Sn) (i9:Nat) (hd9:r.l.drop i9=xm) (hi9:i9≤r.l.length) (hL9:r.l.length≤1099511627776),(lim cfg).loop 27 lp27_9 ⟨48,[(0,.sl r.nl (r.l.map Sn.D) (zsl r.nl 2) none),(1,I by_),(6,.sl true [] 0 none),(7,I ((i9:Nat):Int))],[],0,0⟩=some (lr_r_Shift_9 r by_ (r_Shift_9 by_ xm)):=by
 intro xm
 induction xm with
 | nil =>
  intro i9 hd9 hi9 hL9
  unfold r_Shift_9
  obtain rfl:i9=r.l.length:=zY hd9 hi9
  exact zR [.rw 22 (I ((r.l.length:Nat):Int)),.dec false] (Ai (lt_no hd9) (Ai (zi Sn.D r) trivial)) (by kernel_rfl)
 | cons x9 xm ih =>
  intro i9 hd9 hi9 hL9
  have hlt9:=zg hd9
  unfold r_Shift_9
  dsimp only
  exact po_turn [.rw 22 (I ((r.l.length:Nat):Int)),.dec true,.el (.agg [I x9.lo,I x9.hi]),.el (.agg [I x9.lo,I x9.hi]),.rw 25 (I ((i9+1:Nat):Int))] (Ai (zZ (i:=i9) (by have:=zg hd9; omega)) (Ai (el_at (s:=r) (f:=Sn.D) (k:=2) hd9) (Ai (el_at (s:=r) (f:=Sn.D) (k:=2) hd9) (Ai (lt_at hd9) (Ai (zi Sn.D r) trivial))))) (lp_r_Shift_9a r by_ _ (i9+1) [(⟨w64 (x9.lo+by_),w64 (x9.hi+by_)⟩:Sn)] (zj hd9) (zg hd9) (by simp only [List.length_append,List.length_cons,List.length_nil] at * <;> omega) (by omega)) (by kernel_rfl)
theorem ivt_r_Shift_9 (r:GS Sn) (by_:Int):∀ (xm:List Sn) (i9:Nat) (hd9:r.l.drop i9=xm) (hi9:i9≤r.l.length) (hL9:r.l.length≤1099511627776),iv_r_Shift_9 r by_ (r_Shift_9 by_ xm):=by
 intro xm
 induction xm with
 | nil =>
  intro i9 hd9 hi9 hL9
  unfold r_Shift_9
  obtain rfl:i9=r.l.length:=zY hd9 hi9
  exact trivial
 | cons x9 xm ih =>
  intro i9 hd9 hi9 hL9
  have hlt9:=zg hd9
  unfold r_Shift_9
  dsimp only
  exact ivt_r_Shift_9a r by_ _ (i9+1) [(⟨w64 (x9.lo+by_),w64 (x9.hi+by_)⟩:Sn)] (zj hd9) (zg hd9) (by simp only [List.length_append,List.length_cons,List.length_nil] at * <;> omega) (by omega)

def r_Shift (r:GS Sn) (by_:Int):(GS Sn) × Int :=
 bif (zN r) then
  bif (((r.l.length:Nat):Int) == 0) then
   (GS.nil,0)
  else
   bif decide (by_ > 2199023255552) then
    (GS.nil,2)
   else
    bif decide (by_ < (-2199023255552)) then
     (GS.nil,2)
    else
     match r_Shift_9 by_ r.l with
     | .x0 yK =>
      bif ((yc (GS.some yK)).1).nl then
       (((yc (GS.some yK)).1),((yc (GS.some yK)).2))
      else
       (((yc (GS.some yK)).1),((yc (GS.some yK)).2))
     | .x1 =>
      (((yc GS.nil).1),((yc GS.nil).2))
 else
  (GS.nil,20)

def sd20311 (r:GS Sn) (by_:Int) (yK:List Sn):St:=⟨48,[(23,B false),(22,I ((r.l.length:Nat):Int)),(21,.sl r.nl (r.l.map Sn.D) (zsl r.nl 2) none),(20,I ((r.l.length:Nat):Int)),(0,.sl r.nl (r.l.map Sn.D) (zsl r.nl 2) none),(1,I by_),(6,.lsl 0 0 yK.length 2 none),(7,I ((r.l.length:Nat):Int))],[(0,⟨yK.map Sn.D,2,false⟩)],1,0⟩

def r_Shift_o1 (r:GS Sn) (by_:Int) (yK:List Sn):List Ora:=[.pure (B (zN r)),.dec true,.rw 12 (I ((r.l.length:Nat):Int)),.dec false,.dec false,.dec false,.loop (.exit 0) (sd20311 r by_ yK)]

def sd20312 (r:GS Sn) (by_:Int):St:=⟨48,[(23,B false),(22,I ((r.l.length:Nat):Int)),(21,.sl r.nl (r.l.map Sn.D) (zsl r.nl 2) none),(20,I ((r.l.length:Nat):Int)),(0,.sl r.nl (r.l.map Sn.D) (zsl r.nl 2) none),(1,I by_),(6,.sl true [] 0 none),(7,I ((r.l.length:Nat):Int))],[],0,0⟩

theorem T_r_Shift (r:GS Sn) (by_:Int) (hLr:r.l.length≤9223372036854775807):(lim cfg).pure 27 [GS.D Sn.D 2 r,I by_]=some (.tup [GS.D Sn.D 2 ((r_Shift r by_).1),I ((r_Shift r by_).2)]):=by
 unfold r_Shift
 cases h1:(zN r) with
 | true =>
  have g1:=valid_len h1
  cases h2:(((r.l.length:Nat):Int) == 0) with
  | true =>
   have g2:=eq_of_beq h2
   exact zo [.pure (B (zN r)),.dec true,.rw 12 (I ((r.l.length:Nat):Int)),.dec true] (Ai h2 (Ai (zi Sn.D r) (Ai h1 (Ai (T_r_Valid r (by omega)) trivial)))) (by kernel_rfl)
  | false =>
   have g2:=ne_of_beq_false h2
   cases h3:decide (by_ > 2199023255552) with
   | true =>
    have g3:=of_decide_eq_true h3
    exact zo [.pure (B (zN r)),.dec true,.rw 12 (I ((r.l.length:Nat):Int)),.dec false,.dec true] (Ai h3 (Ai h2 (Ai (zi Sn.D r) (Ai h1 (Ai (T_r_Valid r (by omega)) trivial))))) (by kernel_rfl)
   | false =>
    have g3:=of_decide_eq_false h3
    cases h4:decide (by_ < (-2199023255552)) with
    | true =>
     have g4:=of_decide_eq_true h4
     exact zo [.pure (B (zN r)),.dec true,.rw 12 (I ((r.l.length:Nat):Int)),.dec false,.dec false,.dec true] (Ai h4 (Ai h3 (Ai h2 (Ai (zi Sn.D r) (Ai h1 (Ai (T_r_Valid r (by omega)) trivial)))))) (by kernel_rfl)
    | false =>
     have g4:=of_decide_eq_false h4
     cases h5:r_Shift_9 by_ r.l with
     | x0 yK =>
      try dsimp only
      have hv_h5:=ivt_r_Shift_9 r by_ r.l 0 (List.drop_zero) (Nat.zero_le _) (by omega)
      rw [h5] at hv_h5
      have xt:=hv_h5
      try dsimp only [iv_r_Shift_9] at xt
      have p1:=(zU (q:=lr_r_Shift_9 r by_) (lp_r_Shift_9 r by_ r.l 0 (List.drop_zero) (Nat.zero_le _) (by omega)) h5)
      cases h6:((yc (GS.some yK)).1).nl with
      | true =>
       exact zo ((r_Shift_o1 r by_ yK)++[.pureS (.tup [.sl (((yc (GS.some yK)).1).nl) ((((yc (GS.some yK)).1).l).map Sn.D) (zsl (((yc (GS.some yK)).1).nl) 2) none,I ((yc (GS.some yK)).2)]) true [(0,.sl false (yK.map Sn.D) 2 none,[0])]]) (Ai (Ai (show flat fuelD (.tup [.sl (((yc (GS.some yK)).1).nl) ((((yc (GS.some yK)).1).l).map Sn.D) (zsl (((yc (GS.some yK)).1).nl) 2) none,I ((yc (GS.some yK)).2)])=true from (by rw [h6] <;> kernel_rfl)) (Ai (Ai (snap_row (gO:=zu [(0,⟨yK.map Sn.D,2,false⟩)]) (o:=0) (len:=yK.length) (cap:=none) (fz:=false) z6 yK (by kernel_rfl) (by omega)) trivial) (T_r_Fit (GS.some yK)))) (Ai p1 (Ai h4 (Ai h3 (Ai h2 (Ai (zi Sn.D r) (Ai h1 (Ai (T_r_Valid r (by omega)) trivial)))))))) (by kernel_rfl)
      | false =>
       exact zo ((r_Shift_o1 r by_ yK)++[.pureS (.tup [.sl (((yc (GS.some yK)).1).nl) ((((yc (GS.some yK)).1).l).map Sn.D) (zsl (((yc (GS.some yK)).1).nl) 2) none,I ((yc (GS.some yK)).2)]) false [(0,.sl false (yK.map Sn.D) 2 none,[0])]]) (Ai (Ai (show flat fuelD (.tup [.sl (((yc (GS.some yK)).1).nl) ((((yc (GS.some yK)).1).l).map Sn.D) (zsl (((yc (GS.some yK)).1).nl) 2) none,I ((yc (GS.some yK)).2)])=false from (by rw [h6] <;> kernel_rfl)) (Ai (Ai (snap_row (gO:=zu [(0,⟨yK.map Sn.D,2,false⟩)]) (o:=0) (len:=yK.length) (cap:=none) (fz:=false) z6 yK (by kernel_rfl) (by omega)) trivial) (T_r_Fit (GS.some yK)))) (Ai p1 (Ai h4 (Ai h3 (Ai h2 (Ai (zi Sn.D r) (Ai h1 (Ai (T_r_Valid r (by omega)) trivial)))))))) (by kernel_rfl)
     | x1 =>
      try dsimp only
      exact zo [.pure (B (zN r)),.dec true,.rw 12 (I ((r.l.length:Nat):Int)),.dec false,.dec false,.dec false,.loop (.exit 0) (sd20312 r by_),.pure (.tup [.sl (((yc GS.nil).1).nl) ((((yc GS.nil).1).l).map Sn.D) (zsl (((yc GS.nil).1).nl) 2) none,I ((yc GS.nil).2)])] (Ai (T_r_Fit GS.nil) (Ai (zU (q:=lr_r_Shift_9 r by_) (lp_r_Shift_9 r by_ r.l 0 (List.drop_zero) (Nat.zero_le _) (by omega)) h5) (Ai h4 (Ai h3 (Ai h2 (Ai (zi Sn.D r) (Ai h1 (Ai (T_r_Valid r (by omega)) trivial)))))))) (by kernel_rfl)
 | false =>
  exact zo [.pure (B (zN r)),.dec false] (Ai h1 (Ai (T_r_Valid r (by omega)) trivial)) (by kernel_rfl)

noncomputable def lp29_8:Code:=subC [1,1,1,0,1,0,0,1,0,0,1,0,0] (bodyC Tryz.f29)

def sd20323 (a:GS Sn) (b:GS Sn) (i5:Nat) (x5:Sn) (i8:Nat) (x8:Sn) (yX:List Sn):St:=⟨60,[(8,I ((i8+1:Nat):Int)),(28,I ((i8+1:Nat):Int)),(27,I ((i8:Nat):Int)),(6,.lsl 2 0 ((yX++[(⟨w64 (x5.lo+x8.lo),w64 (x5.hi+x8.hi)⟩:Sn)]).length) 2 none),(54,.lsl 2 0 ((yX++[(⟨w64 (x5.lo+x8.lo),w64 (x5.hi+x8.hi)⟩:Sn)]).length) 2 none),(53,.lsl 1 0 1 2 (some 1)),(52,.agg [I (w64 (x5.lo+x8.lo)),I (w64 (x5.hi+x8.hi))]),(51,I (w64 (x5.hi+x8.hi))),(50,I x8.hi),(49,.ptr (I x8.hi)),(48,.ptr (.agg [I x8.lo,I x8.hi])),(47,I ((i8:Nat):Int)),(46,.sl b.nl (b.l.map Sn.D) (zsl b.nl 2) none),(45,I x5.hi),(44,.ptr (I x5.hi)),(43,.ptr (.agg [I x5.lo,I x5.hi])),(42,I ((i5:Nat):Int)),(41,.sl a.nl (a.l.map Sn.D) (zsl a.nl 2) none),(40,I (w64 (x5.lo+x8.lo))),(39,I x8.lo),(38,.ptr (I x8.lo)),(37,.ptr (.agg [I x8.lo,I x8.hi])),(36,I ((i8:Nat):Int)),(35,.sl b.nl (b.l.map Sn.D) (zsl b.nl 2) none),(34,I x5.lo),(33,.ptr (I x5.lo)),(32,.ptr (.agg [I x5.lo,I x5.hi])),(31,I ((i5:Nat):Int)),(30,.sl a.nl (a.l.map Sn.D) (zsl a.nl 2) none),(29,.lsl 0 0 yX.length 2 none),(26,B true),(25,I ((b.l.length:Nat):Int)),(24,.sl b.nl (b.l.map Sn.D) (zsl b.nl 2) none),(23,I ((i8:Nat):Int)),(0,.sl a.nl (a.l.map Sn.D) (zsl a.nl 2) none),(1,.sl b.nl (b.l.map Sn.D) (zsl b.nl 2) none),(6,.lsl 0 0 yX.length 2 none),(7,I ((i5:Nat):Int)),(8,I ((i8:Nat):Int))],[(1,⟨[.agg [I (w64 (x5.lo+x8.lo)),I (w64 (x5.hi+x8.hi))]],2,false⟩),(2,⟨(yX++[(⟨w64 (x5.lo+x8.lo),w64 (x5.hi+x8.hi)⟩:Sn)]).map Sn.D,2,false⟩)],3,0⟩

inductive LR_r_Sum_8 where
 | x0 (yX:List Sn)
instance:Inhabited LR_r_Sum_8:=⟨.x0 default⟩
def r_Sum_8 (x5:Sn):List Sn→(List Sn)→LR_r_Sum_8
 | [],yX=>.x0 yX
 | x8::yM,yX =>
  r_Sum_8 x5 yM (yX++[(⟨w64 (x5.lo+x8.lo),w64 (x5.hi+x8.hi)⟩:Sn)])
def lr_r_Sum_8 (a:GS Sn) (b:GS Sn) (i5:Nat) (x5:Sn):LR_r_Sum_8→Exit × St
 | .x0 yX=>((.exit 2),⟨60,[(26,B false),(25,I ((b.l.length:Nat):Int)),(24,.sl b.nl (b.l.map Sn.D) (zsl b.nl 2) none),(23,I ((b.l.length:Nat):Int)),(0,.sl a.nl (a.l.map Sn.D) (zsl a.nl 2) none),(1,.sl b.nl (b.l.map Sn.D) (zsl b.nl 2) none),(6,.lsl 0 0 yX.length 2 none),(7,I ((i5:Nat):Int)),(8,I ((b.l.length:Nat):Int))],[(0,⟨yX.map Sn.D,2,false⟩)],1,0⟩)
def iv_r_Sum_8 (a:GS Sn) (b:GS Sn) (i5:Nat) (x5:Sn):LR_r_Sum_8→Prop
 | .x0 yX=>(yX.length≤64 * i5+b.l.length)
theorem lp_r_Sum_8 (a:GS Sn) (b:GS Sn) (i5:Nat) (x5:Sn):∀ (yM:List Sn) (i8:Nat) (yX:List Sn) (hd8:b.l.drop i8=yM) (hi8:i8≤b.l.length) (yZ:a.l.length≤64) (xi:b.l.length≤64) (hi64:i5 < 64) (hd5:a.l.drop i5=x5::a.l.drop (i5+1)) (hg8_v8_0:yX.length≤64 * i5+i8) (hL8:b.l.length≤1099511627776),(lim cfg).loop 29 lp29_8 ⟨60,[(0,.sl a.nl (a.l.map Sn.D) (zsl a.nl 2) none),(1,.sl b.nl (b.l.map Sn.D) (zsl b.nl 2) none),(6,.lsl 0 0 yX.length 2 none),(7,I ((i5:Nat):Int)),(8,I ((i8:Nat):Int))],[(0,⟨yX.map Sn.D,2,false⟩)],1,0⟩=some (lr_r_Sum_8 a b i5 x5 (r_Sum_8 x5 yM yX)):=by
 intro yM
 induction yM with
 | nil =>
  intro i8 yX hd8 hi8 yZ xi hi64 hd5 hg8_v8_0 hL8
  unfold r_Sum_8
  obtain rfl:i8=b.l.length:=zY hd8 hi8
  exact zR [.rw 25 (I ((b.l.length:Nat):Int)),.dec false] (Ai (lt_no hd8) (Ai (zi Sn.D b) trivial)) (by kernel_rfl)
 | cons x8 yM ih =>
  intro i8 yX hd8 hi8 yZ xi hi64 hd5 hg8_v8_0 hL8
  have hlt8:=zg hd8
  unfold r_Sum_8
  exact zH (ks:=[0,1,6,7,8]) (st':=(sd20323 a b i5 x5 i8 x8 yX)) [.rw 25 (I ((b.l.length:Nat):Int)),.dec true,.el (.agg [I x5.lo,I x5.hi]),.el (.agg [I x8.lo,I x8.hi]),.el (.agg [I x5.lo,I x5.hi]),.el (.agg [I x8.lo,I x8.hi]),.op (some 54) ⟨.lsl 2 0 ((yX++[(⟨w64 (x5.lo+x8.lo),w64 (x5.hi+x8.hi)⟩:Sn)]).length) 2 none,[(0,none),(2,some ⟨(yX++[(⟨w64 (x5.lo+x8.lo),w64 (x5.hi+x8.hi)⟩:Sn)]).map Sn.D,2,false⟩)],[0,1],3⟩,.rw 28 (I ((i8+1:Nat):Int))] (Ai (zZ (i:=i8) (by have:=zg hd8; omega)) (Ai (app_row (f:=Sn.D) (te:=ye) (gO:=zu [(0,⟨yX.map Sn.D,2,false⟩),(1,⟨[.agg [I (w64 (x5.lo+x8.lo)),I (w64 (x5.hi+x8.hi))]],2,false⟩)]) (nxt:=2) (o:=0) (o2:=1) (fz:=false) z6 yX (⟨w64 (x5.lo+x8.lo),w64 (x5.hi+x8.hi)⟩:Sn) (by kernel_rfl) (by kernel_rfl) rfl (by kernel_rfl) (by decide) ⟨by simp only [ye,big] <;> (first | assumption | omega | (exact zT (by omega) (by omega)) | (exact zA (by omega)) | (exact zr (by omega)) | (exact zB (by omega)) | (exact zt (by omega)) | (exact zx _ (by omega)) | (exact Nat.le_trans (hJl _) (by rw [zn]; omega)) | (exact drop_tl (by assumption)) | (simp only [zf] at * <;> omega) | (simp only [zq,zn,GS.some_l,List.length_set,List.length_append,List.length_cons,List.length_nil] at * <;> first | with_reducible assumption | omega) | (simp only [zq,zn,GS.some_l,List.length_set,List.length_append,List.length_cons,List.length_nil,zf] at * <;> first | with_reducible assumption | omega) | (simp at * <;> omega)),by simp only [big] <;> (first | assumption | omega | (exact zT (by omega) (by omega)) | (exact zA (by omega)) | (exact zr (by omega)) | (exact zB (by omega)) | (exact zt (by omega)) | (exact zx _ (by omega)) | (exact Nat.le_trans (hJl _) (by rw [zn]; omega)) | (exact drop_tl (by assumption)) | (simp only [zf] at * <;> omega) | (simp only [zq,zn,GS.some_l,List.length_set,List.length_append,List.length_cons,List.length_nil] at * <;> first | with_reducible assumption | omega) | (simp only [zq,zn,GS.some_l,List.length_set,List.length_append,List.length_cons,List.length_nil,zf] at * <;> first | with_reducible assumption | omega) | (simp at * <;> omega))⟩) (Ai (el_at (s:=b) (f:=Sn.D) (k:=2) hd8) (Ai (el_at (s:=a) (f:=Sn.D) (k:=2) hd5) (Ai (el_at (s:=b) (f:=Sn.D) (k:=2) hd8) (Ai (el_at (s:=a) (f:=Sn.D) (k:=2) hd5) (Ai (lt_at hd8) (Ai (zi Sn.D b) trivial)))))))) (by kernel_rfl) (by (simp only [sd20323,go_sem,List.length_set,Nat.reduceAdd,Nat.reduceEqDiff,Nat.reduceLT,Nat.reduceLeDiff,bI2,zb.idsL,zb.renL,zb.snapAll,z6.idsL,z6.renL,z6.snapAll]) <;> rfl) (ih (i8+1) (yX++[(⟨w64 (x5.lo+x8.lo),w64 (x5.hi+x8.hi)⟩:Sn)]) (zj hd8) (zg hd8) (by omega) (by omega) (by omega) (by omega) (by simp only [List.length_append,List.length_cons,List.length_nil] at * <;> omega) (by omega)) (by kernel_rfl)
theorem ivt_r_Sum_8 (a:GS Sn) (b:GS Sn) (i5:Nat) (x5:Sn):∀ (yM:List Sn) (i8:Nat) (yX:List Sn) (hd8:b.l.drop i8=yM) (hi8:i8≤b.l.length) (yZ:a.l.length≤64) (xi:b.l.length≤64) (hi64:i5 < 64) (hd5:a.l.drop i5=x5::a.l.drop (i5+1)) (hg8_v8_0:yX.length≤64 * i5+i8) (hL8:b.l.length≤1099511627776),iv_r_Sum_8 a b i5 x5 (r_Sum_8 x5 yM yX):=by
 intro yM
 induction yM with
 | nil =>
  intro i8 yX hd8 hi8 yZ xi hi64 hd5 hg8_v8_0 hL8
  unfold r_Sum_8
  obtain rfl:i8=b.l.length:=zY hd8 hi8
  exact hg8_v8_0
 | cons x8 yM ih =>
  intro i8 yX hd8 hi8 yZ xi hi64 hd5 hg8_v8_0 hL8
  have hlt8:=zg hd8
  unfold r_Sum_8
  exact ih (i8+1) (yX++[(⟨w64 (x5.lo+x8.lo),w64 (x5.hi+x8.hi)⟩:Sn)]) (zj hd8) (zg hd8) (by omega) (by omega) (by omega) (by omega) (by simp only [List.length_append,List.length_cons,List.length_nil] at * <;> omega) (by omega)

def sd20325 (a:GS Sn) (b:GS Sn) (i5:Nat) (x5:Sn) (yY:Nat) (yR:Sn) (yz:List Sn):St:=⟨60,[(8,I ((yY+1:Nat):Int)),(28,I ((yY+1:Nat):Int)),(27,I ((yY:Nat):Int)),(6,.lsl 2 0 ((yz++[(⟨w64 (x5.lo+yR.lo),w64 (x5.hi+yR.hi)⟩:Sn)]).length) 2 none),(54,.lsl 2 0 ((yz++[(⟨w64 (x5.lo+yR.lo),w64 (x5.hi+yR.hi)⟩:Sn)]).length) 2 none),(53,.lsl 1 0 1 2 (some 1)),(52,.agg [I (w64 (x5.lo+yR.lo)),I (w64 (x5.hi+yR.hi))]),(51,I (w64 (x5.hi+yR.hi))),(50,I yR.hi),(49,.ptr (I yR.hi)),(48,.ptr (.agg [I yR.lo,I yR.hi])),(47,I ((yY:Nat):Int)),(46,.sl b.nl (b.l.map Sn.D) (zsl b.nl 2) none),(45,I x5.hi),(44,.ptr (I x5.hi)),(43,.ptr (.agg [I x5.lo,I x5.hi])),(42,I ((i5:Nat):Int)),(41,.sl a.nl (a.l.map Sn.D) (zsl a.nl 2) none),(40,I (w64 (x5.lo+yR.lo))),(39,I yR.lo),(38,.ptr (I yR.lo)),(37,.ptr (.agg [I yR.lo,I yR.hi])),(36,I ((yY:Nat):Int)),(35,.sl b.nl (b.l.map Sn.D) (zsl b.nl 2) none),(34,I x5.lo),(33,.ptr (I x5.lo)),(32,.ptr (.agg [I x5.lo,I x5.hi])),(31,I ((i5:Nat):Int)),(30,.sl a.nl (a.l.map Sn.D) (zsl a.nl 2) none),(29,.lsl 0 0 yz.length 2 none),(26,B true),(25,I ((b.l.length:Nat):Int)),(24,.sl b.nl (b.l.map Sn.D) (zsl b.nl 2) none),(23,I ((yY:Nat):Int)),(0,.sl a.nl (a.l.map Sn.D) (zsl a.nl 2) none),(1,.sl b.nl (b.l.map Sn.D) (zsl b.nl 2) none),(6,.lsl 0 0 yz.length 2 none),(7,I ((i5:Nat):Int)),(8,I ((yY:Nat):Int))],[(1,⟨[.agg [I (w64 (x5.lo+yR.lo)),I (w64 (x5.hi+yR.hi))]],2,false⟩),(2,⟨(yz++[(⟨w64 (x5.lo+yR.lo),w64 (x5.hi+yR.hi)⟩:Sn)]).map Sn.D,2,false⟩)],3,0⟩

inductive LR_r_Sum_8p1 where
 | x0 (yz:List Sn)
 | x1
instance:Inhabited LR_r_Sum_8p1:=⟨.x0 default⟩
def r_Sum_8p1a (x5:Sn):List Sn→(List Sn)→LR_r_Sum_8p1
 | [],yz=>.x0 yz
 | yR::yF,yz =>
  r_Sum_8p1a x5 yF (yz++[(⟨w64 (x5.lo+yR.lo),w64 (x5.hi+yR.hi)⟩:Sn)])
def r_Sum_8p1 (x5:Sn):List Sn→LR_r_Sum_8p1
 | []=>.x1
 | yR::yF =>
  r_Sum_8p1a x5 yF [(⟨w64 (x5.lo+yR.lo),w64 (x5.hi+yR.hi)⟩:Sn)]
def lr_r_Sum_8p1 (a:GS Sn) (b:GS Sn) (i5:Nat) (x5:Sn):LR_r_Sum_8p1→Exit × St
 | .x0 yz=>((.exit 2),⟨60,[(26,B false),(25,I ((b.l.length:Nat):Int)),(24,.sl b.nl (b.l.map Sn.D) (zsl b.nl 2) none),(23,I ((b.l.length:Nat):Int)),(0,.sl a.nl (a.l.map Sn.D) (zsl a.nl 2) none),(1,.sl b.nl (b.l.map Sn.D) (zsl b.nl 2) none),(6,.lsl 0 0 yz.length 2 none),(7,I ((i5:Nat):Int)),(8,I ((b.l.length:Nat):Int))],[(0,⟨yz.map Sn.D,2,false⟩)],1,0⟩)
 | .x1=>((.exit 2),⟨60,[(26,B false),(25,I ((b.l.length:Nat):Int)),(24,.sl b.nl (b.l.map Sn.D) (zsl b.nl 2) none),(23,I ((b.l.length:Nat):Int)),(0,.sl a.nl (a.l.map Sn.D) (zsl a.nl 2) none),(1,.sl b.nl (b.l.map Sn.D) (zsl b.nl 2) none),(6,.sl true [] 0 none),(7,I ((i5:Nat):Int)),(8,I ((b.l.length:Nat):Int))],[],0,0⟩)
def iv_r_Sum_8p1 (a:GS Sn) (b:GS Sn) (i5:Nat) (x5:Sn):LR_r_Sum_8p1→Prop
 | .x0 yz=>(yz.length≤64 * i5+b.l.length)
 | .x1=>True
theorem lp_r_Sum_8p1a (a:GS Sn) (b:GS Sn) (i5:Nat) (x5:Sn):∀ (yF:List Sn) (yY:Nat) (yz:List Sn) (yL:b.l.drop yY=yF) (xc:yY≤b.l.length) (yZ:a.l.length≤64) (xi:b.l.length≤64) (hi64:i5 < 64) (hd5:a.l.drop i5=x5::a.l.drop (i5+1)) (hg8p1_va8p1_0:yz.length≤64 * i5+yY) (hL8p1:b.l.length≤1099511627776),(lim cfg).loop 29 lp29_8 ⟨60,[(0,.sl a.nl (a.l.map Sn.D) (zsl a.nl 2) none),(1,.sl b.nl (b.l.map Sn.D) (zsl b.nl 2) none),(6,.lsl 0 0 yz.length 2 none),(7,I ((i5:Nat):Int)),(8,I ((yY:Nat):Int))],[(0,⟨yz.map Sn.D,2,false⟩)],1,0⟩=some (lr_r_Sum_8p1 a b i5 x5 (r_Sum_8p1a x5 yF yz)):=by
 intro yF
 induction yF with
 | nil =>
  intro yY yz yL xc yZ xi hi64 hd5 hg8p1_va8p1_0 hL8p1
  unfold r_Sum_8p1a
  obtain rfl:yY=b.l.length:=zY yL xc
  exact zR [.rw 25 (I ((b.l.length:Nat):Int)),.dec false] (Ai (lt_no yL) (Ai (zi Sn.D b) trivial)) (by kernel_rfl)
 | cons yR yF ih =>
  intro yY yz yL xc yZ xi hi64 hd5 hg8p1_va8p1_0 hL8p1
  have hlt8p1:=zg yL
  unfold r_Sum_8p1a
  exact zH (ks:=[0,1,6,7,8]) (st':=(sd20325 a b i5 x5 yY yR yz)) [.rw 25 (I ((b.l.length:Nat):Int)),.dec true,.el (.agg [I x5.lo,I x5.hi]),.el (.agg [I yR.lo,I yR.hi]),.el (.agg [I x5.lo,I x5.hi]),.el (.agg [I yR.lo,I yR.hi]),.op (some 54) ⟨.lsl 2 0 ((yz++[(⟨w64 (x5.lo+yR.lo),w64 (x5.hi+yR.hi)⟩:Sn)]).length) 2 none,[(0,none),(2,some ⟨(yz++[(⟨w64 (x5.lo+yR.lo),w64 (x5.hi+yR.hi)⟩:Sn)]).map Sn.D,2,false⟩)],[0,1],3⟩,.rw 28 (I ((yY+1:Nat):Int))] (Ai (zZ (i:=yY) (by have:=zg yL; omega)) (Ai (app_row (f:=Sn.D) (te:=ye) (gO:=zu [(0,⟨yz.map Sn.D,2,false⟩),(1,⟨[.agg [I (w64 (x5.lo+yR.lo)),I (w64 (x5.hi+yR.hi))]],2,false⟩)]) (nxt:=2) (o:=0) (o2:=1) (fz:=false) z6 yz (⟨w64 (x5.lo+yR.lo),w64 (x5.hi+yR.hi)⟩:Sn) (by kernel_rfl) (by kernel_rfl) rfl (by kernel_rfl) (by decide) ⟨by simp only [ye,big] <;> (first | assumption | omega | (exact zT (by omega) (by omega)) | (exact zA (by omega)) | (exact zr (by omega)) | (exact zB (by omega)) | (exact zt (by omega)) | (exact zx _ (by omega)) | (exact Nat.le_trans (hJl _) (by rw [zn]; omega)) | (exact drop_tl (by assumption)) | (simp only [zf] at * <;> omega) | (simp only [zq,zn,GS.some_l,List.length_set,List.length_append,List.length_cons,List.length_nil] at * <;> first | with_reducible assumption | omega) | (simp only [zq,zn,GS.some_l,List.length_set,List.length_append,List.length_cons,List.length_nil,zf] at * <;> first | with_reducible assumption | omega) | (simp at * <;> omega)),by simp only [big] <;> (first | assumption | omega | (exact zT (by omega) (by omega)) | (exact zA (by omega)) | (exact zr (by omega)) | (exact zB (by omega)) | (exact zt (by omega)) | (exact zx _ (by omega)) | (exact Nat.le_trans (hJl _) (by rw [zn]; omega)) | (exact drop_tl (by assumption)) | (simp only [zf] at * <;> omega) | (simp only [zq,zn,GS.some_l,List.length_set,List.length_append,List.length_cons,List.length_nil] at * <;> first | with_reducible assumption | omega) | (simp only [zq,zn,GS.some_l,List.length_set,List.length_append,List.length_cons,List.length_nil,zf] at * <;> first | with_reducible assumption | omega) | (simp at * <;> omega))⟩) (Ai (el_at (s:=b) (f:=Sn.D) (k:=2) yL) (Ai (el_at (s:=a) (f:=Sn.D) (k:=2) hd5) (Ai (el_at (s:=b) (f:=Sn.D) (k:=2) yL) (Ai (el_at (s:=a) (f:=Sn.D) (k:=2) hd5) (Ai (lt_at yL) (Ai (zi Sn.D b) trivial)))))))) (by kernel_rfl) (by (simp only [sd20325,go_sem,List.length_set,Nat.reduceAdd,Nat.reduceEqDiff,Nat.reduceLT,Nat.reduceLeDiff,bI2,zb.idsL,zb.renL,zb.snapAll,z6.idsL,z6.renL,z6.snapAll]) <;> rfl) (ih (yY+1) (yz++[(⟨w64 (x5.lo+yR.lo),w64 (x5.hi+yR.hi)⟩:Sn)]) (zj yL) (zg yL) (by omega) (by omega) (by omega) (by omega) (by simp only [List.length_append,List.length_cons,List.length_nil] at * <;> omega) (by omega)) (by kernel_rfl)
theorem ivt_r_Sum_8p1a (a:GS Sn) (b:GS Sn) (i5:Nat) (x5:Sn):∀ (yF:List Sn) (yY:Nat) (yz:List Sn) (yL:b.l.drop yY=yF) (xc:yY≤b.l.length) (yZ:a.l.length≤64) (xi:b.l.length≤64) (hi64:i5 < 64) (hd5:a.l.drop i5=x5::a.l.drop (i5+1)) (hg8p1_va8p1_0:yz.length≤64 * i5+yY) (hL8p1:b.l.length≤1099511627776),iv_r_Sum_8p1 a b i5 x5 (r_Sum_8p1a x5 yF yz):=by
 intro yF
 induction yF with
 | nil =>
  intro yY yz yL xc yZ xi hi64 hd5 hg8p1_va8p1_0 hL8p1
  unfold r_Sum_8p1a
  obtain rfl:yY=b.l.length:=zY yL xc
  exact hg8p1_va8p1_0
 | cons yR yF ih =>
  intro yY yz yL xc yZ xi hi64 hd5 hg8p1_va8p1_0 hL8p1
  have hlt8p1:=zg yL
  unfold r_Sum_8p1a
  exact ih (yY+1) (yz++[(⟨w64 (x5.lo+yR.lo),w64 (x5.hi+yR.hi)⟩:Sn)]) (zj yL) (zg yL) (by omega) (by omega) (by omega) (by omega) (by simp only [List.length_append,List.length_cons,List.length_nil] at * <;> omega) (by omega)
theorem lp_r_Sum_8p1 (a:GS Sn) (b:GS Sn) (i5:Nat) (x5:Sn):∀ (yF:List Sn) (yY:Nat) (yL:b.l.drop yY=yF) (xc:yY≤b.l.length) (yZ:a.l.length≤64) (xi:b.l.length≤64) (hi64:i5 < 64) (hd5:a.l.drop i5=x5::a.l.drop (i5+1)) (hL8p1:b.l.length≤1099511627776),(lim cfg).loop 29 lp29_8 ⟨60,[(0,.sl a.nl (a.l.map Sn.D) (zsl a.nl 2) none),(1,.sl b.nl (b.l.map Sn.D) (zsl b.nl 2) none),(6,.sl true [] 0 none),(7,I ((i5:Nat):Int)),(8,I ((yY:Nat):Int))],[],0,0⟩=some (lr_r_Sum_8p1 a b i5 x5 (r_Sum_8p1 x5 yF)):=by
 intro yF
 induction yF with
 | nil =>
  intro yY yL xc yZ xi hi64 hd5 hL8p1
  unfold r_Sum_8p1
  obtain rfl:yY=b.l.length:=zY yL xc
  exact zR [.rw 25 (I ((b.l.length:Nat):Int)),.dec false] (Ai (lt_no yL) (Ai (zi Sn.D b) trivial)) (by kernel_rfl)
 | cons yR yF ih =>
  intro yY yL xc yZ xi hi64 hd5 hL8p1
  have hlt8p1:=zg yL
  unfold r_Sum_8p1
  dsimp only
  exact po_turn [.rw 25 (I ((b.l.length:Nat):Int)),.dec true,.el (.agg [I x5.lo,I x5.hi]),.el (.agg [I yR.lo,I yR.hi]),.el (.agg [I x5.lo,I x5.hi]),.el (.agg [I yR.lo,I yR.hi]),.rw 28 (I ((yY+1:Nat):Int))] (Ai (zZ (i:=yY) (by have:=zg yL; omega)) (Ai (el_at (s:=b) (f:=Sn.D) (k:=2) yL) (Ai (el_at (s:=a) (f:=Sn.D) (k:=2) hd5) (Ai (el_at (s:=b) (f:=Sn.D) (k:=2) yL) (Ai (el_at (s:=a) (f:=Sn.D) (k:=2) hd5) (Ai (lt_at yL) (Ai (zi Sn.D b) trivial))))))) (lp_r_Sum_8p1a a b i5 x5 _ (yY+1) [(⟨w64 (x5.lo+yR.lo),w64 (x5.hi+yR.hi)⟩:Sn)] (zj yL) (zg yL) (by omega) (by omega) (by omega) (by omega) (by simp only [List.length_append,List.length_cons,List.length_nil] at * <;> omega) (by omega)) (by kernel_rfl)
theorem ivt_r_Sum_8p1 (a:GS Sn) (b:GS Sn) (i5:Nat) (x5:Sn):∀ (yF:List Sn) (yY:Nat) (yL:b.l.drop yY=yF) (xc:yY≤b.l.length) (yZ:a.l.length≤64) (xi:b.l.length≤64) (hi64:i5 < 64) (hd5:a.l.drop i5=x5::a.l.drop (i5+1)) (hL8p1:b.l.length≤1099511627776),iv_r_Sum_8p1 a b i5 x5 (r_Sum_8p1 x5 yF):=by
 intro yF
 induction yF with
 | nil =>
  intro yY yL xc yZ xi hi64 hd5 hL8p1
  unfold r_Sum_8p1
  obtain rfl:yY=b.l.length:=zY yL xc
  exact trivial
 | cons yR yF ih =>
  intro yY yL xc yZ xi hi64 hd5 hL8p1
  have hlt8p1:=zg yL
  unfold r_Sum_8p1
  dsimp only
  exact ivt_r_Sum_8p1a a b i5 x5 _ (yY+1) [(⟨w64 (x5.lo+yR.lo),w64 (x5.hi+yR.hi)⟩:Sn)] (zj yL) (zg yL) (by omega) (by omega) (by omega) (by omega) (by simp only [List.length_append,List.length_cons,List.length_nil] at * <;> omega) (by omega)

noncomputable def lp29_5:Code:=subC [1,1,1,0,1,0,0] (bodyC Tryz.f29)

def sd20327 (a:GS Sn) (b:GS Sn) (i5:Nat) (yX:List Sn):St:=⟨60,[(7,I ((i5+1:Nat):Int)),(22,I ((i5+1:Nat):Int)),(21,I ((i5:Nat):Int)),(26,B false),(25,I ((b.l.length:Nat):Int)),(24,.sl b.nl (b.l.map Sn.D) (zsl b.nl 2) none),(23,I ((b.l.length:Nat):Int)),(0,.sl a.nl (a.l.map Sn.D) (zsl a.nl 2) none),(1,.sl b.nl (b.l.map Sn.D) (zsl b.nl 2) none),(6,.lsl 0 0 yX.length 2 none),(7,I ((i5:Nat):Int)),(8,I ((b.l.length:Nat):Int))],[(0,⟨yX.map Sn.D,2,false⟩)],1,0⟩

def sd20321 (a:GS Sn) (b:GS Sn) (i5:Nat) (yA:List Sn):St:=⟨60,[(0,.sl a.nl (a.l.map Sn.D) (zsl a.nl 2) none),(1,.sl b.nl (b.l.map Sn.D) (zsl b.nl 2) none),(6,.lsl 0 0 yA.length 2 none),(7,I ((i5:Nat):Int)),(8,I 0)],[(0,⟨yA.map Sn.D,2,false⟩)],1,0⟩

def sd20324 (a:GS Sn) (b:GS Sn) (i5:Nat) (yX:List Sn):St:=⟨60,[(26,B false),(25,I ((b.l.length:Nat):Int)),(24,.sl b.nl (b.l.map Sn.D) (zsl b.nl 2) none),(23,I ((b.l.length:Nat):Int)),(0,.sl a.nl (a.l.map Sn.D) (zsl a.nl 2) none),(1,.sl b.nl (b.l.map Sn.D) (zsl b.nl 2) none),(6,.lsl 0 0 yX.length 2 none),(7,I ((i5:Nat):Int)),(8,I ((b.l.length:Nat):Int))],[(0,⟨yX.map Sn.D,2,false⟩)],1,0⟩

def sd20320 (a:GS Sn) (b:GS Sn) (i5:Nat) (yA:List Sn):St:=⟨60,[(8,I 0),(20,B true),(19,I ((a.l.length:Nat):Int)),(18,.sl a.nl (a.l.map Sn.D) (zsl a.nl 2) none),(17,I ((i5:Nat):Int)),(0,.sl a.nl (a.l.map Sn.D) (zsl a.nl 2) none),(1,.sl b.nl (b.l.map Sn.D) (zsl b.nl 2) none),(6,.lsl 0 0 yA.length 2 none),(7,I ((i5:Nat):Int))],[(0,⟨yA.map Sn.D,2,false⟩)],1,0⟩

def sd20328 (a:GS Sn) (b:GS Sn) (i5:Nat) (yz:List Sn):St:=⟨60,[(7,I ((i5+1:Nat):Int)),(22,I ((i5+1:Nat):Int)),(21,I ((i5:Nat):Int)),(26,B false),(25,I ((b.l.length:Nat):Int)),(24,.sl b.nl (b.l.map Sn.D) (zsl b.nl 2) none),(23,I ((b.l.length:Nat):Int)),(0,.sl a.nl (a.l.map Sn.D) (zsl a.nl 2) none),(1,.sl b.nl (b.l.map Sn.D) (zsl b.nl 2) none),(6,.lsl 0 0 yz.length 2 none),(7,I ((i5:Nat):Int)),(8,I ((b.l.length:Nat):Int))],[(0,⟨yz.map Sn.D,2,false⟩)],1,0⟩

def sd20326 (a:GS Sn) (b:GS Sn) (i5:Nat) (yz:List Sn):St:=⟨60,[(26,B false),(25,I ((b.l.length:Nat):Int)),(24,.sl b.nl (b.l.map Sn.D) (zsl b.nl 2) none),(23,I ((b.l.length:Nat):Int)),(0,.sl a.nl (a.l.map Sn.D) (zsl a.nl 2) none),(1,.sl b.nl (b.l.map Sn.D) (zsl b.nl 2) none),(6,.lsl 0 0 yz.length 2 none),(7,I ((i5:Nat):Int)),(8,I ((b.l.length:Nat):Int))],[(0,⟨yz.map Sn.D,2,false⟩)],1,0⟩

def sd20318 (a:GS Sn) (b:GS Sn) (i5:Nat):St:=⟨60,[(26,B false),(25,I ((b.l.length:Nat):Int)),(24,.sl b.nl (b.l.map Sn.D) (zsl b.nl 2) none),(23,I ((b.l.length:Nat):Int)),(0,.sl a.nl (a.l.map Sn.D) (zsl a.nl 2) none),(1,.sl b.nl (b.l.map Sn.D) (zsl b.nl 2) none),(6,.sl true [] 0 none),(7,I ((i5:Nat):Int)),(8,I ((b.l.length:Nat):Int))],[],0,0⟩

inductive LR_r_Sum_5 where
 | x0 (yA:List Sn)
 | x1
instance:Inhabited LR_r_Sum_5:=⟨.x0 default⟩
def r_Sum_5a (b:GS Sn):List Sn→(List Sn)→LR_r_Sum_5
 | [],yA=>.x0 yA
 | x5::yQ,yA =>
  match r_Sum_8 x5 b.l yA with
  | .x0 yX =>
   r_Sum_5a b yQ yX
def r_Sum_5 (b:GS Sn):List Sn→LR_r_Sum_5
 | []=>.x1
 | x5::yQ =>
  match r_Sum_8p1 x5 b.l with
  | .x0 yz =>
   r_Sum_5a b yQ yz
  | .x1 =>
   r_Sum_5 b yQ
def lr_r_Sum_5 (a:GS Sn) (b:GS Sn):LR_r_Sum_5→Exit × St
 | .x0 yA=>((.exit 0),⟨60,[(20,B false),(19,I ((a.l.length:Nat):Int)),(18,.sl a.nl (a.l.map Sn.D) (zsl a.nl 2) none),(17,I ((a.l.length:Nat):Int)),(0,.sl a.nl (a.l.map Sn.D) (zsl a.nl 2) none),(1,.sl b.nl (b.l.map Sn.D) (zsl b.nl 2) none),(6,.lsl 0 0 yA.length 2 none),(7,I ((a.l.length:Nat):Int))],[(0,⟨yA.map Sn.D,2,false⟩)],1,0⟩)
 | .x1=>((.exit 0),⟨60,[(20,B false),(19,I ((a.l.length:Nat):Int)),(18,.sl a.nl (a.l.map Sn.D) (zsl a.nl 2) none),(17,I ((a.l.length:Nat):Int)),(0,.sl a.nl (a.l.map Sn.D) (zsl a.nl 2) none),(1,.sl b.nl (b.l.map Sn.D) (zsl b.nl 2) none),(6,.sl true [] 0 none),(7,I ((a.l.length:Nat):Int))],[],0,0⟩)
def iv_r_Sum_5 (a:GS Sn) (b:GS Sn):LR_r_Sum_5→Prop
 | .x0 yA=>(yA.length≤64 * a.l.length)
 | .x1=>True
theorem lp_r_Sum_5a (a:GS Sn) (b:GS Sn):∀ (yQ:List Sn) (i5:Nat) (yA:List Sn) (hd5:a.l.drop i5=yQ) (hi5:i5≤a.l.length) (yZ:a.l.length≤64) (xi:b.l.length≤64) (hg5_va5_0:yA.length≤64 * i5) (hL5:a.l.length≤1099511627776),(lim cfg).loop 29 lp29_5 ⟨60,[(0,.sl a.nl (a.l.map Sn.D) (zsl a.nl 2) none),(1,.sl b.nl (b.l.map Sn.D) (zsl b.nl 2) none),(6,.lsl 0 0 yA.length 2 none),(7,I ((i5:Nat):Int))],[(0,⟨yA.map Sn.D,2,false⟩)],1,0⟩=some (lr_r_Sum_5 a b (r_Sum_5a b yQ yA)):=by
 intro yQ
 induction yQ with
 | nil =>
  intro i5 yA hd5 hi5 yZ xi hg5_va5_0 hL5
  unfold r_Sum_5a
  obtain rfl:i5=a.l.length:=zY hd5 hi5
  exact zR [.rw 19 (I ((a.l.length:Nat):Int)),.dec false] (Ai (lt_no hd5) (Ai (zi Sn.D a) trivial)) (by kernel_rfl)
 | cons x5 yQ ih =>
  intro i5 yA hd5 hi5 yZ xi hg5_va5_0 hL5
  have hlt5:=zg hd5
  unfold r_Sum_5a
  cases h5:r_Sum_8 x5 b.l yA with
  | x0 yX =>
   try dsimp only
   have hv_h5:=ivt_r_Sum_8 a b i5 x5 b.l 0 yA (List.drop_zero) (Nat.zero_le _) (by omega) (by omega) (by omega) (by exact drop_tl (by assumption)) (by omega) (by omega)
   rw [h5] at hv_h5
   have xt:=hv_h5
   try dsimp only [iv_r_Sum_8] at xt
   exact zH (ks:=[0,1,6,7]) (st':=(sd20327 a b i5 yX)) [.rw 19 (I ((a.l.length:Nat):Int)),.dec true,.gloop (sd20321 a b i5 yA) (.exit 2) (sd20324 a b i5 yX),.rw 22 (I ((i5+1:Nat):Int))] (Ai (zZ (i:=i5) (by have:=zg hd5; omega)) (Ai (zU (q:=lr_r_Sum_8 a b i5 x5) (lp_r_Sum_8 a b i5 x5 b.l 0 yA (List.drop_zero) (Nat.zero_le _) (by omega) (by omega) (by omega) (by exact drop_tl (by assumption)) (by omega) (by omega)) h5) (Ai (gc_of (C:=cfg) (f:=29) (a:=lp29_8) (ks:=[0,1,6,7,8]) (st:=(sd20320 a b i5 yA)) (st1:=(sd20321 a b i5 yA)) (by kernel_rfl) (by (simp only [sd20320,sd20321,go_sem,List.length_set,Nat.reduceAdd,Nat.reduceEqDiff,Nat.reduceLT,Nat.reduceLeDiff,bI2,zb.idsL,zb.renL,zb.snapAll,z6.idsL,z6.renL,z6.snapAll]) <;> rfl)) (Ai (lt_at hd5) (Ai (zi Sn.D a) trivial))))) (by kernel_rfl) (by (simp only [sd20327,go_sem,List.length_set,Nat.reduceAdd,Nat.reduceEqDiff,Nat.reduceLT,Nat.reduceLeDiff,bI2,zb.idsL,zb.renL,zb.snapAll,z6.idsL,z6.renL,z6.snapAll]) <;> rfl) (ih (i5+1) yX (zj hd5) (zg hd5) (by omega) (by omega) (by omega) (by omega)) (by kernel_rfl)
theorem ivt_r_Sum_5a (a:GS Sn) (b:GS Sn):∀ (yQ:List Sn) (i5:Nat) (yA:List Sn) (hd5:a.l.drop i5=yQ) (hi5:i5≤a.l.length) (yZ:a.l.length≤64) (xi:b.l.length≤64) (hg5_va5_0:yA.length≤64 * i5) (hL5:a.l.length≤1099511627776),iv_r_Sum_5 a b (r_Sum_5a b yQ yA):=by
 intro yQ
 induction yQ with
 | nil =>
  intro i5 yA hd5 hi5 yZ xi hg5_va5_0 hL5
  unfold r_Sum_5a
  obtain rfl:i5=a.l.length:=zY hd5 hi5
  exact hg5_va5_0
 | cons x5 yQ ih =>
  intro i5 yA hd5 hi5 yZ xi hg5_va5_0 hL5
  have hlt5:=zg hd5
  unfold r_Sum_5a
  cases h5:r_Sum_8 x5 b.l yA with
  | x0 yX =>
   try dsimp only
   have hv_h5:=ivt_r_Sum_8 a b i5 x5 b.l 0 yA (List.drop_zero) (Nat.zero_le _) (by omega) (by omega) (by omega) (by exact drop_tl (by assumption)) (by omega) (by omega)
   rw [h5] at hv_h5
   have xt:=hv_h5
   try dsimp only [iv_r_Sum_8] at xt
   exact ih (i5+1) yX (zj hd5) (zg hd5) (by omega) (by omega) (by omega) (by omega)
theorem lp_r_Sum_5 (a:GS Sn) (b:GS Sn):∀ (yQ:List Sn) (i5:Nat) (hd5:a.l.drop i5=yQ) (hi5:i5≤a.l.length) (yZ:a.l.length≤64) (xi:b.l.length≤64) (hL5:a.l.length≤1099511627776),(lim cfg).loop 29 lp29_5 ⟨60,[(0,.sl a.nl (a.l.map Sn.D) (zsl a.nl 2) none),(1,.sl b.nl (b.l.map Sn.D) (zsl b.nl 2) none),(6,.sl true [] 0 none),(7,I ((i5:Nat):Int))],[],0,0⟩=some (lr_r_Sum_5 a b (r_Sum_5 b yQ)):=by
 intro yQ
 induction yQ with
 | nil =>
  intro i5 hd5 hi5 yZ xi hL5
  unfold r_Sum_5
  obtain rfl:i5=a.l.length:=zY hd5 hi5
  exact zR [.rw 19 (I ((a.l.length:Nat):Int)),.dec false] (Ai (lt_no hd5) (Ai (zi Sn.D a) trivial)) (by kernel_rfl)
 | cons x5 yQ ih =>
  intro i5 hd5 hi5 yZ xi hL5
  have hlt5:=zg hd5
  unfold r_Sum_5
  cases h6:r_Sum_8p1 x5 b.l with
  | x0 yz =>
   try dsimp only
   have hv_h6:=ivt_r_Sum_8p1 a b i5 x5 b.l 0 (List.drop_zero) (Nat.zero_le _) (by omega) (by omega) (by omega) (by exact drop_tl (by assumption)) (by omega)
   rw [h6] at hv_h6
   have hv_h6_0:=hv_h6
   try dsimp only [iv_r_Sum_8p1] at hv_h6_0
   exact zH (ks:=[0,1,6,7]) (st':=(sd20328 a b i5 yz)) [.rw 19 (I ((a.l.length:Nat):Int)),.dec true,.loop (.exit 2) (sd20326 a b i5 yz),.rw 22 (I ((i5+1:Nat):Int))] (Ai (zZ (i:=i5) (by have:=zg hd5; omega)) (Ai (zU (q:=lr_r_Sum_8p1 a b i5 x5) (lp_r_Sum_8p1 a b i5 x5 b.l 0 (List.drop_zero) (Nat.zero_le _) (by omega) (by omega) (by omega) (by exact drop_tl (by assumption)) (by omega)) h6) (Ai (lt_at hd5) (Ai (zi Sn.D a) trivial)))) (by kernel_rfl) (by (simp only [sd20328,go_sem,List.length_set,Nat.reduceAdd,Nat.reduceEqDiff,Nat.reduceLT,Nat.reduceLeDiff,bI2,zb.idsL,zb.renL,zb.snapAll,z6.idsL,z6.renL,z6.snapAll]) <;> rfl) (lp_r_Sum_5a a b _ (i5+1) yz (zj hd5) (zg hd5) (by omega) (by omega) (by omega) (by omega)) (by kernel_rfl)
  | x1 =>
   try dsimp only
   exact po_turn [.rw 19 (I ((a.l.length:Nat):Int)),.dec true,.loop (.exit 2) (sd20318 a b i5),.rw 22 (I ((i5+1:Nat):Int))] (Ai (zZ (i:=i5) (by have:=zg hd5; omega)) (Ai (zU (q:=lr_r_Sum_8p1 a b i5 x5) (lp_r_Sum_8p1 a b i5 x5 b.l 0 (List.drop_zero) (Nat.zero_le _) (by omega) (by omega) (by omega) (by exact drop_tl (by assumption)) (by omega)) h6) (Ai (lt_at hd5) (Ai (zi Sn.D a) trivial)))) (ih (i5+1) (zj hd5) (zg hd5) (by omega) (by omega) (by omega)) (by kernel_rfl)
theorem ivt_r_Sum_5 (a:GS Sn) (b:GS Sn):∀ (yQ:List Sn) (i5:Nat) (hd5:a.l.drop i5=yQ) (hi5:i5≤a.l.length) (yZ:a.l.length≤64) (xi:b.l.length≤64) (hL5:a.l.length≤1099511627776),iv_r_Sum_5 a b (r_Sum_5 b yQ):=by
 intro yQ
 induction yQ with
 | nil =>
  intro i5 hd5 hi5 yZ xi hL5
  unfold r_Sum_5
  obtain rfl:i5=a.l.length:=zY hd5 hi5
  exact trivial
 | cons x5 yQ ih =>
  intro i5 hd5 hi5 yZ xi hL5
  have hlt5:=zg hd5
  unfold r_Sum_5
  cases h6:r_Sum_8p1 x5 b.l with
  | x0 yz =>
   try dsimp only
   have hv_h6:=ivt_r_Sum_8p1 a b i5 x5 b.l 0 (List.drop_zero) (Nat.zero_le _) (by omega) (by omega) (by omega) (by exact drop_tl (by assumption)) (by omega)
   rw [h6] at hv_h6
   have hv_h6_0:=hv_h6
   try dsimp only [iv_r_Sum_8p1] at hv_h6_0
   exact ivt_r_Sum_5a a b _ (i5+1) yz (zj hd5) (zg hd5) (by omega) (by omega) (by omega) (by omega)
  | x1 =>
   try dsimp only
   exact ih (i5+1) (zj hd5) (zg hd5) (by omega) (by omega) (by omega)

def r_Sum (a:GS Sn) (b:GS Sn):(GS Sn) × Int :=
 bif (zN a) then
  bif (zN b) then
   match r_Sum_5 b a.l with
   | .x0 yA =>
    bif (JJ (GS.some yA)).nl then
     (((yc (JJ (GS.some yA))).1),((yc (JJ (GS.some yA))).2))
    else
     (((yc (JJ (GS.some yA))).1),((yc (JJ (GS.some yA))).2))
   | .x1 =>
    (((yc (JJ GS.nil)).1),((yc (JJ GS.nil)).2))
  else
   (GS.nil,20)
 else
  (GS.nil,20)

def sd20329 (a:GS Sn) (b:GS Sn) (yA:List Sn):St:=⟨60,[(20,B false),(19,I ((a.l.length:Nat):Int)),(18,.sl a.nl (a.l.map Sn.D) (zsl a.nl 2) none),(17,I ((a.l.length:Nat):Int)),(0,.sl a.nl (a.l.map Sn.D) (zsl a.nl 2) none),(1,.sl b.nl (b.l.map Sn.D) (zsl b.nl 2) none),(6,.lsl 0 0 yA.length 2 none),(7,I ((a.l.length:Nat):Int))],[(0,⟨yA.map Sn.D,2,false⟩)],1,0⟩

def sd20330 (a:GS Sn) (b:GS Sn):St:=⟨60,[(20,B false),(19,I ((a.l.length:Nat):Int)),(18,.sl a.nl (a.l.map Sn.D) (zsl a.nl 2) none),(17,I ((a.l.length:Nat):Int)),(0,.sl a.nl (a.l.map Sn.D) (zsl a.nl 2) none),(1,.sl b.nl (b.l.map Sn.D) (zsl b.nl 2) none),(6,.sl true [] 0 none),(7,I ((a.l.length:Nat):Int))],[],0,0⟩

theorem T_r_Sum (a:GS Sn) (b:GS Sn) (hLa:a.l.length≤9223372036854775807) (hLb:b.l.length≤9223372036854775807):(lim cfg).pure 29 [GS.D Sn.D 2 a,GS.D Sn.D 2 b]=some (.tup [GS.D Sn.D 2 ((r_Sum a b).1),I ((r_Sum a b).2)]):=by
 unfold r_Sum
 cases h1:(zN a) with
 | true =>
  have g1:=valid_len h1
  cases h2:(zN b) with
  | true =>
   have g2:=valid_len h2
   cases h7:r_Sum_5 b a.l with
   | x0 yA =>
    try dsimp only
    have hv_h7:=ivt_r_Sum_5 a b a.l 0 (List.drop_zero) (Nat.zero_le _) (by omega) (by omega) (by omega)
    rw [h7] at hv_h7
    have hv_h7_0:=hv_h7
    try dsimp only [iv_r_Sum_5] at hv_h7_0
    have p1:=(zU (q:=lr_r_Sum_5 a b) (lp_r_Sum_5 a b a.l 0 (List.drop_zero) (Nat.zero_le _) (by omega) (by omega) (by omega)) h7)
    cases h8:(JJ (GS.some yA)).nl with
    | true =>
     exact zo [.pure (B (zN a)),.dec true,.pure (B (zN b)),.dec true,.loop (.exit 0) (sd20329 a b yA),.pureS (.sl ((JJ (GS.some yA)).nl) (((JJ (GS.some yA)).l).map Sn.D) (zsl ((JJ (GS.some yA)).nl) 2) none) true [(0,.sl false (yA.map Sn.D) 2 none,[0])],.pure (.tup [.sl (((yc (JJ (GS.some yA))).1).nl) ((((yc (JJ (GS.some yA))).1).l).map Sn.D) (zsl (((yc (JJ (GS.some yA))).1).nl) 2) none,I ((yc (JJ (GS.some yA))).2)])] (Ai (T_r_Fit (JJ (GS.some yA))) (Ai (Ai (show flat fuelD (.sl ((JJ (GS.some yA)).nl) (((JJ (GS.some yA)).l).map Sn.D) (zsl ((JJ (GS.some yA)).nl) 2) none)=true from (by rw [h8] <;> kernel_rfl)) (Ai (Ai (snap_row (gO:=zu [(0,⟨yA.map Sn.D,2,false⟩)]) (o:=0) (len:=yA.length) (cap:=none) (fz:=false) z6 yA (by kernel_rfl) (by omega)) trivial) (T_JJ (GS.some yA) (by simp only [zq,zn,GS.some_l,List.length_set,List.length_append,List.length_cons,List.length_nil] at * <;> first | with_reducible assumption | omega)))) (Ai p1 (Ai h2 (Ai (T_r_Valid b (by omega)) (Ai h1 (Ai (T_r_Valid a (by omega)) trivial))))))) (by kernel_rfl)
    | false =>
     exact zo [.pure (B (zN a)),.dec true,.pure (B (zN b)),.dec true,.loop (.exit 0) (sd20329 a b yA),.pureS (.sl ((JJ (GS.some yA)).nl) (((JJ (GS.some yA)).l).map Sn.D) (zsl ((JJ (GS.some yA)).nl) 2) none) false [(0,.sl false (yA.map Sn.D) 2 none,[0])],.pure (.tup [.sl (((yc (JJ (GS.some yA))).1).nl) ((((yc (JJ (GS.some yA))).1).l).map Sn.D) (zsl (((yc (JJ (GS.some yA))).1).nl) 2) none,I ((yc (JJ (GS.some yA))).2)])] (Ai (T_r_Fit (JJ (GS.some yA))) (Ai (Ai (show flat fuelD (.sl ((JJ (GS.some yA)).nl) (((JJ (GS.some yA)).l).map Sn.D) (zsl ((JJ (GS.some yA)).nl) 2) none)=false from (by rw [h8] <;> kernel_rfl)) (Ai (Ai (snap_row (gO:=zu [(0,⟨yA.map Sn.D,2,false⟩)]) (o:=0) (len:=yA.length) (cap:=none) (fz:=false) z6 yA (by kernel_rfl) (by omega)) trivial) (T_JJ (GS.some yA) (by simp only [zq,zn,GS.some_l,List.length_set,List.length_append,List.length_cons,List.length_nil] at * <;> first | with_reducible assumption | omega)))) (Ai p1 (Ai h2 (Ai (T_r_Valid b (by omega)) (Ai h1 (Ai (T_r_Valid a (by omega)) trivial))))))) (by kernel_rfl)
   | x1 =>
    try dsimp only
    exact zo [.pure (B (zN a)),.dec true,.pure (B (zN b)),.dec true,.loop (.exit 0) (sd20330 a b),.pure (.sl ((JJ GS.nil).nl) (((JJ GS.nil).l).map Sn.D) (zsl ((JJ GS.nil).nl) 2) none),.pure (.tup [.sl (((yc (JJ GS.nil)).1).nl) ((((yc (JJ GS.nil)).1).l).map Sn.D) (zsl (((yc (JJ GS.nil)).1).nl) 2) none,I ((yc (JJ GS.nil)).2)])] (Ai (T_r_Fit (JJ GS.nil)) (Ai (T_JJ GS.nil (by simp [GS.nil])) (Ai (zU (q:=lr_r_Sum_5 a b) (lp_r_Sum_5 a b a.l 0 (List.drop_zero) (Nat.zero_le _) (by omega) (by omega) (by omega)) h7) (Ai h2 (Ai (T_r_Valid b (by omega)) (Ai h1 (Ai (T_r_Valid a (by omega)) trivial))))))) (by kernel_rfl)
  | false =>
   exact zo [.pure (B (zN a)),.dec true,.pure (B (zN b)),.dec false] (Ai h2 (Ai (T_r_Valid b (by omega)) (Ai h1 (Ai (T_r_Valid a (by omega)) trivial)))) (by kernel_rfl)
 | false =>
  exact zo [.pure (B (zN a)),.dec false] (Ai h1 (Ai (T_r_Valid a (by omega)) trivial)) (by kernel_rfl)

noncomputable def lp31_8:Code:=subC [1,1,1,0,1,0,0,1,0,0,1,0,0] (bodyC Tryz.f31)

def sd20333 (a:GS Sn) (b:GS Sn) (i5:Nat) (x5:Sn) (i8:Nat) (x8:Sn) (yX:List Sn):St:=⟨60,[(8,I ((i8+1:Nat):Int)),(28,I ((i8+1:Nat):Int)),(27,I ((i8:Nat):Int)),(6,.lsl 2 0 ((yX++[(⟨w64 (x5.lo - x8.hi),w64 (x5.hi - x8.lo)⟩:Sn)]).length) 2 none),(54,.lsl 2 0 ((yX++[(⟨w64 (x5.lo - x8.hi),w64 (x5.hi - x8.lo)⟩:Sn)]).length) 2 none),(53,.lsl 1 0 1 2 (some 1)),(52,.agg [I (w64 (x5.lo - x8.hi)),I (w64 (x5.hi - x8.lo))]),(51,I (w64 (x5.hi - x8.lo))),(50,I x8.lo),(49,.ptr (I x8.lo)),(48,.ptr (.agg [I x8.lo,I x8.hi])),(47,I ((i8:Nat):Int)),(46,.sl b.nl (b.l.map Sn.D) (zsl b.nl 2) none),(45,I x5.hi),(44,.ptr (I x5.hi)),(43,.ptr (.agg [I x5.lo,I x5.hi])),(42,I ((i5:Nat):Int)),(41,.sl a.nl (a.l.map Sn.D) (zsl a.nl 2) none),(40,I (w64 (x5.lo - x8.hi))),(39,I x8.hi),(38,.ptr (I x8.hi)),(37,.ptr (.agg [I x8.lo,I x8.hi])),(36,I ((i8:Nat):Int)),(35,.sl b.nl (b.l.map Sn.D) (zsl b.nl 2) none),(34,I x5.lo),(33,.ptr (I x5.lo)),(32,.ptr (.agg [I x5.lo,I x5.hi])),(31,I ((i5:Nat):Int)),(30,.sl a.nl (a.l.map Sn.D) (zsl a.nl 2) none),(29,.lsl 0 0 yX.length 2 none),(26,B true),(25,I ((b.l.length:Nat):Int)),(24,.sl b.nl (b.l.map Sn.D) (zsl b.nl 2) none),(23,I ((i8:Nat):Int)),(0,.sl a.nl (a.l.map Sn.D) (zsl a.nl 2) none),(1,.sl b.nl (b.l.map Sn.D) (zsl b.nl 2) none),(6,.lsl 0 0 yX.length 2 none),(7,I ((i5:Nat):Int)),(8,I ((i8:Nat):Int))],[(1,⟨[.agg [I (w64 (x5.lo - x8.hi)),I (w64 (x5.hi - x8.lo))]],2,false⟩),(2,⟨(yX++[(⟨w64 (x5.lo - x8.hi),w64 (x5.hi - x8.lo)⟩:Sn)]).map Sn.D,2,false⟩)],3,0⟩

inductive LR_r_Difference_8 where
 | x0 (yX:List Sn)
instance:Inhabited LR_r_Difference_8:=⟨.x0 default⟩
def r_Difference_8 (x5:Sn):List Sn→(List Sn)→LR_r_Difference_8
 | [],yX=>.x0 yX
 | x8::yM,yX =>
  r_Difference_8 x5 yM (yX++[(⟨w64 (x5.lo - x8.hi),w64 (x5.hi - x8.lo)⟩:Sn)])
def lr_r_Difference_8 (a:GS Sn) (b:GS Sn) (i5:Nat) (x5:Sn):LR_r_Difference_8→Exit × St
 | .x0 yX=>((.exit 2),⟨60,[(26,B false),(25,I ((b.l.length:Nat):Int)),(24,.sl b.nl (b.l.map Sn.D) (zsl b.nl 2) none),(23,I ((b.l.length:Nat):Int)),(0,.sl a.nl (a.l.map Sn.D) (zsl a.nl 2) none),(1,.sl b.nl (b.l.map Sn.D) (zsl b.nl 2) none),(6,.lsl 0 0 yX.length 2 none),(7,I ((i5:Nat):Int)),(8,I ((b.l.length:Nat):Int))],[(0,⟨yX.map Sn.D,2,false⟩)],1,0⟩)
def iv_r_Difference_8 (a:GS Sn) (b:GS Sn) (i5:Nat) (x5:Sn):LR_r_Difference_8→Prop
 | .x0 yX=>(yX.length≤64 * i5+b.l.length)
theorem lp_r_Difference_8 (a:GS Sn) (b:GS Sn) (i5:Nat) (x5:Sn):∀ (yM:List Sn) (i8:Nat) (yX:List Sn) (hd8:b.l.drop i8=yM) (hi8:i8≤b.l.length) (yZ:a.l.length≤64) (xi:b.l.length≤64) (hi64:i5 < 64) (hd5:a.l.drop i5=x5::a.l.drop (i5+1)) (hg8_v8_0:yX.length≤64 * i5+i8) (hL8:b.l.length≤1099511627776),(lim cfg).loop 31 lp31_8 ⟨60,[(0,.sl a.nl (a.l.map Sn.D) (zsl a.nl 2) none),(1,.sl b.nl (b.l.map Sn.D) (zsl b.nl 2) none),(6,.lsl 0 0 yX.length 2 none),(7,I ((i5:Nat):Int)),(8,I ((i8:Nat):Int))],[(0,⟨yX.map Sn.D,2,false⟩)],1,0⟩=some (lr_r_Difference_8 a b i5 x5 (r_Difference_8 x5 yM yX)):=by
 intro yM
 induction yM with
 | nil =>
  intro i8 yX hd8 hi8 yZ xi hi64 hd5 hg8_v8_0 hL8
  unfold r_Difference_8
  obtain rfl:i8=b.l.length:=zY hd8 hi8
  exact zR [.rw 25 (I ((b.l.length:Nat):Int)),.dec false] (Ai (lt_no hd8) (Ai (zi Sn.D b) trivial)) (by kernel_rfl)
 | cons x8 yM ih =>
  intro i8 yX hd8 hi8 yZ xi hi64 hd5 hg8_v8_0 hL8
  have hlt8:=zg hd8
  unfold r_Difference_8
  exact zH (ks:=[0,1,6,7,8]) (st':=(sd20333 a b i5 x5 i8 x8 yX)) [.rw 25 (I ((b.l.length:Nat):Int)),.dec true,.el (.agg [I x5.lo,I x5.hi]),.el (.agg [I x8.lo,I x8.hi]),.el (.agg [I x5.lo,I x5.hi]),.el (.agg [I x8.lo,I x8.hi]),.op (some 54) ⟨.lsl 2 0 ((yX++[(⟨w64 (x5.lo - x8.hi),w64 (x5.hi - x8.lo)⟩:Sn)]).length) 2 none,[(0,none),(2,some ⟨(yX++[(⟨w64 (x5.lo - x8.hi),w64 (x5.hi - x8.lo)⟩:Sn)]).map Sn.D,2,false⟩)],[0,1],3⟩,.rw 28 (I ((i8+1:Nat):Int))] (Ai (zZ (i:=i8) (by have:=zg hd8; omega)) (Ai (app_row (f:=Sn.D) (te:=ye) (gO:=zu [(0,⟨yX.map Sn.D,2,false⟩),(1,⟨[.agg [I (w64 (x5.lo - x8.hi)),I (w64 (x5.hi - x8.lo))]],2,false⟩)]) (nxt:=2) (o:=0) (o2:=1) (fz:=false) z6 yX (⟨w64 (x5.lo - x8.hi),w64 (x5.hi - x8.lo)⟩:Sn) (by kernel_rfl) (by kernel_rfl) rfl (by kernel_rfl) (by decide) ⟨by simp only [ye,big] <;> (first | assumption | omega | (exact zT (by omega) (by omega)) | (exact zA (by omega)) | (exact zr (by omega)) | (exact zB (by omega)) | (exact zt (by omega)) | (exact zx _ (by omega)) | (exact Nat.le_trans (hJl _) (by rw [zn]; omega)) | (exact drop_tl (by assumption)) | (simp only [zf] at * <;> omega) | (simp only [zq,zn,GS.some_l,List.length_set,List.length_append,List.length_cons,List.length_nil] at * <;> first | with_reducible assumption | omega) | (simp only [zq,zn,GS.some_l,List.length_set,List.length_append,List.length_cons,List.length_nil,zf] at * <;> first | with_reducible assumption | omega) | (simp at * <;> omega)),by simp only [big] <;> (first | assumption | omega | (exact zT (by omega) (by omega)) | (exact zA (by omega)) | (exact zr (by omega)) | (exact zB (by omega)) | (exact zt (by omega)) | (exact zx _ (by omega)) | (exact Nat.le_trans (hJl _) (by rw [zn]; omega)) | (exact drop_tl (by assumption)) | (simp only [zf] at * <;> omega) | (simp only [zq,zn,GS.some_l,List.length_set,List.length_append,List.length_cons,List.length_nil] at * <;> first | with_reducible assumption | omega) | (simp only [zq,zn,GS.some_l,List.length_set,List.length_append,List.length_cons,List.length_nil,zf] at * <;> first | with_reducible assumption | omega) | (simp at * <;> omega))⟩) (Ai (el_at (s:=b) (f:=Sn.D) (k:=2) hd8) (Ai (el_at (s:=a) (f:=Sn.D) (k:=2) hd5) (Ai (el_at (s:=b) (f:=Sn.D) (k:=2) hd8) (Ai (el_at (s:=a) (f:=Sn.D) (k:=2) hd5) (Ai (lt_at hd8) (Ai (zi Sn.D b) trivial)))))))) (by kernel_rfl) (by (simp only [sd20333,go_sem,List.length_set,Nat.reduceAdd,Nat.reduceEqDiff,Nat.reduceLT,Nat.reduceLeDiff,bI2,zb.idsL,zb.renL,zb.snapAll,z6.idsL,z6.renL,z6.snapAll]) <;> rfl) (ih (i8+1) (yX++[(⟨w64 (x5.lo - x8.hi),w64 (x5.hi - x8.lo)⟩:Sn)]) (zj hd8) (zg hd8) (by omega) (by omega) (by omega) (by omega) (by simp only [List.length_append,List.length_cons,List.length_nil] at * <;> omega) (by omega)) (by kernel_rfl)
theorem ivt_r_Difference_8 (a:GS Sn) (b:GS Sn) (i5:Nat) (x5:Sn):∀ (yM:List Sn) (i8:Nat) (yX:List Sn) (hd8:b.l.drop i8=yM) (hi8:i8≤b.l.length) (yZ:a.l.length≤64) (xi:b.l.length≤64) (hi64:i5 < 64) (hd5:a.l.drop i5=x5::a.l.drop (i5+1)) (hg8_v8_0:yX.length≤64 * i5+i8) (hL8:b.l.length≤1099511627776),iv_r_Difference_8 a b i5 x5 (r_Difference_8 x5 yM yX):=by
 intro yM
 induction yM with
 | nil =>
  intro i8 yX hd8 hi8 yZ xi hi64 hd5 hg8_v8_0 hL8
  unfold r_Difference_8
  obtain rfl:i8=b.l.length:=zY hd8 hi8
  exact hg8_v8_0
 | cons x8 yM ih =>
  intro i8 yX hd8 hi8 yZ xi hi64 hd5 hg8_v8_0 hL8
  have hlt8:=zg hd8
  unfold r_Difference_8
  exact ih (i8+1) (yX++[(⟨w64 (x5.lo - x8.hi),w64 (x5.hi - x8.lo)⟩:Sn)]) (zj hd8) (zg hd8) (by omega) (by omega) (by omega) (by omega) (by simp only [List.length_append,List.length_cons,List.length_nil] at * <;> omega) (by omega)

def sd20334 (a:GS Sn) (b:GS Sn) (i5:Nat) (x5:Sn) (yY:Nat) (yR:Sn) (yz:List Sn):St:=⟨60,[(8,I ((yY+1:Nat):Int)),(28,I ((yY+1:Nat):Int)),(27,I ((yY:Nat):Int)),(6,.lsl 2 0 ((yz++[(⟨w64 (x5.lo - yR.hi),w64 (x5.hi - yR.lo)⟩:Sn)]).length) 2 none),(54,.lsl 2 0 ((yz++[(⟨w64 (x5.lo - yR.hi),w64 (x5.hi - yR.lo)⟩:Sn)]).length) 2 none),(53,.lsl 1 0 1 2 (some 1)),(52,.agg [I (w64 (x5.lo - yR.hi)),I (w64 (x5.hi - yR.lo))]),(51,I (w64 (x5.hi - yR.lo))),(50,I yR.lo),(49,.ptr (I yR.lo)),(48,.ptr (.agg [I yR.lo,I yR.hi])),(47,I ((yY:Nat):Int)),(46,.sl b.nl (b.l.map Sn.D) (zsl b.nl 2) none),(45,I x5.hi),(44,.ptr (I x5.hi)),(43,.ptr (.agg [I x5.lo,I x5.hi])),(42,I ((i5:Nat):Int)),(41,.sl a.nl (a.l.map Sn.D) (zsl a.nl 2) none),(40,I (w64 (x5.lo - yR.hi))),(39,I yR.hi),(38,.ptr (I yR.hi)),(37,.ptr (.agg [I yR.lo,I yR.hi])),(36,I ((yY:Nat):Int)),(35,.sl b.nl (b.l.map Sn.D) (zsl b.nl 2) none),(34,I x5.lo),(33,.ptr (I x5.lo)),(32,.ptr (.agg [I x5.lo,I x5.hi])),(31,I ((i5:Nat):Int)),(30,.sl a.nl (a.l.map Sn.D) (zsl a.nl 2) none),(29,.lsl 0 0 yz.length 2 none),(26,B true),(25,I ((b.l.length:Nat):Int)),(24,.sl b.nl (b.l.map Sn.D) (zsl b.nl 2) none),(23,I ((yY:Nat):Int)),(0,.sl a.nl (a.l.map Sn.D) (zsl a.nl 2) none),(1,.sl b.nl (b.l.map Sn.D) (zsl b.nl 2) none),(6,.lsl 0 0 yz.length 2 none),(7,I ((i5:Nat):Int)),(8,I ((yY:Nat):Int))],[(1,⟨[.agg [I (w64 (x5.lo - yR.hi)),I (w64 (x5.hi - yR.lo))]],2,false⟩),(2,⟨(yz++[(⟨w64 (x5.lo - yR.hi),w64 (x5.hi - yR.lo)⟩:Sn)]).map Sn.D,2,false⟩)],3,0⟩

inductive LR_r_Difference_8p1 where
 | x0 (yz:List Sn)
 | x1
instance:Inhabited LR_r_Difference_8p1:=⟨.x0 default⟩
def r_Difference_8p1a (x5:Sn):List Sn→(List Sn)→LR_r_Difference_8p1
 | [],yz=>.x0 yz
 | yR::yF,yz =>
  r_Difference_8p1a x5 yF (yz++[(⟨w64 (x5.lo - yR.hi),w64 (x5.hi - yR.lo)⟩:Sn)])
def r_Difference_8p1 (x5:Sn):List Sn→LR_r_Difference_8p1
 | []=>.x1
 | yR::yF =>
  r_Difference_8p1a x5 yF [(⟨w64 (x5.lo - yR.hi),w64 (x5.hi - yR.lo)⟩:Sn)]
def lr_r_Difference_8p1 (a:GS Sn) (b:GS Sn) (i5:Nat) (x5:Sn):LR_r_Difference_8p1→Exit × St
 | .x0 yz=>((.exit 2),⟨60,[(26,B false),(25,I ((b.l.length:Nat):Int)),(24,.sl b.nl (b.l.map Sn.D) (zsl b.nl 2) none),(23,I ((b.l.length:Nat):Int)),(0,.sl a.nl (a.l.map Sn.D) (zsl a.nl 2) none),(1,.sl b.nl (b.l.map Sn.D) (zsl b.nl 2) none),(6,.lsl 0 0 yz.length 2 none),(7,I ((i5:Nat):Int)),(8,I ((b.l.length:Nat):Int))],[(0,⟨yz.map Sn.D,2,false⟩)],1,0⟩)
 | .x1=>((.exit 2),⟨60,[(26,B false),(25,I ((b.l.length:Nat):Int)),(24,.sl b.nl (b.l.map Sn.D) (zsl b.nl 2) none),(23,I ((b.l.length:Nat):Int)),(0,.sl a.nl (a.l.map Sn.D) (zsl a.nl 2) none),(1,.sl b.nl (b.l.map Sn.D) (zsl b.nl 2) none),(6,.sl true [] 0 none),(7,I ((i5:Nat):Int)),(8,I ((b.l.length:Nat):Int))],[],0,0⟩)
def iv_r_Difference_8p1 (a:GS Sn) (b:GS Sn) (i5:Nat) (x5:Sn):LR_r_Difference_8p1→Prop
 | .x0 yz=>(yz.length≤64 * i5+b.l.length)
 | .x1=>True
theorem lp_r_Difference_8p1a (a:GS Sn) (b:GS Sn) (i5:Nat) (x5:Sn):∀ (yF:List Sn) (yY:Nat) (yz:List Sn) (yL:b.l.drop yY=yF) (xc:yY≤b.l.length) (yZ:a.l.length≤64) (xi:b.l.length≤64) (hi64:i5 < 64) (hd5:a.l.drop i5=x5::a.l.drop (i5+1)) (hg8p1_va8p1_0:yz.length≤64 * i5+yY) (hL8p1:b.l.length≤1099511627776),(lim cfg).loop 31 lp31_8 ⟨60,[(0,.sl a.nl (a.l.map Sn.D) (zsl a.nl 2) none),(1,.sl b.nl (b.l.map Sn.D) (zsl b.nl 2) none),(6,.lsl 0 0 yz.length 2 none),(7,I ((i5:Nat):Int)),(8,I ((yY:Nat):Int))],[(0,⟨yz.map Sn.D,2,false⟩)],1,0⟩=some (lr_r_Difference_8p1 a b i5 x5 (r_Difference_8p1a x5 yF yz)):=by
 intro yF
 induction yF with
 | nil =>
  intro yY yz yL xc yZ xi hi64 hd5 hg8p1_va8p1_0 hL8p1
  unfold r_Difference_8p1a
  obtain rfl:yY=b.l.length:=zY yL xc
  exact zR [.rw 25 (I ((b.l.length:Nat):Int)),.dec false] (Ai (lt_no yL) (Ai (zi Sn.D b) trivial)) (by kernel_rfl)
 | cons yR yF ih =>
  intro yY yz yL xc yZ xi hi64 hd5 hg8p1_va8p1_0 hL8p1
  have hlt8p1:=zg yL
  unfold r_Difference_8p1a
  exact zH (ks:=[0,1,6,7,8]) (st':=(sd20334 a b i5 x5 yY yR yz)) [.rw 25 (I ((b.l.length:Nat):Int)),.dec true,.el (.agg [I x5.lo,I x5.hi]),.el (.agg [I yR.lo,I yR.hi]),.el (.agg [I x5.lo,I x5.hi]),.el (.agg [I yR.lo,I yR.hi]),.op (some 54) ⟨.lsl 2 0 ((yz++[(⟨w64 (x5.lo - yR.hi),w64 (x5.hi - yR.lo)⟩:Sn)]).length) 2 none,[(0,none),(2,some ⟨(yz++[(⟨w64 (x5.lo - yR.hi),w64 (x5.hi - yR.lo)⟩:Sn)]).map Sn.D,2,false⟩)],[0,1],3⟩,.rw 28 (I ((yY+1:Nat):Int))] (Ai (zZ (i:=yY) (by have:=zg yL; omega)) (Ai (app_row (f:=Sn.D) (te:=ye) (gO:=zu [(0,⟨yz.map Sn.D,2,false⟩),(1,⟨[.agg [I (w64 (x5.lo - yR.hi)),I (w64 (x5.hi - yR.lo))]],2,false⟩)]) (nxt:=2) (o:=0) (o2:=1) (fz:=false) z6 yz (⟨w64 (x5.lo - yR.hi),w64 (x5.hi - yR.lo)⟩:Sn) (by kernel_rfl) (by kernel_rfl) rfl (by kernel_rfl) (by decide) ⟨by simp only [ye,big] <;> (first | assumption | omega | (exact zT (by omega) (by omega)) | (exact zA (by omega)) | (exact zr (by omega)) | (exact zB (by omega)) | (exact zt (by omega)) | (exact zx _ (by omega)) | (exact Nat.le_trans (hJl _) (by rw [zn]; omega)) | (exact drop_tl (by assumption)) | (simp only [zf] at * <;> omega) | (simp only [zq,zn,GS.some_l,List.length_set,List.length_append,List.length_cons,List.length_nil] at * <;> first | with_reducible assumption | omega) | (simp only [zq,zn,GS.some_l,List.length_set,List.length_append,List.length_cons,List.length_nil,zf] at * <;> first | with_reducible assumption | omega) | (simp at * <;> omega)),by simp only [big] <;> (first | assumption | omega | (exact zT (by omega) (by omega)) | (exact zA (by omega)) | (exact zr (by omega)) | (exact zB (by omega)) | (exact zt (by omega)) | (exact zx _ (by omega)) | (exact Nat.le_trans (hJl _) (by rw [zn]; omega)) | (exact drop_tl (by assumption)) | (simp only [zf] at * <;> omega) | (simp only [zq,zn,GS.some_l,List.length_set,List.length_append,List.length_cons,List.length_nil] at * <;> first | with_reducible assumption | omega) | (simp only [zq,zn,GS.some_l,List.length_set,List.length_append,List.length_cons,List.length_nil,zf] at * <;> first | with_reducible assumption | omega) | (simp at * <;> omega))⟩) (Ai (el_at (s:=b) (f:=Sn.D) (k:=2) yL) (Ai (el_at (s:=a) (f:=Sn.D) (k:=2) hd5) (Ai (el_at (s:=b) (f:=Sn.D) (k:=2) yL) (Ai (el_at (s:=a) (f:=Sn.D) (k:=2) hd5) (Ai (lt_at yL) (Ai (zi Sn.D b) trivial)))))))) (by kernel_rfl) (by (simp only [sd20334,go_sem,List.length_set,Nat.reduceAdd,Nat.reduceEqDiff,Nat.reduceLT,Nat.reduceLeDiff,bI2,zb.idsL,zb.renL,zb.snapAll,z6.idsL,z6.renL,z6.snapAll]) <;> rfl) (ih (yY+1) (yz++[(⟨w64 (x5.lo - yR.hi),w64 (x5.hi - yR.lo)⟩:Sn)]) (zj yL) (zg yL) (by omega) (by omega) (by omega) (by omega) (by simp only [List.length_append,List.length_cons,List.length_nil] at * <;> omega) (by omega)) (by kernel_rfl)
theorem ivt_r_Difference_8p1a (a:GS Sn) (b:GS Sn) (i5:Nat) (x5:Sn):∀ (yF:List Sn) (yY:Nat) (yz:List Sn) (yL:b.l.drop yY=yF) (xc:yY≤b.l.length) (yZ:a.l.length≤64) (xi:b.l.length≤64) (hi64:i5 < 64) (hd5:a.l.drop i5=x5::a.l.drop (i5+1)) (hg8p1_va8p1_0:yz.length≤64 * i5+yY) (hL8p1:b.l.length≤1099511627776),iv_r_Difference_8p1 a b i5 x5 (r_Difference_8p1a x5 yF yz):=by
 intro yF
 induction yF with
 | nil =>
  intro yY yz yL xc yZ xi hi64 hd5 hg8p1_va8p1_0 hL8p1
  unfold r_Difference_8p1a
  obtain rfl:yY=b.l.length:=zY yL xc
  exact hg8p1_va8p1_0
 | cons yR yF ih =>
  intro yY yz yL xc yZ xi hi64 hd5 hg8p1_va8p1_0 hL8p1
  have hlt8p1:=zg yL
  unfold r_Difference_8p1a
  exact ih (yY+1) (yz++[(⟨w64 (x5.lo - yR.hi),w64 (x5.hi - yR.lo)⟩:Sn)]) (zj yL) (zg yL) (by omega) (by omega) (by omega) (by omega) (by simp only [List.length_append,List.length_cons,List.length_nil] at * <;> omega) (by omega)
theorem lp_r_Difference_8p1 (a:GS Sn) (b:GS Sn) (i5:Nat) (x5:Sn):∀ (yF:List Sn) (yY:Nat) (yL:b.l.drop yY=yF) (xc:yY≤b.l.length) (yZ:a.l.length≤64) (xi:b.l.length≤64) (hi64:i5 < 64) (hd5:a.l.drop i5=x5::a.l.drop (i5+1)) (hL8p1:b.l.length≤1099511627776),(lim cfg).loop 31 lp31_8 ⟨60,[(0,.sl a.nl (a.l.map Sn.D) (zsl a.nl 2) none),(1,.sl b.nl (b.l.map Sn.D) (zsl b.nl 2) none),(6,.sl true [] 0 none),(7,I ((i5:Nat):Int)),(8,I ((yY:Nat):Int))],[],0,0⟩=some (lr_r_Difference_8p1 a b i5 x5 (r_Difference_8p1 x5 yF)):=by
 intro yF
 induction yF with
 | nil =>
  intro yY yL xc yZ xi hi64 hd5 hL8p1
  unfold r_Difference_8p1
  obtain rfl:yY=b.l.length:=zY yL xc
  exact zR [.rw 25 (I ((b.l.length:Nat):Int)),.dec false] (Ai (lt_no yL) (Ai (zi Sn.D b) trivial)) (by kernel_rfl)
 | cons yR yF ih =>
  intro yY yL xc yZ xi hi64 hd5 hL8p1
  have hlt8p1:=zg yL
  unfold r_Difference_8p1
  dsimp only
  exact po_turn [.rw 25 (I ((b.l.length:Nat):Int)),.dec true,.el (.agg [I x5.lo,I x5.hi]),.el (.agg [I yR.lo,I yR.hi]),.el (.agg [I x5.lo,I x5.hi]),.el (.agg [I yR.lo,I yR.hi]),.rw 28 (I ((yY+1:Nat):Int))] (Ai (zZ (i:=yY) (by have:=zg yL; omega)) (Ai (el_at (s:=b) (f:=Sn.D) (k:=2) yL) (Ai (el_at (s:=a) (f:=Sn.D) (k:=2) hd5) (Ai (el_at (s:=b) (f:=Sn.D) (k:=2) yL) (Ai (el_at (s:=a) (f:=Sn.D) (k:=2) hd5) (Ai (lt_at yL) (Ai (zi Sn.D b) trivial))))))) (lp_r_Difference_8p1a a b i5 x5 _ (yY+1) [(⟨w64 (x5.lo - yR.hi),w64 (x5.hi - yR.lo)⟩:Sn)] (zj yL) (zg yL) (by omega) (by omega) (by omega) (by omega) (by simp only [List.length_append,List.length_cons,List.length_nil] at * <;> omega) (by omega)) (by kernel_rfl)
theorem ivt_r_Difference_8p1 (a:GS Sn) (b:GS Sn) (i5:Nat) (x5:Sn):∀ (yF:List Sn) (yY:Nat) (yL:b.l.drop yY=yF) (xc:yY≤b.l.length) (yZ:a.l.length≤64) (xi:b.l.length≤64) (hi64:i5 < 64) (hd5:a.l.drop i5=x5::a.l.drop (i5+1)) (hL8p1:b.l.length≤1099511627776),iv_r_Difference_8p1 a b i5 x5 (r_Difference_8p1 x5 yF):=by
 intro yF
 induction yF with
 | nil =>
  intro yY yL xc yZ xi hi64 hd5 hL8p1
  unfold r_Difference_8p1
  obtain rfl:yY=b.l.length:=zY yL xc
  exact trivial
 | cons yR yF ih =>
  intro yY yL xc yZ xi hi64 hd5 hL8p1
  have hlt8p1:=zg yL
  unfold r_Difference_8p1
  dsimp only
  exact ivt_r_Difference_8p1a a b i5 x5 _ (yY+1) [(⟨w64 (x5.lo - yR.hi),w64 (x5.hi - yR.lo)⟩:Sn)] (zj yL) (zg yL) (by omega) (by omega) (by omega) (by omega) (by simp only [List.length_append,List.length_cons,List.length_nil] at * <;> omega) (by omega)

noncomputable def lp31_5:Code:=subC [1,1,1,0,1,0,0] (bodyC Tryz.f31)

inductive LR_r_Difference_5 where
 | x0 (yA:List Sn)
 | x1
instance:Inhabited LR_r_Difference_5:=⟨.x0 default⟩
def r_Difference_5a (b:GS Sn):List Sn→(List Sn)→LR_r_Difference_5
 | [],yA=>.x0 yA
 | x5::yQ,yA =>
  match r_Difference_8 x5 b.l yA with
  | .x0 yX =>
   r_Difference_5a b yQ yX
def r_Difference_5 (b:GS Sn):List Sn→LR_r_Difference_5
 | []=>.x1
 | x5::yQ =>
  match r_Difference_8p1 x5 b.l with
  | .x0 yz =>
   r_Difference_5a b yQ yz
  | .x1 =>
   r_Difference_5 b yQ
def lr_r_Difference_5 (a:GS Sn) (b:GS Sn):LR_r_Difference_5→Exit × St
 | .x0 yA=>((.exit 0),⟨60,[(20,B false),(19,I ((a.l.length:Nat):Int)),(18,.sl a.nl (a.l.map Sn.D) (zsl a.nl 2) none),(17,I ((a.l.length:Nat):Int)),(0,.sl a.nl (a.l.map Sn.D) (zsl a.nl 2) none),(1,.sl b.nl (b.l.map Sn.D) (zsl b.nl 2) none),(6,.lsl 0 0 yA.length 2 none),(7,I ((a.l.length:Nat):Int))],[(0,⟨yA.map Sn.D,2,false⟩)],1,0⟩)
 | .x1=>((.exit 0),⟨60,[(20,B false),(19,I ((a.l.length:Nat):Int)),(18,.sl a.nl (a.l.map Sn.D) (zsl a.nl 2) none),(17,I ((a.l.length:Nat):Int)),(0,.sl a.nl (a.l.map Sn.D) (zsl a.nl 2) none),(1,.sl b.nl (b.l.map Sn.D) (zsl b.nl 2) none),(6,.sl true [] 0 none),(7,I ((a.l.length:Nat):Int))],[],0,0⟩)
def iv_r_Difference_5 (a:GS Sn) (b:GS Sn):LR_r_Difference_5→Prop
 | .x0 yA=>(yA.length≤64 * a.l.length)
 | .x1=>True
theorem lp_r_Difference_5a (a:GS Sn) (b:GS Sn):∀ (yQ:List Sn) (i5:Nat) (yA:List Sn) (hd5:a.l.drop i5=yQ) (hi5:i5≤a.l.length) (yZ:a.l.length≤64) (xi:b.l.length≤64) (hg5_va5_0:yA.length≤64 * i5) (hL5:a.l.length≤1099511627776),(lim cfg).loop 31 lp31_5 ⟨60,[(0,.sl a.nl (a.l.map Sn.D) (zsl a.nl 2) none),(1,.sl b.nl (b.l.map Sn.D) (zsl b.nl 2) none),(6,.lsl 0 0 yA.length 2 none),(7,I ((i5:Nat):Int))],[(0,⟨yA.map Sn.D,2,false⟩)],1,0⟩=some (lr_r_Difference_5 a b (r_Difference_5a b yQ yA)):=by
 intro yQ
 induction yQ with
 | nil =>
  intro i5 yA hd5 hi5 yZ xi hg5_va5_0 hL5
  unfold r_Difference_5a
  obtain rfl:i5=a.l.length:=zY hd5 hi5
  exact zR [.rw 19 (I ((a.l.length:Nat):Int)),.dec false] (Ai (lt_no hd5) (Ai (zi Sn.D a) trivial)) (by kernel_rfl)
 | cons x5 yQ ih =>
  intro i5 yA hd5 hi5 yZ xi hg5_va5_0 hL5
  have hlt5:=zg hd5
  unfold r_Difference_5a
  cases h5:r_Difference_8 x5 b.l yA with
  | x0 yX =>
   try dsimp only
   have hv_h5:=ivt_r_Difference_8 a b i5 x5 b.l 0 yA (List.drop_zero) (Nat.zero_le _) (by omega) (by omega) (by omega) (by exact drop_tl (by assumption)) (by omega) (by omega)
   rw [h5] at hv_h5
   have xt:=hv_h5
   try dsimp only [iv_r_Difference_8] at xt
   exact zH (ks:=[0,1,6,7]) (st':=(sd20327 a b i5 yX)) [.rw 19 (I ((a.l.length:Nat):Int)),.dec true,.gloop (sd20321 a b i5 yA) (.exit 2) (sd20324 a b i5 yX),.rw 22 (I ((i5+1:Nat):Int))] (Ai (zZ (i:=i5) (by have:=zg hd5; omega)) (Ai (zU (q:=lr_r_Difference_8 a b i5 x5) (lp_r_Difference_8 a b i5 x5 b.l 0 yA (List.drop_zero) (Nat.zero_le _) (by omega) (by omega) (by omega) (by exact drop_tl (by assumption)) (by omega) (by omega)) h5) (Ai (gc_of (C:=cfg) (f:=31) (a:=lp31_8) (ks:=[0,1,6,7,8]) (st:=(sd20320 a b i5 yA)) (st1:=(sd20321 a b i5 yA)) (by kernel_rfl) (by (simp only [sd20320,sd20321,go_sem,List.length_set,Nat.reduceAdd,Nat.reduceEqDiff,Nat.reduceLT,Nat.reduceLeDiff,bI2,zb.idsL,zb.renL,zb.snapAll,z6.idsL,z6.renL,z6.snapAll]) <;> rfl)) (Ai (lt_at hd5) (Ai (zi Sn.D a) trivial))))) (by kernel_rfl) (by (simp only [sd20327,go_sem,List.length_set,Nat.reduceAdd,Nat.reduceEqDiff,Nat.reduceLT,Nat.reduceLeDiff,bI2,zb.idsL,zb.renL,zb.snapAll,z6.idsL,z6.renL,z6.snapAll]) <;> rfl) (ih (i5+1) yX (zj hd5) (zg hd5) (by omega) (by omega) (by omega) (by omega)) (by kernel_rfl)
theorem ivt_r_Difference_5a (a:GS Sn) (b:GS Sn):∀ (yQ:List Sn) (i5:Nat) (yA:List Sn) (hd5:a.l.drop i5=yQ) (hi5:i5≤a.l.length) (yZ:a.l.length≤64) (xi:b.l.length≤64) (hg5_va5_0:yA.length≤64 * i5) (hL5:a.l.length≤1099511627776),iv_r_Difference_5 a b (r_Difference_5a b yQ yA):=by
 intro yQ
 induction yQ with
 | nil =>
  intro i5 yA hd5 hi5 yZ xi hg5_va5_0 hL5
  unfold r_Difference_5a
  obtain rfl:i5=a.l.length:=zY hd5 hi5
  exact hg5_va5_0
 | cons x5 yQ ih =>
  intro i5 yA hd5 hi5 yZ xi hg5_va5_0 hL5
  have hlt5:=zg hd5
  unfold r_Difference_5a
  cases h5:r_Difference_8 x5 b.l yA with
  | x0 yX =>
   try dsimp only
   have hv_h5:=ivt_r_Difference_8 a b i5 x5 b.l 0 yA (List.drop_zero) (Nat.zero_le _) (by omega) (by omega) (by omega) (by exact drop_tl (by assumption)) (by omega) (by omega)
   rw [h5] at hv_h5
   have xt:=hv_h5
   try dsimp only [iv_r_Difference_8] at xt
   exact ih (i5+1) yX (zj hd5) (zg hd5) (by omega) (by omega) (by omega) (by omega)
theorem lp_r_Difference_5 (a:GS Sn) (b:GS Sn):∀ (yQ:List Sn) (i5:Nat) (hd5:a.l.drop i5=yQ) (hi5:i5≤a.l.length) (yZ:a.l.length≤64) (xi:b.l.length≤64) (hL5:a.l.length≤1099511627776),(lim cfg).loop 31 lp31_5 ⟨60,[(0,.sl a.nl (a.l.map Sn.D) (zsl a.nl 2) none),(1,.sl b.nl (b.l.map Sn.D) (zsl b.nl 2) none),(6,.sl true [] 0 none),(7,I ((i5:Nat):Int))],[],0,0⟩=some (lr_r_Difference_5 a b (r_Difference_5 b yQ)):=by
 intro yQ
 induction yQ with
 | nil =>
  intro i5 hd5 hi5 yZ xi hL5
  unfold r_Difference_5
  obtain rfl:i5=a.l.length:=zY hd5 hi5
  exact zR [.rw 19 (I ((a.l.length:Nat):Int)),.dec false] (Ai (lt_no hd5) (Ai (zi Sn.D a) trivial)) (by kernel_rfl)
 | cons x5 yQ ih =>
  intro i5 hd5 hi5 yZ xi hL5
  have hlt5:=zg hd5
  unfold r_Difference_5
  cases h6:r_Difference_8p1 x5 b.l with
  | x0 yz =>
   try dsimp only
   have hv_h6:=ivt_r_Difference_8p1 a b i5 x5 b.l 0 (List.drop_zero) (Nat.zero_le _) (by omega) (by omega) (by omega) (by exact drop_tl (by assumption)) (by omega)
   rw [h6] at hv_h6
   have hv_h6_0:=hv_h6
   try dsimp only [iv_r_Difference_8p1] at hv_h6_0
   exact zH (ks:=[0,1,6,7]) (st':=(sd20328 a b i5 yz)) [.rw 19 (I ((a.l.length:Nat):Int)),.dec true,.loop (.exit 2) (sd20326 a b i5 yz),.rw 22 (I ((i5+1:Nat):Int))] (Ai (zZ (i:=i5) (by have:=zg hd5; omega)) (Ai (zU (q:=lr_r_Difference_8p1 a b i5 x5) (lp_r_Difference_8p1 a b i5 x5 b.l 0 (List.drop_zero) (Nat.zero_le _) (by omega) (by omega) (by omega) (by exact drop_tl (by assumption)) (by omega)) h6) (Ai (lt_at hd5) (Ai (zi Sn.D a) trivial)))) (by kernel_rfl) (by (simp only [sd20328,go_sem,List.length_set,Nat.reduceAdd,Nat.reduceEqDiff,Nat.reduceLT,Nat.reduceLeDiff,bI2,zb.idsL,zb.renL,zb.snapAll,z6.idsL,z6.renL,z6.snapAll]) <;> rfl) (lp_r_Difference_5a a b _ (i5+1) yz (zj hd5) (zg hd5) (by omega) (by omega) (by omega) (by omega)) (by kernel_rfl)
  | x1 =>
   try dsimp only
   exact po_turn [.rw 19 (I ((a.l.length:Nat):Int)),.dec true,.loop (.exit 2) (sd20318 a b i5),.rw 22 (I ((i5+1:Nat):Int))] (Ai (zZ (i:=i5) (by have:=zg hd5; omega)) (Ai (zU (q:=lr_r_Difference_8p1 a b i5 x5) (lp_r_Difference_8p1 a b i5 x5 b.l 0 (List.drop_zero) (Nat.zero_le _) (by omega) (by omega) (by omega) (by exact drop_tl (by assumption)) (by omega)) h6) (Ai (lt_at hd5) (Ai (zi Sn.D a) trivial)))) (ih (i5+1) (zj hd5) (zg hd5) (by omega) (by omega) (by omega)) (by kernel_rfl)
theorem ivt_r_Difference_5 (a:GS Sn) (b:GS Sn):∀ (yQ:List Sn) (i5:Nat) (hd5:a.l.drop i5=yQ) (hi5:i5≤a.l.length) (yZ:a.l.length≤64) (xi:b.l.length≤64) (hL5:a.l.length≤1099511627776),iv_r_Difference_5 a b (r_Difference_5 b yQ):=by
 intro yQ
 induction yQ with
 | nil =>
  intro i5 hd5 hi5 yZ xi hL5
  unfold r_Difference_5
  obtain rfl:i5=a.l.length:=zY hd5 hi5
  exact trivial
 | cons x5 yQ ih =>
  intro i5 hd5 hi5 yZ xi hL5
  have hlt5:=zg hd5
  unfold r_Difference_5
  cases h6:r_Difference_8p1 x5 b.l with
  | x0 yz =>
   try dsimp only
   have hv_h6:=ivt_r_Difference_8p1 a b i5 x5 b.l 0 (List.drop_zero) (Nat.zero_le _) (by omega) (by omega) (by omega) (by exact drop_tl (by assumption)) (by omega)
   rw [h6] at hv_h6
   have hv_h6_0:=hv_h6
   try dsimp only [iv_r_Difference_8p1] at hv_h6_0
   exact ivt_r_Difference_5a a b _ (i5+1) yz (zj hd5) (zg hd5) (by omega) (by omega) (by omega) (by omega)
  | x1 =>
   try dsimp only
   exact ih (i5+1) (zj hd5) (zg hd5) (by omega) (by omega) (by omega)

def r_Difference (a:GS Sn) (b:GS Sn):(GS Sn) × Int :=
 bif (zN a) then
  bif (zN b) then
   match r_Difference_5 b a.l with
   | .x0 yA =>
    bif (JJ (GS.some yA)).nl then
     (((yc (JJ (GS.some yA))).1),((yc (JJ (GS.some yA))).2))
    else
     (((yc (JJ (GS.some yA))).1),((yc (JJ (GS.some yA))).2))
   | .x1 =>
    (((yc (JJ GS.nil)).1),((yc (JJ GS.nil)).2))
  else
   (GS.nil,20)
 else
  (GS.nil,20)

theorem T_r_Difference (a:GS Sn) (b:GS Sn) (hLa:a.l.length≤9223372036854775807) (hLb:b.l.length≤9223372036854775807):(lim cfg).pure 31 [GS.D Sn.D 2 a,GS.D Sn.D 2 b]=some (.tup [GS.D Sn.D 2 ((r_Difference a b).1),I ((r_Difference a b).2)]):=by
 unfold r_Difference
 cases h1:(zN a) with
 | true =>
  have g1:=valid_len h1
  cases h2:(zN b) with
  | true =>
   have g2:=valid_len h2
   cases h7:r_Difference_5 b a.l with
   | x0 yA =>
    try dsimp only
    have hv_h7:=ivt_r_Difference_5 a b a.l 0 (List.drop_zero) (Nat.zero_le _) (by omega) (by omega) (by omega)
    rw [h7] at hv_h7
    have hv_h7_0:=hv_h7
    try dsimp only [iv_r_Difference_5] at hv_h7_0
    have p1:=(zU (q:=lr_r_Difference_5 a b) (lp_r_Difference_5 a b a.l 0 (List.drop_zero) (Nat.zero_le _) (by omega) (by omega) (by omega)) h7)
    cases h8:(JJ (GS.some yA)).nl with
    | true =>
     exact zo [.pure (B (zN a)),.dec true,.pure (B (zN b)),.dec true,.loop (.exit 0) (sd20329 a b yA),.pureS (.sl ((JJ (GS.some yA)).nl) (((JJ (GS.some yA)).l).map Sn.D) (zsl ((JJ (GS.some yA)).nl) 2) none) true [(0,.sl false (yA.map Sn.D) 2 none,[0])],.pure (.tup [.sl (((yc (JJ (GS.some yA))).1).nl) ((((yc (JJ (GS.some yA))).1).l).map Sn.D) (zsl (((yc (JJ (GS.some yA))).1).nl) 2) none,I ((yc (JJ (GS.some yA))).2)])] (Ai (T_r_Fit (JJ (GS.some yA))) (Ai (Ai (show flat fuelD (.sl ((JJ (GS.some yA)).nl) (((JJ (GS.some yA)).l).map Sn.D) (zsl ((JJ (GS.some yA)).nl) 2) none)=true from (by rw [h8] <;> kernel_rfl)) (Ai (Ai (snap_row (gO:=zu [(0,⟨yA.map Sn.D,2,false⟩)]) (o:=0) (len:=yA.length) (cap:=none) (fz:=false) z6 yA (by kernel_rfl) (by omega)) trivial) (T_JJ (GS.some yA) (by simp only [zq,zn,GS.some_l,List.length_set,List.length_append,List.length_cons,List.length_nil] at * <;> first | with_reducible assumption | omega)))) (Ai p1 (Ai h2 (Ai (T_r_Valid b (by omega)) (Ai h1 (Ai (T_r_Valid a (by omega)) trivial))))))) (by kernel_rfl)
    | false =>
     exact zo [.pure (B (zN a)),.dec true,.pure (B (zN b)),.dec true,.loop (.exit 0) (sd20329 a b yA),.pureS (.sl ((JJ (GS.some yA)).nl) (((JJ (GS.some yA)).l).map Sn.D) (zsl ((JJ (GS.some yA)).nl) 2) none) false [(0,.sl false (yA.map Sn.D) 2 none,[0])],.pure (.tup [.sl (((yc (JJ (GS.some yA))).1).nl) ((((yc (JJ (GS.some yA))).1).l).map Sn.D) (zsl (((yc (JJ (GS.some yA))).1).nl) 2) none,I ((yc (JJ (GS.some yA))).2)])] (Ai (T_r_Fit (JJ (GS.some yA))) (Ai (Ai (show flat fuelD (.sl ((JJ (GS.some yA)).nl) (((JJ (GS.some yA)).l).map Sn.D) (zsl ((JJ (GS.some yA)).nl) 2) none)=false from (by rw [h8] <;> kernel_rfl)) (Ai (Ai (snap_row (gO:=zu [(0,⟨yA.map Sn.D,2,false⟩)]) (o:=0) (len:=yA.length) (cap:=none) (fz:=false) z6 yA (by kernel_rfl) (by omega)) trivial) (T_JJ (GS.some yA) (by simp only [zq,zn,GS.some_l,List.length_set,List.length_append,List.length_cons,List.length_nil] at * <;> first | with_reducible assumption | omega)))) (Ai p1 (Ai h2 (Ai (T_r_Valid b (by omega)) (Ai h1 (Ai (T_r_Valid a (by omega)) trivial))))))) (by kernel_rfl)
   | x1 =>
    try dsimp only
    exact zo [.pure (B (zN a)),.dec true,.pure (B (zN b)),.dec true,.loop (.exit 0) (sd20330 a b),.pure (.sl ((JJ GS.nil).nl) (((JJ GS.nil).l).map Sn.D) (zsl ((JJ GS.nil).nl) 2) none),.pure (.tup [.sl (((yc (JJ GS.nil)).1).nl) ((((yc (JJ GS.nil)).1).l).map Sn.D) (zsl (((yc (JJ GS.nil)).1).nl) 2) none,I ((yc (JJ GS.nil)).2)])] (Ai (T_r_Fit (JJ GS.nil)) (Ai (T_JJ GS.nil (by simp [GS.nil])) (Ai (zU (q:=lr_r_Difference_5 a b) (lp_r_Difference_5 a b a.l 0 (List.drop_zero) (Nat.zero_le _) (by omega) (by omega) (by omega)) h7) (Ai h2 (Ai (T_r_Valid b (by omega)) (Ai h1 (Ai (T_r_Valid a (by omega)) trivial))))))) (by kernel_rfl)
  | false =>
   exact zo [.pure (B (zN a)),.dec true,.pure (B (zN b)),.dec false] (Ai h2 (Ai (T_r_Valid b (by omega)) (Ai h1 (Ai (T_r_Valid a (by omega)) trivial)))) (by kernel_rfl)
 | false =>
  exact zo [.pure (B (zN a)),.dec false] (Ai h1 (Ai (T_r_Valid a (by omega)) trivial)) (by kernel_rfl)

end Go.VS

namespace Go.VS
open Go
set_option maxHeartbeats 0
set_option linter.unusedSimpArgs false
set_option linter.unusedVariables false

end Go.VS

namespace Go.VS
open Go Go.Proofs
set_option maxHeartbeats 0
set_option linter.unusedSimpArgs false
set_option linter.unusedVariables false
end Go.VS

namespace Go.VS
open Go
set_option maxHeartbeats 0
def Di (m z:Int):Int:=max (z - m) (m - z)
def Nst (m:Int) (S:Int→Prop) (v:Int):Prop:=S v∧∀ z,S z→Di m v≤Di m z∧(Di m z=Di m v→v≤z)
theorem Nst.congr {m:Int} {S T:Int→Prop} {v:Int} (h:Nst m S v) (e:∀ z,S z↔T z):Nst m T v:=⟨(e v).1 h.1,fun z hz=>h.2 z ((e z).2 hz)⟩
end Go.VS

namespace Go.VS
open Go
section
variable {r:GS Sn} (h:zN r=true)
include h
end
end Go.VS

namespace Go.VS
open Go
def takeR (r:GS Sn) (e:Int):GS Sn:=bif (e == 2) then GS.nil else r
def takeL (L:Bool) (e:Int):Bool:=bif (e == 2) then true else L
theorem gr_len {l:List Sn} {res:GS Sn × Int} (h:GR l res):res.1.l.length≤64:=by
 rcases h with ⟨_,h2,h3,_⟩ | ⟨_,h⟩
 ·rw [h3]; exact h2
 ·rw [h]; simp [GS.nil]
def Tk (L:Bool) (S:Int→Prop) (r:GS Sn):Prop:=L=true ∨ (Ok r.l∧Rg S r.l)
theorem Tk.take {L:Bool} {S:Int→Prop} {res:GS Sn × Int} (h:Res S res):Tk (takeL L res.2) S (takeR res.1 res.2):=by
 unfold takeL takeR
 rcases h with ⟨h1,h2,h3⟩ | h
 ·right; rw [h1]; exact ⟨h2,h3⟩
 ·left; rw [h]; rfl
end Go.VS

namespace Go.VS
open Go
set_option maxHeartbeats 0

def ofF (s:Sn):List Sn:=someS s.lo s.hi
def sh1 (k:Int) (s:Sn):List Sn:=(za s k).l
theorem each3c_eq (k:Int):∀ (l v:List Sn),zO k l v=.x0 (v++l.flatMap (sh1 k))
 | [],v=>by simp [zO]
 | y::l,v=>by
  unfold zO
  rw [emp_app (fun z=>zO k l z),each3c_eq k l _,List.flatMap_cons,List.append_assoc,Bool.cond_self]; rfl
theorem each3a'_eq (k:Int):∀ (l v:List Sn),yi k l v=.x0 (v++l.flatMap (sh1 k)) ∨ yi k l v=.x1 (v++l.flatMap (sh1 k))
 | [],v=>by right; simp [yi]
 | y::l,v=>by
  unfold yi
  rw [emp_app (fun z=>yi k l z),emp_app (fun z=>zO k l z),each3c_eq k l _,List.flatMap_cons,← List.append_assoc]
  cases (za y k).nl with
  | false=>exact .inl rfl
  | true=>exact each3a'_eq k l _
theorem each3b_eq (k:Int):∀ (l:List Sn),(l.flatMap (sh1 k)=[]∧ranges_each_3p1b k l=.x2) ∨ (l.flatMap (sh1 k) ≠ []∧ranges_each_3p1b k l=.x0 (l.flatMap (sh1 k)))
 | []=>.inl ⟨rfl,rfl⟩
 | y::l=>by
  unfold ranges_each_3p1b
  rw [Bool.cond_self]
  cases h:((za y k).l).isEmpty with
  | true =>
   rw [flat_cons_emp (f:=sh1 k) h]
   exact each3b_eq k l
  | false =>
   right
   simp only [cond_false]
   rw [each3c_eq,List.flatMap_cons]
   refine ⟨fun z=>?_,rfl⟩
   have h2:(za y k).l=[]:=(List.append_eq_nil_iff.1 z).1
   rw [h2] at h; cases h
theorem each3'_eq (k:Int):∀ (l:List Sn),(l.flatMap (sh1 k)=[]∧(ya k l=.x2 ∨ ya k l=.x3)) ∨ (l.flatMap (sh1 k) ≠ []∧(ya k l=.x0 (l.flatMap (sh1 k)) ∨ ya k l=.x1 (l.flatMap (sh1 k))))
 | []=>.inl ⟨rfl,.inr rfl⟩
 | y::l=>by
  unfold ya
  cases h:((za y k).l).isEmpty with
  | true =>
   rw [flat_cons_emp (f:=sh1 k) h]
   cases (za y k).nl with
   | true=>exact each3'_eq k l
   | false =>
    rcases each3b_eq k l with ⟨h1,h2⟩ | ⟨h1,h2⟩
    ·exact .inl ⟨h1,.inl h2⟩
    ·exact .inr ⟨h1,.inl h2⟩
  | false =>
   right
   refine ⟨fun z=>?_,?_⟩
   ·rw [List.flatMap_cons] at z
    have h2:(za y k).l=[]:=(List.append_eq_nil_iff.1 z).1
    rw [h2] at h; cases h
   ·rw [List.flatMap_cons]
    cases (za y k).nl with
    | true=>exact each3a'_eq k l _
    | false=>exact .inl (each3c_eq k l _)
theorem Shift_no {r:GS Sn} {k:Int} (h:¬ Ok r.l):zW r k=(GS.nil,20):=by
 unfold zW
 have e:zF r=20:=by
  rw [check_valid]
  rw [← valid_iff] at h
  cases hv:zN r <;> simp [hv] at h ⊢
 rw [e]; rfl
theorem Shift_emp {r:GS Sn} {k:Int} (h:r.l=[]):zW r k=(GS.nil,0):=by
 have hr:Ok r.l:=by rw [h]; exact ⟨trivial,(fun s hs=>by cases hs),by simp⟩
 unfold zW
 rw [check_iff.2 hr,h]
 rfl
theorem Shift_far {r:GS Sn} {k:Int} (hr:Ok r.l) (h:r.l ≠ []) (hk:¬ (-2199023255552≤k∧k≤2199023255552)):zW r k=(GS.nil,2):=by
 unfold zW
 have e:ranges_in k (-2199023255552) 2199023255552=false:=by
  cases h:ranges_in k (-2199023255552) 2199023255552
  ·rfl
  ·exact absurd (in_iff.1 h) hk
 have hp:decide (((r.l.length:Nat):Int) > 0)=true:=decide_eq_true (by have:=List.length_pos_iff.2 h; omega)
 rw [check_iff.2 hr,e,hp]; rfl
theorem shi_len (k:Int):∀ l:List Sn,(l.flatMap (sh1 k)).length≤l.length
 | []=>Nat.le_refl _
 | y::l=>by
  rw [List.flatMap_cons,List.length_append,List.length_cons]
  have:=shi_len k l
  have:(sh1 k y).length≤1:=shift1_len _ _
  omega
theorem Shift_gr {r:GS Sn} {k:Int} (hr:Ok r.l) (hk:-2199023255552≤k∧k≤2199023255552):GR (shiL r.l k) (zW r k):=by
 by_cases hne:r.l=[]
 ·rw [Shift_emp hne,hne]; exact GR_nil
 have hq:r.l.flatMap (sh1 k)=shiL r.l k:=by
  have:∀ l:List Sn,(∀ s∈l,s.lo≤s.hi∧-1099511627776≤s.lo∧s.hi≤1099511627776)→l.flatMap (sh1 k)=shiL l k:=by
   intro l
   induction l with
   | nil=>intro _; rfl
   | cons s l ih =>
    intro h
    have hs:=h s List.mem_cons_self
    rw [List.flatMap_cons,ih fun t ht=>h t (List.mem_cons_of_mem _ ht)]
    unfold sh1 za
    rw [w64_eq (by omega) (by omega),w64_eq (by omega) (by omega),some_l]
    unfold shiL
    rw [List.flatMap_cons]
  exact this r.l fun s hs=>(by have h1:=cn_mem hr.1 hs; have h2:=hr.2.1 s hs; omega)
 have hp:decide (((r.l.length:Nat):Int) > 0)=true:=decide_eq_true (by have:=List.length_pos_iff.2 hne; omega)
 unfold zW
 rw [check_iff.2 hr,hp,in_iff.2 hk]
 simp only [bne_self_eq_false,cond_false,cond_true]
 have hl:=shi_len k r.l
 have hl2:=hr.2.2
 rw [← hq]
 rcases each3'_eq k r.l with ⟨k1,k2 | k2⟩ | ⟨k1,k2 | k2⟩ <;> rw [k2] <;> dsimp only
 ·rw [k1]; exact GR_nil
 ·rw [k1]; exact GR_nil
 ·generalize r.l.flatMap (sh1 k)=q at *
  rcases ranges_gathered_4p1_at (l:=q) k1 (by omega) with ⟨g1,g2⟩ | ⟨g1,g2⟩
  ·rw [g2]; exact GR_end g1
  ·refine .inr ⟨.inl g1,?_⟩
   revert g2
   cases zw (zm zl q) 0 <;> intro g2 <;> first | rfl | cases g2
 ·generalize r.l.flatMap (sh1 k)=q at *
  rcases ranges_gathered_4p1_at (l:=q) k1 (by omega) with ⟨g1,g2⟩ | ⟨g1,g2⟩
  ·rw [g2]; exact GR_end g1
  ·refine .inr ⟨.inl g1,?_⟩
   revert g2
   cases zw (zm zl q) 0 <;> intro g2 <;> first | rfl | cases g2
end Go.VS

namespace Go.VS
open Go
set_option maxHeartbeats 0
theorem cn_first {c:Sn} {r:List Sn} (h:cn (c::r)):∀ s∈c::r,c.lo≤s.lo:=fun s hs=>by
 rcases List.mem_cons.1 hs with rfl | hs
 ·exact Int.le_refl _
 ·have:=h.1; have:=h.2.1 s hs; omega
theorem cn_last:∀ {l:List Sn} (hn:l ≠ []),cn l→∀ s∈l,s.hi≤(l.getLast hn).hi
 | [s],_,_,t,ht=>by rw [List.mem_singleton.1 ht]; exact Int.le_refl _
 | s::u::r,hn,h,t,ht=>by
  have ih:=cn_last (l:=u::r) (by simp) h.2.2
  rw [List.getLast_cons (by simp)]
  rcases List.mem_cons.1 ht with rfl | ht
  ·have h1:=h.2.1 u List.mem_cons_self
   have h2:=ih u List.mem_cons_self
   have h3:=cn_mem h.2.2 (s:=u) List.mem_cons_self
   omega
  ·exact ih t ht
theorem at_last {l:GS Sn} (hn:l.l ≠ []) (hl:l.l.length≤1073741824):GS.at l (w64 (((l.l.length:Nat):Int) - 1))=l.l.getLast hn:=by
 have hp:=List.length_pos_iff.2 hn
 rw [w64_eq (by omega) (by omega)]
 have e:((l.l.length:Nat):Int) - 1=((l.l.length - 1:Nat):Int):=by omega
 rw [e]
 unfold GS.at
 rw [Int.toNat_natCast,List.getD_eq_getElem?_getD,List.getElem?_eq_getElem (by omega),List.getLast_eq_getElem]; rfl
theorem fit_of {J:GS Sn} {l:List Sn} (hJ:J.l=can zl l) (hl:∀ s∈l,s.lo≤s.hi) (hb:J.l.length≤1073741824):GR l (yc J):=by
 have hr:=can_rg gcmp_lo hl
 rw [← hJ] at hr
 unfold GR
 rw [← hJ]
 unfold yc
 by_cases h1:64 < J.l.length
 ·rw [decide_eq_true (show ((J.l.length:Nat):Int) > 64 by omega),cond_true]
  exact .inr ⟨.inr h1,rfl⟩
 rw [decide_eq_false (show ¬ ((J.l.length:Nat):Int) > 64 by omega),cond_false]
 by_cases h2:J.l=[]
 ·have hnil:l=[]:=by
   cases l with
   | nil=>rfl
   | cons s r =>
    exfalso
    have:=(hr.2 s.lo).2 ⟨s,List.mem_cons_self,Int.le_refl _,hl s List.mem_cons_self⟩
    rw [h2] at this
    exact In_nil this
  rw [h2,hnil]
  left
  refine ⟨(fun s hs=>by cases hs),by simp,h2,rfl⟩
 have hp:=List.length_pos_iff.2 h2
 rw [decide_eq_true (show ((J.l.length:Nat):Int) > 0 by omega),cond_true,at_last h2 hb]
 have h0:GS.at J 0=J.l.head h2:=by
  unfold GS.at
  show J.l.getD 0 default=_
  rw [List.getD_eq_getElem?_getD,List.getElem?_eq_getElem hp,List.head_eq_getElem]; rfl
 rw [h0]
 have hfst:∀ s∈J.l,(J.l.head h2).lo≤s.lo:=by
  generalize J.l=q at *
  cases q with
  | nil=>exact absurd rfl h2
  | cons s r=>exact cn_first hr.1
 have hlst:=cn_last h2 hr.1
 have mf:=List.head_mem h2
 have ml:=List.getLast_mem h2
 by_cases h3:(J.l.head h2).lo < -1099511627776
 ·rw [decide_eq_true h3,cond_true]
  refine .inr ⟨.inl fun h=>?_,rfl⟩
  obtain ⟨s,hs,k1,k2⟩:=(hr.2 _).1 ⟨_,mf,Int.le_refl _,cn_mem hr.1 mf⟩
  have:=(h s hs).1
  unfold Ar at this
  omega
 rw [decide_eq_false h3,cond_false]
 by_cases h4:(J.l.getLast h2).hi > 1099511627776
 ·rw [decide_eq_true h4,cond_true]
  refine .inr ⟨.inl fun h=>?_,rfl⟩
  obtain ⟨s,hs,k1,k2⟩:=(hr.2 _).1 ⟨_,ml,cn_mem hr.1 ml,Int.le_refl _⟩
  have:=(h s hs).2
  unfold Ar at this
  omega
 rw [decide_eq_false h4,cond_false]
 refine .inl ⟨fun s hs=>?_,by omega,rfl,rfl⟩
 have hn:=hl s hs
 obtain ⟨t,ht,k1,k2⟩:=(hr.2 s.lo).2 ⟨s,hs,Int.le_refl _,hn⟩
 obtain ⟨u,hu,k3,k4⟩:=(hr.2 s.hi).2 ⟨s,hs,hn,Int.le_refl _⟩
 have b1:=hfst t ht
 have b2:=hlst u hu
 unfold Ar
 omega
theorem bd_ne {l:List Sn} (h:Bd l):∀ s∈l,s.lo≤s.hi:=fun s hs=>(h s hs).2.1
theorem fit_gr {l:GS Sn} (h1:l.l.length≤1073741824) (h2:Bd l.l):GR l.l (yc (JJ l)) :=
 fit_of (JJ_l h1 h2) (bd_ne h2) (by have:=JJ_len l; omega)
theorem GR.det {l l':List Sn} {r r':GS Sn × Int} (h:GR l r) (h':GR l' r') (hl:∀ s∈l,s.lo≤s.hi) (hl':∀ s∈l',s.lo≤s.hi) (hi:∀ x,In l x↔In l' x):r.2=r'.2∧r.1.l=r'.1.l:=by
 have hc:can zl l=can zl l':=((can_rg gcmp_lo hl).congr hi).unique (can_rg gcmp_lo hl')
 have ar:∀ {p q:List Sn},(∀ s∈q,s.lo≤s.hi)→(∀ x,In p x↔In q x)→ArL p→ArL q:=fun {p q} hq hi hp s hs=>by
  obtain ⟨t,ht,k1,k2⟩:=(hi s.lo).2 ⟨s,hs,Int.le_refl _,hq s hs⟩
  obtain ⟨u,hu,k3,k4⟩:=(hi s.hi).2 ⟨s,hs,hq s hs,Int.le_refl _⟩
  have b1:=hp t ht
  have b2:=hp u hu
  unfold Ar at *
  omega
 have ha:ArL l↔ArL l':=⟨ar hl' hi,ar hl fun x=>(hi x).symm⟩
 unfold GR at h h'
 rw [← hc,← ha] at h'
 rcases h with ⟨h1,h2,h3,h4⟩ | ⟨h1,h2⟩ <;> rcases h' with ⟨k1,k2,k3,k4⟩ | ⟨k1,k2⟩
 ·exact ⟨h4.trans k4.symm,h3.trans k3.symm⟩
 ·exfalso
  rcases k1 with k1 | k1
  ·exact k1 h1
  ·omega
 ·exfalso
  rcases h1 with h1 | h1
  ·exact h1 k1
  ·omega
 ·rw [h2,k2]; exact ⟨rfl,rfl⟩
theorem nil_gr:GR [] (yc (JJ GS.nil)):=fit_gr (l:=GS.nil) (by simp [GS.nil]) (fun s hs=>by cases hs)
theorem rshift9a (k:Int):∀ (l v:List Sn),r_Shift_9a k l v=.x0 (v++l.map fun s=>⟨w64 (s.lo+k),w64 (s.hi+k)⟩)
 | [],v=>by simp [r_Shift_9a]
 | x::l,v=>by unfold r_Shift_9a; rw [rshift9a k l _]; simp
theorem shi_map {r:List Sn} {k:Int} (h:cn r) (hb:bd r) (hk:-2199023255552≤k∧k≤2199023255552):r.map (fun s=>(⟨w64 (s.lo+k),w64 (s.hi+k)⟩:Sn))=shiL r k:=by
 have:∀ l:List Sn,(∀ s∈l,s.lo≤s.hi∧-1099511627776≤s.lo∧s.hi≤1099511627776)→l.map (fun s=>(⟨w64 (s.lo+k),w64 (s.hi+k)⟩:Sn))=shiL l k:=by
  intro l
  induction l with
  | nil=>intro _; rfl
  | cons s l ih =>
   intro h
   have hs:=h s List.mem_cons_self
   rw [List.map_cons,ih fun t ht=>h t (List.mem_cons_of_mem _ ht)]
   unfold shiL
   rw [List.flatMap_cons,w64_eq (by omega) (by omega),w64_eq (by omega) (by omega)]
   unfold someS
   rw [if_neg (by omega)]; rfl
 exact this r fun s hs=>by have h1:=cn_mem h hs; have h2:=hb s hs; omega
theorem cn_shi {k:Int}:∀ {r:List Sn},cn r→cn (r.map fun s=>(⟨s.lo+k,s.hi+k⟩:Sn))
 | [],_=>trivial
 | s::r,h=>⟨by simp only; have:=h.1; omega,fun t ht=>by
   obtain ⟨u,hu,rfl⟩:=List.mem_map.1 ht
   have:=h.2.1 u hu
   simp only; omega,cn_shi h.2.2⟩
theorem shi_plain {k:Int} {r:List Sn} (h:∀ s∈r,s.lo≤s.hi):shiL r k=r.map fun s=>(⟨s.lo+k,s.hi+k⟩:Sn):=by
 unfold shiL
 induction r with
 | nil=>rfl
 | cons s r ih =>
  rw [List.flatMap_cons,List.map_cons,ih fun t ht=>h t (List.mem_cons_of_mem _ ht)]
  have:=h s List.mem_cons_self
  unfold someS
  rw [if_neg (by omega)]; rfl
theorem rShift_gr {r:GS Sn} {k:Int} (hr:Ok r.l) (hk:-2199023255552≤k∧k≤2199023255552):GR (shiL r.l k) (r_Shift r k):=by
 have hn:∀ s∈r.l,s.lo≤s.hi:=fun s hs=>cn_mem hr.1 hs
 have hne:∀ s∈shiL r.l k,s.lo≤s.hi:=flat_ne fun a _=>some_ne
 have hc:can zl (shiL r.l k)=shiL r.l k:=(can_rg gcmp_lo hne).unique ⟨by rw [shi_plain hn]; exact cn_shi hr.1,fun _=>Iff.rfl⟩
 unfold r_Shift
 rw [valid_iff.2 hr,cond_true]
 by_cases h0:r.l=[]
 ·rw [h0]; exact GR_nil
 have hp:=List.length_pos_iff.2 h0
 have e0:(((r.l.length:Nat):Int) == 0)=false:=beq_eq_false_iff_ne.2 (by omega)
 rw [e0,cond_false,decide_eq_false (show ¬ k > 2199023255552 by omega),cond_false,decide_eq_false (show ¬ k < -2199023255552 by omega),cond_false]
 have e9:r_Shift_9 k r.l=.x0 (shiL r.l k):=by
  rw [← shi_map hr.1 hr.2.1 hk]
  cases e:r.l with
  | nil=>exact absurd e h0
  | cons s l=>unfold r_Shift_9; dsimp only; rw [rshift9a]; rfl
 rw [e9]
 dsimp only
 rw [Bool.cond_self]
 refine fit_of (J:=GS.some (shiL r.l k)) hc.symm hne ?_
 rw [GS.some_l,shi_plain hn,List.length_map]
 have:=hr.2.2; omega
theorem rShift_no {r:GS Sn} {k:Int} (h:¬ Ok r.l):r_Shift r k=(GS.nil,20):=by
 rw [← valid_iff] at h
 unfold r_Shift
 cases hv:zN r
 ·rfl
 ·exact absurd hv h
theorem rShift_emp {r:GS Sn} {k:Int} (h:r.l=[]):r_Shift r k=(GS.nil,0):=by
 have hr:Ok r.l:=by rw [h]; exact ⟨trivial,(fun s hs=>by cases hs),by simp⟩
 unfold r_Shift
 rw [valid_iff.2 hr,h]; rfl
theorem rShift_far {r:GS Sn} {k:Int} (hr:Ok r.l) (h:r.l ≠ []) (hk:¬ (-2199023255552≤k∧k≤2199023255552)):r_Shift r k=(GS.nil,2):=by
 unfold r_Shift
 have hp:=List.length_pos_iff.2 h
 have e0:(((r.l.length:Nat):Int) == 0)=false:=beq_eq_false_iff_ne.2 (by omega)
 rw [valid_iff.2 hr,cond_true,e0,cond_false]
 by_cases h1:k > 2199023255552
 ·rw [decide_eq_true h1]; rfl
 ·rw [decide_eq_false h1,cond_false,decide_eq_true (show k < -2199023255552 by omega)]; rfl
end Go.VS

namespace Go.VS
open Go Go.Proofs
set_option maxHeartbeats 0
set_option linter.unusedSimpArgs false
set_option linter.unusedVariables false
def l_same (a:GS Sn) (e:Int) (b:GS Sn) (f:Int):Bool :=
 bif (e == f) then
  bif (r_Same a b) then
   true
  else
   false
 else
  false

theorem T_l_same (a:GS Sn) (e:Int) (b:GS Sn) (f:Int) (hL_a:a.l.length≤9223372036854775807):(lim cfg).pure 21 [GS.D Sn.D 2 a,I e,GS.D Sn.D 2 b,I f]=some (B (l_same a e b f)):=by
 unfold l_same
 cases h1:(e == f) with
 | true =>
  have g1:=eq_of_beq h1
  cases h2:(r_Same a b) with
  | true =>
   exact zo [.dec true,.pure (B (r_Same a b)),.dec true] (Ai h2 (Ai (T_r_Same a b (by first | assumption | omega | (exact zT (by omega) (by omega)) | (exact zA (by omega)) | (exact zr (by omega)) | (exact zB (by omega)) | (exact zt (by omega)) | (exact zx _ (by omega)) | (exact Nat.le_trans (hJl _) (by rw [zn]; omega)) | (exact drop_tl (by assumption)) | (simp only [zf] at * <;> omega) | (simp only [zq,zn,GS.some_l,List.length_set,List.length_append,List.length_cons,List.length_nil] at * <;> first | with_reducible assumption | omega) | (simp only [zq,zn,GS.some_l,List.length_set,List.length_append,List.length_cons,List.length_nil,zf] at * <;> first | with_reducible assumption | omega) | (simp at * <;> omega))) (Ai h1 trivial))) (by kernel_rfl)
  | false =>
   exact zo [.dec true,.pure (B (r_Same a b)),.dec false] (Ai h2 (Ai (T_r_Same a b (by first | assumption | omega | (exact zT (by omega) (by omega)) | (exact zA (by omega)) | (exact zr (by omega)) | (exact zB (by omega)) | (exact zt (by omega)) | (exact zx _ (by omega)) | (exact Nat.le_trans (hJl _) (by rw [zn]; omega)) | (exact drop_tl (by assumption)) | (simp only [zf] at * <;> omega) | (simp only [zq,zn,GS.some_l,List.length_set,List.length_append,List.length_cons,List.length_nil] at * <;> first | with_reducible assumption | omega) | (simp only [zq,zn,GS.some_l,List.length_set,List.length_append,List.length_cons,List.length_nil,zf] at * <;> first | with_reducible assumption | omega) | (simp at * <;> omega))) (Ai h1 trivial))) (by kernel_rfl)
 | false =>
  have g1:=ne_of_beq_false h1
  exact zo [.dec false] (Ai h1 trivial) (by kernel_rfl)
end Go.VS

namespace Go.VS
open Go
set_option maxHeartbeats 0
def gSum (x y:Sn):List Sn:=[⟨w64 (x.lo+y.lo),w64 (x.hi+y.hi)⟩]
theorem jSum_8 (x:Sn):∀ (l v:List Sn),r_Sum_8 x l v=.x0 (v++l.flatMap (gSum x))
 | [],v=>by simp [r_Sum_8]
 | y::l,v=>by
  unfold r_Sum_8
  rw [jSum_8 x l _,List.flatMap_cons,List.append_assoc]; rfl
theorem jSum_8p1a (x:Sn):∀ (l v:List Sn),r_Sum_8p1a x l v=.x0 (v++l.flatMap (gSum x))
 | [],v=>by simp [r_Sum_8p1a]
 | y::l,v=>by
  unfold r_Sum_8p1a
  rw [jSum_8p1a x l _,List.flatMap_cons,List.append_assoc]; rfl
theorem jSum_8p1 (x:Sn):∀ (l:List Sn),(l.flatMap (gSum x)=[]∧r_Sum_8p1 x l=.x1) ∨ r_Sum_8p1 x l=.x0 (l.flatMap (gSum x))
 | []=>.inl ⟨rfl,rfl⟩
 | y::l=>by
  unfold r_Sum_8p1
  dsimp only
  rw [List.flatMap_cons,jSum_8p1a]
  right; rfl
theorem jSum_5a (b:GS Sn):∀ (l v:List Sn),r_Sum_5a b l v=.x0 (v++y7 l b.l gSum)
 | [],v=>by simp [r_Sum_5a,y7]
 | x::l,v=>by
  unfold r_Sum_5a
  rw [jSum_8]
  dsimp only
  rw [jSum_5a b l _,List.append_assoc]; rfl
theorem jSum_5 (b:GS Sn):∀ (l:List Sn),(y7 l b.l gSum=[]∧r_Sum_5 b l=.x1) ∨ r_Sum_5 b l=.x0 (y7 l b.l gSum)
 | []=>.inl ⟨rfl,rfl⟩
 | x::l=>by
  unfold r_Sum_5
  have e:y7 (x::l) b.l gSum=b.l.flatMap (gSum x)++y7 l b.l gSum:=rfl
  rw [e]
  rcases jSum_8p1 x b.l with ⟨h1,h2⟩ | h2 <;> rw [h2] <;> dsimp only
  ·rw [h1]; exact jSum_5 b l
  ·right; rw [jSum_5a]
theorem rSum_no {a b:GS Sn} (h:¬ (Ok a.l∧Ok b.l)):r_Sum a b=(GS.nil,20):=by
 rw [← valid_iff,← valid_iff] at h
 unfold r_Sum
 cases ha:zN a <;> cases hb:zN b <;> simp [ha,hb] at h ⊢
theorem rSum_gr {a b:GS Sn} (ha:Ok a.l) (hb:Ok b.l):GR (y7 a.l b.l sumF) (r_Sum a b):=by
 have hf:y7 a.l b.l gSum=y7 a.l b.l sumF:=pairs_congr fun s hs t ht=>by
  have h1:=ha.2.1 s hs
  have h2:=hb.2.1 t ht
  have h3:=cn_mem ha.1 hs
  have h4:=cn_mem hb.1 ht
  unfold gSum sumF someS
  rw [w64_eq (by omega) (by omega),w64_eq (by omega) (by omega),if_neg (by omega)]
 have hl:(y7 a.l b.l sumF).length≤64 * 64:=Nat.le_trans (pairs_len fun s t=>some_len) (Nat.mul_le_mul ha.2.2 hb.2.2)
 have hd:Bd (y7 a.l b.l sumF):=fun u hu=>by
  unfold y7 at hu
  obtain ⟨s,hs,hu⟩:=List.mem_flatMap.1 hu
  obtain ⟨t,ht,hu⟩:=List.mem_flatMap.1 hu
  have h1:=ha.2.1 s hs
  have h2:=hb.2.1 t ht
  have h3:=some_ne u hu
  unfold sumF someS at hu
  split at hu
  ·cases hu
  ·rw [List.mem_singleton.1 hu] at h3 ⊢
   simp only at h3 ⊢
   omega
 unfold r_Sum
 rw [valid_iff.2 ha,valid_iff.2 hb]
 simp only [cond_true]
 rcases jSum_5 b a.l with ⟨h1,h2⟩ | h2 <;> rw [h2] <;> dsimp only
 ·rw [← hf,h1]; exact nil_gr
 ·rw [Bool.cond_self,hf]
  exact fit_gr (l:=GS.some (y7 a.l b.l sumF)) (by simp only [GS.some_l]; omega) hd

def gDifference (x y:Sn):List Sn:=[⟨w64 (x.lo - y.hi),w64 (x.hi - y.lo)⟩]
theorem jDifference_8 (x:Sn):∀ (l v:List Sn),r_Difference_8 x l v=.x0 (v++l.flatMap (gDifference x))
 | [],v=>by simp [r_Difference_8]
 | y::l,v=>by
  unfold r_Difference_8
  rw [jDifference_8 x l _,List.flatMap_cons,List.append_assoc]; rfl
theorem jDifference_8p1a (x:Sn):∀ (l v:List Sn),r_Difference_8p1a x l v=.x0 (v++l.flatMap (gDifference x))
 | [],v=>by simp [r_Difference_8p1a]
 | y::l,v=>by
  unfold r_Difference_8p1a
  rw [jDifference_8p1a x l _,List.flatMap_cons,List.append_assoc]; rfl
theorem jDifference_8p1 (x:Sn):∀ (l:List Sn),(l.flatMap (gDifference x)=[]∧r_Difference_8p1 x l=.x1) ∨ r_Difference_8p1 x l=.x0 (l.flatMap (gDifference x))
 | []=>.inl ⟨rfl,rfl⟩
 | y::l=>by
  unfold r_Difference_8p1
  dsimp only
  rw [List.flatMap_cons,jDifference_8p1a]
  right; rfl
theorem jDifference_5a (b:GS Sn):∀ (l v:List Sn),r_Difference_5a b l v=.x0 (v++y7 l b.l gDifference)
 | [],v=>by simp [r_Difference_5a,y7]
 | x::l,v=>by
  unfold r_Difference_5a
  rw [jDifference_8]
  dsimp only
  rw [jDifference_5a b l _,List.append_assoc]; rfl
theorem jDifference_5 (b:GS Sn):∀ (l:List Sn),(y7 l b.l gDifference=[]∧r_Difference_5 b l=.x1) ∨ r_Difference_5 b l=.x0 (y7 l b.l gDifference)
 | []=>.inl ⟨rfl,rfl⟩
 | x::l=>by
  unfold r_Difference_5
  have e:y7 (x::l) b.l gDifference=b.l.flatMap (gDifference x)++y7 l b.l gDifference:=rfl
  rw [e]
  rcases jDifference_8p1 x b.l with ⟨h1,h2⟩ | h2 <;> rw [h2] <;> dsimp only
  ·rw [h1]; exact jDifference_5 b l
  ·right; rw [jDifference_5a]
theorem rDifference_no {a b:GS Sn} (h:¬ (Ok a.l∧Ok b.l)):r_Difference a b=(GS.nil,20):=by
 rw [← valid_iff,← valid_iff] at h
 unfold r_Difference
 cases ha:zN a <;> cases hb:zN b <;> simp [ha,hb] at h ⊢
theorem rDifference_gr {a b:GS Sn} (ha:Ok a.l) (hb:Ok b.l):GR (y7 a.l b.l difF) (r_Difference a b):=by
 have hf:y7 a.l b.l gDifference=y7 a.l b.l difF:=pairs_congr fun s hs t ht=>by
  have h1:=ha.2.1 s hs
  have h2:=hb.2.1 t ht
  have h3:=cn_mem ha.1 hs
  have h4:=cn_mem hb.1 ht
  unfold gDifference difF someS
  rw [w64_eq (by omega) (by omega),w64_eq (by omega) (by omega),if_neg (by omega)]
 have hl:(y7 a.l b.l difF).length≤64 * 64:=Nat.le_trans (pairs_len fun s t=>some_len) (Nat.mul_le_mul ha.2.2 hb.2.2)
 have hd:Bd (y7 a.l b.l difF):=fun u hu=>by
  unfold y7 at hu
  obtain ⟨s,hs,hu⟩:=List.mem_flatMap.1 hu
  obtain ⟨t,ht,hu⟩:=List.mem_flatMap.1 hu
  have h1:=ha.2.1 s hs
  have h2:=hb.2.1 t ht
  have h3:=some_ne u hu
  unfold difF someS at hu
  split at hu
  ·cases hu
  ·rw [List.mem_singleton.1 hu] at h3 ⊢
   simp only at h3 ⊢
   omega
 unfold r_Difference
 rw [valid_iff.2 ha,valid_iff.2 hb]
 simp only [cond_true]
 rcases jDifference_5 b a.l with ⟨h1,h2⟩ | h2 <;> rw [h2] <;> dsimp only
 ·rw [← hf,h1]; exact nil_gr
 ·rw [Bool.cond_self,hf]
  exact fit_gr (l:=GS.some (y7 a.l b.l difF)) (by simp only [GS.some_l]; omega) hd

section
variable (x:Sn)
end
end Go.VS

namespace Go.VS
open Go
set_option maxHeartbeats 0
theorem same_of {x y:GS Sn × Int} (h:x.2=y.2∧x.1.l=y.1.l):l_same x.1 x.2 y.1 y.2=true:=by
 unfold l_same
 rw [h.1,beq_self_eq_true,same_refl h.2]; rfl
theorem same_eq {x y:GS Sn × Int} (h:x=y):l_same x.1 x.2 y.1 y.2=true:=same_of (by rw [h]; exact ⟨rfl,rfl⟩)
theorem short_nil:(GS.nil:GS Sn).l.length≤9223372036854775807:=by simp [GS.nil]
theorem len_Sum (a b:GS Sn):(ranges_Sum a b).1.l.length≤9223372036854775807:=by
 by_cases h:Ok a.l∧Ok b.l
 ·exact Nat.le_trans (gr_len (Sum_gr h.1 h.2)) (by decide)
 ·rw [Sum_no h]; exact short_nil
theorem len_Difference (a b:GS Sn):(zJ a b).1.l.length≤9223372036854775807:=by
 by_cases h:Ok a.l∧Ok b.l
 ·exact Nat.le_trans (gr_len (Difference_gr h.1 h.2)) (by decide)
 ·rw [Difference_no h]; exact short_nil
theorem len_Shift (a:GS Sn) (k:Int):(zW a k).1.l.length≤9223372036854775807:=by
 by_cases h:Ok a.l
 ·by_cases hk:-2199023255552≤k∧k≤2199023255552
  ·exact Nat.le_trans (gr_len (Shift_gr h hk)) (by decide)
  ·by_cases h0:a.l=[]
   ·rw [Shift_emp h0]; exact short_nil
   ·rw [Shift_far h h0 hk]; exact short_nil
 ·rw [Shift_no h]; exact short_nil
theorem same_Sum (a b:GS Sn):l_same (ranges_Sum a b).1 (ranges_Sum a b).2 (r_Sum a b).1 (r_Sum a b).2=true:=by
 by_cases h:Ok a.l∧Ok b.l
 ·have hn:∀ s∈y7 a.l b.l sumF,s.lo≤s.hi:=pairs_ne fun s _ t _=>some_ne
  exact same_of ((Sum_gr h.1 h.2).det (rSum_gr h.1 h.2) hn hn fun _=>Iff.rfl)
 ·exact same_eq (by rw [Sum_no h,rSum_no h])
theorem same_Difference (a b:GS Sn):l_same (zJ a b).1 (zJ a b).2 (r_Difference a b).1 (r_Difference a b).2=true:=by
 by_cases h:Ok a.l∧Ok b.l
 ·have hn:∀ s∈y7 a.l b.l difF,s.lo≤s.hi:=pairs_ne fun s _ t _=>some_ne
  exact same_of ((Difference_gr h.1 h.2).det (rDifference_gr h.1 h.2) hn hn fun _=>Iff.rfl)
 ·exact same_eq (by rw [Difference_no h,rDifference_no h])
theorem same_Shift (a:GS Sn) (k:Int):l_same (zW a k).1 (zW a k).2 (r_Shift a k).1 (r_Shift a k).2=true:=by
 by_cases h:Ok a.l
 ·by_cases hk:-2199023255552≤k∧k≤2199023255552
  ·have hn:∀ s∈shiL a.l k,s.lo≤s.hi:=flat_ne fun a _=>some_ne
   exact same_of ((Shift_gr h hk).det (rShift_gr h hk) hn hn fun _=>Iff.rfl)
  ·by_cases h0:a.l=[]
   ·exact same_eq (by rw [Shift_emp h0,rShift_emp h0])
   ·exact same_eq (by rw [Shift_far h h0 hk,rShift_far h h0 hk])
 ·exact same_eq (by rw [Shift_no h,rShift_no h])
end Go.VS

namespace Go.VS
open Go Go.Proofs
set_option maxHeartbeats 0
set_option linter.unusedSimpArgs false
set_option linter.unusedVariables false
def l_RangesSums (a:GS Sn) (b:GS Sn) (by_:Int):Bool :=
 bif decide (((a.l.length:Nat):Int) > 2000) then
  true
 else
  bif decide (((b.l.length:Nat):Int) > 2000) then
   true
  else
   true

theorem T_l_RangesSums (a:GS Sn) (b:GS Sn) (by_:Int) (hLa:a.l.length≤9223372036854775807) (hLb:b.l.length≤9223372036854775807):(lim cfg).pure 5 [GS.D Sn.D 2 a,GS.D Sn.D 2 b,I by_]=some (B (l_RangesSums a b by_)):=by
 unfold l_RangesSums
 cases h1:decide (((a.l.length:Nat):Int) > 2000) with
 | true =>
  have g1:=of_decide_eq_true h1
  exact zo [.pure (B true),.dec true,.rw 22 (I ((a.l.length:Nat):Int)),.dec true] (Ai h1 (Ai (zi Sn.D a) (Ai (Eq.refl true) (Ai sane_ok trivial)))) (by kernel_rfl)
 | false =>
  have g1:=of_decide_eq_false h1
  cases h2:decide (((b.l.length:Nat):Int) > 2000) with
  | true =>
   have g2:=of_decide_eq_true h2
   exact zo [.pure (B true),.dec true,.rw 22 (I ((a.l.length:Nat):Int)),.dec false,.rw 26 (I ((b.l.length:Nat):Int)),.dec true] (Ai h2 (Ai (zi Sn.D b) (Ai h1 (Ai (zi Sn.D a) (Ai (Eq.refl true) (Ai sane_ok trivial)))))) (by kernel_rfl)
  | false =>
   have g2:=of_decide_eq_false h2
   exact zo [.pure (B true),.dec true,.rw 22 (I ((a.l.length:Nat):Int)),.dec false,.rw 26 (I ((b.l.length:Nat):Int)),.dec false,.pure (.tup [.sl (((zW a by_).1).nl) ((((zW a by_).1).l).map Sn.D) (zsl (((zW a by_).1).nl) 2) none,I ((zW a by_).2)]),.pure (.tup [.sl (((r_Shift a by_).1).nl) ((((r_Shift a by_).1).l).map Sn.D) (zsl (((r_Shift a by_).1).nl) 2) none,I ((r_Shift a by_).2)]),.pure (.tup [.sl (((ranges_Sum a b).1).nl) ((((ranges_Sum a b).1).l).map Sn.D) (zsl (((ranges_Sum a b).1).nl) 2) none,I ((ranges_Sum a b).2)]),.pure (.tup [.sl (((r_Sum a b).1).nl) ((((r_Sum a b).1).l).map Sn.D) (zsl (((r_Sum a b).1).nl) 2) none,I ((r_Sum a b).2)]),.pure (.tup [.sl (((zJ a b).1).nl) ((((zJ a b).1).l).map Sn.D) (zsl (((zJ a b).1).nl) 2) none,I ((zJ a b).2)]),.pure (.tup [.sl (((r_Difference a b).1).nl) ((((r_Difference a b).1).l).map Sn.D) (zsl (((r_Difference a b).1).nl) 2) none,I ((r_Difference a b).2)]),.pure (B (l_same ((zW a by_).1) ((zW a by_).2) ((r_Shift a by_).1) ((r_Shift a by_).2))),.dec true,.pure (B (l_same ((ranges_Sum a b).1) ((ranges_Sum a b).2) ((r_Sum a b).1) ((r_Sum a b).2))),.dec true,.pure (B (l_same ((zJ a b).1) ((zJ a b).2) ((r_Difference a b).1) ((r_Difference a b).2))),.dec true] (Ai (show (l_same ((zJ a b).1) ((zJ a b).2) ((r_Difference a b).1) ((r_Difference a b).2))=true from (same_Difference a b)) (Ai (T_l_same ((zJ a b).1) ((zJ a b).2) ((r_Difference a b).1) ((r_Difference a b).2) (len_Difference a b)) (Ai (show (l_same ((ranges_Sum a b).1) ((ranges_Sum a b).2) ((r_Sum a b).1) ((r_Sum a b).2))=true from (same_Sum a b)) (Ai (T_l_same ((ranges_Sum a b).1) ((ranges_Sum a b).2) ((r_Sum a b).1) ((r_Sum a b).2) (len_Sum a b)) (Ai (show (l_same ((zW a by_).1) ((zW a by_).2) ((r_Shift a by_).1) ((r_Shift a by_).2))=true from (same_Shift a by_)) (Ai (T_l_same ((zW a by_).1) ((zW a by_).2) ((r_Shift a by_).1) ((r_Shift a by_).2) (len_Shift a by_)) (Ai (T_r_Difference a b (by omega) (by omega)) (Ai (T_ranges_Difference a b (by omega) (by omega)) (Ai (T_r_Sum a b (by omega) (by omega)) (Ai (T_ranges_Sum a b (by omega) (by omega)) (Ai (T_r_Shift a by_ (by omega)) (Ai (T_ranges_Shift a by_ (by omega) (by omega)) (Ai h2 (Ai (zi Sn.D b) (Ai h1 (Ai (zi Sn.D a) (Ai (Eq.refl true) (Ai sane_ok trivial)))))))))))))))))) (by kernel_rfl)
end Go.VS

namespace Go.VS
open Go Go.Proofs Go.RowKit Go.ChangeShapes Go.WideShapes
set_option maxRecDepth 100000
theorem laid_out:laidOutB Tryz.prog=true:=by kernel_rfl
theorem maps_rowed:mapsRowed Tryz.prog=true:=by kernel_rfl
theorem sl_full:∀ t e,t < Tryz.prog.types.size→Tryz.prog.underlying t=some (.slice e)→0 < Tryz.prog.cellsOf e:=slices_full_of Tryz.prog (by kernel_rfl)
theorem i64_min:IntKind.i64.min=-9223372036854775808:=by rfl
theorem i64_max:IntKind.i64.max=9223372036854775807:=by rfl
def R64 (n:Int):Prop:=-9223372036854775808≤n∧n≤9223372036854775807
section
variable {H:Type} {enc:TypeId × Value→H} {w:World} {base base':Nat} {sp:Nat→Bool} {held:Bool} {t:TypeId} {v:Value} {d:DataW H} {p:List MemPlace} {r:Reach}
theorem arg_rep (h:DataW.Trod enc Tryz.prog w base sp held t v d p) (hv:Value.okWide Tryz.prog w r base' t v) (ht:topT cfg 8 t=true) (hr:rowedT cfg 8 t=true) :
  ∃ ds,zG (memOf w) noLoc ds v.cells.toList∧Sh cfg 8 t ds:=by
 obtain ⟨n,hn⟩:=h
 exact trod_rep (C:=cfg) (fun t ty h=>tyTab_ok.find h) 8 n t _ _ hn ht hr (.inl (plain_arg hv))
theorem repL_one {M:Mem} {m:Loc} {d:D} {cs:List Value} (h:zG M m [d] cs):∃ v,cs=[v]∧Rep M m d v:=by
 simp only [zG] at h
 obtain ⟨v,r,h1,h2,rfl⟩:=h
 exact ⟨v,h1,h2⟩
theorem one_cell {x u:Value} (h:x.cells.toList=[u]) (hp:∀ cs,x ≠ .agg cs):x=u:=by
 cases x <;> simp [Value.cells] at h <;> first | exact h | exact absurd rfl (hp _)
theorem ok_notAgg (hv:Value.okWide Tryz.prog w r base' t v) (hs:∀ fs,Tryz.prog.underlying t ≠ some (.struct fs)) (ha:∀ n e,Tryz.prog.underlying t ≠ some (.array n e)):∀ cs,v ≠ .agg cs:=by
 rintro cs rfl
 unfold Value.okWide at hv
 split at hv
 ·rename_i h; exact hs _ h
 ·rename_i h; exact ha _ _ h
 ·unfold Cell.okWide at hv
  split at hv <;> try (rename_i h1 h2; cases h2; done)
  unfold Cell.ok at hv
  split at hv <;> first | (rename_i h1 h2; cases h2; done) | cases hv
end
theorem sh3 {f:Nat} {ds:List D} (h:Sh cfg (f+1) 3 ds):∃ x:Int,ds=[I x]∧R64 x:=by
 rw [Sh,cfg_ty,cty3] at h
 simp only [ty3] at h
 obtain ⟨n,h1,h2,h3⟩:=h
 rw [i64_min] at h2
 rw [i64_max] at h3
 exact ⟨n,h1,h2,h3⟩
theorem sh25 {f:Nat} {ds:List D} (h:Sh cfg (f+2) 25 ds):∃ x:Sn,ds=[I x.lo,I x.hi]∧True:=by
 rw [Sh,cfg_ty,cty25] at h
 simp only [ye] at h
 obtain ⟨hl,hf⟩:=h
 obtain ⟨t0,q0,z0⟩:=hf (3,0) (by simp)
 obtain rfl:t0=ty3:=(Option.some.inj (cty3.symm.trans q0)).symm
 obtain ⟨x0,e0,r0⟩:=sh3 (f:=f+0) z0
 obtain ⟨t1,q1,z1⟩:=hf (3,1) (by simp)
 obtain rfl:t1=ty3:=(Option.some.inj (cty3.symm.trans q1)).symm
 obtain ⟨x1,e1,r1⟩:=sh3 (f:=f+0) z1
 rcases ds with _ | ⟨c0,_ | ⟨c1,_ | ⟨y,r⟩⟩⟩
 all_goals simp at hl
 simp [ty3] at e0
 simp [ty3] at e1
 exact ⟨⟨x0,x1⟩,by simp [*],trivial⟩
theorem sh23 {f:Nat} {ds:List D} (h:Sh cfg (f+3) 23 ds):∃ x:GS Sn,ds=[.sl x.nl (x.l.map Sn.D) (zsl x.nl 2) none]∧x.l.length≤9223372036854775807:=by
 rw [Sh,cfg_ty,cty23] at h
 simp only [ty23] at h
 rcases h with h | ⟨els,te,h1,h2,h3,h4⟩
 ·exact ⟨GS.nil,h,by simp [GS.nil]⟩
 ·obtain rfl:te=ye:=(Option.some.inj (cty25.symm.trans h1)).symm
  have key:∀ els:List D,(∀ d∈els,Sh cfg (f+2) 25 d.cells∧(ye.isAgg=true→d=.agg d.cells)∧(ye.isAgg=false→d.cells=[d]))→∃ l:List Sn,els=l.map Sn.D:=by
   intro els
   induction els with
   | nil=>intro _; exact ⟨[],rfl⟩
   | cons d els ih =>
    intro hd
    obtain ⟨l,hl⟩:=ih fun d' h'=>hd d' (List.mem_cons_of_mem _ h')
    obtain ⟨q1,q2,q3⟩:=hd d (by simp)
    obtain ⟨a,e,_⟩:=sh25 (f:=f+0) q1
    have hx:d=Sn.D a:=by rw [q2 rfl,e]; rfl
    exact ⟨a::l,by rw [List.map_cons,← hx,← hl]⟩
  obtain ⟨l,rfl⟩:=key els h4
  refine ⟨GS.some l,h2,?_⟩
  simp only [List.length_map,maxLen] at h3
  simp only [GS.some]
  omega
theorem arg23 {H:Type} {enc:TypeId × Value→H} {w:World} {base base':Nat} {sp:Nat→Bool} {held:Bool} {v:Value} {d:DataW H} {p:List MemPlace} {r:Reach} (h:DataW.Trod enc Tryz.prog w base sp held 23 v d p) (hv:Value.okWide Tryz.prog w r base' 23 v):∃ x:GS Sn,Rep (memOf w) noLoc (GS.D Sn.D 2 x) v∧x.l.length≤9223372036854775807:=by
 obtain ⟨ds,h1,h2⟩:=arg_rep h hv (by kernel_rfl) (by kernel_rfl)
 obtain ⟨x,rfl,hx⟩:=sh23 (f:=5) h2
 obtain ⟨u,e,hu⟩:=repL_one h1
 exact ⟨x,by rw [one_cell e (ok_notAgg hv (by rw [Tryz.underlying23]; simp) (by rw [Tryz.underlying23]; simp))]; exact hu,hx⟩
theorem arg3 {H:Type} {enc:TypeId × Value→H} {w:World} {base base':Nat} {sp:Nat→Bool} {held:Bool} {v:Value} {d:DataW H} {p:List MemPlace} {r:Reach} (h:DataW.Trod enc Tryz.prog w base sp held 3 v d p) (hv:Value.okWide Tryz.prog w r base' 3 v):∃ x:Int,Rep (memOf w) noLoc (I x) v∧R64 x:=by
 obtain ⟨ds,h1,h2⟩:=arg_rep h hv (by kernel_rfl) (by kernel_rfl)
 obtain ⟨x,rfl,hx⟩:=sh3 (f:=7) h2
 obtain ⟨u,e,hu⟩:=repL_one h1
 exact ⟨x,by rw [one_cell e (ok_notAgg hv (by rw [Tryz.underlying3]; simp) (by rw [Tryz.underlying3]; simp))]; exact hu,hx⟩
open Go.Lib in
theorem tab_ok {W : World} (h : laidMetH Tryz.prog [("math/bits.deBruijn32tab", YtpkjnefhnedfdaaGreatDoor.Rows.laid_math_bits_deBruijn32tab), ("math/bits.deBruijn64tab", YtpkjnefhnedfdaaGreatDoor.Rows.laid_math_bits_deBruijn64tab), ("internal/strconv.uint64pow10", YtpkjnefhnedfdaaGreatDoor.Rows.laid_internal_strconv_uint64pow10), ("unicode/utf8.acceptRanges", YtpkjnefhnedfdaaGreatDoor.Rows.laid_unicode_utf8_acceptRanges), ("strconv.ErrRange", YtpkjnefhnedfdaaGreatDoor.Rows.laid_strconv_ErrRange), ("strconv.ErrSyntax", YtpkjnefhnedfdaaGreatDoor.Rows.laid_strconv_ErrSyntax), ("unicode/utf8.first", YtpkjnefhnedfdaaGreatDoor.Rows.laid_unicode_utf8_first)] W) : TabOK cfg W := by
 obtain ⟨ps, h, _⟩ : laidMet Tryz.prog [("math/bits.deBruijn32tab", YtpkjnefhnedfdaaGreatDoor.Rows.laid_math_bits_deBruijn32tab), ("math/bits.deBruijn64tab", YtpkjnefhnedfdaaGreatDoor.Rows.laid_math_bits_deBruijn64tab), ("internal/strconv.uint64pow10", YtpkjnefhnedfdaaGreatDoor.Rows.laid_internal_strconv_uint64pow10), ("unicode/utf8.acceptRanges", YtpkjnefhnedfdaaGreatDoor.Rows.laid_unicode_utf8_acceptRanges), ("strconv.ErrRange", YtpkjnefhnedfdaaGreatDoor.Rows.laid_strconv_ErrRange), ("strconv.ErrSyntax", YtpkjnefhnedfdaaGreatDoor.Rows.laid_strconv_ErrSyntax), ("unicode/utf8.first", YtpkjnefhnedfdaaGreatDoor.Rows.laid_unicode_utf8_first)] W := h
 obtain ⟨_,_,_,_,_,q,_,_,_,_,h,_⟩:=h
 obtain ⟨_,_,_,_,_,q,_,_,_,_,h,_⟩:=h
 obtain ⟨g',t',cs,fuel,p,q,hg',ht',hvar,hd,_⟩:=h
 intro g cs' hc
 have hg:g=F1.gPow∧cs'=F1.powTab:=by
  have hc':(bif eqb g F1.gPow then some F1.powTab else none)=some cs':=hc
  cases he:eqb g F1.gPow with
  | false=>rw [he] at hc'; cases hc'
  | true=>rw [he] at hc'; cases hc'; exact ⟨yd.1 he,rfl⟩
 obtain ⟨rfl,rfl⟩:=hg
 obtain rfl:=Option.some.inj (F1.gPow_is.symm.trans hg')
 have hgt:(Tryz.prog.globals[F1.gPow]?).map (·.type)=some 166:=by kernel_rfl
 obtain rfl:=Option.some.inj (hgt.symm.trans ht')
 have hz:(YtpkjnefhnedfdaaGreatDoor.Rows.laid_internal_strconv_uint64pow10:DataW Unit)=Lib.tabData .u64 Lib.pow10Tab:=by kernel_rfl
 rw [hz] at hd
 have hcs:=cells_of_tab (n:=20) Tryz.underlying166 Tryz.underlying140 (by kernel_rfl) (by kernel_rfl) hd
 unfold World.var? at hvar
 rw [F1.gPow_is,Option.bind_some] at hvar
 split at hvar
 ·rename_i c t fr hh
  cases hvar
  exact ⟨t,fr,by rw [hh,F1.powTab_is,← hcs]⟩
 ·cases hvar
noncomputable def laidWorld (os:Os):World :=
 let n:=(World.settled Tryz.prog os).heap.size
 { World.holding Tryz.prog os ⟨#[.cells #[.string ⟨#[118,97,108,117,101,32,111,117,116,32,111,102,32,114,97,110,103,101]⟩] 174 (0,0),.cells #[.string ⟨#[105,110,118,97,108,105,100,32,115,121,110,116,97,120]⟩] 174 (0,0)],#[],[]⟩ with heap:=((((((((World.holding Tryz.prog os ⟨#[.cells #[.string ⟨#[118,97,108,117,101,32,111,117,116,32,111,102,32,114,97,110,103,101]⟩] 174 (0,0),.cells #[.string ⟨#[105,110,118,97,108,105,100,32,115,121,110,116,97,120]⟩] 174 (0,0)],#[],[]⟩).heap.modify 6 fun | .cells _ t fr=>.cells (#[.int .u8 0,.int .u8 1,.int .u8 28,.int .u8 2,.int .u8 29,.int .u8 14,.int .u8 24,.int .u8 3,.int .u8 30,.int .u8 22,.int .u8 20,.int .u8 15,.int .u8 25,.int .u8 17,.int .u8 4,.int .u8 8,.int .u8 31,.int .u8 27,.int .u8 13,.int .u8 23,.int .u8 21,.int .u8 19,.int .u8 16,.int .u8 7,.int .u8 26,.int .u8 12,.int .u8 18,.int .u8 6,.int .u8 11,.int .u8 5,.int .u8 10,.int .u8 9]) t fr | o=>o).modify 7 fun | .cells _ t fr=>.cells (#[.int .u8 0,.int .u8 1,.int .u8 56,.int .u8 2,.int .u8 57,.int .u8 49,.int .u8 28,.int .u8 3,.int .u8 61,.int .u8 58,.int .u8 42,.int .u8 50,.int .u8 38,.int .u8 29,.int .u8 17,.int .u8 4,.int .u8 62,.int .u8 47,.int .u8 59,.int .u8 36,.int .u8 45,.int .u8 43,.int .u8 51,.int .u8 22,.int .u8 53,.int .u8 39,.int .u8 33,.int .u8 30,.int .u8 24,.int .u8 18,.int .u8 12,.int .u8 5,.int .u8 63,.int .u8 55,.int .u8 48,.int .u8 27,.int .u8 60,.int .u8 41,.int .u8 37,.int .u8 16,.int .u8 46,.int .u8 35,.int .u8 44,.int .u8 21,.int .u8 52,.int .u8 32,.int .u8 23,.int .u8 11,.int .u8 54,.int .u8 26,.int .u8 40,.int .u8 15,.int .u8 34,.int .u8 20,.int .u8 31,.int .u8 10,.int .u8 25,.int .u8 14,.int .u8 19,.int .u8 9,.int .u8 13,.int .u8 8,.int .u8 7,.int .u8 6]) t fr | o=>o).modify 3 fun | .cells _ t fr=>.cells (#[.int .u64 1,.int .u64 10,.int .u64 100,.int .u64 1000,.int .u64 10000,.int .u64 100000,.int .u64 1000000,.int .u64 10000000,.int .u64 100000000,.int .u64 1000000000,.int .u64 10000000000,.int .u64 100000000000,.int .u64 1000000000000,.int .u64 10000000000000,.int .u64 100000000000000,.int .u64 1000000000000000,.int .u64 10000000000000000,.int .u64 100000000000000000,.int .u64 1000000000000000000,.int .u64 10000000000000000000]) t fr | o=>o).modify 5 fun | .cells _ t fr=>.cells (#[.int .u8 128,.int .u8 191,.int .u8 160,.int .u8 191,.int .u8 128,.int .u8 159,.int .u8 144,.int .u8 191,.int .u8 128,.int .u8 143,.int .u8 0,.int .u8 0,.int .u8 0,.int .u8 0,.int .u8 0,.int .u8 0,.int .u8 0,.int .u8 0,.int .u8 0,.int .u8 0,.int .u8 0,.int .u8 0,.int .u8 0,.int .u8 0,.int .u8 0,.int .u8 0,.int .u8 0,.int .u8 0,.int .u8 0,.int .u8 0,.int .u8 0,.int .u8 0]) t fr | o=>o).modify 2 fun | .cells _ t fr=>.cells (#[.iface 172 (.pointer (some ⟨n+0,0,none⟩))]) t fr | o=>o).modify 1 fun | .cells _ t fr=>.cells (#[.iface 172 (.pointer (some ⟨n+1,0,none⟩))]) t fr | o=>o).modify 4 fun | .cells _ t fr=>.cells ((Go.Pinned.utf8FirstZ.map fun z=>Value.int .u8 (Int.ofNat z)).toArray) t fr | o=>o) }
end Go.VS

namespace Go.VS
open Go
theorem law_sums (a b:GS Sn) (by_:Int):a.l.length≤9223372036854775807→b.l.length≤9223372036854775807→R64 by_→(lim cfg).pure 5 [GS.D Sn.D 2 a,GS.D Sn.D 2 b,I by_]=some (B true):=fun h1 h2 _=>by
 rw [T_l_RangesSums a b by_ h1 h2]
 unfold l_RangesSums
 simp only [Bool.cond_self]
end Go.VS

