/- Nothing of a statement is proved in this text alone: it is part 6 of the proof's own tools, an evaluator of the code over deep values, its soundness, and what it makes of this seat's functions. Conditions: none beyond the statement's own. -/
import Derived.Test.YtpkjnefhnedfdaaGreatDoorVsRCSets5
set_option linter.unusedSimpArgs false
set_option linter.unusedVariables false
set_option maxHeartbeats 0
namespace Go.VS
open List (length_set length_append length_cons length_nil)
open Go Go.Proofs
theorem drop_tl {α:Type} {l rest:List α} {i:Nat} {x:α} (h:l.drop i=x::rest):l.drop i=x::l.drop (i+1):=by
 rw [← List.drop_drop,h];rfl
theorem valid_len {r:GS Sn} (h:zC r=true):r.l.length≤64:=(ym.1 h).2.2

def r_Union (a:GS Sn) (b:GS Sn):(GS Sn) × Int :=
 bif (zC a) then
  bif (zC b) then
   bif a.l.isEmpty then
    bif b.l.isEmpty then
     bif (JJ (GS.some [])).nl then
      (((zX (JJ (GS.some []))).1),((zX (JJ (GS.some []))).2))
     else
      (((zX (JJ (GS.some []))).1),((zX (JJ (GS.some []))).2))
    else
     bif (JJ (GS.some b.l)).nl then
      (((zX (JJ (GS.some b.l))).1),((zX (JJ (GS.some b.l))).2))
     else
      (((zX (JJ (GS.some b.l))).1),((zX (JJ (GS.some b.l))).2))
   else
    bif b.l.isEmpty then
     bif (JJ (GS.some a.l)).nl then
      (((zX (JJ (GS.some a.l))).1),((zX (JJ (GS.some a.l))).2))
     else
      (((zX (JJ (GS.some a.l))).1),((zX (JJ (GS.some a.l))).2))
    else
     bif (JJ (GS.some (a.l++b.l))).nl then
      (((zX (JJ (GS.some (a.l++b.l)))).1),((zX (JJ (GS.some (a.l++b.l)))).2))
     else
      (((zX (JJ (GS.some (a.l++b.l)))).1),((zX (JJ (GS.some (a.l++b.l)))).2))
  else
   (GS.nil,20)
 else
  (GS.nil,20)

def r_Union_o1 (a:GS Sn) (b:GS Sn):List Ora:=[.pure (B (zC a)),.dec true,.pure (B (zC b)),.dec true,.op (some 16) ⟨.lsl 0 0 0 2 (some 0),[],[],1⟩,.op (some 18) ⟨.lsl 0 0 0 2 (some 0),[],[],1⟩]

def r_Union_o2 (a:GS Sn) (b:GS Sn):List Ora:=[.pure (B (zC a)),.dec true,.pure (B (zC b)),.dec true,.op (some 16) ⟨.lsl 0 0 0 2 (some 0),[],[],1⟩,.op (some 18) ⟨.lsl 1 0 b.l.length 2 none,[(1,some ⟨(b.l).map Sn.D,2,false⟩)],[0],2⟩]

def r_Union_o3 (a:GS Sn) (b:GS Sn):List Ora:=[.pure (B (zC a)),.dec true,.pure (B (zC b)),.dec true,.op (some 16) ⟨.lsl 1 0 a.l.length 2 none,[(1,some ⟨(a.l).map Sn.D,2,false⟩)],[0],2⟩]

def r_Union_o4 (a:GS Sn) (b:GS Sn):List Ora:=[.op (some 18) ⟨.lsl 2 0 ((a.l++b.l).length) 2 none,[(1,none),(2,some ⟨(a.l++b.l).map Sn.D,2,false⟩)],[1],3⟩]

theorem T_r_Union (a:GS Sn) (b:GS Sn) (hLa:a.l.length≤9223372036854775807) (hLb:b.l.length≤9223372036854775807):(lim cfg).pure 55 [GS.D Sn.D 2 a,GS.D Sn.D 2 b]=some (.tup [GS.D Sn.D 2 ((r_Union a b).1),I ((r_Union a b).2)]):=by
 unfold r_Union
 cases h1:(zC a) with
 |true =>
  have g1:=valid_len h1
  cases h2:(zC b) with
  |true =>
   have g2:=valid_len h2
   cases h3:a.l.isEmpty with
   |true =>
    have p1:=(app_none (te:=zR) (gO:=zw [(0,⟨[],2,false⟩)]) (nxt:=1) (f:=Sn.D) (sz:=2) (d:=.lsl 0 0 0 2 (some 0)) a h3 rfl)
    cases h4:b.l.isEmpty with
    |true =>
     have p2:=(app_none (te:=zR) (gO:=zw [(0,⟨[],2,false⟩)]) (nxt:=1) (f:=Sn.D) (sz:=2) (d:=.lsl 0 0 0 2 (some 0)) b h4 rfl)
     cases h5:(JJ (GS.some [])).nl with
     |true =>
      exact zp ((r_Union_o1 a b)++[.pureS (.sl ((JJ (GS.some [])).nl) (((JJ (GS.some [])).l).map Sn.D) (zsl ((JJ (GS.some [])).nl) 2) none) true [],.pure (.tup [.sl (((zX (JJ (GS.some []))).1).nl) ((((zX (JJ (GS.some []))).1).l).map Sn.D) (zsl (((zX (JJ (GS.some []))).1).nl) 2) none,I ((zX (JJ (GS.some []))).2)])]) (Ai (T_r_Fit (JJ (GS.some []))) (Ai (Ai (show flat fuelD (.sl ((JJ (GS.some [])).nl) (((JJ (GS.some [])).l).map Sn.D) (zsl ((JJ (GS.some [])).nl) 2) none)=true from (by rw [h5]<;>kernel_rfl)) (Ai (trivial) (T_JJ (GS.some []) (by simp only [zv,zj,GS.some_l,length_set,length_append,length_cons,length_nil] at *<;>first|assumption|omega)))) (Ai p2 (Ai p1 (Ai h2 (Ai (zK b (by omega)) (Ai h1 (Ai (zK a (by omega)) trivial)))))))) (by kernel_rfl)
     |false =>
      exact zp ((r_Union_o1 a b)++[.pureS (.sl ((JJ (GS.some [])).nl) (((JJ (GS.some [])).l).map Sn.D) (zsl ((JJ (GS.some [])).nl) 2) none) false [],.pure (.tup [.sl (((zX (JJ (GS.some []))).1).nl) ((((zX (JJ (GS.some []))).1).l).map Sn.D) (zsl (((zX (JJ (GS.some []))).1).nl) 2) none,I ((zX (JJ (GS.some []))).2)])]) (Ai (T_r_Fit (JJ (GS.some []))) (Ai (Ai (show flat fuelD (.sl ((JJ (GS.some [])).nl) (((JJ (GS.some [])).l).map Sn.D) (zsl ((JJ (GS.some [])).nl) 2) none)=false from (by rw [h5]<;>kernel_rfl)) (Ai (trivial) (T_JJ (GS.some []) (by simp only [zv,zj,GS.some_l,length_set,length_append,length_cons,length_nil] at *<;>first|assumption|omega)))) (Ai p2 (Ai p1 (Ai h2 (Ai (zK b (by omega)) (Ai h1 (Ai (zK a (by omega)) trivial)))))))) (by kernel_rfl)
    |false =>
     have p3:=(app_deep (te:=zR) (gO:=zw [(0,⟨[],2,false⟩)]) (nxt:=1) (o:=0) (fz:=false) z7 b (ne_of_empty h4) (nonnil (ne_of_empty h4)) (by kernel_rfl) rfl (by kernel_rfl) (by decide) ⟨by simp only [zR,big]<;>(first|assumption|omega|(exact zF (by omega) (by omega))|(exact zt (by omega))|(exact zm (by omega))|(exact zu (by omega))|(exact zn (by omega))|(exact zl _ (by omega))|(exact Nat.le_trans (hJl _) (by rw [zj];omega))|(exact drop_tl (by assumption))|(simp only [zd] at *<;>omega)|(simp only [zv,zj,GS.some_l,length_set,length_append,length_cons,length_nil] at *<;>first|assumption|omega)|(simp only [zv,zj,GS.some_l,length_set,length_append,length_cons,length_nil,zd] at *<;>first|assumption|omega)|(simp at *<;>omega)),by simp only [big]<;>(first|assumption|omega|(exact zF (by omega) (by omega))|(exact zt (by omega))|(exact zm (by omega))|(exact zu (by omega))|(exact zn (by omega))|(exact zl _ (by omega))|(exact Nat.le_trans (hJl _) (by rw [zj];omega))|(exact drop_tl (by assumption))|(simp only [zd] at *<;>omega)|(simp only [zv,zj,GS.some_l,length_set,length_append,length_cons,length_nil] at *<;>first|assumption|omega)|(simp only [zv,zj,GS.some_l,length_set,length_append,length_cons,length_nil,zd] at *<;>first|assumption|omega)|(simp at *<;>omega))⟩)
     cases h6:(JJ (GS.some b.l)).nl with
     |true =>
      exact zp ((r_Union_o2 a b)++[.pureS (.sl ((JJ (GS.some b.l)).nl) (((JJ (GS.some b.l)).l).map Sn.D) (zsl ((JJ (GS.some b.l)).nl) 2) none) true [(1,.sl false (b.l.map Sn.D) 2 none,[1])],.pure (.tup [.sl (((zX (JJ (GS.some b.l))).1).nl) ((((zX (JJ (GS.some b.l))).1).l).map Sn.D) (zsl (((zX (JJ (GS.some b.l))).1).nl) 2) none,I ((zX (JJ (GS.some b.l))).2)])]) (Ai (T_r_Fit (JJ (GS.some b.l))) (Ai (Ai (show flat fuelD (.sl ((JJ (GS.some b.l)).nl) (((JJ (GS.some b.l)).l).map Sn.D) (zsl ((JJ (GS.some b.l)).nl) 2) none)=true from (by rw [h6]<;>kernel_rfl)) (Ai (Ai (snap_row (gO:=zw [(0,⟨[],2,false⟩),(1,⟨b.l.map Sn.D,2,false⟩)]) (o:=1) (len:=b.l.length) (cap:=none) (fz:=false) z7 b.l (by kernel_rfl) (by omega)) trivial) (T_JJ (GS.some b.l) (by simp only [zv,zj,GS.some_l,length_set,length_append,length_cons,length_nil] at *<;>first|assumption|omega)))) (Ai p3 (Ai p1 (Ai h2 (Ai (zK b (by omega)) (Ai h1 (Ai (zK a (by omega)) trivial)))))))) (by kernel_rfl)
     |false =>
      exact zp ((r_Union_o2 a b)++[.pureS (.sl ((JJ (GS.some b.l)).nl) (((JJ (GS.some b.l)).l).map Sn.D) (zsl ((JJ (GS.some b.l)).nl) 2) none) false [(1,.sl false (b.l.map Sn.D) 2 none,[1])],.pure (.tup [.sl (((zX (JJ (GS.some b.l))).1).nl) ((((zX (JJ (GS.some b.l))).1).l).map Sn.D) (zsl (((zX (JJ (GS.some b.l))).1).nl) 2) none,I ((zX (JJ (GS.some b.l))).2)])]) (Ai (T_r_Fit (JJ (GS.some b.l))) (Ai (Ai (show flat fuelD (.sl ((JJ (GS.some b.l)).nl) (((JJ (GS.some b.l)).l).map Sn.D) (zsl ((JJ (GS.some b.l)).nl) 2) none)=false from (by rw [h6]<;>kernel_rfl)) (Ai (Ai (snap_row (gO:=zw [(0,⟨[],2,false⟩),(1,⟨b.l.map Sn.D,2,false⟩)]) (o:=1) (len:=b.l.length) (cap:=none) (fz:=false) z7 b.l (by kernel_rfl) (by omega)) trivial) (T_JJ (GS.some b.l) (by simp only [zv,zj,GS.some_l,length_set,length_append,length_cons,length_nil] at *<;>first|assumption|omega)))) (Ai p3 (Ai p1 (Ai h2 (Ai (zK b (by omega)) (Ai h1 (Ai (zK a (by omega)) trivial)))))))) (by kernel_rfl)
   |false =>
    have p4:=(app_deep (te:=zR) (gO:=zw [(0,⟨[],2,false⟩)]) (nxt:=1) (o:=0) (fz:=false) z7 a (ne_of_empty h3) (nonnil (ne_of_empty h3)) (by kernel_rfl) rfl (by kernel_rfl) (by decide) ⟨by simp only [zR,big]<;>(first|assumption|omega|(exact zF (by omega) (by omega))|(exact zt (by omega))|(exact zm (by omega))|(exact zu (by omega))|(exact zn (by omega))|(exact zl _ (by omega))|(exact Nat.le_trans (hJl _) (by rw [zj];omega))|(exact drop_tl (by assumption))|(simp only [zd] at *<;>omega)|(simp only [zv,zj,GS.some_l,length_set,length_append,length_cons,length_nil] at *<;>first|assumption|omega)|(simp only [zv,zj,GS.some_l,length_set,length_append,length_cons,length_nil,zd] at *<;>first|assumption|omega)|(simp at *<;>omega)),by simp only [big]<;>(first|assumption|omega|(exact zF (by omega) (by omega))|(exact zt (by omega))|(exact zm (by omega))|(exact zu (by omega))|(exact zn (by omega))|(exact zl _ (by omega))|(exact Nat.le_trans (hJl _) (by rw [zj];omega))|(exact drop_tl (by assumption))|(simp only [zd] at *<;>omega)|(simp only [zv,zj,GS.some_l,length_set,length_append,length_cons,length_nil] at *<;>first|assumption|omega)|(simp only [zv,zj,GS.some_l,length_set,length_append,length_cons,length_nil,zd] at *<;>first|assumption|omega)|(simp at *<;>omega))⟩)
    cases h7:b.l.isEmpty with
    |true =>
     have p5:=(app_none (te:=zR) (gO:=zw [(0,⟨[],2,false⟩),(1,⟨a.l.map Sn.D,2,false⟩)]) (nxt:=2) (f:=Sn.D) (sz:=2) (d:=.lsl 1 0 a.l.length 2 none) b h7 rfl)
     cases h8:(JJ (GS.some a.l)).nl with
     |true =>
      exact zp ((r_Union_o3 a b)++[.op (some 18) ⟨.lsl 1 0 a.l.length 2 none,[],[],2⟩,.pureS (.sl ((JJ (GS.some a.l)).nl) (((JJ (GS.some a.l)).l).map Sn.D) (zsl ((JJ (GS.some a.l)).nl) 2) none) true [(1,.sl false (a.l.map Sn.D) 2 none,[1])],.pure (.tup [.sl (((zX (JJ (GS.some a.l))).1).nl) ((((zX (JJ (GS.some a.l))).1).l).map Sn.D) (zsl (((zX (JJ (GS.some a.l))).1).nl) 2) none,I ((zX (JJ (GS.some a.l))).2)])]) (Ai (T_r_Fit (JJ (GS.some a.l))) (Ai (Ai (show flat fuelD (.sl ((JJ (GS.some a.l)).nl) (((JJ (GS.some a.l)).l).map Sn.D) (zsl ((JJ (GS.some a.l)).nl) 2) none)=true from (by rw [h8]<;>kernel_rfl)) (Ai (Ai (snap_row (gO:=zw [(0,⟨[],2,false⟩),(1,⟨a.l.map Sn.D,2,false⟩)]) (o:=1) (len:=a.l.length) (cap:=none) (fz:=false) z7 a.l (by kernel_rfl) (by omega)) trivial) (T_JJ (GS.some a.l) (by simp only [zv,zj,GS.some_l,length_set,length_append,length_cons,length_nil] at *<;>first|assumption|omega)))) (Ai p5 (Ai p4 (Ai h2 (Ai (zK b (by omega)) (Ai h1 (Ai (zK a (by omega)) trivial)))))))) (by kernel_rfl)
     |false =>
      exact zp ((r_Union_o3 a b)++[.op (some 18) ⟨.lsl 1 0 a.l.length 2 none,[],[],2⟩,.pureS (.sl ((JJ (GS.some a.l)).nl) (((JJ (GS.some a.l)).l).map Sn.D) (zsl ((JJ (GS.some a.l)).nl) 2) none) false [(1,.sl false (a.l.map Sn.D) 2 none,[1])],.pure (.tup [.sl (((zX (JJ (GS.some a.l))).1).nl) ((((zX (JJ (GS.some a.l))).1).l).map Sn.D) (zsl (((zX (JJ (GS.some a.l))).1).nl) 2) none,I ((zX (JJ (GS.some a.l))).2)])]) (Ai (T_r_Fit (JJ (GS.some a.l))) (Ai (Ai (show flat fuelD (.sl ((JJ (GS.some a.l)).nl) (((JJ (GS.some a.l)).l).map Sn.D) (zsl ((JJ (GS.some a.l)).nl) 2) none)=false from (by rw [h8]<;>kernel_rfl)) (Ai (Ai (snap_row (gO:=zw [(0,⟨[],2,false⟩),(1,⟨a.l.map Sn.D,2,false⟩)]) (o:=1) (len:=a.l.length) (cap:=none) (fz:=false) z7 a.l (by kernel_rfl) (by omega)) trivial) (T_JJ (GS.some a.l) (by simp only [zv,zj,GS.some_l,length_set,length_append,length_cons,length_nil] at *<;>first|assumption|omega)))) (Ai p5 (Ai p4 (Ai h2 (Ai (zK b (by omega)) (Ai h1 (Ai (zK a (by omega)) trivial)))))))) (by kernel_rfl)
    |false =>
     have p6:=(app_moreD (te:=zR) (gO:=zw [(0,⟨[],2,false⟩),(1,⟨a.l.map Sn.D,2,false⟩)]) (nxt:=2) (o:=1) (v:=a.l) z7 b h7 (by kernel_rfl) rfl (by kernel_rfl) (by decide) ⟨by simp only [zR,big]<;>(first|assumption|omega|(exact zF (by omega) (by omega))|(exact zt (by omega))|(exact zm (by omega))|(exact zu (by omega))|(exact zn (by omega))|(exact zl _ (by omega))|(exact Nat.le_trans (hJl _) (by rw [zj];omega))|(exact drop_tl (by assumption))|(simp only [zd] at *<;>omega)|(simp only [zv,zj,GS.some_l,length_set,length_append,length_cons,length_nil] at *<;>first|assumption|omega)|(simp only [zv,zj,GS.some_l,length_set,length_append,length_cons,length_nil,zd] at *<;>first|assumption|omega)|(simp at *<;>omega)),by simp only [big]<;>(first|assumption|omega|(exact zF (by omega) (by omega))|(exact zt (by omega))|(exact zm (by omega))|(exact zu (by omega))|(exact zn (by omega))|(exact zl _ (by omega))|(exact Nat.le_trans (hJl _) (by rw [zj];omega))|(exact drop_tl (by assumption))|(simp only [zd] at *<;>omega)|(simp only [zv,zj,GS.some_l,length_set,length_append,length_cons,length_nil] at *<;>first|assumption|omega)|(simp only [zv,zj,GS.some_l,length_set,length_append,length_cons,length_nil,zd] at *<;>first|assumption|omega)|(simp at *<;>omega))⟩)
     cases h9:(JJ (GS.some (a.l++b.l))).nl with
     |true =>
      exact zp ((r_Union_o3 a b)++((r_Union_o4 a b)++[.pureS (.sl ((JJ (GS.some (a.l++b.l))).nl) (((JJ (GS.some (a.l++b.l))).l).map Sn.D) (zsl ((JJ (GS.some (a.l++b.l))).nl) 2) none) true [(2,.sl false ((a.l++b.l).map Sn.D) 2 none,[2])],.pure (.tup [.sl (((zX (JJ (GS.some (a.l++b.l)))).1).nl) ((((zX (JJ (GS.some (a.l++b.l)))).1).l).map Sn.D) (zsl (((zX (JJ (GS.some (a.l++b.l)))).1).nl) 2) none,I ((zX (JJ (GS.some (a.l++b.l)))).2)])])) (Ai (T_r_Fit (JJ (GS.some (a.l++b.l)))) (Ai (Ai (show flat fuelD (.sl ((JJ (GS.some (a.l++b.l))).nl) (((JJ (GS.some (a.l++b.l))).l).map Sn.D) (zsl ((JJ (GS.some (a.l++b.l))).nl) 2) none)=true from (by rw [h9]<;>kernel_rfl)) (Ai (Ai (snap_row (gO:=zw [(0,⟨[],2,false⟩),(2,⟨(a.l++b.l).map Sn.D,2,false⟩)]) (o:=2) (len:=(a.l++b.l).length) (cap:=none) (fz:=false) z7 (a.l++b.l) (by kernel_rfl) (by omega)) trivial) (T_JJ (GS.some (a.l++b.l)) (by simp only [zv,zj,GS.some_l,length_set,length_append,length_cons,length_nil] at *<;>first|assumption|omega)))) (Ai p6 (Ai p4 (Ai h2 (Ai (zK b (by omega)) (Ai h1 (Ai (zK a (by omega)) trivial)))))))) (by kernel_rfl)
     |false =>
      exact zp ((r_Union_o3 a b)++((r_Union_o4 a b)++[.pureS (.sl ((JJ (GS.some (a.l++b.l))).nl) (((JJ (GS.some (a.l++b.l))).l).map Sn.D) (zsl ((JJ (GS.some (a.l++b.l))).nl) 2) none) false [(2,.sl false ((a.l++b.l).map Sn.D) 2 none,[2])],.pure (.tup [.sl (((zX (JJ (GS.some (a.l++b.l)))).1).nl) ((((zX (JJ (GS.some (a.l++b.l)))).1).l).map Sn.D) (zsl (((zX (JJ (GS.some (a.l++b.l)))).1).nl) 2) none,I ((zX (JJ (GS.some (a.l++b.l)))).2)])])) (Ai (T_r_Fit (JJ (GS.some (a.l++b.l)))) (Ai (Ai (show flat fuelD (.sl ((JJ (GS.some (a.l++b.l))).nl) (((JJ (GS.some (a.l++b.l))).l).map Sn.D) (zsl ((JJ (GS.some (a.l++b.l))).nl) 2) none)=false from (by rw [h9]<;>kernel_rfl)) (Ai (Ai (snap_row (gO:=zw [(0,⟨[],2,false⟩),(2,⟨(a.l++b.l).map Sn.D,2,false⟩)]) (o:=2) (len:=(a.l++b.l).length) (cap:=none) (fz:=false) z7 (a.l++b.l) (by kernel_rfl) (by omega)) trivial) (T_JJ (GS.some (a.l++b.l)) (by simp only [zv,zj,GS.some_l,length_set,length_append,length_cons,length_nil] at *<;>first|assumption|omega)))) (Ai p6 (Ai p4 (Ai h2 (Ai (zK b (by omega)) (Ai h1 (Ai (zK a (by omega)) trivial)))))))) (by kernel_rfl)
  |false =>
   exact zp [.pure (B (zC a)),.dec true,.pure (B (zC b)),.dec false] (Ai h2 (Ai (zK b (by omega)) (Ai h1 (Ai (zK a (by omega)) trivial)))) (by kernel_rfl)
 |false =>
  exact zp [.pure (B (zC a)),.dec false] (Ai h1 (Ai (zK a (by omega)) trivial)) (by kernel_rfl)

noncomputable def lp59_8:Code:=subC [1,1,0,1,0,0,1,0,0,1,0,1,0,0] (bodyC Tryz.f59)

inductive LR_r_Within_8 where
 |x0 (xS:Bool)
instance:Inhabited LR_r_Within_8:=⟨.x0 default⟩
def r_Within_8 (x4:Sn):List Sn→Bool→LR_r_Within_8
 |[],xS=>.x0 xS
 |x8::xj,xS =>
  bif xS then
   r_Within_8 x4 xj true
  else
   bif decide (x8.lo≤x4.lo) then
    bif decide (x4.hi≤x8.hi) then
     r_Within_8 x4 xj true
    else
     r_Within_8 x4 xj false
   else
    r_Within_8 x4 xj false
def lr_r_Within_8 (a:GS Sn) (b:GS Sn) (i4:Nat) (x4:Sn):LR_r_Within_8→Exit × St
 |.x0 xS=>((.exit 2),⟨58,[(26,B false),(25,I (b.l.length:Int)),(24,.sl b.nl (b.l.map Sn.D) (zsl b.nl 2) none),(23,I (b.l.length:Int)),(0,.sl a.nl (a.l.map Sn.D) (zsl a.nl 2) none),(1,.sl b.nl (b.l.map Sn.D) (zsl b.nl 2) none),(6,I (i4:Int)),(7,B xS),(8,I (b.l.length:Int))],[],0,0⟩)
def r_Within_8_l_o1 (b:GS Sn) (x4:Sn) (x8:Sn):List Ora:=[.rw 25 (I (b.l.length:Int)),.dec true,.rw 29 (B false),.el (.agg [I x8.lo,I x8.hi]),.el (.agg [I x4.lo,I x4.hi])]
theorem lp_r_Within_8 (a:GS Sn) (b:GS Sn) (i4:Nat) (x4:Sn):∀(xj:List Sn) (i8:Nat) (xS:Bool) (hd8:b.l.drop i8=xj) (hi8:i8≤b.l.length) (xF:a.l.length≤64) (xX:b.l.length≤64) (hi64:i4 < 64) (hd4:a.l.drop i4=x4::a.l.drop (i4+1)) (hL8:b.l.length≤9223372036854775807),(lim cfg).loop 59 lp59_8 ⟨58,[(0,.sl a.nl (a.l.map Sn.D) (zsl a.nl 2) none),(1,.sl b.nl (b.l.map Sn.D) (zsl b.nl 2) none),(6,I (i4:Int)),(7,B xS),(8,I (i8:Int))],[],0,0⟩=some (lr_r_Within_8 a b i4 x4 (r_Within_8 x4 xj xS)):=by
 intro xj
 induction xj with
 |nil =>
  intro i8 xS hd8 hi8 xF xX hi64 hd4 hL8
  unfold r_Within_8
  obtain rfl:i8=b.l.length:=zW hd8 hi8
  exact zD [.rw 25 (I (b.l.length:Int)),.dec false] (Ai (lt_no hd8) (Ai (zk Sn.D b) trivial)) (by kernel_rfl)
 |cons x8 xj ih =>
  intro i8 xS hd8 hi8 xF xX hi64 hd4 hL8
  have hlt8:=zg hd8
  unfold r_Within_8
  rcases Bool.eq_false_or_eq_true xS with h14|h14
  ·rw [cond_t h14]
   exact po_turn [.rw 25 (I (b.l.length:Int)),.dec true,.rw 29 (B true),.rw 28 (I ((i8+1:Nat):Int))] (Ai (zM (i:=i8) (by have:=zg hd8;omega)) (Ai (congrArg B h14) (Ai (zT hd8) (Ai (zk Sn.D b) trivial)))) (ih (i8+1) true (zi hd8) (zg hd8) (by omega) (by omega) (by omega) (by omega) (by omega)) (by kernel_rfl)
  ·rw [cond_f h14]
   have p1:=(zS (s:=b) (f:=Sn.D) (k:=2) hd8)
   have p2:=(zS (s:=a) (f:=Sn.D) (k:=2) hd4)
   cases h15:decide (x8.lo≤x4.lo) with
   |true =>
    have g15:=of_decide_eq_true h15
    have p3:=(zS (s:=a) (f:=Sn.D) (k:=2) hd4)
    have p4:=(zS (s:=b) (f:=Sn.D) (k:=2) hd8)
    cases h16:decide (x4.hi≤x8.hi) with
    |true =>
     have g16:=of_decide_eq_true h16
     exact po_turn ((r_Within_8_l_o1 b x4 x8)++[.dec true,.el (.agg [I x4.lo,I x4.hi]),.el (.agg [I x8.lo,I x8.hi]),.dec true,.rw 28 (I ((i8+1:Nat):Int))]) (Ai (zM (i:=i8) (by have:=zg hd8;omega)) (Ai h16 (Ai p4 (Ai p3 (Ai h15 (Ai p2 (Ai p1 (Ai (congrArg B h14) (Ai (zT hd8) (Ai (zk Sn.D b) trivial)))))))))) (ih (i8+1) true (zi hd8) (zg hd8) (by omega) (by omega) (by omega) (by omega) (by omega)) (by kernel_rfl)
    |false =>
     have g16:=of_decide_eq_false h16
     exact po_turn ((r_Within_8_l_o1 b x4 x8)++[.dec true,.el (.agg [I x4.lo,I x4.hi]),.el (.agg [I x8.lo,I x8.hi]),.dec false,.rw 28 (I ((i8+1:Nat):Int))]) (Ai (zM (i:=i8) (by have:=zg hd8;omega)) (Ai h16 (Ai p4 (Ai p3 (Ai h15 (Ai p2 (Ai p1 (Ai (congrArg B h14) (Ai (zT hd8) (Ai (zk Sn.D b) trivial)))))))))) (ih (i8+1) false (zi hd8) (zg hd8) (by omega) (by omega) (by omega) (by omega) (by omega)) (by kernel_rfl)
   |false =>
    have g15:=of_decide_eq_false h15
    exact po_turn ((r_Within_8_l_o1 b x4 x8)++[.dec false,.rw 28 (I ((i8+1:Nat):Int))]) (Ai (zM (i:=i8) (by have:=zg hd8;omega)) (Ai h15 (Ai p2 (Ai p1 (Ai (congrArg B h14) (Ai (zT hd8) (Ai (zk Sn.D b) trivial))))))) (ih (i8+1) false (zi hd8) (zg hd8) (by omega) (by omega) (by omega) (by omega) (by omega)) (by kernel_rfl)

noncomputable def lp59_4:Code:=subC [1,1,0,1,0,0] (bodyC Tryz.f59)

def sd20313 (a:GS Sn) (b:GS Sn) (i4:Nat) (xS:Bool):St:=⟨58,[(26,B false),(25,I (b.l.length:Int)),(24,.sl b.nl (b.l.map Sn.D) (zsl b.nl 2) none),(23,I (b.l.length:Int)),(0,.sl a.nl (a.l.map Sn.D) (zsl a.nl 2) none),(1,.sl b.nl (b.l.map Sn.D) (zsl b.nl 2) none),(6,I (i4:Int)),(7,B xS),(8,I (b.l.length:Int))],[],0,0⟩

inductive LR_r_Within_4 where
 |x0
 |x1 (i4:Nat) (xS:Bool)
instance:Inhabited LR_r_Within_4:=⟨.x0⟩
def r_Within_4 (b:GS Sn):List Sn→Nat→LR_r_Within_4
 |[],i4=>.x0
 |x4::xm,i4 =>
  match r_Within_8 x4 b.l false with
  |.x0 xS =>
   bif xS then
    r_Within_4 b xm (i4+1)
   else
    .x1 i4 xS
def lr_r_Within_4 (a:GS Sn) (b:GS Sn):LR_r_Within_4→Exit × St
 |.x0=>((.exit 0),⟨58,[(20,B false),(19,I (a.l.length:Int)),(18,.sl a.nl (a.l.map Sn.D) (zsl a.nl 2) none),(17,I (a.l.length:Int)),(0,.sl a.nl (a.l.map Sn.D) (zsl a.nl 2) none),(1,.sl b.nl (b.l.map Sn.D) (zsl b.nl 2) none),(6,I (a.l.length:Int))],[],0,0⟩)
 |.x1 i4 xS=>(.ret,⟨58,[(5,I 0),(4,B false),(57,B true),(56,B false),(26,B false),(25,I (b.l.length:Int)),(24,.sl b.nl (b.l.map Sn.D) (zsl b.nl 2) none),(23,I (b.l.length:Int)),(0,.sl a.nl (a.l.map Sn.D) (zsl a.nl 2) none),(1,.sl b.nl (b.l.map Sn.D) (zsl b.nl 2) none),(6,I (i4:Int)),(7,B xS),(8,I (b.l.length:Int))],[],0,0⟩)
theorem lp_r_Within_4 (a:GS Sn) (b:GS Sn):∀(xm:List Sn) (i4:Nat) (hd4:a.l.drop i4=xm) (hi4:i4≤a.l.length) (xF:a.l.length≤64) (xX:b.l.length≤64) (hL4:a.l.length≤9223372036854775807),(lim cfg).loop 59 lp59_4 ⟨58,[(0,.sl a.nl (a.l.map Sn.D) (zsl a.nl 2) none),(1,.sl b.nl (b.l.map Sn.D) (zsl b.nl 2) none),(6,I (i4:Int))],[],0,0⟩=some (lr_r_Within_4 a b (r_Within_4 b xm i4)):=by
 intro xm
 induction xm with
 |nil =>
  intro i4 hd4 hi4 xF xX hL4
  unfold r_Within_4
  obtain rfl:i4=a.l.length:=zW hd4 hi4
  exact zD [.rw 19 (I (a.l.length:Int)),.dec false] (Ai (lt_no hd4) (Ai (zk Sn.D a) trivial)) (by kernel_rfl)
 |cons x4 xm ih =>
  intro i4 hd4 hi4 xF xX hL4
  have hlt4:=zg hd4
  unfold r_Within_4
  cases h17:r_Within_8 x4 b.l false with
  |x0 xS =>
   try dsimp only
   rcases Bool.eq_false_or_eq_true xS with h18|h18
   ·rw [cond_t h18]
    exact po_turn [.rw 19 (I (a.l.length:Int)),.dec true,.loop (.exit 2) (sd20313 a b i4 xS),.rw 56 (B true),.rw 22 (I ((i4+1:Nat):Int))] (Ai (zM (i:=i4) (by have:=zg hd4;omega)) (Ai (congrArg B h18) (Ai (y8 (q:=lr_r_Within_8 a b i4 x4) (lp_r_Within_8 a b i4 x4 b.l 0 false (List.drop_zero) (Nat.zero_le _) (by omega) (by omega) (by omega) (by exact drop_tl (by assumption)) (by omega)) h17) (Ai (zT hd4) (Ai (zk Sn.D a) trivial))))) (ih (i4+1) (zi hd4) (zg hd4) (by omega) (by omega) (by omega)) (by kernel_rfl)
   ·rw [cond_f h18]
    exact zD [.rw 19 (I (a.l.length:Int)),.dec true,.loop (.exit 2) (sd20313 a b i4 xS),.rw 56 (B false)] (Ai (congrArg B h18) (Ai (y8 (q:=lr_r_Within_8 a b i4 x4) (lp_r_Within_8 a b i4 x4 b.l 0 false (List.drop_zero) (Nat.zero_le _) (by omega) (by omega) (by omega) (by exact drop_tl (by assumption)) (by omega)) h17) (Ai (zT hd4) (Ai (zk Sn.D a) trivial)))) (by kernel_rfl)

def r_Within (a:GS Sn) (b:GS Sn):Bool × Int :=
 bif (zC a) then
  bif (zC b) then
   match r_Within_4 b a.l 0 with
   |.x0 =>
    (true,0)
   |.x1 i4 xS =>
    (false,0)
  else
   (false,20)
 else
  (false,20)

def sd20314 (a:GS Sn) (b:GS Sn):St:=⟨58,[(20,B false),(19,I (a.l.length:Int)),(18,.sl a.nl (a.l.map Sn.D) (zsl a.nl 2) none),(17,I (a.l.length:Int)),(0,.sl a.nl (a.l.map Sn.D) (zsl a.nl 2) none),(1,.sl b.nl (b.l.map Sn.D) (zsl b.nl 2) none),(6,I (a.l.length:Int))],[],0,0⟩

def sd20315 (a:GS Sn) (b:GS Sn) (i4:Nat) (xS:Bool):St:=⟨58,[(5,I 0),(4,B false),(57,B true),(56,B false),(26,B false),(25,I (b.l.length:Int)),(24,.sl b.nl (b.l.map Sn.D) (zsl b.nl 2) none),(23,I (b.l.length:Int)),(0,.sl a.nl (a.l.map Sn.D) (zsl a.nl 2) none),(1,.sl b.nl (b.l.map Sn.D) (zsl b.nl 2) none),(6,I (i4:Int)),(7,B xS),(8,I (b.l.length:Int))],[],0,0⟩

theorem T_r_Within (a:GS Sn) (b:GS Sn) (hLa:a.l.length≤9223372036854775807) (hLb:b.l.length≤9223372036854775807):(lim cfg).pure 59 [GS.D Sn.D 2 a,GS.D Sn.D 2 b]=some (.tup [B ((r_Within a b).1),I ((r_Within a b).2)]):=by
 unfold r_Within
 cases h1:(zC a) with
 |true =>
  have g1:=valid_len h1
  cases h2:(zC b) with
  |true =>
   have g2:=valid_len h2
   cases h19:r_Within_4 b a.l 0 with
   |x0 =>
    try dsimp only
    exact zp [.pure (B (zC a)),.dec true,.pure (B (zC b)),.dec true,.loop (.exit 0) (sd20314 a b)] (Ai (y8 (q:=lr_r_Within_4 a b) (lp_r_Within_4 a b a.l 0 (List.drop_zero) (Nat.zero_le _) (by omega) (by omega) (by omega)) h19) (Ai h2 (Ai (zK b (by omega)) (Ai h1 (Ai (zK a (by omega)) trivial))))) (by kernel_rfl)
   |x1 i4 xS =>
    try dsimp only
    exact zp [.pure (B (zC a)),.dec true,.pure (B (zC b)),.dec true,.loop .ret (sd20315 a b i4 xS)] (Ai (y8 (q:=lr_r_Within_4 a b) (lp_r_Within_4 a b a.l 0 (List.drop_zero) (Nat.zero_le _) (by omega) (by omega) (by omega)) h19) (Ai h2 (Ai (zK b (by omega)) (Ai h1 (Ai (zK a (by omega)) trivial))))) (by kernel_rfl)
  |false =>
   exact zp [.pure (B (zC a)),.dec true,.pure (B (zC b)),.dec false] (Ai h2 (Ai (zK b (by omega)) (Ai h1 (Ai (zK a (by omega)) trivial)))) (by kernel_rfl)
 |false =>
  exact zp [.pure (B (zC a)),.dec false] (Ai h1 (Ai (zK a (by omega)) trivial)) (by kernel_rfl)

noncomputable def lp56_8:Code:=subC [1,1,1,0,1,0,0,1,0,0,1,0,0] (bodyC Tryz.f56)

def sd20344 (a:GS Sn) (b:GS Sn) (i5:Nat) (x5:Sn) (i8:Nat) (x8:Sn) (xS:List Sn):St:=⟨67,[(8,I ((i8+1:Nat):Int)),(29,I ((i8+1:Nat):Int)),(28,I (i8:Int)),(6,.lsl 3 0 ((xS++[(⟨zN x5.lo x8.lo,imin x5.hi x8.hi⟩:Sn)]).length) 2 none),(61,.lsl 3 0 ((xS++[(⟨zN x5.lo x8.lo,imin x5.hi x8.hi⟩:Sn)]).length) 2 none),(60,.lsl 2 0 1 2 (some 1)),(59,.agg [I (zN x5.lo x8.lo),I (imin x5.hi x8.hi)]),(58,.lsl 0 0 xS.length 2 none),(57,B true),(56,I (imin x5.hi x8.hi)),(55,.lref 1 0 2 1),(54,I (zN x5.lo x8.lo)),(53,.lref 1 0 2 0),(9,.lref 1 0 2 0),(52,.agg [I (zN x5.lo x8.lo),I (imin x5.hi x8.hi)]),(51,I (imin x5.hi x8.hi)),(50,I x8.hi),(49,.ptr (I x8.hi)),(48,.ptr (.agg [I x8.lo,I x8.hi])),(47,I (i8:Int)),(46,.sl b.nl (b.l.map Sn.D) (zsl b.nl 2) none),(45,I x5.hi),(44,.ptr (I x5.hi)),(43,.ptr (.agg [I x5.lo,I x5.hi])),(42,I (i5:Int)),(41,.sl a.nl (a.l.map Sn.D) (zsl a.nl 2) none),(40,I (zN x5.lo x8.lo)),(39,I x8.lo),(38,.ptr (I x8.lo)),(37,.ptr (.agg [I x8.lo,I x8.hi])),(36,I (i8:Int)),(35,.sl b.nl (b.l.map Sn.D) (zsl b.nl 2) none),(34,I x5.lo),(33,.ptr (I x5.lo)),(32,.ptr (.agg [I x5.lo,I x5.hi])),(31,I (i5:Int)),(30,.sl a.nl (a.l.map Sn.D) (zsl a.nl 2) none),(27,B true),(26,I (b.l.length:Int)),(25,.sl b.nl (b.l.map Sn.D) (zsl b.nl 2) none),(24,I (i8:Int)),(0,.sl a.nl (a.l.map Sn.D) (zsl a.nl 2) none),(1,.sl b.nl (b.l.map Sn.D) (zsl b.nl 2) none),(6,.lsl 0 0 xS.length 2 none),(7,I (i5:Int)),(8,I (i8:Int))],[(1,⟨[.agg [I (zN x5.lo x8.lo),I (imin x5.hi x8.hi)]],2,false⟩),(2,⟨[.agg [I (zN x5.lo x8.lo),I (imin x5.hi x8.hi)]],2,false⟩),(3,⟨(xS++[(⟨zN x5.lo x8.lo,imin x5.hi x8.hi⟩:Sn)]).map Sn.D,2,false⟩)],4,0⟩

def sd20345 (a:GS Sn) (b:GS Sn) (i5:Nat) (x5:Sn) (i8:Nat) (x8:Sn) (xS:List Sn):St:=⟨67,[(8,I ((i8+1:Nat):Int)),(29,I ((i8+1:Nat):Int)),(28,I (i8:Int)),(57,B false),(56,I (imin x5.hi x8.hi)),(55,.lref 1 0 2 1),(54,I (zN x5.lo x8.lo)),(53,.lref 1 0 2 0),(9,.lref 1 0 2 0),(52,.agg [I (zN x5.lo x8.lo),I (imin x5.hi x8.hi)]),(51,I (imin x5.hi x8.hi)),(50,I x8.hi),(49,.ptr (I x8.hi)),(48,.ptr (.agg [I x8.lo,I x8.hi])),(47,I (i8:Int)),(46,.sl b.nl (b.l.map Sn.D) (zsl b.nl 2) none),(45,I x5.hi),(44,.ptr (I x5.hi)),(43,.ptr (.agg [I x5.lo,I x5.hi])),(42,I (i5:Int)),(41,.sl a.nl (a.l.map Sn.D) (zsl a.nl 2) none),(40,I (zN x5.lo x8.lo)),(39,I x8.lo),(38,.ptr (I x8.lo)),(37,.ptr (.agg [I x8.lo,I x8.hi])),(36,I (i8:Int)),(35,.sl b.nl (b.l.map Sn.D) (zsl b.nl 2) none),(34,I x5.lo),(33,.ptr (I x5.lo)),(32,.ptr (.agg [I x5.lo,I x5.hi])),(31,I (i5:Int)),(30,.sl a.nl (a.l.map Sn.D) (zsl a.nl 2) none),(27,B true),(26,I (b.l.length:Int)),(25,.sl b.nl (b.l.map Sn.D) (zsl b.nl 2) none),(24,I (i8:Int)),(0,.sl a.nl (a.l.map Sn.D) (zsl a.nl 2) none),(1,.sl b.nl (b.l.map Sn.D) (zsl b.nl 2) none),(6,.lsl 0 0 xS.length 2 none),(7,I (i5:Int)),(8,I (i8:Int))],[(0,⟨xS.map Sn.D,2,false⟩),(1,⟨[.agg [I (zN x5.lo x8.lo),I (imin x5.hi x8.hi)]],2,false⟩)],2,0⟩

inductive LR_r_Common_8 where
 |x0 (xS:List Sn)
instance:Inhabited LR_r_Common_8:=⟨.x0 default⟩
def r_Common_8 (x5:Sn):List Sn→(List Sn)→LR_r_Common_8
 |[],xS=>.x0 xS
 |x8::xj,xS =>
  bif decide ((zN x5.lo x8.lo)≤(imin x5.hi x8.hi)) then
   r_Common_8 x5 xj (xS++[(⟨zN x5.lo x8.lo,imin x5.hi x8.hi⟩:Sn)])
  else
   r_Common_8 x5 xj xS
def lr_r_Common_8 (a:GS Sn) (b:GS Sn) (i5:Nat) (x5:Sn):LR_r_Common_8→Exit × St
 |.x0 xS=>((.exit 2),⟨67,[(27,B false),(26,I (b.l.length:Int)),(25,.sl b.nl (b.l.map Sn.D) (zsl b.nl 2) none),(24,I (b.l.length:Int)),(0,.sl a.nl (a.l.map Sn.D) (zsl a.nl 2) none),(1,.sl b.nl (b.l.map Sn.D) (zsl b.nl 2) none),(6,.lsl 0 0 xS.length 2 none),(7,I (i5:Int)),(8,I (b.l.length:Int))],[(0,⟨xS.map Sn.D,2,false⟩)],1,0⟩)
def iv_r_Common_8 (a:GS Sn) (b:GS Sn) (i5:Nat) (x5:Sn):LR_r_Common_8→Prop
 |.x0 xS=>(xS.length≤64 * i5+b.l.length)
theorem lp_r_Common_8 (a:GS Sn) (b:GS Sn) (i5:Nat) (x5:Sn):∀(xj:List Sn) (i8:Nat) (xS:List Sn) (hd8:b.l.drop i8=xj) (hi8:i8≤b.l.length) (xF:a.l.length≤64) (xX:b.l.length≤64) (hi64:i5 < 64) (hd5:a.l.drop i5=x5::a.l.drop (i5+1)) (hg8_v8_0:xS.length≤64 * i5+i8) (hL8:b.l.length≤1099511627776),(lim cfg).loop 56 lp56_8 ⟨67,[(0,.sl a.nl (a.l.map Sn.D) (zsl a.nl 2) none),(1,.sl b.nl (b.l.map Sn.D) (zsl b.nl 2) none),(6,.lsl 0 0 xS.length 2 none),(7,I (i5:Int)),(8,I (i8:Int))],[(0,⟨xS.map Sn.D,2,false⟩)],1,0⟩=some (lr_r_Common_8 a b i5 x5 (r_Common_8 x5 xj xS)):=by
 intro xj
 induction xj with
 |nil =>
  intro i8 xS hd8 hi8 xF xX hi64 hd5 hg8_v8_0 hL8
  unfold r_Common_8
  obtain rfl:i8=b.l.length:=zW hd8 hi8
  exact zD [.rw 26 (I (b.l.length:Int)),.dec false] (Ai (lt_no hd8) (Ai (zk Sn.D b) trivial)) (by kernel_rfl)
 |cons x8 xj ih =>
  intro i8 xS hd8 hi8 xF xX hi64 hd5 hg8_v8_0 hL8
  have hlt8:=zg hd8
  unfold r_Common_8
  cases h12:decide ((zN x5.lo x8.lo)≤(imin x5.hi x8.hi)) with
  |true =>
   have g12:=of_decide_eq_true h12
   exact zz (ks:=[0,1,6,7,8]) (st':=(sd20344 a b i5 x5 i8 x8 xS)) [.rw 26 (I (b.l.length:Int)),.dec true,.el (.agg [I x5.lo,I x5.hi]),.el (.agg [I x8.lo,I x8.hi]),.el (.agg [I x5.lo,I x5.hi]),.el (.agg [I x8.lo,I x8.hi]),.dec true,.op (some 61) ⟨.lsl 3 0 ((xS++[(⟨zN x5.lo x8.lo,imin x5.hi x8.hi⟩:Sn)]).length) 2 none,[(0,none),(3,some ⟨(xS++[(⟨zN x5.lo x8.lo,imin x5.hi x8.hi⟩:Sn)]).map Sn.D,2,false⟩)],[0,2],4⟩,.rw 29 (I ((i8+1:Nat):Int))] (Ai (zM (i:=i8) (by have:=zg hd8;omega)) (Ai (app_row (f:=Sn.D) (te:=zR) (gO:=zw [(0,⟨xS.map Sn.D,2,false⟩),(1,⟨[.agg [I (zN x5.lo x8.lo),I (imin x5.hi x8.hi)]],2,false⟩),(2,⟨[.agg [I (zN x5.lo x8.lo),I (imin x5.hi x8.hi)]],2,false⟩)]) (nxt:=3) (o:=0) (o2:=2) (fz:=false) z7 xS (⟨zN x5.lo x8.lo,imin x5.hi x8.hi⟩:Sn) (by kernel_rfl) (by kernel_rfl) rfl (by kernel_rfl) (by decide) ⟨by simp only [zR,big]<;>(first|assumption|omega|(exact zF (by omega) (by omega))|(exact zt (by omega))|(exact zm (by omega))|(exact zu (by omega))|(exact zn (by omega))|(exact zl _ (by omega))|(exact Nat.le_trans (hJl _) (by rw [zj];omega))|(exact drop_tl (by assumption))|(simp only [zd] at *<;>omega)|(simp only [zv,zj,GS.some_l,length_set,length_append,length_cons,length_nil] at *<;>first|assumption|omega)|(simp only [zv,zj,GS.some_l,length_set,length_append,length_cons,length_nil,zd] at *<;>first|assumption|omega)|(simp at *<;>omega)),by simp only [big]<;>(first|assumption|omega|(exact zF (by omega) (by omega))|(exact zt (by omega))|(exact zm (by omega))|(exact zu (by omega))|(exact zn (by omega))|(exact zl _ (by omega))|(exact Nat.le_trans (hJl _) (by rw [zj];omega))|(exact drop_tl (by assumption))|(simp only [zd] at *<;>omega)|(simp only [zv,zj,GS.some_l,length_set,length_append,length_cons,length_nil] at *<;>first|assumption|omega)|(simp only [zv,zj,GS.some_l,length_set,length_append,length_cons,length_nil,zd] at *<;>first|assumption|omega)|(simp at *<;>omega))⟩) (Ai h12 (Ai (zS (s:=b) (f:=Sn.D) (k:=2) hd8) (Ai (zS (s:=a) (f:=Sn.D) (k:=2) hd5) (Ai (zS (s:=b) (f:=Sn.D) (k:=2) hd8) (Ai (zS (s:=a) (f:=Sn.D) (k:=2) hd5) (Ai (zT hd8) (Ai (zk Sn.D b) trivial))))))))) (by kernel_rfl) (by (simp only [sd20344,go_sem,length_set,Nat.reduceAdd,Nat.reduceEqDiff,Nat.reduceLT,Nat.reduceLeDiff,bI2,ze.idsL,ze.renL,ze.snapAll,z7.idsL,z7.renL,z7.snapAll])<;>rfl) (ih (i8+1) (xS++[(⟨zN x5.lo x8.lo,imin x5.hi x8.hi⟩:Sn)]) (zi hd8) (zg hd8) (by omega) (by omega) (by omega) (by omega) (by simp only [length_append,length_cons,length_nil] at *<;>omega) (by omega)) (by kernel_rfl)
  |false =>
   have g12:=of_decide_eq_false h12
   exact zz (ks:=[0,1,6,7,8]) (st':=(sd20345 a b i5 x5 i8 x8 xS)) [.rw 26 (I (b.l.length:Int)),.dec true,.el (.agg [I x5.lo,I x5.hi]),.el (.agg [I x8.lo,I x8.hi]),.el (.agg [I x5.lo,I x5.hi]),.el (.agg [I x8.lo,I x8.hi]),.dec false,.rw 29 (I ((i8+1:Nat):Int))] (Ai (zM (i:=i8) (by have:=zg hd8;omega)) (Ai h12 (Ai (zS (s:=b) (f:=Sn.D) (k:=2) hd8) (Ai (zS (s:=a) (f:=Sn.D) (k:=2) hd5) (Ai (zS (s:=b) (f:=Sn.D) (k:=2) hd8) (Ai (zS (s:=a) (f:=Sn.D) (k:=2) hd5) (Ai (zT hd8) (Ai (zk Sn.D b) trivial)))))))) (by kernel_rfl) (by (simp only [sd20345,go_sem,length_set,Nat.reduceAdd,Nat.reduceEqDiff,Nat.reduceLT,Nat.reduceLeDiff,bI2,ze.idsL,ze.renL,ze.snapAll,z7.idsL,z7.renL,z7.snapAll])<;>rfl) (ih (i8+1) xS (zi hd8) (zg hd8) (by omega) (by omega) (by omega) (by omega) (by omega) (by omega)) (by kernel_rfl)
theorem ivt_r_Common_8 (a:GS Sn) (b:GS Sn) (i5:Nat) (x5:Sn):∀(xj:List Sn) (i8:Nat) (xS:List Sn) (hd8:b.l.drop i8=xj) (hi8:i8≤b.l.length) (xF:a.l.length≤64) (xX:b.l.length≤64) (hi64:i5 < 64) (hd5:a.l.drop i5=x5::a.l.drop (i5+1)) (hg8_v8_0:xS.length≤64 * i5+i8) (hL8:b.l.length≤1099511627776),iv_r_Common_8 a b i5 x5 (r_Common_8 x5 xj xS):=by
 intro xj
 induction xj with
 |nil =>
  intro i8 xS hd8 hi8 xF xX hi64 hd5 hg8_v8_0 hL8
  unfold r_Common_8
  obtain rfl:i8=b.l.length:=zW hd8 hi8
  exact hg8_v8_0
 |cons x8 xj ih =>
  intro i8 xS hd8 hi8 xF xX hi64 hd5 hg8_v8_0 hL8
  have hlt8:=zg hd8
  unfold r_Common_8
  cases h12:decide ((zN x5.lo x8.lo)≤(imin x5.hi x8.hi)) with
  |true =>
   have g12:=of_decide_eq_true h12
   exact ih (i8+1) (xS++[(⟨zN x5.lo x8.lo,imin x5.hi x8.hi⟩:Sn)]) (zi hd8) (zg hd8) (by omega) (by omega) (by omega) (by omega) (by simp only [length_append,length_cons,length_nil] at *<;>omega) (by omega)
  |false =>
   have g12:=of_decide_eq_false h12
   exact ih (i8+1) xS (zi hd8) (zg hd8) (by omega) (by omega) (by omega) (by omega) (by omega) (by omega)

def sd20347 (a:GS Sn) (b:GS Sn) (i5:Nat) (x5:Sn) (xZ:Nat) (xG:Sn) (yT:List Sn):St:=⟨67,[(8,I ((xZ+1:Nat):Int)),(29,I ((xZ+1:Nat):Int)),(28,I (xZ:Int)),(6,.lsl 3 0 ((yT++[(⟨zN x5.lo xG.lo,imin x5.hi xG.hi⟩:Sn)]).length) 2 none),(61,.lsl 3 0 ((yT++[(⟨zN x5.lo xG.lo,imin x5.hi xG.hi⟩:Sn)]).length) 2 none),(60,.lsl 2 0 1 2 (some 1)),(59,.agg [I (zN x5.lo xG.lo),I (imin x5.hi xG.hi)]),(58,.lsl 0 0 yT.length 2 none),(57,B true),(56,I (imin x5.hi xG.hi)),(55,.lref 1 0 2 1),(54,I (zN x5.lo xG.lo)),(53,.lref 1 0 2 0),(9,.lref 1 0 2 0),(52,.agg [I (zN x5.lo xG.lo),I (imin x5.hi xG.hi)]),(51,I (imin x5.hi xG.hi)),(50,I xG.hi),(49,.ptr (I xG.hi)),(48,.ptr (.agg [I xG.lo,I xG.hi])),(47,I (xZ:Int)),(46,.sl b.nl (b.l.map Sn.D) (zsl b.nl 2) none),(45,I x5.hi),(44,.ptr (I x5.hi)),(43,.ptr (.agg [I x5.lo,I x5.hi])),(42,I (i5:Int)),(41,.sl a.nl (a.l.map Sn.D) (zsl a.nl 2) none),(40,I (zN x5.lo xG.lo)),(39,I xG.lo),(38,.ptr (I xG.lo)),(37,.ptr (.agg [I xG.lo,I xG.hi])),(36,I (xZ:Int)),(35,.sl b.nl (b.l.map Sn.D) (zsl b.nl 2) none),(34,I x5.lo),(33,.ptr (I x5.lo)),(32,.ptr (.agg [I x5.lo,I x5.hi])),(31,I (i5:Int)),(30,.sl a.nl (a.l.map Sn.D) (zsl a.nl 2) none),(27,B true),(26,I (b.l.length:Int)),(25,.sl b.nl (b.l.map Sn.D) (zsl b.nl 2) none),(24,I (xZ:Int)),(0,.sl a.nl (a.l.map Sn.D) (zsl a.nl 2) none),(1,.sl b.nl (b.l.map Sn.D) (zsl b.nl 2) none),(6,.lsl 0 0 yT.length 2 none),(7,I (i5:Int)),(8,I (xZ:Int))],[(1,⟨[.agg [I (zN x5.lo xG.lo),I (imin x5.hi xG.hi)]],2,false⟩),(2,⟨[.agg [I (zN x5.lo xG.lo),I (imin x5.hi xG.hi)]],2,false⟩),(3,⟨(yT++[(⟨zN x5.lo xG.lo,imin x5.hi xG.hi⟩:Sn)]).map Sn.D,2,false⟩)],4,0⟩

def sd20348 (a:GS Sn) (b:GS Sn) (i5:Nat) (x5:Sn) (xZ:Nat) (xG:Sn) (yT:List Sn):St:=⟨67,[(8,I ((xZ+1:Nat):Int)),(29,I ((xZ+1:Nat):Int)),(28,I (xZ:Int)),(57,B false),(56,I (imin x5.hi xG.hi)),(55,.lref 1 0 2 1),(54,I (zN x5.lo xG.lo)),(53,.lref 1 0 2 0),(9,.lref 1 0 2 0),(52,.agg [I (zN x5.lo xG.lo),I (imin x5.hi xG.hi)]),(51,I (imin x5.hi xG.hi)),(50,I xG.hi),(49,.ptr (I xG.hi)),(48,.ptr (.agg [I xG.lo,I xG.hi])),(47,I (xZ:Int)),(46,.sl b.nl (b.l.map Sn.D) (zsl b.nl 2) none),(45,I x5.hi),(44,.ptr (I x5.hi)),(43,.ptr (.agg [I x5.lo,I x5.hi])),(42,I (i5:Int)),(41,.sl a.nl (a.l.map Sn.D) (zsl a.nl 2) none),(40,I (zN x5.lo xG.lo)),(39,I xG.lo),(38,.ptr (I xG.lo)),(37,.ptr (.agg [I xG.lo,I xG.hi])),(36,I (xZ:Int)),(35,.sl b.nl (b.l.map Sn.D) (zsl b.nl 2) none),(34,I x5.lo),(33,.ptr (I x5.lo)),(32,.ptr (.agg [I x5.lo,I x5.hi])),(31,I (i5:Int)),(30,.sl a.nl (a.l.map Sn.D) (zsl a.nl 2) none),(27,B true),(26,I (b.l.length:Int)),(25,.sl b.nl (b.l.map Sn.D) (zsl b.nl 2) none),(24,I (xZ:Int)),(0,.sl a.nl (a.l.map Sn.D) (zsl a.nl 2) none),(1,.sl b.nl (b.l.map Sn.D) (zsl b.nl 2) none),(6,.lsl 0 0 yT.length 2 none),(7,I (i5:Int)),(8,I (xZ:Int))],[(0,⟨yT.map Sn.D,2,false⟩),(1,⟨[.agg [I (zN x5.lo xG.lo),I (imin x5.hi xG.hi)]],2,false⟩)],2,0⟩

inductive LR_r_Common_8p1 where
 |x0 (yT:List Sn)
 |x1
instance:Inhabited LR_r_Common_8p1:=⟨.x0 default⟩
def r_Common_8p1a (x5:Sn):List Sn→(List Sn)→LR_r_Common_8p1
 |[],yT=>.x0 yT
 |xG::xw,yT =>
  bif decide ((zN x5.lo xG.lo)≤(imin x5.hi xG.hi)) then
   r_Common_8p1a x5 xw (yT++[(⟨zN x5.lo xG.lo,imin x5.hi xG.hi⟩:Sn)])
  else
   r_Common_8p1a x5 xw yT
def r_Common_8p1 (x5:Sn):List Sn→LR_r_Common_8p1
 |[]=>.x1
 |xG::xw =>
  bif decide ((zN x5.lo xG.lo)≤(imin x5.hi xG.hi)) then
   r_Common_8p1a x5 xw [(⟨zN x5.lo xG.lo,imin x5.hi xG.hi⟩:Sn)]
  else
   r_Common_8p1 x5 xw
def lr_r_Common_8p1 (a:GS Sn) (b:GS Sn) (i5:Nat) (x5:Sn):LR_r_Common_8p1→Exit × St
 |.x0 yT=>((.exit 2),⟨67,[(27,B false),(26,I (b.l.length:Int)),(25,.sl b.nl (b.l.map Sn.D) (zsl b.nl 2) none),(24,I (b.l.length:Int)),(0,.sl a.nl (a.l.map Sn.D) (zsl a.nl 2) none),(1,.sl b.nl (b.l.map Sn.D) (zsl b.nl 2) none),(6,.lsl 0 0 yT.length 2 none),(7,I (i5:Int)),(8,I (b.l.length:Int))],[(0,⟨yT.map Sn.D,2,false⟩)],1,0⟩)
 |.x1=>((.exit 2),⟨67,[(27,B false),(26,I (b.l.length:Int)),(25,.sl b.nl (b.l.map Sn.D) (zsl b.nl 2) none),(24,I (b.l.length:Int)),(0,.sl a.nl (a.l.map Sn.D) (zsl a.nl 2) none),(1,.sl b.nl (b.l.map Sn.D) (zsl b.nl 2) none),(6,.sl true [] 0 none),(7,I (i5:Int)),(8,I (b.l.length:Int))],[],0,0⟩)
def iv_r_Common_8p1 (a:GS Sn) (b:GS Sn) (i5:Nat) (x5:Sn):LR_r_Common_8p1→Prop
 |.x0 yT=>(yT.length≤64 * i5+b.l.length)
 |.x1=>True
theorem lp_r_Common_8p1a (a:GS Sn) (b:GS Sn) (i5:Nat) (x5:Sn):∀(xw:List Sn) (xZ:Nat) (yT:List Sn) (xB:b.l.drop xZ=xw) (hi8p1:xZ≤b.l.length) (xF:a.l.length≤64) (xX:b.l.length≤64) (hi64:i5 < 64) (hd5:a.l.drop i5=x5::a.l.drop (i5+1)) (hg8p1_va8p1_0:yT.length≤64 * i5+xZ) (hL8p1:b.l.length≤1099511627776),(lim cfg).loop 56 lp56_8 ⟨67,[(0,.sl a.nl (a.l.map Sn.D) (zsl a.nl 2) none),(1,.sl b.nl (b.l.map Sn.D) (zsl b.nl 2) none),(6,.lsl 0 0 yT.length 2 none),(7,I (i5:Int)),(8,I (xZ:Int))],[(0,⟨yT.map Sn.D,2,false⟩)],1,0⟩=some (lr_r_Common_8p1 a b i5 x5 (r_Common_8p1a x5 xw yT)):=by
 intro xw
 induction xw with
 |nil =>
  intro xZ yT xB hi8p1 xF xX hi64 hd5 hg8p1_va8p1_0 hL8p1
  unfold r_Common_8p1a
  obtain rfl:xZ=b.l.length:=zW xB hi8p1
  exact zD [.rw 26 (I (b.l.length:Int)),.dec false] (Ai (lt_no xB) (Ai (zk Sn.D b) trivial)) (by kernel_rfl)
 |cons xG xw ih =>
  intro xZ yT xB hi8p1 xF xX hi64 hd5 hg8p1_va8p1_0 hL8p1
  have hlt8p1:=zg xB
  unfold r_Common_8p1a
  cases h16:decide ((zN x5.lo xG.lo)≤(imin x5.hi xG.hi)) with
  |true =>
   have g16:=of_decide_eq_true h16
   exact zz (ks:=[0,1,6,7,8]) (st':=(sd20347 a b i5 x5 xZ xG yT)) [.rw 26 (I (b.l.length:Int)),.dec true,.el (.agg [I x5.lo,I x5.hi]),.el (.agg [I xG.lo,I xG.hi]),.el (.agg [I x5.lo,I x5.hi]),.el (.agg [I xG.lo,I xG.hi]),.dec true,.op (some 61) ⟨.lsl 3 0 ((yT++[(⟨zN x5.lo xG.lo,imin x5.hi xG.hi⟩:Sn)]).length) 2 none,[(0,none),(3,some ⟨(yT++[(⟨zN x5.lo xG.lo,imin x5.hi xG.hi⟩:Sn)]).map Sn.D,2,false⟩)],[0,2],4⟩,.rw 29 (I ((xZ+1:Nat):Int))] (Ai (zM (i:=xZ) (by have:=zg xB;omega)) (Ai (app_row (f:=Sn.D) (te:=zR) (gO:=zw [(0,⟨yT.map Sn.D,2,false⟩),(1,⟨[.agg [I (zN x5.lo xG.lo),I (imin x5.hi xG.hi)]],2,false⟩),(2,⟨[.agg [I (zN x5.lo xG.lo),I (imin x5.hi xG.hi)]],2,false⟩)]) (nxt:=3) (o:=0) (o2:=2) (fz:=false) z7 yT (⟨zN x5.lo xG.lo,imin x5.hi xG.hi⟩:Sn) (by kernel_rfl) (by kernel_rfl) rfl (by kernel_rfl) (by decide) ⟨by simp only [zR,big]<;>(first|assumption|omega|(exact zF (by omega) (by omega))|(exact zt (by omega))|(exact zm (by omega))|(exact zu (by omega))|(exact zn (by omega))|(exact zl _ (by omega))|(exact Nat.le_trans (hJl _) (by rw [zj];omega))|(exact drop_tl (by assumption))|(simp only [zd] at *<;>omega)|(simp only [zv,zj,GS.some_l,length_set,length_append,length_cons,length_nil] at *<;>first|assumption|omega)|(simp only [zv,zj,GS.some_l,length_set,length_append,length_cons,length_nil,zd] at *<;>first|assumption|omega)|(simp at *<;>omega)),by simp only [big]<;>(first|assumption|omega|(exact zF (by omega) (by omega))|(exact zt (by omega))|(exact zm (by omega))|(exact zu (by omega))|(exact zn (by omega))|(exact zl _ (by omega))|(exact Nat.le_trans (hJl _) (by rw [zj];omega))|(exact drop_tl (by assumption))|(simp only [zd] at *<;>omega)|(simp only [zv,zj,GS.some_l,length_set,length_append,length_cons,length_nil] at *<;>first|assumption|omega)|(simp only [zv,zj,GS.some_l,length_set,length_append,length_cons,length_nil,zd] at *<;>first|assumption|omega)|(simp at *<;>omega))⟩) (Ai h16 (Ai (zS (s:=b) (f:=Sn.D) (k:=2) xB) (Ai (zS (s:=a) (f:=Sn.D) (k:=2) hd5) (Ai (zS (s:=b) (f:=Sn.D) (k:=2) xB) (Ai (zS (s:=a) (f:=Sn.D) (k:=2) hd5) (Ai (zT xB) (Ai (zk Sn.D b) trivial))))))))) (by kernel_rfl) (by (simp only [sd20347,go_sem,length_set,Nat.reduceAdd,Nat.reduceEqDiff,Nat.reduceLT,Nat.reduceLeDiff,bI2,ze.idsL,ze.renL,ze.snapAll,z7.idsL,z7.renL,z7.snapAll])<;>rfl) (ih (xZ+1) (yT++[(⟨zN x5.lo xG.lo,imin x5.hi xG.hi⟩:Sn)]) (zi xB) (zg xB) (by omega) (by omega) (by omega) (by omega) (by simp only [length_append,length_cons,length_nil] at *<;>omega) (by omega)) (by kernel_rfl)
  |false =>
   have g16:=of_decide_eq_false h16
   exact zz (ks:=[0,1,6,7,8]) (st':=(sd20348 a b i5 x5 xZ xG yT)) [.rw 26 (I (b.l.length:Int)),.dec true,.el (.agg [I x5.lo,I x5.hi]),.el (.agg [I xG.lo,I xG.hi]),.el (.agg [I x5.lo,I x5.hi]),.el (.agg [I xG.lo,I xG.hi]),.dec false,.rw 29 (I ((xZ+1:Nat):Int))] (Ai (zM (i:=xZ) (by have:=zg xB;omega)) (Ai h16 (Ai (zS (s:=b) (f:=Sn.D) (k:=2) xB) (Ai (zS (s:=a) (f:=Sn.D) (k:=2) hd5) (Ai (zS (s:=b) (f:=Sn.D) (k:=2) xB) (Ai (zS (s:=a) (f:=Sn.D) (k:=2) hd5) (Ai (zT xB) (Ai (zk Sn.D b) trivial)))))))) (by kernel_rfl) (by (simp only [sd20348,go_sem,length_set,Nat.reduceAdd,Nat.reduceEqDiff,Nat.reduceLT,Nat.reduceLeDiff,bI2,ze.idsL,ze.renL,ze.snapAll,z7.idsL,z7.renL,z7.snapAll])<;>rfl) (ih (xZ+1) yT (zi xB) (zg xB) (by omega) (by omega) (by omega) (by omega) (by omega) (by omega)) (by kernel_rfl)
theorem ivt_r_Common_8p1a (a:GS Sn) (b:GS Sn) (i5:Nat) (x5:Sn):∀(xw:List Sn) (xZ:Nat) (yT:List Sn) (xB:b.l.drop xZ=xw) (hi8p1:xZ≤b.l.length) (xF:a.l.length≤64) (xX:b.l.length≤64) (hi64:i5 < 64) (hd5:a.l.drop i5=x5::a.l.drop (i5+1)) (hg8p1_va8p1_0:yT.length≤64 * i5+xZ) (hL8p1:b.l.length≤1099511627776),iv_r_Common_8p1 a b i5 x5 (r_Common_8p1a x5 xw yT):=by
 intro xw
 induction xw with
 |nil =>
  intro xZ yT xB hi8p1 xF xX hi64 hd5 hg8p1_va8p1_0 hL8p1
  unfold r_Common_8p1a
  obtain rfl:xZ=b.l.length:=zW xB hi8p1
  exact hg8p1_va8p1_0
 |cons xG xw ih =>
  intro xZ yT xB hi8p1 xF xX hi64 hd5 hg8p1_va8p1_0 hL8p1
  have hlt8p1:=zg xB
  unfold r_Common_8p1a
  cases h16:decide ((zN x5.lo xG.lo)≤(imin x5.hi xG.hi)) with
  |true =>
   have g16:=of_decide_eq_true h16
   exact ih (xZ+1) (yT++[(⟨zN x5.lo xG.lo,imin x5.hi xG.hi⟩:Sn)]) (zi xB) (zg xB) (by omega) (by omega) (by omega) (by omega) (by simp only [length_append,length_cons,length_nil] at *<;>omega) (by omega)
  |false =>
   have g16:=of_decide_eq_false h16
   exact ih (xZ+1) yT (zi xB) (zg xB) (by omega) (by omega) (by omega) (by omega) (by omega) (by omega)
theorem lp_r_Common_8p1 (a:GS Sn) (b:GS Sn) (i5:Nat) (x5:Sn):∀(xw:List Sn) (xZ:Nat) (xB:b.l.drop xZ=xw) (hi8p1:xZ≤b.l.length) (xF:a.l.length≤64) (xX:b.l.length≤64) (hi64:i5 < 64) (hd5:a.l.drop i5=x5::a.l.drop (i5+1)) (hL8p1:b.l.length≤1099511627776),(lim cfg).loop 56 lp56_8 ⟨67,[(0,.sl a.nl (a.l.map Sn.D) (zsl a.nl 2) none),(1,.sl b.nl (b.l.map Sn.D) (zsl b.nl 2) none),(6,.sl true [] 0 none),(7,I (i5:Int)),(8,I (xZ:Int))],[],0,0⟩=some (lr_r_Common_8p1 a b i5 x5 (r_Common_8p1 x5 xw)):=by
 intro xw
 induction xw with
 |nil =>
  intro xZ xB hi8p1 xF xX hi64 hd5 hL8p1
  unfold r_Common_8p1
  obtain rfl:xZ=b.l.length:=zW xB hi8p1
  exact zD [.rw 26 (I (b.l.length:Int)),.dec false] (Ai (lt_no xB) (Ai (zk Sn.D b) trivial)) (by kernel_rfl)
 |cons xG xw ih =>
  intro xZ xB hi8p1 xF xX hi64 hd5 hL8p1
  have hlt8p1:=zg xB
  unfold r_Common_8p1
  cases h17:decide ((zN x5.lo xG.lo)≤(imin x5.hi xG.hi)) with
  |true =>
   have g17:=of_decide_eq_true h17
   exact po_turn [.rw 26 (I (b.l.length:Int)),.dec true,.el (.agg [I x5.lo,I x5.hi]),.el (.agg [I xG.lo,I xG.hi]),.el (.agg [I x5.lo,I x5.hi]),.el (.agg [I xG.lo,I xG.hi]),.dec true,.rw 29 (I ((xZ+1:Nat):Int))] (Ai (zM (i:=xZ) (by have:=zg xB;omega)) (Ai h17 (Ai (zS (s:=b) (f:=Sn.D) (k:=2) xB) (Ai (zS (s:=a) (f:=Sn.D) (k:=2) hd5) (Ai (zS (s:=b) (f:=Sn.D) (k:=2) xB) (Ai (zS (s:=a) (f:=Sn.D) (k:=2) hd5) (Ai (zT xB) (Ai (zk Sn.D b) trivial)))))))) (lp_r_Common_8p1a a b i5 x5 _ (xZ+1) [(⟨zN x5.lo xG.lo,imin x5.hi xG.hi⟩:Sn)] (zi xB) (zg xB) (by omega) (by omega) (by omega) (by omega) (by simp only [length_append,length_cons,length_nil] at *<;>omega) (by omega)) (by kernel_rfl)
  |false =>
   have g17:=of_decide_eq_false h17
   exact po_turn [.rw 26 (I (b.l.length:Int)),.dec true,.el (.agg [I x5.lo,I x5.hi]),.el (.agg [I xG.lo,I xG.hi]),.el (.agg [I x5.lo,I x5.hi]),.el (.agg [I xG.lo,I xG.hi]),.dec false,.rw 29 (I ((xZ+1:Nat):Int))] (Ai (zM (i:=xZ) (by have:=zg xB;omega)) (Ai h17 (Ai (zS (s:=b) (f:=Sn.D) (k:=2) xB) (Ai (zS (s:=a) (f:=Sn.D) (k:=2) hd5) (Ai (zS (s:=b) (f:=Sn.D) (k:=2) xB) (Ai (zS (s:=a) (f:=Sn.D) (k:=2) hd5) (Ai (zT xB) (Ai (zk Sn.D b) trivial)))))))) (ih (xZ+1) (zi xB) (zg xB) (by omega) (by omega) (by omega) (by omega) (by omega)) (by kernel_rfl)
theorem ivt_r_Common_8p1 (a:GS Sn) (b:GS Sn) (i5:Nat) (x5:Sn):∀(xw:List Sn) (xZ:Nat) (xB:b.l.drop xZ=xw) (hi8p1:xZ≤b.l.length) (xF:a.l.length≤64) (xX:b.l.length≤64) (hi64:i5 < 64) (hd5:a.l.drop i5=x5::a.l.drop (i5+1)) (hL8p1:b.l.length≤1099511627776),iv_r_Common_8p1 a b i5 x5 (r_Common_8p1 x5 xw):=by
 intro xw
 induction xw with
 |nil =>
  intro xZ xB hi8p1 xF xX hi64 hd5 hL8p1
  unfold r_Common_8p1
  obtain rfl:xZ=b.l.length:=zW xB hi8p1
  exact trivial
 |cons xG xw ih =>
  intro xZ xB hi8p1 xF xX hi64 hd5 hL8p1
  have hlt8p1:=zg xB
  unfold r_Common_8p1
  cases h17:decide ((zN x5.lo xG.lo)≤(imin x5.hi xG.hi)) with
  |true =>
   have g17:=of_decide_eq_true h17
   exact ivt_r_Common_8p1a a b i5 x5 _ (xZ+1) [(⟨zN x5.lo xG.lo,imin x5.hi xG.hi⟩:Sn)] (zi xB) (zg xB) (by omega) (by omega) (by omega) (by omega) (by simp only [length_append,length_cons,length_nil] at *<;>omega) (by omega)
  |false =>
   have g17:=of_decide_eq_false h17
   exact ih (xZ+1) (zi xB) (zg xB) (by omega) (by omega) (by omega) (by omega) (by omega)

noncomputable def lp56_5:Code:=subC [1,1,1,0,1,0,0] (bodyC Tryz.f56)

def sd20350 (a:GS Sn) (b:GS Sn) (i5:Nat) (xS:List Sn):St:=⟨67,[(7,I ((i5+1:Nat):Int)),(23,I ((i5+1:Nat):Int)),(22,I (i5:Int)),(27,B false),(26,I (b.l.length:Int)),(25,.sl b.nl (b.l.map Sn.D) (zsl b.nl 2) none),(24,I (b.l.length:Int)),(0,.sl a.nl (a.l.map Sn.D) (zsl a.nl 2) none),(1,.sl b.nl (b.l.map Sn.D) (zsl b.nl 2) none),(6,.lsl 0 0 xS.length 2 none),(7,I (i5:Int)),(8,I (b.l.length:Int))],[(0,⟨xS.map Sn.D,2,false⟩)],1,0⟩

def sd20342 (a:GS Sn) (b:GS Sn) (i5:Nat) (yK:List Sn):St:=⟨67,[(0,.sl a.nl (a.l.map Sn.D) (zsl a.nl 2) none),(1,.sl b.nl (b.l.map Sn.D) (zsl b.nl 2) none),(6,.lsl 0 0 yK.length 2 none),(7,I (i5:Int)),(8,I 0)],[(0,⟨yK.map Sn.D,2,false⟩)],1,0⟩

def sd20346 (a:GS Sn) (b:GS Sn) (i5:Nat) (xS:List Sn):St:=⟨67,[(27,B false),(26,I (b.l.length:Int)),(25,.sl b.nl (b.l.map Sn.D) (zsl b.nl 2) none),(24,I (b.l.length:Int)),(0,.sl a.nl (a.l.map Sn.D) (zsl a.nl 2) none),(1,.sl b.nl (b.l.map Sn.D) (zsl b.nl 2) none),(6,.lsl 0 0 xS.length 2 none),(7,I (i5:Int)),(8,I (b.l.length:Int))],[(0,⟨xS.map Sn.D,2,false⟩)],1,0⟩

def sd20341 (a:GS Sn) (b:GS Sn) (i5:Nat) (yK:List Sn):St:=⟨67,[(8,I 0),(21,B true),(20,I (a.l.length:Int)),(19,.sl a.nl (a.l.map Sn.D) (zsl a.nl 2) none),(18,I (i5:Int)),(0,.sl a.nl (a.l.map Sn.D) (zsl a.nl 2) none),(1,.sl b.nl (b.l.map Sn.D) (zsl b.nl 2) none),(6,.lsl 0 0 yK.length 2 none),(7,I (i5:Int))],[(0,⟨yK.map Sn.D,2,false⟩)],1,0⟩

def sd20351 (a:GS Sn) (b:GS Sn) (i5:Nat) (yT:List Sn):St:=⟨67,[(7,I ((i5+1:Nat):Int)),(23,I ((i5+1:Nat):Int)),(22,I (i5:Int)),(27,B false),(26,I (b.l.length:Int)),(25,.sl b.nl (b.l.map Sn.D) (zsl b.nl 2) none),(24,I (b.l.length:Int)),(0,.sl a.nl (a.l.map Sn.D) (zsl a.nl 2) none),(1,.sl b.nl (b.l.map Sn.D) (zsl b.nl 2) none),(6,.lsl 0 0 yT.length 2 none),(7,I (i5:Int)),(8,I (b.l.length:Int))],[(0,⟨yT.map Sn.D,2,false⟩)],1,0⟩

def sd20349 (a:GS Sn) (b:GS Sn) (i5:Nat) (yT:List Sn):St:=⟨67,[(27,B false),(26,I (b.l.length:Int)),(25,.sl b.nl (b.l.map Sn.D) (zsl b.nl 2) none),(24,I (b.l.length:Int)),(0,.sl a.nl (a.l.map Sn.D) (zsl a.nl 2) none),(1,.sl b.nl (b.l.map Sn.D) (zsl b.nl 2) none),(6,.lsl 0 0 yT.length 2 none),(7,I (i5:Int)),(8,I (b.l.length:Int))],[(0,⟨yT.map Sn.D,2,false⟩)],1,0⟩

def sd20338 (a:GS Sn) (b:GS Sn) (i5:Nat):St:=⟨67,[(27,B false),(26,I (b.l.length:Int)),(25,.sl b.nl (b.l.map Sn.D) (zsl b.nl 2) none),(24,I (b.l.length:Int)),(0,.sl a.nl (a.l.map Sn.D) (zsl a.nl 2) none),(1,.sl b.nl (b.l.map Sn.D) (zsl b.nl 2) none),(6,.sl true [] 0 none),(7,I (i5:Int)),(8,I (b.l.length:Int))],[],0,0⟩

inductive LR_r_Common_5 where
 |x0 (yK:List Sn)
 |x1
instance:Inhabited LR_r_Common_5:=⟨.x0 default⟩
def r_Common_5a (b:GS Sn):List Sn→(List Sn)→LR_r_Common_5
 |[],yK=>.x0 yK
 |x5::xp,yK =>
  match r_Common_8 x5 b.l yK with
  |.x0 xS =>
   r_Common_5a b xp xS
def r_Common_5 (b:GS Sn):List Sn→LR_r_Common_5
 |[]=>.x1
 |x5::xp =>
  match r_Common_8p1 x5 b.l with
  |.x0 yT =>
   r_Common_5a b xp yT
  |.x1 =>
   r_Common_5 b xp
def lr_r_Common_5 (a:GS Sn) (b:GS Sn):LR_r_Common_5→Exit × St
 |.x0 yK=>((.exit 0),⟨67,[(21,B false),(20,I (a.l.length:Int)),(19,.sl a.nl (a.l.map Sn.D) (zsl a.nl 2) none),(18,I (a.l.length:Int)),(0,.sl a.nl (a.l.map Sn.D) (zsl a.nl 2) none),(1,.sl b.nl (b.l.map Sn.D) (zsl b.nl 2) none),(6,.lsl 0 0 yK.length 2 none),(7,I (a.l.length:Int))],[(0,⟨yK.map Sn.D,2,false⟩)],1,0⟩)
 |.x1=>((.exit 0),⟨67,[(21,B false),(20,I (a.l.length:Int)),(19,.sl a.nl (a.l.map Sn.D) (zsl a.nl 2) none),(18,I (a.l.length:Int)),(0,.sl a.nl (a.l.map Sn.D) (zsl a.nl 2) none),(1,.sl b.nl (b.l.map Sn.D) (zsl b.nl 2) none),(6,.sl true [] 0 none),(7,I (a.l.length:Int))],[],0,0⟩)
def iv_r_Common_5 (a:GS Sn) (b:GS Sn):LR_r_Common_5→Prop
 |.x0 yK=>(yK.length≤64 * a.l.length)
 |.x1=>True
theorem lp_r_Common_5a (a:GS Sn) (b:GS Sn):∀(xp:List Sn) (i5:Nat) (yK:List Sn) (hd5:a.l.drop i5=xp) (hi5:i5≤a.l.length) (xF:a.l.length≤64) (xX:b.l.length≤64) (hg5_va5_0:yK.length≤64 * i5) (hL5:a.l.length≤1099511627776),(lim cfg).loop 56 lp56_5 ⟨67,[(0,.sl a.nl (a.l.map Sn.D) (zsl a.nl 2) none),(1,.sl b.nl (b.l.map Sn.D) (zsl b.nl 2) none),(6,.lsl 0 0 yK.length 2 none),(7,I (i5:Int))],[(0,⟨yK.map Sn.D,2,false⟩)],1,0⟩=some (lr_r_Common_5 a b (r_Common_5a b xp yK)):=by
 intro xp
 induction xp with
 |nil =>
  intro i5 yK hd5 hi5 xF xX hg5_va5_0 hL5
  unfold r_Common_5a
  obtain rfl:i5=a.l.length:=zW hd5 hi5
  exact zD [.rw 20 (I (a.l.length:Int)),.dec false] (Ai (lt_no hd5) (Ai (zk Sn.D a) trivial)) (by kernel_rfl)
 |cons x5 xp ih =>
  intro i5 yK hd5 hi5 xF xX hg5_va5_0 hL5
  have hlt5:=zg hd5
  unfold r_Common_5a
  cases h13:r_Common_8 x5 b.l yK with
  |x0 xS =>
   try dsimp only
   have hv_h13:=ivt_r_Common_8 a b i5 x5 b.l 0 yK (List.drop_zero) (Nat.zero_le _) (by omega) (by omega) (by omega) (by exact drop_tl (by assumption)) (by omega) (by omega)
   rw [h13] at hv_h13
   have hv_h13_0:=hv_h13
   try dsimp only [iv_r_Common_8] at hv_h13_0
   exact zz (ks:=[0,1,6,7]) (st':=(sd20350 a b i5 xS)) [.rw 20 (I (a.l.length:Int)),.dec true,.gloop (sd20342 a b i5 yK) (.exit 2) (sd20346 a b i5 xS),.rw 23 (I ((i5+1:Nat):Int))] (Ai (zM (i:=i5) (by have:=zg hd5;omega)) (Ai (y8 (q:=lr_r_Common_8 a b i5 x5) (lp_r_Common_8 a b i5 x5 b.l 0 yK (List.drop_zero) (Nat.zero_le _) (by omega) (by omega) (by omega) (by exact drop_tl (by assumption)) (by omega) (by omega)) h13) (Ai (gc_of (C:=cfg) (f:=56) (a:=lp56_8) (ks:=[0,1,6,7,8]) (st:=(sd20341 a b i5 yK)) (st1:=(sd20342 a b i5 yK)) (by kernel_rfl) (by (simp only [sd20341,sd20342,go_sem,length_set,Nat.reduceAdd,Nat.reduceEqDiff,Nat.reduceLT,Nat.reduceLeDiff,bI2,ze.idsL,ze.renL,ze.snapAll,z7.idsL,z7.renL,z7.snapAll])<;>rfl)) (Ai (zT hd5) (Ai (zk Sn.D a) trivial))))) (by kernel_rfl) (by (simp only [sd20350,go_sem,length_set,Nat.reduceAdd,Nat.reduceEqDiff,Nat.reduceLT,Nat.reduceLeDiff,bI2,ze.idsL,ze.renL,ze.snapAll,z7.idsL,z7.renL,z7.snapAll])<;>rfl) (ih (i5+1) xS (zi hd5) (zg hd5) (by omega) (by omega) (by omega) (by omega)) (by kernel_rfl)
theorem ivt_r_Common_5a (a:GS Sn) (b:GS Sn):∀(xp:List Sn) (i5:Nat) (yK:List Sn) (hd5:a.l.drop i5=xp) (hi5:i5≤a.l.length) (xF:a.l.length≤64) (xX:b.l.length≤64) (hg5_va5_0:yK.length≤64 * i5) (hL5:a.l.length≤1099511627776),iv_r_Common_5 a b (r_Common_5a b xp yK):=by
 intro xp
 induction xp with
 |nil =>
  intro i5 yK hd5 hi5 xF xX hg5_va5_0 hL5
  unfold r_Common_5a
  obtain rfl:i5=a.l.length:=zW hd5 hi5
  exact hg5_va5_0
 |cons x5 xp ih =>
  intro i5 yK hd5 hi5 xF xX hg5_va5_0 hL5
  have hlt5:=zg hd5
  unfold r_Common_5a
  cases h13:r_Common_8 x5 b.l yK with
  |x0 xS =>
   try dsimp only
   have hv_h13:=ivt_r_Common_8 a b i5 x5 b.l 0 yK (List.drop_zero) (Nat.zero_le _) (by omega) (by omega) (by omega) (by exact drop_tl (by assumption)) (by omega) (by omega)
   rw [h13] at hv_h13
   have hv_h13_0:=hv_h13
   try dsimp only [iv_r_Common_8] at hv_h13_0
   exact ih (i5+1) xS (zi hd5) (zg hd5) (by omega) (by omega) (by omega) (by omega)
theorem lp_r_Common_5 (a:GS Sn) (b:GS Sn):∀(xp:List Sn) (i5:Nat) (hd5:a.l.drop i5=xp) (hi5:i5≤a.l.length) (xF:a.l.length≤64) (xX:b.l.length≤64) (hL5:a.l.length≤1099511627776),(lim cfg).loop 56 lp56_5 ⟨67,[(0,.sl a.nl (a.l.map Sn.D) (zsl a.nl 2) none),(1,.sl b.nl (b.l.map Sn.D) (zsl b.nl 2) none),(6,.sl true [] 0 none),(7,I (i5:Int))],[],0,0⟩=some (lr_r_Common_5 a b (r_Common_5 b xp)):=by
 intro xp
 induction xp with
 |nil =>
  intro i5 hd5 hi5 xF xX hL5
  unfold r_Common_5
  obtain rfl:i5=a.l.length:=zW hd5 hi5
  exact zD [.rw 20 (I (a.l.length:Int)),.dec false] (Ai (lt_no hd5) (Ai (zk Sn.D a) trivial)) (by kernel_rfl)
 |cons x5 xp ih =>
  intro i5 hd5 hi5 xF xX hL5
  have hlt5:=zg hd5
  unfold r_Common_5
  cases h18:r_Common_8p1 x5 b.l with
  |x0 yT =>
   try dsimp only
   have hv_h18:=ivt_r_Common_8p1 a b i5 x5 b.l 0 (List.drop_zero) (Nat.zero_le _) (by omega) (by omega) (by omega) (by exact drop_tl (by assumption)) (by omega)
   rw [h18] at hv_h18
   have wq:=hv_h18
   try dsimp only [iv_r_Common_8p1] at wq
   exact zz (ks:=[0,1,6,7]) (st':=(sd20351 a b i5 yT)) [.rw 20 (I (a.l.length:Int)),.dec true,.loop (.exit 2) (sd20349 a b i5 yT),.rw 23 (I ((i5+1:Nat):Int))] (Ai (zM (i:=i5) (by have:=zg hd5;omega)) (Ai (y8 (q:=lr_r_Common_8p1 a b i5 x5) (lp_r_Common_8p1 a b i5 x5 b.l 0 (List.drop_zero) (Nat.zero_le _) (by omega) (by omega) (by omega) (by exact drop_tl (by assumption)) (by omega)) h18) (Ai (zT hd5) (Ai (zk Sn.D a) trivial)))) (by kernel_rfl) (by (simp only [sd20351,go_sem,length_set,Nat.reduceAdd,Nat.reduceEqDiff,Nat.reduceLT,Nat.reduceLeDiff,bI2,ze.idsL,ze.renL,ze.snapAll,z7.idsL,z7.renL,z7.snapAll])<;>rfl) (lp_r_Common_5a a b _ (i5+1) yT (zi hd5) (zg hd5) (by omega) (by omega) (by omega) (by omega)) (by kernel_rfl)
  |x1 =>
   try dsimp only
   exact po_turn [.rw 20 (I (a.l.length:Int)),.dec true,.loop (.exit 2) (sd20338 a b i5),.rw 23 (I ((i5+1:Nat):Int))] (Ai (zM (i:=i5) (by have:=zg hd5;omega)) (Ai (y8 (q:=lr_r_Common_8p1 a b i5 x5) (lp_r_Common_8p1 a b i5 x5 b.l 0 (List.drop_zero) (Nat.zero_le _) (by omega) (by omega) (by omega) (by exact drop_tl (by assumption)) (by omega)) h18) (Ai (zT hd5) (Ai (zk Sn.D a) trivial)))) (ih (i5+1) (zi hd5) (zg hd5) (by omega) (by omega) (by omega)) (by kernel_rfl)
theorem ivt_r_Common_5 (a:GS Sn) (b:GS Sn):∀(xp:List Sn) (i5:Nat) (hd5:a.l.drop i5=xp) (hi5:i5≤a.l.length) (xF:a.l.length≤64) (xX:b.l.length≤64) (hL5:a.l.length≤1099511627776),iv_r_Common_5 a b (r_Common_5 b xp):=by
 intro xp
 induction xp with
 |nil =>
  intro i5 hd5 hi5 xF xX hL5
  unfold r_Common_5
  obtain rfl:i5=a.l.length:=zW hd5 hi5
  exact trivial
 |cons x5 xp ih =>
  intro i5 hd5 hi5 xF xX hL5
  have hlt5:=zg hd5
  unfold r_Common_5
  cases h18:r_Common_8p1 x5 b.l with
  |x0 yT =>
   try dsimp only
   have hv_h18:=ivt_r_Common_8p1 a b i5 x5 b.l 0 (List.drop_zero) (Nat.zero_le _) (by omega) (by omega) (by omega) (by exact drop_tl (by assumption)) (by omega)
   rw [h18] at hv_h18
   have wq:=hv_h18
   try dsimp only [iv_r_Common_8p1] at wq
   exact ivt_r_Common_5a a b _ (i5+1) yT (zi hd5) (zg hd5) (by omega) (by omega) (by omega) (by omega)
  |x1 =>
   try dsimp only
   exact ih (i5+1) (zi hd5) (zg hd5) (by omega) (by omega) (by omega)

def r_Common (a:GS Sn) (b:GS Sn):(GS Sn) × Int :=
 bif (zC a) then
  bif (zC b) then
   match r_Common_5 b a.l with
   |.x0 yK =>
    bif (JJ (GS.some yK)).nl then
     (((zX (JJ (GS.some yK))).1),((zX (JJ (GS.some yK))).2))
    else
     (((zX (JJ (GS.some yK))).1),((zX (JJ (GS.some yK))).2))
   |.x1 =>
    (((zX (JJ GS.nil)).1),((zX (JJ GS.nil)).2))
  else
   (GS.nil,20)
 else
  (GS.nil,20)

def sd20352 (a:GS Sn) (b:GS Sn) (yK:List Sn):St:=⟨67,[(21,B false),(20,I (a.l.length:Int)),(19,.sl a.nl (a.l.map Sn.D) (zsl a.nl 2) none),(18,I (a.l.length:Int)),(0,.sl a.nl (a.l.map Sn.D) (zsl a.nl 2) none),(1,.sl b.nl (b.l.map Sn.D) (zsl b.nl 2) none),(6,.lsl 0 0 yK.length 2 none),(7,I (a.l.length:Int))],[(0,⟨yK.map Sn.D,2,false⟩)],1,0⟩

def sd20353 (a:GS Sn) (b:GS Sn):St:=⟨67,[(21,B false),(20,I (a.l.length:Int)),(19,.sl a.nl (a.l.map Sn.D) (zsl a.nl 2) none),(18,I (a.l.length:Int)),(0,.sl a.nl (a.l.map Sn.D) (zsl a.nl 2) none),(1,.sl b.nl (b.l.map Sn.D) (zsl b.nl 2) none),(6,.sl true [] 0 none),(7,I (a.l.length:Int))],[],0,0⟩

theorem T_r_Common (a:GS Sn) (b:GS Sn) (hLa:a.l.length≤9223372036854775807) (hLb:b.l.length≤9223372036854775807):(lim cfg).pure 56 [GS.D Sn.D 2 a,GS.D Sn.D 2 b]=some (.tup [GS.D Sn.D 2 ((r_Common a b).1),I ((r_Common a b).2)]):=by
 unfold r_Common
 cases h1:(zC a) with
 |true =>
  have g1:=valid_len h1
  cases h2:(zC b) with
  |true =>
   have g2:=valid_len h2
   cases h19:r_Common_5 b a.l with
   |x0 yK =>
    try dsimp only
    have xY:=ivt_r_Common_5 a b a.l 0 (List.drop_zero) (Nat.zero_le _) (by omega) (by omega) (by omega)
    rw [h19] at xY
    have xW:=xY
    try dsimp only [iv_r_Common_5] at xW
    have p1:=(y8 (q:=lr_r_Common_5 a b) (lp_r_Common_5 a b a.l 0 (List.drop_zero) (Nat.zero_le _) (by omega) (by omega) (by omega)) h19)
    cases h20:(JJ (GS.some yK)).nl with
    |true =>
     exact zp [.pure (B (zC a)),.dec true,.pure (B (zC b)),.dec true,.loop (.exit 0) (sd20352 a b yK),.pureS (.sl ((JJ (GS.some yK)).nl) (((JJ (GS.some yK)).l).map Sn.D) (zsl ((JJ (GS.some yK)).nl) 2) none) true [(0,.sl false (yK.map Sn.D) 2 none,[0])],.pure (.tup [.sl (((zX (JJ (GS.some yK))).1).nl) ((((zX (JJ (GS.some yK))).1).l).map Sn.D) (zsl (((zX (JJ (GS.some yK))).1).nl) 2) none,I ((zX (JJ (GS.some yK))).2)])] (Ai (T_r_Fit (JJ (GS.some yK))) (Ai (Ai (show flat fuelD (.sl ((JJ (GS.some yK)).nl) (((JJ (GS.some yK)).l).map Sn.D) (zsl ((JJ (GS.some yK)).nl) 2) none)=true from (by rw [h20]<;>kernel_rfl)) (Ai (Ai (snap_row (gO:=zw [(0,⟨yK.map Sn.D,2,false⟩)]) (o:=0) (len:=yK.length) (cap:=none) (fz:=false) z7 yK (by kernel_rfl) (by omega)) trivial) (T_JJ (GS.some yK) (by simp only [zv,zj,GS.some_l,length_set,length_append,length_cons,length_nil] at *<;>first|assumption|omega)))) (Ai p1 (Ai h2 (Ai (zK b (by omega)) (Ai h1 (Ai (zK a (by omega)) trivial))))))) (by kernel_rfl)
    |false =>
     exact zp [.pure (B (zC a)),.dec true,.pure (B (zC b)),.dec true,.loop (.exit 0) (sd20352 a b yK),.pureS (.sl ((JJ (GS.some yK)).nl) (((JJ (GS.some yK)).l).map Sn.D) (zsl ((JJ (GS.some yK)).nl) 2) none) false [(0,.sl false (yK.map Sn.D) 2 none,[0])],.pure (.tup [.sl (((zX (JJ (GS.some yK))).1).nl) ((((zX (JJ (GS.some yK))).1).l).map Sn.D) (zsl (((zX (JJ (GS.some yK))).1).nl) 2) none,I ((zX (JJ (GS.some yK))).2)])] (Ai (T_r_Fit (JJ (GS.some yK))) (Ai (Ai (show flat fuelD (.sl ((JJ (GS.some yK)).nl) (((JJ (GS.some yK)).l).map Sn.D) (zsl ((JJ (GS.some yK)).nl) 2) none)=false from (by rw [h20]<;>kernel_rfl)) (Ai (Ai (snap_row (gO:=zw [(0,⟨yK.map Sn.D,2,false⟩)]) (o:=0) (len:=yK.length) (cap:=none) (fz:=false) z7 yK (by kernel_rfl) (by omega)) trivial) (T_JJ (GS.some yK) (by simp only [zv,zj,GS.some_l,length_set,length_append,length_cons,length_nil] at *<;>first|assumption|omega)))) (Ai p1 (Ai h2 (Ai (zK b (by omega)) (Ai h1 (Ai (zK a (by omega)) trivial))))))) (by kernel_rfl)
   |x1 =>
    try dsimp only
    exact zp [.pure (B (zC a)),.dec true,.pure (B (zC b)),.dec true,.loop (.exit 0) (sd20353 a b),.pure (.sl ((JJ GS.nil).nl) (((JJ GS.nil).l).map Sn.D) (zsl ((JJ GS.nil).nl) 2) none),.pure (.tup [.sl (((zX (JJ GS.nil)).1).nl) ((((zX (JJ GS.nil)).1).l).map Sn.D) (zsl (((zX (JJ GS.nil)).1).nl) 2) none,I ((zX (JJ GS.nil)).2)])] (Ai (T_r_Fit (JJ GS.nil)) (Ai (T_JJ GS.nil (by simp [GS.nil])) (Ai (y8 (q:=lr_r_Common_5 a b) (lp_r_Common_5 a b a.l 0 (List.drop_zero) (Nat.zero_le _) (by omega) (by omega) (by omega)) h19) (Ai h2 (Ai (zK b (by omega)) (Ai h1 (Ai (zK a (by omega)) trivial))))))) (by kernel_rfl)
  |false =>
   exact zp [.pure (B (zC a)),.dec true,.pure (B (zC b)),.dec false] (Ai h2 (Ai (zK b (by omega)) (Ai h1 (Ai (zK a (by omega)) trivial)))) (by kernel_rfl)
 |false =>
  exact zp [.pure (B (zC a)),.dec false] (Ai h1 (Ai (zK a (by omega)) trivial)) (by kernel_rfl)

noncomputable def lp58_9:Code:=subC [1,1,1,0,1,0,0,1,0,0,1,0,1,0,0] (bodyC Tryz.f58)

def sd20367 (a:GS Sn) (b:GS Sn) (i5:Nat) (i9:Nat) (x9:Sn) (xT:List Sn) (xP:Int):St:=⟨101,[(9,I ((i9+1:Nat):Int)),(34,I ((i9+1:Nat):Int)),(33,I (i9:Int)),(54,B true),(53,.tup []),(52,.tup []),(51,.tup []),(50,.tup []),(49,.tup []),(48,.tup []),(47,.tup []),(46,.tup []),(45,.tup []),(44,.tup []),(43,.tup []),(42,B true),(41,B true),(40,I xP),(39,I x9.hi),(38,.ptr (I x9.hi)),(37,.ptr (.agg [I x9.lo,I x9.hi])),(36,I (i9:Int)),(35,.sl b.nl (b.l.map Sn.D) (zsl b.nl 2) none),(32,B true),(31,I (b.l.length:Int)),(30,.sl b.nl (b.l.map Sn.D) (zsl b.nl 2) none),(29,I (i9:Int)),(0,.sl a.nl (a.l.map Sn.D) (zsl a.nl 2) none),(1,.sl b.nl (b.l.map Sn.D) (zsl b.nl 2) none),(6,.lsl 0 0 xT.length 2 none),(7,I (i5:Int)),(8,I xP),(9,I (i9:Int))],[(0,⟨xT.map Sn.D,2,false⟩)],1,0⟩

def sd20368 (a:GS Sn) (b:GS Sn) (i5:Nat) (x5:Sn) (i9:Nat) (x9:Sn) (xT:List Sn) (xP:Int):St:=⟨101,[(9,I ((i9+1:Nat):Int)),(34,I ((i9+1:Nat):Int)),(33,I (i9:Int)),(54,B true),(53,B true),(52,I x5.hi),(51,.ptr (I x5.hi)),(50,.ptr (.agg [I x5.lo,I x5.hi])),(49,I (i5:Int)),(48,.sl a.nl (a.l.map Sn.D) (zsl a.nl 2) none),(47,I x9.lo),(46,.ptr (I x9.lo)),(45,.ptr (.agg [I x9.lo,I x9.hi])),(44,I (i9:Int)),(43,.sl b.nl (b.l.map Sn.D) (zsl b.nl 2) none),(42,B false),(41,B false),(40,I xP),(39,I x9.hi),(38,.ptr (I x9.hi)),(37,.ptr (.agg [I x9.lo,I x9.hi])),(36,I (i9:Int)),(35,.sl b.nl (b.l.map Sn.D) (zsl b.nl 2) none),(32,B true),(31,I (b.l.length:Int)),(30,.sl b.nl (b.l.map Sn.D) (zsl b.nl 2) none),(29,I (i9:Int)),(0,.sl a.nl (a.l.map Sn.D) (zsl a.nl 2) none),(1,.sl b.nl (b.l.map Sn.D) (zsl b.nl 2) none),(6,.lsl 0 0 xT.length 2 none),(7,I (i5:Int)),(8,I xP),(9,I (i9:Int))],[(0,⟨xT.map Sn.D,2,false⟩)],1,0⟩

def sd20369 (a:GS Sn) (b:GS Sn) (i5:Nat) (x5:Sn) (i9:Nat) (x9:Sn) (xT:List Sn) (xP:Int):St:=⟨101,[(9,I ((i9+1:Nat):Int)),(34,I ((i9+1:Nat):Int)),(33,I (i9:Int)),(8,I (w64 (x9.hi+1))),(78,I (w64 (x9.hi+1))),(77,I x9.hi),(76,.ptr (I x9.hi)),(75,.ptr (.agg [I x9.lo,I x9.hi])),(74,I (i9:Int)),(73,.sl b.nl (b.l.map Sn.D) (zsl b.nl 2) none),(6,.lsl 2 0 ((xT++[(⟨xP,w64 (x9.lo - 1)⟩:Sn)]).length) 2 none),(72,.lsl 2 0 ((xT++[(⟨xP,w64 (x9.lo - 1)⟩:Sn)]).length) 2 none),(71,.lsl 1 0 1 2 (some 1)),(70,.agg [I xP,I (w64 (x9.lo - 1))]),(69,I (w64 (x9.lo - 1))),(68,I x9.lo),(67,.ptr (I x9.lo)),(66,.ptr (.agg [I x9.lo,I x9.hi])),(65,I (i9:Int)),(64,.sl b.nl (b.l.map Sn.D) (zsl b.nl 2) none),(63,I xP),(62,.lsl 0 0 xT.length 2 none),(61,B true),(60,I xP),(59,I x9.lo),(58,.ptr (I x9.lo)),(57,.ptr (.agg [I x9.lo,I x9.hi])),(56,I (i9:Int)),(55,.sl b.nl (b.l.map Sn.D) (zsl b.nl 2) none),(54,B false),(53,B false),(52,I x5.hi),(51,.ptr (I x5.hi)),(50,.ptr (.agg [I x5.lo,I x5.hi])),(49,I (i5:Int)),(48,.sl a.nl (a.l.map Sn.D) (zsl a.nl 2) none),(47,I x9.lo),(46,.ptr (I x9.lo)),(45,.ptr (.agg [I x9.lo,I x9.hi])),(44,I (i9:Int)),(43,.sl b.nl (b.l.map Sn.D) (zsl b.nl 2) none),(42,B false),(41,B false),(40,I xP),(39,I x9.hi),(38,.ptr (I x9.hi)),(37,.ptr (.agg [I x9.lo,I x9.hi])),(36,I (i9:Int)),(35,.sl b.nl (b.l.map Sn.D) (zsl b.nl 2) none),(32,B true),(31,I (b.l.length:Int)),(30,.sl b.nl (b.l.map Sn.D) (zsl b.nl 2) none),(29,I (i9:Int)),(0,.sl a.nl (a.l.map Sn.D) (zsl a.nl 2) none),(1,.sl b.nl (b.l.map Sn.D) (zsl b.nl 2) none),(6,.lsl 0 0 xT.length 2 none),(7,I (i5:Int)),(8,I xP),(9,I (i9:Int))],[(1,⟨[.agg [I xP,I (w64 (x9.lo - 1))]],2,false⟩),(2,⟨(xT++[(⟨xP,w64 (x9.lo - 1)⟩:Sn)]).map Sn.D,2,false⟩)],3,0⟩

def sd20370 (a:GS Sn) (b:GS Sn) (i5:Nat) (x5:Sn) (i9:Nat) (x9:Sn) (xT:List Sn) (xP:Int):St:=⟨101,[(9,I ((i9+1:Nat):Int)),(34,I ((i9+1:Nat):Int)),(33,I (i9:Int)),(8,I (w64 (x9.hi+1))),(78,I (w64 (x9.hi+1))),(77,I x9.hi),(76,.ptr (I x9.hi)),(75,.ptr (.agg [I x9.lo,I x9.hi])),(74,I (i9:Int)),(73,.sl b.nl (b.l.map Sn.D) (zsl b.nl 2) none),(61,B false),(60,I xP),(59,I x9.lo),(58,.ptr (I x9.lo)),(57,.ptr (.agg [I x9.lo,I x9.hi])),(56,I (i9:Int)),(55,.sl b.nl (b.l.map Sn.D) (zsl b.nl 2) none),(54,B false),(53,B false),(52,I x5.hi),(51,.ptr (I x5.hi)),(50,.ptr (.agg [I x5.lo,I x5.hi])),(49,I (i5:Int)),(48,.sl a.nl (a.l.map Sn.D) (zsl a.nl 2) none),(47,I x9.lo),(46,.ptr (I x9.lo)),(45,.ptr (.agg [I x9.lo,I x9.hi])),(44,I (i9:Int)),(43,.sl b.nl (b.l.map Sn.D) (zsl b.nl 2) none),(42,B false),(41,B false),(40,I xP),(39,I x9.hi),(38,.ptr (I x9.hi)),(37,.ptr (.agg [I x9.lo,I x9.hi])),(36,I (i9:Int)),(35,.sl b.nl (b.l.map Sn.D) (zsl b.nl 2) none),(32,B true),(31,I (b.l.length:Int)),(30,.sl b.nl (b.l.map Sn.D) (zsl b.nl 2) none),(29,I (i9:Int)),(0,.sl a.nl (a.l.map Sn.D) (zsl a.nl 2) none),(1,.sl b.nl (b.l.map Sn.D) (zsl b.nl 2) none),(6,.lsl 0 0 xT.length 2 none),(7,I (i5:Int)),(8,I xP),(9,I (i9:Int))],[(0,⟨xT.map Sn.D,2,false⟩)],1,0⟩

inductive LR_r_Minus_9 where
 |x0 (xT:List Sn) (xP:Int)
instance:Inhabited LR_r_Minus_9:=⟨.x0 default default⟩
def r_Minus_9 (x5:Sn):List Sn→(List Sn)→Int→LR_r_Minus_9
 |[],xT,xP=>.x0 xT xP
 |x9::rest9,xT,xP =>
  bif decide (x9.hi < xP) then
   r_Minus_9 x5 rest9 xT xP
  else
   bif decide (x9.lo>x5.hi) then
    r_Minus_9 x5 rest9 xT xP
   else
    bif decide (x9.lo>xP) then
     r_Minus_9 x5 rest9 (xT++[(⟨xP,w64 (x9.lo - 1)⟩:Sn)]) (w64 (x9.hi+1))
    else
     r_Minus_9 x5 rest9 xT (w64 (x9.hi+1))
def lr_r_Minus_9 (a:GS Sn) (b:GS Sn) (i5:Nat) (x5:Sn):LR_r_Minus_9→Exit × St
 |.x0 xT xP=>((.exit 2),⟨101,[(32,B false),(31,I (b.l.length:Int)),(30,.sl b.nl (b.l.map Sn.D) (zsl b.nl 2) none),(29,I (b.l.length:Int)),(0,.sl a.nl (a.l.map Sn.D) (zsl a.nl 2) none),(1,.sl b.nl (b.l.map Sn.D) (zsl b.nl 2) none),(6,.lsl 0 0 xT.length 2 none),(7,I (i5:Int)),(8,I xP),(9,I (b.l.length:Int))],[(0,⟨xT.map Sn.D,2,false⟩)],1,0⟩)
def iv_r_Minus_9 (a:GS Sn) (b:GS Sn) (i5:Nat) (x5:Sn):LR_r_Minus_9→Prop
 |.x0 xT xP=>(xT.length≤65 * i5+b.l.length)
def r_Minus_9_l_o1 (b:GS Sn) (x5:Sn) (x9:Sn):List Ora:=[.rw 31 (I (b.l.length:Int)),.dec true,.el (.agg [I x9.lo,I x9.hi]),.dec false,.el (.agg [I x9.lo,I x9.hi]),.el (.agg [I x5.lo,I x5.hi])]
theorem lp_r_Minus_9 (a:GS Sn) (b:GS Sn) (i5:Nat) (x5:Sn):∀(rest9:List Sn) (i9:Nat) (xT:List Sn) (xP:Int) (hd9:b.l.drop i9=rest9) (hi9:i9≤b.l.length) (xF:a.l.length≤64) (xX:b.l.length≤64) (hi64:i5 < 64) (hd5:a.l.drop i5=x5::a.l.drop (i5+1)) (hg9_v9_0:xT.length≤65 * i5+i9) (hL9:b.l.length≤1099511627776),(lim cfg).loop 58 lp58_9 ⟨101,[(0,.sl a.nl (a.l.map Sn.D) (zsl a.nl 2) none),(1,.sl b.nl (b.l.map Sn.D) (zsl b.nl 2) none),(6,.lsl 0 0 xT.length 2 none),(7,I (i5:Int)),(8,I xP),(9,I (i9:Int))],[(0,⟨xT.map Sn.D,2,false⟩)],1,0⟩=some (lr_r_Minus_9 a b i5 x5 (r_Minus_9 x5 rest9 xT xP)):=by
 intro rest9
 induction rest9 with
 |nil =>
  intro i9 xT xP hd9 hi9 xF xX hi64 hd5 hg9_v9_0 hL9
  unfold r_Minus_9
  obtain rfl:i9=b.l.length:=zW hd9 hi9
  exact zD [.rw 31 (I (b.l.length:Int)),.dec false] (Ai (lt_no hd9) (Ai (zk Sn.D b) trivial)) (by kernel_rfl)
 |cons x9 rest9 ih =>
  intro i9 xT xP hd9 hi9 xF xX hi64 hd5 hg9_v9_0 hL9
  have hlt9:=zg hd9
  unfold r_Minus_9
  have p1:=(zS (s:=b) (f:=Sn.D) (k:=2) hd9)
  cases h29:decide (x9.hi < xP) with
  |true =>
   have g29:=of_decide_eq_true h29
   exact zz (ks:=[0,1,6,7,8,9]) (st':=(sd20367 a b i5 i9 x9 xT xP)) [.rw 31 (I (b.l.length:Int)),.dec true,.el (.agg [I x9.lo,I x9.hi]),.dec true,.rw 34 (I ((i9+1:Nat):Int))] (Ai (zM (i:=i9) (by have:=zg hd9;omega)) (Ai h29 (Ai p1 (Ai (zT hd9) (Ai (zk Sn.D b) trivial))))) (by kernel_rfl) (by (simp only [sd20367,go_sem,length_set,Nat.reduceAdd,Nat.reduceEqDiff,Nat.reduceLT,Nat.reduceLeDiff,bI2,ze.idsL,ze.renL,ze.snapAll,z7.idsL,z7.renL,z7.snapAll])<;>rfl) (ih (i9+1) xT xP (zi hd9) (zg hd9) (by omega) (by omega) (by omega) (by omega) (by omega) (by omega)) (by kernel_rfl)
  |false =>
   have g29:=of_decide_eq_false h29
   have p2:=(zS (s:=b) (f:=Sn.D) (k:=2) hd9)
   have p3:=(zS (s:=a) (f:=Sn.D) (k:=2) hd5)
   cases h30:decide (x9.lo>x5.hi) with
   |true =>
    have g30:=of_decide_eq_true h30
    exact zz (ks:=[0,1,6,7,8,9]) (st':=(sd20368 a b i5 x5 i9 x9 xT xP)) ((r_Minus_9_l_o1 b x5 x9)++[.dec true,.rw 34 (I ((i9+1:Nat):Int))]) (Ai (zM (i:=i9) (by have:=zg hd9;omega)) (Ai h30 (Ai p3 (Ai p2 (Ai h29 (Ai p1 (Ai (zT hd9) (Ai (zk Sn.D b) trivial)))))))) (by kernel_rfl) (by (simp only [sd20368,go_sem,length_set,Nat.reduceAdd,Nat.reduceEqDiff,Nat.reduceLT,Nat.reduceLeDiff,bI2,ze.idsL,ze.renL,ze.snapAll,z7.idsL,z7.renL,z7.snapAll])<;>rfl) (ih (i9+1) xT xP (zi hd9) (zg hd9) (by omega) (by omega) (by omega) (by omega) (by omega) (by omega)) (by kernel_rfl)
   |false =>
    have g30:=of_decide_eq_false h30
    have p4:=(zS (s:=b) (f:=Sn.D) (k:=2) hd9)
    cases h31:decide (x9.lo>xP) with
    |true =>
     have g31:=of_decide_eq_true h31
     exact zz (ks:=[0,1,6,7,8,9]) (st':=(sd20369 a b i5 x5 i9 x9 xT xP)) ((r_Minus_9_l_o1 b x5 x9)++[.dec false,.el (.agg [I x9.lo,I x9.hi]),.dec true,.el (.agg [I x9.lo,I x9.hi]),.op (some 72) ⟨.lsl 2 0 ((xT++[(⟨xP,w64 (x9.lo - 1)⟩:Sn)]).length) 2 none,[(0,none),(2,some ⟨(xT++[(⟨xP,w64 (x9.lo - 1)⟩:Sn)]).map Sn.D,2,false⟩)],[0,1],3⟩,.el (.agg [I x9.lo,I x9.hi]),.rw 34 (I ((i9+1:Nat):Int))]) (Ai (zM (i:=i9) (by have:=zg hd9;omega)) (Ai (zS (s:=b) (f:=Sn.D) (k:=2) hd9) (Ai (app_row (f:=Sn.D) (te:=zR) (gO:=zw [(0,⟨xT.map Sn.D,2,false⟩),(1,⟨[.agg [I xP,I (w64 (x9.lo - 1))]],2,false⟩)]) (nxt:=2) (o:=0) (o2:=1) (fz:=false) z7 xT (⟨xP,w64 (x9.lo - 1)⟩:Sn) (by kernel_rfl) (by kernel_rfl) rfl (by kernel_rfl) (by decide) ⟨by simp only [zR,big]<;>(first|assumption|omega|(exact zF (by omega) (by omega))|(exact zt (by omega))|(exact zm (by omega))|(exact zu (by omega))|(exact zn (by omega))|(exact zl _ (by omega))|(exact Nat.le_trans (hJl _) (by rw [zj];omega))|(exact drop_tl (by assumption))|(simp only [zd] at *<;>omega)|(simp only [zv,zj,GS.some_l,length_set,length_append,length_cons,length_nil] at *<;>first|assumption|omega)|(simp only [zv,zj,GS.some_l,length_set,length_append,length_cons,length_nil,zd] at *<;>first|assumption|omega)|(simp at *<;>omega)),by simp only [big]<;>(first|assumption|omega|(exact zF (by omega) (by omega))|(exact zt (by omega))|(exact zm (by omega))|(exact zu (by omega))|(exact zn (by omega))|(exact zl _ (by omega))|(exact Nat.le_trans (hJl _) (by rw [zj];omega))|(exact drop_tl (by assumption))|(simp only [zd] at *<;>omega)|(simp only [zv,zj,GS.some_l,length_set,length_append,length_cons,length_nil] at *<;>first|assumption|omega)|(simp only [zv,zj,GS.some_l,length_set,length_append,length_cons,length_nil,zd] at *<;>first|assumption|omega)|(simp at *<;>omega))⟩) (Ai (zS (s:=b) (f:=Sn.D) (k:=2) hd9) (Ai h31 (Ai p4 (Ai h30 (Ai p3 (Ai p2 (Ai h29 (Ai p1 (Ai (zT hd9) (Ai (zk Sn.D b) trivial))))))))))))) (by kernel_rfl) (by (simp only [sd20369,go_sem,length_set,Nat.reduceAdd,Nat.reduceEqDiff,Nat.reduceLT,Nat.reduceLeDiff,bI2,ze.idsL,ze.renL,ze.snapAll,z7.idsL,z7.renL,z7.snapAll])<;>rfl) (ih (i9+1) (xT++[(⟨xP,w64 (x9.lo - 1)⟩:Sn)]) (w64 (x9.hi+1)) (zi hd9) (zg hd9) (by omega) (by omega) (by omega) (by omega) (by simp only [length_append,length_cons,length_nil] at *<;>omega) (by omega)) (by kernel_rfl)
    |false =>
     have g31:=of_decide_eq_false h31
     exact zz (ks:=[0,1,6,7,8,9]) (st':=(sd20370 a b i5 x5 i9 x9 xT xP)) ((r_Minus_9_l_o1 b x5 x9)++[.dec false,.el (.agg [I x9.lo,I x9.hi]),.dec false,.el (.agg [I x9.lo,I x9.hi]),.rw 34 (I ((i9+1:Nat):Int))]) (Ai (zM (i:=i9) (by have:=zg hd9;omega)) (Ai (zS (s:=b) (f:=Sn.D) (k:=2) hd9) (Ai h31 (Ai p4 (Ai h30 (Ai p3 (Ai p2 (Ai h29 (Ai p1 (Ai (zT hd9) (Ai (zk Sn.D b) trivial))))))))))) (by kernel_rfl) (by (simp only [sd20370,go_sem,length_set,Nat.reduceAdd,Nat.reduceEqDiff,Nat.reduceLT,Nat.reduceLeDiff,bI2,ze.idsL,ze.renL,ze.snapAll,z7.idsL,z7.renL,z7.snapAll])<;>rfl) (ih (i9+1) xT (w64 (x9.hi+1)) (zi hd9) (zg hd9) (by omega) (by omega) (by omega) (by omega) (by omega) (by omega)) (by kernel_rfl)
theorem ivt_r_Minus_9 (a:GS Sn) (b:GS Sn) (i5:Nat) (x5:Sn):∀(rest9:List Sn) (i9:Nat) (xT:List Sn) (xP:Int) (hd9:b.l.drop i9=rest9) (hi9:i9≤b.l.length) (xF:a.l.length≤64) (xX:b.l.length≤64) (hi64:i5 < 64) (hd5:a.l.drop i5=x5::a.l.drop (i5+1)) (hg9_v9_0:xT.length≤65 * i5+i9) (hL9:b.l.length≤1099511627776),iv_r_Minus_9 a b i5 x5 (r_Minus_9 x5 rest9 xT xP):=by
 intro rest9
 induction rest9 with
 |nil =>
  intro i9 xT xP hd9 hi9 xF xX hi64 hd5 hg9_v9_0 hL9
  unfold r_Minus_9
  obtain rfl:i9=b.l.length:=zW hd9 hi9
  exact hg9_v9_0
 |cons x9 rest9 ih =>
  intro i9 xT xP hd9 hi9 xF xX hi64 hd5 hg9_v9_0 hL9
  have hlt9:=zg hd9
  unfold r_Minus_9
  cases h29:decide (x9.hi < xP) with
  |true =>
   have g29:=of_decide_eq_true h29
   exact ih (i9+1) xT xP (zi hd9) (zg hd9) (by omega) (by omega) (by omega) (by omega) (by omega) (by omega)
  |false =>
   have g29:=of_decide_eq_false h29
   cases h30:decide (x9.lo>x5.hi) with
   |true =>
    have g30:=of_decide_eq_true h30
    exact ih (i9+1) xT xP (zi hd9) (zg hd9) (by omega) (by omega) (by omega) (by omega) (by omega) (by omega)
   |false =>
    have g30:=of_decide_eq_false h30
    cases h31:decide (x9.lo>xP) with
    |true =>
     have g31:=of_decide_eq_true h31
     exact ih (i9+1) (xT++[(⟨xP,w64 (x9.lo - 1)⟩:Sn)]) (w64 (x9.hi+1)) (zi hd9) (zg hd9) (by omega) (by omega) (by omega) (by omega) (by simp only [length_append,length_cons,length_nil] at *<;>omega) (by omega)
    |false =>
     have g31:=of_decide_eq_false h31
     exact ih (i9+1) xT (w64 (x9.hi+1)) (zi hd9) (zg hd9) (by omega) (by omega) (by omega) (by omega) (by omega) (by omega)

def sd20372 (a:GS Sn) (b:GS Sn) (i5:Nat) (xK:Nat) (xg:Sn) (yJ:List Sn) (yI:Int):St:=⟨101,[(9,I ((xK+1:Nat):Int)),(34,I ((xK+1:Nat):Int)),(33,I (xK:Int)),(54,B true),(53,.tup []),(52,.tup []),(51,.tup []),(50,.tup []),(49,.tup []),(48,.tup []),(47,.tup []),(46,.tup []),(45,.tup []),(44,.tup []),(43,.tup []),(42,B true),(41,B true),(40,I yI),(39,I xg.hi),(38,.ptr (I xg.hi)),(37,.ptr (.agg [I xg.lo,I xg.hi])),(36,I (xK:Int)),(35,.sl b.nl (b.l.map Sn.D) (zsl b.nl 2) none),(32,B true),(31,I (b.l.length:Int)),(30,.sl b.nl (b.l.map Sn.D) (zsl b.nl 2) none),(29,I (xK:Int)),(0,.sl a.nl (a.l.map Sn.D) (zsl a.nl 2) none),(1,.sl b.nl (b.l.map Sn.D) (zsl b.nl 2) none),(6,.lsl 0 0 yJ.length 2 none),(7,I (i5:Int)),(8,I yI),(9,I (xK:Int))],[(0,⟨yJ.map Sn.D,2,false⟩)],1,0⟩

def sd20373 (a:GS Sn) (b:GS Sn) (i5:Nat) (x5:Sn) (xK:Nat) (xg:Sn) (yJ:List Sn) (yI:Int):St:=⟨101,[(9,I ((xK+1:Nat):Int)),(34,I ((xK+1:Nat):Int)),(33,I (xK:Int)),(54,B true),(53,B true),(52,I x5.hi),(51,.ptr (I x5.hi)),(50,.ptr (.agg [I x5.lo,I x5.hi])),(49,I (i5:Int)),(48,.sl a.nl (a.l.map Sn.D) (zsl a.nl 2) none),(47,I xg.lo),(46,.ptr (I xg.lo)),(45,.ptr (.agg [I xg.lo,I xg.hi])),(44,I (xK:Int)),(43,.sl b.nl (b.l.map Sn.D) (zsl b.nl 2) none),(42,B false),(41,B false),(40,I yI),(39,I xg.hi),(38,.ptr (I xg.hi)),(37,.ptr (.agg [I xg.lo,I xg.hi])),(36,I (xK:Int)),(35,.sl b.nl (b.l.map Sn.D) (zsl b.nl 2) none),(32,B true),(31,I (b.l.length:Int)),(30,.sl b.nl (b.l.map Sn.D) (zsl b.nl 2) none),(29,I (xK:Int)),(0,.sl a.nl (a.l.map Sn.D) (zsl a.nl 2) none),(1,.sl b.nl (b.l.map Sn.D) (zsl b.nl 2) none),(6,.lsl 0 0 yJ.length 2 none),(7,I (i5:Int)),(8,I yI),(9,I (xK:Int))],[(0,⟨yJ.map Sn.D,2,false⟩)],1,0⟩

def sd20374 (a:GS Sn) (b:GS Sn) (i5:Nat) (x5:Sn) (xK:Nat) (xg:Sn) (yJ:List Sn) (yI:Int):St:=⟨101,[(9,I ((xK+1:Nat):Int)),(34,I ((xK+1:Nat):Int)),(33,I (xK:Int)),(8,I (w64 (xg.hi+1))),(78,I (w64 (xg.hi+1))),(77,I xg.hi),(76,.ptr (I xg.hi)),(75,.ptr (.agg [I xg.lo,I xg.hi])),(74,I (xK:Int)),(73,.sl b.nl (b.l.map Sn.D) (zsl b.nl 2) none),(6,.lsl 2 0 ((yJ++[(⟨yI,w64 (xg.lo - 1)⟩:Sn)]).length) 2 none),(72,.lsl 2 0 ((yJ++[(⟨yI,w64 (xg.lo - 1)⟩:Sn)]).length) 2 none),(71,.lsl 1 0 1 2 (some 1)),(70,.agg [I yI,I (w64 (xg.lo - 1))]),(69,I (w64 (xg.lo - 1))),(68,I xg.lo),(67,.ptr (I xg.lo)),(66,.ptr (.agg [I xg.lo,I xg.hi])),(65,I (xK:Int)),(64,.sl b.nl (b.l.map Sn.D) (zsl b.nl 2) none),(63,I yI),(62,.lsl 0 0 yJ.length 2 none),(61,B true),(60,I yI),(59,I xg.lo),(58,.ptr (I xg.lo)),(57,.ptr (.agg [I xg.lo,I xg.hi])),(56,I (xK:Int)),(55,.sl b.nl (b.l.map Sn.D) (zsl b.nl 2) none),(54,B false),(53,B false),(52,I x5.hi),(51,.ptr (I x5.hi)),(50,.ptr (.agg [I x5.lo,I x5.hi])),(49,I (i5:Int)),(48,.sl a.nl (a.l.map Sn.D) (zsl a.nl 2) none),(47,I xg.lo),(46,.ptr (I xg.lo)),(45,.ptr (.agg [I xg.lo,I xg.hi])),(44,I (xK:Int)),(43,.sl b.nl (b.l.map Sn.D) (zsl b.nl 2) none),(42,B false),(41,B false),(40,I yI),(39,I xg.hi),(38,.ptr (I xg.hi)),(37,.ptr (.agg [I xg.lo,I xg.hi])),(36,I (xK:Int)),(35,.sl b.nl (b.l.map Sn.D) (zsl b.nl 2) none),(32,B true),(31,I (b.l.length:Int)),(30,.sl b.nl (b.l.map Sn.D) (zsl b.nl 2) none),(29,I (xK:Int)),(0,.sl a.nl (a.l.map Sn.D) (zsl a.nl 2) none),(1,.sl b.nl (b.l.map Sn.D) (zsl b.nl 2) none),(6,.lsl 0 0 yJ.length 2 none),(7,I (i5:Int)),(8,I yI),(9,I (xK:Int))],[(1,⟨[.agg [I yI,I (w64 (xg.lo - 1))]],2,false⟩),(2,⟨(yJ++[(⟨yI,w64 (xg.lo - 1)⟩:Sn)]).map Sn.D,2,false⟩)],3,0⟩

def sd20375 (a:GS Sn) (b:GS Sn) (i5:Nat) (x5:Sn) (xK:Nat) (xg:Sn) (yJ:List Sn) (yI:Int):St:=⟨101,[(9,I ((xK+1:Nat):Int)),(34,I ((xK+1:Nat):Int)),(33,I (xK:Int)),(8,I (w64 (xg.hi+1))),(78,I (w64 (xg.hi+1))),(77,I xg.hi),(76,.ptr (I xg.hi)),(75,.ptr (.agg [I xg.lo,I xg.hi])),(74,I (xK:Int)),(73,.sl b.nl (b.l.map Sn.D) (zsl b.nl 2) none),(61,B false),(60,I yI),(59,I xg.lo),(58,.ptr (I xg.lo)),(57,.ptr (.agg [I xg.lo,I xg.hi])),(56,I (xK:Int)),(55,.sl b.nl (b.l.map Sn.D) (zsl b.nl 2) none),(54,B false),(53,B false),(52,I x5.hi),(51,.ptr (I x5.hi)),(50,.ptr (.agg [I x5.lo,I x5.hi])),(49,I (i5:Int)),(48,.sl a.nl (a.l.map Sn.D) (zsl a.nl 2) none),(47,I xg.lo),(46,.ptr (I xg.lo)),(45,.ptr (.agg [I xg.lo,I xg.hi])),(44,I (xK:Int)),(43,.sl b.nl (b.l.map Sn.D) (zsl b.nl 2) none),(42,B false),(41,B false),(40,I yI),(39,I xg.hi),(38,.ptr (I xg.hi)),(37,.ptr (.agg [I xg.lo,I xg.hi])),(36,I (xK:Int)),(35,.sl b.nl (b.l.map Sn.D) (zsl b.nl 2) none),(32,B true),(31,I (b.l.length:Int)),(30,.sl b.nl (b.l.map Sn.D) (zsl b.nl 2) none),(29,I (xK:Int)),(0,.sl a.nl (a.l.map Sn.D) (zsl a.nl 2) none),(1,.sl b.nl (b.l.map Sn.D) (zsl b.nl 2) none),(6,.lsl 0 0 yJ.length 2 none),(7,I (i5:Int)),(8,I yI),(9,I (xK:Int))],[(0,⟨yJ.map Sn.D,2,false⟩)],1,0⟩

inductive LR_r_Minus_9p1 where
 |x0 (yJ:List Sn) (yI:Int)
 |x1 (xk:Int)
instance:Inhabited LR_r_Minus_9p1:=⟨.x0 default default⟩
def r_Minus_9p1a (x5:Sn):List Sn→(List Sn)→Int→LR_r_Minus_9p1
 |[],yJ,yI=>.x0 yJ yI
 |xg::xl,yJ,yI =>
  bif decide (xg.hi < yI) then
   r_Minus_9p1a x5 xl yJ yI
  else
   bif decide (xg.lo>x5.hi) then
    r_Minus_9p1a x5 xl yJ yI
   else
    bif decide (xg.lo>yI) then
     r_Minus_9p1a x5 xl (yJ++[(⟨yI,w64 (xg.lo - 1)⟩:Sn)]) (w64 (xg.hi+1))
    else
     r_Minus_9p1a x5 xl yJ (w64 (xg.hi+1))
def r_Minus_9p1 (x5:Sn):List Sn→Int→LR_r_Minus_9p1
 |[],xk=>.x1 xk
 |xg::xl,xk =>
  bif decide (xg.hi < xk) then
   r_Minus_9p1 x5 xl xk
  else
   bif decide (xg.lo>x5.hi) then
    r_Minus_9p1 x5 xl xk
   else
    bif decide (xg.lo>xk) then
     r_Minus_9p1a x5 xl [(⟨xk,w64 (xg.lo - 1)⟩:Sn)] (w64 (xg.hi+1))
    else
     r_Minus_9p1 x5 xl (w64 (xg.hi+1))
def lr_r_Minus_9p1 (a:GS Sn) (b:GS Sn) (i5:Nat) (x5:Sn):LR_r_Minus_9p1→Exit × St
 |.x0 yJ yI=>((.exit 2),⟨101,[(32,B false),(31,I (b.l.length:Int)),(30,.sl b.nl (b.l.map Sn.D) (zsl b.nl 2) none),(29,I (b.l.length:Int)),(0,.sl a.nl (a.l.map Sn.D) (zsl a.nl 2) none),(1,.sl b.nl (b.l.map Sn.D) (zsl b.nl 2) none),(6,.lsl 0 0 yJ.length 2 none),(7,I (i5:Int)),(8,I yI),(9,I (b.l.length:Int))],[(0,⟨yJ.map Sn.D,2,false⟩)],1,0⟩)
 |.x1 xk=>((.exit 2),⟨101,[(32,B false),(31,I (b.l.length:Int)),(30,.sl b.nl (b.l.map Sn.D) (zsl b.nl 2) none),(29,I (b.l.length:Int)),(0,.sl a.nl (a.l.map Sn.D) (zsl a.nl 2) none),(1,.sl b.nl (b.l.map Sn.D) (zsl b.nl 2) none),(6,.sl true [] 0 none),(7,I (i5:Int)),(8,I xk),(9,I (b.l.length:Int))],[],0,0⟩)
def iv_r_Minus_9p1 (a:GS Sn) (b:GS Sn) (i5:Nat) (x5:Sn):LR_r_Minus_9p1→Prop
 |.x0 yJ yI=>(yJ.length≤65 * i5+b.l.length)
 |.x1 xk=>True
def r_Minus_9p1a_l_o1 (b:GS Sn) (x5:Sn) (xg:Sn):List Ora:=[.rw 31 (I (b.l.length:Int)),.dec true,.el (.agg [I xg.lo,I xg.hi]),.dec false,.el (.agg [I xg.lo,I xg.hi]),.el (.agg [I x5.lo,I x5.hi])]
theorem lp_r_Minus_9p1a (a:GS Sn) (b:GS Sn) (i5:Nat) (x5:Sn):∀(xl:List Sn) (xK:Nat) (yJ:List Sn) (yI:Int) (yZ:b.l.drop xK=xl) (hi9p1:xK≤b.l.length) (xF:a.l.length≤64) (xX:b.l.length≤64) (hi64:i5 < 64) (hd5:a.l.drop i5=x5::a.l.drop (i5+1)) (hg9p1_va9p1_0:yJ.length≤65 * i5+xK) (hL9p1:b.l.length≤1099511627776),(lim cfg).loop 58 lp58_9 ⟨101,[(0,.sl a.nl (a.l.map Sn.D) (zsl a.nl 2) none),(1,.sl b.nl (b.l.map Sn.D) (zsl b.nl 2) none),(6,.lsl 0 0 yJ.length 2 none),(7,I (i5:Int)),(8,I yI),(9,I (xK:Int))],[(0,⟨yJ.map Sn.D,2,false⟩)],1,0⟩=some (lr_r_Minus_9p1 a b i5 x5 (r_Minus_9p1a x5 xl yJ yI)):=by
 intro xl
 induction xl with
 |nil =>
  intro xK yJ yI yZ hi9p1 xF xX hi64 hd5 hg9p1_va9p1_0 hL9p1
  unfold r_Minus_9p1a
  obtain rfl:xK=b.l.length:=zW yZ hi9p1
  exact zD [.rw 31 (I (b.l.length:Int)),.dec false] (Ai (lt_no yZ) (Ai (zk Sn.D b) trivial)) (by kernel_rfl)
 |cons xg xl ih =>
  intro xK yJ yI yZ hi9p1 xF xX hi64 hd5 hg9p1_va9p1_0 hL9p1
  have hlt9p1:=zg yZ
  unfold r_Minus_9p1a
  have p1:=(zS (s:=b) (f:=Sn.D) (k:=2) yZ)
  cases h40:decide (xg.hi < yI) with
  |true =>
   have g40:=of_decide_eq_true h40
   exact zz (ks:=[0,1,6,7,8,9]) (st':=(sd20372 a b i5 xK xg yJ yI)) [.rw 31 (I (b.l.length:Int)),.dec true,.el (.agg [I xg.lo,I xg.hi]),.dec true,.rw 34 (I ((xK+1:Nat):Int))] (Ai (zM (i:=xK) (by have:=zg yZ;omega)) (Ai h40 (Ai p1 (Ai (zT yZ) (Ai (zk Sn.D b) trivial))))) (by kernel_rfl) (by (simp only [sd20372,go_sem,length_set,Nat.reduceAdd,Nat.reduceEqDiff,Nat.reduceLT,Nat.reduceLeDiff,bI2,ze.idsL,ze.renL,ze.snapAll,z7.idsL,z7.renL,z7.snapAll])<;>rfl) (ih (xK+1) yJ yI (zi yZ) (zg yZ) (by omega) (by omega) (by omega) (by omega) (by omega) (by omega)) (by kernel_rfl)
  |false =>
   have g40:=of_decide_eq_false h40
   have p2:=(zS (s:=b) (f:=Sn.D) (k:=2) yZ)
   have p3:=(zS (s:=a) (f:=Sn.D) (k:=2) hd5)
   cases h41:decide (xg.lo>x5.hi) with
   |true =>
    have g41:=of_decide_eq_true h41
    exact zz (ks:=[0,1,6,7,8,9]) (st':=(sd20373 a b i5 x5 xK xg yJ yI)) ((r_Minus_9p1a_l_o1 b x5 xg)++[.dec true,.rw 34 (I ((xK+1:Nat):Int))]) (Ai (zM (i:=xK) (by have:=zg yZ;omega)) (Ai h41 (Ai p3 (Ai p2 (Ai h40 (Ai p1 (Ai (zT yZ) (Ai (zk Sn.D b) trivial)))))))) (by kernel_rfl) (by (simp only [sd20373,go_sem,length_set,Nat.reduceAdd,Nat.reduceEqDiff,Nat.reduceLT,Nat.reduceLeDiff,bI2,ze.idsL,ze.renL,ze.snapAll,z7.idsL,z7.renL,z7.snapAll])<;>rfl) (ih (xK+1) yJ yI (zi yZ) (zg yZ) (by omega) (by omega) (by omega) (by omega) (by omega) (by omega)) (by kernel_rfl)
   |false =>
    have g41:=of_decide_eq_false h41
    have p4:=(zS (s:=b) (f:=Sn.D) (k:=2) yZ)
    cases h42:decide (xg.lo>yI) with
    |true =>
     have g42:=of_decide_eq_true h42
     exact zz (ks:=[0,1,6,7,8,9]) (st':=(sd20374 a b i5 x5 xK xg yJ yI)) ((r_Minus_9p1a_l_o1 b x5 xg)++[.dec false,.el (.agg [I xg.lo,I xg.hi]),.dec true,.el (.agg [I xg.lo,I xg.hi]),.op (some 72) ⟨.lsl 2 0 ((yJ++[(⟨yI,w64 (xg.lo - 1)⟩:Sn)]).length) 2 none,[(0,none),(2,some ⟨(yJ++[(⟨yI,w64 (xg.lo - 1)⟩:Sn)]).map Sn.D,2,false⟩)],[0,1],3⟩,.el (.agg [I xg.lo,I xg.hi]),.rw 34 (I ((xK+1:Nat):Int))]) (Ai (zM (i:=xK) (by have:=zg yZ;omega)) (Ai (zS (s:=b) (f:=Sn.D) (k:=2) yZ) (Ai (app_row (f:=Sn.D) (te:=zR) (gO:=zw [(0,⟨yJ.map Sn.D,2,false⟩),(1,⟨[.agg [I yI,I (w64 (xg.lo - 1))]],2,false⟩)]) (nxt:=2) (o:=0) (o2:=1) (fz:=false) z7 yJ (⟨yI,w64 (xg.lo - 1)⟩:Sn) (by kernel_rfl) (by kernel_rfl) rfl (by kernel_rfl) (by decide) ⟨by simp only [zR,big]<;>(first|assumption|omega|(exact zF (by omega) (by omega))|(exact zt (by omega))|(exact zm (by omega))|(exact zu (by omega))|(exact zn (by omega))|(exact zl _ (by omega))|(exact Nat.le_trans (hJl _) (by rw [zj];omega))|(exact drop_tl (by assumption))|(simp only [zd] at *<;>omega)|(simp only [zv,zj,GS.some_l,length_set,length_append,length_cons,length_nil] at *<;>first|assumption|omega)|(simp only [zv,zj,GS.some_l,length_set,length_append,length_cons,length_nil,zd] at *<;>first|assumption|omega)|(simp at *<;>omega)),by simp only [big]<;>(first|assumption|omega|(exact zF (by omega) (by omega))|(exact zt (by omega))|(exact zm (by omega))|(exact zu (by omega))|(exact zn (by omega))|(exact zl _ (by omega))|(exact Nat.le_trans (hJl _) (by rw [zj];omega))|(exact drop_tl (by assumption))|(simp only [zd] at *<;>omega)|(simp only [zv,zj,GS.some_l,length_set,length_append,length_cons,length_nil] at *<;>first|assumption|omega)|(simp only [zv,zj,GS.some_l,length_set,length_append,length_cons,length_nil,zd] at *<;>first|assumption|omega)|(simp at *<;>omega))⟩) (Ai (zS (s:=b) (f:=Sn.D) (k:=2) yZ) (Ai h42 (Ai p4 (Ai h41 (Ai p3 (Ai p2 (Ai h40 (Ai p1 (Ai (zT yZ) (Ai (zk Sn.D b) trivial))))))))))))) (by kernel_rfl) (by (simp only [sd20374,go_sem,length_set,Nat.reduceAdd,Nat.reduceEqDiff,Nat.reduceLT,Nat.reduceLeDiff,bI2,ze.idsL,ze.renL,ze.snapAll,z7.idsL,z7.renL,z7.snapAll])<;>rfl) (ih (xK+1) (yJ++[(⟨yI,w64 (xg.lo - 1)⟩:Sn)]) (w64 (xg.hi+1)) (zi yZ) (zg yZ) (by omega) (by omega) (by omega) (by omega) (by simp only [length_append,length_cons,length_nil] at *<;>omega) (by omega)) (by kernel_rfl)
    |false =>
     have g42:=of_decide_eq_false h42
     exact zz (ks:=[0,1,6,7,8,9]) (st':=(sd20375 a b i5 x5 xK xg yJ yI)) ((r_Minus_9p1a_l_o1 b x5 xg)++[.dec false,.el (.agg [I xg.lo,I xg.hi]),.dec false,.el (.agg [I xg.lo,I xg.hi]),.rw 34 (I ((xK+1:Nat):Int))]) (Ai (zM (i:=xK) (by have:=zg yZ;omega)) (Ai (zS (s:=b) (f:=Sn.D) (k:=2) yZ) (Ai h42 (Ai p4 (Ai h41 (Ai p3 (Ai p2 (Ai h40 (Ai p1 (Ai (zT yZ) (Ai (zk Sn.D b) trivial))))))))))) (by kernel_rfl) (by (simp only [sd20375,go_sem,length_set,Nat.reduceAdd,Nat.reduceEqDiff,Nat.reduceLT,Nat.reduceLeDiff,bI2,ze.idsL,ze.renL,ze.snapAll,z7.idsL,z7.renL,z7.snapAll])<;>rfl) (ih (xK+1) yJ (w64 (xg.hi+1)) (zi yZ) (zg yZ) (by omega) (by omega) (by omega) (by omega) (by omega) (by omega)) (by kernel_rfl)
theorem ivt_r_Minus_9p1a (a:GS Sn) (b:GS Sn) (i5:Nat) (x5:Sn):∀(xl:List Sn) (xK:Nat) (yJ:List Sn) (yI:Int) (yZ:b.l.drop xK=xl) (hi9p1:xK≤b.l.length) (xF:a.l.length≤64) (xX:b.l.length≤64) (hi64:i5 < 64) (hd5:a.l.drop i5=x5::a.l.drop (i5+1)) (hg9p1_va9p1_0:yJ.length≤65 * i5+xK) (hL9p1:b.l.length≤1099511627776),iv_r_Minus_9p1 a b i5 x5 (r_Minus_9p1a x5 xl yJ yI):=by
 intro xl
 induction xl with
 |nil =>
  intro xK yJ yI yZ hi9p1 xF xX hi64 hd5 hg9p1_va9p1_0 hL9p1
  unfold r_Minus_9p1a
  obtain rfl:xK=b.l.length:=zW yZ hi9p1
  exact hg9p1_va9p1_0
 |cons xg xl ih =>
  intro xK yJ yI yZ hi9p1 xF xX hi64 hd5 hg9p1_va9p1_0 hL9p1
  have hlt9p1:=zg yZ
  unfold r_Minus_9p1a
  cases h40:decide (xg.hi < yI) with
  |true =>
   have g40:=of_decide_eq_true h40
   exact ih (xK+1) yJ yI (zi yZ) (zg yZ) (by omega) (by omega) (by omega) (by omega) (by omega) (by omega)
  |false =>
   have g40:=of_decide_eq_false h40
   cases h41:decide (xg.lo>x5.hi) with
   |true =>
    have g41:=of_decide_eq_true h41
    exact ih (xK+1) yJ yI (zi yZ) (zg yZ) (by omega) (by omega) (by omega) (by omega) (by omega) (by omega)
   |false =>
    have g41:=of_decide_eq_false h41
    cases h42:decide (xg.lo>yI) with
    |true =>
     have g42:=of_decide_eq_true h42
     exact ih (xK+1) (yJ++[(⟨yI,w64 (xg.lo - 1)⟩:Sn)]) (w64 (xg.hi+1)) (zi yZ) (zg yZ) (by omega) (by omega) (by omega) (by omega) (by simp only [length_append,length_cons,length_nil] at *<;>omega) (by omega)
    |false =>
     have g42:=of_decide_eq_false h42
     exact ih (xK+1) yJ (w64 (xg.hi+1)) (zi yZ) (zg yZ) (by omega) (by omega) (by omega) (by omega) (by omega) (by omega)
def r_Minus_9p1_l_o1 (b:GS Sn) (x5:Sn) (xg:Sn):List Ora:=[.rw 31 (I (b.l.length:Int)),.dec true,.el (.agg [I xg.lo,I xg.hi]),.dec false,.el (.agg [I xg.lo,I xg.hi]),.el (.agg [I x5.lo,I x5.hi])]
theorem lp_r_Minus_9p1 (a:GS Sn) (b:GS Sn) (i5:Nat) (x5:Sn):∀(xl:List Sn) (xK:Nat) (xk:Int) (yZ:b.l.drop xK=xl) (hi9p1:xK≤b.l.length) (xF:a.l.length≤64) (xX:b.l.length≤64) (hi64:i5 < 64) (hd5:a.l.drop i5=x5::a.l.drop (i5+1)) (hL9p1:b.l.length≤1099511627776),(lim cfg).loop 58 lp58_9 ⟨101,[(0,.sl a.nl (a.l.map Sn.D) (zsl a.nl 2) none),(1,.sl b.nl (b.l.map Sn.D) (zsl b.nl 2) none),(6,.sl true [] 0 none),(7,I (i5:Int)),(8,I xk),(9,I (xK:Int))],[],0,0⟩=some (lr_r_Minus_9p1 a b i5 x5 (r_Minus_9p1 x5 xl xk)):=by
 intro xl
 induction xl with
 |nil =>
  intro xK xk yZ hi9p1 xF xX hi64 hd5 hL9p1
  unfold r_Minus_9p1
  obtain rfl:xK=b.l.length:=zW yZ hi9p1
  exact zD [.rw 31 (I (b.l.length:Int)),.dec false] (Ai (lt_no yZ) (Ai (zk Sn.D b) trivial)) (by kernel_rfl)
 |cons xg xl ih =>
  intro xK xk yZ hi9p1 xF xX hi64 hd5 hL9p1
  have hlt9p1:=zg yZ
  unfold r_Minus_9p1
  have p1:=(zS (s:=b) (f:=Sn.D) (k:=2) yZ)
  cases h43:decide (xg.hi < xk) with
  |true =>
   have g43:=of_decide_eq_true h43
   exact po_turn [.rw 31 (I (b.l.length:Int)),.dec true,.el (.agg [I xg.lo,I xg.hi]),.dec true,.rw 34 (I ((xK+1:Nat):Int))] (Ai (zM (i:=xK) (by have:=zg yZ;omega)) (Ai h43 (Ai p1 (Ai (zT yZ) (Ai (zk Sn.D b) trivial))))) (ih (xK+1) xk (zi yZ) (zg yZ) (by omega) (by omega) (by omega) (by omega) (by omega)) (by kernel_rfl)
  |false =>
   have g43:=of_decide_eq_false h43
   have p2:=(zS (s:=b) (f:=Sn.D) (k:=2) yZ)
   have p3:=(zS (s:=a) (f:=Sn.D) (k:=2) hd5)
   cases h44:decide (xg.lo>x5.hi) with
   |true =>
    have g44:=of_decide_eq_true h44
    exact po_turn ((r_Minus_9p1_l_o1 b x5 xg)++[.dec true,.rw 34 (I ((xK+1:Nat):Int))]) (Ai (zM (i:=xK) (by have:=zg yZ;omega)) (Ai h44 (Ai p3 (Ai p2 (Ai h43 (Ai p1 (Ai (zT yZ) (Ai (zk Sn.D b) trivial)))))))) (ih (xK+1) xk (zi yZ) (zg yZ) (by omega) (by omega) (by omega) (by omega) (by omega)) (by kernel_rfl)
   |false =>
    have g44:=of_decide_eq_false h44
    have p4:=(zS (s:=b) (f:=Sn.D) (k:=2) yZ)
    cases h45:decide (xg.lo>xk) with
    |true =>
     have g45:=of_decide_eq_true h45
     exact po_turn ((r_Minus_9p1_l_o1 b x5 xg)++[.dec false,.el (.agg [I xg.lo,I xg.hi]),.dec true,.el (.agg [I xg.lo,I xg.hi]),.el (.agg [I xg.lo,I xg.hi]),.rw 34 (I ((xK+1:Nat):Int))]) (Ai (zM (i:=xK) (by have:=zg yZ;omega)) (Ai (zS (s:=b) (f:=Sn.D) (k:=2) yZ) (Ai (zS (s:=b) (f:=Sn.D) (k:=2) yZ) (Ai h45 (Ai p4 (Ai h44 (Ai p3 (Ai p2 (Ai h43 (Ai p1 (Ai (zT yZ) (Ai (zk Sn.D b) trivial)))))))))))) (lp_r_Minus_9p1a a b i5 x5 _ (xK+1) [(⟨xk,w64 (xg.lo - 1)⟩:Sn)] (w64 (xg.hi+1)) (zi yZ) (zg yZ) (by omega) (by omega) (by omega) (by omega) (by simp only [length_append,length_cons,length_nil] at *<;>omega) (by omega)) (by kernel_rfl)
    |false =>
     have g45:=of_decide_eq_false h45
     exact po_turn ((r_Minus_9p1_l_o1 b x5 xg)++[.dec false,.el (.agg [I xg.lo,I xg.hi]),.dec false,.el (.agg [I xg.lo,I xg.hi]),.rw 34 (I ((xK+1:Nat):Int))]) (Ai (zM (i:=xK) (by have:=zg yZ;omega)) (Ai (zS (s:=b) (f:=Sn.D) (k:=2) yZ) (Ai h45 (Ai p4 (Ai h44 (Ai p3 (Ai p2 (Ai h43 (Ai p1 (Ai (zT yZ) (Ai (zk Sn.D b) trivial))))))))))) (ih (xK+1) (w64 (xg.hi+1)) (zi yZ) (zg yZ) (by omega) (by omega) (by omega) (by omega) (by omega)) (by kernel_rfl)
theorem ivt_r_Minus_9p1 (a:GS Sn) (b:GS Sn) (i5:Nat) (x5:Sn):∀(xl:List Sn) (xK:Nat) (xk:Int) (yZ:b.l.drop xK=xl) (hi9p1:xK≤b.l.length) (xF:a.l.length≤64) (xX:b.l.length≤64) (hi64:i5 < 64) (hd5:a.l.drop i5=x5::a.l.drop (i5+1)) (hL9p1:b.l.length≤1099511627776),iv_r_Minus_9p1 a b i5 x5 (r_Minus_9p1 x5 xl xk):=by
 intro xl
 induction xl with
 |nil =>
  intro xK xk yZ hi9p1 xF xX hi64 hd5 hL9p1
  unfold r_Minus_9p1
  obtain rfl:xK=b.l.length:=zW yZ hi9p1
  exact trivial
 |cons xg xl ih =>
  intro xK xk yZ hi9p1 xF xX hi64 hd5 hL9p1
  have hlt9p1:=zg yZ
  unfold r_Minus_9p1
  cases h43:decide (xg.hi < xk) with
  |true =>
   have g43:=of_decide_eq_true h43
   exact ih (xK+1) xk (zi yZ) (zg yZ) (by omega) (by omega) (by omega) (by omega) (by omega)
  |false =>
   have g43:=of_decide_eq_false h43
   cases h44:decide (xg.lo>x5.hi) with
   |true =>
    have g44:=of_decide_eq_true h44
    exact ih (xK+1) xk (zi yZ) (zg yZ) (by omega) (by omega) (by omega) (by omega) (by omega)
   |false =>
    have g44:=of_decide_eq_false h44
    cases h45:decide (xg.lo>xk) with
    |true =>
     have g45:=of_decide_eq_true h45
     exact ivt_r_Minus_9p1a a b i5 x5 _ (xK+1) [(⟨xk,w64 (xg.lo - 1)⟩:Sn)] (w64 (xg.hi+1)) (zi yZ) (zg yZ) (by omega) (by omega) (by omega) (by omega) (by simp only [length_append,length_cons,length_nil] at *<;>omega) (by omega)
    |false =>
     have g45:=of_decide_eq_false h45
     exact ih (xK+1) (w64 (xg.hi+1)) (zi yZ) (zg yZ) (by omega) (by omega) (by omega) (by omega) (by omega)

noncomputable def lp58_5:Code:=subC [1,1,1,0,1,0,0] (bodyC Tryz.f58)

def sd20378 (a:GS Sn) (b:GS Sn) (i5:Nat) (x5:Sn) (xT:List Sn) (xP:Int):St:=⟨101,[(7,I ((i5+1:Nat):Int)),(23,I ((i5+1:Nat):Int)),(22,I (i5:Int)),(6,.lsl 2 0 ((xT++[(⟨xP,x5.hi⟩:Sn)]).length) 2 none),(95,.lsl 2 0 ((xT++[(⟨xP,x5.hi⟩:Sn)]).length) 2 none),(94,.lsl 1 0 1 2 (some 1)),(93,.agg [I xP,I x5.hi]),(92,I x5.hi),(91,.ptr (I x5.hi)),(90,.ptr (.agg [I x5.lo,I x5.hi])),(89,I (i5:Int)),(88,.sl a.nl (a.l.map Sn.D) (zsl a.nl 2) none),(87,I xP),(86,.lsl 0 0 xT.length 2 none),(85,B true),(84,I x5.hi),(83,.ptr (I x5.hi)),(82,.ptr (.agg [I x5.lo,I x5.hi])),(81,I (i5:Int)),(80,.sl a.nl (a.l.map Sn.D) (zsl a.nl 2) none),(79,I xP),(32,B false),(31,I (b.l.length:Int)),(30,.sl b.nl (b.l.map Sn.D) (zsl b.nl 2) none),(29,I (b.l.length:Int)),(0,.sl a.nl (a.l.map Sn.D) (zsl a.nl 2) none),(1,.sl b.nl (b.l.map Sn.D) (zsl b.nl 2) none),(6,.lsl 0 0 xT.length 2 none),(7,I (i5:Int)),(8,I xP),(9,I (b.l.length:Int))],[(1,⟨[.agg [I xP,I x5.hi]],2,false⟩),(2,⟨(xT++[(⟨xP,x5.hi⟩:Sn)]).map Sn.D,2,false⟩)],3,0⟩

def sd20365 (a:GS Sn) (b:GS Sn) (i5:Nat) (x5:Sn) (yK:List Sn):St:=⟨101,[(0,.sl a.nl (a.l.map Sn.D) (zsl a.nl 2) none),(1,.sl b.nl (b.l.map Sn.D) (zsl b.nl 2) none),(6,.lsl 0 0 yK.length 2 none),(7,I (i5:Int)),(8,I x5.lo),(9,I 0)],[(0,⟨yK.map Sn.D,2,false⟩)],1,0⟩

def sd20371 (a:GS Sn) (b:GS Sn) (i5:Nat) (xT:List Sn) (xP:Int):St:=⟨101,[(32,B false),(31,I (b.l.length:Int)),(30,.sl b.nl (b.l.map Sn.D) (zsl b.nl 2) none),(29,I (b.l.length:Int)),(0,.sl a.nl (a.l.map Sn.D) (zsl a.nl 2) none),(1,.sl b.nl (b.l.map Sn.D) (zsl b.nl 2) none),(6,.lsl 0 0 xT.length 2 none),(7,I (i5:Int)),(8,I xP),(9,I (b.l.length:Int))],[(0,⟨xT.map Sn.D,2,false⟩)],1,0⟩

def sd20364 (a:GS Sn) (b:GS Sn) (i5:Nat) (x5:Sn) (yK:List Sn):St:=⟨101,[(9,I 0),(8,I x5.lo),(28,I x5.lo),(27,.ptr (I x5.lo)),(26,.ptr (.agg [I x5.lo,I x5.hi])),(25,I (i5:Int)),(24,.sl a.nl (a.l.map Sn.D) (zsl a.nl 2) none),(21,B true),(20,I (a.l.length:Int)),(19,.sl a.nl (a.l.map Sn.D) (zsl a.nl 2) none),(18,I (i5:Int)),(0,.sl a.nl (a.l.map Sn.D) (zsl a.nl 2) none),(1,.sl b.nl (b.l.map Sn.D) (zsl b.nl 2) none),(6,.lsl 0 0 yK.length 2 none),(7,I (i5:Int))],[(0,⟨yK.map Sn.D,2,false⟩)],1,0⟩

def sd20379 (a:GS Sn) (b:GS Sn) (i5:Nat) (x5:Sn) (xT:List Sn) (xP:Int):St:=⟨101,[(7,I ((i5+1:Nat):Int)),(23,I ((i5+1:Nat):Int)),(22,I (i5:Int)),(85,B false),(84,I x5.hi),(83,.ptr (I x5.hi)),(82,.ptr (.agg [I x5.lo,I x5.hi])),(81,I (i5:Int)),(80,.sl a.nl (a.l.map Sn.D) (zsl a.nl 2) none),(79,I xP),(32,B false),(31,I (b.l.length:Int)),(30,.sl b.nl (b.l.map Sn.D) (zsl b.nl 2) none),(29,I (b.l.length:Int)),(0,.sl a.nl (a.l.map Sn.D) (zsl a.nl 2) none),(1,.sl b.nl (b.l.map Sn.D) (zsl b.nl 2) none),(6,.lsl 0 0 xT.length 2 none),(7,I (i5:Int)),(8,I xP),(9,I (b.l.length:Int))],[(0,⟨xT.map Sn.D,2,false⟩)],1,0⟩

def sd20376 (a:GS Sn) (b:GS Sn) (i5:Nat) (yJ:List Sn) (yI:Int):St:=⟨101,[(32,B false),(31,I (b.l.length:Int)),(30,.sl b.nl (b.l.map Sn.D) (zsl b.nl 2) none),(29,I (b.l.length:Int)),(0,.sl a.nl (a.l.map Sn.D) (zsl a.nl 2) none),(1,.sl b.nl (b.l.map Sn.D) (zsl b.nl 2) none),(6,.lsl 0 0 yJ.length 2 none),(7,I (i5:Int)),(8,I yI),(9,I (b.l.length:Int))],[(0,⟨yJ.map Sn.D,2,false⟩)],1,0⟩

def sd20377 (a:GS Sn) (b:GS Sn) (i5:Nat) (xk:Int):St:=⟨101,[(32,B false),(31,I (b.l.length:Int)),(30,.sl b.nl (b.l.map Sn.D) (zsl b.nl 2) none),(29,I (b.l.length:Int)),(0,.sl a.nl (a.l.map Sn.D) (zsl a.nl 2) none),(1,.sl b.nl (b.l.map Sn.D) (zsl b.nl 2) none),(6,.sl true [] 0 none),(7,I (i5:Int)),(8,I xk),(9,I (b.l.length:Int))],[],0,0⟩

def sd20380 (a:GS Sn) (b:GS Sn) (i5:Nat) (x5:Sn) (yJ:List Sn) (yI:Int):St:=⟨101,[(7,I ((i5+1:Nat):Int)),(23,I ((i5+1:Nat):Int)),(22,I (i5:Int)),(6,.lsl 2 0 ((yJ++[(⟨yI,x5.hi⟩:Sn)]).length) 2 none),(95,.lsl 2 0 ((yJ++[(⟨yI,x5.hi⟩:Sn)]).length) 2 none),(94,.lsl 1 0 1 2 (some 1)),(93,.agg [I yI,I x5.hi]),(92,I x5.hi),(91,.ptr (I x5.hi)),(90,.ptr (.agg [I x5.lo,I x5.hi])),(89,I (i5:Int)),(88,.sl a.nl (a.l.map Sn.D) (zsl a.nl 2) none),(87,I yI),(86,.lsl 0 0 yJ.length 2 none),(85,B true),(84,I x5.hi),(83,.ptr (I x5.hi)),(82,.ptr (.agg [I x5.lo,I x5.hi])),(81,I (i5:Int)),(80,.sl a.nl (a.l.map Sn.D) (zsl a.nl 2) none),(79,I yI),(32,B false),(31,I (b.l.length:Int)),(30,.sl b.nl (b.l.map Sn.D) (zsl b.nl 2) none),(29,I (b.l.length:Int)),(0,.sl a.nl (a.l.map Sn.D) (zsl a.nl 2) none),(1,.sl b.nl (b.l.map Sn.D) (zsl b.nl 2) none),(6,.lsl 0 0 yJ.length 2 none),(7,I (i5:Int)),(8,I yI),(9,I (b.l.length:Int))],[(1,⟨[.agg [I yI,I x5.hi]],2,false⟩),(2,⟨(yJ++[(⟨yI,x5.hi⟩:Sn)]).map Sn.D,2,false⟩)],3,0⟩

def sd20381 (a:GS Sn) (b:GS Sn) (i5:Nat) (x5:Sn) (yJ:List Sn) (yI:Int):St:=⟨101,[(7,I ((i5+1:Nat):Int)),(23,I ((i5+1:Nat):Int)),(22,I (i5:Int)),(85,B false),(84,I x5.hi),(83,.ptr (I x5.hi)),(82,.ptr (.agg [I x5.lo,I x5.hi])),(81,I (i5:Int)),(80,.sl a.nl (a.l.map Sn.D) (zsl a.nl 2) none),(79,I yI),(32,B false),(31,I (b.l.length:Int)),(30,.sl b.nl (b.l.map Sn.D) (zsl b.nl 2) none),(29,I (b.l.length:Int)),(0,.sl a.nl (a.l.map Sn.D) (zsl a.nl 2) none),(1,.sl b.nl (b.l.map Sn.D) (zsl b.nl 2) none),(6,.lsl 0 0 yJ.length 2 none),(7,I (i5:Int)),(8,I yI),(9,I (b.l.length:Int))],[(0,⟨yJ.map Sn.D,2,false⟩)],1,0⟩

inductive LR_r_Minus_5 where
 |x0 (yK:List Sn)
 |x1
instance:Inhabited LR_r_Minus_5:=⟨.x0 default⟩
def r_Minus_5a (b:GS Sn):List Sn→(List Sn)→LR_r_Minus_5
 |[],yK=>.x0 yK
 |x5::xp,yK =>
  match r_Minus_9 x5 b.l yK x5.lo with
  |.x0 xT xP =>
   bif decide (xP≤x5.hi) then
    r_Minus_5a b xp (xT++[(⟨xP,x5.hi⟩:Sn)])
   else
    r_Minus_5a b xp xT
def r_Minus_5 (b:GS Sn):List Sn→LR_r_Minus_5
 |[]=>.x1
 |x5::xp =>
  match r_Minus_9p1 x5 b.l x5.lo with
  |.x0 yJ yI =>
   bif decide (yI≤x5.hi) then
    r_Minus_5a b xp (yJ++[(⟨yI,x5.hi⟩:Sn)])
   else
    r_Minus_5a b xp yJ
  |.x1 xk =>
   bif decide (xk≤x5.hi) then
    r_Minus_5a b xp [(⟨xk,x5.hi⟩:Sn)]
   else
    r_Minus_5 b xp
def lr_r_Minus_5 (a:GS Sn) (b:GS Sn):LR_r_Minus_5→Exit × St
 |.x0 yK=>((.exit 0),⟨101,[(21,B false),(20,I (a.l.length:Int)),(19,.sl a.nl (a.l.map Sn.D) (zsl a.nl 2) none),(18,I (a.l.length:Int)),(0,.sl a.nl (a.l.map Sn.D) (zsl a.nl 2) none),(1,.sl b.nl (b.l.map Sn.D) (zsl b.nl 2) none),(6,.lsl 0 0 yK.length 2 none),(7,I (a.l.length:Int))],[(0,⟨yK.map Sn.D,2,false⟩)],1,0⟩)
 |.x1=>((.exit 0),⟨101,[(21,B false),(20,I (a.l.length:Int)),(19,.sl a.nl (a.l.map Sn.D) (zsl a.nl 2) none),(18,I (a.l.length:Int)),(0,.sl a.nl (a.l.map Sn.D) (zsl a.nl 2) none),(1,.sl b.nl (b.l.map Sn.D) (zsl b.nl 2) none),(6,.sl true [] 0 none),(7,I (a.l.length:Int))],[],0,0⟩)
def iv_r_Minus_5 (a:GS Sn) (b:GS Sn):LR_r_Minus_5→Prop
 |.x0 yK=>(yK.length≤65 * a.l.length)
 |.x1=>True
theorem lp_r_Minus_5a (a:GS Sn) (b:GS Sn):∀(xp:List Sn) (i5:Nat) (yK:List Sn) (hd5:a.l.drop i5=xp) (hi5:i5≤a.l.length) (xF:a.l.length≤64) (xX:b.l.length≤64) (hg5_va5_0:yK.length≤65 * i5) (hL5:a.l.length≤1099511627776),(lim cfg).loop 58 lp58_5 ⟨101,[(0,.sl a.nl (a.l.map Sn.D) (zsl a.nl 2) none),(1,.sl b.nl (b.l.map Sn.D) (zsl b.nl 2) none),(6,.lsl 0 0 yK.length 2 none),(7,I (i5:Int))],[(0,⟨yK.map Sn.D,2,false⟩)],1,0⟩=some (lr_r_Minus_5 a b (r_Minus_5a b xp yK)):=by
 intro xp
 induction xp with
 |nil =>
  intro i5 yK hd5 hi5 xF xX hg5_va5_0 hL5
  unfold r_Minus_5a
  obtain rfl:i5=a.l.length:=zW hd5 hi5
  exact zD [.rw 20 (I (a.l.length:Int)),.dec false] (Ai (lt_no hd5) (Ai (zk Sn.D a) trivial)) (by kernel_rfl)
 |cons x5 xp ih =>
  intro i5 yK hd5 hi5 xF xX hg5_va5_0 hL5
  have hlt5:=zg hd5
  unfold r_Minus_5a
  cases h32:r_Minus_9 x5 b.l yK x5.lo with
  |x0 xT xP =>
   try dsimp only
   have hv_h32:=ivt_r_Minus_9 a b i5 x5 b.l 0 yK x5.lo (List.drop_zero) (Nat.zero_le _) (by omega) (by omega) (by omega) (by exact drop_tl (by assumption)) (by omega) (by omega)
   rw [h32] at hv_h32
   have hv_h32_0:=hv_h32
   try dsimp only [iv_r_Minus_9] at hv_h32_0
   cases h33:decide (xP≤x5.hi) with
   |true =>
    have g33:=of_decide_eq_true h33
    exact zz (ks:=[0,1,6,7]) (st':=(sd20378 a b i5 x5 xT xP)) [.rw 20 (I (a.l.length:Int)),.dec true,.el (.agg [I x5.lo,I x5.hi]),.gloop (sd20365 a b i5 x5 yK) (.exit 2) (sd20371 a b i5 xT xP),.el (.agg [I x5.lo,I x5.hi]),.dec true,.el (.agg [I x5.lo,I x5.hi]),.op (some 95) ⟨.lsl 2 0 ((xT++[(⟨xP,x5.hi⟩:Sn)]).length) 2 none,[(0,none),(2,some ⟨(xT++[(⟨xP,x5.hi⟩:Sn)]).map Sn.D,2,false⟩)],[0,1],3⟩,.rw 23 (I ((i5+1:Nat):Int))] (Ai (zM (i:=i5) (by have:=zg hd5;omega)) (Ai (app_row (f:=Sn.D) (te:=zR) (gO:=zw [(0,⟨xT.map Sn.D,2,false⟩),(1,⟨[.agg [I xP,I x5.hi]],2,false⟩)]) (nxt:=2) (o:=0) (o2:=1) (fz:=false) z7 xT (⟨xP,x5.hi⟩:Sn) (by kernel_rfl) (by kernel_rfl) rfl (by kernel_rfl) (by decide) ⟨by simp only [zR,big]<;>(first|assumption|omega|(exact zF (by omega) (by omega))|(exact zt (by omega))|(exact zm (by omega))|(exact zu (by omega))|(exact zn (by omega))|(exact zl _ (by omega))|(exact Nat.le_trans (hJl _) (by rw [zj];omega))|(exact drop_tl (by assumption))|(simp only [zd] at *<;>omega)|(simp only [zv,zj,GS.some_l,length_set,length_append,length_cons,length_nil] at *<;>first|assumption|omega)|(simp only [zv,zj,GS.some_l,length_set,length_append,length_cons,length_nil,zd] at *<;>first|assumption|omega)|(simp at *<;>omega)),by simp only [big]<;>(first|assumption|omega|(exact zF (by omega) (by omega))|(exact zt (by omega))|(exact zm (by omega))|(exact zu (by omega))|(exact zn (by omega))|(exact zl _ (by omega))|(exact Nat.le_trans (hJl _) (by rw [zj];omega))|(exact drop_tl (by assumption))|(simp only [zd] at *<;>omega)|(simp only [zv,zj,GS.some_l,length_set,length_append,length_cons,length_nil] at *<;>first|assumption|omega)|(simp only [zv,zj,GS.some_l,length_set,length_append,length_cons,length_nil,zd] at *<;>first|assumption|omega)|(simp at *<;>omega))⟩) (Ai (zS (s:=a) (f:=Sn.D) (k:=2) hd5) (Ai h33 (Ai (zS (s:=a) (f:=Sn.D) (k:=2) hd5) (Ai (y8 (q:=lr_r_Minus_9 a b i5 x5) (lp_r_Minus_9 a b i5 x5 b.l 0 yK x5.lo (List.drop_zero) (Nat.zero_le _) (by omega) (by omega) (by omega) (by exact drop_tl (by assumption)) (by omega) (by omega)) h32) (Ai (gc_of (C:=cfg) (f:=58) (a:=lp58_9) (ks:=[0,1,6,7,8,9]) (st:=(sd20364 a b i5 x5 yK)) (st1:=(sd20365 a b i5 x5 yK)) (by kernel_rfl) (by (simp only [sd20364,sd20365,go_sem,length_set,Nat.reduceAdd,Nat.reduceEqDiff,Nat.reduceLT,Nat.reduceLeDiff,bI2,ze.idsL,ze.renL,ze.snapAll,z7.idsL,z7.renL,z7.snapAll])<;>rfl)) (Ai (zS (s:=a) (f:=Sn.D) (k:=2) hd5) (Ai (zT hd5) (Ai (zk Sn.D a) trivial)))))))))) (by kernel_rfl) (by (simp only [sd20378,go_sem,length_set,Nat.reduceAdd,Nat.reduceEqDiff,Nat.reduceLT,Nat.reduceLeDiff,bI2,ze.idsL,ze.renL,ze.snapAll,z7.idsL,z7.renL,z7.snapAll])<;>rfl) (ih (i5+1) (xT++[(⟨xP,x5.hi⟩:Sn)]) (zi hd5) (zg hd5) (by omega) (by omega) (by simp only [length_append,length_cons,length_nil] at *<;>omega) (by omega)) (by kernel_rfl)
   |false =>
    have g33:=of_decide_eq_false h33
    exact zz (ks:=[0,1,6,7]) (st':=(sd20379 a b i5 x5 xT xP)) [.rw 20 (I (a.l.length:Int)),.dec true,.el (.agg [I x5.lo,I x5.hi]),.gloop (sd20365 a b i5 x5 yK) (.exit 2) (sd20371 a b i5 xT xP),.el (.agg [I x5.lo,I x5.hi]),.dec false,.rw 23 (I ((i5+1:Nat):Int))] (Ai (zM (i:=i5) (by have:=zg hd5;omega)) (Ai h33 (Ai (zS (s:=a) (f:=Sn.D) (k:=2) hd5) (Ai (y8 (q:=lr_r_Minus_9 a b i5 x5) (lp_r_Minus_9 a b i5 x5 b.l 0 yK x5.lo (List.drop_zero) (Nat.zero_le _) (by omega) (by omega) (by omega) (by exact drop_tl (by assumption)) (by omega) (by omega)) h32) (Ai (gc_of (C:=cfg) (f:=58) (a:=lp58_9) (ks:=[0,1,6,7,8,9]) (st:=(sd20364 a b i5 x5 yK)) (st1:=(sd20365 a b i5 x5 yK)) (by kernel_rfl) (by (simp only [sd20364,sd20365,go_sem,length_set,Nat.reduceAdd,Nat.reduceEqDiff,Nat.reduceLT,Nat.reduceLeDiff,bI2,ze.idsL,ze.renL,ze.snapAll,z7.idsL,z7.renL,z7.snapAll])<;>rfl)) (Ai (zS (s:=a) (f:=Sn.D) (k:=2) hd5) (Ai (zT hd5) (Ai (zk Sn.D a) trivial)))))))) (by kernel_rfl) (by (simp only [sd20379,go_sem,length_set,Nat.reduceAdd,Nat.reduceEqDiff,Nat.reduceLT,Nat.reduceLeDiff,bI2,ze.idsL,ze.renL,ze.snapAll,z7.idsL,z7.renL,z7.snapAll])<;>rfl) (ih (i5+1) xT (zi hd5) (zg hd5) (by omega) (by omega) (by omega) (by omega)) (by kernel_rfl)
theorem ivt_r_Minus_5a (a:GS Sn) (b:GS Sn):∀(xp:List Sn) (i5:Nat) (yK:List Sn) (hd5:a.l.drop i5=xp) (hi5:i5≤a.l.length) (xF:a.l.length≤64) (xX:b.l.length≤64) (hg5_va5_0:yK.length≤65 * i5) (hL5:a.l.length≤1099511627776),iv_r_Minus_5 a b (r_Minus_5a b xp yK):=by
 intro xp
 induction xp with
 |nil =>
  intro i5 yK hd5 hi5 xF xX hg5_va5_0 hL5
  unfold r_Minus_5a
  obtain rfl:i5=a.l.length:=zW hd5 hi5
  exact hg5_va5_0
 |cons x5 xp ih =>
  intro i5 yK hd5 hi5 xF xX hg5_va5_0 hL5
  have hlt5:=zg hd5
  unfold r_Minus_5a
  cases h32:r_Minus_9 x5 b.l yK x5.lo with
  |x0 xT xP =>
   try dsimp only
   have hv_h32:=ivt_r_Minus_9 a b i5 x5 b.l 0 yK x5.lo (List.drop_zero) (Nat.zero_le _) (by omega) (by omega) (by omega) (by exact drop_tl (by assumption)) (by omega) (by omega)
   rw [h32] at hv_h32
   have hv_h32_0:=hv_h32
   try dsimp only [iv_r_Minus_9] at hv_h32_0
   cases h33:decide (xP≤x5.hi) with
   |true =>
    have g33:=of_decide_eq_true h33
    exact ih (i5+1) (xT++[(⟨xP,x5.hi⟩:Sn)]) (zi hd5) (zg hd5) (by omega) (by omega) (by simp only [length_append,length_cons,length_nil] at *<;>omega) (by omega)
   |false =>
    have g33:=of_decide_eq_false h33
    exact ih (i5+1) xT (zi hd5) (zg hd5) (by omega) (by omega) (by omega) (by omega)
def r_Minus_5_l_o1 (a:GS Sn) (b:GS Sn) (i5:Nat) (x5:Sn) (yJ:List Sn) (yI:Int):List Ora:=[.rw 20 (I (a.l.length:Int)),.dec true,.el (.agg [I x5.lo,I x5.hi]),.loop (.exit 2) (sd20376 a b i5 yJ yI),.el (.agg [I x5.lo,I x5.hi])]
def r_Minus_5_l_o2 (a:GS Sn) (b:GS Sn) (i5:Nat) (x5:Sn) (xk:Int):List Ora:=[.rw 20 (I (a.l.length:Int)),.dec true,.el (.agg [I x5.lo,I x5.hi]),.loop (.exit 2) (sd20377 a b i5 xk),.el (.agg [I x5.lo,I x5.hi])]
theorem lp_r_Minus_5 (a:GS Sn) (b:GS Sn):∀(xp:List Sn) (i5:Nat) (hd5:a.l.drop i5=xp) (hi5:i5≤a.l.length) (xF:a.l.length≤64) (xX:b.l.length≤64) (hL5:a.l.length≤1099511627776),(lim cfg).loop 58 lp58_5 ⟨101,[(0,.sl a.nl (a.l.map Sn.D) (zsl a.nl 2) none),(1,.sl b.nl (b.l.map Sn.D) (zsl b.nl 2) none),(6,.sl true [] 0 none),(7,I (i5:Int))],[],0,0⟩=some (lr_r_Minus_5 a b (r_Minus_5 b xp)):=by
 intro xp
 induction xp with
 |nil =>
  intro i5 hd5 hi5 xF xX hL5
  unfold r_Minus_5
  obtain rfl:i5=a.l.length:=zW hd5 hi5
  exact zD [.rw 20 (I (a.l.length:Int)),.dec false] (Ai (lt_no hd5) (Ai (zk Sn.D a) trivial)) (by kernel_rfl)
 |cons x5 xp ih =>
  intro i5 hd5 hi5 xF xX hL5
  have hlt5:=zg hd5
  unfold r_Minus_5
  have p1:=(zS (s:=a) (f:=Sn.D) (k:=2) hd5)
  cases h46:r_Minus_9p1 x5 b.l x5.lo with
  |x0 yJ yI =>
   try dsimp only
   have hv_h46:=ivt_r_Minus_9p1 a b i5 x5 b.l 0 x5.lo (List.drop_zero) (Nat.zero_le _) (by omega) (by omega) (by omega) (by exact drop_tl (by assumption)) (by omega)
   rw [h46] at hv_h46
   have hv_h46_0:=hv_h46
   try dsimp only [iv_r_Minus_9p1] at hv_h46_0
   have p2:=(y8 (q:=lr_r_Minus_9p1 a b i5 x5) (lp_r_Minus_9p1 a b i5 x5 b.l 0 x5.lo (List.drop_zero) (Nat.zero_le _) (by omega) (by omega) (by omega) (by exact drop_tl (by assumption)) (by omega)) h46)
   have p3:=(zS (s:=a) (f:=Sn.D) (k:=2) hd5)
   cases h47:decide (yI≤x5.hi) with
   |true =>
    have g47:=of_decide_eq_true h47
    exact zz (ks:=[0,1,6,7]) (st':=(sd20380 a b i5 x5 yJ yI)) ((r_Minus_5_l_o1 a b i5 x5 yJ yI)++[.dec true,.el (.agg [I x5.lo,I x5.hi]),.op (some 95) ⟨.lsl 2 0 ((yJ++[(⟨yI,x5.hi⟩:Sn)]).length) 2 none,[(0,none),(2,some ⟨(yJ++[(⟨yI,x5.hi⟩:Sn)]).map Sn.D,2,false⟩)],[0,1],3⟩,.rw 23 (I ((i5+1:Nat):Int))]) (Ai (zM (i:=i5) (by have:=zg hd5;omega)) (Ai (app_row (f:=Sn.D) (te:=zR) (gO:=zw [(0,⟨yJ.map Sn.D,2,false⟩),(1,⟨[.agg [I yI,I x5.hi]],2,false⟩)]) (nxt:=2) (o:=0) (o2:=1) (fz:=false) z7 yJ (⟨yI,x5.hi⟩:Sn) (by kernel_rfl) (by kernel_rfl) rfl (by kernel_rfl) (by decide) ⟨by simp only [zR,big]<;>(first|assumption|omega|(exact zF (by omega) (by omega))|(exact zt (by omega))|(exact zm (by omega))|(exact zu (by omega))|(exact zn (by omega))|(exact zl _ (by omega))|(exact Nat.le_trans (hJl _) (by rw [zj];omega))|(exact drop_tl (by assumption))|(simp only [zd] at *<;>omega)|(simp only [zv,zj,GS.some_l,length_set,length_append,length_cons,length_nil] at *<;>first|assumption|omega)|(simp only [zv,zj,GS.some_l,length_set,length_append,length_cons,length_nil,zd] at *<;>first|assumption|omega)|(simp at *<;>omega)),by simp only [big]<;>(first|assumption|omega|(exact zF (by omega) (by omega))|(exact zt (by omega))|(exact zm (by omega))|(exact zu (by omega))|(exact zn (by omega))|(exact zl _ (by omega))|(exact Nat.le_trans (hJl _) (by rw [zj];omega))|(exact drop_tl (by assumption))|(simp only [zd] at *<;>omega)|(simp only [zv,zj,GS.some_l,length_set,length_append,length_cons,length_nil] at *<;>first|assumption|omega)|(simp only [zv,zj,GS.some_l,length_set,length_append,length_cons,length_nil,zd] at *<;>first|assumption|omega)|(simp at *<;>omega))⟩) (Ai (zS (s:=a) (f:=Sn.D) (k:=2) hd5) (Ai h47 (Ai p3 (Ai p2 (Ai p1 (Ai (zT hd5) (Ai (zk Sn.D a) trivial))))))))) (by kernel_rfl) (by (simp only [sd20380,go_sem,length_set,Nat.reduceAdd,Nat.reduceEqDiff,Nat.reduceLT,Nat.reduceLeDiff,bI2,ze.idsL,ze.renL,ze.snapAll,z7.idsL,z7.renL,z7.snapAll])<;>rfl) (lp_r_Minus_5a a b _ (i5+1) (yJ++[(⟨yI,x5.hi⟩:Sn)]) (zi hd5) (zg hd5) (by omega) (by omega) (by simp only [length_append,length_cons,length_nil] at *<;>omega) (by omega)) (by kernel_rfl)
   |false =>
    have g47:=of_decide_eq_false h47
    exact zz (ks:=[0,1,6,7]) (st':=(sd20381 a b i5 x5 yJ yI)) ((r_Minus_5_l_o1 a b i5 x5 yJ yI)++[.dec false,.rw 23 (I ((i5+1:Nat):Int))]) (Ai (zM (i:=i5) (by have:=zg hd5;omega)) (Ai h47 (Ai p3 (Ai p2 (Ai p1 (Ai (zT hd5) (Ai (zk Sn.D a) trivial))))))) (by kernel_rfl) (by (simp only [sd20381,go_sem,length_set,Nat.reduceAdd,Nat.reduceEqDiff,Nat.reduceLT,Nat.reduceLeDiff,bI2,ze.idsL,ze.renL,ze.snapAll,z7.idsL,z7.renL,z7.snapAll])<;>rfl) (lp_r_Minus_5a a b _ (i5+1) yJ (zi hd5) (zg hd5) (by omega) (by omega) (by omega) (by omega)) (by kernel_rfl)
  |x1 xk =>
   try dsimp only
   have p4:=(y8 (q:=lr_r_Minus_9p1 a b i5 x5) (lp_r_Minus_9p1 a b i5 x5 b.l 0 x5.lo (List.drop_zero) (Nat.zero_le _) (by omega) (by omega) (by omega) (by exact drop_tl (by assumption)) (by omega)) h46)
   have p5:=(zS (s:=a) (f:=Sn.D) (k:=2) hd5)
   cases h48:decide (xk≤x5.hi) with
   |true =>
    have g48:=of_decide_eq_true h48
    exact po_turn ((r_Minus_5_l_o2 a b i5 x5 xk)++[.dec true,.el (.agg [I x5.lo,I x5.hi]),.rw 23 (I ((i5+1:Nat):Int))]) (Ai (zM (i:=i5) (by have:=zg hd5;omega)) (Ai (zS (s:=a) (f:=Sn.D) (k:=2) hd5) (Ai h48 (Ai p5 (Ai p4 (Ai p1 (Ai (zT hd5) (Ai (zk Sn.D a) trivial)))))))) (lp_r_Minus_5a a b _ (i5+1) [(⟨xk,x5.hi⟩:Sn)] (zi hd5) (zg hd5) (by omega) (by omega) (by simp only [length_append,length_cons,length_nil] at *<;>omega) (by omega)) (by kernel_rfl)
   |false =>
    have g48:=of_decide_eq_false h48
    exact po_turn ((r_Minus_5_l_o2 a b i5 x5 xk)++[.dec false,.rw 23 (I ((i5+1:Nat):Int))]) (Ai (zM (i:=i5) (by have:=zg hd5;omega)) (Ai h48 (Ai p5 (Ai p4 (Ai p1 (Ai (zT hd5) (Ai (zk Sn.D a) trivial))))))) (ih (i5+1) (zi hd5) (zg hd5) (by omega) (by omega) (by omega)) (by kernel_rfl)
theorem ivt_r_Minus_5 (a:GS Sn) (b:GS Sn):∀(xp:List Sn) (i5:Nat) (hd5:a.l.drop i5=xp) (hi5:i5≤a.l.length) (xF:a.l.length≤64) (xX:b.l.length≤64) (hL5:a.l.length≤1099511627776),iv_r_Minus_5 a b (r_Minus_5 b xp):=by
 intro xp
 induction xp with
 |nil =>
  intro i5 hd5 hi5 xF xX hL5
  unfold r_Minus_5
  obtain rfl:i5=a.l.length:=zW hd5 hi5
  exact trivial
 |cons x5 xp ih =>
  intro i5 hd5 hi5 xF xX hL5
  have hlt5:=zg hd5
  unfold r_Minus_5
  cases h46:r_Minus_9p1 x5 b.l x5.lo with
  |x0 yJ yI =>
   try dsimp only
   have hv_h46:=ivt_r_Minus_9p1 a b i5 x5 b.l 0 x5.lo (List.drop_zero) (Nat.zero_le _) (by omega) (by omega) (by omega) (by exact drop_tl (by assumption)) (by omega)
   rw [h46] at hv_h46
   have hv_h46_0:=hv_h46
   try dsimp only [iv_r_Minus_9p1] at hv_h46_0
   cases h47:decide (yI≤x5.hi) with
   |true =>
    have g47:=of_decide_eq_true h47
    exact ivt_r_Minus_5a a b _ (i5+1) (yJ++[(⟨yI,x5.hi⟩:Sn)]) (zi hd5) (zg hd5) (by omega) (by omega) (by simp only [length_append,length_cons,length_nil] at *<;>omega) (by omega)
   |false =>
    have g47:=of_decide_eq_false h47
    exact ivt_r_Minus_5a a b _ (i5+1) yJ (zi hd5) (zg hd5) (by omega) (by omega) (by omega) (by omega)
  |x1 xk =>
   try dsimp only
   cases h48:decide (xk≤x5.hi) with
   |true =>
    have g48:=of_decide_eq_true h48
    exact ivt_r_Minus_5a a b _ (i5+1) [(⟨xk,x5.hi⟩:Sn)] (zi hd5) (zg hd5) (by omega) (by omega) (by simp only [length_append,length_cons,length_nil] at *<;>omega) (by omega)
   |false =>
    have g48:=of_decide_eq_false h48
    exact ih (i5+1) (zi hd5) (zg hd5) (by omega) (by omega) (by omega)

def r_Minus (a:GS Sn) (b:GS Sn):(GS Sn) × Int :=
 bif (zC a) then
  bif (zC b) then
   match r_Minus_5 b a.l with
   |.x0 yK =>
    bif (JJ (GS.some yK)).nl then
     (((zX (JJ (GS.some yK))).1),((zX (JJ (GS.some yK))).2))
    else
     (((zX (JJ (GS.some yK))).1),((zX (JJ (GS.some yK))).2))
   |.x1 =>
    (((zX (JJ GS.nil)).1),((zX (JJ GS.nil)).2))
  else
   (GS.nil,20)
 else
  (GS.nil,20)

def sd20382 (a:GS Sn) (b:GS Sn) (yK:List Sn):St:=⟨101,[(21,B false),(20,I (a.l.length:Int)),(19,.sl a.nl (a.l.map Sn.D) (zsl a.nl 2) none),(18,I (a.l.length:Int)),(0,.sl a.nl (a.l.map Sn.D) (zsl a.nl 2) none),(1,.sl b.nl (b.l.map Sn.D) (zsl b.nl 2) none),(6,.lsl 0 0 yK.length 2 none),(7,I (a.l.length:Int))],[(0,⟨yK.map Sn.D,2,false⟩)],1,0⟩

def sd20383 (a:GS Sn) (b:GS Sn):St:=⟨101,[(21,B false),(20,I (a.l.length:Int)),(19,.sl a.nl (a.l.map Sn.D) (zsl a.nl 2) none),(18,I (a.l.length:Int)),(0,.sl a.nl (a.l.map Sn.D) (zsl a.nl 2) none),(1,.sl b.nl (b.l.map Sn.D) (zsl b.nl 2) none),(6,.sl true [] 0 none),(7,I (a.l.length:Int))],[],0,0⟩

theorem T_r_Minus (a:GS Sn) (b:GS Sn) (hLa:a.l.length≤9223372036854775807) (hLb:b.l.length≤9223372036854775807):(lim cfg).pure 58 [GS.D Sn.D 2 a,GS.D Sn.D 2 b]=some (.tup [GS.D Sn.D 2 ((r_Minus a b).1),I ((r_Minus a b).2)]):=by
 unfold r_Minus
 cases h1:(zC a) with
 |true =>
  have g1:=valid_len h1
  cases h2:(zC b) with
  |true =>
   have g2:=valid_len h2
   cases h49:r_Minus_5 b a.l with
   |x0 yK =>
    try dsimp only
    have hv_h49:=ivt_r_Minus_5 a b a.l 0 (List.drop_zero) (Nat.zero_le _) (by omega) (by omega) (by omega)
    rw [h49] at hv_h49
    have hv_h49_0:=hv_h49
    try dsimp only [iv_r_Minus_5] at hv_h49_0
    have p1:=(y8 (q:=lr_r_Minus_5 a b) (lp_r_Minus_5 a b a.l 0 (List.drop_zero) (Nat.zero_le _) (by omega) (by omega) (by omega)) h49)
    cases h50:(JJ (GS.some yK)).nl with
    |true =>
     exact zp [.pure (B (zC a)),.dec true,.pure (B (zC b)),.dec true,.loop (.exit 0) (sd20382 a b yK),.pureS (.sl ((JJ (GS.some yK)).nl) (((JJ (GS.some yK)).l).map Sn.D) (zsl ((JJ (GS.some yK)).nl) 2) none) true [(0,.sl false (yK.map Sn.D) 2 none,[0])],.pure (.tup [.sl (((zX (JJ (GS.some yK))).1).nl) ((((zX (JJ (GS.some yK))).1).l).map Sn.D) (zsl (((zX (JJ (GS.some yK))).1).nl) 2) none,I ((zX (JJ (GS.some yK))).2)])] (Ai (T_r_Fit (JJ (GS.some yK))) (Ai (Ai (show flat fuelD (.sl ((JJ (GS.some yK)).nl) (((JJ (GS.some yK)).l).map Sn.D) (zsl ((JJ (GS.some yK)).nl) 2) none)=true from (by rw [h50]<;>kernel_rfl)) (Ai (Ai (snap_row (gO:=zw [(0,⟨yK.map Sn.D,2,false⟩)]) (o:=0) (len:=yK.length) (cap:=none) (fz:=false) z7 yK (by kernel_rfl) (by omega)) trivial) (T_JJ (GS.some yK) (by simp only [zv,zj,GS.some_l,length_set,length_append,length_cons,length_nil] at *<;>first|assumption|omega)))) (Ai p1 (Ai h2 (Ai (zK b (by omega)) (Ai h1 (Ai (zK a (by omega)) trivial))))))) (by kernel_rfl)
    |false =>
     exact zp [.pure (B (zC a)),.dec true,.pure (B (zC b)),.dec true,.loop (.exit 0) (sd20382 a b yK),.pureS (.sl ((JJ (GS.some yK)).nl) (((JJ (GS.some yK)).l).map Sn.D) (zsl ((JJ (GS.some yK)).nl) 2) none) false [(0,.sl false (yK.map Sn.D) 2 none,[0])],.pure (.tup [.sl (((zX (JJ (GS.some yK))).1).nl) ((((zX (JJ (GS.some yK))).1).l).map Sn.D) (zsl (((zX (JJ (GS.some yK))).1).nl) 2) none,I ((zX (JJ (GS.some yK))).2)])] (Ai (T_r_Fit (JJ (GS.some yK))) (Ai (Ai (show flat fuelD (.sl ((JJ (GS.some yK)).nl) (((JJ (GS.some yK)).l).map Sn.D) (zsl ((JJ (GS.some yK)).nl) 2) none)=false from (by rw [h50]<;>kernel_rfl)) (Ai (Ai (snap_row (gO:=zw [(0,⟨yK.map Sn.D,2,false⟩)]) (o:=0) (len:=yK.length) (cap:=none) (fz:=false) z7 yK (by kernel_rfl) (by omega)) trivial) (T_JJ (GS.some yK) (by simp only [zv,zj,GS.some_l,length_set,length_append,length_cons,length_nil] at *<;>first|assumption|omega)))) (Ai p1 (Ai h2 (Ai (zK b (by omega)) (Ai h1 (Ai (zK a (by omega)) trivial))))))) (by kernel_rfl)
   |x1 =>
    try dsimp only
    exact zp [.pure (B (zC a)),.dec true,.pure (B (zC b)),.dec true,.loop (.exit 0) (sd20383 a b),.pure (.sl ((JJ GS.nil).nl) (((JJ GS.nil).l).map Sn.D) (zsl ((JJ GS.nil).nl) 2) none),.pure (.tup [.sl (((zX (JJ GS.nil)).1).nl) ((((zX (JJ GS.nil)).1).l).map Sn.D) (zsl (((zX (JJ GS.nil)).1).nl) 2) none,I ((zX (JJ GS.nil)).2)])] (Ai (T_r_Fit (JJ GS.nil)) (Ai (T_JJ GS.nil (by simp [GS.nil])) (Ai (y8 (q:=lr_r_Minus_5 a b) (lp_r_Minus_5 a b a.l 0 (List.drop_zero) (Nat.zero_le _) (by omega) (by omega) (by omega)) h49) (Ai h2 (Ai (zK b (by omega)) (Ai h1 (Ai (zK a (by omega)) trivial))))))) (by kernel_rfl)
  |false =>
   exact zp [.pure (B (zC a)),.dec true,.pure (B (zC b)),.dec false] (Ai h2 (Ai (zK b (by omega)) (Ai h1 (Ai (zK a (by omega)) trivial)))) (by kernel_rfl)
 |false =>
  exact zp [.pure (B (zC a)),.dec false] (Ai h1 (Ai (zK a (by omega)) trivial)) (by kernel_rfl)
end Go.VS

namespace Go.VS
open List (length_append length_cons length_nil)
open Go

theorem ranges_gathered_4p2_ok:∀(l:List Sn) (i:Nat) (v:List Sn) (c:Sn),ArL l→Ar c.hi→v.length+l.length≤1099511627776→y6 l i (v++[c])=.x0 (v++jn c l)
 |[],i,v,c,_,_,_=>rfl
 |x::l,i,v,c,h,hc,hv=>by
  have hx:=h x List.mem_cons_self
  have h':ArL l:=fun t ht=>h t (List.mem_cons_of_mem _ ht)
  simp only [length_cons] at hv
  unfold y6 jn
  rw [area_iff.2 hx.1,area_iff.2 hx.2]
  have hl:w64 ((((v++[c]).length:Nat):Int) - 1)=(v.length:Int):=by
   rcases len_last (v:=v) (c:=c) with e|e
   ·exact e
   ·omega
  have hp:decide ((((v++[c]).length:Nat):Int)>0)=true:=decide_eq_true (by simp only [length_append,length_cons,length_nil];omega)
  rw [hl,hp,Int.toNat_natCast,getD_last,set_last]
  unfold Ar at hc
  have hx2:=hx.2
  unfold Ar at hx2
  rw [w64_eq (n:=c.hi+1) (by omega) (by omega),imax_eq]
  by_cases hle:x.lo≤c.hi+1
  ·rw [decide_eq_true hle,if_pos hle]
   exact ranges_gathered_4p2_ok l (i+1) v ⟨c.lo,max c.hi x.hi⟩ h' (by unfold Ar;simp only;omega) (by omega)
  ·rw [decide_eq_false hle,if_neg hle]
   have:=ranges_gathered_4p2_ok l (i+1) (v++[c]) x h' hx.2 (by simp only [length_append,length_cons,length_nil];omega)
   simp only [cond_true,cond_false]
   rw [this,List.append_assoc];rfl
def ranges_gathered_4p2_er:LR_ranges_gathered_4p2→Bool
 |.x1 _ _ _=>true
 |.x2 _ _ _=>true
 |.x4 _ _=>true
 |.x5 _ _=>true
 |_=>false
theorem ranges_gathered_4p2_bad:∀(l:List Sn) (i:Nat) (v:List Sn),¬ArL l→ranges_gathered_4p2_er (y6 l i v)=true
 |[],i,v,h=>absurd (fun s hs=>by cases hs) h
 |x::l,i,v,h=>by
  unfold y6
  cases h1:zq x.lo with
  |false=>rfl
  |true =>
   cases h2:zq x.hi with
   |false=>rfl
   |true =>
    have h':¬ArL l:=fun k=>h fun s hs=>by
     rcases List.mem_cons.1 hs with rfl|hs
     ·exact ⟨area_iff.1 h1,area_iff.1 h2⟩
     ·exact k s hs
    have ih:=fun v=>ranges_gathered_4p2_bad l (i+1) v h'
    simp only [cond_true]
    cases decide ((v.length:Int)>0) with
    |false=>exact ih _
    |true =>
     simp only [cond_true]
     cases decide (x.lo≤w64 ((v.getD ((w64 ((v.length:Int) - 1)).toNat) default).hi+1))<;>exact ih _
theorem ranges_gathered_4p2_at {l:List Sn} (hne:l≠[]) (hl:l.length≤1099511627776):(ArL l∧yj (zB zx l) 0=.x0 (can zx l))∨(¬ArL l∧ranges_gathered_4p2_er (yj (zB zx l) 0)=true):=by
 have hp:=srtG_perm gcmp_lo l
 have hlen:=srtG_len gcmp_lo l
 have har:ArL (zB zx l)↔ArL l:=⟨fun h s hs=>h s (hp.mem_iff.2 hs),fun h s hs=>h s (hp.mem_iff.1 hs)⟩
 rw [← har]
 unfold can
 have hne':zB zx l≠[]:=fun h=>hne (by rw [h] at hp;exact List.nil_perm.1 hp)
 generalize zB zx l=q at *
 cases q with
 |nil=>exact absurd rfl hne'
 |cons c q =>
  simp only [length_cons] at hlen
  unfold yj jnL
  dsimp only
  by_cases hc:Ar c.lo∧Ar c.hi
  ·rw [area_iff.2 hc.1,area_iff.2 hc.2]
   by_cases hq:ArL q
   ·left
    refine ⟨fun s hs=>?_,?_⟩
    ·rcases List.mem_cons.1 hs with rfl|hs
     ·exact hc
     ·exact hq s hs
    ·exact ranges_gathered_4p2_ok q 1 [] c hq hc.2 (by simp;omega)
   ·right
    exact ⟨fun h=>hq fun s hs=>h s (List.mem_cons_of_mem _ hs),ranges_gathered_4p2_bad q 1 [c] hq⟩
  ·right
   refine ⟨fun h=>hc (h c List.mem_cons_self),?_⟩
   cases h1:zq c.lo with
   |false=>rfl
   |true =>
    cases h2:zq c.hi with
    |false=>rfl
    |true=>exact absurd ⟨area_iff.1 h1,area_iff.1 h2⟩ hc

end Go.VS

