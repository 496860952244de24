/-MonotoneLeft:what the row says of the program itself. No condition. -/
import Derived.Test.YtkmdgigkbhmilaaGreatNbV
namespace Go.Proofs.YtkmdgigkbhmilaaGreat
open Go.ChangeShapes Go.WideShapes Go.ChangeAt Go.RowKit
theorem GU:Tryz.pinned.checked.prog.funcNamed Rows.monotoneLeftRow.func=some 7:=by kernel_rfl
theorem Gl:joinedFacts Tryz.pinned.checked.prog 7 Tryz.f7 Rows.monotoneLeftSpec Rows.monotoneLeftRow=true:=by kernel_rfl
end Go.Proofs.YtkmdgigkbhmilaaGreat
namespace Go.Proofs.YtkmdgigkbhmilaaGreat
open Go Go.RowKit
def vf (c d:Cv):Int:=if cP c.q d.q=0 then 0 else 1
def rd (c d:Cv):Int:=if cP c.q d.q=0 then o6 c d (c.slp c.q) (d.slp d.q) (-1) else 0
section
variable {k:Ci}{p:Pt}(hk:GK k) (hp:GP p)
include hk hp
omit hk in
omit hk in
omit hk in
omit hk hp in
omit hk hp in
omit hk in
omit hk in
omit hk in
omit hk hp in
omit hk in
omit hk in
end
theorem pF {c d:Cv}(h:(cP c.q d.q==0)=true) {s t:Slp}(hs:c.slp c.q=s) (ht:d.slp d.q=t):rd c d=o6 c d s t (-1)∧vf c d=0:=by
 unfold rd vf;rw[if_pos (by simpa using h),if_pos (by simpa using h),hs,ht];exact⟨rfl,rfl⟩
theorem Pd {c d:Cv}(h:(cP c.q d.q==0)=false):rd c d=0∧vf c d=1:=by
 unfold rd vf;rw[if_neg (by simpa using h),if_neg (by simpa using h)];exact⟨rfl,rfl⟩
theorem B3 {c d:Cv}(hc:c.good) (hd:d.good):rd d c= -rd c d∧vf d c=vf c d:=by
 have a:=fQ (b9 (cH hc)) (b9 (cH hd))
 unfold rd vf
 by_cases h:cP c.q d.q=0
 ·rw[if_pos (by omega),if_pos h,if_pos (by omega),if_pos h]
  exact⟨BY (Ah hc (cH hc)) (Ah hd (cH hd)) (.inr rfl) u6 u6,rfl⟩
 ·rw[if_neg (by omega),if_neg h,if_neg (by omega),if_neg h];exact⟨rfl,rfl⟩
section
variable {c d:Cv}{s t:Slp}{side:Int}(gs:SlG s) (gt:SlG t)
include gs
theorem Kw:s.n=2∨s.n=1∨s.n= -1∨s.n=0:=by
 cases s with
 |vt=>exact .inl rfl
 |st n=>rcases gs.st n rfl with h|h<;>subst h<;>simp[Slp.n]
 |vl a b e=>exact .inr (.inr (.inr rfl))
include gt
set_option linter.unusedSectionVars false
variable (hs:side=1∨side= -1) (q1:decide (rk s side<rk t side)=false) (q2:decide (rk s side>rk t side)=false)
include hs q1 q2
set_option linter.unusedSectionVars true
end
theorem wH (s:Slp) (u:CellD):(kF s).take 0++[u]++(kF s).drop (0+1)=[u]++s.cl:=by cases s<;>rfl
theorem Wd {c d:Cv}(vc:CvV c) (vd:CvV d) {s t:Slp}(es:c.slp c.q=s) (et:d.slp d.q=t):Ok Tryz.prog 29 [.a (aB c),.a (aB d)] [.c (.i .i64 (rd c d)),.c (.i .i64 (vf c d))]:=by
 have hc:=vc.g
 have hd:=vd.g
 have gs:SlG s:=es▸kE hc (cH hc)
 have gt:SlG t:=et▸kE hd (cH hd)
 have as_: ∀n,s=.st n→c.isArc=true:=es▸ni
 have at_: ∀n,t=.st n→d.isArc=true:=et▸ni
 refine Ok.fn Tryz.func29 23 [.tmp 4,.tmp 5] rfl<|aa<|ab<|ag<|aa<|aa<|ab<|al 1<|ah (aA (us:=au c.q) bo rfl rfl (dY _) rfl rfl) ?_
 refine al 1<|ah (aA (us:=au d.q) bo rfl rfl (dY _) rfl rfl) ?_
 refine ah (am rfl (ro (cH hc) (cH hd)))<|ag ?_
 refine aw rfl (fun hc1=>?_) (fun hc1=>?_)
 ·refine aa<|ab<|ag<|an ?_
  have y1:=Pd (c:=c) (d:=d) (by simpa using hc1)
  rw[y1.1,y1.2]
  exact aq (aE (aE ae))
 ·refine ao<|aa<|aR 13 rfl rfl<|aj (aA (us:=aB c) bd rfl rfl (bv _) (ak _) rfl) ?_
  refine aj (aA (us:=aB d) bd rfl rfl (bv _) (ak _) rfl) ?_
  refine aj (aA (us:=aB c) bd rfl rfl (bv _) (ak _) rfl) ?_
  refine ap 1<|aj (aA (us:=au c.q) bo rfl rfl (dY _) rfl rfl) ?_
  refine aj (am rfl ((show Ok _ _ _ [.a (kF s)] from es▸UL vc (cH hc))))<|aj (aA (us:=aB d) bd rfl rfl (bv _) (ak _) rfl) ?_
  refine ap 1<|aj (aA (us:=au d.q) bo rfl rfl (dY _) rfl rfl) ?_
  refine aj (am rfl ((show Ok _ _ _ [.a (kF t)] from et▸UL vd (cH hd))))<|aj (am rfl (Tp hc hd gs gt as_ at_ (.inr rfl)))<|bk<|az<|ar<|an ?_
  have y1:=pF (c:=c) (d:=d) (by simpa using hc1) es et
  rw[y1.1,y1.2]
  exact aq (aE (aE ae))
theorem V6 {c d:Cv}(vc:CvV c) (vd:CvV d) {s t:Slp}(es:c.slp c.q=s) (et:d.slp d.q=t):Ok Tryz.prog 30 [.a (aB c),.a (aB d)] [.c (.i .i64 (rd c d)),.c (.i .i64 (vf c d))]:=by
 have hc:=vc.g
 have hd:=vd.g
 have gs:SlG s:=es▸kE hc (cH hc)
 have gt:SlG t:=et▸kE hd (cH hd)
 have as_: ∀n,s=.st n→c.isArc=true:=es▸ni
 have at_: ∀n,t=.st n→d.isArc=true:=et▸ni
 refine Ok.fn Tryz.func30 69 [.tmp 4,.tmp 5] rfl<|aa<|ab<|ag<|aa<|aa<|ab<|al 1<|ah (aA (us:=au c.q) bo rfl rfl (dY _) rfl rfl) ?_
 refine al 1<|ah (aA (us:=au d.q) bo rfl rfl (dY _) rfl rfl) ?_
 refine ah (am rfl (vD (cH hc) (cH hd)))<|ag ?_
 refine aw rfl (fun hc1=>?_) (fun hc1=>?_)
 ·refine aa<|ab<|ag<|an ?_
  have y1:=Pd (c:=c) (d:=d) (by simpa using hc1)
  rw[y1.1,y1.2]
  exact aq (aE (aE ae))
 ·refine ao<|aa<|aR 10 rfl rfl<|aj (aA (us:=aB c) bd rfl rfl (bv _) (ak _) rfl) ?_
  refine ap 1<|aj (aA (us:=au c.q) bo rfl rfl (dY _) rfl rfl) ?_
  refine aj (am rfl ((show Ok _ _ _ [.a (kF s)] from es▸UN vc (cH hc))))<|aj (aA (us:=aB d) bd rfl rfl (bv _) (ak _) rfl) ?_
  refine ap 1<|aj (aA (us:=au d.q) bo rfl rfl (dY _) rfl rfl) ?_
  refine aj (am rfl ((show Ok _ _ _ [.a (kF t)] from et▸UN vd (cH hd))))<|ba (ai nN rfl) rfl<|ba (ai nN rfl) rfl<|aY<|bG<|bL (aZ rD rfl rfl rfl (jf _) rfl rfl) ?_
  refine bL (aZ rD rfl rfl rfl (jf _) rfl rfl) ?_
  refine ar<|aa<|aa<|ab<|al 1<|ah (bE qB rfl rfl (fi _) rfl) ?_
  refine ag ?_
  refine aw rfl (fun hc2=>?_) (fun hc2=>?_)
  ·--region 5
   refine ab<|al 1<|bL (bm (us:=([.i .i64 (-2)]++s.cl)) qB rfl rfl rfl rfl (by rw[jf];decide) (wH _ _) rfl) ?_
   refine ar<|aa<|aa<|ab<|al 1<|ah (bE qB rfl rfl (fi _) rfl) ?_
   refine ag ?_
   refine aw rfl (fun hc3=>?_) (fun hc3=>?_)
   ·have r1:rk s (-1)= -2:=(LA gs hc2)
    have r2:rk t (-1)= -2:=(LA gt hc3)
    refine ab<|al 1<|bL (bm (us:=([.i .i64 (-2)]++t.cl)) qB rfl rfl rfl rfl (by rw[jf];decide) (wH _ _) rfl) ?_
    refine ar<|aa<|aa<|ab<|ag<|aP rfl<|ao<|aa<|aa<|ab<|ag<|bg rfl<|aa<|ab ?_
    refine ag<|an ?_
    have y1:=pF (c:=c) (d:=d) (by simpa using hc1) es et
    have z1:o6 c d s t (-1)=0:=Ap gs gt (.inr rfl) (by rw[r1,r2];decide) (by rw[r1,r2];decide) hc2
    rw[y1.1,y1.2,z1]
    exact aq (aE (aE ae))
   ·have r1:rk s (-1)= -2:=(LA gs hc2)
    have r2:rk t (-1)=t.n:=(It gt hc3)
    refine ao<|aa<|aa<|ab<|al 3<|ah (bE qB rfl rfl (fi _) rfl) ?_
    refine ag ?_
    refine aw rfl (fun hc4=>?_) (fun hc4=>?_)
    ·refine aa<|aa<|ab<|al 3<|ah (bE qB rfl rfl (fi _) rfl) ?_
     refine ag ?_
     refine aw rfl (fun hc5=>?_) (fun hc5=>?_)
     ·refine aa<|ab<|ag<|an ?_
      have y1:=pF (c:=c) (d:=d) (by simpa using hc1) es et
      have z1:o6 c d s t (-1)= -1:=vg (by rw[r1,r2];exact hc5)
      rw[y1.1,y1.2,z1]
      exact aq (aE (aE ae))
     ·refine ao<|aa<|ab<|ag<|an ?_
      have y1:=pF (c:=c) (d:=d) (by simpa using hc1) es et
      have z1:o6 c d s t (-1)=1:=uY (by rw[r1,r2];exact hc5) (by rw[r1,r2];exact decide_eq_true (by have q1:=of_decide_eq_false hc5;have q2: ¬(-2:Int)=t.n:=(by simpa using hc4);omega))
      rw[y1.1,y1.2,z1]
      exact aq (aE (aE ae))
    ·exfalso
     have q1:(-2:Int)=t.n:=by simpa using hc4
     have q2:=Kw gs
     have q3:=Kw gt
     omega
  ·refine ao<|aa<|aa<|ab<|al 1<|ah (bE qB rfl rfl (fi _) rfl) ?_
   refine ag ?_
   refine aw rfl (fun hc6=>?_) (fun hc6=>?_)
   ·have r1:rk s (-1)=s.n:=(It gs hc2)
    have r2:rk t (-1)= -2:=(LA gt hc6)
    refine ab<|al 1<|bL (bm (us:=([.i .i64 (-2)]++t.cl)) qB rfl rfl rfl rfl (by rw[jf];decide) (wH _ _) rfl) ?_
    refine ar<|aa<|aa<|ab<|al 1<|ah (bE qB rfl rfl (fi _) rfl) ?_
    refine ag ?_
    refine aw rfl (fun hc7=>?_) (fun hc7=>?_)
    ·refine aa<|aa<|ab<|al 1<|ah (bE qB rfl rfl (fi _) rfl) ?_
     refine ag ?_
     refine aw rfl (fun hc8=>?_) (fun hc8=>?_)
     ·refine aa<|ab<|ag<|an ?_
      have y1:=pF (c:=c) (d:=d) (by simpa using hc1) es et
      have z1:o6 c d s t (-1)= -1:=vg (by rw[r1,r2];exact hc8)
      rw[y1.1,y1.2,z1]
      exact aq (aE (aE ae))
     ·refine ao<|aa<|ab<|ag<|an ?_
      have y1:=pF (c:=c) (d:=d) (by simpa using hc1) es et
      have z1:o6 c d s t (-1)=1:=uY (by rw[r1,r2];exact hc8) (by rw[r1,r2];exact decide_eq_true (by have q1:=of_decide_eq_false hc8;have q2: ¬(s.n:Int)= -2:=(by simpa using hc7);omega))
      rw[y1.1,y1.2,z1]
      exact aq (aE (aE ae))
    ·exfalso
     have q1:(s.n:Int)= -2:=by simpa using hc7
     have q2:=Kw gs
     have q3:=Kw gt
     omega
   ·have r1:rk s (-1)=s.n:=(It gs hc2)
    have r2:rk t (-1)=t.n:=(It gt hc6)
    refine ao<|aa<|aa<|ab<|al 1<|ah (bE qB rfl rfl (fi _) rfl) ?_
    refine al 1<|ah (bE qB rfl rfl (fi _) rfl) ?_
    refine ag ?_
    refine aw rfl (fun hc9=>?_) (fun hc9=>?_)
    ·refine aa<|aa<|ab<|al 1<|ah (bE qB rfl rfl (fi _) rfl) ?_
     refine al 1<|ah (bE qB rfl rfl (fi _) rfl) ?_
     refine ag ?_
     refine aw rfl (fun hc10=>?_) (fun hc10=>?_)
     ·refine aa<|ab<|ag<|an ?_
      have y1:=pF (c:=c) (d:=d) (by simpa using hc1) es et
      have z1:o6 c d s t (-1)= -1:=vg (by rw[r1,r2];exact hc10)
      rw[y1.1,y1.2,z1]
      exact aq (aE (aE ae))
     ·refine ao<|aa<|ab<|ag<|an ?_
      have y1:=pF (c:=c) (d:=d) (by simpa using hc1) es et
      have z1:o6 c d s t (-1)=1:=uY (by rw[r1,r2];exact hc10) (by rw[r1,r2];exact decide_eq_true (by have q1:=of_decide_eq_false hc10;have q2: ¬(s.n:Int)=t.n:=(by simpa using hc9);omega))
      rw[y1.1,y1.2,z1]
      exact aq (aE (aE ae))
    ·have q1:s.n=t.n:=by simpa using hc9
     have q2:decide (rk s (-1)<rk t (-1))=false:=by rw[r1,r2];exact decide_eq_false (by omega)
     have q3:decide (rk s (-1)>rk t (-1))=false:=by rw[r1,r2];exact decide_eq_false (by omega)
     refine ao<|aa<|aa<|ab<|al 1<|ah (bE qB rfl rfl (fi _) rfl) ?_
     refine ag ?_
     refine aw rfl (fun hc11=>?_) (fun hc11=>?_)
     ·exfalso
      have q4:s.n= -2:=by simpa using hc11
      have q5:=Kw gs
      omega
     ·refine ao<|aa<|aa<|ab<|al 1<|ah (bE qB rfl rfl (fi _) rfl) ?_
      refine ag ?_
      refine aw rfl (fun hc12=>?_) (fun hc12=>?_)
      ·have y2:=zU (c:=c) (d:=d) gs gt (.inr rfl) q2 q3 hc2 hc12
       have qn:s.n=1∨s.n= -1:=y2.2.1.elim fun n e=>by have:=gs.st n e;subst e;exact this
       have hp2:=ei (s:=s.n) (t:=aV c.qq d.qq) (by omega) (dm _ _)
       refine aa<|aR 12 rfl rfl<|ap 1<|aj (bE qB rfl rfl (fi _) rfl) ?_
       refine ap 2<|aj (aA (us:=c.qc) aD rfl rfl (kn _) (nn _) rfl) ?_
       refine ap 2<|aj (aA (us:=d.qc) aD rfl rfl (kn _) (nn _) rfl) ?_
       refine aj (am rfl (Ds hc hd (y2.2.1.elim as_) (y2.2.2.elim at_)))<|aj (aK (r:=s.n*(aV c.qq d.qq)) rfl rfl (dg (by omega) (by omega)) rfl) ?_
       refine bk<|az<|ar<|an ?_
       have y1:=pF (c:=c) (d:=d) (by simpa using hc1) es et
       have z1:=y2.1
       rw[y1.1,y1.2,z1]
       exact aq (aE (aE ae))
      ·have y2:=yV (c:=c) (d:=d) gs gt (.inr rfl) q2 q3 hc2 hc12
       have qb:=uI s t
       refine ao<|aa<|aa<|ab<|al 1<|ah (aA (us:=s.cl) dx rfl rfl (tr _) (sK _) rfl) ?_
       refine al 1<|ah (aA (us:=t.cl) dx rfl rfl (tr _) (sK _) rfl) ?_
       refine ah (am rfl (OP gs gt y2.1))<|ag<|aa<|ab<|ag ?_
       refine aw rfl (fun hc13=>?_) (fun hc13=>?_)
       ·refine aa<|ab<|al 1<|ah (dD (r:= -s.vcmp t) rfl (mN qb) rfl) ?_
        refine ag<|an ?_
        have y1:=pF (c:=c) (d:=d) (by simpa using hc1) es et
        have z0: ¬s.vcmp t=0:=by simpa using hc13
        have z1:=y2.2
        rw[if_neg z0,show(-1)*s.vcmp t= -s.vcmp t from by omega] at z1
        rw[y1.1,y1.2,z1]
        exact aq (aE (aE ae))
       ·refine ao<|aa<|ab<|ah (aA (us:=aB c) bd rfl rfl (bv _) (ak _) rfl) ?_
        refine ah (aA (us:=aB d) bd rfl rfl (bv _) (ak _) rfl) ?_
        refine ah (am rfl (PD hc hd))<|ag<|an ?_
        have y1:=pF (c:=c) (d:=d) (by simpa using hc1) es et
        have z0:s.vcmp t=0:=by simpa using hc13
        have z1:=y2.2
        rw[if_pos z0] at z1
        rw[y1.1,y1.2,z1]
        exact aq (aE (aE ae))
theorem Se {c d:Cv}(vc:CvV c) (vd:CvV d):Ok Tryz.prog 29 [.a (aB c),.a (aB d)] [.c (.i .i64 (rd c d)),.c (.i .i64 (vf c d))]:=Wd vc vd rfl rfl
theorem VC {c d:Cv}(vc:CvV c) (vd:CvV d):Ok Tryz.prog 30 [.a (aB c),.a (aB d)] [.c (.i .i64 (rd c d)),.c (.i .i64 (vf c d))]:=V6 vc vd rfl rfl
theorem NW {c:Cv}(vc:CvV c) (d:Cv): -1≤rd c d∧rd c d≤1:=by
 unfold rd
 split
 ·exact Lh (kE vc.g (cH vc.g)) (.inr rfl)
 ·decide
theorem Nt {X Y:List CellD}(lX:X.length=17) (lY:Y.length=17) (hA:Ok Tryz.prog 10 [] [.c (.b true)]) {L:List Cv}(lL:L.length≤12) (vL: ∀d∈L,CvV d) (hC:Ok Tryz.prog 12 [.a X,.a Y] [.c (.s ((L).length) (aI aB (L)))]):Ok Tryz.prog 7 [.a (X),.a (Y)] [.c (.b true)]:=by
 refine Ok.fn Tryz.func7 72 [.tmp 4] rfl<|aa<|ab<|ag<|aa<|aa<|ab<|ah (am rfl (hA))<|ag<|aP rfl<|ao<|aa<|ab<|ah (aA (us:=X) n8 rfl rfl (by rw[List.drop_zero];exact List.take_of_length_le (Nat.le_of_eq (lX))) (lX) rfl) ?_
 refine ah (aA (us:=Y) n8 rfl rfl (by rw[List.drop_zero];exact List.take_of_length_le (Nat.le_of_eq (lY))) (lY) rfl) ?_
 refine ah (am rfl (hC))<|ag<|aa<|aa<|ab<|ag<|aJ<|bD (ι:={n:Nat // n≤L.length}) (fun i=>⟨72,[(5,.v (.c (.s ((L).length) (aI aB (L))))),(21,.v (.c (.s ((L).length) (aI aB (L))))),(22,.v (.c (.i .i64 (L.length:Int)))),(23,.v (.c (.i .i64 (i.1:Int))))],[]⟩) (fun i=>L.length-i.1) ⟨0,Nat.zero_le _⟩ (aM ⟨rfl,rfl,rfl,rfl,trivial⟩ trivial rfl) ?_
 rintro⟨n,h2⟩
 replace h2:n≤L.length:=h2
 show Dw _ _ ⟨72,[(5,.v (.c (.s ((L).length) (aI aB (L))))),(21,.v (.c (.s ((L).length) (aI aB (L))))),(22,.v (.c (.i .i64 (L.length:Int)))),(23,.v (.c (.i .i64 (n:Int))))],[]⟩ _
 refine aa<|ab<|ag<|aa ?_
 refine aw rfl (fun hc1=>?_) (fun hc1=>?_)
 ·have g1:n<L.length:=by have:=of_decide_eq_true hc1;omega
  have vc:=vL _ (b8 (d:=bn) g1)
  refine ao<|aa<|aJ<|aa<|ab<|ah (aW (us:=aB (L.getD n bn)++aI aB (L.drop (n+1))) eu rfl rfl (by omega) (aG ak _) (bz ak (bi g1)) rfl) ?_
  refine ah (bb (us:=aB (L.getD n bn)) bd rfl (df _ _) (ak _) rfl) ?_
  refine aC (ai eo rfl) rfl<|bL (aZ bd rfl rfl rfl (ak _) rfl rfl) ?_
  refine ar<|aa<|ab<|ag<|aJ<|bD (ι:={j:Nat // j≤L.length}) (fun i=>⟨72,[(5,.v (.c (.s ((L).length) (aI aB (L))))),(7,.p 7 0),(21,.v (.c (.s ((L).length) (aI aB (L))))),(22,.v (.c (.i .i64 (L.length:Int)))),(23,.v (.c (.i .i64 (n:Int)))),(27,.v (.c (.s ((L).length) (aI aB (L))))),(28,.v (.c (.i .i64 (L.length:Int)))),(29,.v (.c (.i .i64 (i.1:Int))))],[(7,48,aB (L.getD n bn))]⟩) (fun i=>L.length-i.1) ⟨0,Nat.zero_le _⟩ (aM ⟨rfl,rfl,rfl,rfl,rfl,rfl,rfl,rfl,trivial⟩ ⟨rfl,trivial⟩ rfl) ?_
  rintro⟨j,h3⟩
  replace h3:j≤L.length:=h3
  show Dw _ _ ⟨72,[(5,.v (.c (.s ((L).length) (aI aB (L))))),(7,.p 7 0),(21,.v (.c (.s ((L).length) (aI aB (L))))),(22,.v (.c (.i .i64 (L.length:Int)))),(23,.v (.c (.i .i64 (n:Int)))),(27,.v (.c (.s ((L).length) (aI aB (L))))),(28,.v (.c (.i .i64 (L.length:Int)))),(29,.v (.c (.i .i64 (j:Int))))],[(7,48,aB (L.getD n bn))]⟩ _
  refine aa<|ab<|ag<|aa ?_
  refine aw rfl (fun hc2=>?_) (fun hc2=>?_)
  ·have g2:j<L.length:=by have:=of_decide_eq_true hc2;omega
   have vd:=vL _ (b8 (d:=bn) g2)
   have b1:=NW vc (L.getD j bn)
   refine ao<|aa<|aJ<|aa<|ab<|ah (aW (us:=aB (L.getD j bn)++aI aB (L.drop (j+1))) eu rfl rfl (by omega) (aG ak _) (bz ak (bi g2)) rfl) ?_
   refine ah (bb (us:=aB (L.getD j bn)) bd rfl (df _ _) (ak _) rfl) ?_
   refine aC (ai eo rfl) rfl<|bL (aZ bd rfl rfl rfl (ak _) rfl rfl) ?_
   refine ar<|aa<|ab<|ah (aA (us:=aB (L.getD n bn)) bd rfl rfl (by rw[List.drop_zero];exact List.take_of_length_le (Nat.le_of_eq (ak _))) (ak _) rfl) ?_
   refine ah (aA (us:=aB (L.getD j bn)) bd rfl rfl (by rw[List.drop_zero];exact List.take_of_length_le (Nat.le_of_eq (ak _))) (ak _) rfl) ?_
   refine ah (am rfl (Se vc vd))<|ag<|aa<|ab<|ah (aA (us:=aB (L.getD n bn)) bd rfl rfl (by rw[List.drop_zero];exact List.take_of_length_le (Nat.le_of_eq (ak _))) (ak _) rfl) ?_
   refine ah (aA (us:=aB (L.getD j bn)) bd rfl rfl (by rw[List.drop_zero];exact List.take_of_length_le (Nat.le_of_eq (ak _))) (ak _) rfl) ?_
   refine ah (am rfl (VC vc vd))<|ag<|aa<|ab<|ah (aA (us:=aB (L.getD j bn)) bd rfl rfl (by rw[List.drop_zero];exact List.take_of_length_le (Nat.le_of_eq (ak _))) (ak _) rfl) ?_
   refine ah (aA (us:=aB (L.getD n bn)) bd rfl rfl (by rw[List.drop_zero];exact List.take_of_length_le (Nat.le_of_eq (ak _))) (ak _) rfl) ?_
   refine ah (am rfl (Se vd vc))<|ag<|aa<|ab<|al 2<|ah (bQ (c:=false) (iP rfl) (by simp)) ?_
   refine al 3<|ah (bQ (c:=false) (iP rfl) (by simp)) ?_
   refine al 4<|ah (dD (r:= -rd (L.getD n bn) (L.getD j bn)) rfl (mN b1) rfl) ?_
   refine ah (bQ (c:=false) (iP rfl) (by rw[(B3 vc.g vd.g).1];simp)) ?_
   refine al 4<|ah (bQ (c:=false) (iP rfl) (by rw[(B3 vc.g vd.g).2];simp)) ?_
   refine ag<|aP rfl<|ao<|ab<|ah (aK (r:=((j+1:Nat):Int)) rfl rfl ((aQ (by omega) (by omega)).trans (congrArg some (by omega))) rfl) ?_
   refine ag ?_
   exact⟨⟨j+1,g2⟩,aM ⟨rfl,rfl,rfl,rfl,rfl,rfl,rfl,rfl,trivial⟩ ⟨rfl,trivial⟩ rfl,by show L.length-(j+1)<L.length-j;omega⟩
  ·refine bj<|ab<|ah (aK (r:=((n+1:Nat):Int)) rfl rfl ((aQ (by omega) (by omega)).trans (congrArg some (by omega))) rfl) ?_
   refine ag ?_
   exact⟨⟨n+1,g1⟩,aM ⟨rfl,rfl,rfl,rfl,trivial⟩ trivial rfl,by show L.length-(n+1)<L.length-n;omega⟩
 ·refine bj<|aa<|ab<|ag<|an ?_
  exact aq (aE ae)
end Go.Proofs.YtkmdgigkbhmilaaGreat
namespace Go.Proofs.YtkmdgigkbhmilaaGreat
open Go.ChangeShapes Go.WideShapes Go.ChangeAt Go.RowKit
theorem El {K U A B C D E F K' U' A' B' C' D' E' F' N:Int}(w0:0≤K∧K≤255) (w1:0≤U∧U≤255) (w2: -128≤A∧A≤127) (w3: -128≤B∧B≤127) (w4: -128≤C∧C≤127) (w5: -128≤D∧D≤127) (w6: -128≤E∧E≤127) (w7: -128≤F∧F≤127) (w8:0≤K'∧K'≤255) (w9:0≤U'∧U'≤255) (w10: -128≤A'∧A'≤127) (w11: -128≤B'∧B'≤127) (w12: -128≤C'∧C'≤127) (w13: -128≤D'∧D'≤127) (w14: -128≤E'∧E'≤127) (w15: -128≤F'∧F'≤127) (w16:0≤N∧N≤255) {K2 U2 A2 B2 C2 D2 E2 F2 K'2 U'2 A'2 B'2 C'2 D'2 E'2 F'2 N2:Int}(v0:0≤K2∧K2≤255) (v1:0≤U2∧U2≤255) (v2: -128≤A2∧A2≤127) (v3: -128≤B2∧B2≤127) (v4: -128≤C2∧C2≤127) (v5: -128≤D2∧D2≤127) (v6: -128≤E2∧E2≤127) (v7: -128≤F2∧F2≤127) (v8:0≤K'2∧K'2≤255) (v9:0≤U'2∧U'2≤255) (v10: -128≤A'2∧A'2≤127) (v11: -128≤B'2∧B'2≤127) (v12: -128≤C'2∧C'2≤127) (v13: -128≤D'2∧D'2≤127) (v14: -128≤E'2∧E'2≤127) (v15: -128≤F'2∧F'2≤127) (v16:0≤N2∧N2≤255):Ok Tryz.prog 7 [.a (([.i .u8 K]++[.i .u8 U]++[.i .i8 A]++[.i .i8 B]++[.i .i8 C]++[.i .i8 D]++[.i .i8 E]++[.i .i8 F])++([.i .u8 K']++[.i .u8 U']++[.i .i8 A']++[.i .i8 B']++[.i .i8 C']++[.i .i8 D']++[.i .i8 E']++[.i .i8 F'])++[.i .u8 N]),.a (([.i .u8 K2]++[.i .u8 U2]++[.i .i8 A2]++[.i .i8 B2]++[.i .i8 C2]++[.i .i8 D2]++[.i .i8 E2]++[.i .i8 F2])++([.i .u8 K'2]++[.i .u8 U'2]++[.i .i8 A'2]++[.i .i8 B'2]++[.i .i8 C'2]++[.i .i8 D'2]++[.i .i8 E'2]++[.i .i8 F'2])++[.i .u8 N2])] [.c (.b true)]:=by
 obtain⟨L,vL,lL,hC⟩:=LX rfl rfl (kr w0 w1 w2 w3 w4 w5 w6 w7 w8 w9 w10 w11 w12 w13 w14 w15 w16) (kr v0 v1 v2 v3 v4 v5 v6 v7 v8 v9 v10 v11 v12 v13 v14 v15 v16)
 exact Nt rfl rfl kh lL vL hC
set_option maxRecDepth 100000 in
theorem xw (os:Os) (started:os.Started) (H:Type) (enc:TypeId×Value→H):
 ReturnsInHanded {} Tryz.checked os 7 .any (Rows.monotoneLeftSpec.pre6 enc Tryz.prog Tryz.f7 Rows.monotoneLeftRow.domain false) (Rows.monotoneLeftSpec.post enc Tryz.prog Tryz.f7 false true false false):=by
 refine returnsInHanded_of_change (C:=Tryz.checked) own started (by kernel_rfl) Tryz.func7
  (ChangeSpec.witness6 (enc:=enc) (C:=Tryz.checked) false ⟨#[],#[.agg #[.int .u8 0,.int .u8 0,.int .i8 0,.int .i8 0,.int .i8 0,.int .i8 0,.int .i8 0,.int .i8 0,.int .u8 0,.int .u8 0,.int .i8 0,.int .i8 0,.int .i8 0,.int .i8 0,.int .i8 0,.int .i8 0,.int .u8 0],.agg #[.int .u8 0,.int .u8 0,.int .i8 0,.int .i8 0,.int .i8 0,.int .i8 0,.int .i8 0,.int .i8 0,.int .u8 0,.int .u8 0,.int .i8 0,.int .i8 0,.int .i8 0,.int .i8 0,.int .i8 0,.int .i8 0,.int .u8 0]],[]⟩ 8 (by kernel_rfl) (by kernel_rfl) (by kernel_rfl) (by kernel_rfl)) ?_
 intro W base args ds gs before hval0 hW hcnd _
 have hval: ∀(j:Nat) t v,Tryz.f7.params[j]? =some t→args[j]? =some v→Value.okWide Tryz.prog W .any base t v:=hval0
 have hW':=hW
 obtain⟨p,q,hA0,hV,rfl,hfz,hnd⟩:=hW
 have hA:DataW.TrodAll enc Tryz.prog W 0 (fun _=>true) true Tryz.f7.params.toList args.toList ds p:=hA0
 rw[Tryz.params7] at hA hval
 obtain⟨v0,vs0,d0,ds0,p0,q0,hargs,rfl,rfl,h0,r0⟩:=trodAll_cons hA
 obtain⟨v1,vs1,d1,ds1,p1,q1,rfl,rfl,rfl,h1,r1⟩:=trodAll_cons r0
 obtain⟨rfl,rfl,rfl⟩:=trodAll_nil r1
 obtain rfl:args= #[v0,v1]:=by cases args;simp_all
 obtain⟨rfl,rfl⟩:=trodVars_none hV
 obtain⟨a0,rfl,_⟩:=okWide_struct Tryz.underlying26 (hval 0 26 v0 rfl rfl)
 have k0:=h0
 have lt0: ∀x∈p0,x.block<W.heap.size:=by obtain⟨m,hm⟩:=k0;exact DataW.trod_lt m _ _ _ hm
 obtain⟨a1,rfl,_⟩:=okWide_struct Tryz.underlying26 (hval 1 26 v1 rfl rfl)
 have k1:=h1
 have lt1: ∀x∈p1,x.block<W.heap.size:=by obtain⟨m,hm⟩:=k1;exact DataW.trod_lt m _ _ _ hm
 obtain⟨y00,y01,y02,y03,y04,y05,y06,y07,y08,y09,y010,y011,y012,y013,y014,y015,y016,g00,g01,g02,g03,g04,g05,g06,g07,g08,g09,g010,g011,g012,g013,g014,g015,g016,hr0⟩:=jc (show DataW.trod enc Tryz.prog W 0 _ _ h0.choose 26 a0.toList=some _ from h0.choose_spec)
 obtain⟨y10,y11,y12,y13,y14,y15,y16,y17,y18,y19,y110,y111,y112,y113,y114,y115,y116,g10,g11,g12,g13,g14,g15,g16,g17,g18,g19,g110,g111,g112,g113,g114,g115,g116,hr1⟩:=jc (show DataW.trod enc Tryz.prog W 0 _ _ h1.choose 26 a1.toList=some _ from h1.choose_spec)
 clear hA0 hval0
 refine(wF (El g00 g01 g02 g03 g04 g05 g06 g07 g08 g09 g010 g011 g012 g013 g014 g015 g016 g10 g11 g12 g13 g14 g15 g16 g17 g18 g19 g110 g111 g112 g113 g114 g115 g116) (RdL.cons ⟨a0,rfl,hr0⟩ (RdL.cons ⟨a1,rfl,hr1⟩ RdL.nil))).mono fun e W' ⟨he,bel⟩=>?_
 subst he
 exact⟨_,rfl,_,_,_,[],_,[],hW',trodAll_mk1 (shut_bool Tryz.underlying4 _),(trodAll_cons_mk (Below.trod jq (by kernel_rfl) (of_decide_eq_true (by kernel_rfl)) k0 bel lt0) (trodAll_cons_mk (Below.trod jq (by kernel_rfl) (of_decide_eq_true (by kernel_rfl)) k1 bel lt1) trodAll_mk0)),rfl,bel.frame _,fun h=>by cases h⟩
theorem left11_proved:Rows.MonotoneLeftSaid:=
 OpenClaim.holds_of_wide 7 Tryz.f7 rfl rfl rfl rfl rfl rfl rfl ⟨rfl,rfl,rfl,rfl,rfl⟩ rfl rfl rfl rfl rfl GU Tryz.func7 Gl
  (of_decide_eq_true (by kernel_rfl)) (by unfold Func.isWrapper;first|(rw[if_pos (by decide+kernel)];kernel_rfl)|(rw[if_neg (by decide+kernel)];exact⟨rfl,rfl⟩))
  (fun os started H enc _=>xw os started H enc)
end Go.Proofs.YtkmdgigkbhmilaaGreat
