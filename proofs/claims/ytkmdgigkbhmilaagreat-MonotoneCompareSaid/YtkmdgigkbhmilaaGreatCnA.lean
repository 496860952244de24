/-MonotoneCompare:what the row says of the program itself. No condition. -/
import Derived.Test.YtkmdgigkbhmilaaGreatNbV
namespace Go.Proofs.YtkmdgigkbhmilaaGreat
open Go.ChangeShapes Go.WideShapes Go.ChangeAt Go.RowKit
theorem zm:Tryz.pinned.checked.prog.funcNamed Rows.monotoneCompareRow.func=some 6:=by kernel_rfl
theorem Az:joinedFacts Tryz.pinned.checked.prog 6 Tryz.f6 Rows.monotoneCompareSpec Rows.monotoneCompareRow=true:=by kernel_rfl
end Go.Proofs.YtkmdgigkbhmilaaGreat
namespace Go.Proofs.YtkmdgigkbhmilaaGreat
open Go Go.RowKit
section
variable {k:Ci}{p:Pt}(hk:GK k) (hp:GP p)
include hk hp
omit hk in
omit hk in
omit hk in
omit hk hp in
omit hk hp in
omit hk in
omit hk in
omit hk in
omit hk hp in
omit hk in
omit hk in
end
theorem M7 {l m:Ln}{p q r s:Pt}:i6 (.seg l p q) (.seg m r s)=0:=by
 rw[um (c:=.seg l p q) (d:=.seg m r s) (decide_eq_false (Int.lt_irrefl 0)) (decide_eq_false (Int.lt_irrefl 0))]
 show-0*aV 0 0=0
 rw[Int.neg_zero,Int.zero_mul]
section
variable {c d:Cv}{s t:Slp}{side:Int}(gs:SlG s) (gt:SlG t)
include gs
include gt
set_option linter.unusedSectionVars false
variable (hs:side=1∨side= -1) (q1:decide (rk s side<rk t side)=false) (q2:decide (rk s side>rk t side)=false)
include hs q1 q2
set_option linter.unusedSectionVars true
end
theorem In (p q:Pt): -1≤cP p q∧cP p q≤1:=OD p q
theorem Ot {c:Cv}(vc:CvV c) (d:Cv): -1≤dK c d∧dK c d≤1:=by
 unfold dK
 have h1:=In c.p d.p
 have h2:=In c.q d.q
 have h3:=E8 vc d
 split
 ·exact h1
 ·split
  ·exact h3
  ·exact h2
def T3 (a b c:Int):Prop:=(a≤0→b≤0→c≤0)∧(a<0→b≤0→c<0)∧(a≤0→b<0→c<0)
theorem ye (x y z:Re):T3 (bR (x-y)) (bR (y-z)) (bR (x-z)):=by
 have e:x-z=(x-y)+(y-z):=Re.ext fun n=>by simp only[bt,bp]<;>grind
 rw[e]
 generalize x-y=X
 generalize y-z=Y
 have h1:=cF X
 have h2:=cF Y
 unfold T3
 by_cases a:bR X=0
 ·rw[gN a];omega
 ·by_cases b:bR Y=0
  ·rw[dy _ b];omega
  ·by_cases c:bR X=bR Y
   ·rw[gJ c];omega
   ·omega
theorem AA (x y z:Rat):T3 (aV x y) (aV y z) (aV x z):=by
 rw[lG,lG,lG];exact ye _ _ _
theorem ET (x y z:Rat):T3 (-aV x y) (-aV y z) (-aV x z):=by
 have h:=AA z y x
 rw[n7 y z,n7 x y,n7 x z] at h
 unfold T3 at h⊢
 omega
section
variable {p q r:Pt}(hp:0≤p.c) (hq:0≤q.c) (hr:0≤r.c)
include hp hq hr
theorem OE:T3 (cP p q) (cP q r) (cP p r):=by
 have h1:T3 (cx p q) (cx q r) (cx p r):=by rw[iQ hp hq,iQ hq hr,iQ hp hr];exact ye _ _ _
 have h2:T3 (cy p q) (cy q r) (cy p r):=by rw[tZ hp hq,tZ hq hr,tZ hp hr];exact ye _ _ _
 have h3:T3 (cx r q) (cx q p) (cx r p):=by rw[iQ hr hq,iQ hq hp,iQ hr hp];exact ye _ _ _
 rw[fe hq hr,fe hp hq,fe hp hr] at h3
 have e: ∀(a b:Pt),cP a b=if cx a b≠0 then cx a b else cy a b:=fun _ _=>rfl
 rw[e,e,e]
 unfold T3 at*
 by_cases a:cx p q=0
 ·by_cases b:cx q r=0
  ·have c:cx p r=0:=by omega
   rw[if_neg (by omega),if_neg (by omega),if_neg (by omega)];exact h2
  ·rw[if_neg (by omega),if_pos b,if_pos (by omega)];omega
 ·by_cases b:cx q r=0
  ·rw[if_pos a,if_neg (by omega),if_pos (by omega)];omega
  ·rw[if_pos a,if_pos b]
   by_cases c:cx p r=0
   ·rw[if_neg (by omega)];omega
   ·rw[if_pos c];exact h1
end
theorem Dy (c:Cv):c.bnd=0∨c.bnd=1∨c.bnd= -1:=by have:=th c;omega
theorem N5 (c d e:Cv):T3 (i6 c d) (i6 d e) (i6 c e):=by
 have h1:=AA c.qq d.qq e.qq
 have h2:=ET c.qq d.qq e.qq
 have hc:=Dy c
 have hd:=Dy d
 have he:=Dy e
 unfold i6
 by_cases a:c.bnd=d.bnd
 ·by_cases b:d.bnd=e.bnd
  ·rw[if_neg (by omega),if_neg (by omega),if_neg (by omega),if_neg (by omega),if_neg (by omega),if_neg (by omega),←a]
   rcases hc with g|g|g<;>rw[g]
   ·unfold T3;omega
   ·unfold T3 at h2⊢;omega
   ·unfold T3 at h1⊢;omega
  ·rw[if_neg (show ¬c.bnd<d.bnd by omega),if_neg (show ¬c.bnd>d.bnd by omega),←a]
   rw[←a] at b
   unfold T3
   split<;>(try split)<;>omega
 ·by_cases b:d.bnd=e.bnd
  ·rw[if_neg (show ¬d.bnd<e.bnd by omega),if_neg (show ¬d.bnd>e.bnd by omega),←b]
   unfold T3
   split<;>(try split)<;>omega
  ·unfold T3
   split<;>(try split)<;>(try split)<;>(try split)<;>(try split)<;>(try split)<;>omega
def Slp.val:Slp→Re
 | .vl a b e=>dX a b e
 |_=>Re.of 0
theorem n9 {s t:Slp}(gs:SlG s) (gt:SlG t) (h1:s.n=0) (h2:t.n=0):s.vcmp t=bR (s.val-t.val):=by
 obtain⟨a,b,e,rfl⟩:=tU gs h1
 obtain⟨x,y,z,rfl⟩:=tU gt h2
 exact jH (gs.sz _ _ _ rfl).c0 (gt.sz _ _ _ rfl).c0
def tW (c d:Cv) (s t:Slp):Int:=
 match s with
 | .vt=>0
 | .st n=>n*aV c.qq d.qq
 | .vl _ _ _=>if s.vcmp t=0 then i6 c d else 1*s.vcmp t
theorem CP (c d:Cv) (s t:Slp):o6 c d s t 1=if rk s 1<rk t 1 then-1 else if rk s 1>rk t 1 then 1 else tW c d s t:=rfl
theorem Mt {c d e:Cv}{s t u:Slp}(gs:SlG s) (gt:SlG t) (gu:SlG u) (h1:s.n=t.n) (h2:t.n=u.n):T3 (tW c d s t) (tW d e t u) (tW c e s u):=by
 cases s with
 |vt=>
  have:t=.vt:=by cases t with
   |vt=>rfl
   |st n=>have:=gt.st n rfl;simp only[Slp.n] at h1;omega
   |vl a b e=>simp only[Slp.n] at h1;omega
  subst this
  show T3 0 0 0
  unfold T3;omega
 |st n=>
  have hn:=gs.st n rfl
  have:t=.st n:=by cases t with
   |vt=>simp only[Slp.n] at h1;omega
   |st m=>simp only[Slp.n] at h1;rw[h1]
   |vl a b e=>simp only[Slp.n] at h1;omega
  subst this
  show T3 (n*aV c.qq d.qq) (n*aV d.qq e.qq) (n*aV c.qq e.qq)
  rcases hn with g|g<;>subst g
  ·have:=AA c.qq d.qq e.qq
   rw[Int.one_mul,Int.one_mul,Int.one_mul];exact this
  ·have:=ET c.qq d.qq e.qq
   unfold T3 at this⊢;omega
 |vl a b x=>
  have e1:=n9 gs gt rfl h1.symm
  have e2:=n9 gt gu h1.symm (h2.symm.trans h1.symm)
  have e3:=n9 gs gu rfl (h2.symm.trans h1.symm)
  obtain⟨a',b',x',rfl⟩:=tU gt h1.symm
  have h:=ye (Slp.vl a b x).val (Slp.vl a' b' x').val u.val
  have hr:=ye u.val (Slp.vl a' b' x').val (Slp.vl a b x).val
  rw[j8 (Slp.vl a' b' x').val u.val,j8 (Slp.vl a b x).val (Slp.vl a' b' x').val,j8 (Slp.vl a b x).val u.val] at hr
  rw[←e1,←e2,←e3] at h hr
  have hc:=N5 c d e
  show T3 (if (Slp.vl a b x).vcmp (.vl a' b' x')=0 then i6 c d else 1*(Slp.vl a b x).vcmp (.vl a' b' x')) (if (Slp.vl a' b' x').vcmp u=0 then i6 d e else 1*(Slp.vl a' b' x').vcmp u) (if (Slp.vl a b x).vcmp u=0 then i6 c e else 1*(Slp.vl a b x).vcmp u)
  generalize (Slp.vl a b x).vcmp (.vl a' b' x')=v1 at*
  generalize (Slp.vl a' b' x').vcmp u=v2 at*
  generalize (Slp.vl a b x).vcmp u=v3 at*
  unfold T3 at*
  by_cases z1:v1=0
  ·by_cases z2:v2=0
   ·have z3:v3=0:=by omega
    rw[if_pos z1,if_pos z2,if_pos z3];exact hc
   ·rw[if_pos z1,if_neg z2,if_neg (by omega)];omega
  ·by_cases z2:v2=0
   ·rw[if_neg z1,if_pos z2,if_neg (by omega)];omega
   ·rw[if_neg z1,if_neg z2]
    by_cases z3:v3=0
    ·rw[if_pos z3];omega
    ·rw[if_neg z3];omega
theorem DD {s:Slp}:rk s 1=s.n:=by cases s<;>rfl
theorem Qe {c d e:Cv}{s t u:Slp}(gs:SlG s) (gt:SlG t) (gu:SlG u):T3 (o6 c d s t 1) (o6 d e t u 1) (o6 c e s u 1):=by
 rw[CP,CP,CP,DD,DD,DD]
 by_cases a:s.n=t.n
 ·by_cases b:t.n=u.n
  ·rw[if_neg (by omega),if_neg (by omega),if_neg (by omega),if_neg (by omega),if_neg (by omega),if_neg (by omega)]
   exact Mt gs gt gu a b
  ·rw[if_neg (show ¬s.n<t.n by omega),if_neg (show ¬s.n>t.n by omega),a]
   unfold T3
   split<;>(try split)<;>omega
 ·by_cases b:t.n=u.n
  ·rw[if_neg (show ¬t.n<u.n by omega),if_neg (show ¬t.n>u.n by omega),←b]
   unfold T3
   split<;>(try split)<;>omega
  ·unfold T3
   split<;>(try split)<;>(try split)<;>(try split)<;>(try split)<;>(try split)<;>omega
section
variable {c d e:Cv}(hc:CvV c) (hd:CvV d) (he:CvV e)
include hc hd
theorem GF:dK d c= -dK c d:=by
 have h1:=fQ (b9 (cn hc.g)) (b9 (cn hd.g))
 have h2:=fQ (b9 (cH hc.g)) (b9 (cH hd.g))
 have h3:=(wj hc.g hd.g).1
 unfold dK
 by_cases a:cP c.p d.p=0
 ·rw[if_neg (show ¬cP d.p c.p≠0 by omega),if_neg (show ¬cP c.p d.p≠0 by omega)]
  by_cases b:jl c d=0
  ·rw[if_neg (show ¬jl d c≠0 by omega),if_neg (show ¬jl c d≠0 by omega)];exact h2
  ·rw[if_pos (show jl d c≠0 by omega),if_pos b];exact h3
 ·rw[if_pos (show cP d.p c.p≠0 by omega),if_pos a];exact h1
include he
theorem Nw (h1:dK c d≤0) (h2:dK d e≤0):dK c e≤0:=by
 have p1:=b9 (cn hc.g)
 have p2:=b9 (cn hd.g)
 have p3:=b9 (cn he.g)
 have hP:=OE p1 p2 p3
 have hQ:=OE (b9 (cH hc.g)) (b9 (cH hd.g)) (b9 (cH he.g))
 have hB:=Qe (c:=c) (d:=d) (e:=e) (kE hc.g (cn hc.g)) (kE hd.g (cn hd.g)) (kE he.g (cn he.g))
 unfold dK jl at*
 by_cases a:cP c.p d.p=0
 ·by_cases b:cP d.p e.p=0
  ·rw[if_neg (by omega),if_pos a] at h1
   rw[if_neg (by omega),if_pos b] at h2
   by_cases g:cP c.p e.p=0
   ·rw[if_neg (by omega),if_pos g]
    generalize o6 c d (c.slp c.p) (d.slp d.p) 1=r1 at*
    generalize o6 d e (d.slp d.p) (e.slp e.p) 1=r2 at*
    generalize o6 c e (c.slp c.p) (e.slp e.p) 1=r3 at*
    unfold T3 at hB hQ
    split at h1<;>split at h2<;>split<;>omega
   ·rw[if_pos g];exact hP.1 (by omega) (by omega)
  ·rw[if_pos b] at h2
   have:=hP.2.2 (by omega) (by omega)
   rw[if_pos (by omega)];omega
 ·rw[if_pos a] at h1
  have h2':cP d.p e.p≤0:=by
   by_cases b:cP d.p e.p=0
   ·omega
   ·rw[if_pos b] at h2;exact h2
  have:=hP.2.1 (by omega) h2'
  rw[if_pos (by omega)];omega
end
theorem fa {x y:Re}(h:bR x=0) (g:bR y=0):bR (x+y)=0:=by rw[gN h,g]
theorem fz (y:Re) {x:Re}(h:bR x=0):bR (y*x)=0:=by rw[cj,h,Int.mul_zero]
theorem gW {x:Re}(h:bR x=0):bR (-x)=0:=by rw[dz,h];rfl
theorem y7 {x y:Rat}(h:bR (Re.of x-Re.of y)=0):x=y:=by
 rw[←lG] at h
 have:aV (x-y) 0=0:=by rw[mw];exact h
 have:=fu.1 this
 grind
theorem OL {x y:Re}(h:bR (x*y)=0) (hx:bR x≠0):bR y=0:=by
 rw[cj] at h
 exact(Int.mul_eq_zero.1 h).resolve_left hx
theorem rQ {p q:Pt}(hp:GP p) (hq:GP q) (h:cP p q=0):bR (pX p-pX q)=0∧bR (pY p-pY q)=0:=by
 obtain⟨a,b⟩:=gC.1 h
 rw[iQ (b9 hp) (b9 hq)] at a
 rw[tZ (b9 hp) (b9 hq)] at b
 exact⟨a,b⟩
theorem F4 {l m:Ln}{f t u v:Pt}(vc:CvV (.seg l f t)) (vd:CvV (.seg m u v)) (hp:cP f u=0) (hq:cP t v=0):
 l.a*m.b=l.b*m.a∧l.a*m.c=l.c*m.a∧l.b*m.c=l.c*m.b:=by
 have hf:=vc.g.2.1
 have ht:=vc.g.2.2
 have hu:=vd.g.2.1
 have hv:=vd.g.2.2
 have s1:d9 l f=0:=by have:=vc.sp;simpa [Cv.supp,Cv.p] using this
 have s2:d9 l t=0:=by have:=vc.sq;simpa [Cv.supp,Cv.q] using this
 have s3:d9 m u=0:=by have:=vd.sp;simpa [Cv.supp,Cv.p] using this
 have s4:d9 m v=0:=by have:=vd.sq;simpa [Cv.supp,Cv.q] using this
 rw[mx hf] at s1
 rw[mx ht] at s2
 rw[mx hu] at s3
 rw[mx hv] at s4
 obtain⟨x1,y1⟩:=rQ hf hu hp
 obtain⟨x2,y2⟩:=rQ ht hv hq
 have hne:cP f t≠0:=vc.ne
 have eX:bR (Re.of (l.a*m.b-l.b*m.a)*(pX t-pX f))=0:=by
  rw[show Re.of (l.a*m.b-l.b*m.a)*(pX t-pX f)=(Re.of m.b*sP l t+ -(Re.of m.b*sP l f))+(-(Re.of l.b*sP m v)+(Re.of l.b*sP m u+(-(Re.of (l.b*m.a)*(pX t-pX v))+(Re.of (l.b*m.a)*(pX f-pX u)+(-(Re.of (l.b*m.b)*(pY t-pY v))+Re.of (l.b*m.b)*(pY f-pY u)))))) from
   Re.ext fun n=>by unfold sP;simp only[bt,bp,bK,cJ,bT];grind]
  exact fa (fa (fz _ s2) (gW (fz _ s1))) (fa (gW (fz _ s4)) (fa (fz _ s3) (fa (gW (fz _ x2)) (fa (fz _ x1) (fa (gW (fz _ y2)) (fz _ y1))))))
 have eY:bR (Re.of (l.a*m.b-l.b*m.a)*(pY t-pY f))=0:=by
  rw[show Re.of (l.a*m.b-l.b*m.a)*(pY t-pY f)=(-(Re.of m.a*sP l t)+Re.of m.a*sP l f)+(Re.of l.a*sP m v+(-(Re.of l.a*sP m u)+(Re.of (l.a*m.a)*(pX t-pX v)+(-(Re.of (l.a*m.a)*(pX f-pX u))+(Re.of (l.a*m.b)*(pY t-pY v)+ -(Re.of (l.a*m.b)*(pY f-pY u))))))) from
   Re.ext fun n=>by unfold sP;simp only[bt,bp,bK,cJ,bT];grind]
  exact fa (fa (gW (fz _ s2)) (fz _ s1)) (fa (fz _ s4) (fa (gW (fz _ s3)) (fa (fz _ x2) (fa (gW (fz _ x1)) (fa (fz _ y2) (gW (fz _ y1)))))))
 have hD:l.a*m.b-l.b*m.a=0:=by
  rw[cj,dN] at eX eY
  rcases Int.mul_eq_zero.1 eX with g|g
  ·exact fu.1 g
  ·rcases Int.mul_eq_zero.1 eY with e|e
   ·exact fu.1 e
   ·exfalso
    refine hne (gC.2 ⟨?_,?_⟩)
    ·rw[iQ (b9 hf) (b9 ht),j8,g];rfl
    ·rw[tZ (b9 hf) (b9 ht),j8,e];rfl
 refine⟨by grind,y7 ?_,y7 ?_⟩
 ·rw[show Re.of (l.a*m.c)-Re.of (l.c*m.a)=(Re.of m.a*sP l f+ -(Re.of l.a*sP m u))+(-(Re.of (l.a*m.a)*(pX f-pX u))+(-(Re.of (l.a*m.b)*(pY f-pY u))+Re.of (l.a*m.b-l.b*m.a)*pY f)) from
   Re.ext fun n=>by unfold sP;simp only[bt,bp,bK,cJ,bT];grind]
  exact fa (fa (fz _ s1) (gW (fz _ s3))) (fa (gW (fz _ x1)) (fa (gW (fz _ y1)) (by rw[hD,cj,dN,eG,Int.zero_mul])))
 ·rw[show Re.of (l.b*m.c)-Re.of (l.c*m.b)=(Re.of m.b*sP l f+ -(Re.of l.b*sP m u))+(-(Re.of (l.b*m.a)*(pX f-pX u))+(-(Re.of (l.b*m.b)*(pY f-pY u))+ -(Re.of (l.a*m.b-l.b*m.a)*pX f))) from
   Re.ext fun n=>by unfold sP;simp only[bt,bp,bK,cJ,bT];grind]
  exact fa (fa (fz _ s1) (gW (fz _ s3))) (fa (gW (fz _ x1)) (fa (gW (fz _ y1)) (gW (by rw[hD,cj,dN,eG,Int.zero_mul]))))
theorem x6 {x y:Rat}(h:x=y):pf x y=true:=by unfold pf;rw[h,eG];rfl
theorem Lt {x y:Rat}(h:pf x y=true):x=y:=by
 unfold pf at h
 have:=beq_iff_eq.1 h
 rw[lG] at this
 exact y7 this
theorem uN {k:Ci}{p:Pt}(hp:GP p) (h:fT p k.y≠0):bR (dX (nG k p) (gF k p) (zc (gF k p) p.c)*(pY p-Re.of k.y)+(pX p-Re.of k.x))=0:=by
 have hn:=AB hp h
 have hz:p.b2*p.b2*zc p.b2 p.c=p.b2*p.b2*p.c:=by
  by_cases e:p.b2=0
  ·rw[e];grind
  ·rw[fS e]
 have hN:nf k p*((p.a2-k.y)*(p.a2-k.y)-p.b2*p.b2*p.c)=1:=by
  rw[hz] at hn
  unfold nf qV
  rw[hz]
  exact Rat.div_mul_cancel hn
 have h1:nG k p*(p.a2-k.y)+gF k p*p.b2*p.c+(p.a1-k.x)=0:=by
  unfold nG gF
  generalize nf k p=N at hN
  grind
 have h2:nG k p*p.b2+gF k p*(p.a2-k.y)+p.b1=0:=by
  unfold nG gF
  generalize nf k p=N at hN
  grind
 have hr:=ry (b9 hp)
 rw[show dX (nG k p) (gF k p) (zc (gF k p) p.c)=qu (nG k p) (gF k p) p.c from rfl,og]
 unfold pX pY
 rw[og,og]
 generalize nG k p=A at*
 generalize gF k p=B at*
 rw[show(Re.of A+Re.of B*Re.rt p.c)*(Re.of p.a2+Re.of p.b2*Re.rt p.c-Re.of k.y)+(Re.of p.a1+Re.of p.b1*Re.rt p.c-Re.of k.x)=Re.of (B*p.b2)*(Re.rt p.c*Re.rt p.c-Re.of p.c) from
  Re.ext fun n=>by
   simp only[bt,bp,bK,cJ]
   generalize (Re.rt p.c).s n=r
   have h3:(A*p.b2+B*(p.a2-k.y)+p.b1)*r=0:=by rw[h2];grind
   grind]
 exact fz _ hr
theorem Nm {k:Ci}{p:Pt}(op:OnK k p):bR ((pX p-Re.of k.x)*(pX p-Re.of k.x)+(pY p-Re.of k.y)*(pY p-Re.of k.y)-Re.of k.q)=0:=pq op
theorem MU {k d:Ci}{p u:Pt}(op:OnK k p) (ou:OnK d u) (hpu:cP p u=0) (hq:k.q=d.q) (S T:Re) (hST:bR (S-T)=0)
 (h1:bR (S*(pY p-Re.of k.y)+(pX p-Re.of k.x))=0) (h2:bR (T*(pY u-Re.of d.y)+(pX u-Re.of d.x))=0) (hs:bR (pY p-Re.of k.y)=bR (pY u-Re.of d.y)) (hn:bR (pY p-Re.of k.y)≠0):k.x=d.x∧k.y=d.y:=by
 obtain⟨x1,y1⟩:=rQ op.1 ou.1 hpu
 have w1:=Nm op
 have w2:=Nm ou
 have eX:pX p-Re.of k.x-(pX u-Re.of d.x)=(pX p-pX u)+ -(Re.of k.x-Re.of d.x):=Re.ext fun n=>by simp only[bt,bp,bT];grind
 have eY:pY p-Re.of k.y-(pY u-Re.of d.y)=(pY p-pY u)+ -(Re.of k.y-Re.of d.y):=Re.ext fun n=>by simp only[bt,bp,bT];grind
 generalize hX1:pX p-Re.of k.x=X1 at*
 generalize hX2:pX u-Re.of d.x=X2 at*
 generalize hY1:pY p-Re.of k.y=Y1 at*
 generalize hY2:pY u-Re.of d.y=Y2 at*
 have e1:bR ((Re.of 1+S*S)*((Y1-Y2)*(Y1+Y2)))=0:=by
  rw[show(Re.of 1+S*S)*((Y1-Y2)*(Y1+Y2))=((S*Y1-X1)*(S*Y1+X1)+(X1*X1+Y1*Y1-Re.of k.q))+(-((T*Y2-X2)*(T*Y2+X2))+(-(X2*X2+Y2*Y2-Re.of d.q)+(-(Y2*Y2*(S+T))*(S-T)))) from
   Re.ext fun n=>by rw[hq];simp only[bt,bp,bK,cJ,bT];grind]
  exact fa (fa (fz _ h1) w1) (fa (gW (fz _ h2)) (fa (gW w2) (fz _ hST)))
 have e2:bR (Re.of 1+S*S)≠0:=by
  have h3:bR (Re.of 1)=1:=by rw[dN];decide+kernel
  have h4:0≤bR (S*S):=by rw[cj];rcases cF S with g|g|g<;>rw[g]<;>decide
  have:=wy (x:=Re.of 1) (y:=S*S) (by omega) h4
  omega
 have e3:=OL e1 e2
 have e4:bR (Y1+Y2)=bR Y1:=gJ hs
 have e5:bR (Y1-Y2)=0:=by
  rw[cj,e4] at e3
  exact(Int.mul_eq_zero.1 e3).resolve_right hn
 have ky:k.y=d.y:=by
  have:bR (-(Re.of k.y-Re.of d.y))=0:=by rw[eY,gN y1] at e5;exact e5
  rw[dz] at this
  exact y7 (by omega)
 refine⟨?_,ky⟩
 have e6:bR (X1-X2)=0:=by
  rw[show X1-X2=(S*Y1+X1)+(-(T*Y2+X2)+(-(S*(Y1-Y2))+ -(Y2*(S-T)))) from Re.ext fun n=>by simp only[bt,bp,bK,bT];grind]
  exact fa h1 (fa (gW h2) (fa (gW (fz _ e5)) (gW (fz _ hST))))
 have:bR (-(Re.of k.x-Re.of d.x))=0:=by rw[eX,gN x1] at e6;exact e6
 rw[dz] at this
 exact y7 (by omega)
theorem MY {k d:Ci}{p u:Pt}(op:OnK k p) (ou:OnK d u) (hpu:cP p u=0) (hq:k.q=d.q) (h1:fT p k.y=0) (h2:fT u d.y=0) (n1:lH p k.x<0) (n2:lH u d.x<0):k.x=d.x∧k.y=d.y:=by
 obtain⟨x1,y1⟩:=rQ op.1 ou.1 hpu
 rw[lT (ck op)] at h1
 rw[lT (ck ou)] at h2
 rw[kQ (ck op)] at n1
 rw[kQ (ck ou)] at n2
 have w1:=Nm op
 have w2:=Nm ou
 have eX:pX p-Re.of k.x-(pX u-Re.of d.x)=(pX p-pX u)+ -(Re.of k.x-Re.of d.x):=Re.ext fun n=>by simp only[bt,bp,bT];grind
 have eY:pY p-Re.of k.y-(pY u-Re.of d.y)=(pY p-pY u)+ -(Re.of k.y-Re.of d.y):=Re.ext fun n=>by simp only[bt,bp,bT];grind
 generalize hX1:pX p-Re.of k.x=X1 at*
 generalize hX2:pX u-Re.of d.x=X2 at*
 generalize hY1:pY p-Re.of k.y=Y1 at*
 generalize hY2:pY u-Re.of d.y=Y2 at*
 have e1:bR ((X1-X2)*(X1+X2))=0:=by
  rw[show(X1-X2)*(X1+X2)=(X1*X1+Y1*Y1-Re.of k.q)+(-(X2*X2+Y2*Y2-Re.of d.q)+(-(Y1*Y1)+Y2*Y2)) from Re.ext fun n=>by rw[hq];simp only[bt,bp,bK,cJ,bT];grind]
  exact fa w1 (fa (gW w2) (fa (gW (fz _ h1)) (fz _ h2)))
 have c1:=cF X1
 have c2:=cF X2
 have e4:bR (X1+X2)=bR X1:=gJ (by omega)
 have e5:bR (X1-X2)=0:=by
  rw[cj,e4] at e1
  exact(Int.mul_eq_zero.1 e1).resolve_right (by omega)
 constructor
 ·have:bR (-(Re.of k.x-Re.of d.x))=0:=by rw[eX,gN x1] at e5;exact e5
  rw[dz] at this
  exact y7 (by omega)
 ·have e6:bR (Y1-Y2)=0:=by
   rw[show Y1-Y2=Y1+ -Y2 from Re.ext fun n=>by simp only[bt,bp,bT]<;>grind]
   exact fa h1 (gW h2)
  have:bR (-(Re.of k.y-Re.of d.y))=0:=by rw[eY,gN y1] at e6;exact e6
  rw[dz] at this
  exact y7 (by omega)
def Gq (c d:Cv):Bool:=fV c d&&((c.cw==d.cw)&&(cP c.p d.p==0&&cP c.q d.q==0))
theorem KL {c d:Cv}(vc:CvV c) (vd:CvV d) (mc:c.mono=true) (md:d.mono=true) (hp:cP c.p d.p=0) (hq:cP c.q d.q=0) (h:jl c d=0):fV c d=true∧c.cw=d.cw:=by
 unfold jl at h
 rw[if_pos hp,CP,DD,DD] at h
 have hr:(c.slp c.p).n=(d.slp d.p).n:=by
  by_cases a:(c.slp c.p).n=(d.slp d.p).n
  ·exact a
  ·exfalso
   split at h
   ·omega
   ·split at h<;>omega
 rw[if_neg (by omega),if_neg (by omega)] at h
 cases c with
 |seg l f t=>
  cases d with
  |seg m u v=>
   obtain⟨a,b,e⟩:=F4 vc vd hp hq
   exact⟨by show(pf _ _&&pf _ _&&pf _ _)=true;rw[x6 a,x6 b,x6 e];rfl,rfl⟩
  |arc d x u v=>
   exfalso
   have e1:(Cv.seg l f t).slp f=if l.b=0 then Slp.vt else .vl (-l.a/l.b) 0 0:=rfl
   have e2:(Cv.arc d x u v).slp u=if fT u d.y=0 then Slp.st (if x then 1 else-1) else .vl (nG d u) (gF d u) (zc (gF d u) u.c):=rfl
   have h:tW (.seg l f t) (.arc d x u v) ((Cv.seg l f t).slp f) ((Cv.arc d x u v).slp u)=0:=h
   have hr:((Cv.seg l f t).slp f).n=((Cv.arc d x u v).slp u).n:=hr
   rw[e1,e2] at h hr
   have hx:(if x=true then(1:Int) else-1)=1∨(if x=true then(1:Int) else-1)= -1:=by cases x<;>simp
   by_cases a:l.b=0
   ·rw[if_pos a] at hr
    by_cases b:fT u d.y=0
    ·rw[if_pos b] at hr;simp only[Slp.n] at hr;omega
    ·rw[if_neg b] at hr;simp only[Slp.n] at hr;omega
   ·rw[if_neg a] at hr h
    by_cases b:fT u d.y=0
    ·rw[if_pos b] at hr;simp only[Slp.n] at hr;omega
    ·rw[if_neg b] at h
     unfold tW at h
     dsimp only at h
     split at h
     ·unfold i6 at h
      have:=p8 (k:=d) (w:=x) (p:=u) (q:=v)
      have h0:(Cv.seg l f t).bnd=0:=rfl
      rw[h0] at h
      split at h
      ·omega
      ·split at h<;>omega
     ·omega
 |arc k w f t=>
  cases d with
  |seg m u v=>
   exfalso
   have e1:(Cv.seg m u v).slp u=if m.b=0 then Slp.vt else .vl (-m.a/m.b) 0 0:=rfl
   have e2:(Cv.arc k w f t).slp f=if fT f k.y=0 then Slp.st (if w then 1 else-1) else .vl (nG k f) (gF k f) (zc (gF k f) f.c):=rfl
   have h:tW (.arc k w f t) (.seg m u v) ((Cv.arc k w f t).slp f) ((Cv.seg m u v).slp u)=0:=h
   have hr:((Cv.arc k w f t).slp f).n=((Cv.seg m u v).slp u).n:=hr
   rw[e1,e2] at h hr
   have hx:(if w=true then(1:Int) else-1)=1∨(if w=true then(1:Int) else-1)= -1:=by cases w<;>simp
   by_cases b:fT f k.y=0
   ·rw[if_pos b] at hr
    by_cases a:m.b=0
    ·rw[if_pos a] at hr;simp only[Slp.n] at hr;omega
    ·rw[if_neg a] at hr;simp only[Slp.n] at hr;omega
   ·rw[if_neg b] at hr h
    by_cases a:m.b=0
    ·rw[if_pos a] at hr;simp only[Slp.n] at hr;omega
    ·rw[if_neg a] at h
     unfold tW at h
     dsimp only at h
     split at h
     ·unfold i6 at h
      have:=p8 (k:=k) (w:=w) (p:=f) (q:=t)
      have h0:(Cv.seg m u v).bnd=0:=rfl
      rw[h0] at h
      split at h
      ·omega
      ·split at h<;>omega
     ·omega
  |arc d x u v=>
   have h0:0<k.q:=vc.pos
   have h0':0<d.q:=vd.pos
   have of:OnK k f:=⟨vc.g.2.1,cb.1 vc.sp⟩
   have ot:OnK k t:=⟨vc.g.2.2,cb.1 vc.sq⟩
   have ou:OnK d u:=⟨vd.g.2.1,cb.1 vd.sp⟩
   have ov:OnK d v:=⟨vd.g.2.2,cb.1 vd.sq⟩
   have m1:=tw vc.g.1 h0 of ot mc
   have m2:=tw vd.g.1 h0' ou ov md
   have k1:=kK h0 of
   have k2:=kK h0' ou
   have e1:(Cv.arc k w f t).slp f=if fT f k.y=0 then Slp.st (if w then 1 else-1) else .vl (nG k f) (gF k f) (zc (gF k f) f.c):=rfl
   have e2:(Cv.arc d x u v).slp u=if fT u d.y=0 then Slp.st (if x then 1 else-1) else .vl (nG d u) (gF d u) (zc (gF d u) u.c):=rfl
   have h:tW (.arc k w f t) (.arc d x u v) ((Cv.arc k w f t).slp f) ((Cv.arc d x u v).slp u)=0:=h
   have hr:((Cv.arc k w f t).slp f).n=((Cv.arc d x u v).slp u).n:=hr
   have hpu:cP f u=0:=hp
   have gs:=kE vc.g of.1
   have gt:=kE vd.g ou.1
   have fin:k.x=d.x∧k.y=d.y→k.q=d.q→w=x→fV (.arc k w f t) (.arc d x u v)=true∧(Cv.arc k w f t).cw=(Cv.arc d x u v).cw:=fun a b e=>
    ⟨by show(pf _ _&&pf _ _&&pf _ _)=true;rw[x6 a.1,x6 a.2,x6 b];rfl,e⟩
   by_cases a:fT f k.y=0
   ·by_cases b:fT u d.y=0
    ·rw[e1,e2,if_pos a,if_pos b] at hr h
     have hwx:w=x:=by cases w<;>cases x<;>first|rfl|(simp[Slp.n] at hr)
     subst hwx
     have hq:aV k.q d.q=0:=by
      have h:(if w=true then(1:Int) else-1)*aV k.q d.q=0:=h
      rcases Int.mul_eq_zero.1 h with g|g
      ·cases w<;>simp at g
      ·exact g
     have hq:k.q=d.q:=by rw[lG] at hq;exact y7 hq
     refine fin (MY of ou hpu hq a b ?_ ?_) hq rfl
     ·cases w with
      |false=>
       rw[if_neg (by decide)] at m1
       rcases k1 with⟨c1,c2,c3⟩|⟨c1,c2⟩|⟨c1,c2,c3⟩|⟨c1,c2⟩
       ·rw[c1] at m1;exact absurd m1.1 (by decide)
       ·omega
       ·exact c3
       ·omega
      |true=>
       rw[if_pos rfl] at m1
       rcases k1 with⟨c1,c2,c3⟩|⟨c1,c2⟩|⟨c1,c2,c3⟩|⟨c1,c2⟩
       ·rw[c1] at m1;exact absurd m1.2.1 (by decide)
       ·omega
       ·exact c3
       ·omega
     ·cases w with
      |false=>
       rw[if_neg (by decide)] at m2
       rcases k2 with⟨c1,c2,c3⟩|⟨c1,c2⟩|⟨c1,c2,c3⟩|⟨c1,c2⟩
       ·rw[c1] at m2;exact absurd m2.1 (by decide)
       ·omega
       ·exact c3
       ·omega
      |true=>
       rw[if_pos rfl] at m2
       rcases k2 with⟨c1,c2,c3⟩|⟨c1,c2⟩|⟨c1,c2,c3⟩|⟨c1,c2⟩
       ·rw[c1] at m2;exact absurd m2.2.1 (by decide)
       ·omega
       ·exact c3
       ·omega
    ·exfalso
     rw[e1,e2,if_pos a,if_neg b] at hr
     cases w<;>simp[Slp.n] at hr
   ·by_cases b:fT u d.y=0
    ·exfalso
     rw[e1,e2,if_neg a,if_pos b] at hr
     cases x<;>simp[Slp.n] at hr
    ·rw[e1,if_neg a] at gs
     rw[e2,if_neg b] at gt
     rw[e1,e2,if_neg a,if_neg b] at h
     have hv:=n9 gs gt rfl rfl
     unfold tW at h
     dsimp only at h
     split at h
     ·rename_i hz
      rw[hv] at hz
      have hcv:=h
      unfold i6 at hcv
      have b1:=p8 (k:=k) (w:=w) (p:=f) (q:=t)
      have b2:=p8 (k:=d) (w:=x) (p:=u) (q:=v)
      have hb:(Cv.arc k w f t).bnd=(Cv.arc d x u v).bnd:=by
       split at hcv
       ·omega
       ·split at hcv<;>omega
      rw[if_neg (by omega),if_neg (by omega)] at hcv
      have hQ:aV k.q d.q=0:=(Int.mul_eq_zero.1 hcv).resolve_left (by omega)
      have hQ:k.q=d.q:=by rw[lG] at hQ;exact y7 hQ
      have hwx:w=x:=by
       have hb:(if w=true then(-1:Int) else 1)=(if x=true then(-1:Int) else 1):=hb
       cases w<;>cases x<;>first|rfl|(simp at hb)
      subst hwx
      have s1:=uN of.1 a
      have s2:=uN ou.1 b
      rw[lT (ck of)] at a
      refine fin (MU of ou hpu hQ _ _ hz s1 s2 ?_ a) hQ rfl
      rw[←lT (ck of)] at a
      rw[←lT (ck of),←lT (ck ou)]
      have q1:=fq (f.a2-k.y) f.b2 (zc f.b2 f.c)
      have q2:=fq (u.a2-d.y) u.b2 (zc u.b2 u.c)
      unfold fT at a b k1 k2⊢
      cases w with
      |false=>
       rw[if_neg (by decide)] at m1 m2
       rcases k1 with⟨c1,c2,c3⟩|⟨c1,c2⟩|⟨c1,c2,c3⟩|⟨c1,c2⟩
       ·exact absurd c2 a
       ·rw[c1] at m1;exact absurd m1.1 (by decide)
       ·exact absurd c2 a
       ·rcases k2 with⟨d1,d2,d3⟩|⟨d1,d2⟩|⟨d1,d2,d3⟩|⟨d1,d2⟩
        ·exact absurd d2 b
        ·rw[d1] at m2;exact absurd m2.1 (by decide)
        ·exact absurd d2 b
        ·omega
      |true=>
       rw[if_pos rfl] at m1 m2
       rcases k1 with⟨c1,c2,c3⟩|⟨c1,c2⟩|⟨c1,c2,c3⟩|⟨c1,c2⟩
       ·exact absurd c2 a
       ·rcases k2 with⟨d1,d2,d3⟩|⟨d1,d2⟩|⟨d1,d2,d3⟩|⟨d1,d2⟩
        ·exact absurd d2 b
        ·omega
        ·exact absurd d2 b
        ·rw[d1] at m2;exact absurd m2.2.1 (by decide)
       ·exact absurd c2 a
       ·rw[c1] at m1;exact absurd m1.2.1 (by decide)
     ·rename_i hz
      omega
theorem Jm {c d:Cv}(vc:CvV c) (vd:CvV d) (hs:fV c d=true) (hw:c.cw=d.cw) (hp:cP c.p d.p=0) (hq:cP c.q d.q=0):jl c d=0:=by
 unfold jl
 rw[if_pos hp,CP,DD,DD]
 cases c with
 |seg l f t=>
  cases d with
  |arc d x u v=>cases hs
  |seg m u v=>
   obtain⟨g1,g2,g3⟩:=F4 vc vd hp hq
   have s1:d9 l f=0:=by have:=vc.sp;simpa [Cv.supp,Cv.p] using this
   have s2:d9 l t=0:=by have:=vc.sq;simpa [Cv.supp,Cv.q] using this
   have s3:d9 m u=0:=by have:=vd.sp;simpa [Cv.supp,Cv.p] using this
   have s4:d9 m v=0:=by have:=vd.sq;simpa [Cv.supp,Cv.q] using this
   have v1:=oK vc.g.1 vc.g.2.1 vc.g.2.2 s1 s2 vc.ne
   have v2:=oK vd.g.1 vd.g.2.1 vd.g.2.2 s3 s4 vd.ne
   have hf:=b9 vc.g.2.1
   have ht:=b9 vc.g.2.2
   have hu:=b9 vd.g.2.1
   have hv:=b9 vd.g.2.2
   have hx:cx f t=cx u v:=by
    have e1:=zj hf hu hp (f:=t) ht
    have e2:=zj ht hv hq (f:=u) hu
    have e3:=fe hu ht
    have e4:=fe hu hv
    omega
   have hb:l.b=0↔m.b=0:=by rw[←v1,←v2,hx]
   have e1:(Cv.seg l f t).slp f=if l.b=0 then Slp.vt else .vl (-l.a/l.b) 0 0:=rfl
   have e2:(Cv.seg m u v).slp u=if m.b=0 then Slp.vt else .vl (-m.a/m.b) 0 0:=rfl
   show(if ((Cv.seg l f t).slp f).n<((Cv.seg m u v).slp u).n then(-1:Int) else if ((Cv.seg l f t).slp f).n>((Cv.seg m u v).slp u).n then 1 else tW (.seg l f t) (.seg m u v) ((Cv.seg l f t).slp f) ((Cv.seg m u v).slp u))=0
   rw[e1,e2]
   by_cases a:l.b=0
   ·rw[if_pos a,if_pos (hb.1 a)];rfl
   ·have b:m.b≠0:=fun e=>a (hb.2 e)
    rw[if_neg a,if_neg b]
    have e3: -l.a/l.b= -m.a/m.b:=by
     have q1: -l.a/l.b*l.b= -l.a:=Rat.div_mul_cancel a
     have q2: -m.a/m.b*m.b= -m.a:=Rat.div_mul_cancel b
     generalize-l.a/l.b=x at*
     generalize-m.a/m.b=y at*
     have q3:(x-y)*(l.b*m.b)=0:=by grind
     rcases Rat.mul_eq_zero.1 q3 with g|g
     ·grind
     ·rcases Rat.mul_eq_zero.1 g with g|g
      ·exact absurd g a
      ·exact absurd g b
    rw[e3]
    have gs:SlG (.vl (-m.a/m.b) 0 0):=⟨fun n h=>(by cases h),fun _ _ _ h=>(by cases h;exact JT vd.g.1 b)⟩
    have hv0:=n9 gs gs rfl rfl
    rw[pS] at hv0
    show(if (0:Int)<0 then(-1:Int) else if (0:Int)>0 then 1 else if (Slp.vl (-m.a/m.b) 0 0).vcmp (.vl (-m.a/m.b) 0 0)=0 then i6 (.seg l f t) (.seg m u v) else 1*(Slp.vl (-m.a/m.b) 0 0).vcmp (.vl (-m.a/m.b) 0 0))=0
    rw[if_neg (by decide),if_neg (by decide),if_pos hv0,M7]
 |arc k w f t=>
  cases d with
  |seg m u v=>cases hs
  |arc d x u v=>
   have hs:(pf k.x d.x&&pf k.y d.y&&pf k.q d.q)=true:=hs
   rw[Bool.and_eq_true,Bool.and_eq_true] at hs
   have hk:k=d:=by
    obtain⟨x1,y1,q1⟩:=k
    obtain⟨x2,y2,q2⟩:=d
    have a:=Lt hs.1.1
    have b:=Lt hs.1.2
    have e:=Lt hs.2
    dsimp only at a b e
    rw[a,b,e]
   subst hk
   cases (show w=x from hw)
   have of:OnK k f:=⟨vc.g.2.1,cb.1 vc.sp⟩
   have ou:OnK k u:=⟨vd.g.2.1,cb.1 vd.sp⟩
   have hpu:cP f u=0:=hp
   have hyy:=Bi (ck of) (ck ou) hpu k.y
   have e1:(Cv.arc k w f t).slp f=if fT f k.y=0 then Slp.st (if w then 1 else-1) else .vl (nG k f) (gF k f) (zc (gF k f) f.c):=rfl
   have e2:(Cv.arc k w u v).slp u=if fT u k.y=0 then Slp.st (if w then 1 else-1) else .vl (nG k u) (gF k u) (zc (gF k u) u.c):=rfl
   have gs:=kE vc.g of.1
   have gt:=kE vd.g ou.1
   show(if ((Cv.arc k w f t).slp f).n<((Cv.arc k w u v).slp u).n then(-1:Int) else if ((Cv.arc k w f t).slp f).n>((Cv.arc k w u v).slp u).n then 1 else tW (.arc k w f t) (.arc k w u v) ((Cv.arc k w f t).slp f) ((Cv.arc k w u v).slp u))=0
   have hcv:i6 (.arc k w f t) (.arc k w u v)=0:=by
    have hb:(Cv.arc k w f t).bnd=(Cv.arc k w u v).bnd:=rfl
    unfold i6
    rw[if_neg (by omega),if_neg (by omega)]
    show-(Cv.arc k w f t).bnd*aV k.q k.q=0
    rw[eG,Int.mul_zero]
   by_cases a:fT f k.y=0
   ·have b:fT u k.y=0:=by omega
    rw[e1,e2,if_pos a,if_pos b,if_neg (Int.lt_irrefl _),if_neg (Int.lt_irrefl _)]
    show(if w=true then(1:Int) else-1)*aV k.q k.q=0
    rw[eG,Int.mul_zero]
   ·have b:fT u k.y≠0:=by omega
    have s1:=uN of.1 a
    have s2:=uN ou.1 b
    rw[e1,if_neg a] at gs
    rw[e2,if_neg b] at gt
    have hv:=n9 gs gt rfl rfl
    have hz:(Slp.vl (nG k f) (gF k f) (zc (gF k f) f.c)).vcmp (.vl (nG k u) (gF k u) (zc (gF k u) u.c))=0:=by
     rw[hv]
     show bR (dX (nG k f) (gF k f) (zc (gF k f) f.c)-dX (nG k u) (gF k u) (zc (gF k u) u.c))=0
     obtain⟨x1,y1⟩:=rQ of.1 ou.1 hpu
     rw[lT (ck of)] at a
     generalize dX (nG k f) (gF k f) (zc (gF k f) f.c)=S at*
     generalize dX (nG k u) (gF k u) (zc (gF k u) u.c)=T at*
     refine OL (x:=pY f-Re.of k.y) ?_ a
     rw[show(pY f-Re.of k.y)*(S-T)=(S*(pY f-Re.of k.y)+(pX f-Re.of k.x))+(-(T*(pY u-Re.of k.y)+(pX u-Re.of k.x))+(-(T*(pY f-pY u))+ -(pX f-pX u))) from
      Re.ext fun n=>by simp only[bt,bp,bK,cJ,bT];grind]
     exact fa s1 (fa (gW s2) (fa (gW (fz _ y1)) (gW x1)))
    rw[e1,e2,if_neg a,if_neg b]
    show(if (0:Int)<0 then(-1:Int) else if (0:Int)>0 then 1 else if (Slp.vl (nG k f) (gF k f) (zc (gF k f) f.c)).vcmp (.vl (nG k u) (gF k u) (zc (gF k u) u.c))=0 then i6 (.arc k w f t) (.arc k w u v) else 1*(Slp.vl (nG k f) (gF k f) (zc (gF k f) f.c)).vcmp (.vl (nG k u) (gF k u) (zc (gF k u) u.c)))=0
    rw[if_neg (by decide),if_neg (by decide),if_pos hz,hcv]
theorem Ms {c d:Cv}(vc:CvV c) (vd:CvV d) (mc:c.mono=true) (md:d.mono=true):(dK c d==0)=Gq c d:=by
 cases h:Gq c d with
 |true=>
  unfold Gq at h
  rw[Bool.and_eq_true,Bool.and_eq_true,Bool.and_eq_true] at h
  obtain⟨h1,h2,h3,h4⟩:=h
  have a:=beq_iff_eq.1 h3
  have b:=beq_iff_eq.1 h4
  unfold dK
  rw[if_neg (by omega),if_neg (by rw[Jm vc vd h1 (beq_iff_eq.1 h2) a b];decide),b];rfl
 |false=>
  cases g:(dK c d==0) with
  |false=>rfl
  |true=>
   exfalso
   have g:=beq_iff_eq.1 g
   unfold dK at g
   by_cases a:cP c.p d.p=0
   ·rw[if_neg (by omega)] at g
    by_cases b:jl c d=0
    ·rw[if_neg (by omega)] at g
     obtain⟨e1,e2⟩:=KL vc vd mc md a g b
     unfold Gq at h
     rw[e1,e2,a,g] at h
     simp at h
    ·rw[if_pos b] at g;exact b g
   ·rw[if_pos a] at g;exact a g
theorem S0 {c d:Cv}(hc:c.good) (hd:d.good):Ok Tryz.prog 28 [.a (aB c),.a (aB d)] [.c (.b (Gq c d))]:=by
 refine Ok.fn Tryz.func28 29 [.tmp 4] rfl<|aa<|ab<|ag<|aa<|ab<|ah (aA (us:=aB c) bd rfl rfl (bv _) (ak _) rfl) ?_
 refine ah (aA (us:=aB d) bd rfl rfl (bv _) (ak _) rfl) ?_
 refine ah (am rfl (Ft hc hd)) ?_
 refine cg (bN rfl) (fun c1 hb1=>?_)
 cases c1
 ·refine ag<|an ?_
  rw[show Gq c d=false from by unfold Gq;rw[hb1];rfl]
  exact aq (aE ae)
 ·refine al 1<|ah (bE xf rfl rfl (qA _) rfl) ?_
  refine al 1<|ah (bE xf rfl rfl (qA _) rfl) ?_
  refine ah (wU rfl rfl fp rfl) ?_
  refine al 1 ?_
  refine cg (bN rfl) (fun c2 hb2=>?_)
  cases c2
  ·refine ag<|an ?_
   rw[show Gq c d=false from by unfold Gq;rw[hb1,hb2];rfl]
   exact aq (aE ae)
  ·refine al 1<|ah (aA (us:=au c.p) bo rfl rfl (dW _) rfl rfl) ?_
   refine al 1<|ah (aA (us:=au d.p) bo rfl rfl (dW _) rfl rfl) ?_
   refine ah (am rfl (vD (cn hc) (cn hd)))<|al 1 ?_
   refine cg (bN rfl) (fun c3 hb3=>?_)
   cases c3
   ·refine ag<|an ?_
    rw[show Gq c d=false from by unfold Gq;rw[hb1,hb2,hb3];rfl]
    exact aq (aE ae)
   ·refine al 1<|ah (aA (us:=au c.q) bo rfl rfl (dY _) rfl rfl) ?_
    refine al 1<|ah (aA (us:=au d.q) bo rfl rfl (dY _) rfl rfl) ?_
    refine ah (am rfl (vD (cH hc) (cH hd)))<|ag<|an ?_
    rw[show Gq c d=(cP c.q d.q==0) from by unfold Gq;rw[hb1,hb2,hb3];rfl]
    exact aq (aE ae)
end Go.Proofs.YtkmdgigkbhmilaaGreat
