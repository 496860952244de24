/-Plain:how curves run at their ends:slopes,and the order beside a common point. -/
import Derived.Test.YtkfgimjmgfoneaaGreatDoorVfK
namespace Go.Proofs.YtkfgimjmgfoneaaGreatDoor
open Go Go.RowKit
variable {w:Bool}{k:Ci}{c d:Cv}{a b:Int}{rs:List CellD}{O l o:List Cv}{j:Nat}{f p q t x:Pt}
theorem qa:type_of% @List.pairwise_cons:=@List.pairwise_cons
inductive Slp where
 |vt
 |st (s:Int)
 |vl (a b c:Rat)
def A9:Slp→List CellD
 | .vt=>[.i .i64 2]++kW
 | .st s=>[.i .i64 s]++kW
 | .vl a b c=>[.i .i64 0]++(cR a++cR b++cR c)
def Slp.n:Slp→Int
 | .vt=>2
 | .st s=>s
 | .vl _ _ _=>0
def Slp.cl:Slp→List CellD
 | .vl a b c=>cR a++cR b++cR c
 |_=>kW
theorem H5 (s:Slp):s.cl.length=12:=by cases s<;>rfl
theorem zX (s:Slp):(A9 s).length=13:=by cases s<;>rfl
theorem qj (s:Slp):(A9 s)[0]? =some (.i .i64 s.n):=by cases s<;>rfl
theorem HZ (s:Slp):((A9 s).drop 1).take 12=s.cl:=by cases s<;>rfl
section
variable (k:Ci) (p:Pt)
def p5:Rat:=yw (p.a2-k.y) p.b2 (zc p.b2 p.c)
def Gk:Rat:= -(p.a1-k.x)*((p.a2-k.y)*p5 k p)+ -p.b1*(-p.b2*p5 k p)*p.c
def pW:Rat:= -(p.a1-k.x)*(-p.b2*p5 k p)+ -p.b1*((p.a2-k.y)*p5 k p)
end
def Cv.slp:Cv→Pt→Slp
 | .seg l _ _,_=>if l.b=0 then .vt else .vl (-l.a/l.b) 0 0
 | .arc k w _ _,p=>if lZ p k.y=0 then .st (if w then 1 else-1) else .vl (Gk k p) (pW k p) (zc (pW k p) p.c)
def rk:Slp→Int→Int
 | .vt,s=>2*s
 | .st n,_=>n
 | .vl _ _ _,_=>0
def Cv.bnd:Cv→Int
 | .seg _ _ _=>0
 | .arc _ w _ _=>if w then-1 else 1
def Cv.qq:Cv→Rat
 | .seg _ _ _=>0
 | .arc k _ _ _=>k.q
def wZ (c d:Cv):Int:=if c.bnd<d.bnd then-1 else if c.bnd>d.bnd then 1 else-c.bnd*aM c.qq d.qq
def Slp.vcmp:Slp→Slp→Int
 | .vl a b c,.vl x y z=>mC (a-x) b (-y) 0 c z
 |_,_=>0
def zK (c d:Cv) (s t:Slp) (side:Int):Int:=
 if rk s side<rk t side then-1 else if rk s side>rk t side then 1 else
 match s with
 | .vt=>0
 | .st n=>n*aM c.qq d.qq
 | .vl _ _ _=>if s.vcmp t=0 then wZ c d else side*s.vcmp t
def F5 (c d:Cv):Int:=if cP c.p d.p=0 then 0 else 1
def wv (c d:Cv):Int:=if cP c.p d.p=0 then zK c d (c.slp c.p) (d.slp d.p) 1 else 0
def dY (c d:Cv):Int:=if cP c.p d.p≠0 then cP c.p d.p else if wv c d≠0 then wv c d else cP c.q d.q
theorem O1 {a b c:Rat}(h:b≠0→j9 c=false) (h0:b=0→a≠0):a*a-b*b*c≠0:=by
 intro e
 by_cases hb:b=0
 ·grind
 ·have h1:=h hb
  have e2:c=(a/b)*(a/b):=by grind
  rw[e2,HN] at h1
  grind
theorem IE (h:GP p):(p.b1≠0→0<p.c∧j9 p.c=false)∧(p.b2≠0→0<p.c∧j9 p.c=false):=by
 have hv:=h.v
 unfold tq at hv
 grind
theorem M3 (h:GP p) (hc:p.c=0):p.b1=0∧p.b2=0:=by
 obtain⟨h1,h2⟩:=IE h
 constructor
 ·grind
 grind
structure VSz (a b c:Rat):Prop where
 za:Rz 760 a
 zb:Rz 700 b
 zc:Rz 78 c
 c0:0≤c
section
variable {k:Ci}{p:Pt}(hk:GK k) (hp:GP p)
include hk hp
theorem N2:Rz 115 (p.a1-k.x)∧Rz 115 (p.a2-k.y):=⟨(hp.a1.sub hk.x).mono (by decide),(hp.a2.sub hk.y).mono (by decide)⟩
omit hk in
theorem Jk (h:lZ p k.y≠0):(p.a2-k.y)*(p.a2-k.y)-p.b2*p.b2*zc p.b2 p.c≠0:=by
 refine O1 (fun g=>?_) (fun g e=>h ?_)
 ·rw[ij g];exact((IE hp).2 g).2
 ·unfold lZ cT nw
  rw[g,e,jF,k9,if_pos (.inl rfl)]
omit hk in
omit hk in
theorem JP:s3 (p.a2-k.y) p.b2 (zc p.b2 p.c)=lZ p k.y:=by
 unfold lZ
 rw[DH (tW (eI hp)) (fun g=>by rw[ij g];exact(IE hp).2 g),jC (tW (eI hp))]
theorem M6 (h:lZ p k.y≠0):Rz 352 (p5 k p)∧VSz (Gk k p) (pW k p) (zc (pW k p) p.c):=by
 have hn:=Jk hp h
 have hc0:=tW (b:=pW k p) (eI hp)
 have hcz:Rz 78 (zc (pW k p) p.c):=Rz.zc hp.c (by decide)
 by_cases hc:p.c=0
 ·obtain⟨z1,z2⟩:=M3 hp hc
  obtain⟨d1,d2⟩:=N2 hk hp
  have n1:Rz 231 (p5 k p):=by
   unfold p5 yw
   rw[z2] at hn⊢
   have e:(p.a2-k.y)*(p.a2-k.y)-0*0*zc 0 p.c=(p.a2-k.y)*(p.a2-k.y):=by grind
   rw[e] at hn⊢
   exact(kP.div (d2.mul d2) hn).mono (by decide)
  refine⟨n1.mono (by decide),⟨?_,?_,hcz,hc0⟩⟩
  ·have e:Gk k p= -(p.a1-k.x)*((p.a2-k.y)*p5 k p):=by unfold Gk;rw[z1];grind
   rw[e];exact(d1.neg.mul (d2.mul n1)).mono (by decide)
  ·have e:pW k p=0:=by unfold pW;rw[z1,z2];grind
   rw[e];exact jV (by decide)
 ·obtain⟨i1,i2⟩:=hp.ir hc
  have d1:Rz 54 (p.a1-k.x):=(i1.sub hk.x).mono (by decide)
  have d2:Rz 54 (p.a2-k.y):=(i2.sub hk.y).mono (by decide)
  have n1:Rz 230 (p5 k p):=by
   exact(kP.div (((d2.mul d2).sub ((hp.b2.mul hp.b2).mul (Rz.zc hp.c (by decide)))).mono (by decide:_≤229)) hn).mono (by decide)
  refine⟨n1.mono (by decide),⟨?_,?_,hcz,hc0⟩⟩
  ·unfold Gk
   exact((d1.neg.mul (d2.mul n1)).add ((hp.b1.neg.mul (hp.b2.neg.mul n1)).mul hp.c)).mono (by decide)
  ·unfold pW
   exact((d1.neg.mul (hp.b2.neg.mul n1)).add (hp.b1.neg.mul (d2.mul n1))).mono (by decide)
omit hk hp in
theorem Qu:zc (pW k p) (cc (-p.b1) (zc p.b1 p.c) (zc (-p.b2*p5 k p) (zc p.b2 p.c)))=zc (pW k p) p.c:=by
 by_cases hB:pW k p=0
 ·rw[zo hB,zo hB]
 ·rw[ij hB,ij hB]
  by_cases h1:p.b1=0
  ·rw[KG (by rw[h1];rfl)]
   have h2: -p.b2*p5 k p≠0:=fun e=>hB (by unfold pW;rw[e,h1];grind)
   have h3:p.b2≠0:=by grind
   rw[ij h2,ij h3]
  ·rw[yA (by grind),ij h1]
omit hk hp in
theorem S2: -(p.a1-k.x)*((p.a2-k.y)*p5 k p)+ -p.b1*(-p.b2*p5 k p)*cc (-p.b1) (zc p.b1 p.c) (zc (-p.b2*p5 k p) (zc p.b2 p.c))=Gk k p:=by
 unfold Gk
 by_cases h1:p.b1=0
 ·grind
 ·rw[yA (by grind),ij h1]
omit hk in
theorem Nm:pW k p≠0→cc (-p.b1) (zc p.b1 p.c) (zc (-p.b2*p5 k p) (zc p.b2 p.c))≠0:=by
 intro hB e
 have h:=Qu (k:=k) (p:=p)
 have hc:p.c≠0:=fun g=>hB (by obtain⟨z1,z2⟩:=M3 hp g;unfold pW;rw[z1,z2];grind)
 rw[ij hB,ij hB] at h
 grind
omit hk in
theorem RR:rB (pW k p) (cc (-p.b1) (zc p.b1 p.c) (zc (-p.b2*p5 k p) (zc p.b2 p.c)))=pW k p:=by
 by_cases hB:pW k p=0
 ·rw[CC (.inl hB),hB]
 ·rw[OO hB (Nm hp hB)]
omit hk in
theorem Sg:rC (pW k p) (cc (-p.b1) (zc p.b1 p.c) (zc (-p.b2*p5 k p) (zc p.b2 p.c)))=zc (pW k p) p.c:=by
 by_cases hB:pW k p=0
 ·rw[CE (.inl hB),zo hB]
 ·rw[NP hB (Nm hp hB),←Qu,ij hB]
omit hk hp in
theorem O9: ¬OH (-p.b1) (zc p.b1 p.c) (-p.b2*p5 k p) (zc (-p.b2*p5 k p) (zc p.b2 p.c)):=by
 rintro⟨h1,h2,h3⟩
 have g1:p.b1≠0:=by grind
 have g2:p.b2≠0:=by grind
 rw[ij g1,ij h2,ij g2] at h3
 grind
omit hk in
theorem QV:rB (-(p.b2*p5 k p)) (zc p.b2 p.c)= -p.b2*p5 k p:=by
 by_cases h:p.b2=0
 ·rw[CC (.inl (by rw[h];grind)),h];grind
 ·have hc:p.c≠0:=by have:=((IE hp).2 h).1;grind
  rw[ij h]
  by_cases g: -(p.b2*p5 k p)=0
  ·rw[CC (.inl g)];grind
  ·rw[OO g hc];grind
omit hk in
theorem Rm:rC (-(p.b2*p5 k p)) (zc p.b2 p.c)=zc (-p.b2*p5 k p) (zc p.b2 p.c):=by
 have e: -(p.b2*p5 k p)= -p.b2*p5 k p:=by grind
 by_cases h:p.b2=0
 ·rw[CE (.inl (by rw[h];grind)),zo (by rw[h];grind)]
 ·have hc:p.c≠0:=by have:=((IE hp).2 h).1;grind
  rw[ij h]
  by_cases g: -(p.b2*p5 k p)=0
  ·rw[CE (.inl g),zo (e▸g)]
  ·rw[NP g hc,ij (e▸g)]
end
theorem Pb {l:Ln}(hl:GL l) (h:l.b≠0):VSz (-l.a/l.b) 0 0:=⟨(hl.a.neg.div hl.b h).mono (by decide),jV (by decide),jV (by decide),Rat.le_refl⟩
theorem HO {l:Ln}(hl:GL l) (hp:GP p) (hq:GP q) (h1:ph l p=0) (h2:ph l q=0) (hn:cP p q≠0):cx p q=0↔l.b=0:=by
 have cp:=eI hp
 have cq:=eI hq
 rw[vn hp] at h1
 rw[vn hq] at h2
 have e:Re.of l.a*(pX p-pX q)+Re.of l.b*(pY p-pY q)=yQ l p+ -yQ l q:=gY fun n=>by unfold yQ;simp only[bX,cE,cz,eE,cJ];grind
 have h3:bJ (Re.of l.a*(pX p-pX q)+Re.of l.b*(pY p-pY q))=0:=by rw[e,dw _ (by rw[fh,h2];rfl),h1]
 rw[nU cp cq]
 have hy:bJ (pX p-pX q)=0→bJ (pY p-pY q)≠0:=fun h g=>hn (gH.2 ⟨by rw[nU cp cq];exact h,by rw[Gm cp cq];exact g⟩)
 constructor
 ·intro h
  rw[ni (by rw[ee,h,qF]),ee,jh] at h3
  rcases sn.1 h3 with g|g
  ·exact gM.1 g
  grind
 ·intro h
  have ha:aM l.a 0≠0:=fun g=>hl.n (by unfold ig;rw[gM.1 g,h];grind)
  rw[h,dw _ (by rw[ee,jh,jF,k9]),ee,jh] at h3
  rcases sn.1 h3 with g|g
  ·grind
  grind
theorem LH (hc:c.good) (hp:GP p): ∀ {a b e},c.slp p=.vl a b e→VSz a b e:=by
 intro a b e h
 cases c with
 |seg l f t=>
  have h:(if l.b=0 then Slp.vt else .vl (-l.a/l.b) 0 0)=.vl a b e:=h
  by_cases g:l.b=0
  ·grind
  ·rw[if_neg g] at h;cases h;exact Pb hc.1 g
 |arc k w f t=>
  have h:(if lZ p k.y=0 then Slp.st (if w then 1 else-1) else .vl (Gk k p) (pW k p) (zc (pW k p) p.c))=.vl a b e:=h
  by_cases g:lZ p k.y=0
  ·grind
  ·rw[if_neg g] at h;cases h;exact(M6 hc.1 hp g).2
theorem Dj {l:Ln}{n:Int}:(Cv.seg l f t).slp p≠ .st n:=by
 intro h
 have h:(if l.b=0 then Slp.vt else .vl (-l.a/l.b) 0 0)=.st n:=h
 grind
section
variable {c d:Cv}{s t:Slp}{side:Int}
theorem NW (h:decide (rk s side<rk t side)=true):zK c d s t side= -1:=by unfold zK;rw[if_pos (of_decide_eq_true h)]
theorem Py (h:decide (rk s side<rk t side)=false) (g:decide (rk s side>rk t side)=true):zK c d s t side=1:=by unfold zK;rw[if_neg (of_decide_eq_false h),if_pos (of_decide_eq_true g)]
theorem K7 (h:decide (c.bnd<d.bnd)=true):wZ c d= -1:=by unfold wZ;rw[if_pos (of_decide_eq_true h)]
theorem Mk (h:decide (c.bnd<d.bnd)=false) (g:decide (c.bnd>d.bnd)=true):wZ c d=1:=by unfold wZ;rw[if_neg (of_decide_eq_false h),if_pos (of_decide_eq_true g)]
theorem Eb (h:decide (c.bnd<d.bnd)=false) (g:decide (c.bnd>d.bnd)=false):wZ c d= -c.bnd*aM c.qq d.qq:=by unfold wZ;rw[if_neg (of_decide_eq_false h),if_neg (of_decide_eq_false g)]
end
theorem xp (h:(cP c.p d.p==0)=true) {s t:Slp}(hs:c.slp c.p=s) (ht:d.slp d.p=t):wv c d=zK c d s t 1∧F5 c d=0:=by
 unfold wv F5;rw[if_pos (by simpa using h),if_pos (by simpa using h),hs,ht];exact⟨rfl,rfl⟩
theorem P4 (h:(cP c.p d.p==0)=false):wv c d=0∧F5 c d=1:=by
 unfold wv F5;rw[if_neg (by simpa using h),if_neg (by simpa using h)];exact⟨rfl,rfl⟩
theorem Kc (c:Cv): -1≤c.bnd∧c.bnd≤1:=by
 cases c with
 |seg l p q=>show(-1:Int)≤0∧(0:Int)≤1;decide
 |arc k w p q=>show-1≤(if w=true then(-1:Int) else 1)∧(if w=true then(-1:Int) else 1)≤1;split<;>decide
theorem PI: ∀n,c.slp p=.st n→n=1∨n= -1:=by
 intro n h
 cases c with
 |seg l f t=>
  have h:(if l.b=0 then Slp.vt else .vl (-l.a/l.b) 0 0)=.st n:=h
  grind
 |arc k w f t=>
  have h:(if lZ p k.y=0 then Slp.st (if w then 1 else-1) else .vl (Gk k p) (pW k p) (zc (pW k p) p.c))=.st n:=h
  grind
structure SlG (s:Slp):Prop where
 st: ∀n,s=.st n→n=1∨n= -1
 sz: ∀a b e,s=.vl a b e→VSz a b e
theorem MO (hc:c.good) (hp:GP p):SlG (c.slp p):=⟨PI,fun _ _ _ h=>LH hc hp h⟩
theorem DJ: ∀n,c.slp p=.st n→c.isArc=true:=by
 intro n h
 cases c with
 |seg l f t=>exact absurd h Dj
 |arc k w f t=>rfl
theorem Ql (h:(!c.isArc)=true):c.bnd=0:=by
 cases c with
 |seg l f t=>rfl
 |arc k w f t=>cases h
theorem Oq (h:(!c.isArc)=false) (g:c.cw=true):c.bnd= -1:=by
 cases c with
 |seg l f t=>cases h
 |arc k w f t=>exact if_pos g
theorem N5 (h:(!c.isArc)=false) (g:c.cw=false):c.bnd=1:=by
 cases c with
 |seg l f t=>cases h
 |arc k w f t=>exact if_neg (by rw[show w=false from g];decide)
theorem IT (h:c.bnd≠0):c.isArc=true:=by
 cases c with
 |seg l f t=>exact absurd rfl h
 |arc k w f t=>rfl
theorem NX (h:c.bnd=d.bnd) (g:c.bnd=0):wZ c d=0:=by
 rw[Eb (decide_eq_false (by omega)) (decide_eq_false (by omega)),g,Int.neg_zero,k9]
section
variable {c d:Cv}{s t:Slp}{side:Int}(gs:SlG s) (gt:SlG t)
include gs
theorem GE (h:s.n=0): ∃a b e,s=.vl a b e:=by
 cases s with
 |vt=>cases h
 |st n=>have:=gs.st n rfl;simp only[Slp.n] at h;omega
 |vl a b e=>exact⟨a,b,e,rfl⟩
theorem Rr (h2: ¬s.n=2) (h:s.n≠0): ∃n,s=.st n:=by
 cases s with
 |vt=>exact absurd rfl h2
 |st n=>exact⟨n,rfl⟩
 |vl a b e=>exact absurd rfl h
theorem Q1:rk s 1=s.n:=by cases s<;>rfl
include gt
set_option linter.unusedSectionVars false
variable (hs:side=1∨side= -1) (q1:decide (rk s side<rk t side)=false) (q2:decide (rk s side>rk t side)=false)
include hs q1 q2
theorem LW (h:(s.n==2)=true):zK c d s t side=0:=by
 cases s with
 |vt=>unfold zK;rw[if_neg (of_decide_eq_false q1),if_neg (of_decide_eq_false q2)]
 |st n=>have:=gs.st n rfl;have h:n=2:=by simpa [Slp.n] using h
        omega
 |vl a b e=>simp[Slp.n] at h
theorem Ma (h:(s.n==2)=false) (g:(s.n !=0)=true):zK c d s t side=s.n*aM c.qq d.qq∧(∃n,s=.st n)∧ ∃n,t=.st n:=by
 obtain⟨n,rfl⟩:=Rr gs (by simpa using h) (by simpa using g)
 have a1:=of_decide_eq_false q1
 have a2:=of_decide_eq_false q2
 have b1:=gs.st n rfl
 refine⟨?_,⟨n,rfl⟩,?_⟩
 ·unfold zK;rw[if_neg a1,if_neg a2];rfl
 ·cases t with
  |vt=>simp only[rk] at a1 a2;omega
  |st m=>exact⟨m,rfl⟩
  |vl a b e=>simp only[rk] at a1 a2;omega
theorem LS (h:(s.n==2)=false) (g:(s.n !=0)=false):(s.n=0∧t.n=0)∧zK c d s t side=if s.vcmp t=0 then wZ c d else side*s.vcmp t:=by
 have h0:s.n=0:=by grind
 obtain⟨a,b,e,rfl⟩:=GE gs h0
 have a1:=of_decide_eq_false q1
 have a2:=of_decide_eq_false q2
 refine⟨⟨h0,?_⟩,?_⟩
 ·cases t with
  |vt=>simp only[rk] at a1 a2;omega
  |st m=>have:=gt.st m rfl;simp only[rk] at a1 a2;omega
  |vl a b e=>rfl
 ·unfold zK;rw[if_neg a1,if_neg a2]
set_option linter.unusedSectionVars true
end
theorem LJ (s t:Slp): -1≤s.vcmp t∧s.vcmp t≤1:=by
 cases s<;>cases t<;>first|exact q9 _ _ _ _ _ _|exact(by decide:(-1:Int)≤0∧(0:Int)≤1)
theorem OC (h:(cP c.p d.p !=0)=true):dY c d=cP c.p d.p:=by unfold dY;rw[if_pos (by simpa using h)]
theorem Lg (h:(cP c.p d.p !=0)=false) (g:(wv c d !=0)=true):dY c d=wv c d:=by unfold dY;rw[if_neg (by simpa using h),if_pos (by simpa using g)]
theorem LY (h:(cP c.p d.p !=0)=false) (g:(wv c d !=0)=false):dY c d=cP c.q d.q:=by unfold dY;rw[if_neg (by simpa using h),if_neg (by simpa using g)]
def Cv.fwd (c:Cv):Cv:=if decide (cP c.p c.q>0) then c.rev else c
def pa (p:Cv):List Cv→Nat
 |[]=>0
 |x::l=>if dY x p≤0 then pa p l+1 else 0
def yY (o:List Cv) (p:Cv):List Cv:=o.take (pa p o)++p::o.drop (pa p o)
def dJ (l:List Cv):List Cv:=l.foldl (fun o c=>yY o c.fwd) []
def iV:Cv→List Pt
 | .seg _ _ _=>[]
 | .arc k w f t=>(if (Cv.arc k w f t).inner (kQ k) then[kQ k] else[])++(if (Cv.arc k w f t).inner (kC k) then[kC k] else[])
def aR (c:Cv):List Cv:=if c.isArc then dM c (iV c) else[c]
def lT (c:Cv):List Cv:=dJ (aR c)
theorem po (p:Cv): ∀ {l:List Cv}{k:Nat},k≤l.length→(∀j,j<k→dY (l.getD j aH) p≤0)→(k=l.length∨ ¬dY (l.getD k aH) p≤0)→pa p l=k
 |[],k,h,_,_=>by simp at h;subst h;rfl
 |x::l,0,_,_,h=>by
  rcases h with h|h
  ·simp at h
  ·unfold pa;rw[if_neg (by simpa using h)]
 |x::l,k+1,h,hj,h2=>by
  unfold pa
  rw[if_pos (by simpa using hj 0 (by omega)),po p (l:=l) (k:=k) (by simpa using h) (fun j q=>by simpa using hj (j+1) (by omega)) (by simpa using h2)]
theorem Gz (o:List Cv) (p:Cv):(yY o p).length=o.length+1:=by
 unfold yY;rw[bN,cX,tI,dz];omega
theorem HE {p x:Cv}(h:x∈yY o p):x∈o∨x=p:=by
 rcases gn.1 h with h|h
 ·grind
 grind
theorem Ba: ∀(l o:List Cv),(l.foldl (fun o c=>yY o c.fwd) o).length=o.length+l.length
 |[],o=>by simp
 |x::l,o=>by rw[qA,Ba l,Gz,tI];omega
theorem dT (l:List Cv):(dJ l).length=l.length:=by unfold dJ;rw[Ba];simp
theorem An: ∀(l o:List Cv) {x:Cv},x∈l.foldl (fun o c=>yY o c.fwd) o→x∈o∨ ∃c∈l,x=c.fwd
 |[],o,x,h=>.inl h
 |y::l,o,x,h=>by
  rw[qA] at h
  rcases An l _ h with h|⟨c,hc,e⟩
  ·rcases HE h with h|h
   ·exact .inl h
   ·exact .inr ⟨y,by simp,h⟩
  ·exact .inr ⟨c,by simp[hc],e⟩
theorem qU {x:Cv}(h:x∈dJ l): ∃c∈l,x=c.fwd:=(An l [] h).elim (fun e=>by cases e) id
theorem oX {n:Nat}(h:n<l.length):dJ (l.take (n+1))=yY (dJ (l.take n)) (l.getD n aH).fwd:=by
 unfold dJ;rw[show l.take (n+1)=l.take n++[l.getD n aH] from by rw[List.take_add_one,aK (d:=aH) h];rfl,List.foldl_append];rfl
theorem Af (h:0<l.length):dJ (l.take 1)=[(l.getD 0 aH).fwd]:=by
 rw[oX h];rfl
theorem Ah (h:CvV c):CvV c.fwd:=by unfold Cv.fwd;split;exact h.rev;exact h
theorem D2 (h:decide (cP c.p c.q>0)=true):c.fwd=c.rev:=by unfold Cv.fwd;rw[h];rfl
theorem Ey (h:decide (cP c.p c.q>0)=false):c.fwd=c:=by unfold Cv.fwd;rw[h];rfl
theorem fH (h:CvV c): ∀p∈iV c,GP p∧c.on p=true:=by
 intro p hp
 cases c with
 |seg l f t=>cases hp
 |arc k w f t=>
  have hin: ∀ {x:Pt},(Cv.arc k w f t).inner x=true→(Cv.arc k w f t).on x=true:=fun h=>by unfold Cv.inner at h;rw[dU] at h;exact h.1
  rcases gn.1 hp with hp|hp
  ·split at hp
   ·rename_i e;cases mY.1 hp;exact⟨pk h.g.1 h.pos,hin e⟩
   grind
  ·split at hp
   ·rename_i e;cases mY.1 hp;exact⟨pz h.g.1 h.pos,hin e⟩
   grind
theorem F0 (c:Cv):(iV c).length≤2:=by
 cases c with
 |seg l f t=>exact cY _
 |arc k w f t=>
  show((if _ then[kQ k] else[])++(if _ then[kC k] else[])).length≤2
  grind
theorem MF (h1:(Cv.arc k w f t).inner (kQ k)=false) (h2:(Cv.arc k w f t).inner (kC k)=false):iV (.arc k w f t)=[]:=by
 show(if _ then[kQ k] else[])++(if _ then[kC k] else[])=_;rw[h1,h2];rfl
theorem Mw (h1:(Cv.arc k w f t).inner (kQ k)=true) (h2:(Cv.arc k w f t).inner (kC k)=false):iV (.arc k w f t)=[kQ k]:=by
 show(if _ then[kQ k] else[])++(if _ then[kC k] else[])=_;rw[h1,h2];rfl
theorem LD (h1:(Cv.arc k w f t).inner (kQ k)=false) (h2:(Cv.arc k w f t).inner (kC k)=true):iV (.arc k w f t)=[kC k]:=by
 show(if _ then[kQ k] else[])++(if _ then[kC k] else[])=_;rw[h1,h2];rfl
theorem KX (h1:(Cv.arc k w f t).inner (kQ k)=true) (h2:(Cv.arc k w f t).inner (kC k)=true):iV (.arc k w f t)=[kQ k,kC k]:=by
 show(if _ then[kQ k] else[])++(if _ then[kC k] else[])=_;rw[h1,h2];rfl
theorem pp (h:CvV c): ∀d∈aR c,CvV d:=by
 intro d hd
 unfold aR at hd
 split at hd
 ·exact Dx h (fun p hp=>(fH h p hp).1) (fun p hp=>uC (fH h p hp).2) d hd
 grind
theorem wH:(aR c).length≤3:=by
 unfold aR
 split
 ·have h1:=g9 c (bt c ([c.p,c.q]++iV c))
  have h2:=nk (c:=c) (l:=[c.p,c.q]++iV c)
  have h3:=F0 c
  unfold dM
  grind
 grind
theorem oK (h:CvV c):0<(aR c).length:=by
 unfold aR
 split
 ·have h1:=g9 c (bt c ([c.p,c.q]++iV c))
  have h2:=iK (c:=c) (l:=iV c) h.ne
  unfold dM
  omega
 grind
theorem OT (h:CvV c): ∀d∈lT c,CvV d:=fun d hd=>by
 obtain⟨x,hx,e⟩:=qU hd
 rw[e];exact Ah (pp h x hx)
theorem ww:(lT c).length≤3:=by unfold lT;rw[dT];exact wH
theorem Ng (h:j<O.length):((aj ao O++rs).drop (j*66)).take 66=ao (O.getD j aH):=by
 have hl:=ai ae O
 rw[vf (by omega),aQ ae (aK (d:=aH) h),iP]
 exact E9 _ _
theorem pT (j:Nat):aj ao O++rs=aj ao (O.take j)++(aj ao (O.drop j)++rs):=by
 rw[←iP,←ck,vF]
theorem wI {p c:Nat}(hp:O.length=p) (hj:j≤p) (hc:p≤c):((aj ao O++rs).drop (if j<c then j*66 else 0)).take ((p-j)*66)=aj ao (O.drop j):=by
 have h1:(aj ao (O.take j)).length=j*66:=by rw[ai ae,cX,de (by omega)]
 have h2:(aj ao (O.drop j)).length=(p-j)*66:=by rw[ai ae,dz,hp]
 by_cases h:j<c
 ·rw[if_pos h,pT j,←h1,List.drop_left,←h2,tL]
 ·have e:p-j=0:=by omega
  rw[e,tK,List.take_zero,List.drop_of_length_le (by omega)];rfl
theorem vC {p c:Nat}(hp:O.length=p) (hj:j≤p) (hr:rs.length=(c-p)*66) (hc:p≤c):0<p-j→(if j<c then j*66 else 0)+(p-j)*66≤(aj ao O++rs).length:=by
 rw[bN,ai ae,hp]
 grind
theorem pU {p:Cv}(h:pa p o=j):aj ao (o.take j)++(ao p++aj ao (o.drop j))=aj ao (yY o p):=by
 unfold yY;rw[h,ck];rfl
def qM (uf up uq:Bool) (n1 n2 m:Int):Int:=CL (B6 up uf n1) (B6 uq uf n2) (B6 up uq m)
def E7 (a b c:Int):Bool:=(!(decide (a≤0)&&decide (b≤0))||decide (c≤0))&&(!(decide (a<0)&&decide (b≤0))||decide (c<0))&&(!(decide (a≤0)&&decide (b<0))||decide (c<0))
set_option maxRecDepth 1000000 in
theorem N1: ∀(uf up uq ur:Bool) (i j l:Fin 3) (a:Fin 3),Cc (i3 i) (i3 j) (i3 a)=true→ ∀b:Fin 3,Cc (i3 j) (i3 l) (i3 b)=true→ ∀c:Fin 3,Cc (i3 i) (i3 l) (i3 c)=true→
 Cc (i3 a) (-(i3 b)) (i3 c)=true→E7 (qM uf up uq (i3 i) (i3 j) (i3 a)) (qM uf uq ur (i3 j) (i3 l) (i3 b)) (qM uf up ur (i3 i) (i3 l) (i3 c))=true:=by decide+kernel
theorem H9: ∀(uf up uq:Bool) (i j a:Fin 3),Cc (i3 i) (i3 j) (i3 a)=true→qM uf uq up (i3 j) (i3 i) (-(i3 a))= -qM uf up uq (i3 i) (i3 j) (i3 a):=by decide+kernel
set_option maxRecDepth 1000000 in
theorem Mb: ∀(uf up uq ux:Bool) (i j l:Fin 3) (a:Fin 3),Cc (i3 l) (i3 i) (i3 a)=true→ ∀b:Fin 3,Cc (i3 j) (i3 i) (i3 b)=true→ ∀c:Fin 3,Cc (i3 l) (i3 j) (i3 c)=true→
 Cc (i3 a) (i3 b) (i3 c)=true→qM uf up uq (i3 i) (i3 j) (-(i3 b))<0→qM up up ux 0 (i3 a) (-(i3 a))≤0→qM up ux uq (i3 a) (i3 b) (i3 c)≤0→(ux==up&&i3 a==0)=false→(ux==uq&&i3 c==0)=false→
 qM uf up ux (i3 i) (i3 l) (-(i3 a))<0∧qM uf ux uq (i3 l) (i3 j) (i3 c)<0:=by decide+kernel
theorem fj (k:Ci) (f p q:Pt):oO k f p q=qM (jn k f) (jn k p) (jn k q) (cx p f) (cx q f) (cx p q):=rfl
section
variable {k:Ci}{f p q r x:Pt}(hf:0≤f.c) (hp:0≤p.c) (hq:0≤q.c)
include hf hp hq
theorem Ka:oO k f q p= -oO k f p q:=by
 rw[fj,fj,fw hp hq]
 have h:=jl hf hp hq
 obtain⟨i,hi⟩:=dW (dN p f)
 obtain⟨j,hj⟩:=dW (dN q f)
 obtain⟨a,ha⟩:=dW (dN p q)
 rw[hi,hj,ha] at h⊢
 exact H9 _ _ _ i j a h
variable (hr:0≤r.c)
include hr
theorem NM:E7 (oO k f p q) (oO k f q r) (oO k f p r)=true:=by
 rw[fj,fj,fj]
 have h1:=jl hf hp hq
 have h2:=jl hf hq hr
 have h3:=jl hf hp hr
 have h4:=jl hq hp hr
 rw[fw hq hr] at h4
 obtain⟨i,hi⟩:=dW (dN p f)
 obtain⟨j,hj⟩:=dW (dN q f)
 obtain⟨l,hl⟩:=dW (dN r f)
 obtain⟨a,ha⟩:=dW (dN p q)
 obtain⟨b,hb⟩:=dW (dN q r)
 obtain⟨c,hc⟩:=dW (dN p r)
 rw[hi,hj,ha] at h1
 rw[hj,hl,hb] at h2
 rw[hi,hl,hc] at h3
 rw[ha,hb,hc] at h4
 rw[hi,hj,hl,ha,hb,hc]
 exact N1 _ _ _ _ i j l a h1 b h2 c h3 h4
end
theorem KP: ∀(uf ux:Bool) (a:Fin 3),qM uf uf ux 0 (i3 a) (-(i3 a))≤0:=by decide+kernel
theorem Mt (hf:0≤f.c) (hx:0≤x.c):oO k f f x≤0:=by
 rw[fj,uo hf,fw hx hf]
 obtain⟨a,ha⟩:=dW (dN x f)
 rw[ha]
 exact KP _ _ a
theorem HI: ∀(uf up uq:Bool) (i j a:Fin 3),Cc (i3 i) (i3 j) (i3 a)=true→qM uf up uq (i3 i) (i3 j) (i3 a)=0→(up==uq&&i3 a==0)=true:=by decide+kernel
theorem wq (h0:0<k.q) (op:OnK k p) (oq:OnK k q) (h:(jn k p==jn k q&&cx p q==0)=true):cP p q=0:=by
 rw[dU] at h
 have hu:=beq_iff_eq.1 h.1
 have hx:=beq_iff_eq.1 h.2
 refine zH h0 op oq ?_ hx
 have hc:=fF h0 op oq
 rw[lK,lK] at hu
 rw[hx] at hc
 revert hu hc
 generalize kd k p=a
 generalize kd k q=b
 revert a b
 decide
theorem G4 (h0:0<k.q) (hf:0≤f.c) (op:OnK k p) (oq:OnK k q) (h:oO k f p q=0):cP p q=0:=by
 have h1:=jl hf (bq op) (bq oq)
 rw[fj] at h
 obtain⟨i,hi⟩:=dW (dN p f)
 obtain⟨j,hj⟩:=dW (dN q f)
 obtain⟨a,ha⟩:=dW (dN p q)
 rw[hi,hj,ha] at h1 h
 exact wq h0 op oq (by rw[ha];exact HI _ _ _ i j a h1 h)
theorem KS (h0:0<k.q) (of:OnK k f) (op:OnK k p) (oq:OnK k q) (ox:OnK k x) (h1:oO k f p q<0) (h2:oO k p p x≤0) (h3:oO k p x q≤0) (n1:cP x p≠0) (n2:cP x q≠0):
 oO k f p x<0∧oO k f x q<0:=by
 have cf:=bq of
 have cp:=bq op
 have cq:=bq oq
 have cx':=bq ox
 have t1:=jl cf cx' cp
 have t2:=jl cf cq cp
 have t3:=jl cf cx' cq
 have t4:=jl cp cx' cq
 have e1:(jn k x==jn k p&&cx x p==0)=false:=by
  cases h:(jn k x==jn k p&&cx x p==0) with
  |false=>rfl
  |true=>exact absurd (wq h0 ox op h) n1
 have e2:(jn k x==jn k q&&cx x q==0)=false:=by
  cases h:(jn k x==jn k q&&cx x q==0) with
  |false=>rfl
  |true=>exact absurd (wq h0 ox oq h) n2
 rw[fj,fw cq cp] at h1
 rw[fj,uo cp,fw cx' cp] at h2
 rw[fj] at h3
 rw[fj,fj,fw cx' cp]
 obtain⟨i,hi⟩:=dW (dN p f)
 obtain⟨j,hj⟩:=dW (dN q f)
 obtain⟨l,hl⟩:=dW (dN x f)
 obtain⟨a,ha⟩:=dW (dN x p)
 obtain⟨b,hb⟩:=dW (dN q p)
 obtain⟨c,hc⟩:=dW (dN x q)
 rw[hl,hi,ha] at t1
 rw[hj,hi,hb] at t2
 rw[hl,hj,hc] at t3
 rw[ha,hb,hc] at t4
 rw[hi,hj,hb] at h1
 rw[ha] at h2 e1
 rw[ha,hb,hc] at h3
 rw[hc] at e2
 rw[hi,hj,hl,ha,hc]
 exact Mb _ _ _ _ i j l a t1 b t2 c t3 t4 h1 h2 h3 e1 e2
def Ci.by (k:Ci) (w:Bool):Ci:=if w then k.mir else k
def Pt.by (p:Pt) (w:Bool):Pt:=if w then p.flip else p
theorem OnK.by (w:Bool) (h:OnK k p):OnK (k.by w) (p.by w):=by
 cases w with
 |true=>exact h.flip
 |false=>exact h
theorem Qz (w:Bool) (h:0<k.q):0<(k.by w).q:=by cases w<;>exact h
theorem Jo (w:Bool) (hp:0≤p.c) (hq:0≤q.c):cP (p.by w) (q.by w)=0↔cP p q=0:=by
 cases w with
 |false=>exact Iff.rfl
 |true=>
  show cP p.flip q.flip=0↔_
  rw[gH,gH,jm hp hq]
  exact⟨fun h=>⟨by omega,h.2⟩,fun h=>⟨by omega,h.2⟩⟩
theorem ko (k:Ci) (w:Bool) (f t p q:Pt):(Cv.arc k w f t).ord p q=oO (k.by w) (f.by w) (p.by w) (q.by w):=by cases w<;>rfl
section
variable {k:Ci}{w:Bool}{f t:Pt}(h0:0<k.q) (of:OnK k f)
include of
variable {p q r:Pt}(op:OnK k p) (oq:OnK k q)
include op oq
theorem jT:(Cv.arc k w f t).ord q p= -(Cv.arc k w f t).ord p q:=by
 rw[ko,ko]
 exact Ka (bq (of.by w)) (bq (op.by w)) (bq (oq.by w))
theorem sZ (or_:OnK k r):E7 ((Cv.arc k w f t).ord p q) ((Cv.arc k w f t).ord q r) ((Cv.arc k w f t).ord p r)=true:=by
 rw[ko,ko,ko]
 exact NM (bq (of.by w)) (bq (op.by w)) (bq (oq.by w)) (bq (or_.by w))
include h0
theorem AB (h:(Cv.arc k w f t).ord p q=0):cP p q=0:=by
 rw[ko] at h
 exact(Jo w (bq op) (bq oq)).1 (G4 (Qz w h0) (bq (of.by w)) (op.by w) (oq.by w) h)
end
theorem rT (of:OnK k f) (op:OnK k p):(Cv.arc k w f t).ord f p≤0:=by
 rw[ko];exact Mt (bq (of.by w)) (bq (op.by w))
theorem xh {c:Int}(h:E7 a b c=true) (h1:a<0) (h2:b≤0):c<0:=by
 unfold E7 at h
 grind
theorem Nh {c:Int}(h:E7 a b c=true) (h1:a≤0) (h2:b≤0):c≤0:=by
 unfold E7 at h
 grind
theorem yl {c:Int}(h:E7 a b c=true) (h1:a≤0) (h2:b<0):c<0:=by
 unfold E7 at h
 grind
section
variable {k:Ci}{w:Bool}{f t:Pt}(h0:0<k.q) (of:OnK k f)
include h0 of
theorem BT {x:Pt}(ox:OnK k x): ∀ {S:List Pt},(∀y∈S,OnK k y)→S.Pairwise (fun p q=>(Cv.arc k w f t).ord p q<0)→(d8 (.arc k w f t) S x).Pairwise (fun p q=>(Cv.arc k w f t).ord p q<0)
 |[],_,_=>by rw[wg];exact List.pairwise_singleton _ _
 |o::l,hS,hp=>by
  have oo:=hS o (by simp)
  have hl: ∀y∈l,OnK k y:=fun y hy=>hS y (by simp[hy])
  obtain⟨h1,h2⟩:=qa.1 hp
  by_cases h:(Cv.arc k w f t).ord o x<0
  ·rw[qY h]
   refine qa.2 ⟨fun y hy=>?_,BT ox hl h2⟩
   rcases mV hy with g|g
   ·exact h1 y g
   ·rw[g];exact h
  ·rw[rM h]
   split
   ·exact hp
   ·rename_i hn
    have ha:=jT (w:=w) (t:=t) of oo ox
    have hz:(Cv.arc k w f t).ord o x≠0:=fun e=>hn (AB h0 of oo ox e)
    refine qa.2 ⟨fun y hy=>?_,hp⟩
    rcases ek.1 hy with g|g
    ·rw[g];omega
    ·exact xh (sZ of ox oo (hl y g)) (by omega) (Int.le_of_lt (h1 y g))
omit h0 of in
theorem wj {c:Cv}{x:Pt}(hx:0≤x.c): ∀ {S:List Pt},(∀y∈S,y∈d8 c S x)∧ ∃y∈d8 c S x,cP y x=0
 |[]=>by rw[wg];exact⟨fun y hy=>(by cases hy),x,by simp,Eq hx⟩
 |o::l=>by
  by_cases h:c.ord o x<0
  ·rw[qY h]
   obtain⟨h1,y,h2,h3⟩:=wj (c:=c) hx (S:=l)
   refine⟨fun z hz=>?_,y,gi _ h2,h3⟩
   rcases ek.1 hz with g|g
   ·rw[g];simp
   ·exact gi _ (h1 z g)
  ·rw[rM h]
   split
   ·rename_i e;exact⟨fun z hz=>hz,o,by simp,e⟩
   ·exact⟨fun z hz=>gi _ hz,x,by simp,Eq hx⟩
theorem A6: ∀(L:List Pt) {S:List Pt},(∀y∈L,OnK k y)→(∀y∈S,OnK k y)→S.Pairwise (fun p q=>(Cv.arc k w f t).ord p q<0)→
 (L.foldl (d8 (.arc k w f t)) S).Pairwise (fun p q=>(Cv.arc k w f t).ord p q<0)∧(∀y∈S,y∈L.foldl (d8 (.arc k w f t)) S)∧ ∀y∈L,∃z∈L.foldl (d8 (.arc k w f t)) S,cP z y=0
 |[],S,_,_,hp=>⟨hp,fun y hy=>hy,fun y hy=>by cases hy⟩
 |x::L,S,hL,hS,hp=>by
  have ox:=hL x (by simp)
  have hS2: ∀y∈d8 (.arc k w f t) S x,OnK k y:=fun y hy=>(mV hy).elim (hS y) (fun e=>e▸ox)
  obtain⟨h1,h2,h3⟩:=A6 L (S:=d8 (.arc k w f t) S x) (fun y hy=>hL y (by simp[hy])) hS2 (BT h0 of ox hS hp)
  obtain⟨g1,y,g2,g3⟩:=wj (c:=.arc k w f t) (x:=x) (bq ox) (S:=S)
  rw[qA]
  refine⟨h1,fun z hz=>h2 z (g1 z hz),fun z hz=>?_⟩
  rcases ek.1 hz with e|e
  ·rw[e];exact⟨y,h2 y g2,g3⟩
  ·exact h3 z e
theorem EZ {L:List Pt}(hL: ∀y∈L,OnK k y):(bt (.arc k w f t) L).Pairwise (fun p q=>(Cv.arc k w f t).ord p q<0)∧ ∀y∈L,∃z∈bt (.arc k w f t) L,cP z y=0:=by
 obtain⟨h1,_,h3⟩:=A6 (w:=w) (t:=t) h0 of L (S:=[]) hL (fun y hy=>by cases hy) .nil
 exact⟨h1,h3⟩
end
theorem pm {c:Cv}: ∀ {S:List Pt}{d:Cv},d∈iQ c S→ ∃A p q B,S=A++p::q::B∧d=c.ends p q
 |[],d,h=>by cases h
 |[x],d,h=>by cases h
 |x::y::l,d,h=>by
  have h:d∈c.ends x y::iQ c (y::l):=h
  rcases ek.1 h with h|h
  ·exact⟨[],x,y,l,rfl,h⟩
  ·obtain⟨A,p,q,B,e,hd⟩:=pm h
   exact⟨x::A,p,q,B,by rw[e];rfl,hd⟩
theorem xm (h0:0<k.q) (op:OnK k p) (oq:OnK k q) (ox:OnK k x):(Cv.arc k (!w) q p).inner x=(Cv.arc k w p q).inner x:=by
 have e:(Cv.arc k (!w) q p).on x=(Cv.arc k w p q).on x:=by
  rw[AY (db.2 ox.2),AY (db.2 ox.2)]
  cases w with
  |true=>
   have h1:=yI (k:=k) oq.1 op.1 ox.1
   have h2:=Eo h0 op oq ox
   exact h1.trans h2.symm
  |false=>
   have h1:=Eo h0 oq op ox
   have h2:=yI (k:=k) op.1 oq.1 ox.1
   exact h1.trans h2.symm
 show((Cv.arc k (!w) q p).on x&&(!(cP q x==0)&& !(cP p x==0)))=((Cv.arc k w p q).on x&&(!(cP p x==0)&& !(cP q x==0)))
 grind
theorem Gp (vc:CvV c): ∀d∈aR c,d.fwd.mono=true:=by
 intro d hd
 have vd:=pp vc d hd
 cases c with
 |seg l f t=>
  have hd:d∈ [Cv.seg l f t]:=hd
  cases mY.1 hd
  have hn:cP f t≠0:=vc.ne
  have ha:=gI (eI vc.g.2.1) (eI vc.g.2.2)
  unfold Cv.fwd
  split
  ·rename_i e
   have e:cP f t>0:=of_decide_eq_true e
   show(!decide (cP t f≥0))=true
   rw[decide_eq_false (by omega)];rfl
  ·rename_i e
   have e: ¬cP f t>0:=fun g=>e (decide_eq_true g)
   show(!decide (cP f t≥0))=true
   rw[decide_eq_false (by omega)];rfl
 |arc k w f t=>
  have h0:0<k.q:=vc.pos
  have hk:=vc.g.1
  have of:OnK k f:=⟨vc.g.2.1,db.1 vc.sp⟩
  have ot:OnK k t:=⟨vc.g.2.2,db.1 vc.sq⟩
  have hd:d∈iQ (.arc k w f t) (bt (.arc k w f t) ([f,t]++iV (.arc k w f t))):=by
   unfold aR at hd;rw[if_pos (show(Cv.arc k w f t).isArc=true from rfl)] at hd;exact hd
  have hL: ∀y∈ [f,t]++iV (.arc k w f t),OnK k y:=fun y hy=>by
   rcases gn.1 hy with h|h
   ·simp only[ek,tU,or_false] at h
    rcases h with h|h<;>rw[h]<;>assumption
   ·exact⟨(fH vc y h).1,db.1 (uC (fH vc y h).2)⟩
  have hT: ∀y∈ [f,t]++iV (.arc k w f t),(Cv.arc k w f t).ord y t≤0:=fun y hy=>by
   rcases gn.1 hy with h|h
   ·simp only[ek,tU,or_false] at h
    rcases h with h|h
    ·rw[h];exact rT of ot
    ·rw[h];have:=jT (w:=w) (t:=t) of ot ot;omega
   ·have:=(fH vc y h).2
    unfold Cv.on at this
    rw[dU] at this
    exact of_decide_eq_true this.2
  obtain⟨hs,hin⟩:=EZ (w:=w) (t:=t) h0 of hL
  obtain⟨A,p,q,B,eS,rfl⟩:=pm hd
  have hmem: ∀y∈A++p::q::B,y∈ [f,t]++iV (.arc k w f t):=fun y hy=>jG (by rw[eS];exact hy)
  have op:OnK k p:=hL p (hmem p (by simp))
  have oq:OnK k q:=hL q (hmem q (by simp))
  rw[eS] at hs hin
  obtain⟨hA,hpq,hAB⟩:=List.pairwise_append.1 hs
  obtain⟨hp1,hq1⟩:=qa.1 hpq
  have hlt:(Cv.arc k w f t).ord p q<0:=hp1 q (by simp)
  have hne:cP p q≠0:=yM vc.g op.1 oq.1 hlt
  have ha:=gI (bq op) (bq oq)
  have key: ∀x,OnK k x→(x=kQ k∨x=kC k)→(Cv.arc k w p q).inner x=false:=fun x ox hx=>by
   cases hi:(Cv.arc k w p q).inner x with
   |false=>rfl
   |true=>
    exfalso
    unfold Cv.inner at hi
    rw[dU,dU] at hi
    obtain⟨i1,i2,i3⟩:=hi
    have n1:cP p x≠0:=by simpa [Cv.p] using i2
    have n2:cP q x≠0:=by simpa [Cv.q] using i3
    unfold Cv.on at i1
    rw[dU,dU] at i1
    have b1:(Cv.arc k w p q).ord p x≤0:=of_decide_eq_true i1.1.2
    have b2:(Cv.arc k w p q).ord x q≤0:=of_decide_eq_true i1.2
    rw[ko] at b1 b2
    have hl2:=hlt
    rw[ko] at hl2
    have a1:=gI (bq op) (bq ox)
    have a2:=gI (bq oq) (bq ox)
    obtain⟨r1,r2⟩:=KS (Qz w h0) (of.by w) (op.by w) (oq.by w) (ox.by w) hl2 b1 b2 (fun e=>n1 (by have:=(Jo w (bq ox) (bq op)).1 e;omega)) (fun e=>n2 (by have:=(Jo w (bq ox) (bq oq)).1 e;omega))
    rw[←ko (t:=t)] at r1 r2
    have xt:(Cv.arc k w f t).ord x t<0:=xh (sZ of ox oq ot) r2 (hT q (hmem q (by simp)))
    have fx:(Cv.arc k w f t).ord f x<0:=yl (sZ of of op ox) (rT of op) r1
    have hin2:(Cv.arc k w f t).inner x=true:=by
     unfold Cv.inner
     rw[AY (db.2 ox.2)]
     show(decide ((Cv.arc k w f t).ord f x≤0)&&decide ((Cv.arc k w f t).ord x t≤0)&&(!(cP f x==0)&& !(cP t x==0)))=true
     have m1:cP f x≠0:=yM vc.g of.1 ox.1 fx
     have m2:cP x t≠0:=yM vc.g ox.1 ot.1 xt
     have m3:=gI (bq ox) (bq ot)
     rw[decide_eq_true (Int.le_of_lt fx),decide_eq_true (Int.le_of_lt xt)]
     simp only[Bool.and_self,du,dU,Bool.not_eq_true',beq_eq_false_iff_ne,ne_eq]
     exact⟨m1,by omega⟩
    have hcut:x∈iV (.arc k w f t):=by
     show x∈(if _ then[kQ k] else[])++(if _ then[kC k] else[])
     rcases hx with e|e
     ·rw[←e,hin2];simp
     ·refine gn.2 (.inr ?_)
      rw[←e,hin2];simp
    obtain⟨y,hy,ey⟩:=hin x (gn.2 (.inr hcut))
    have oy:OnK k y:=hL y (hmem y hy)
    have zy:(Cv.arc k w f t).ord y x=0:=ry (bq oy) (bq ox) ey vc.g
    have ay:=jT (w:=w) (t:=t) of oy ox
    have apx:=jT (w:=w) (t:=t) of op ox
    have aqx:=jT (w:=w) (t:=t) of ox oq
    rcases gn.1 hy with g|g
    ·have l1:(Cv.arc k w f t).ord y p<0:=hAB y g p (by simp)
     have:=yl (sZ (w:=w) (t:=t) of ox oy op) (by omega) l1
     omega
    ·rcases ek.1 g with g|g
     ·have:=jT (w:=w) (t:=t) of op op
      rw[g] at zy
      omega
     ·rcases ek.1 g with g|g
      ·rw[g] at zy
       omega
      ·have l1:(Cv.arc k w f t).ord q y<0:=(qa.1 hq1).1 y g
       have:=xh (sZ (w:=w) (t:=t) of oq oy ox) l1 (by omega)
       omega
  have kL:=key _ (wm hk h0) (.inl rfl)
  have kR:=key _ (vK hk h0) (.inr rfl)
  unfold Cv.fwd
  split
  ·rename_i e
   have e:cP p q>0:=of_decide_eq_true e
   show(!decide (cP q p≥0)&&(!(Cv.arc k (!w) q p).inner (kQ k)&& !(Cv.arc k (!w) q p).inner (kC k)))=true
   rw[xm h0 op oq (wm hk h0),xm h0 op oq (vK hk h0),kL,kR,decide_eq_false (by omega)];rfl
  ·rename_i e
   have e: ¬cP p q>0:=fun g=>e (decide_eq_true g)
   show(!decide (cP p q≥0)&&(!(Cv.arc k w p q).inner (kQ k)&& !(Cv.arc k w p q).inner (kC k)))=true
   grind
theorem FC (vc:CvV c): ∀d∈lT c,d.mono=true:=fun d hd=>by
 obtain⟨x,hx,e⟩:=qU hd
 rw[e];exact Gp vc x hx
def T3 (a b c:Int):Prop:=(a≤0→b≤0→c≤0)∧(a<0→b≤0→c<0)∧(a≤0→b<0→c<0)
theorem MI (x y z:Re):T3 (bJ (x-y)) (bJ (y-z)) (bJ (x-z)):=by
 have e:x-z=(x-y)+(y-z):=gY fun n=>by simp only[bX,cE]<;>grind
 rw[e]
 generalize x-y=X
 generalize y-z=Y
 have h1:=ep X
 have h2:=ep Y
 unfold T3
 by_cases a:bJ X=0
 ·rw[ni a];omega
 ·by_cases b:bJ Y=0
  ·rw[dw _ b];omega
  ·by_cases c:bJ X=bJ Y
   ·rw[ln c];omega
   grind
theorem EJ (x y:Rat):aM x y=bJ (Re.of x-Re.of y):=by
 rw[←vz,←jh]
 exact congrArg bJ (gY fun n=>by simp only[cE,eE];grind)
section
variable {p q r:Pt}(hp:0≤p.c) (hq:0≤q.c) (hr:0≤r.c)
include hp hq hr
theorem Dz:T3 (cP p q) (cP q r) (cP p r):=by
 have h1:T3 (cx p q) (cx q r) (cx p r):=by rw[nU hp hq,nU hq hr,nU hp hr];exact MI _ _ _
 have h2:T3 (cy p q) (cy q r) (cy p r):=by rw[Gm hp hq,Gm hq hr,Gm hp hr];exact MI _ _ _
 have e: ∀(a b:Pt),cP a b=if cx a b≠0 then cx a b else cy a b:=fun _ _=>rfl
 unfold T3 at*
 grind
end
theorem Nk (y:Re) {x:Re}(h:bJ x=0):bJ (y*x)=0:=by rw[ee,h,qF]
theorem SY {x y:Rat}(h:bJ (Re.of x-Re.of y)=0):x=y:=by
 rw[←EJ] at h
 have:aM (x-y) 0=0:=by rw[vz];exact h
 have:=gM.1 this
 grind
theorem Nf {x y:Re}(h:bJ (x*y)=0) (hx:bJ x≠0):bJ y=0:=by
 rw[ee] at h
 exact(sn.1 h).resolve_left hx
theorem xX {x y:Rat}(h:qR x y=true):x=y:=by
 have:=beq_iff_eq.1 h
 rw[EJ] at this
 exact SY this
def Cd (c d:Cv):Bool:=gJ c d&&((c.cw==d.cw)&&(cP c.p d.p==0&&cP c.q d.q==0))
end Go.Proofs.YtkfgimjmgfoneaaGreatDoor
