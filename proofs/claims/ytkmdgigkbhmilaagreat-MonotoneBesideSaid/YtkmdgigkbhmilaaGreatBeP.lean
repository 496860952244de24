/-Plain:how curves run at their ends:slopes,and the order beside a common point. -/
import Derived.Test.YtkmdgigkbhmilaaGreatBeO
namespace Go.Proofs.YtkmdgigkbhmilaaGreat
open Go Go.RowKit
variable {w:Bool}{k:Ci}{c d x:Cv}{A' B' C' D' E' F' K' U' side:Int}{rs:List CellD}{A0 Bl O o:List Cv}{l:Ln}{j:Nat}{f p q t:Pt}{a b e z:Rat}
inductive Slp where
 |vt
 |st (s:Int)
 |vl (a b c:Rat)
variable {s:Slp}
def t7:Slp→List CellD
 | .vt=>[.i .i64 2]++dA
 | .st s=>[.i .i64 s]++dA
 | .vl a b c=>[.i .i64 0]++(cR a++cR b++cR c)
def Slp.n:Slp→Int
 | .vt=>2
 | .st s=>s
 | .vl _ _ _=>0
def Slp.cl:Slp→List CellD
 | .vl a b c=>cR a++cR b++cR c
 |_=>dA
theorem Fs (s:Slp):s.cl.length=12:=by cases s<;>rfl
theorem yB (s:Slp):(t7 s).length=13:=by cases s<;>rfl
theorem oH (s:Slp):(t7 s)[0]? =some (.i .i64 s.n):=by cases s<;>rfl
theorem FW (s:Slp):((t7 s).drop 1).take 12=s.cl:=by cases s<;>rfl
section
variable (k:Ci) (p:Pt)
def rL:Rat:=yS (p.a2-k.y) p.b2 (zc p.b2 p.c)
def tO:Rat:= -(p.a1-k.x)*((p.a2-k.y)*rL k p)+ -p.b1*(-p.b2*rL k p)*p.c
def jB:Rat:= -(p.a1-k.x)*(-p.b2*rL k p)+ -p.b1*((p.a2-k.y)*rL k p)
end
def Cv.slp:Cv→Pt→Slp
 | .seg l _ _,_=>if l.b=0 then .vt else .vl (-l.a/l.b) 0 0
 | .arc k w _ _,p=>if jL p k.y=0 then .st (if w then 1 else-1) else .vl (tO k p) (jB k p) (zc (jB k p) p.c)
def rk:Slp→Int→Int
 | .vt,s=>2*s
 | .st n,_=>n
 | .vl _ _ _,_=>0
def Cv.bnd:Cv→Int
 | .seg _ _ _=>0
 | .arc _ w _ _=>if w then-1 else 1
def Cv.qq:Cv→Rat
 | .seg _ _ _=>0
 | .arc k _ _ _=>k.q
def ph (c d:Cv):Int:=if c.bnd<d.bnd then-1 else if c.bnd>d.bnd then 1 else-c.bnd*aR c.qq d.qq
def Slp.vcmp:Slp→Slp→Int
 | .vl a b c,.vl x y z=>jm (a-x) b (-y) 0 c z
 |_,_=>0
def wW (c d:Cv) (s t:Slp) (side:Int):Int:=
 if rk s side<rk t side then-1 else if rk s side>rk t side then 1 else
 match s with
 | .vt=>0
 | .st n=>n*aR c.qq d.qq
 | .vl _ _ _=>if s.vcmp t=0 then ph c d else side*s.vcmp t
def yA (c d:Cv):Int:=if cP c.p d.p=0 then 0 else 1
def rc (c d:Cv):Int:=if cP c.p d.p=0 then wW c d (c.slp c.p) (d.slp d.p) 1 else 0
def Df (c d:Cv):Int:=if cP c.q d.q=0 then 0 else 1
def AH (c d:Cv):Int:=if cP c.q d.q=0 then wW c d (c.slp c.q) (d.slp d.q) (-1) else 0
def gB (c d:Cv):Int:=if cP c.p d.p≠0 then cP c.p d.p else if rc c d≠0 then rc c d else cP c.q d.q
theorem Yp {x y:Rat}(hz:0≤z) (hv:y≠0→0<z):vp x y z=aw (aA x y z):=by
 have hb: ∀ {w:Rat},0<w→aR w 0=1:=fun h=>by unfold aR;rw[if_neg (by grind),if_pos h]
 rw[←fZ hz]
 unfold vp bi pj
 by_cases hy:y=0
 ·subst hy
  rw[gF,if_pos (.inl rfl),nu,if_pos (.inl rfl)]
 ·have hy0:aR y 0≠0:=fun e=>hy (ij.1 e)
  rw[hb (hv hy),Int.mul_one]
  by_cases h1:aR y 0=0∨aR x 0=aR y 0
  ·grind
  ·rw[if_neg h1,if_neg h1,lI]
theorem YM {c:Rat}(h:b≠0→jp c=false) (h0:b=0→a≠0):a*a-b*b*c≠0:=by
 intro e
 by_cases hb:b=0
 ·grind
 ·have h1:=h hb
  have e2:c=(a/b)*(a/b):=by grind
  rw[e2,FM] at h1
  grind
theorem M2 (h:GP p):(p.b1≠0→0<p.c∧jp p.c=false)∧(p.b2≠0→0<p.c∧jp p.c=false):=by
 have hv:=h.v
 unfold Ax at hv
 grind
theorem Vr (h:GP p) (hc:p.c=0):p.b1=0∧p.b2=0:=by
 obtain⟨h1,h2⟩:=M2 h
 constructor
 ·grind
 grind
structure VSz (a b c:Rat):Prop where
 za:Rz 760 a
 zb:Rz 700 b
 zc:Rz 78 c
 c0:0≤c
section
variable {k:Ci}{p:Pt}(hk:GK k) (hp:GP p)
include hk hp
theorem RZ:Rz 115 (p.a1-k.x)∧Rz 115 (p.a2-k.y):=⟨(hp.a1.sub hk.x).mono (by decide),(hp.a2.sub hk.y).mono (by decide)⟩
omit hk in
theorem EB (h:jL p k.y≠0):(p.a2-k.y)*(p.a2-k.y)-p.b2*p.b2*zc p.b2 p.c≠0:=by
 refine YM (fun g=>?_) (fun g e=>h ?_)
 ·rw[iD g];exact((M2 hp).2 g).2
 ·unfold jL bi pj
  rw[g,e,gF,nu,if_pos (.inl rfl)]
omit hk in
theorem Vd:vp (p.a2-k.y) p.b2 (zc p.b2 p.c)=jL p k.y:=by
 unfold jL
 rw[Yp (ii (bz hp)) (fun g=>by rw[iD g];exact((M2 hp).2 g).1),fZ (ii (bz hp))]
omit hk in
theorem PD:s3 (p.a2-k.y) p.b2 (zc p.b2 p.c)=jL p k.y:=by
 unfold jL
 rw[Kq (ii (bz hp)) (fun g=>by rw[iD g];exact(M2 hp).2 g),fZ (ii (bz hp))]
theorem Qa (h:jL p k.y≠0):Rz 352 (rL k p)∧VSz (tO k p) (jB k p) (zc (jB k p) p.c):=by
 have hn:=EB hp h
 have hc0:=ii (b:=jB k p) (bz hp)
 have hcz:Rz 78 (zc (jB k p) p.c):=fi hp.c (by decide)
 by_cases hc:p.c=0
 ·obtain⟨z1,z2⟩:=Vr hp hc
  obtain⟨d1,d2⟩:=RZ hk hp
  have n1:Rz 231 (rL k p):=by
   unfold rL yS
   rw[z2] at hn⊢
   have e:(p.a2-k.y)*(p.a2-k.y)-0*0*zc 0 p.c=(p.a2-k.y)*(p.a2-k.y):=by grind
   rw[e] at hn⊢
   exact(jY.div (d2.mul d2) hn).mono (by decide)
  refine⟨n1.mono (by decide),⟨?_,?_,hcz,hc0⟩⟩
  ·have e:tO k p= -(p.a1-k.x)*((p.a2-k.y)*rL k p):=by unfold tO;rw[z1];grind
   rw[e];exact(d1.neg.mul (d2.mul n1)).mono (by decide)
  ·have e:jB k p=0:=by unfold jB;rw[z1,z2];grind
   rw[e];exact dL (by decide)
 ·obtain⟨i1,i2⟩:=hp.ir hc
  have d1:Rz 54 (p.a1-k.x):=(i1.sub hk.x).mono (by decide)
  have d2:Rz 54 (p.a2-k.y):=(i2.sub hk.y).mono (by decide)
  have n1:Rz 230 (rL k p):=by
   exact(jY.div (((d2.mul d2).sub ((hp.b2.mul hp.b2).mul (fi hp.c (by decide)))).mono (by decide:_≤229)) hn).mono (by decide)
  refine⟨n1.mono (by decide),⟨?_,?_,hcz,hc0⟩⟩
  ·unfold tO
   exact((d1.neg.mul (d2.mul n1)).add ((hp.b1.neg.mul (hp.b2.neg.mul n1)).mul hp.c)).mono (by decide)
  ·unfold jB
   exact((d1.neg.mul (hp.b2.neg.mul n1)).add (hp.b1.neg.mul (d2.mul n1))).mono (by decide)
omit hk hp in
theorem XD:zc (jB k p) (cc (-p.b1) (zc p.b1 p.c) (zc (-p.b2*rL k p) (zc p.b2 p.c)))=zc (jB k p) p.c:=by
 by_cases hB:jB k p=0
 ·rw[u3 hB,u3 hB]
 ·rw[iD hB,iD hB]
  by_cases h1:p.b1=0
  ·rw[HJ (by rw[h1];rfl)]
   have h2: -p.b2*rL k p≠0:=fun e=>hB (by unfold jB;rw[e,h1];grind)
   have h3:p.b2≠0:=by grind
   rw[iD h2,iD h3]
  ·rw[xn (by grind),iD h1]
omit hk hp in
theorem ZU: -(p.a1-k.x)*((p.a2-k.y)*rL k p)+ -p.b1*(-p.b2*rL k p)*cc (-p.b1) (zc p.b1 p.c) (zc (-p.b2*rL k p) (zc p.b2 p.c))=tO k p:=by
 unfold tO
 by_cases h1:p.b1=0
 ·grind
 ·rw[xn (by grind),iD h1]
omit hk in
theorem VD:jB k p≠0→cc (-p.b1) (zc p.b1 p.c) (zc (-p.b2*rL k p) (zc p.b2 p.c))≠0:=by
 intro hB e
 have h:=XD (k:=k) (p:=p)
 have hc:p.c≠0:=fun g=>hB (by obtain⟨z1,z2⟩:=Vr hp g;unfold jB;rw[z1,z2];grind)
 rw[iD hB,iD hB] at h
 grind
omit hk in
theorem Y9:rB (jB k p) (cc (-p.b1) (zc p.b1 p.c) (zc (-p.b2*rL k p) (zc p.b2 p.c)))=jB k p:=by
 by_cases hB:jB k p=0
 ·rw[JV (.inl hB),hB]
 ·rw[Xj hB (VD hp hB)]
omit hk in
theorem ZE:rC (jB k p) (cc (-p.b1) (zc p.b1 p.c) (zc (-p.b2*rL k p) (zc p.b2 p.c)))=zc (jB k p) p.c:=by
 by_cases hB:jB k p=0
 ·rw[Jd (.inl hB),u3 hB]
 ·rw[Ww hB (VD hp hB),←XD,iD hB]
omit hk hp in
theorem R3: ¬Qy (-p.b1) (zc p.b1 p.c) (-p.b2*rL k p) (zc (-p.b2*rL k p) (zc p.b2 p.c)):=by
 rintro⟨h1,h2,h3⟩
 have g1:p.b1≠0:=by grind
 have g2:p.b2≠0:=by grind
 rw[iD g1,iD h2,iD g2] at h3
 grind
omit hk in
theorem ZS:rB (-(p.b2*rL k p)) (zc p.b2 p.c)= -p.b2*rL k p:=by
 by_cases h:p.b2=0
 ·rw[JV (.inl (by rw[h];grind)),h];grind
 ·have hc:p.c≠0:=by have:=((M2 hp).2 h).1;grind
  rw[iD h]
  by_cases g: -(p.b2*rL k p)=0
  ·rw[JV (.inl g)];grind
  ·rw[Xj g hc];grind
omit hk in
theorem Z1:rC (-(p.b2*rL k p)) (zc p.b2 p.c)=zc (-p.b2*rL k p) (zc p.b2 p.c):=by
 have e: -(p.b2*rL k p)= -p.b2*rL k p:=by grind
 by_cases h:p.b2=0
 ·rw[Jd (.inl (by rw[h];grind)),u3 (by rw[h];grind)]
 ·have hc:p.c≠0:=by have:=((M2 hp).2 h).1;grind
  rw[iD h]
  by_cases g: -(p.b2*rL k p)=0
  ·rw[Jd (.inl g),u3 (e▸g)]
  ·rw[Ww g hc,iD (e▸g)]
end
theorem XP (hl:GL l) (h:l.b≠0):VSz (-l.a/l.b) 0 0:=⟨(hl.a.neg.div hl.b h).mono (by decide),dL (by decide),dL (by decide),uC⟩
theorem B7 (hl:GL l) (hp:GP p) (hq:GP q) (h1:j6 l p=0) (h2:j6 l q=0) (hn:cP p q≠0):cx p q=0↔l.b=0:=by
 have cp:=bz hp
 have cq:=bz hq
 rw[vk hp] at h1
 rw[vk hq] at h2
 have e:Re.of l.a*(pX p-pX q)+Re.of l.b*(pY p-pY q)=sj l p+ -sj l q:=aS fun n=>by unfold sj;simp only[ao,ak,am,aE,aD];grind
 have h3:aw (Re.of l.a*(pX p-pX q)+Re.of l.b*(pY p-pY q))=0:=by rw[e,dP _ (by rw[br,h2];rfl),h1]
 rw[jP cp cq]
 have hy:aw (pX p-pX q)=0→aw (pY p-pY q)≠0:=fun h g=>hn (iM.2 ⟨by rw[jP cp cq];exact h,by rw[EX cp cq];exact g⟩)
 constructor
 ·intro h
  rw[jG (by rw[aQ,h,mH]),aQ,cj] at h3
  rcases tS.1 h3 with g|g
  ·exact ij.1 g
  grind
 ·intro h
  have ha:aR l.a 0≠0:=fun g=>hl.n (by unfold dE;rw[ij.1 g,h];grind)
  rw[h,dP _ (by rw[aQ,cj,gF,nu]),aQ,cj] at h3
  rcases tS.1 h3 with g|g
  ·grind
  grind
theorem TB (hc:c.good) (hp:GP p): ∀ {a b e},c.slp p=.vl a b e→VSz a b e:=by
 intro a b e h
 cases c with
 |seg l f t=>
  have h:(if l.b=0 then Slp.vt else .vl (-l.a/l.b) 0 0)=.vl a b e:=h
  by_cases g:l.b=0
  ·grind
  ·rw[if_neg g] at h;cases h;exact XP hc.1 g
 |arc k w f t=>
  have h:(if jL p k.y=0 then Slp.st (if w then 1 else-1) else .vl (tO k p) (jB k p) (zc (jB k p) p.c))=.vl a b e:=h
  by_cases g:jL p k.y=0
  ·grind
  ·rw[if_neg g] at h;cases h;exact(Qa hc.1 hp g).2
theorem Jq {n:Int}:(Cv.seg l f t).slp p≠ .st n:=by
 intro h
 have h:(if l.b=0 then Slp.vt else .vl (-l.a/l.b) 0 0)=.st n:=h
 grind
theorem Lq (b:Rat):b+0=b:=by grind
theorem Uf (b c:Rat):zc (b+0) (cc b (zc b c) 0)=zc b c:=by
 by_cases h:b=0
 ·rw[h,HJ rfl,u3 (by grind),u3 rfl]
 ·rw[xn h,iD (by grind),iD h]
section
variable {c d:Cv}{s t:Slp}{side:Int}
theorem Q7 (h:decide (rk s side<rk t side)=true):wW c d s t side= -1:=by unfold wW;rw[if_pos (of_decide_eq_true h)]
theorem Rl (h:decide (rk s side<rk t side)=false) (g:decide (rk s side>rk t side)=true):wW c d s t side=1:=by unfold wW;rw[if_neg (of_decide_eq_false h),if_pos (of_decide_eq_true g)]
theorem Lx (h:decide (c.bnd<d.bnd)=true):ph c d= -1:=by unfold ph;rw[if_pos (of_decide_eq_true h)]
theorem L3 (h:decide (c.bnd<d.bnd)=false) (g:decide (c.bnd>d.bnd)=true):ph c d=1:=by unfold ph;rw[if_neg (of_decide_eq_false h),if_pos (of_decide_eq_true g)]
theorem FL (h:decide (c.bnd<d.bnd)=false) (g:decide (c.bnd>d.bnd)=false):ph c d= -c.bnd*aR c.qq d.qq:=by unfold ph;rw[if_neg (of_decide_eq_false h),if_neg (of_decide_eq_false g)]
end
theorem Lo:(Cv.arc k w p q).bnd=1∨(Cv.arc k w p q).bnd= -1:=by
 show(if w=true then(-1:Int) else 1)=1∨(if w=true then(-1:Int) else 1)= -1
 split
 ·grind
 grind
theorem Ae (h:(cP c.p d.p==0)=true) {t:Slp}(hs:c.slp c.p=s) (ht:d.slp d.p=t):rc c d=wW c d s t 1∧yA c d=0:=by
 unfold rc yA;rw[if_pos (by simpa using h),if_pos (by simpa using h),hs,ht];exact⟨rfl,rfl⟩
theorem VO (h:(cP c.p d.p==0)=false):rc c d=0∧yA c d=1:=by
 unfold rc yA;rw[if_neg (by simpa using h),if_neg (by simpa using h)];exact⟨rfl,rfl⟩
theorem Z2 (h:(cP c.q d.q==0)=true) {t:Slp}(hs:c.slp c.q=s) (ht:d.slp d.q=t):AH c d=wW c d s t (-1)∧Df c d=0:=by
 unfold AH Df;rw[if_pos (by simpa using h),if_pos (by simpa using h),hs,ht];exact⟨rfl,rfl⟩
theorem abp (h:(cP c.q d.q==0)=false):AH c d=0∧Df c d=1:=by
 unfold AH Df;rw[if_neg (by simpa using h),if_neg (by simpa using h)];exact⟨rfl,rfl⟩
theorem Nb {t:Slp}(hs: ∀a b c,s=.vl a b c→0≤c) (ht: ∀a b c,t=.vl a b c→0≤c):t.vcmp s= -s.vcmp t:=by
 cases s<;>cases t<;>try rfl
 rename_i a b c x y z
 have h1:=hs a b c rfl
 have h2:=ht x y z rfl
 show jm (x-a) y (-b) 0 z c= -jm (a-x) b (-y) 0 c z
 rw[kX h2 h1,kX h1 h2,jy]
theorem Ej (x y:Rat):aR y x= -aR x y:=by
 unfold aR
 by_cases h:x<y
 ·grind
 grind
theorem Fy (c:Cv): -1≤c.bnd∧c.bnd≤1:=by
 cases c with
 |seg l p q=>show(-1:Int)≤0∧(0:Int)≤1;decide
 |arc k w p q=>show-1≤(if w=true then(-1:Int) else 1)∧(if w=true then(-1:Int) else 1)≤1;split<;>decide
theorem Ng (c d:Cv):ph d c= -ph c d:=by
 unfold ph
 by_cases h:c.bnd<d.bnd
 ·grind
 ·by_cases g:d.bnd<c.bnd
  ·grind
  ·have e:c.bnd=d.bnd:=by omega
   rw[if_neg h,if_neg g,if_neg g,if_neg h,Ej c.qq d.qq,e,Int.mul_neg]
theorem Oo (hc:c.good) (hp:GP p): ∀a b e,c.slp p=.vl a b e→0≤e:=by
 intro a b e h
 cases c with
 |seg l f t=>
  have h:(if l.b=0 then Slp.vt else .vl (-l.a/l.b) 0 0)=.vl a b e:=h
  grind
 |arc k w f t=>
  have h:(if jL p k.y=0 then Slp.st (if w then 1 else-1) else .vl (tO k p) (jB k p) (zc (jB k p) p.c))=.vl a b e:=h
  split at h
  ·cases h
  ·cases h;exact ii (bz hp)
theorem OE{t:Slp}(hs: ∀a b c,s=.vl a b c→0≤c) (ht: ∀a b c,t=.vl a b c→0≤c) (h1:side=1∨side= -1)
 (ws: ∀n,s=.st n→n=1∨n= -1) (wt: ∀n,t=.st n→n=1∨n= -1):wW d c t s side= -wW c d s t side:=by
 have hv:=Nb hs ht
 unfold wW
 by_cases h:rk s side<rk t side
 ·grind
 ·by_cases g:rk t side<rk s side
  ·grind
  ·rw[if_neg g,if_neg h,if_neg h,if_neg g]
   have e:rk s side=rk t side:=by omega
   cases s with
   |vt=>
    cases t with
    |vt=>rfl
    |st n=>have:=wt n rfl;simp only[rk] at e;omega
    |vl a b c=>simp only[rk] at e;omega
   |st m=>
    have:=ws m rfl
    cases t with
    |vt=>simp only[rk] at e;omega
    |st n=>
     subst e
     show m*aR d.qq c.qq= -(m*aR c.qq d.qq)
     rw[Ej c.qq d.qq,Int.mul_neg]
    |vl a b c=>simp only[rk] at e;omega
   |vl a b c'=>
    cases t with
    |vt=>simp only[rk] at e;omega
    |st n=>have:=wt n rfl;simp only[rk] at e;omega
    |vl x y z=>
     by_cases q:(Slp.vl a b c').vcmp (.vl x y z)=0
     ·rw[if_pos (by omega),if_pos q,Ng]
     grind
theorem Jg: ∀n,c.slp p=.st n→n=1∨n= -1:=by
 intro n h
 cases c with
 |seg l f t=>
  have h:(if l.b=0 then Slp.vt else .vl (-l.a/l.b) 0 0)=.st n:=h
  grind
 |arc k w f t=>
  have h:(if jL p k.y=0 then Slp.st (if w then 1 else-1) else .vl (tO k p) (jB k p) (zc (jB k p) p.c))=.st n:=h
  grind
structure SlG (s:Slp):Prop where
 st: ∀n,s=.st n→n=1∨n= -1
 sz: ∀a b e,s=.vl a b e→VSz a b e
theorem Ei (hc:c.good) (hp:GP p):SlG (c.slp p):=⟨Jg,fun _ _ _ h=>TB hc hp h⟩
theorem wn: ∀n,c.slp p=.st n→c.isArc=true:=by
 intro n h
 cases c with
 |seg l f t=>exact absurd h Jq
 |arc k w f t=>rfl
theorem UR (h:(!c.isArc)=true):c.bnd=0:=by
 cases c with
 |seg l f t=>rfl
 |arc k w f t=>cases h
theorem PI (h:(!c.isArc)=false) (g:c.cw=true):c.bnd= -1:=by
 cases c with
 |seg l f t=>cases h
 |arc k w f t=>exact if_pos g
theorem P3 (h:(!c.isArc)=false) (g:c.cw=false):c.bnd=1:=by
 cases c with
 |seg l f t=>cases h
 |arc k w f t=>exact if_neg (by rw[show w=false from g];decide)
theorem OL (h:c.bnd≠0):c.isArc=true:=by
 cases c with
 |seg l f t=>exact absurd rfl h
 |arc k w f t=>rfl
theorem XY (h:c.bnd=d.bnd) (g:c.bnd=0):ph c d=0:=by
 rw[FL (decide_eq_false (by omega)) (decide_eq_false (by omega)),g,Int.neg_zero,nu]
section
variable {c d:Cv}{s t:Slp}{side:Int}(gs:SlG s) (gt:SlG t)
include gs
theorem Iu (h:s.n=0): ∃a b e,s=.vl a b e:=by
 cases s with
 |vt=>cases h
 |st n=>have:=gs.st n rfl;simp only[Slp.n] at h;omega
 |vl a b e=>exact⟨a,b,e,rfl⟩
theorem aaG(h2: ¬s.n=2) (h:s.n≠0): ∃n,s=.st n:=by
 cases s with
 |vt=>exact absurd rfl h2
 |st n=>exact⟨n,rfl⟩
 |vl a b e=>exact absurd rfl h
theorem ab1 (h:(s.n==2)=true):rk s side=2*side:=by
 cases s with
 |vt=>rfl
 |st n=>have:=gs.st n rfl;have h:n=2:=by simpa [Slp.n] using h
        omega
 |vl a b e=>simp[Slp.n] at h
theorem abN (h:(s.n==2)=false):rk s side=s.n:=by
 cases s with
 |vt=>exact absurd h (by decide)
 |st n=>rfl
 |vl a b e=>rfl
theorem aaY:rk s 1=s.n:=by cases s<;>rfl
include gt
set_option linter.unusedSectionVars false
variable (hs:side=1∨side= -1) (q1:decide (rk s side<rk t side)=false) (q2:decide (rk s side>rk t side)=false)
include hs q1 q2
theorem Ly (h:(s.n==2)=true):wW c d s t side=0:=by
 cases s with
 |vt=>unfold wW;rw[if_neg (of_decide_eq_false q1),if_neg (of_decide_eq_false q2)]
 |st n=>have:=gs.st n rfl;have h:n=2:=by simpa [Slp.n] using h
        omega
 |vl a b e=>simp[Slp.n] at h
theorem K6(h:(s.n==2)=false) (g:(s.n !=0)=true):wW c d s t side=s.n*aR c.qq d.qq∧(∃n,s=.st n)∧ ∃n,t=.st n:=by
 obtain⟨n,rfl⟩:=aaG gs (by simpa using h) (by simpa using g)
 have a1:=of_decide_eq_false q1
 have a2:=of_decide_eq_false q2
 have b1:=gs.st n rfl
 refine⟨?_,⟨n,rfl⟩,?_⟩
 ·unfold wW;rw[if_neg a1,if_neg a2];rfl
 ·cases t with
  |vt=>simp only[rk] at a1 a2;omega
  |st m=>exact⟨m,rfl⟩
  |vl a b e=>simp only[rk] at a1 a2;omega
theorem Kg (h:(s.n==2)=false) (g:(s.n !=0)=false):(s.n=0∧t.n=0)∧wW c d s t side=if s.vcmp t=0 then ph c d else side*s.vcmp t:=by
 have h0:s.n=0:=by grind
 obtain⟨a,b,e,rfl⟩:=Iu gs h0
 have a1:=of_decide_eq_false q1
 have a2:=of_decide_eq_false q2
 refine⟨⟨h0,?_⟩,?_⟩
 ·cases t with
  |vt=>simp only[rk] at a1 a2;omega
  |st m=>have:=gt.st m rfl;simp only[rk] at a1 a2;omega
  |vl a b e=>rfl
 ·unfold wW;rw[if_neg a1,if_neg a2]
set_option linter.unusedSectionVars true
end
theorem L0 (s t:Slp): -1≤s.vcmp t∧s.vcmp t≤1:=by
 cases s<;>cases t<;>first|exact xY _ _ _ _ _ _|exact(by decide:(-1:Int)≤0∧(0:Int)≤1)
theorem PR (h:(cP c.p d.p !=0)=true):gB c d=cP c.p d.p:=by unfold gB;rw[if_pos (by simpa using h)]
theorem L9 (h:(cP c.p d.p !=0)=false) (g:(rc c d !=0)=true):gB c d=rc c d:=by unfold gB;rw[if_neg (by simpa using h),if_pos (by simpa using g)]
theorem KF (h:(cP c.p d.p !=0)=false) (g:(rc c d !=0)=false):gB c d=cP c.q d.q:=by unfold gB;rw[if_neg (by simpa using h),if_neg (by simpa using g)]
theorem MT {c:Rat}(ha:Rz 400000 a) (hb:Rz 400000 b) (hc:Rz 400000 c) (h1:vp a b c≠0) (h2:a*a-b*b*c≠0):Ok Tryz.prog 164 [.a ((cR a++cR b++cR c))] [.a ((cR (a*yS a b c)++cR (-b*yS a b c)++cR (zc (-b*yS a b c) c))),.c (.i .i64 0)]:=by
 have o1:Rz 6000000 (1:Rat):=qe (by decide+kernel)
 have n1:Rz 2020000 (a*a-b*b*c):=((ha.mul ha).sub ((hb.mul hb).mul hc)).m_
 have n2:Rz 6000000 (a*a-b*b*c):=n1.m_
 have i1:Rz 6000000 (yS a b c):=(lT (k:=1) (qe (by decide+kernel)) n1 h2).m_
 have ka:Rz 6000000 a:=ha.m_
 have kb:Rz 6000000 (-b):=(hb.m_).neg
 have wa:Rz 1000000 a:=ha.m_
 have wb:Rz 1000000 b:=hb.m_
 have wc:Rz 1000000 c:=hc.m_
 refine bU Tryz.func164 rfl ?_
 refine ac rfl (BM wa wb wc) ?_
 refine dr rfl (fun hc1=>?_) (fun hc1=>?_)
 ·exact absurd (by simpa using hc1) h1
 ·refine cU 10 [4,999999] ?_
  refine aO rfl ((show Ok Tryz.prog 58 [.c (.i .i64 1)] [dR 1] from lg (by omega) (by omega))) ?_
  refine aO rfl (Ch wa wb wc) ?_
  refine aO rfl (Cd o1 n2 h2) ?_
  refine DQ.mk<|jj (dZ bt rfl) rfl rfl rfl rfl<|dY ?_
  refine mi rfl ?_
  refine cU 10 [] ?_
  refine aO rfl (iS (aW hb)) ?_
  refine aq (aC (us:=(cR a++cR (-b)++cR c)) rG p6 rfl rfl rfl) ?_
  refine aO rfl (Iv ka kb i1) ?_
  exact ai (a8 ez rfl (al ae))
theorem At {c d f:Rat}(hc:Rz 6000000 c) (hf:Rz 6000000 f) (hbad: ¬Qy b c e f):Ok Tryz.prog 237 [.a ((cR a++cR b++cR c)),.a ((cR d++cR e++cR f))] [dR (cc b c f),.c (.b true)]:=by
 refine bU Tryz.func237 rfl<|ac rfl (dm) ?_
 refine dr rfl (fun hc1=>?_) (fun hc1=>?_)
 ·refine ai ?_
  rw[HJ (t8 hc1)]
  exact a8 bt rfl (al ae)
 ·refine cU 16 [4,999999] ?_
  refine aO rfl (dm) ?_
  refine xi (bp rfl) (fun c2 hb2=>?_)
  cases c2
  ·refine aO rfl (oe (aW hc) (aW hf)) ?_
   refine DQ.mk<|i4 (dZ bt rfl) rfl rfl rfl rfl<|dY ?_
   refine ai ?_
   rw[xn (qa hc1),PK hbad (qa hc1) (qa hb2)]
   exact a8 bt rfl (al ae)
  ·refine DQ.mk<|H3 (dZ bt rfl) rfl rfl (by kernel_rfl) rfl<|dY ?_
   refine ai ?_
   rw[xn (qa hc1)]
   exact a8 bt rfl (al ae)
theorem yG {c d f:Rat}(ha:Rz 500000 a) (hb:Rz 500000 b) (hc:Rz 500000 c) (hd:Rz 500000 d) (he:Rz 500000 e) (hf:Rz 500000 f) (hbad: ¬Qy b c e f):Ok Tryz.prog 163 [.a ((cR a++cR b++cR c)),.a ((cR d++cR e++cR f))] [.a ((cR (a+d)++cR (b+e)++cR (zc (b+e) (cc b c f)))),.c (.i .i64 0)]:=by
 have ka:Rz 6000000 a:=ha.m_
 have kb:Rz 6000000 b:=hb.m_
 have kc:Rz 6000000 c:=hc.m_
 have kd:Rz 6000000 d:=hd.m_
 have ke:Rz 6000000 e:=he.m_
 have kf:Rz 6000000 f:=hf.m_
 refine bU Tryz.func163 rfl ?_
 refine ac rfl (At kc kf hbad) ?_
 refine mi rfl ?_
 refine cU 12 [] ?_
 refine aO rfl (nW (aW ha) (aW hd)) ?_
 refine aO rfl (nW (aW hb) (aW he)) ?_
 refine aO rfl (o6) ?_
 exact ai (a8 ez rfl (al ae))
theorem O0 {c d f:Rat}(ha:Rz 500000 a) (hb:Rz 500000 b) (hc:Rz 500000 c) (hd:Rz 500000 d) (he:Rz 500000 e) (hf:Rz 500000 f) (hbad: ¬Qy b c e f):Ok Tryz.prog 165 [.a ((cR a++cR b++cR c)),.a ((cR d++cR e++cR f))] [.a ((cR (a*d+b*e*cc b c f)++cR (a*e+b*d)++cR (zc (a*e+b*d) (cc b c f)))),.c (.i .i64 0)]:=by
 have ka:Rz 6000000 a:=ha.m_
 have kb:Rz 6000000 b:=hb.m_
 have kc:Rz 6000000 c:=hc.m_
 have kd:Rz 6000000 d:=hd.m_
 have ke:Rz 6000000 e:=he.m_
 have kf:Rz 6000000 f:=hf.m_
 have hcc:Rz 500000 (cc b c f):=by unfold cc;split<;>assumption
 have z1:Rz 6000000 (b*e):=(aF hb he).m_
 have z2:Rz 6000000 (cc b c f):=hcc.m_
 have z3:Rz 6000000 (b*e*cc b c f):=(aF (aF hb he) hcc).m_
 refine bU Tryz.func165 rfl<|ac rfl (At kc kf hbad)<|mi rfl<|cU 14 [] ?_
 refine aO rfl (dh (by first|assumption|exact eE ha (by decide)) (by first|assumption|exact eE hd (by decide))) ?_
 refine aO rfl (dh (by first|assumption|exact eE hb (by decide)) (by first|assumption|exact eE he (by decide))) ?_
 refine aO rfl (dh (by first|assumption|exact eE (aF hb he) (by decide)) (by first|assumption|exact eE (by assumption) (by decide))) ?_
 refine aO rfl (nW (by first|assumption|exact eE (aF ha hd) (by decide)) (by first|assumption|exact eE (aF (aF hb he) (by assumption)) (by decide))) ?_
 refine cU 12 [] ?_
 refine aO rfl (dh (by first|assumption|exact eE ha (by decide)) (by first|assumption|exact eE he (by decide))) ?_
 refine aO rfl (dh (by first|assumption|exact eE hb (by decide)) (by first|assumption|exact eE hd (by decide))) ?_
 refine aO rfl (nW (by first|assumption|exact eE (aF ha he) (by decide)) (by first|assumption|exact eE (aF hb hd) (by decide))) ?_
 refine ac rfl (o6) ?_
 exact ai (a8 ez rfl (al ae))
theorem Ty {c:Rat}(ha:Rz 500000 a) (hb:Rz 500000 b) (hc:Rz 500000 c) (h1:vp a b c=0):Ok Tryz.prog 164 [.a ((cR a++cR b++cR c))] [.a (dA),.c (.i .i64 6)]:=by
 refine bU Tryz.func164 rfl<|ac rfl (BM (ha.m_) (hb.m_) (hc.m_)) ?_
 refine dr rfl (fun hc1=>?_) (fun hc1=>?_)
 ·refine ar (aC (us:=dA) rG p6 rfl rfl rfl) ?_
  exact ai (a8 ez rfl (al ae))
 ·exact absurd hc1 (by rw[h1];decide)
theorem S9 {c:Rat}(ha:Rz 6000000 a) (hb:Rz 6000000 b):Ok Tryz.prog 169 [.a ((cR a++cR b++cR c))] [.a ((cR (-a)++cR (-b)++cR c))]:=by
 refine bU Tryz.func169 rfl ?_
 refine cU 9 [] ?_
 refine aO rfl (fX (aW ha)) ?_
 refine aO rfl (fX (aW hb)) ?_
 refine aq (aC (us:=(cR (-a)++cR (-b)++cR c)) rG p6 rfl rfl rfl) ?_
 exact ai (a8 ez rfl ae)
theorem NV:Ok Tryz.prog 241 [] [dR 1]:=by
 refine bU Tryz.func241 rfl<|ac rfl (cW (nC (by decide) (by decide)) (show((1:Int):Rat)=1 from rfl)) ?_
 exact ai (a8 bt rfl ae)
theorem Py {c:Rat}(ha:Rz 400000 a) (hb:Rz 400000 b) (hc:Rz 400000 c) (h1:s3 a b c≠0) (h2:a*a-b*b*c≠0):Ok Tryz.prog 167 [.a ((cR a++cR b++cR c))] [.a ((cR (a*yS a b c)++cR (rB (-(b*yS a b c)) c)++cR (rC (-(b*yS a b c)) c))),.c (.i .i64 0)]:=by
 have ka:Rz 6000000 a:=ha.m_
 have kb:Rz 6000000 b:=hb.m_
 have o1:Rz 6000000 (1:Rat):=jY.m_
 have n0:Rz 2000100 (a*a-b*b*c):=((ha.mul ha).sub ((hb.mul hb).mul hc)).m_
 have n1:Rz 2000400 (yS a b c):=(jY.div n0 h2).m_
 have n2:Rz 6000000 (yS a b c):=n1.m_
 have n3:Rz 6000000 (b*yS a b c):=(hb.mul n1).m_
 have n4:Rz 6000000 (a*a-b*b*c):=n0.m_
 refine bU Tryz.func167 rfl<|ac rfl (o9 (ha.m_) (hb.m_) (hc.m_)) ?_
 refine dr rfl (fun hc1=>?_) (fun hc1=>?_)
 ·exact absurd (by simpa using hc1) h1
 ·refine cU 10 [4,999999]<|aO rfl (NV) ?_
  refine aO rfl (Bx (ha.m_) (hb.m_) (hc.m_))<|aO rfl ((show Ok Tryz.prog 61 _ [dR (yS a b c),.c (.i .i64 0)] from lv o1 n4 h2)) ?_
  refine DQ.mk<|jj (dZ bt rfl) rfl rfl rfl rfl<|dY ?_
  refine cU 12 [] ?_
  refine aO rfl (cb (by first|assumption|exact eE ha (by decide)) (by first|assumption|exact eE (by assumption) (by decide))) ?_
  refine aO rfl (cb (by first|assumption|exact eE hb (by decide)) (by first|assumption|exact eE (by assumption) (by decide))) ?_
  refine aO rfl (fX (by first|assumption|exact eE (aF hb (by assumption)) (by decide))) ?_
  refine aO rfl (oY) ?_
  exact ai (a8 ez rfl (al ae))
theorem WS (_hl:GL l) (_hf:GP f) (_ht:GP t) (_hp:GP p) (h0:l.b=0):Ok Tryz.prog 88 [.a (([.b false]++fm l++dA++[.b false]++aj f++aj t)),.a (aj p)] [.a (([.i .i64 2]++dA))]:=by
 refine bU Tryz.func88 rfl ?_
 refine ar (bW jb rfl) ?_
 refine oC rfl ?_
 refine ar (dx (cR l.b) bt rfl (by kernel_rfl)) ?_
 refine ac rfl (dm) ?_
 refine dr rfl (fun hc1=>?_) (fun hc1=>?_)
 ·refine ar (aC (us:=([.i .i64 2]++dA)) Gl Dr rfl rfl rfl) ?_
  refine jF (dZ tC rfl) ?_
  exact ai (a8 tC rfl ae)
 ·exact absurd hc1 (by rw[h0];decide)
theorem Yq (hl:GL l) (_hf:GP f) (_ht:GP t) (_hp:GP p) (h0:l.b≠0):Ok Tryz.prog 88 [.a (([.b false]++fm l++dA++[.b false]++aj f++aj t)),.a (aj p)] [.a (([.i .i64 0]++(cR (-l.a/l.b)++cR 0++cR 0)))]:=by
 refine bU Tryz.func88 rfl ?_
 refine ar (bW jb rfl) ?_
 refine oC rfl ?_
 refine ar (dx (cR l.b) bt rfl (by kernel_rfl)) ?_
 refine ac rfl (dm) ?_
 refine dr rfl (fun hc1=>?_) (fun hc1=>?_)
 ·exact absurd (t8 hc1) h0
 ·refine cU 14 [5,999999] ?_
  refine aq (dx (cR l.a) bt rfl (by kernel_rfl)) ?_
  refine aO rfl (iS (by first|assumption|exact hl.a.m_)) ?_
  refine aq (dx (cR l.b) bt rfl (by kernel_rfl))<|aO rfl (Cd (hl.a.neg.m_) (hl.b.m_) h0) ?_
  refine DQ.mk<|jj (dZ bt rfl) rfl rfl rfl rfl<|dY ?_
  refine ac rfl (eH) ?_
  refine ar (aC (us:=([.i .i64 0]++(cR (-l.a/l.b)++cR 0++cR 0))) Gl Dr rfl rfl rfl) ?_
  refine jF (dZ tC rfl) ?_
  exact ai (a8 tC rfl ae)
theorem Wo (hk:GK k) (_hf:GP f) (_ht:GP t) (hp:GP p) (h0:jL p k.y=0):Ok Tryz.prog 88 [.a (([.b true]++dA++cg k++[.b w]++aj f++aj t)),.a (aj p)] [.a (([.i .i64 (if w then 1 else-1)]++dA))]:=by
 obtain⟨d1,d2⟩:=RZ hk hp
 have hz1:Rz 78 (zc p.b1 p.c):=fi hp.c (by decide)
 have hz2:Rz 78 (zc p.b2 p.c):=fi hp.c (by decide)
 have kx:Rz 6000000 k.x:=hk.x.m_
 have ky:Rz 6000000 k.y:=hk.y.m_
 have zf:Rz 500000 (0:Rat):=dL (by decide)
 have j1:Rz 6000000 (p.a1-k.x):=d1.m_
 have j2:Rz 6000000 p.b1:=hp.b1.m_
 refine bU Tryz.func88 rfl ?_
 refine ar (bW jb rfl) ?_
 refine mi rfl ?_
 refine cU 14 [7,999999] ?_
 refine aO rfl (mq) ?_
 refine aq (dx (cR k.x) bt rfl (by kernel_rfl)) ?_
 refine aO rfl (iS (by first|assumption|exact hl.a.m_)) ?_
 refine aO rfl (eH) ?_
 refine aO rfl (qI (yG (hp.a1.m_) (hp.b1.m_) (hz1.m_) (hk.x.neg.m_) zf zf (fun e=>e.2.1 rfl)) (wK _ _) (Lq _) (Uf _ _)) ?_
 refine DQ.mk<|jj (dZ ez rfl) rfl rfl rfl rfl<|dY ?_
 refine cU 14 [9,999999] ?_
 refine aO rfl (rd) ?_
 refine aq (dx (cR k.y) bt rfl (by kernel_rfl)) ?_
 refine aO rfl (iS (by first|assumption|exact hl.a.m_)) ?_
 refine aO rfl (eH) ?_
 refine aO rfl (qI (yG (hp.a2.m_) (hp.b2.m_) (hz2.m_) (hk.y.neg.m_) zf zf (fun e=>e.2.1 rfl)) (wK _ _) (Lq _) (Uf _ _)) ?_
 refine DQ.mk<|jj (dZ ez rfl) rfl rfl rfl rfl<|dY ?_
 refine ac rfl (Ty (d2.m_) (hp.b2.m_) (hz2.m_) ((Vd hp).trans h0)) ?_
 refine oC rfl ?_
 refine ar (bW jb rfl) ?_
 refine dr rfl (fun hc1=>?_) (fun hc1=>?_)
 ·refine ar (aC (us:=([.i .i64 1]++dA)) Gl Dr rfl rfl rfl) ?_
  refine jF (dZ tC rfl)<|ai ?_
  rw[show(if w then 1 else-1:Int)=1 from if_pos hc1]
  exact a8 tC rfl ae
 ·refine ar (aC (us:=([.i .i64 (-1)]++dA)) Gl Dr rfl rfl rfl) ?_
  refine jF (dZ tC rfl)<|ai ?_
  rw[show(if w then 1 else-1:Int)= -1 from if_neg (by rw[hc1];decide)]
  exact a8 tC rfl ae
theorem XB (hk:GK k) (_hf:GP f) (_ht:GP t) (hp:GP p) (h0:jL p k.y≠0):Ok Tryz.prog 88 [.a (([.b true]++dA++cg k++[.b w]++aj f++aj t)),.a (aj p)] [.a (([.i .i64 0]++(cR (tO k p)++cR (jB k p)++cR (zc (jB k p) p.c))))]:=by
 obtain⟨d1,d2⟩:=RZ hk hp
 have hz1:Rz 78 (zc p.b1 p.c):=fi hp.c (by decide)
 have hz2:Rz 78 (zc p.b2 p.c):=fi hp.c (by decide)
 have kx:Rz 6000000 k.x:=hk.x.m_
 have ky:Rz 6000000 k.y:=hk.y.m_
 have zf:Rz 500000 (0:Rat):=dL (by decide)
 have j1:Rz 6000000 (p.a1-k.x):=d1.m_
 have j2:Rz 6000000 p.b1:=hp.b1.m_
 have hn:=EB hp h0
 obtain⟨v1,v2⟩:=Qa hk hp h0
 have w1:Rz 500000 ((p.a2-k.y)*rL k p):=(d2.mul v1).m_
 have w2:Rz 500000 (-p.b2*rL k p):=(hp.b2.neg.mul v1).m_
 have w3:Rz 78 (zc (-p.b2*rL k p) (zc p.b2 p.c)):=fi hz2 (by decide)
 refine bU Tryz.func88 rfl ?_
 refine ar (bW jb rfl) ?_
 refine mi rfl ?_
 refine cU 14 [7,999999] ?_
 refine aO rfl (mq) ?_
 refine aq (dx (cR k.x) bt rfl (by kernel_rfl)) ?_
 refine aO rfl (iS (by first|assumption|exact hl.a.m_)) ?_
 refine aO rfl (eH) ?_
 refine aO rfl (qI (yG (hp.a1.m_) (hp.b1.m_) (hz1.m_) (hk.x.neg.m_) zf zf (fun e=>e.2.1 rfl)) (wK _ _) (Lq _) (Uf _ _)) ?_
 refine DQ.mk<|jj (dZ ez rfl) rfl rfl rfl rfl<|dY ?_
 refine cU 14 [9,999999] ?_
 refine aO rfl (rd) ?_
 refine aq (dx (cR k.y) bt rfl (by kernel_rfl)) ?_
 refine aO rfl (iS (by first|assumption|exact hl.a.m_)) ?_
 refine aO rfl (eH) ?_
 refine aO rfl (qI (yG (hp.a2.m_) (hp.b2.m_) (hz2.m_) (hk.y.neg.m_) zf zf (fun e=>e.2.1 rfl)) (wK _ _) (Lq _) (Uf _ _)) ?_
 refine DQ.mk<|jj (dZ ez rfl) rfl rfl rfl rfl<|dY ?_
 refine ac rfl ((show Ok Tryz.prog 164 _ [.a ((cR ((p.a2-k.y)*rL k p)++cR (-p.b2*rL k p)++cR (zc (-p.b2*rL k p) (zc p.b2 p.c)))),.c (.i .i64 0)] from MT (d2.m_) (hp.b2.m_) (hz2.m_) (by rw[Vd hp];exact h0) hn)) ?_
 refine mi rfl ?_
 refine cU 10 [13,999999] ?_
 refine aO rfl (MQ j1 j2) ?_
 refine aO rfl (qI (O0 (d1.neg.m_) (hp.b1.neg.m_) (hz1.m_) w1 w2 (w3.m_) R3) ZU rfl XD) ?_
 refine DQ.mk<|jj (dZ ez rfl) rfl rfl rfl rfl<|dY ?_
 refine ar (aC (us:=([.i .i64 0]++(cR (tO k p)++cR (jB k p)++cR (zc (jB k p) p.c)))) Gl Dr rfl rfl rfl) ?_
 refine jF (dZ tC rfl) ?_
 exact ai (a8 tC rfl ae)
theorem xAt (hc:CvV c) (hp:GP p):Ok Tryz.prog 88 [.a (ap c),.a (aj p)] [.a (t7 (c.slp p))]:=by
 cases c with
 |seg l f t=>
  have hl:=hc.g.1
  have hf:=hc.g.2.1
  have ht:=hc.g.2.2
  show Ok _ _ _ [.a (t7 (if l.b=0 then Slp.vt else .vl (-l.a/l.b) 0 0))]
  by_cases h0:l.b=0
  ·rw[if_pos h0];exact WS hl hf ht hp h0
  ·rw[if_neg h0];exact Yq hl hf ht hp h0
 |arc k w f t=>
  have hk:=hc.g.1
  have hf:=hc.g.2.1
  have ht:=hc.g.2.2
  show Ok _ _ _ [.a (t7 (if jL p k.y=0 then Slp.st (if w then 1 else-1) else .vl (tO k p) (jB k p) (zc (jB k p) p.c)))]
  by_cases h0:jL p k.y=0
  ·rw[if_pos h0];exact Wo hk hf ht hp h0
  ·rw[if_neg h0];exact XB hk hf ht hp h0
theorem Yj (hl:GL l) (hf:GP f) (ht:GP t) (_hp:GP p) (hv:cx f t=0) (_h0:l.b=0):Ok Tryz.prog 90 [.a (([.b false]++fm l++dA++[.b false]++aj f++aj t)),.a (aj p)] [.a (([.i .i64 2]++dA))]:=by
 refine bU Tryz.func90 rfl<|ar (gC aY rfl)<|ac rfl (Lw hl hf ht) ?_
 refine dr rfl (fun hc1=>?_) (fun hc1=>?_)
 ·refine ar (aC (us:=([.i .i64 2]++dA)) Hh DZ rfl rfl rfl) ?_
  refine jF (dZ tG rfl) ?_
  exact ai (a8 tG rfl ae)
 ·exact absurd hc1 (by rw[show(Cv.seg l f t).vert=(cx f t==0) from rfl,hv];decide)
theorem Yl (hl:GL l) (hf:GP f) (ht:GP t) (_hp:GP p) (hv:cx f t≠0) (h0:l.b≠0):Ok Tryz.prog 90 [.a (([.b false]++fm l++dA++[.b false]++aj f++aj t)),.a (aj p)] [.a (([.i .i64 0]++(cR (-l.a/l.b)++cR 0++cR 0)))]:=by
 refine bU Tryz.func90 rfl<|ar (gC aY rfl)<|ac rfl (Lw hl hf ht) ?_
 refine dr rfl (fun hc1=>?_) (fun hc1=>?_)
 ·exact absurd (by simpa using(show(cx f t==0)=true from hc1)) hv
 ·refine ar (bW jb rfl) ?_
  refine oC rfl ?_
  refine cU 14 [5,999999] ?_
  refine aq (dx (cR l.a) bt rfl (by kernel_rfl)) ?_
  refine aO rfl (fX (by first|assumption|exact hl.a.m_)) ?_
  refine aq (dx (cR l.b) bt rfl (by kernel_rfl))<|aO rfl (lv (hl.a.neg.m_) (hl.b.m_) h0) ?_
  refine DQ.mk<|jj (dZ bt rfl) rfl rfl rfl rfl<|dY ?_
  refine ac rfl (kZ) ?_
  refine ar (aC (us:=([.i .i64 0]++(cR (-l.a/l.b)++cR 0++cR 0))) Hh DZ rfl rfl rfl) ?_
  refine jF (dZ tG rfl) ?_
  exact ai (a8 tG rfl ae)
theorem XH (hk:GK k) (hf:GP f) (ht:GP t) (hp:GP p) (h0:jL p k.y=0):Ok Tryz.prog 90 [.a (([.b true]++dA++cg k++[.b w]++aj f++aj t)),.a (aj p)] [.a (([.i .i64 (if w then 1 else-1)]++dA))]:=by
 obtain⟨d1,d2⟩:=RZ hk hp
 have hz1:Rz 78 (zc p.b1 p.c):=fi hp.c (by decide)
 have hz2:Rz 78 (zc p.b2 p.c):=fi hp.c (by decide)
 have kx:Rz 6000000 k.x:=hk.x.m_
 have ky:Rz 6000000 k.y:=hk.y.m_
 have zf:Rz 500000 (0:Rat):=dL (by decide)
 have j1:Rz 6000000 (p.a1-k.x):=d1.m_
 have j2:Rz 6000000 p.b1:=hp.b1.m_
 refine bU Tryz.func90 rfl ?_
 refine ar (gC aY rfl) ?_
 refine ac rfl (KK hk hf ht) ?_
 refine mi rfl ?_
 refine ar (bW jb rfl) ?_
 refine mi rfl ?_
 refine cU 8 [] ?_
 refine aO rfl (jt) ?_
 refine aq (dx (cR k.x) bt rfl (by kernel_rfl)) ?_
 refine aO rfl (fX (by first|assumption|exact hl.a.m_)) ?_
 refine aO rfl (tj (ni (hp.a1.m_) (hk.x.neg.m_)) (wK _ _) rfl rfl) ?_
 refine cU 8 [] ?_
 refine aO rfl (zY) ?_
 refine aq (dx (cR k.y) bt rfl (by kernel_rfl)) ?_
 refine aO rfl (fX (by first|assumption|exact hl.a.m_)) ?_
 refine aO rfl (tj (ni (hp.a2.m_) (hk.y.neg.m_)) (wK _ _) rfl rfl)<|ac rfl (ck (o9 (d2.m_) (hp.b2.m_) (hz2.m_)) (PD hp)) ?_
 refine dr rfl (fun hc1=>?_) (fun hc1=>?_)
 ·refine ar (bW jb rfl) ?_
  refine dr rfl (fun hc2=>?_) (fun hc2=>?_)
  ·refine ar (aC (us:=([.i .i64 1]++dA)) Hh DZ rfl rfl rfl) ?_
   refine jF (dZ tG rfl)<|ai ?_
   rw[show(if w then 1 else-1:Int)=1 from if_pos hc2]
   exact a8 tG rfl ae
  ·refine ar (aC (us:=([.i .i64 (-1)]++dA)) Hh DZ rfl rfl rfl) ?_
   refine jF (dZ tG rfl)<|ai ?_
   rw[show(if w then 1 else-1:Int)= -1 from if_neg (by rw[hc2];decide)]
   exact a8 tG rfl ae
 ·exact absurd hc1 (by rw[h0];decide)
theorem X6 (hk:GK k) (hf:GP f) (ht:GP t) (hp:GP p) (h0:jL p k.y≠0):Ok Tryz.prog 90 [.a (([.b true]++dA++cg k++[.b w]++aj f++aj t)),.a (aj p)] [.a (([.i .i64 0]++(cR (tO k p)++cR (jB k p)++cR (zc (jB k p) p.c))))]:=by
 obtain⟨d1,d2⟩:=RZ hk hp
 have hz1:Rz 78 (zc p.b1 p.c):=fi hp.c (by decide)
 have hz2:Rz 78 (zc p.b2 p.c):=fi hp.c (by decide)
 have kx:Rz 6000000 k.x:=hk.x.m_
 have ky:Rz 6000000 k.y:=hk.y.m_
 have zf:Rz 500000 (0:Rat):=dL (by decide)
 have j1:Rz 6000000 (p.a1-k.x):=d1.m_
 have j2:Rz 6000000 p.b1:=hp.b1.m_
 have hn:=EB hp h0
 obtain⟨v1,v2⟩:=Qa hk hp h0
 have w1:Rz 500000 ((p.a2-k.y)*rL k p):=(d2.mul v1).m_
 have w2:Rz 500000 (-p.b2*rL k p):=(hp.b2.neg.mul v1).m_
 have w3:Rz 78 (zc (-p.b2*rL k p) (zc p.b2 p.c)):=fi hz2 (by decide)
 refine bU Tryz.func90 rfl ?_
 refine ar (gC aY rfl) ?_
 refine ac rfl (KK hk hf ht) ?_
 refine mi rfl ?_
 refine ar (bW jb rfl) ?_
 refine mi rfl ?_
 refine cU 8 [] ?_
 refine aO rfl (jt) ?_
 refine aq (dx (cR k.x) bt rfl (by kernel_rfl)) ?_
 refine aO rfl (fX (by first|assumption|exact hl.a.m_)) ?_
 refine aO rfl (tj (ni (hp.a1.m_) (hk.x.neg.m_)) (wK _ _) rfl rfl) ?_
 refine cU 8 [] ?_
 refine aO rfl (zY) ?_
 refine aq (dx (cR k.y) bt rfl (by kernel_rfl)) ?_
 refine aO rfl (fX (by first|assumption|exact hl.a.m_)) ?_
 refine aO rfl (tj (ni (hp.a2.m_) (hk.y.neg.m_)) (wK _ _) rfl rfl)<|ac rfl (ck (o9 (d2.m_) (hp.b2.m_) (hz2.m_)) (PD hp)) ?_
 refine dr rfl (fun hc1=>?_) (fun hc1=>?_)
 ·exact absurd (by simpa using hc1) h0
 ·refine ac rfl (qI (y':= -p.b2*rL k p) (z':=zc (-p.b2*rL k p) (zc p.b2 p.c)) (Py (d2.m_) (hp.b2.m_) (hz2.m_) (by rw[PD hp];exact h0) hn) (show _=(p.a2-k.y)*rL k p from rfl) (ZS hp) (Z1 hp)) ?_
  refine cU 10 [11,999999] ?_
  refine aO rfl (S9 j1 j2) ?_
  refine aO rfl (qI (x':=tO k p) (y':=jB k p) (z':=zc (jB k p) p.c) (DA (d1.neg.m_) (hp.b1.neg.m_) (hz1.m_) (w1.m_) (w2.m_) (w3.m_) R3) ZU (Y9 hp) (ZE hp)) ?_
  refine DQ.mk<|jj (dZ ez rfl) rfl rfl rfl rfl<|dY ?_
  refine ar (aC (us:=([.i .i64 0]++(cR (tO k p)++cR (jB k p)++cR (zc (jB k p) p.c)))) Hh DZ rfl rfl rfl) ?_
  refine jF (dZ tG rfl) ?_
  exact ai (a8 tG rfl ae)
theorem rSl (hc:CvV c) (hp:GP p):Ok Tryz.prog 90 [.a (ap c),.a (aj p)] [.a (t7 (c.slp p))]:=by
 cases c with
 |seg l f t=>
  have hl:=hc.g.1
  have hf:=hc.g.2.1
  have ht:=hc.g.2.2
  show Ok _ _ _ [.a (t7 (if l.b=0 then Slp.vt else .vl (-l.a/l.b) 0 0))]
  by_cases h0:l.b=0
  ·rw[if_pos h0];exact Yj hl hf ht hp ((B7 hl hf ht (by have:=hc.sp;simpa [Cv.supp,Cv.p] using this) (by have:=hc.sq;simpa [Cv.supp,Cv.q] using this) hc.ne).2 h0) h0
  ·rw[if_neg h0];exact Yl hl hf ht hp (fun e=>h0 ((B7 hl hf ht (by have:=hc.sp;simpa [Cv.supp,Cv.p] using this) (by have:=hc.sq;simpa [Cv.supp,Cv.q] using this) hc.ne).1 e)) h0
 |arc k w f t=>
  have hk:=hc.g.1
  have hf:=hc.g.2.1
  have ht:=hc.g.2.2
  show Ok _ _ _ [.a (t7 (if jL p k.y=0 then Slp.st (if w then 1 else-1) else .vl (tO k p) (jB k p) (zc (jB k p) p.c)))]
  by_cases h0:jL p k.y=0
  ·rw[if_pos h0];exact XH hk hf ht hp h0
  ·rw[if_neg h0];exact X6 hk hf ht hp h0
theorem LU:Ok Tryz.prog 79 [dQ 0 0] [.c (.i .i64 0)]:=by
 refine bU Tryz.func79 rfl ?_
 refine ac rfl (ck CO (show eL 0 0=0 from rfl)) ?_
 exact ai (al ae)
theorem W6:Ok Tryz.prog 145 [dQ 0 0,dQ 0 0] [.c (.i .i64 0)]:=by
 refine bU Tryz.func145 rfl ?_
 refine cU 6 [] ?_
 refine aO rfl (LU) ?_
 refine aO rfl (LU) ?_
 refine aO rfl (ck Ee (show eL 0 0=0 from rfl)) ?_
 refine mi rfl ?_
 refine cU 12 [] ?_
 refine aO rfl (R6 (jV (x:=0) (y:=0) (iw (by decide) (by decide) (by decide)) (iw (by decide) (by decide) (by decide))) (show(0:Int)*0=0 from rfl)) ?_
 refine aO rfl (R6 (jV (x:=0) (y:=0) (iw (by decide) (by decide) (by decide)) (iw (by decide) (by decide) (by decide))) (show(0:Int)*0=0 from rfl)) ?_
 refine aO rfl (ck nH (show eL 0 0=0 from rfl)) ?_
 exact ai (al ae)
theorem YG:Ok Tryz.prog 145 [.a (F8),.a (F8)] [.c (.i .i64 0)]:=by
 have h:Ok Tryz.prog 145 [dQ 0 0,dQ 0 0] [.c (.i .i64 0)]:=W6
 rw[yx] at h
 exact h
theorem PE (hc:c.good) (hd:d.good) (ac:c.isArc=true) (ad:d.isArc=true):Ok Tryz.prog 145 [.a c.qc,.a d.qc] [.c (.i .i64 (aR c.qq d.qq))]:=by
 cases c with
 |seg l f t=>cases ac
 |arc k w f t=>
  cases d with
  |seg l f t=>cases ad
  |arc k2 w2 f2 t2=>exact oe (hc.1.q.mono (by decide)) (hd.1.q.mono (by decide))
theorem X3 (hc:c.good) (hd:d.good) (h:c.bnd=d.bnd):Ok Tryz.prog 145 [.a c.qc,.a d.qc] [.c (.i .i64 (aR c.qq d.qq))]:=by
 cases c with
 |seg l f t=>
  cases d with
  |seg l2 f2 t2=>exact ck YG (show 0=aR 0 0 from(gF 0).symm)
  |arc k2 w2 f2 t2=>exact absurd (show(Cv.arc k2 w2 f2 t2).bnd=0 from h.symm) (by rcases Lo (k:=k2) (w:=w2) (p:=f2) (q:=t2) with e|e<;>rw[e]<;>decide)
 |arc k w f t=>
  cases d with
  |seg l2 f2 t2=>exact absurd (show(Cv.arc k w f t).bnd=0 from h) (by rcases Lo (k:=k) (w:=w) (p:=f) (q:=t) with e|e<;>rw[e]<;>decide)
  |arc k2 w2 f2 t2=>exact PE hc hd rfl rfl
theorem Oy (hc:c.good) (hd:d.good) (ac:c.isArc=true) (ad:d.isArc=true):Ok Tryz.prog 67 [.a c.qc,.a d.qc] [.c (.i .i64 (aR c.qq d.qq))]:=by
 cases c with
 |seg l f t=>cases ac
 |arc k w f t=>
  cases d with
  |seg l f t=>cases ad
  |arc k2 w2 f2 t2=>exact jl (hc.1.q.mono (by decide)) (hd.1.q.mono (by decide))
theorem xBd:Ok Tryz.prog 236 [.a (ap c)] [.c (.i .i64 c.bnd)]:=by
 refine bU Tryz.func236 rfl ?_
 refine ar (cT jb rfl rfl (pm _) rfl) ?_
 refine dr rfl (fun hc1=>?_) (fun hc1=>?_)
 ·refine ai ?_
  rw[UR hc1]
  exact al ae
 ·refine ar (cT jb rfl rfl (A5 _) rfl) ?_
  refine dr rfl (fun hc2=>?_) (fun hc2=>?_)
  ·refine ai ?_
   rw[PI hc1 hc2]
   exact al ae
  ·refine ai ?_
   rw[P3 hc1 hc2]
   exact al ae
theorem rBd:Ok Tryz.prog 170 [.a (ap c)] [.c (.i .i64 c.bnd)]:=by
 refine bU Tryz.func170 rfl ?_
 refine ar (cT jb rfl rfl (pm _) rfl) ?_
 refine dr rfl (fun hc1=>?_) (fun hc1=>?_)
 ·refine ai ?_
  rw[UR hc1]
  exact al ae
 ·refine ar (cT jb rfl rfl (A5 _) rfl) ?_
  refine dr rfl (fun hc2=>?_) (fun hc2=>?_)
  ·refine ai ?_
   rw[PI hc1 hc2]
   exact al ae
  ·refine ai ?_
   rw[P3 hc1 hc2]
   exact al ae
theorem aam (hc:c.good) (hd:d.good):Ok Tryz.prog 162 [.a (ap c),.a (ap d)] [.c (.i .i64 (ph c d))]:=by
 have b1:=Fy c
 have b2:=Fy d
 have hp:=gJ (s:= -c.bnd) (t:=aR c.qq d.qq) (by omega) (dK _ _)
 refine bU Tryz.func162 rfl ?_
 refine cU 6 [] ?_
 refine aq (cD (ag _) aY rfl) ?_
 refine aO rfl (xBd) ?_
 refine aq (cD (ag _) aY rfl)<|aO rfl (xBd) ?_
 refine dr rfl (fun hc1=>?_) (fun hc1=>?_)
 ·refine ai ?_
  rw[Lx hc1]
  exact al ae
 ·refine dr rfl (fun hc2=>?_) (fun hc2=>?_)
  ·refine ai ?_
   rw[L3 hc1 hc2]
   exact al ae
  ·have q0:c.bnd=d.bnd:=by have q1:=of_decide_eq_false hc1;have q2:=of_decide_eq_false hc2;omega
   refine ar (fG (r:= -c.bnd) rfl (yR b1) rfl) ?_
   refine ar (aV (us:=c.qc) bt rfl rfl (qL _) (uw _) rfl) ?_
   refine ar (aV (us:=d.qc) bt rfl rfl (qL _) (uw _) rfl) ?_
   refine ac rfl (X3 hc hd q0)<|ar (cr ((-c.bnd)*(aR c.qq d.qq)) (dF (by omega) (by omega)) rfl)<|ai ?_
   rw[FL hc1 hc2]
   exact al ae
theorem aal (hc:c.good) (hd:d.good):Ok Tryz.prog 91 [.a (ap c),.a (ap d)] [.c (.i .i64 (ph c d))]:=by
 have b1:=Fy c
 have b2:=Fy d
 have hp:=gJ (s:= -c.bnd) (t:=aR c.qq d.qq) (by omega) (dK _ _)
 refine bU Tryz.func91 rfl ?_
 refine cU 6 [] ?_
 refine aq (cD (ag _) aY rfl) ?_
 refine aO rfl (rBd) ?_
 refine aq (cD (ag _) aY rfl)<|aO rfl (rBd) ?_
 refine dr rfl (fun hc1=>?_) (fun hc1=>?_)
 ·refine dr rfl (fun hc2=>?_) (fun hc2=>?_)
  ·refine ai ?_
   rw[Lx hc2]
   exact al ae
  ·refine ai ?_
   rw[L3 hc2 (decide_eq_true (by have q1:=of_decide_eq_false hc2;have q2: ¬c.bnd=d.bnd:=(by simpa using hc1);omega))]
   exact al ae
 ·have q0:c.bnd=d.bnd:=by simpa using hc1
  refine dr rfl (fun hc3=>?_) (fun hc3=>?_)
  ·refine ai ?_
   rw[XY q0 (by simpa using hc3)]
   exact al ae
  ·have q1:c.bnd≠0:=by simpa using hc3
   refine ar (fG (r:= -c.bnd) rfl (yR b1) rfl) ?_
   refine ar (aV (us:=c.qc) bt rfl rfl (qL _) (uw _) rfl) ?_
   refine ar (aV (us:=d.qc) bt rfl rfl (qL _) (uw _) rfl) ?_
   refine ac rfl (Oy hc hd (OL q1) (OL (q0▸q1)))<|ar (cr ((-c.bnd)*(aR c.qq d.qq)) (dF (by omega) (by omega)) rfl)<|ai ?_
   rw[FL (decide_eq_false (by omega)) (decide_eq_false (by omega))]
   exact al ae
theorem xRk (hs:side=1∨side= -1) (gs:SlG s):Ok Tryz.prog 161 [.a (t7 s),.c (.p ([.i .i64 side]))] [.c (.i .i64 (rk s side))]:=by
 refine bU Tryz.func161 rfl ?_
 refine ar (cT II rfl rfl (oH _) rfl) ?_
 refine dr rfl (fun hc1=>?_) (fun hc1=>?_)
 ·refine ar (BH II rfl rfl rfl) ?_
  refine ar (cr (2*side) (dF (by omega) (by omega)) rfl)<|ai ?_
  rw[ab1 gs hc1]
  exact al ae
 ·refine ar (cT II rfl rfl (oH _) rfl) ?_
  refine ai ?_
  rw[abN gs hc1]
  exact al ae
theorem ZV {u v u2 v2 z2:Rat}(hz:VSz u v z) (hz2:VSz u2 v2 z2):Ok Tryz.prog 72 [.a ((cR u++cR v++cR z)),.a ((cR u2++cR v2++cR z2))] [.c (.i .i64 (jm (u-u2) v (-v2) 0 z z2))]:=by
 refine bU Tryz.func72 rfl ?_
 refine ac rfl (HM (hz.za.m_) (hz.zb.m_) (hz2.za.m_) (hz2.zb.m_)) ?_
 refine ac rfl (Dl ((hz.za.sub hz2.za).m_) (hz.zb.m_) (hz2.zb.neg.m_) (dL (by decide)) (hz.zc.m_) (hz2.zc.m_)) ?_
 exact ai (al ae)
theorem ZZ {t:Slp}(gs:SlG s) (gt:SlG t) (h:s.n=0∧t.n=0):Ok Tryz.prog 76 [.a s.cl,.a t.cl] [.c (.i .i64 (s.vcmp t))]:=by
 obtain⟨u,v,z,rfl⟩:=Iu gs h.1
 obtain⟨u2,v2,z2,rfl⟩:=Iu gt h.2
 have hz:=gs.sz _ _ _ rfl
 have hz2:=gt.sz _ _ _ rfl
 exact ny (hz.za.mono (by decide)) (hz.zb.mono (by decide)) (hz.zc.mono (by decide)) (hz2.za.mono (by decide)) (hz2.zb.mono (by decide)) (hz2.zc.mono (by decide)) ((hz.za.sub hz2.za).mono (by decide)) hz.c0 hz2.c0
theorem aa6 {t:Slp}(gs:SlG s) (gt:SlG t) (h:s.n=0∧t.n=0):Ok Tryz.prog 72 [.a s.cl,.a t.cl] [.c (.i .i64 (s.vcmp t))]:=by
 obtain⟨u,v,z,rfl⟩:=Iu gs h.1
 obtain⟨u2,v2,z2,rfl⟩:=Iu gt h.2
 have hz:=gs.sz _ _ _ rfl
 have hz2:=gt.sz _ _ _ rfl
 exact ZV hz hz2
theorem aak(hc:c.good) (hd:d.good) {t:Slp}(gs:SlG s) (gt:SlG t) (as_: ∀n,s=.st n→c.isArc=true) (at_: ∀n,t=.st n→d.isArc=true) (hs:side=1∨side= -1):Ok Tryz.prog 87 [.a (ap c),.a (ap d),.a (t7 s),.a (t7 t),.c (.i .i64 side)] [.c (.i .i64 (wW c d s t side))]:=by
 have qb:=L0 s t
 have hp:=gJ (s:=side) (t:=s.vcmp t) (by omega) qb
 refine fD Tryz.func87 61 [.tmp 10] rfl<|aa<|ah<|aa<|mG (t:=9) (k:=9) rfl rfl<|ah<|ar (nZ (us:=[.p ([.i .i64 side])]) rfl rfl) ?_
 refine aa ?_
 refine di 8 [] ?_
 refine aq (cD (yB _) tC rfl) ?_
 refine aq (je rfl rfl (xRk hs gs) rfl) ?_
 refine aq (cD (yB _) tC rfl)<|aq (je rfl rfl (xRk hs gt) rfl) ?_
 refine aa<|aT<|aa<|ah ?_
 refine aX rfl (fun hc1=>?_) (fun hc1=>?_)
 ·refine aa<|ah<|bb ?_
  rw[Q7 hc1]
  exact ai (al ae)
 ·refine aa<|ah ?_
  refine aX rfl (fun hc2=>?_) (fun hc2=>?_)
  ·refine aa<|ah<|bb ?_
   rw[Rl hc1 hc2]
   exact ai (al ae)
  ·refine aa ?_
   refine ah ?_
   refine ar (cT II rfl rfl (oH _) rfl) ?_
   refine aX rfl (fun hc3=>?_) (fun hc3=>?_)
   ·refine aa<|ah<|bb ?_
    rw[Ly gs gt hs hc1 hc2 hc3]
    exact ai (al ae)
   ·refine aa ?_
    refine ah ?_
    refine ar (cT II rfl rfl (oH _) rfl) ?_
    refine aX rfl (fun hc4=>?_) (fun hc4=>?_)
    ·have y1:=K6 (c:=c) (d:=d) gs gt hs hc1 hc2 hc3 hc4
     have qn:s.n=1∨s.n= -1:=y1.2.1.elim fun n e=>by have:=gs.st n e;subst e;exact this
     have hp2:=gJ (s:=s.n) (t:=aR c.qq d.qq) (by omega) (dK _ _)
     refine aa ?_
     refine di 11 [] ?_
     refine aq (cT II rfl rfl (oH _) rfl) ?_
     refine aq (aV (us:=c.qc) bt rfl rfl (qL _) (uw _) rfl) ?_
     refine aq (aV (us:=d.qc) bt rfl rfl (qL _) (uw _) rfl) ?_
     refine aO rfl (PE hc hd (y1.2.1.elim as_) (y1.2.2.elim at_))<|aq (cr (s.n*(aR c.qq d.qq)) (dF (by omega) (by omega)) rfl)<|bb ?_
     rw[y1.1]
     exact ai (al ae)
    ·have y1:=Kg (c:=c) (d:=d) gs gt hs hc1 hc2 hc3 hc4
     refine aJ ?_
     refine aa ?_
     refine aa ?_
     refine ah ?_
     refine ar (aV (us:=s.cl) ez rfl rfl (FW _) (Fs _) rfl) ?_
     refine ar (aV (us:=t.cl) ez rfl rfl (FW _) (Fs _) rfl) ?_
     refine ac rfl (ZZ gs gt y1.1)<|aa<|ah ?_
     refine aX rfl (fun hc5=>?_) (fun hc5=>?_)
     ·refine aa<|ah<|ar (BH II rfl rfl rfl) ?_
      refine ar (cr (side*(s.vcmp t)) (dF (by omega) (by omega)) rfl)<|bb ?_
      rw[y1.2,if_neg (by simpa using hc5)]
      exact ai (al ae)
     ·refine aJ ?_
      refine aa ?_
      refine ah ?_
      refine ar (cD (ag _) aY rfl) ?_
      refine ar (cD (ag _) aY rfl) ?_
      refine ac rfl (aam hc hd) ?_
      refine bb ?_
      rw[y1.2,if_pos (by simpa using hc5)]
      exact ai (al ae)
theorem xR_ (vc:CvV c) (vd:CvV d) {t:Slp}(es:c.slp c.p=s) (et:d.slp d.p=t):Ok Tryz.prog 24 [.a (ap c),.a (ap d)] [.c (.i .i64 (rc c d)),.c (.i .i64 (yA c d))]:=by
 have hc:=vc.g
 have hd:=vd.g
 have gs:SlG s:=es▸Ei hc (cn hc)
 have gt:SlG t:=et▸Ei hd (cn hd)
 have as_: ∀n,s=.st n→c.isArc=true:=es▸wn
 have at_: ∀n,t=.st n→d.isArc=true:=et▸wn
 refine bU Tryz.func24 rfl ?_
 refine ar (aV (us:=aj c.p) bv rfl rfl (fl _) rfl rfl) ?_
 refine ar (aV (us:=aj d.p) bv rfl rfl (fl _) rfl rfl) ?_
 refine ac rfl (ym (cn hc) (cn hd)) ?_
 refine dr rfl (fun hc1=>?_) (fun hc1=>?_)
 ·have y1:=VO (c:=c) (d:=d) (by simpa using hc1)
  refine ai ?_
  rw[y1.1,y1.2]
  exact al (al ae)
 ·refine cU 13 [] ?_
  refine aq (cD (ag _) aY rfl) ?_
  refine aq (cD (ag _) aY rfl) ?_
  refine aq (cD (ag _) aY rfl) ?_
  refine aq (aV (us:=aj c.p) bv rfl rfl (fl _) rfl rfl) ?_
  refine aO rfl ((show Ok _ _ _ [.a (t7 s)] from es▸xAt vc (cn hc))) ?_
  refine aq (cD (ag _) aY rfl) ?_
  refine aq (aV (us:=aj d.p) bv rfl rfl (fl _) rfl rfl) ?_
  refine aO rfl ((show Ok _ _ _ [.a (t7 t)] from et▸xAt vd (cn hd)))<|aO rfl (aak hc hd gs gt as_ at_ (.inl rfl)) ?_
  have y1:=Ae (c:=c) (d:=d) (by simpa using hc1) es et
  refine ai ?_
  rw[y1.1,y1.2]
  exact al (al ae)
theorem rR_ (vc:CvV c) (vd:CvV d) {t:Slp}(es:c.slp c.p=s) (et:d.slp d.p=t):Ok Tryz.prog 25 [.a (ap c),.a (ap d)] [.c (.i .i64 (rc c d)),.c (.i .i64 (yA c d))]:=by
 have hc:=vc.g
 have hd:=vd.g
 have gs:SlG s:=es▸Ei hc (cn hc)
 have gt:SlG t:=et▸Ei hd (cn hd)
 have as_: ∀n,s=.st n→c.isArc=true:=es▸wn
 have at_: ∀n,t=.st n→d.isArc=true:=et▸wn
 refine bU Tryz.func25 rfl ?_
 refine ar (aV (us:=aj c.p) bv rfl rfl (fl _) rfl rfl) ?_
 refine ar (aV (us:=aj d.p) bv rfl rfl (fl _) rfl rfl) ?_
 refine ac rfl (LM (cn hc) (cn hd)) ?_
 refine dr rfl (fun hc1=>?_) (fun hc1=>?_)
 ·have y1:=VO (c:=c) (d:=d) (by simpa using hc1)
  refine ai ?_
  rw[y1.1,y1.2]
  exact al (al ae)
 ·have r1:rk s (1)=s.n:=aaY gs
  have r2:rk t (1)=t.n:=aaY gt
  refine cU 10 [] ?_
  refine aq (cD (ag _) aY rfl) ?_
  refine aq (aV (us:=aj c.p) bv rfl rfl (fl _) rfl rfl) ?_
  refine aO rfl ((show Ok _ _ _ [.a (t7 s)] from es▸rSl vc (cn hc))) ?_
  refine aq (cD (ag _) aY rfl) ?_
  refine aq (aV (us:=aj d.p) bv rfl rfl (fl _) rfl rfl) ?_
  refine aO rfl ((show Ok _ _ _ [.a (t7 t)] from et▸rSl vd (cn hd)))<|jF (bn tG rfl rfl rfl (yB _) rfl rfl) ?_
  refine jF (bn tG rfl rfl rfl (yB _) rfl rfl) ?_
  refine ar (cT II rfl rfl (oH _) rfl) ?_
  refine ar (cT II rfl rfl (oH _) rfl) ?_
  refine dr rfl (fun hc2=>?_) (fun hc2=>?_)
  ·refine ar (cT II rfl rfl (oH _) rfl) ?_
   refine ar (cT II rfl rfl (oH _) rfl) ?_
   refine dr rfl (fun hc3=>?_) (fun hc3=>?_)
   ·have y1:=Ae (c:=c) (d:=d) (by simpa using hc1) es et
    have z1:wW c d s t (1)= -1:=Q7 (by rw[r1,r2];exact hc3)
    refine ai ?_
    rw[y1.1,y1.2,z1]
    exact al (al ae)
   ·have y1:=Ae (c:=c) (d:=d) (by simpa using hc1) es et
    have z1:wW c d s t (1)=1:=Rl (by rw[r1,r2];exact hc3) (by rw[r1,r2];exact decide_eq_true (by have q1:=of_decide_eq_false hc3;have q2: ¬(s.n:Int)=t.n:=(by simpa using hc2);omega))
    refine ai ?_
    rw[y1.1,y1.2,z1]
    exact al (al ae)
  ·have q1:s.n=t.n:=by simpa using hc2
   have q2:decide (rk s (1)<rk t (1))=false:=by rw[r1,r2];exact decide_eq_false (by omega)
   have q3:decide (rk s (1)>rk t (1))=false:=by rw[r1,r2];exact decide_eq_false (by omega)
   refine ar (cT II rfl rfl (oH _) rfl) ?_
   refine dr rfl (fun hc4=>?_) (fun hc4=>?_)
   ·have y1:=Ae (c:=c) (d:=d) (by simpa using hc1) es et
    have z1:wW c d s t (1)=0:=Ly gs gt (.inl rfl) q2 q3 hc4
    refine ai ?_
    rw[y1.1,y1.2,z1]
    exact al (al ae)
   ·refine ar (cT II rfl rfl (oH _) rfl) ?_
    refine dr rfl (fun hc5=>?_) (fun hc5=>?_)
    ·have y2:=K6 (c:=c) (d:=d) gs gt (.inl rfl) q2 q3 hc4 hc5
     have qn:s.n=1∨s.n= -1:=y2.2.1.elim fun n e=>by have:=gs.st n e;subst e;exact this
     have hp2:=gJ (s:=s.n) (t:=aR c.qq d.qq) (by omega) (dK _ _)
     refine cU 12 [] ?_
     refine aq (cT II rfl rfl (oH _) rfl) ?_
     refine aq (aV (us:=c.qc) bt rfl rfl (qL _) (uw _) rfl) ?_
     refine aq (aV (us:=d.qc) bt rfl rfl (qL _) (uw _) rfl) ?_
     refine aO rfl (Oy hc hd (y2.2.1.elim as_) (y2.2.2.elim at_))<|aq (cr (s.n*(aR c.qq d.qq)) (dF (by omega) (by omega)) rfl) ?_
     have y1:=Ae (c:=c) (d:=d) (by simpa using hc1) es et
     have z1:=y2.1
     refine ai ?_
     rw[y1.1,y1.2,z1]
     exact al (al ae)
    ·have y2:=Kg (c:=c) (d:=d) gs gt (.inl rfl) q2 q3 hc4 hc5
     have qb:=L0 s t
     refine ar (aV (us:=s.cl) ez rfl rfl (FW _) (Fs _) rfl) ?_
     refine ar (aV (us:=t.cl) ez rfl rfl (FW _) (Fs _) rfl) ?_
     refine ac rfl (aa6 gs gt y2.1) ?_
     refine dr rfl (fun hc6=>?_) (fun hc6=>?_)
     ·have y1:=Ae (c:=c) (d:=d) (by simpa using hc1) es et
      have z0: ¬s.vcmp t=0:=by simpa using hc6
      have z1:=y2.2
      refine ai ?_
      rw[if_neg z0,show(1)*s.vcmp t=s.vcmp t from by omega] at z1
      rw[y1.1,y1.2,z1]
      exact al (al ae)
     ·refine ar (cD (ag _) aY rfl) ?_
      refine ar (cD (ag _) aY rfl) ?_
      refine ac rfl (aal hc hd) ?_
      have y1:=Ae (c:=c) (d:=d) (by simpa using hc1) es et
      have z0:s.vcmp t=0:=by simpa using hc6
      have z1:=y2.2
      refine ai ?_
      rw[if_pos z0] at z1
      rw[y1.1,y1.2,z1]
      exact al (al ae)
theorem Uj (vc:CvV c) (vd:CvV d):Ok Tryz.prog 24 [.a (ap c),.a (ap d)] [.c (.i .i64 (rc c d)),.c (.i .i64 (yA c d))]:=xR_ vc vd rfl rfl
theorem abI (vc:CvV c) (vd:CvV d):Ok Tryz.prog 25 [.a (ap c),.a (ap d)] [.c (.i .i64 (rc c d)),.c (.i .i64 (yA c d))]:=rR_ vc vd rfl rfl
theorem xL_ (vc:CvV c) (vd:CvV d) {t:Slp}(es:c.slp c.q=s) (et:d.slp d.q=t):Ok Tryz.prog 29 [.a (ap c),.a (ap d)] [.c (.i .i64 (AH c d)),.c (.i .i64 (Df c d))]:=by
 have hc:=vc.g
 have hd:=vd.g
 have gs:SlG s:=es▸Ei hc (dy hc)
 have gt:SlG t:=et▸Ei hd (dy hd)
 have as_: ∀n,s=.st n→c.isArc=true:=es▸wn
 have at_: ∀n,t=.st n→d.isArc=true:=et▸wn
 refine bU Tryz.func29 rfl ?_
 refine ar (aV (us:=aj c.q) bv rfl rfl (f5 _) rfl rfl) ?_
 refine ar (aV (us:=aj d.q) bv rfl rfl (f5 _) rfl rfl) ?_
 refine ac rfl (ym (dy hc) (dy hd)) ?_
 refine dr rfl (fun hc1=>?_) (fun hc1=>?_)
 ·have y1:=abp (c:=c) (d:=d) (by simpa using hc1)
  refine ai ?_
  rw[y1.1,y1.2]
  exact al (al ae)
 ·refine cU 13 [] ?_
  refine aq (cD (ag _) aY rfl) ?_
  refine aq (cD (ag _) aY rfl) ?_
  refine aq (cD (ag _) aY rfl) ?_
  refine aq (aV (us:=aj c.q) bv rfl rfl (f5 _) rfl rfl) ?_
  refine aO rfl ((show Ok _ _ _ [.a (t7 s)] from es▸xAt vc (dy hc))) ?_
  refine aq (cD (ag _) aY rfl) ?_
  refine aq (aV (us:=aj d.q) bv rfl rfl (f5 _) rfl rfl) ?_
  refine aO rfl ((show Ok _ _ _ [.a (t7 t)] from et▸xAt vd (dy hd)))<|aO rfl (aak hc hd gs gt as_ at_ (.inr rfl)) ?_
  have y1:=Z2 (c:=c) (d:=d) (by simpa using hc1) es et
  refine ai ?_
  rw[y1.1,y1.2]
  exact al (al ae)
theorem aao (vc:CvV c) (vd:CvV d):Ok Tryz.prog 29 [.a (ap c),.a (ap d)] [.c (.i .i64 (AH c d)),.c (.i .i64 (Df c d))]:=xL_ vc vd rfl rfl
theorem abl (vc:CvV c) (vd:CvV d):Ok Tryz.prog 26 [.a (ap c),.a (ap d)] [.c (.i .i64 (gB c d))]:=by
 have hc:=vc.g
 have hd:=vd.g
 refine bU Tryz.func26 rfl ?_
 refine ar (aV (us:=aj c.p) bv rfl rfl (fl _) rfl rfl) ?_
 refine ar (aV (us:=aj d.p) bv rfl rfl (fl _) rfl rfl) ?_
 refine ac rfl (EQ (cn hc) (cn hd)) ?_
 refine dr rfl (fun hc1=>?_) (fun hc1=>?_)
 ·refine ai ?_
  rw[PR hc1]
  exact al ae
 ·refine ar (cD (ag _) aY rfl) ?_
  refine ar (cD (ag _) aY rfl) ?_
  refine ac rfl (Uj vc vd) ?_
  refine kT (bp rfl) (fun c2 hb2=>?_)
  cases c2
  ·exact absurd hb2 (by rw[(Ae (c:=c) (d:=d) (by simpa using hc1) rfl rfl).2];decide)
  ·refine dr rfl (fun hc3=>?_) (fun hc3=>?_)
   ·refine ai ?_
    rw[L9 hc1 hc3]
    exact al ae
   ·refine ar (aV (us:=aj c.q) bv rfl rfl (f5 _) rfl rfl) ?_
    refine ar (aV (us:=aj d.q) bv rfl rfl (f5 _) rfl rfl) ?_
    refine ac rfl (EQ (dy hc) (dy hd))<|ai ?_
    rw[KF hc1 hc3]
    exact al ae
theorem Vf (vc:CvV c) (vd:CvV d):Ok Tryz.prog 27 [.a (ap c),.a (ap d)] [.c (.i .i64 (gB c d))]:=by
 have hc:=vc.g
 have hd:=vd.g
 refine bU Tryz.func27 rfl ?_
 refine ar (aV (us:=aj c.p) bv rfl rfl (fl _) rfl rfl) ?_
 refine ar (aV (us:=aj d.p) bv rfl rfl (fl _) rfl rfl) ?_
 refine ac rfl (oz (cn hc) (cn hd)) ?_
 refine dr rfl (fun hc1=>?_) (fun hc1=>?_)
 ·refine ai ?_
  rw[PR hc1]
  exact al ae
 ·refine ar (cD (ag _) aY rfl) ?_
  refine ar (cD (ag _) aY rfl) ?_
  refine ac rfl (abI vc vd) ?_
  refine dr rfl (fun hc2=>?_) (fun hc2=>?_)
  ·refine ai ?_
   rw[L9 hc1 hc2]
   exact al ae
  ·refine ar (aV (us:=aj c.q) bv rfl rfl (f5 _) rfl rfl) ?_
   refine ar (aV (us:=aj d.q) bv rfl rfl (f5 _) rfl rfl) ?_
   refine ac rfl (oz (dy hc) (dy hd))<|ai ?_
   rw[KF hc1 hc2]
   exact al ae
theorem JT {K U A B C D E F N:Int}(_hN:0≤N∧N≤255) (hO1:Ok Tryz.prog 98 [.a (([.i .u8 K]++[.i .u8 U]++[.i .i8 A]++[.i .i8 B]++[.i .i8 C]++[.i .i8 D]++[.i .i8 E]++[.i .i8 F]))] [.c (.s ((A0).length) (aI ap (A0)))]) (hO2:Ok Tryz.prog 98 [.a (([.i .u8 K']++[.i .u8 U']++[.i .i8 A']++[.i .i8 B']++[.i .i8 C']++[.i .i8 D']++[.i .i8 E']++[.i .i8 F']))] [.c (.s ((Bl).length) (aI ap (Bl)))]) (h0:A0=[]):Ok Tryz.prog 36 [.a ((([.i .u8 K]++[.i .u8 U]++[.i .i8 A]++[.i .i8 B]++[.i .i8 C]++[.i .i8 D]++[.i .i8 E]++[.i .i8 F])++([.i .u8 K']++[.i .u8 U']++[.i .i8 A']++[.i .i8 B']++[.i .i8 C']++[.i .i8 D']++[.i .i8 E']++[.i .i8 F'])++[.i .u8 N]))] [.a (([.b false]++dA++dA++[.b false]++r8++r8)),.c (.b false)]:=by
 refine fD Tryz.func36 59 [.cell 2 48,.tmp 3] rfl ?_
 refine aa ?_
 refine ah ?_
 refine aa ?_
 refine di 8 [] ?_
 refine aq (ji (([.i .u8 K]++[.i .u8 U]++[.i .i8 A]++[.i .i8 B]++[.i .i8 C]++[.i .i8 D]++[.i .i8 E]++[.i .i8 F])) UA rfl) ?_
 refine aO rfl (hO1) ?_
 refine aq (ji (([.i .u8 K']++[.i .u8 U']++[.i .i8 A']++[.i .i8 B']++[.i .i8 C']++[.i .i8 D']++[.i .i8 E']++[.i .i8 F'])) UA rfl)<|aO rfl (hO2) ?_
 refine aa<|aa<|bo<|bR 2 ?_
 refine a7 (aZ (c:=true) (fe rfl) (by rw[h0];rfl)) ?_
 refine bj<|cO rfl<|aa<|bo<|a7 (aC (us:=([.b false]++dA++dA++[.b false]++r8++r8)) Jz AE rfl rfl rfl) ?_
 refine fN<|bb ?_
 exact ai (gE (us:=([.b false]++dA++dA++[.b false]++r8++r8)) aY rfl rfl (by kernel_rfl) (by kernel_rfl) (al ae))
theorem Qj {K U A B C D E F N:Int}(hN:0≤N∧N≤255) (hO1:Ok Tryz.prog 98 [.a (([.i .u8 K]++[.i .u8 U]++[.i .i8 A]++[.i .i8 B]++[.i .i8 C]++[.i .i8 D]++[.i .i8 E]++[.i .i8 F]))] [.c (.s ((A0).length) (aI ap (A0)))]) (hO2:Ok Tryz.prog 98 [.a (([.i .u8 K']++[.i .u8 U']++[.i .i8 A']++[.i .i8 B']++[.i .i8 C']++[.i .i8 D']++[.i .i8 E']++[.i .i8 F']))] [.c (.s ((Bl).length) (aI ap (Bl)))]) (hg:CvG (A0.getD 0 bV)) (h0:0<A0.length) (hB: ∀d∈Bl,d.good) (lB:Bl.length≤2):Ok Tryz.prog 36 [.a ((([.i .u8 K]++[.i .u8 U]++[.i .i8 A]++[.i .i8 B]++[.i .i8 C]++[.i .i8 D]++[.i .i8 E]++[.i .i8 F])++([.i .u8 K']++[.i .u8 U']++[.i .i8 A']++[.i .i8 B']++[.i .i8 C']++[.i .i8 D']++[.i .i8 E']++[.i .i8 F'])++[.i .u8 N]))] [.a (ap (((Et A0 Bl).getD (N.toNat%(Et A0 Bl).length) bV))),.c (.b true)]:=by
 have hA0:=h0
 have hpos:=GX (A0:=A0) (Bl:=Bl) hg.ne
 obtain⟨ix,eix⟩: ∃ix,ix=N.toNat%(Et A0 Bl).length:=⟨_,rfl⟩
 have hix:ix<(Et A0 Bl).length:=by rw[eix];exact Nat.mod_lt _ hpos
 have hCU: ∀p∈(fO (A0.getD 0 bV) Bl),GP p∧_:=AK hg.g hB
 have e1P:(Et A0 Bl).length=(fk (A0.getD 0 bV) (fO (A0.getD 0 bV) Bl)).length:=rfl
 refine fD Tryz.func36 59 [.cell 2 48,.tmp 3] rfl ?_
 refine aa ?_
 refine ah ?_
 refine aa ?_
 refine di 8 [] ?_
 refine aq (ji (([.i .u8 K]++[.i .u8 U]++[.i .i8 A]++[.i .i8 B]++[.i .i8 C]++[.i .i8 D]++[.i .i8 E]++[.i .i8 F])) UA rfl) ?_
 refine aO rfl (hO1) ?_
 refine aq (ji (([.i .u8 K']++[.i .u8 U']++[.i .i8 A']++[.i .i8 B']++[.i .i8 C']++[.i .i8 D']++[.i .i8 E']++[.i .i8 F'])) UA rfl)<|aO rfl (hO2) ?_
 refine aa<|aa<|bo<|bR 2<|a7 (aZ (c:=false) (fe rfl) (by simpa using Nat.ne_of_gt h0)) ?_
 refine bj<|ba rfl<|aJ<|aa<|bo<|a7 (gV rfl) ?_
 refine bj ?_
 refine jd (ι:=Unit) (fun i=>⟨59,[(1,.p 1 0),(2,.p 2 0),(4,.v (.c (.s ((A0).length) (aI ap (A0))))),(5,.v (.c (.s ((Bl).length) (aI ap (Bl))))),(6,.v (.c (.s (((fO (A0.getD 0 bV) Bl)).length) (aI aj ((fO (A0.getD 0 bV) Bl))))))],[(1,26,(([.i .u8 K]++[.i .u8 U]++[.i .i8 A]++[.i .i8 B]++[.i .i8 C]++[.i .i8 D]++[.i .i8 E]++[.i .i8 F])++([.i .u8 K']++[.i .u8 U']++[.i .i8 A']++[.i .i8 B']++[.i .i8 C']++[.i .i8 D']++[.i .i8 E']++[.i .i8 F'])++[.i .u8 N])),(2,48,([.b false]++dA++dA++[.b false]++r8++r8))]⟩) ?_ ?_
 ·refine aa<|ah<|aT ?_
  refine bF (ι:=Sum ({n:Nat // n≤Bl.length∧(fO (A0.getD 0 bV) (Bl.take n))=[]}) ({x9:Nat×Nat×List CellD // x9.1≤Bl.length∧(fO (A0.getD 0 bV) (Bl.take x9.1)).length≤x9.2.1∧x9.2.1≤maxLen∧x9.2.2.length=(x9.2.1-(fO (A0.getD 0 bV) (Bl.take x9.1)).length)*20})) (fun i=>match i with| .inl i=>⟨59,[(1,.p 1 0),(2,.p 2 0),(4,.v (.c (.s ((A0).length) (aI ap (A0))))),(5,.v (.c (.s ((Bl).length) (aI ap (Bl))))),(6,.z),(7,.v (.c (.i .i64 (i.1:Int))))],[(1,26,(([.i .u8 K]++[.i .u8 U]++[.i .i8 A]++[.i .i8 B]++[.i .i8 C]++[.i .i8 D]++[.i .i8 E]++[.i .i8 F])++([.i .u8 K']++[.i .u8 U']++[.i .i8 A']++[.i .i8 B']++[.i .i8 C']++[.i .i8 D']++[.i .i8 E']++[.i .i8 F'])++[.i .u8 N])),(2,48,([.b false]++dA++dA++[.b false]++r8++r8))]⟩| .inr i=>⟨59,[(1,.p 1 0),(2,.p 2 0),(4,.v (.c (.s ((A0).length) (aI ap (A0))))),(5,.v (.c (.s ((Bl).length) (aI ap (Bl))))),(6,.o 41 ((fO (A0.getD 0 bV) (Bl.take i.1.1)).length) i.1.2.1),(7,.v (.c (.i .i64 (i.1.1:Int))))],[(1,26,(([.i .u8 K]++[.i .u8 U]++[.i .i8 A]++[.i .i8 B]++[.i .i8 C]++[.i .i8 D]++[.i .i8 E]++[.i .i8 F])++([.i .u8 K']++[.i .u8 U']++[.i .i8 A']++[.i .i8 B']++[.i .i8 C']++[.i .i8 D']++[.i .i8 E']++[.i .i8 F'])++[.i .u8 N])),(2,48,([.b false]++dA++dA++[.b false]++r8++r8)),(41,46,aI aj (fO (A0.getD 0 bV) (Bl.take i.1.1))++i.1.2.2)]⟩) (fun i=>match i with| .inl i=>Bl.length-i.1| .inr i=>Bl.length-i.1.1) (.inl ⟨0,iH _,rfl⟩) (aB ⟨rfl,rfl,rfl,rfl,rfl,rfl,trivial⟩ ⟨rfl,rfl,trivial⟩ rfl) ?_
  rintro(⟨n,h2,h3⟩|⟨⟨n,c,rs⟩,h2,h3,h4,h5⟩)
  ·replace h2:n≤Bl.length:=h2
   replace h3:(fO (A0.getD 0 bV) (Bl.take n))=[]:=h3
   show Dw _ _ ⟨59,[(1,.p 1 0),(2,.p 2 0),(4,.v (.c (.s ((A0).length) (aI ap (A0))))),(5,.v (.c (.s ((Bl).length) (aI ap (Bl))))),(6,.z),(7,.v (.c (.i .i64 (n:Int))))],[(1,26,(([.i .u8 K]++[.i .u8 U]++[.i .i8 A]++[.i .i8 B]++[.i .i8 C]++[.i .i8 D]++[.i .i8 E]++[.i .i8 F])++([.i .u8 K']++[.i .u8 U']++[.i .i8 A']++[.i .i8 B']++[.i .i8 C']++[.i .i8 D']++[.i .i8 E']++[.i .i8 F'])++[.i .u8 N])),(2,48,([.b false]++dA++dA++[.b false]++r8++r8))]⟩ _
   refine aa<|aa<|ah ?_
   refine aX rfl (fun hc1=>?_) (fun hc1=>?_)
   ·have g1:n<Bl.length:=by have:=of_decide_eq_true hc1;omega
    refine aJ<|aa<|aT<|aa<|di 13 []<|aq (mR bV ag hA0 gz rfl)<|aq (oV ag aY rfl)<|aq (mR bV ag g1 gz rfl)<|aq (oV ag aY rfl)<|aO rfl (Be hg.g (hB _ (cz g1))) ?_
    rcases jZ (cG (A0.getD 0 bV) (Bl.getD n bV)).length with hq0|hq0
    ·refine ah<|ar (Da iC rfl rfl hq0 rfl) ?_
     refine ah<|ar (fB (by omega) rfl) ?_
     exact⟨.inl ⟨n+1,g1,by rw[m7 g1,h3,zI];exact lJ.1 hq0⟩,aB ⟨rfl,rfl,rfl,rfl,rfl,rfl,trivial⟩ ⟨rfl,rfl,trivial⟩ rfl,by show Bl.length-(n+1)<Bl.length-n;omega⟩
    ·refine ah ?_
     refine DL.mk<|wd (q:=(cG (A0.getD 0 bV) (Bl.getD n bV)).length) (ys:=aI aj ((cG (A0.getD 0 bV) (Bl.getD n bV)))) (zs':=aI aj (cG (A0.getD 0 bV) (Bl.getD n bV))) iC rfl rfl (aG aP _) (hq0) (by have:=mv (a:=(A0.getD 0 bV)) (c:=(Bl.getD n bV));omega) (jA (by have:=mv (a:=(A0.getD 0 bV)) (c:=(Bl.getD n bV));omega)) rfl (rfl) rfl (fun cg2 rg2 hga2 hgb2 hgc2=>fE ?_)
     refine ah<|ar (fB (by omega) rfl) ?_
     exact⟨.inr ⟨⟨n+1,cg2,rg2⟩,g1,by show(fO (A0.getD 0 bV) (Bl.take (n+1))).length≤cg2;rw[m7 g1,h3];exact hga2,hgb2,by show rg2.length=(cg2-(fO (A0.getD 0 bV) (Bl.take (n+1))).length)*20;rw[m7 g1,h3];exact hgc2⟩,aB ⟨rfl,rfl,rfl,rfl,congrArg (fun q=>some (DV.o 41 q cg2)) (by rw[m7 g1,h3];rfl),rfl,trivial⟩ ⟨rfl,rfl,congrArg (fun q=>some (46,aI aj q++rg2)) (by rw[m7 g1,h3];rfl),trivial⟩ rfl,by show Bl.length-(n+1)<Bl.length-n;omega⟩
   ·have m1:[]=(fO (A0.getD 0 bV) Bl):=by rw[←h3,iB (by have:=of_decide_eq_false hc1;omega)]
    refine JQ (t:=6) rfl<|bG ?_
    exact⟨(),aB ⟨rfl,rfl,rfl,rfl,congrArg (fun q=>some (DV.v (.c (.s (List.length q) (aI aj q))))) (show([]:List Pt)=(fO (A0.getD 0 bV) Bl) from m1),trivial⟩ ⟨rfl,rfl,trivial⟩ rfl⟩
  ·dsimp only at h2 h3 h4 h5
   have h6:(fO (A0.getD 0 bV) (Bl.take n)).length≤8:=nn CC (by rw[fQ];omega)
   show Dw _ _ ⟨59,[(1,.p 1 0),(2,.p 2 0),(4,.v (.c (.s ((A0).length) (aI ap (A0))))),(5,.v (.c (.s ((Bl).length) (aI ap (Bl))))),(6,.o 41 ((fO (A0.getD 0 bV) (Bl.take n)).length) c),(7,.v (.c (.i .i64 (n:Int))))],[(1,26,(([.i .u8 K]++[.i .u8 U]++[.i .i8 A]++[.i .i8 B]++[.i .i8 C]++[.i .i8 D]++[.i .i8 E]++[.i .i8 F])++([.i .u8 K']++[.i .u8 U']++[.i .i8 A']++[.i .i8 B']++[.i .i8 C']++[.i .i8 D']++[.i .i8 E']++[.i .i8 F'])++[.i .u8 N])),(2,48,([.b false]++dA++dA++[.b false]++r8++r8)),(41,46,aI aj (fO (A0.getD 0 bV) (Bl.take n))++rs)]⟩ _
   refine aa<|aa<|ah ?_
   refine aX rfl (fun hc3=>?_) (fun hc3=>?_)
   ·have g1:n<Bl.length:=by have:=of_decide_eq_true hc3;omega
    have h7:=mv (a:=(A0.getD 0 bV)) (c:=(Bl.getD n bV))
    refine aJ<|aa<|aT<|aa<|di 13 []<|aq (mR bV ag hA0 gz rfl)<|aq (oV ag aY rfl)<|aq (mR bV ag g1 gz rfl)<|aq (oV ag aY rfl)<|aO rfl (Be hg.g (hB _ (cz g1)))<|ah ?_
    refine DL.mk<|pG (n:=(fO (A0.getD 0 bV) (Bl.take n)).length) (c:=c) (q:=((cG (A0.getD 0 bV) (Bl.getD n bV))).length) (us:=aI aj (fO (A0.getD 0 bV) (Bl.take n))) (rest:=rs) (N':=(fO (A0.getD 0 bV) (Bl.take n)).length+(cG (A0.getD 0 bV) (Bl.getD n bV)).length) (zs':=aI aj (fO (A0.getD 0 bV) (Bl.take n))++aI aj (cG (A0.getD 0 bV) (Bl.getD n bV))) iC rfl rfl rfl (rfl) (aG aP _) (h5) (aG aP _) (by decide) (by omega) (by assumption) (by omega) (jA (by omega)) (.inl rfl) (rfl) (rfl) rfl (fun cg4 rg4 hga4 hgb4 hgc4=>fE ?_)
    refine ah<|ar (fB (by omega) rfl) ?_
    exact⟨.inr ⟨⟨n+1,cg4,rg4⟩,g1,by show(fO (A0.getD 0 bV) (Bl.take (n+1))).length≤cg4;rw[m7 g1,fp];exact hga4,hgb4,by show rg4.length=(cg4-(fO (A0.getD 0 bV) (Bl.take (n+1))).length)*20;rw[m7 g1,fp];exact hgc4⟩,aB ⟨rfl,rfl,rfl,rfl,congrArg (fun q=>some (DV.o 41 q cg4)) (by rw[m7 g1,fp]),rfl,trivial⟩ ⟨rfl,rfl,congrArg (fun q=>some (46,q++rg4)) (by rw[m7 g1,io]),trivial⟩ rfl,by show Bl.length-(n+1)<Bl.length-n;omega⟩
   ·have m1:(fO (A0.getD 0 bV) (Bl.take n))=(fO (A0.getD 0 bV) Bl):=by rw[iB (by have:=of_decide_eq_false hc3;omega)]
    refine dj (t:=6) (m:=20) (us:=aI aj (fO (A0.getD 0 bV) (Bl.take n))) rfl rfl (lE (n:=(fO (A0.getD 0 bV) (Bl.take n)).length) (aG aP _) (by assumption) (by omega)) (by omega) (by assumption) (iX (aG aP _))<|bG ?_
    exact⟨(),aB ⟨rfl,rfl,rfl,rfl,congrArg (fun q=>some (DV.v (.c (.s (List.length q) (aI aj q))))) m1,trivial⟩ ⟨rfl,rfl,trivial⟩ rfl⟩
 ·rintro⟨⟩
  show Dw _ _ ⟨59,[(1,.p 1 0),(2,.p 2 0),(4,.v (.c (.s ((A0).length) (aI ap (A0))))),(5,.v (.c (.s ((Bl).length) (aI ap (Bl))))),(6,.v (.c (.s (((fO (A0.getD 0 bV) Bl)).length) (aI aj ((fO (A0.getD 0 bV) Bl))))))],[(1,26,(([.i .u8 K]++[.i .u8 U]++[.i .i8 A]++[.i .i8 B]++[.i .i8 C]++[.i .i8 D]++[.i .i8 E]++[.i .i8 F])++([.i .u8 K']++[.i .u8 U']++[.i .i8 A']++[.i .i8 B']++[.i .i8 C']++[.i .i8 D']++[.i .i8 E']++[.i .i8 F'])++[.i .u8 N])),(2,48,([.b false]++dA++dA++[.b false]++r8++r8))]⟩ _
  refine aa ?_
  refine ah ?_
  refine ar (mR bV ag hA0 gz rfl) ?_
  refine ar (oV ag aY rfl) ?_
  refine ac rfl (pI hg.g (fun p hp=>(hCU p hp).1) (nn CC (by omega)) (fun p hp=>(hCU p hp).2) (jO hg.ne)) ?_
  refine aa ?_
  refine ah ?_
  refine ar (bW xu rfl) ?_
  refine ar (cS (r:=N) ZP acs rfl (sG (by omega) (by omega)) rfl) ?_
  refine ar (fJ (r:=(ix:Int)) rfl rfl (by omega) (by rw[eix,lk hN.1,Int.natCast_emod,Int.toNat_of_nonneg hN.1];rfl) rfl) ?_
  refine ar (mR bV ag hix gz rfl) ?_
  refine ar (oV ag aY rfl) ?_
  refine jF (bn aY rfl rfl rfl (ag _) rfl rfl) ?_
  refine bb ?_
  rw[←eix]
  exact ai (gE (us:=ap (((Et A0 Bl).getD ix bV))) aY rfl rfl (M3 _) (ag _) (al ae))
def Cv.fwd (c:Cv):Cv:=if decide (cP c.p c.q>0) then c.rev else c
def ue (p:Cv):List Cv→Nat
 |[]=>0
 |x::l=>if gB x p≤0 then ue p l+1 else 0
def E5 (o:List Cv) (p:Cv):List Cv:=o.take (ue p o)++p::o.drop (ue p o)
def fC (l:List Cv):List Cv:=l.foldl (fun o c=>E5 o c.fwd) []
def iP:Cv→List Pt
 | .seg _ _ _=>[]
 | .arc k w f t=>(if (Cv.arc k w f t).inner (mh k) then[mh k] else[])++(if (Cv.arc k w f t).inner (ln k) then[ln k] else[])
def bk (c:Cv):List Cv:=if c.isArc then fk c (iP c) else[c]
def oG (c:Cv):List Cv:=fC (bk c)
theorem vx (p:Cv): ∀ {l:List Cv}{k:Nat},k≤l.length→(∀j,j<k→gB (l.getD j bV) p≤0)→(k=l.length∨ ¬gB (l.getD k bV) p≤0)→ue p l=k
 |[],k,h,_,_=>by simp at h;subst h;rfl
 |x::l,0,_,_,h=>by
  rcases h with h|h
  ·simp at h
  ·unfold ue;rw[if_neg (by simpa using h)]
 |x::l,k+1,h,hj,h2=>by
  unfold ue
  rw[if_pos (by simpa using hj 0 (by omega)),vx p (l:=l) (k:=k) (by simpa using h) (fun j q=>by simpa using hj (j+1) (by omega)) (by simpa using h2)]
theorem NZ (o:List Cv) (p:Cv):(E5 o p).length=o.length+1:=by
 unfold E5;rw[fp,fQ,vh,fP];omega
theorem RW {p:Cv}(h:x∈E5 o p):x∈o∨x=p:=by
 rcases lj.1 h with h|h
 ·grind
 grind
theorem HN: ∀(l o:List Cv),(l.foldl (fun o c=>E5 o c.fwd) o).length=o.length+l.length
 |[],o=>by simp
 |x::l,o=>by rw[uU,HN l,NZ,vh];omega
theorem gi (l:List Cv):(fC l).length=l.length:=by unfold fC;rw[HN];simp
theorem Gw: ∀(l o:List Cv) {x:Cv},x∈l.foldl (fun o c=>E5 o c.fwd) o→x∈o∨ ∃c∈l,x=c.fwd
 |[],o,x,h=>.inl h
 |y::l,o,x,h=>by
  rw[uU] at h
  rcases Gw l _ h with h|⟨c,hc,e⟩
  ·rcases RW h with h|h
   ·exact .inl h
   ·exact .inr ⟨y,by simp,h⟩
  ·exact .inr ⟨c,by simp[hc],e⟩
theorem u7 {l:List Cv}(h:x∈fC l): ∃c∈l,x=c.fwd:=(Gw l [] h).elim (fun e=>by cases e) id
theorem vF {l:List Cv}{n:Nat}(h:n<l.length):fC (l.take (n+1))=E5 (fC (l.take n)) (l.getD n bV).fwd:=by
 unfold fC;rw[show l.take (n+1)=l.take n++[l.getD n bV] from by rw[List.take_add_one,eJ (d:=bV) h];rfl,List.foldl_append];rfl
theorem HU {l:List Cv}(h:0<l.length):fC (l.take 1)=[(l.getD 0 bV).fwd]:=by
 rw[vF h];rfl
theorem Ah (h:CvV c):CvV c.fwd:=by unfold Cv.fwd;split;exact h.rev;exact h
theorem DD (h:decide (cP c.p c.q>0)=true):c.fwd=c.rev:=by unfold Cv.fwd;rw[h];rfl
theorem DK (h:decide (cP c.p c.q>0)=false):c.fwd=c:=by unfold Cv.fwd;rw[h];rfl
theorem fg (h:CvV c): ∀p∈iP c,GP p∧c.on p=true:=by
 intro p hp
 cases c with
 |seg l f t=>cases hp
 |arc k w f t=>
  have hin: ∀ {x:Pt},(Cv.arc k w f t).inner x=true→(Cv.arc k w f t).on x=true:=fun h=>by unfold Cv.inner at h;rw[dT] at h;exact h.1
  rcases lj.1 hp with hp|hp
  ·split at hp
   ·rename_i e;cases kw.1 hp;exact⟨xf h.g.1 h.pos,hin e⟩
   grind
  ·split at hp
   ·rename_i e;cases kw.1 hp;exact⟨xq h.g.1 h.pos,hin e⟩
   grind
theorem Du (c:Cv):(iP c).length≤2:=by
 cases c with
 |seg l f t=>exact iH _
 |arc k w f t=>
  show((if _ then[mh k] else[])++(if _ then[ln k] else[])).length≤2
  grind
theorem qS (h1:(Cv.arc k w f t).inner (mh k)=false) (h2:(Cv.arc k w f t).inner (ln k)=false):iP (.arc k w f t)=[]:=by
 show(if _ then[mh k] else[])++(if _ then[ln k] else[])=_;rw[h1,h2];rfl
theorem qG (h1:(Cv.arc k w f t).inner (mh k)=true) (h2:(Cv.arc k w f t).inner (ln k)=false):iP (.arc k w f t)=[mh k]:=by
 show(if _ then[mh k] else[])++(if _ then[ln k] else[])=_;rw[h1,h2];rfl
theorem qF (h1:(Cv.arc k w f t).inner (mh k)=false) (h2:(Cv.arc k w f t).inner (ln k)=true):iP (.arc k w f t)=[ln k]:=by
 show(if _ then[mh k] else[])++(if _ then[ln k] else[])=_;rw[h1,h2];rfl
theorem qY (h1:(Cv.arc k w f t).inner (mh k)=true) (h2:(Cv.arc k w f t).inner (ln k)=true):iP (.arc k w f t)=[mh k,ln k]:=by
 show(if _ then[mh k] else[])++(if _ then[ln k] else[])=_;rw[h1,h2];rfl
theorem s7 (h:CvV c): ∀d∈bk c,CvV d:=by
 intro d hd
 unfold bk at hd
 split at hd
 ·exact yK h (fun p hp=>(fg h p hp).1) (fun p hp=>o5 (fg h p hp).2) d hd
 grind
theorem Bu:(bk c).length≤3:=by
 unfold bk
 split
 ·have h1:=iF c (cE c ([c.p,c.q]++iP c))
  have h2:=rS (c:=c) (l:=[c.p,c.q]++iP c)
  have h3:=Du c
  unfold fk
  grind
 grind
theorem uS (h:CvV c):0<(bk c).length:=by
 unfold bk
 split
 ·have h1:=iF c (cE c ([c.p,c.q]++iP c))
  have h2:=jO (c:=c) (l:=iP c) h.ne
  unfold fk
  omega
 grind
theorem IL (h:CvV c): ∀d∈oG c,CvV d:=fun d hd=>by
 obtain⟨x,hx,e⟩:=u7 hd
 rw[e];exact Ah (s7 h x hx)
theorem yo:(oG c).length≤3:=by unfold oG;rw[gi];exact Bu
theorem VJ (h:j<O.length):((aI ap O++rs).drop (j*66)).take 66=ap (O.getD j bV):=by
 have hl:=aG ag O
 rw[Cp (by omega),gj ag (eJ (d:=bV) h),tE]
 exact NC _ _
theorem xV (j:Nat):aI ap O++rs=aI ap (O.take j)++(aI ap (O.drop j)++rs):=by
 rw[←tE,←io,BY]
theorem Fn {p c:Nat}(hp:O.length=p) (hj:j≤p) (hc:p≤c):((aI ap O++rs).drop (if j<c then j*66 else 0)).take ((p-j)*66)=aI ap (O.drop j):=by
 have h1:(aI ap (O.take j)).length=j*66:=by rw[aG ag,fQ,fT (by omega)]
 have h2:(aI ap (O.drop j)).length=(p-j)*66:=by rw[aG ag,fP,hp]
 by_cases h:j<c
 ·rw[if_pos h,xV j,←h1,List.drop_left,←h2,List.take_left]
 ·have e:p-j=0:=by omega
  rw[e,Nat.zero_mul,List.take_zero,List.drop_of_length_le (by omega)];rfl
theorem Fd {p c:Nat}(hp:O.length=p) (hj:j≤p) (hr:rs.length=(c-p)*66) (hc:p≤c):0<p-j→(if j<c then j*66 else 0)+(p-j)*66≤(aI ap O++rs).length:=by
 rw[fp,aG ag,hp]
 grind
theorem vK {p:Cv}(h:ue p o=j):aI ap (o.take j)++(ap p++aI ap (o.drop j))=aI ap (E5 o p):=by
 unfold E5;rw[h,io];rfl
end Go.Proofs.YtkmdgigkbhmilaaGreat
