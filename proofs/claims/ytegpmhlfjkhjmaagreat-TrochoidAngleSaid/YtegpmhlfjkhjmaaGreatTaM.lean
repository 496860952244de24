/-Plain:monotone curves. -/
import Derived.Test.YtegpmhlfjkhjmaaGreatTaL
namespace Go.Proofs.YtegpmhlfjkhjmaaGreat
open Go Go.RowKit
variable {k:Ci}{ds rs:List D0}{P:Program}{f p q t:Pt}{a b c d e u v x y:Rat}
def Cv.inner (c:Cv) (p:Pt):Bool:=c.on p&&(!(cP c.p p==0)&& !(cP c.q p==0))
def Cv.mono:Cv→Bool
 | .seg _ p q=> !decide (cP p q≥0)
 | .arc k w p q=> !decide (cP p q≥0)&&(!(Cv.arc k w p q).inner (mi k)&& !(Cv.arc k w p q).inner (lX k))
def Cv.vert:Cv→Bool
 | .seg _ p q=>cx p q==0
 | .arc ..=>false
def Ay (k:Ci) (p:Pt):Int:=if qp k p then 0 else 1
theorem ZN (h:decide (s8 p k.y>0)=false) (g:(s8 p k.y==0)=false):Ay k p=1:=by unfold Ay;rw[ZA h g];rfl
theorem abB (h:decide (s8 p k.y>0)=true):Ay k p=0:=by unfold Ay;rw[aa2 h];rfl
theorem acO (h:decide (s8 p k.y>0)=false) (g:(s8 p k.y==0)=true) (e:decide (lu p k.x>0)=true):Ay k p=0:=by unfold Ay;rw[Ss h g,e];rfl
theorem ab9 (h:decide (s8 p k.y>0)=false) (g:(s8 p k.y==0)=true) (e:decide (lu p k.x>0)=false):Ay k p=1:=by unfold Ay;rw[Ss h g,e];rfl
theorem Pp (k:Ci) (p:Pt):0≤Ay k p∧Ay k p≤1:=by unfold Ay;split<;>omega
theorem ZK (h:(Ay k p==Ay k q)=false):oR k p q=Ay k p-Ay k q:=by
 unfold oR BK Ay at*
 grind
theorem TB (h:(Ay k p==Ay k q)=true) (g:(Ay k p==0)=true):oR k p q= -cx p q:=by
 unfold oR BK Ay at*
 grind
theorem Wn (h:(Ay k p==Ay k q)=true) (g:(Ay k p==0)=false):oR k p q=cx p q:=by
 unfold oR BK Ay at*
 grind
theorem PR (k:Ci) (f p:Pt):0≤sS k f p∧sS k f p≤2:=by unfold sS NT;repeat' split<;>omega
theorem ZY (h:(oR k p f==0)=true):sS k f p=0:=by unfold sS NT;rw[if_pos (by simpa using h)]
theorem YG (h:(oR k p f==0)=false) (g:decide (oR k p f>0)=true):sS k f p=1:=by unfold sS NT;rw[if_neg (by simpa using h),if_pos (of_decide_eq_true g)]
theorem Zv (h:(oR k p f==0)=false) (g:decide (oR k p f>0)=false):sS k f p=2:=by unfold sS NT;rw[if_neg (by simpa using h),if_neg (of_decide_eq_false g)]
theorem abw (h:(sS k f p==sS k f q)=false):yC k f p q=sg1 (sS k f p-sS k f q):=by
 unfold yC wt;rw[if_pos (show NT (oR k p f)≠NT (oR k q f) from by simpa [sS] using h)];rfl
theorem abg (h:(sS k f p==sS k f q)=true):yC k f p q=sg1 (oR k p q):=by
 unfold yC wt;rw[if_neg (show ¬NT (oR k p f)≠NT (oR k q f) from by simpa [sS] using h)]
theorem acj {c:Cv}(h:c.on p=false):c.inner p=false:=by unfold Cv.inner;rw[h];rfl
theorem Zd {c:Cv}(h:c.on p=true) (g:(!(cP c.p p==0))=false):c.inner p=false:=by unfold Cv.inner;rw[h,g];rfl
theorem Z7 {c:Cv}(h:c.on p=true) (g:(!(cP c.p p==0))=true):c.inner p= !(cP c.q p==0):=by unfold Cv.inner;rw[h,g];rfl
theorem zg {c:Cv}(h:c.supp p=true):c.on p=(decide (c.ord c.p p≤0)&&decide (c.ord p c.q≤0)):=by unfold Cv.on;rw[h,iA]
theorem Zn {q:Rat}(hb: ¬(u=0∧v=0)):Oa u v (cc u (zc u q) (zc v q))=q:=by
 unfold Oa
 rw[if_neg hb]
 by_cases h:u=0
 ·rw[NQ h,yU (fun e=>hb ⟨h,e⟩)]
 ·rw[Nf h,yU h]
theorem yCX (hp:GP p) (hq:GP q):Ok Tryz.prog 83 [.a ((cR p.a1++cR p.b1++cR (zc p.b1 p.c))),.a ((cR q.a1++cR q.b1++cR (zc q.b1 q.c)))] [.c (.i .i64 (cx p q))]:=Ak (hp.a1.mono (by decide)) (hp.b1.mono (by decide)) (Rz.zc (hp.c.mono (by decide)) (by decide)) (hq.a1.mono (by decide)) (hq.b1.mono (by decide)) (Rz.zc (hq.c.mono (by decide)) (by decide))
theorem yCY (hp:GP p) (hq:GP q):Ok Tryz.prog 83 [.a ((cR p.a2++cR p.b2++cR (zc p.b2 p.c))),.a ((cR q.a2++cR q.b2++cR (zc q.b2 q.c)))] [.c (.i .i64 (cy p q))]:=Ak (hp.a2.mono (by decide)) (hp.b2.mono (by decide)) (Rz.zc (hp.c.mono (by decide)) (by decide)) (hq.a2.mono (by decide)) (hq.b2.mono (by decide)) (Rz.zc (hq.c.mono (by decide)) (by decide))
theorem YU (hp:GP p) (hq:GP q):Ok Tryz.prog 57 [.a (aw p),.a (aw q)] [.c (.i .i64 (cP p q))]:=by
 refine b9 Tryz.func57 rfl<|dF 6 [] ?_
 refine aI rfl (vt) ?_
 refine aI rfl (vt) ?_
 refine aI rfl (yCX hp hq) ?_
 refine dS rfl (fun hc1=>?_) (fun hc1=>?_)
 ·refine ai ?_
  rw[adI (p:=p) (q:=q) hc1]
  exact ak ag
 ·refine dF 6 [] ?_
  refine aI rfl (OK) ?_
  refine aI rfl (OK) ?_
  refine aI rfl (yCY hp hq)<|ai ?_
  rw[adT (p:=p) (q:=q) hc1]
  exact ak ag
theorem Y1 {l:Ln}(_hl:GL l) (_hf:GP f) (_ht:GP t):Ok Tryz.prog 147 [.a (([.b false]++oW l++w9++[.b false]++aw f++aw t))] [.a (([.b false]++oW l++w9++[.b false]++aw t++aw f))]:=by
 refine b9 Tryz.func147 rfl<|ar (fv (aw t) cn rfl (by kernel_rfl)) ?_
 refine ar (fv (aw f) cn rfl (by kernel_rfl)) ?_
 refine r9 (br (us:=([.b false]++oW l++w9++[.b false]++aw t++aw t)) cn rfl rfl rfl rfl (gj (by kernel_rfl)) (by kernel_rfl) rfl) ?_
 refine r9 (br (us:=([.b false]++oW l++w9++[.b false]++aw t++aw f)) cn rfl rfl rfl rfl (gj (by kernel_rfl)) (by kernel_rfl) rfl) ?_
 refine ar (lp sK rfl)<|ar (bJ rfl) ?_
 refine r9 (br (us:=([.b false]++oW l++w9++[.b false]++aw t++aw f)) sK rfl rfl rfl rfl (gj (by kernel_rfl)) (by kernel_rfl) rfl) ?_
 refine ar (j5 cG rfl) ?_
 refine r9 (eQ cG rfl) ?_
 exact ai (mw (us:=([.b false]++oW l++w9++[.b false]++aw t++aw f)) cG rfl rfl (by kernel_rfl) (by kernel_rfl) ag)
theorem Zz (_hk:GK k) {w:Bool}(_hf:GP f) (_ht:GP t):Ok Tryz.prog 147 [.a (([.b true]++rx++bT k++[.b w]++aw f++aw t))] [.a (([.b true]++rx++bT k++[.b (!w)]++aw t++aw f))]:=by
 refine b9 Tryz.func147 rfl<|ar (fv (aw t) cn rfl (by kernel_rfl)) ?_
 refine ar (fv (aw f) cn rfl (by kernel_rfl)) ?_
 refine r9 (br (us:=([.b true]++rx++bT k++[.b w]++aw t++aw t)) cn rfl rfl rfl rfl (gj (by kernel_rfl)) (by kernel_rfl) rfl) ?_
 refine r9 (br (us:=([.b true]++rx++bT k++[.b w]++aw t++aw f)) cn rfl rfl rfl rfl (gj (by kernel_rfl)) (by kernel_rfl) rfl) ?_
 refine ar (lp sK rfl)<|ar (bJ rfl) ?_
 refine ar (lp sK rfl) ?_
 refine r9 (br (us:=([.b true]++rx++bT k++[.b (!w)]++aw t++aw f)) sK rfl rfl rfl rfl (gj (by kernel_rfl)) (by kernel_rfl) rfl) ?_
 refine ar (j5 cG rfl) ?_
 refine r9 (eQ cG rfl) ?_
 exact ai (mw (us:=([.b true]++rx++bT k++[.b (!w)]++aw t++aw f)) cG rfl rfl (by kernel_rfl) (by kernel_rfl) ag)
def Tt (a b c:Rat):Int:=bZ ((a.den:Int)*(a.den:Int)*((b*b*c).num*((b*b*c).den:Int)))
def Yr (a b c:Rat) (r:Int):Int:=(a.num*((b*b*c).den:Int)+r).fdiv ((a.den:Int)*((b*b*c).den:Int))
def oV (a b c:Rat):Int:=if b=0 then a.num.fdiv (a.den:Int) else if b<0 then Yr a b c (-(Tt a b c+1)) else Yr a b c (Tt a b c)
section
variable {a b c:Rat}
theorem OS (h:b=0):oV a b c=a.num.fdiv (a.den:Int):=by unfold oV;rw[if_pos h]
theorem WS (h:b≠0) (h2:b<0):oV a b c=Yr a b c (-(Tt a b c+1)):=by unfold oV;rw[if_neg h,if_pos h2]
theorem Xi (h:b≠0) (h2: ¬b<0):oV a b c=Yr a b c (Tt a b c):=by unfold oV;rw[if_neg h,if_neg h2]
theorem MT {Z D:Int}(hD:0<D):Z.fdiv D*D≤Z∧Z+1≤(Z.fdiv D+1)*D:=by
 rw[pc _ (by omega),Int.add_mul,rA (Z/D) D]
 have h1:=rS Z D
 have h2:=po Z (show D≠0 by omega)
 have h3:=oJ Z hD
 omega
theorem tu {x y:Re}(hd:0<d) (h:cH (Re.of d*x) (Re.of d*y)):cH x y:=by
 unfold cH at*
 have e:aB (Re.of d*y-Re.of d*x)=aB (Re.of d*(y-x)):=congrArg aB (aM fun k=>by simp only[aj,aE,aK];grind)
 have hp:aB (Re.of d)=1:=by rw[bQ];unfold aX;rw[if_neg (by grind),if_pos hd]
 rw[e,aY,hp,js] at h
 grind
theorem KO {x y:Re}(hd:0<d) (h:cH x y):cH (Re.of d*x) (Re.of d*y):=by
 unfold cH at*
 have e:aB (Re.of d*y-Re.of d*x)=aB (Re.of d*(y-x)):=congrArg aB (aM fun k=>by simp only[aj,aE,aK];grind)
 have hp:aB (Re.of d)=1:=by rw[bQ];unfold aX;rw[if_neg (by grind),if_pos hd]
 rw[e,aY,hp,js]
 grind
theorem qo {m n:Int}(h:m≤n):cH (Re.of (m:Rat)) (Re.of (n:Rat)):=of_le (fm.2 h)
theorem Ue (hc:0≤c):cH (Re.of ((Tt a b c:Int):Rat)) (Re.of (((a.den:Int)*((b*b*c).den:Int):Int):Rat)*(Re.of (if b<0 then-b else b)*Re.rt c))∧
 cH (Re.of (((a.den:Int)*((b*b*c).den:Int):Int):Rat)*(Re.of (if b<0 then-b else b)*Re.rt c)) (Re.of (((Tt a b c+1:Int)):Rat)):=by
 have hbc:0≤b*b*c:=by
  have:0≤b*b:=by
   by_cases h:0≤b
   ·exact fl h h
   ·have:=fl (show 0≤ -b by grind) (show 0≤ -b by grind);grind
  exact fl this hc
 have hin:0≤(a.den:Int)*(a.den:Int)*((b*b*c).num*((b*b*c).den:Int)):=
  fU (fU (by omega) (by omega)) (fU (Rat.num_nonneg.2 hbc) (by omega))
 have h1:=ry hin
 have h2:=xg hin
 have h0:=fg ((a.den:Int)*(a.den:Int)*((b*b*c).num*((b*b*c).den:Int)))
 have hn:=uW (b*b*c)
 have dn:=den_pos a
 have dq:=den_pos (b*b*c)
 generalize hN:(a.den:Int)*(a.den:Int)*((b*b*c).num*((b*b*c).den:Int))=N at*
 have eI:Tt a b c=bZ N:=by unfold Tt;rw[hN]
 rw[eI]
 generalize hb':(if b<0 then-b else b)=b'
 have hb2:b'*b'=b*b∧0≤b':=by grind
 generalize hD:(a.den:Int)*((b*b*c).den:Int)=D
 have hD0:0<D:=by subst hD;exact sZ dn dq
 have eN:((N:Int):Rat)=((D:Int):Rat)*((D:Int):Rat)*(b*b*c):=by
  subst hN hD
  grind
 have nnR:0≤aB (Re.of ((D:Int):Rat)*(Re.of b'*Re.rt c)):=by
  have p1:aB (Re.of ((D:Int):Rat))=1:=by have:=CE hD0;have:=bg (Re.of ((D:Int):Rat));omega
  have p2:0≤aB (Re.of b'):=by rw[bQ];exact gG hb2.2
  have p3:=u9 c
  rw[aY,p1,js,aY]
  exact fU p2 p3
 have eS: ∀q:Rat,aB (Re.of ((D:Int):Rat)*(Re.of b'*Re.rt c)*(Re.of ((D:Int):Rat)*(Re.of b'*Re.rt c))-Re.of q)=aX ((N:Int):Rat) q:=by
  intro q
  rw[←oE,←bQ]
  refine cY ?_
  have e:Re.of ((D:Int):Rat)*(Re.of b'*Re.rt c)*(Re.of ((D:Int):Rat)*(Re.of b'*Re.rt c))-Re.of q-Re.of (((N:Int):Rat)-q)=Re.of (((D:Int):Rat)*((D:Int):Rat)*(b'*b'))*(Re.rt c*Re.rt c-Re.of c):=aM fun k=>by
   simp only[aj,aE,aK];grind
  rw[e,aY,lh hc,ny]
 refine⟨?_,?_⟩
 ·refine qH (wW h0) nnR ?_
  rw[dO,eS,←dD]
  exact gG (fm.2 h1)
 ·refine qH nnR (wW (by omega)) ?_
  have h3:0≤ -aB (Re.of ((D:Int):Rat)*(Re.of b'*Re.rt c)*(Re.of ((D:Int):Rat)*(Re.of b'*Re.rt c))-Re.of (((bZ N+1:Int):Rat)*((bZ N+1:Int):Rat))):=by
   rw[eS,←dD]
   have:=Dd (x:=((N:Int):Rat)) (y:=(((bZ N+1)*(bZ N+1):Int):Rat)) (fm.2 (by omega))
   omega
  rw[←bG] at h3
  refine ln (fun k=>?_) h3
  simp only[aV,aj,aE,aK];grind
theorem FI {x y:Re}(h:cH x y):0≤aB (y-x):=h
theorem tV (hc:0≤c):cH (Re.of ((oV a b c:Int):Rat)) (Re.of a+Re.of b*Re.rt c)∧cH (Re.of a+Re.of b*Re.rt c) (Re.of (((oV a b c+1:Int)):Rat)):=by
 by_cases hb:b=0
 ·subst hb
  have e:Re.of a+Re.of 0*Re.rt c=Re.of a:=aM fun k=>by simp only[aD,aE,aK];grind
  rw[e,OS rfl]
  have dn:=den_pos a
  obtain⟨h1,h2⟩:=MT (Z:=a.num) dn
  have hn:=uW a
  have hp:(0:Rat)<((a.den:Int):Rat):=uI.2 dn
  refine⟨of_le (pZ hp ?_),of_le (pZ hp ?_)⟩
  ·rw[hn,←dD];exact fm.2 h1
  ·rw[hn,←dD];exact fm.2 (by omega)
 ·obtain⟨r1,r2⟩:=Ue (a:=a) (b:=b) hc
  have dn:=den_pos a
  have dq:=den_pos (b*b*c)
  have hD0:0<(a.den:Int)*((b*b*c).den:Int):=sZ dn dq
  have hDr:(0:Rat)<(((a.den:Int)*((b*b*c).den:Int):Int):Rat):=uI.2 hD0
  have eX:(((a.den:Int)*((b*b*c).den:Int):Int):Rat)*a=((a.num*((b*b*c).den:Int):Int):Rat):=by
   have:=uW a
   grind
  have en:=fun h2=>WS (a:=a) (c:=c) hb h2
  have ep:=fun h2=>Xi (a:=a) (c:=c) hb h2
  generalize hD:(a.den:Int)*((b*b*c).den:Int)=D at*
  generalize Tt a b c=I at*
  have key: ∀r:Int,∀Y:Re,oV a b c=Yr a b c r→Re.of a+Re.of b*Re.rt c=Re.of a+Y→cH (Re.of ((r:Int):Rat)) (Re.of ((D:Int):Rat)*Y)→cH (Re.of ((D:Int):Rat)*Y) (Re.of (((r+1:Int)):Rat))→
   cH (Re.of ((oV a b c:Int):Rat)) (Re.of a+Re.of b*Re.rt c)∧cH (Re.of a+Re.of b*Re.rt c) (Re.of (((oV a b c+1:Int)):Rat)):=by
   intro r Y e1 e2 g1 g2
   rw[e2,e1]
   have e3:Yr a b c r=(a.num*((b*b*c).den:Int)+r).fdiv D:=by unfold Yr;rw[hD]
   rw[e3]
   obtain⟨f1,f2⟩:=MT (Z:=a.num*((b*b*c).den:Int)+r) hD0
   refine⟨tu hDr ?_,tu hDr ?_⟩
   ·have a1:=qo f1
    have a2:=fP (FI a1) (FI g1)
    refine ln (fun k=>?_) a2
    simp only[aj,aD,aE,aK,dD,gz] at*
    grind
   ·have a1:=qo f2
    have a2:=fP (FI a1) (FI g2)
    refine ln (fun k=>?_) a2
    simp only[aj,aD,aE,aK,dD,gz,Rat.intCast_one] at*
    grind
  by_cases hn:b<0
  ·rw[if_pos hn] at r1 r2
   refine key (-(I+1)) (Re.of b*Re.rt c) (en hn) rfl ?_ ?_
   ·refine ln (fun k=>?_) r2
    simp only[aj,aE,aK,qm,gz,Rat.intCast_one];grind
   ·refine ln (fun k=>?_) r1
    simp only[aj,aE,aK,qm,gz,Rat.intCast_one];grind
  grind
end
theorem CS (A B C D M N:Rat):BH A B C D M N=fN A B C D M N:=by
 by_cases h:M<0∨N<0
 ·rw[Kj h,Gg h]
 ·have hM:0≤M:=by grind
  have hN:0≤N:=by grind
  rw[LX hM hN,np hM hN]
theorem mu {f:Rat}(ha:Rz 2000000 a) (hb:Rz 160000 b) (hc:Rz 160000 c) (hd:Rz 2000000 d) (he:Rz 160000 e) (hf:Rz 160000 f) (h1:Rz 160000 (a-d)) (c0:0≤c) (f0:0≤f):
 Ok Tryz.prog 139 [.a (cR a++cR b++cR c),.a (cR d++cR e++cR f)] [.c (.i .i64 (fN (a-d) b (-e) 0 c f))]:=cb (DA ha hb hc hd he hf h1) ((LW c0 f0).trans (nL c0 f0).symm)
theorem xk {f:FuncId}{x':Rat}(h:Ok P f ds (dR x::rs)) (e:x=x'):Ok P f ds (dR x'::rs):=by subst e;exact h
theorem F8 {f:FuncId}{x x':Int}(h:Ok P f ds [dI x]) (e:x=x'):Ok P f ds [dI x']:=by subst e;exact h
def IR (a b c:Rat):Rat:=1/(a*a-b*b*c)
def vV (a b c:Rat):Int:=if aX b 0=0∨aX a 0=aX b 0 then aX a 0 else if aX a 0=0 then aX b 0 else aX a 0*aX (a*a-b*b*c) 0
section
variable {a b c:Rat}
theorem Yl (h:(aX b 0==0)=true):vV a b c=aX a 0:=by unfold vV;rw[if_pos (.inl (by simpa using h))]
theorem ZD (h:(aX a 0==aX b 0)=true):vV a b c=aX a 0:=by unfold vV;rw[if_pos (.inr (by simpa using h))]
theorem ZJ (h:(aX b 0==0)=false) (h2:(aX a 0==aX b 0)=false) (h3:(aX a 0==0)=true):vV a b c=aX b 0:=by
 unfold vV;rw[if_neg (fun e=>e.elim (by simpa using h) (by simpa using h2)),if_pos (by simpa using h3)]
theorem Yk (h:(aX b 0==0)=false) (h2:(aX a 0==aX b 0)=false) (h3:(aX a 0==0)=false):vV a b c=aX a 0*aX (a*a-b*b*c) 0:=by
 unfold vV;rw[if_neg (fun e=>e.elim (by simpa using h) (by simpa using h2)),if_neg (by simpa using h3)]
end
theorem dv1 (n:Int):Rat.divInt n 1=(n:Rat):=by rw[yI];have:((1:Int):Rat)=1:=rfl;rw[this];grind
theorem Bc:Ok Tryz.prog 236 [] [dR 0]:=by
 refine b9 Tryz.func236 rfl<|ac rfl (gN (by omega) (by omega)) ?_
 refine ai ?_
 rw[LI]
 exact bj bU rfl ag
theorem yW:Ok Tryz.prog 320 [dR a,dR b,dR c] [.a ((cR a++cR b++cR (zc b c)))]:=by
 refine b9 Tryz.func320 rfl<|ac rfl (ts) ?_
 refine dS rfl (fun hc1=>?_) (fun hc1=>?_)
 ·refine ac rfl (Bc) ?_
  refine ar (aF (us:=(cR a++cR b++cR 0)) nA lW rfl rfl rfl) ?_
  refine ai ?_
  rw[Ns (tM hc1)]
  exact bj d9 rfl ag
 ·refine ar (aF (us:=(cR a++cR b++cR c)) nA lW rfl rfl rfl) ?_
  refine ai ?_
  rw[yU (tP hc1)]
  exact bj d9 rfl ag
theorem IX {k:Rat}(ha:Rz 6000000 a) (hb:Rz 6000000 b) (hk:Rz 6000000 k):Ok Tryz.prog 363 [.a ((cR a++cR b++cR c)),dR k] [.a ((cR (a*k)++cR (b*k)++cR (zc (b*k) c)))]:=by
 refine b9 Tryz.func363 rfl<|dF 11 [] ?_
 refine aI rfl (cT (bk ha) (bk hk)) ?_
 refine aI rfl (cT (bk hb) (bk hk)) ?_
 refine aI rfl (yW) ?_
 exact ai (bj d9 rfl ag)
theorem q9 (ha:Rz 400000 a) (hb:Rz 400000 b) (hc:Rz 400000 c):Ok Tryz.prog 314 [.a ((cR a++cR b++cR c))] [dI (oV a b c)]:=by
 have hn:(a.den:Int)*((b*b*c).den:Int)≠0:=iT (jO a) (jO (b*b*c))
 refine b9 Tryz.func314 rfl<|ac rfl (cJ) ?_
 refine dS rfl (fun hc1=>?_) (fun hc1=>?_)
 ·refine ac rfl (xY (bk ha)) ?_
  refine ai ?_
  rw[OS (tM hc1)]
  exact bj d5 rfl ag
 ·refine dF 9 [] ?_
  refine aI rfl (cT (bk hb) (bk hb)) ?_
  refine aI rfl (cT (bk (a8 hb hb)) (bk hc))<|dF 9 [4,5,999999] ?_
  refine DQ.mk<|gD (eQ d5 rfl) rfl rfl rfl rfl<|dP ?_
  refine DQ.mk<|gD (eQ d5 rfl) rfl rfl rfl rfl<|dP ?_
  refine dF 9 [] ?_
  refine aI rfl (gU (eP (dh ha)) (eP (dh ha))) ?_
  refine aI rfl (gU (eP (db (a8 (a8 hb hb) hc))) (eP (dh (a8 (a8 hb hb) hc)))) ?_
  refine aI rfl (gU (eP (dB (dh ha) (dh ha))) (eP (dB (db (a8 (a8 hb hb) hc)) (dh (a8 (a8 hb hb) hc))))) ?_
  refine ac rfl (DD (eP (dB (dB (dh ha) (dh ha)) (dB (db (a8 (a8 hb hb) hc)) (dh (a8 (a8 hb hb) hc)))))) ?_
  refine ac rfl (cJ) ?_
  refine dS rfl (fun hc2=>?_) (fun hc2=>?_)
  ·refine dF 4 [] ?_
   refine aI rfl (jj (by omega) (by omega))<|aI rfl (uL (eP (Sz.isq (dB (dB (dh ha) (dh ha)) (dB (db (a8 (a8 hb hb) hc)) (dh (a8 (a8 hb hb) hc)))))) (eP (dC (k:=3) (by decide) (by decide) (by decide))))<|aI rfl (Aa (eP (Sz.addm (Sz.isq (dB (dB (dh ha) (dh ha)) (dB (db (a8 (a8 hb hb) hc)) (dh (a8 (a8 hb hb) hc))))) (dC (k:=3) (by decide) (by decide) (by decide)))))<|dF 20 [9,10,999999] ?_
   refine aI rfl (gU (eP (db ha)) (eP (dh (a8 (a8 hb hb) hc)))) ?_
   refine aI rfl (uL (eP (dB (db ha) (dh (a8 (a8 hb hb) hc)))) (eP (Sz.neg (Sz.addm (Sz.isq (dB (dB (dh ha) (dh ha)) (dB (db (a8 (a8 hb hb) hc)) (dh (a8 (a8 hb hb) hc))))) (dC (k:=3) (by decide) (by decide) (by decide)))))) ?_
   refine aI rfl (gU (eP (dh ha)) (eP (dh (a8 (a8 hb hb) hc)))) ?_
   refine aI rfl (nM (eP (Sz.addm (dB (db ha) (dh (a8 (a8 hb hb) hc))) (Sz.neg (Sz.addm (Sz.isq (dB (dB (dh ha) (dh ha)) (dB (db (a8 (a8 hb hb) hc)) (dh (a8 (a8 hb hb) hc))))) (dC (k:=3) (by decide) (by decide) (by decide)))))) (eP (dB (dh ha) (dh (a8 (a8 hb hb) hc)))) (by assumption)) ?_
   refine DQ.mk<|gD (eQ d5 rfl) rfl rfl rfl rfl<|dP ?_
   refine DQ.mk<|gD (eQ d5 rfl) rfl rfl rfl rfl<|dP ?_
   refine ai ?_
   rw[WS (tP hc1) (F1 hc2)]
   exact bj d5 rfl ag
  ·refine dF 20 [9,10,999999] ?_
   refine aI rfl (gU (eP (db ha)) (eP (dh (a8 (a8 hb hb) hc)))) ?_
   refine aI rfl (uL (eP (dB (db ha) (dh (a8 (a8 hb hb) hc)))) (eP (Sz.isq (dB (dB (dh ha) (dh ha)) (dB (db (a8 (a8 hb hb) hc)) (dh (a8 (a8 hb hb) hc))))))) ?_
   refine aI rfl (gU (eP (dh ha)) (eP (dh (a8 (a8 hb hb) hc)))) ?_
   refine aI rfl (nM (eP (Sz.addm (dB (db ha) (dh (a8 (a8 hb hb) hc))) (Sz.isq (dB (dB (dh ha) (dh ha)) (dB (db (a8 (a8 hb hb) hc)) (dh (a8 (a8 hb hb) hc))))))) (eP (dB (dh ha) (dh (a8 (a8 hb hb) hc)))) (by assumption)) ?_
   refine DQ.mk<|gD (eQ d5 rfl) rfl rfl rfl rfl<|dP ?_
   refine DQ.mk<|gD (eQ d5 rfl) rfl rfl rfl rfl<|dP ?_
   refine ai ?_
   rw[Xi (tP hc1) (Dc hc2)]
   exact bj d5 rfl ag
theorem gP:Ok Tryz.prog 130 [dR a] [.a ((cR a++cR 0++cR 0))]:=by
 refine b9 Tryz.func130 rfl<|dF 4 [] ?_
 refine aI rfl (Bc) ?_
 refine aI rfl (Bc) ?_
 refine aq (aF (us:=(cR a++cR 0++cR 0)) nA lW rfl rfl rfl) ?_
 exact ai (bj d9 rfl ag)
theorem E8 (ha:Rz 6000000 a) (hb:Rz 6000000 b):Ok Tryz.prog 229 [.a ((cR a++cR b++cR c))] [.a ((cR (-a)++cR (-b)++cR c))]:=by
 refine b9 Tryz.func229 rfl<|dF 9 [] ?_
 refine aI rfl (dV (bk ha)) ?_
 refine aI rfl (dV (bk hb)) ?_
 refine aq (aF (us:=(cR (-a)++cR (-b)++cR c)) nA lW rfl rfl rfl) ?_
 exact ai (bj d9 rfl ag)
theorem DK (ha:Rz 1000000 a) (hb:Rz 1000000 b) (hc:Rz 1000000 c):Ok Tryz.prog 362 [.a ((cR a++cR b++cR c))] [dR (a*a-b*b*c)]:=by
 refine b9 Tryz.func362 rfl<|dF 14 [] ?_
 refine aI rfl (cT (bk ha) (bk ha)) ?_
 refine aI rfl (cT (bk hb) (bk hb)) ?_
 refine aI rfl (cT (bk (a8 hb hb)) (bk hc)) ?_
 refine aI rfl (fj (bk (a8 ha ha)) (bk (a8 (a8 hb hb) hc))) ?_
 exact ai (bj bU rfl ag)
theorem KK (ha:Rz 1000000 a) (hb:Rz 1000000 b) (hc:Rz 1000000 c):Ok Tryz.prog 361 [.a ((cR a++cR b++cR c))] [.c (.i .i64 (vV a b c))]:=by
 have hp:=jP (dU a 0) (dU (a*a-b*b*c) 0)
 refine b9 Tryz.func361 rfl<|dF 8 [] ?_
 refine aI rfl (cJ) ?_
 refine aI rfl (cJ) ?_
 refine lg (bJ rfl) (fun c1 hb1=>?_)
 cases c1
 ·refine dS rfl (fun hc2=>?_) (fun hc2=>?_)
  ·refine ai ?_
   rw[ZD hc2]
   exact ak ag
  ·refine dS rfl (fun hc3=>?_) (fun hc3=>?_)
   ·refine ai ?_
    rw[ZJ hb1 hc2 hc3]
    exact ak ag
   ·refine ac rfl (DK (by assumption) (by assumption) (by assumption))<|ac rfl (cJ)<|ar (bF ((aX a 0)*(aX (a*a-b*b*c) 0)) (b5 (by omega) (by omega)) rfl)<|ai ?_
    rw[Yk hb1 hc2 hc3]
    exact ak ag
 ·refine lr rfl<|ai ?_
  rw[Yl hb1]
  exact ak ag
theorem AW (ha:Rz 6000000 a) (hd:Rz 6000000 d):Ok Tryz.prog 316 [.a ((cR a++cR b++cR c)),dR d] [.a ((cR (a-d)++cR b++cR c))]:=by
 refine b9 Tryz.func316 rfl<|ac rfl (fj (bk ha) (bk hd)) ?_
 refine r9 (br (us:=(cR (a-d)++cR b++cR c)) bU rfl rfl rfl rfl (gj rfl) rfl rfl) ?_
 exact ai (bj d9 rfl ag)
theorem KR {f:Rat}(ha:Rz 2000000 a) (hb:Rz 160000 b) (hc:Rz 160000 c) (hd:Rz 2000000 d) (he:Rz 160000 e) (hf:Rz 160000 f) (h1:Rz 160000 (a-d)) (c0:0≤c) (f0:0≤f):Ok Tryz.prog 318 [.a ((cR a++cR b++cR c)),.a ((cR d++cR e++cR f))] [.c (.b (fN (a-d) b (-e) 0 c f==0))]:=by
 refine b9 Tryz.func318 rfl ?_
 refine ac rfl (mu (by assumption) (by assumption) (by assumption) (by assumption) (by assumption) (by assumption) (by assumption) (by assumption) (by assumption)) ?_
 exact ai (ak ag)
theorem ew (ha:Rz 2000000 a) (hb:Rz 160000 b) (hc:Rz 160000 c) (hd:Rz 2000000 d) (h1:Rz 160000 (a-d)) (c0:0≤c):Ok Tryz.prog 227 [.a ((cR a++cR b++cR c)),dR d] [.c (.i .i64 (fN (a-d) b (-0) 0 c 0))]:=by
 have z0:Rz 160000 (0:Rat):=dW (by decide)
 refine b9 Tryz.func227 rfl<|dF 5 [] ?_
 refine aI rfl (gP) ?_
 refine aI rfl (mu (by assumption) (by assumption) (by assumption) (by assumption) z0 z0 h1 c0 tQ) ?_
 exact ai (ak ag)
theorem Cn (hc:0≤c):fN (a-d) b (-0) 0 c 0=bD (a-d) b c:=by
 rw[nL hc tQ,jn hc]
 exact congrArg aB (aM fun n=>by unfold az;simp only[aD,aj,aE,aK];grind)
theorem S4 (hp:GP p) (hq:GP q):Ok Tryz.prog 51 [.a (aw p),.a (aw q)] [.c (.i .i64 (cP p q))]:=cb (xN (hp.a1.mono (by decide)) (hp.b1.mono (by decide)) (hp.a2.mono (by decide)) (hp.b2.mono (by decide)) (hp.c.mono (by decide)) (hq.a1.mono (by decide)) (hq.b1.mono (by decide)) (hq.a2.mono (by decide)) (hq.b2.mono (by decide)) (hq.c.mono (by decide)) ((hp.a1.sub hq.a1).mono (by decide)) ((hp.a2.sub hq.a2).mono (by decide))) (IS (cg hp) (cg hq))
theorem zW (hp:GP p) (hq:GP q):Ok Tryz.prog 220 [.a (aw p),.a (aw q)] [.c (.b (cP p q==0))]:=cE (Ho (hp.a1.mono (by decide)) (hp.b1.mono (by decide)) (hp.a2.mono (by decide)) (hp.b2.mono (by decide)) (hp.c.mono (by decide)) (hq.a1.mono (by decide)) (hq.b1.mono (by decide)) (hq.a2.mono (by decide)) (hq.b2.mono (by decide)) (hq.c.mono (by decide)) ((hp.a1.sub hq.a1).mono (by decide)) ((hp.a2.sub hq.a2).mono (by decide))) (by rw[IS (cg hp) (cg hq)];rfl)
theorem xCX (hp:GP p) (hq:GP q):Ok Tryz.prog 139 [.a ((cR p.a1++cR p.b1++cR (zc p.b1 p.c))),.a ((cR q.a1++cR q.b1++cR (zc q.b1 q.c)))] [.c (.i .i64 (cx p q))]:=mu (hp.a1.mono (by decide)) (hp.b1.mono (by decide)) (Rz.zc (hp.c.mono (by decide)) (by decide)) (hq.a1.mono (by decide)) (hq.b1.mono (by decide)) (Rz.zc (hq.c.mono (by decide)) (by decide)) ((hp.a1.sub hq.a1).mono (by decide)) (lk (cg hp)) (lk (cg hq))
theorem xEX (hp:GP p) (hq:GP q):Ok Tryz.prog 318 [.a ((cR p.a1++cR p.b1++cR (zc p.b1 p.c))),.a ((cR q.a1++cR q.b1++cR (zc q.b1 q.c)))] [.c (.b (cx p q==0))]:=KR (hp.a1.mono (by decide)) (hp.b1.mono (by decide)) (Rz.zc (hp.c.mono (by decide)) (by decide)) (hq.a1.mono (by decide)) (hq.b1.mono (by decide)) (Rz.zc (hq.c.mono (by decide)) (by decide)) ((hp.a1.sub hq.a1).mono (by decide)) (lk (cg hp)) (lk (cg hq))
theorem xRX (hp:GP p) (hv:Rz 400 v):Ok Tryz.prog 227 [.a ((cR p.a1++cR p.b1++cR (zc p.b1 p.c))),dR v] [.c (.i .i64 (lu p v))]:=cb (ew (hp.a1.mono (by decide)) (hp.b1.mono (by decide)) (Rz.zc (hp.c.mono (by decide)) (by decide)) (hv.mono (by decide)) ((hp.a1.sub hv).mono (by decide)) (lk (cg hp))) (Cn (lk (cg hp)))
theorem xRY (hp:GP p) (hv:Rz 400 v):Ok Tryz.prog 227 [.a ((cR p.a2++cR p.b2++cR (zc p.b2 p.c))),dR v] [.c (.i .i64 (s8 p v))]:=cb (ew (hp.a2.mono (by decide)) (hp.b2.mono (by decide)) (Rz.zc (hp.c.mono (by decide)) (by decide)) (hv.mono (by decide)) ((hp.a2.sub hv).mono (by decide)) (lk (cg hp))) (Cn (lk (cg hp)))
theorem pR (hx:Rz 6000000 x) (hy:Rz 6000000 y):Ok Tryz.prog 134 [dR x,dR y] [dR (x+y)]:=by
 refine b9 Tryz.func134 rfl<|ac rfl (jg (bk hx) (bk hy)) ?_
 exact ai (bj bU rfl ag)
theorem tk (hx:Rz 6000000 x) (hy:Rz 6000000 y):Ok Tryz.prog 133 [dR x,dR y] [dR (x-y)]:=by
 refine b9 Tryz.func133 rfl<|ac rfl (fj (bk hx) (bk hy)) ?_
 exact ai (bj bU rfl ag)
theorem gO (hx:Rz 6000000 x) (hy:Rz 6000000 y):Ok Tryz.prog 135 [dR x,dR y] [dR (x*y)]:=by
 refine b9 Tryz.func135 rfl<|ac rfl (cT (bk hx) (bk hy)) ?_
 exact ai (bj bU rfl ag)
theorem CD (hx:Rz 6000000 x) (hy:Rz 6000000 y):Ok Tryz.prog 297 [dR x,dR y] [dR (x+y)]:=by
 refine b9 Tryz.func297 rfl<|ac rfl (jg (bk hx) (bk hy)) ?_
 exact ai (bj bU rfl ag)
theorem qr (hx:Rz 6000000 x) (hy:Rz 6000000 y):Ok Tryz.prog 296 [dR x,dR y] [dR (x-y)]:=by
 refine b9 Tryz.func296 rfl<|ac rfl (fj (bk hx) (bk hy)) ?_
 exact ai (bj bU rfl ag)
theorem oK (hx:Rz 6000000 x) (hy:Rz 6000000 y):Ok Tryz.prog 298 [dR x,dR y] [dR (x*y)]:=by
 refine b9 Tryz.func298 rfl<|ac rfl (cT (bk hx) (bk hy)) ?_
 exact ai (bj bU rfl ag)
theorem ZW {m:Rat}(ha:Rz 2000000 a) (hb:Rz 2000000 b) (hm:Rz 2000000 m):Ok Tryz.prog 136 [dR a,dR b,dR m] [.c (.i .i64 (bD a b m))]:=by
 have ka:Rz 6000000 a:=ha.m_
 have kb:Rz 6000000 b:=hb.m_
 have hp:=jP (dU b 0) (dU m 0)
 have hp2:=jP (dU a 0) (dU (a*a) (b*b*m))
 refine b9 Tryz.func136 rfl<|dF 9 [] ?_
 refine aI rfl (cJ) ?_
 refine aI rfl (cJ) ?_
 refine aI rfl (cJ) ?_
 refine aq (bF ((aX b 0)*(aX m 0)) (b5 (by omega) (by omega)) rfl) ?_
 refine lg (bJ rfl) (fun c1 hb1=>?_)
 cases c1
 ·refine dS rfl (fun hc2=>?_) (fun hc2=>?_)
  ·refine ai ?_
   unfold bD
   rw[zf hc2]
   exact ak ag
  ·refine dS rfl (fun hc3=>?_) (fun hc3=>?_)
   ·refine ai ?_
    unfold bD
    rw[Ae hc3]
    exact ak ag
   ·refine dF 12 [] ?_
    refine aI rfl (gO (bk ha) (bk ha)) ?_
    refine aI rfl (gO (bk hb) (bk hb)) ?_
    refine aI rfl (gO (bk (a8 hb hb)) (bk hm)) ?_
    refine aI rfl (lK (bk (a8 ha ha)) (bk (a8 (a8 hb hb) hm))) ?_
    refine aq (bF ((aX a 0)*(aX (a*a) ((b*b)*m))) (b5 (by omega) (by omega)) rfl)<|ai ?_
    unfold bD
    rw[y7 hc3 hb1 hc2]
    exact ak ag
 ·refine lr rfl<|ai ?_
  unfold bD
  rw[zK hb1]
  exact ak ag
theorem MW {x y:Int}(hx:Bd x) (hy:Bd y):Ok Tryz.prog 241 [.a (([.i .i64 x]++[.i .i64 y]))] [.a (([.i .i64 (-y)]++[.i .i64 (-x)]))]:=by
 unfold Bd at hx hy
 refine b9 Tryz.func241 rfl<|ar (il (r:= -y) rfl (by rw[Int.zero_sub];exact qO (by omega) (by omega)) rfl) ?_
 refine ar (il (r:= -x) rfl (by rw[Int.zero_sub];exact qO (by omega) (by omega)) rfl) ?_
 refine ar (aF (us:=([.i .i64 (-y)]++[.i .i64 (-x)])) qZ p9 rfl rfl rfl) ?_
 exact ai (bj kv rfl ag)
theorem PG (ha:Rz 4000000 a) (hb:Rz 4000000 b) (hc:Rz 4000000 c) (hv:Rz 4000000 v):Ok Tryz.prog 237 [dR a,dR b,dR c,dR v] [.a (([.i .i64 (Eo a b c v)]++[.i .i64 (EV a b c v)])),.c (.b (JC a b c v))]:=by
 refine b9 Tryz.func237 rfl<|ar (aF (us:=(cR a++cR b++cR c)) nA lW rfl rfl rfl) ?_
 refine ac rfl (x8 (by assumption) (by assumption) (by assumption))<|ac rfl (jt (bk hv)) ?_
 refine lg (bJ rfl) (fun c1 hb1=>?_)
 cases c1
 ·refine dS rfl (fun hc2=>?_) (fun hc2=>?_)
  ·have n1:BJ a b c v=false:=by unfold BJ;rw[fM hb1,jS hc2];rfl
   refine ar (aF (us:=([.i .i64 0]++[.i .i64 0])) qZ p9 rfl rfl rfl) ?_
   refine ai ?_
   rw[(Ez n1).1,(Ez n1).2.1,(Ez n1).2.2]
   exact bj kv rfl (ak ag)
  ·have n1:BJ a b c v=true:=by unfold BJ;rw[fM hb1,fM hc2];rfl
   refine dF 6 [] ?_
   refine aI rfl (MW (vH _) (wg _)) ?_
   refine aI rfl (wT (aaX _ _ _) (acd _ _ _) (Bd.neg (wg _)) (Bd.neg (vH _)))<|ai ?_
   rw[(GJ n1).1,(GJ n1).2.1,(GJ n1).2.2]
   exact bj kv rfl (ak ag)
 ·have n1:BJ a b c v=false:=by unfold BJ;rw[jS hb1];rfl
  refine lr rfl<|ar (aF (us:=([.i .i64 0]++[.i .i64 0])) qZ p9 rfl rfl rfl) ?_
  refine ai ?_
  rw[(Ez n1).1,(Ez n1).2.1,(Ez n1).2.2]
  exact bj kv rfl (ak ag)
theorem UI (hk:GK k) (hp:GB p):Ok Tryz.prog 132 [.a (bT k),.a (aw p)] [.c (.i .i64 (WC k p)),.c (.b (XQ k p))]:=by
 refine b9 Tryz.func132 rfl ?_
 refine ac rfl (PG (hp.a1.m_) (hp.b1.m_) (hp.c.m_) (hk.x.m_)) ?_
 refine ac rfl (PG (hp.a2.m_) (hp.b2.m_) (hp.c.m_) (hk.y.m_)) ?_
 refine ac rfl (jt (hk.q.m_)) ?_
 refine lg (bJ rfl) (fun c1 hb1=>?_)
 cases c1
 ·refine lg (bJ rfl) (fun c2 hb2=>?_)
  cases c2
  ·refine dS rfl (fun hc3=>?_) (fun hc3=>?_)
   ·have m0:Tn k p=false:=by unfold Tn;rw[show JC p.a1 p.b1 p.c k.x=true from fM hb1,show JC p.a2 p.b2 p.c k.y=true from fM hb2,show jo k.q=false from jS hc3];rfl
    have m1:MI k p=false:=by unfold MI;rw[m0];rfl
    have m2:Jy k p=false:=by unfold Jy;rw[m1];rfl
    have m3:El k p=false:=by unfold El;rw[m2];rfl
    refine ai ?_
    rw[(rm m3).1,(rm m3).2]
    exact ak (ak ag)
   ·have n1:Tn k p=true:=by unfold Tn;rw[show JC p.a1 p.b1 p.c k.x=true from fM hb1,show JC p.a2 p.b2 p.c k.y=true from fM hb2,show jo k.q=true from fM hc3];rfl
    refine ac rfl (wN (FO _ _ _ _) (FN _ _ _ _) (FO _ _ _ _) (FN _ _ _ _))<|ac rfl (wN (FO _ _ _ _) (FN _ _ _ _) (FO _ _ _ _) (FN _ _ _ _)) ?_
    refine lg (bJ rfl) (fun c4 hb4=>?_)
    cases c4
    ·refine dS rfl (fun hc5=>?_) (fun hc5=>?_)
     ·have m1:MI k p=false:=by unfold MI;rw[n1,show VG k p=true from fM hb4,show Yy k p=false from jS hc5];rfl
      have m2:Jy k p=false:=by unfold Jy;rw[m1];rfl
      have m3:El k p=false:=by unfold El;rw[m2];rfl
      refine ai ?_
      rw[(rm m3).1,(rm m3).2]
      exact ak (ak ag)
     ·have n2:MI k p=true:=by unfold MI;rw[n1,show VG k p=true from fM hb4,show Yy k p=true from fM hc5];rfl
      refine ac rfl (wT KX.1 KX.2 Lu.1 Lu.2) ?_
      refine dS rfl (fun hc6=>?_) (fun hc6=>?_)
      ·have m2:Jy k p=false:=by unfold Jy;rw[n2,show smK k p=false from jS hc6];rfl
       have m3:El k p=false:=by unfold El;rw[m2];rfl
       refine ai ?_
       rw[(rm m3).1,(rm m3).2]
       exact ak (ak ag)
      ·have n3:Jy k p=true:=by unfold Jy;rw[n2,show smK k p=true from fM hc6];rfl
       refine dF 10 [15,999999] ?_
       refine aI rfl (MW (vH _) (wg _)) ?_
       refine aI rfl (wT Qp.1 Qp.2 (Bd.neg (wg _)) (Bd.neg (vH _))) ?_
       refine DQ.mk<|gD (eQ kv rfl) rfl rfl rfl rfl<|dP ?_
       refine dS rfl (fun hc7=>?_) (fun hc7=>?_)
       ·have m3:El k p=false:=by unfold El;rw[n3,show rsK k p=false from jS hc7];rfl
        refine ai ?_
        rw[(rm m3).1,(rm m3).2]
        exact ak (ak ag)
       ·have n4:El k p=true:=by unfold El;rw[n3,show rsK k p=true from fM hc7];rfl
        refine ac rfl (Je)<|ai ?_
        rw[(J2 n4).1,(J2 n4).2]
        exact ak (ak ag)
    ·refine lr rfl ?_
     have m1:MI k p=false:=by unfold MI;rw[n1,show VG k p=false from jS hb4];rfl
     have m2:Jy k p=false:=by unfold Jy;rw[m1];rfl
     have m3:El k p=false:=by unfold El;rw[m2];rfl
     refine ai ?_
     rw[(rm m3).1,(rm m3).2]
     exact ak (ak ag)
  ·refine lr rfl ?_
   have m0:Tn k p=false:=by unfold Tn;rw[show JC p.a1 p.b1 p.c k.x=true from fM hb1,show JC p.a2 p.b2 p.c k.y=false from jS hb2];rfl
   have m1:MI k p=false:=by unfold MI;rw[m0];rfl
   have m2:Jy k p=false:=by unfold Jy;rw[m1];rfl
   have m3:El k p=false:=by unfold El;rw[m2];rfl
   refine ai ?_
   rw[(rm m3).1,(rm m3).2]
   exact ak (ak ag)
 ·refine ar (bJ rfl)<|lr rfl ?_
  have m0:Tn k p=false:=by unfold Tn;rw[show JC p.a1 p.b1 p.c k.x=false from jS hb1];rfl
  have m1:MI k p=false:=by unfold MI;rw[m0];rfl
  have m2:Jy k p=false:=by unfold Jy;rw[m1];rfl
  have m3:El k p=false:=by unfold El;rw[m2];rfl
  refine ai ?_
  rw[(rm m3).1,(rm m3).2]
  exact ak (ak ag)
theorem Rp (k:Ci) (p:Pt):(p.a1-k.x)*(p.a1-k.x)+(p.a2-k.y)*(p.a2-k.y)+p.c*(p.b1*p.b1+p.b2*p.b2)-k.q=PE k p:=by unfold PE TV;grind
theorem SY (hk:GK k) (hp:GB p):Ok Tryz.prog 46 [.a (bT k),.a (aw p)] [.c (.i .i64 (dE k p))]:=by
 have b1:=nr k p
 have b2:=gY (PE k p) (NZ k p) p.c
 have e3:=acW (k:=k) hp.v
 have wA:=X1 hk hp
 have wB:=aaw hk hp
 refine b9 Tryz.func46 rfl ?_
 refine ac rfl (UI hk hp) ?_
 refine dS rfl (fun hc1=>?_) (fun hc1=>?_)
 ·have e4:=abE hp.v hc1
  refine ar (il (r:= -WC k p) rfl (by rw[Int.zero_sub];exact qO (by omega) (by omega)) rfl) ?_
  refine ai ?_
  rw[←e4]
  exact ak ag
 ·refine dF 12 [] ?_
  refine aI rfl (tk (bk (hp.a1)) (bk (hk.x))) ?_
  refine aI rfl (tk (bk (hp.a2)) (bk (hk.y)))<|dF 8 [9,10,999999] ?_
  refine DQ.mk<|gD (eQ bU rfl) rfl rfl rfl rfl<|dP ?_
  refine DQ.mk<|gD (eQ bU rfl) rfl rfl rfl rfl<|dP ?_
  refine dF 19 [] ?_
  refine aI rfl (gO (bk (df (hp.a1) (hk.x))) (bk (df (hp.a1) (hk.x)))) ?_
  refine aI rfl (gO (bk (df (hp.a2) (hk.y))) (bk (df (hp.a2) (hk.y)))) ?_
  refine aI rfl (pR (bk (a8 (df (hp.a1) (hk.x)) (df (hp.a1) (hk.x)))) (bk (a8 (df (hp.a2) (hk.y)) (df (hp.a2) (hk.y))))) ?_
  refine aI rfl (gO (bk (hp.b1)) (bk (hp.b1))) ?_
  refine aI rfl (gO (bk (hp.b2)) (bk (hp.b2))) ?_
  refine aI rfl (pR (bk (a8 (hp.b1) (hp.b1))) (bk (a8 (hp.b2) (hp.b2)))) ?_
  refine aI rfl (gO (bk (hp.c)) (bk (ju (a8 (hp.b1) (hp.b1)) (a8 (hp.b2) (hp.b2))))) ?_
  refine aI rfl (pR (bk (ju (a8 (df (hp.a1) (hk.x)) (df (hp.a1) (hk.x))) (a8 (df (hp.a2) (hk.y)) (df (hp.a2) (hk.y))))) (bk (a8 (hp.c) (ju (a8 (hp.b1) (hp.b1)) (a8 (hp.b2) (hp.b2))))))<|dF 8 [] ?_
  refine aI rfl (gO (bk (df (hp.a1) (hk.x))) (bk (hp.b1))) ?_
  refine aI rfl (gO (bk (df (hp.a2) (hk.y))) (bk (hp.b2))) ?_
  refine aI rfl (pR (bk (a8 (df (hp.a1) (hk.x)) (hp.b1))) (bk (a8 (df (hp.a2) (hk.y)) (hp.b2))))<|dF 12 [] ?_
  refine aI rfl (tk (bk (ju (ju (a8 (df (hp.a1) (hk.x)) (df (hp.a1) (hk.x))) (a8 (df (hp.a2) (hk.y)) (df (hp.a2) (hk.y)))) (a8 (hp.c) (ju (a8 (hp.b1) (hp.b1)) (a8 (hp.b2) (hp.b2)))))) (bk (hk.q))) ?_
  refine aI rfl (pR (bk (ju (a8 (df (hp.a1) (hk.x)) (hp.b1)) (a8 (df (hp.a2) (hk.y)) (hp.b2)))) (bk (ju (a8 (df (hp.a1) (hk.x)) (hp.b1)) (a8 (df (hp.a2) (hk.y)) (hp.b2))))) ?_
  refine aI rfl (cb (c:=bD (PE k p) (NZ k p) p.c) (ZW (by rw[Rp];exact wA.m_) (wB.m_) (hp.c.m_)) (by rw[Rp];rfl))<|aq (il (r:= -bD (PE k p) (NZ k p) p.c) rfl (IH b2) rfl) ?_
  refine ai ?_
  rw[←e3]
  exact ak ag
theorem abk (hk:GK k) (hp:GP p):Ok Tryz.prog 46 [.a (bT k),.a (aw p)] [.c (.i .i64 (dE k p))]:=SY hk hp.gb
theorem wM (ha:Rz 2000000 a) (hb:Rz 2000000 b) (hc:Rz 2000000 c) (h0: ¬c<0) (hs:kg c=true):Ok Tryz.prog 234 [dR a,dR b,dR c] [.a ((cR (a+b*rt c)++cR 0++cR 0)),.c (.i .i64 0)]:=by
 have kt:Rz 2000000 (rt c):=hc.rt
 have k1:Rz 6000000 (b*rt c):=(hb.mul hc.rt).m_
 refine b9 Tryz.func234 rfl<|ac rfl (cJ) ?_
 refine dS rfl (fun hc1=>?_) (fun hc1=>?_)
 ·exact absurd (F1 hc1) h0
 ·refine ac rfl (EH (bk hc)) ?_
  refine DW.mk<|aP rfl (fun hc2=>?_) (fun hc2=>?_)
  ·refine nH (σ':=⟨30,[(3,.p 3 0),(4,.p 4 0),(6,.p 6 0),(8,.p 8 0)],[(3,38,cR a),(4,38,cR b),(6,129,zR),(8,38,cR (rt c))]⟩) (ap (bo rfl) ⟨rfl,rfl,rfl,by rw[←H7 hs];rfl,trivial⟩ rfl)<|gZ ?_
   refine dF 6 [] ?_
   refine aI rfl (cT (bk hb) (OA)) ?_
   refine aI rfl (jg (bk ha) (bk (a8 hb (by assumption))))<|aI rfl (gP) ?_
   exact ai (bj d9 rfl (ak ag))
  ·exact absurd hs (by rw[hc2];decide)
theorem wV (_ha:Rz 2000000 a) (_hb:Rz 2000000 b) (hc:Rz 2000000 c) (h0: ¬c<0) (hs:kg c=false):Ok Tryz.prog 234 [dR a,dR b,dR c] [.a ((cR a++cR b++cR (zc b c))),.c (.i .i64 0)]:=by
 refine b9 Tryz.func234 rfl<|ac rfl (cJ) ?_
 refine dS rfl (fun hc1=>?_) (fun hc1=>?_)
 ·exact absurd (F1 hc1) h0
 ·refine ac rfl (EH (bk hc)) ?_
  refine dS rfl (fun hc2=>?_) (fun hc2=>?_)
  ·exact absurd hc2 (by rw[hs];decide)
  ·refine ac rfl (yW) ?_
   exact ai (bj d9 rfl (ak ag))
theorem Ob {q:Rat}(hx:Rz 200 x) (hu:Rz 200 u) (hy:Rz 200 y) (hv:Rz 200 v) (hq:Rz 400 q) (h0:0<q) (_hb: ¬(u=0∧v=0)) (hs:kg q=true):Ok Tryz.prog 301 [dR x,dR u,dR y,dR v,dR q] [.a (aw (gg x u y v q))]:=by
 have nq: ¬q<0:=by grind
 refine b9 Tryz.func301 rfl<|ac rfl (wM (hx.m_) (hu.m_) (hq.m_) nq hs)<|ac rfl (wM (hy.m_) (hv.m_) (hq.m_) nq hs)<|ac rfl (GM (v':=0) (x7 (dW (by decide)) (dW (by decide)) (fun e=>e.1 rfl)) rfl rfl rfl rfl (LU rfl rfl))<|ai ?_
 rw[show gg x u y v q=⟨x+u*rt q,0,y+v*rt q,0,0⟩ from by unfold gg;rw[hs];rfl]
 exact bj cn rfl ag
theorem Nh {q:Rat}(hx:Rz 200 x) (hu:Rz 200 u) (hy:Rz 200 y) (hv:Rz 200 v) (hq:Rz 400 q) (h0:0<q) (hb: ¬(u=0∧v=0)) (hs:kg q=false):Ok Tryz.prog 301 [dR x,dR u,dR y,dR v,dR q] [.a (aw (gg x u y v q))]:=by
 have nq: ¬q<0:=by grind
 have hz: ∀w:Rat,Rz 6000000 (zc w q):=fun w=>Rz.zc (hq.m_) (by decide)
 refine b9 Tryz.func301 rfl<|ac rfl (wV (hx.m_) (hu.m_) (hq.m_) nq hs)<|ac rfl (wV (hy.m_) (hv.m_) (hq.m_) nq hs)<|ac rfl (GM (v':=q) (x7 (hz _) (hz _) (fun e=>e.2.2 (by rw[yU e.1,yU e.2.1]))) rfl rfl rfl rfl (Zn hb))<|ai ?_
 rw[show gg x u y v q=⟨x,u,y,v,q⟩ from by unfold gg;rw[hs];rfl]
 exact bj cn rfl ag
theorem si {q:Rat}(hx:Rz 200 x) (hu:Rz 200 u) (hy:Rz 200 y) (hv:Rz 200 v) (hq:Rz 400 q) (h0:0<q) (hb: ¬(u=0∧v=0)):Ok Tryz.prog 301 [dR x,dR u,dR y,dR v,dR q] [.a (aw (gg x u y v q))]:=by
 cases hs:kg q with
 |true=>exact Ob hx hu hy hv hq h0 hb hs
 |false=>exact Nh hx hu hy hv hq h0 hb hs
theorem W1 (hk:GK k) (h0:0<k.q):Ok Tryz.prog 213 [.a (bT k)] [.a (aw (mi k)),.a (aw (lX k))]:=by
 have o1:Rz 6000000 (1:Rat):=tT.m_
 refine b9 Tryz.func213 rfl<|ac rfl (kJ (ig (by decide) (by decide)) (show((1:Int):Rat)=1 from rfl))<|ac rfl (kJ (ig (by decide) (by decide)) (show((0:Int):Rat)=0 from rfl))<|dF 19 [] ?_
 refine aI rfl (dV o1) ?_
 refine aI rfl (si (hk.x.m_) (tT.neg.m_) (hk.y.m_) (dW (by decide)) (hk.q.m_) h0 (fun e=>absurd e.1 (by decide))) ?_
 refine aI rfl (si (hk.x.m_) (tT.m_) (hk.y.m_) (dW (by decide)) (hk.q.m_) h0 (fun e=>absurd e.1 (by decide))) ?_
 exact ai (bj cn rfl (bj cn rfl ag))
end Go.Proofs.YtegpmhlfjkhjmaaGreat
