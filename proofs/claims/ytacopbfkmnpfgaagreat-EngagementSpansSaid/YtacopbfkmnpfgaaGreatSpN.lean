/-Plain:the program's integer below a root;a multiple of a unit near a root. -/
import Derived.Test.YtacopbfkmnpfgaaGreatSpM
import Derived.Laws.StructEq
namespace Go.Proofs.YtacopbfkmnpfgaaGreat
open Go Go.RowKit
section
variable {a b c:Rat}
end
theorem rY (A B C D M N:Rat):sL A B C D M N=iu A B C D M N:=by
 by_cases h:M<0∨N<0
 ·rw[yP h,uf h]
 ·have hM:0≤M:=by grind
  have hN:0≤N:=by grind
  rw[In hM hN,jm hM hN]
section
variable {P:Program}{f:FuncId}{ds rs:List D0}{x y z x' y' z':Rat}
end
section
variable {a b c:Rat}
end
section
variable {P:Program}{ops:Array Oper}{T:TF}{B:BF}
end
section
variable {P:Program}{f:FuncId}{ds rs:List D0}
end
section
variable {a L d dx dy:Int}
end
def mw (c:Rat):Bool:=decide (c≤1)&&decide (-1≤c)
theorem Lj {c:Rat}(h:decide (bd c ((1:Int):Rat)≤0)=true):mw c=decide (bd (-c) ((1:Int):Rat)≤0):=by
 have h1:=qP.1 (of_decide_eq_true h)
 unfold mw
 rw[decide_eq_true (show c≤1 from h1),Bool.true_and]
 apply decide_eq_decide.2
 rw[qP]
 constructor<;>intro h<;>grind
theorem Ef {c:Rat}(h:decide (bd c ((1:Int):Rat)≤0)=false):mw c=false:=by
 have h1:=mt qP.2 (of_decide_eq_false h)
 unfold mw
 rw[decide_eq_false (show ¬c≤1 from h1),Bool.false_and]
section
variable (k:Ci) (p q:Pt) (m:Rat)
def MJ:Rat:=(p.a1-k.x)*(q.a2-k.y)+ -((p.a2-k.y)*(q.a1-k.x))
def MK:Rat:=p.b1*(q.a2-k.y)+ -(p.b2*(q.a1-k.x))
def MQ:Rat:=(p.a1-k.x)*q.b2+ -((p.a2-k.y)*q.b1)
def Ny:Rat:=p.b1*q.b2+ -(p.b2*q.b1)
def Mv:Rat:=(p.a1-k.x)*(q.a1-k.x)+(p.a2-k.y)*(q.a2-k.y)-m
def LV:Rat:=p.b1*(q.a1-k.x)+p.b2*(q.a2-k.y)
def KL:Rat:=(p.a1-k.x)*q.b1+(p.a2-k.y)*q.b2
def MV:Rat:=p.b1*q.b1+p.b2*q.b2
def yT:Int:=iu (MJ k p q) (MK k p q) (MQ k p q) (Ny p q) p.c q.c
def BX:Int:=iu (Mv k p q m) (LV k p q) (KL k p q) (MV p q) p.c q.c
end
theorem LK (k:Ci) (p q:Pt): -1≤yT k p q∧yT k p q≤1:=lK _ _ _ _ _ _
theorem y5 (k:Ci) (p q:Pt) (m:Rat): -1≤BX k p q m∧BX k p q m≤1:=lK _ _ _ _ _ _
theorem Ab (A B C D M N:Rat):sN A C B D N M=sN A B C D M N:=Re.ext fun n=>by
 unfold sN jv
 simp only[dM,dE,fV]
 grind
theorem LM {k:Ci}{p q:Pt}{m:Rat}(hp:0≤p.c) (hq:0≤q.c):BX k q p m=BX k p q m:=by
 unfold BX
 rw[jm hq hp,jm hp hq,←Ab (Mv k p q m)]
 congr 1
 rw[show Mv k q p m=Mv k p q m from by unfold Mv;grind,show LV k q p=KL k p q from by unfold LV KL;grind,show KL k q p=LV k p q from by unfold LV KL;grind,show MV q p=MV p q from by unfold MV;grind]
theorem Mx {k:Ci}{p q:Pt}(hp:0≤p.c) (hq:0≤q.c):yT k q p= -yT k p q:=by
 unfold yT
 rw[jm hq hp,jm hp hq,←mG,←Ab (MJ k q p)]
 congr 1
 rw[show MJ k q p= -MJ k p q from by unfold MJ;grind,show MK k q p= -MQ k p q from by unfold MK MQ;grind,show MQ k q p= -MK k p q from by unfold MK MQ;grind,show Ny q p= -Ny p q from by unfold Ny;grind]
 exact Re.ext fun n=>by
  unfold sN jv
  simp only[dM,dE,fV,dN]
  grind
def nO (w:Bool) (k:Ci) (f t:Pt):Int:=if w then-yT k f t else yT k f t
def wm (w:Bool) (k:Ci) (f t:Pt) (c:Rat):Bool:=mw c&&decide (nO w k f t≥0)
def sG (w:Bool) (k:Ci) (f t:Pt) (c:Rat):Int:=if wm w k f t c then-BX k f t (c*k.q) else 0
def GG (w:Bool) (k:Ci) (f t:Pt) (c:Rat):Int:=if wm w k f t c then 0 else 1
section
variable {w:Bool}{k:Ci}{f t:Pt}{c:Rat}
theorem pz (h:mw c=false):sG w k f t c=0∧GG w k f t c=1:=by
 have:wm w k f t c=false:=by unfold wm;rw[h];rfl
 unfold sG GG;rw[this];exact⟨rfl,rfl⟩
theorem pt (h:decide (nO w k f t≥0)=false):sG w k f t c=0∧GG w k f t c=1:=by
 have:wm w k f t c=false:=by unfold wm;rw[h,Bool.and_false]
 unfold sG GG;rw[this];exact⟨rfl,rfl⟩
theorem pv (h:mw c=true) (g:decide (nO w k f t≥0)=true):sG w k f t c= -BX k f t (c*k.q)∧GG w k f t c=0:=by
 have:wm w k f t c=true:=by unfold wm;rw[h,g];rfl
 unfold sG GG;rw[this];exact⟨rfl,rfl⟩
end
def NF (c:Cv) (x:Rat):Int:=match c with
 | .seg ..=>0
 | .arc k w f t=>sG w k f t x
def N3 (c:Cv) (x:Rat):Int:=match c with
 | .seg ..=>1
 | .arc k w f t=>GG w k f t x
theorem lX (x:Rat):0+((1:Int):Rat)*x=x:=by rw[show((1:Int):Rat)=1 from rfl];grind
theorem vj (x y:Rat):x+((1:Int):Rat)*y=x+y:=by rw[show((1:Int):Rat)=1 from rfl];grind
theorem vb (x y:Rat):x+((-1:Int):Rat)*y=x+ -y:=by rw[show((-1:Int):Rat)= -1 from rfl];grind
theorem uv {P:Program}{f:FuncId}{ds:List D0}{A B C D M N A' B' C' D':Rat}(h:Ok P f ds [.a (cR A++cR B++cR C++cR D++cR M++cR N)]) (e1:A=A') (e2:B=B') (e3:C=C') (e4:D=D'):Ok P f ds [.a (cR A'++cR B'++cR C'++cR D'++cR M++cR N)]:=by subst e1 e2 e3 e4;exact h
section
variable {k:Ci}{p q:Pt}(hk:GK k) (hp:GP p) (hq:GP q)
include hk hp hq
theorem wB:Rz 347 (p.a1-k.x)∧Rz 347 (p.a2-k.y)∧Rz 347 (q.a1-k.x)∧Rz 347 (q.a2-k.y):=
 ⟨(hp.a1.sub hk.x).mono (by decide),(hp.a2.sub hk.y).mono (by decide),(hq.a1.sub hk.x).mono (by decide),(hq.a2.sub hk.y).mono (by decide)⟩
theorem Ka:Rz 1600 (MJ k p q)∧Rz 1600 (MK k p q)∧Rz 1600 (MQ k p q)∧Rz 1600 (Ny p q):=by
 obtain⟨h1,h2,h3,h4⟩:=wB hk hp hq
 exact⟨((h1.mul h4).add (h2.mul h3).neg).mono (by decide),((hp.b1.mul h4).add (hp.b2.mul h3).neg).mono (by decide),((h1.mul hq.b2).add (h2.mul hq.b1).neg).mono (by decide),((hp.b1.mul hq.b2).add (hp.b2.mul hq.b1).neg).mono (by decide)⟩
theorem DN {m:Rat}(hm:Rz 10 m):Rz 1600 (Mv k p q m)∧Rz 1600 (LV k p q)∧Rz 1600 (KL k p q)∧Rz 1600 (MV p q):=by
 obtain⟨h1,h2,h3,h4⟩:=wB hk hp hq
 exact⟨(((h1.mul h3).add (h2.mul h4)).sub hm).mono (by decide),((hp.b1.mul h3).add (hp.b2.mul h4)).mono (by decide),((h1.mul hq.b1).add (h2.mul hq.b2)).mono (by decide),((hp.b1.mul hq.b1).add (hp.b2.mul hq.b2)).mono (by decide)⟩
end
theorem OP {a b c d:Rat}(ha:Rz 600 a) (hb:Rz 600 b) (hc:Rz 600 c) (hd:Rz 600 d):Ok Tryz.prog 349 [.a ((cR a++cR b++cR c)),dR d] [.c (.i .i64 (cU (a-d) b c))]:=by
 refine Ok.fn Tryz.func349 14 [.tmp 4] rfl<|aa<|ab<|ai<|aa<|aN 10 rfl rfl<|an 1<|ag (aw (cR a) au rfl)<|an 1<|ag (aj rfl (dA (aO ha) (aO hd)))<|an 1<|ag (aw (cR b) au rfl)<|an 1<|ag (aw (cR c) au rfl) ?_
 refine ag (aj rfl (om (aO (Rz.sub ha hd)) (aO hb) (aO hc)))<|bK<|ar<|ap<|al ?_
 exact ao (aC ae)
theorem Qh {p:Pt}(hp:GP p) {v:Rat}(hv:Rz 600 v):Ok Tryz.prog 349 [.a ((cR p.a1++cR p.b1++cR (zc p.b1 p.c))),dR v] [.c (.i .i64 (PJ p v))]:=OP (hp.a1.mono (by decide)) (hp.b1.mono (by decide)) (Rz.zc (hp.c.mono (by decide)) (by decide)) hv
theorem P9 {p:Pt}(hp:GP p) {v:Rat}(hv:Rz 600 v):Ok Tryz.prog 349 [.a ((cR p.a2++cR p.b2++cR (zc p.b2 p.c))),dR v] [.c (.i .i64 (Kf p v))]:=OP (hp.a2.mono (by decide)) (hp.b2.mono (by decide)) (Rz.zc (hp.c.mono (by decide)) (by decide)) hv
theorem QK {p q:Pt}(hp:GP p) (hq:GP q):Ok Tryz.prog 104 [.a ((cR p.a1++cR p.b1++cR (zc p.b1 p.c))),.a ((cR q.a1++cR q.b1++cR (zc q.b1 q.c)))] [.c (.i .i64 (cx p q))]:=xK (hp.a1.mono (by decide)) (hp.b1.mono (by decide)) (Rz.zc (hp.c.mono (by decide)) (by decide)) (hq.a1.mono (by decide)) (hq.b1.mono (by decide)) (Rz.zc (hq.c.mono (by decide)) (by decide))
theorem QZ {p q:Pt}(hp:GP p) (hq:GP q):Ok Tryz.prog 104 [.a ((cR p.a2++cR p.b2++cR (zc p.b2 p.c))),.a ((cR q.a2++cR q.b2++cR (zc q.b2 q.c)))] [.c (.i .i64 (cy p q))]:=xK (hp.a2.mono (by decide)) (hp.b2.mono (by decide)) (Rz.zc (hp.c.mono (by decide)) (by decide)) (hq.a2.mono (by decide)) (hq.b2.mono (by decide)) (Rz.zc (hq.c.mono (by decide)) (by decide))
theorem pp {p q:Pt}(hp:GP p) (hq:GP q):Ok Tryz.prog 37 [.a (aA p),.a (aA q)] [.c (.i .i64 (cP p q))]:=by
 refine Ok.fn Tryz.func37 19 [.tmp 4] rfl<|aa<|ab<|ai<|aa<|aa<|aN 6 rfl rfl<|an 1<|ag (aj rfl (pF))<|an 1<|ag (aj rfl (pF))<|ag (aj rfl (QK hp hq))<|bK<|ar ?_
 refine ap<|aa<|ab<|ai ?_
 refine ay rfl (fun hc1=>?_) (fun hc1=>?_)
 ·refine aa<|ab<|ai<|al ?_
  rw[Qr (p:=p) (q:=q) hc1]
  exact ao (aC ae)
 ·refine aq<|aa<|aN 6 rfl rfl<|an 1<|ag (aj rfl (vv))<|an 1<|ag (aj rfl (vv))<|ag (aj rfl (QZ hp hq))<|bK<|ar<|ap<|al ?_
  rw[Qe (p:=p) (q:=q) hc1]
  exact ao (aC ae)
theorem NS {p q:Pt}(hp:GP p) (hq:GP q):Ok Tryz.prog 59 [.a (aA p),.a (aA q)] [.c (.b (cP p q==0))]:=by
 refine Ok.fn Tryz.func59 9 [.tmp 4] rfl<|aa<|ab<|ai<|aa<|ab<|am 2<|ak (aj rfl (pp hp hq))<|ai<|al ?_
 exact ao (aC ae)
theorem fx {x y:Rat}(hx:Rz 60000 x) (hy:Rz 60000 y):Ok Tryz.prog 159 [dR x,dR y] [dR (x+y)]:=by
 refine Ok.fn Tryz.func159 8 [.cell 4 31] rfl<|aa<|ab<|am 2<|az (ah br rfl) rfl<|ap<|aa<|ab<|am 2<|ak (aj rfl (dK (aO hx) (aO hy)))<|ai<|al ?_
 exact ao (bh au rfl ae)
theorem dC {x y:Rat}(hx:Rz 60000 x) (hy:Rz 60000 y):Ok Tryz.prog 157 [dR x,dR y] [dR (x-y)]:=by
 refine Ok.fn Tryz.func157 8 [.cell 4 31] rfl<|aa<|ab<|am 2<|az (ah br rfl) rfl<|ap<|aa<|ab<|am 2<|ak (aj rfl (dA (aO hx) (aO hy)))<|ai<|al ?_
 exact ao (bh au rfl ae)
theorem bQ {x y:Rat}(hx:Rz 60000 x) (hy:Rz 60000 y):Ok Tryz.prog 158 [dR x,dR y] [dR (x*y)]:=by
 refine Ok.fn Tryz.func158 8 [.cell 4 31] rfl<|aa<|ab<|am 2<|az (ah br rfl) rfl<|ap<|aa<|ab<|am 2<|ak (aj rfl (bZ (aO hx) (aO hy)))<|ai<|al ?_
 exact ao (bh au rfl ae)
theorem wI {x y:Rat}(hx:Rz 60000 x) (hy:Rz 60000 y) (h0:y≠0):Ok Tryz.prog 160 [dR x,dR y] [dR (x/y)]:=by
 refine Ok.fn Tryz.func160 14 [.cell 4 31] rfl<|aa<|ab<|am 2<|az (ah br rfl) rfl<|ap<|aa<|ab<|am 2<|ak (aj rfl (wU hx hy h0))<|am 3<|az (ah br rfl) rfl<|ai<|aa ?_
 refine ab<|ai<|al ?_
 exact ao (bh au rfl ae)
theorem jX {x y:Rat}(hx:Rz 60000 x) (hy:Rz 60000 y):Ok Tryz.prog 194 [dR x,dR y] [dR (x+y)]:=by
 refine Ok.fn Tryz.func194 8 [.cell 4 31] rfl<|aa<|ab<|am 2<|az (ah br rfl) rfl<|ap<|aa<|ab<|am 2<|ak (aj rfl (dK (aO hx) (aO hy)))<|ai<|al ?_
 exact ao (bh au rfl ae)
theorem fu {x y:Rat}(hx:Rz 60000 x) (hy:Rz 60000 y):Ok Tryz.prog 237 [dR x,dR y] [dR (x-y)]:=by
 refine Ok.fn Tryz.func237 8 [.cell 4 31] rfl<|aa<|ab<|am 2<|az (ah br rfl) rfl<|ap<|aa<|ab<|am 2<|ak (aj rfl (dA (aO hx) (aO hy)))<|ai<|al ?_
 exact ao (bh au rfl ae)
theorem cT {x y:Rat}(hx:Rz 60000 x) (hy:Rz 60000 y):Ok Tryz.prog 195 [dR x,dR y] [dR (x*y)]:=by
 refine Ok.fn Tryz.func195 8 [.cell 4 31] rfl<|aa<|ab<|am 2<|az (ah br rfl) rfl<|ap<|aa<|ab<|am 2<|ak (aj rfl (bZ (aO hx) (aO hy)))<|ai<|al ?_
 exact ao (bh au rfl ae)
theorem lZ {x y:Rat}(hx:Rz 60000 x) (hy:Rz 60000 y) (h0:y≠0):Ok Tryz.prog 235 [dR x,dR y] [dR (x/y)]:=by
 refine Ok.fn Tryz.func235 14 [.cell 4 31] rfl<|aa<|ab<|am 2<|az (ah br rfl) rfl<|ap<|aa<|ab<|am 2<|ak (aj rfl (wU hx hy h0))<|am 3<|az (ah br rfl) rfl<|ai<|aa ?_
 refine ab<|ai<|al ?_
 exact ao (bh au rfl ae)
theorem oe {x:Rat}(hx:Rz 60000 x):Ok Tryz.prog 107 [dR x] [dR (-x)]:=by
 refine Ok.fn Tryz.func107 5 [.cell 2 31] rfl<|aa<|ab<|am 1<|az (ah br rfl) rfl<|ap<|aa<|ab<|am 1<|ak (aj rfl (eD (aO hx)))<|ai<|al ?_
 exact ao (bh au rfl ae)
theorem IJ {v w:Rat}(hv:Rz 60000 v) (hw:Rz 60000 w):Ok Tryz.prog 360 [.a ((cR v++cR w))] [.a ((cR (-v)++cR (-w)))]:=by
 refine Ok.fn Tryz.func360 10 [.cell 2 64] rfl<|aa<|ab<|am 1<|az (ah fR rfl) rfl<|ap<|aa<|aN 7 rfl rfl<|an 1<|ag (aw (cR v) au rfl)<|ag (aj rfl (eD (aO hv)))<|an 1<|ag (aw (cR w) au rfl)<|ag (aj rfl (eD (aO hw))) ?_
 refine ag (aD (us:=(cR (-v)++cR (-w))) ko fR rfl rfl rfl) ?_
 refine aR<|ar<|ai<|al ?_
 exact ao (bh O0 rfl ae)
theorem EE {a1 b1 a2 b2 c:Rat}{v w:Rat}(hv:Rz 60000 v) (hw:Rz 60000 w) (ha1:Rz 60000 a1) (ha2:Rz 60000 a2):Ok Tryz.prog 359 [.a ((cR a1++cR b1++cR a2++cR b2++cR c)),.a ((cR v++cR w))] [.a ((cR (a1+v)++cR b1++cR (a2+w)++cR b2++cR c))]:=by
 refine Ok.fn Tryz.func359 22 [.cell 4 37] rfl<|aa<|ab<|am 2<|az (ah jO rfl) rfl<|ap<|aa<|aN 17 rfl rfl<|an 1<|ag (aw (cR a1) au rfl)<|an 1<|ag (aw (cR v) au rfl)<|ag (aj rfl (dK (aO ha1) (aO hv)))<|an 1 ?_
 refine ag (aw (cR b1) au rfl)<|an 1<|ag (aw (cR a2) au rfl)<|an 1<|ag (aw (cR w) au rfl)<|ag (aj rfl (dK (aO ha2) (aO hw)))<|an 1<|ag (aw (cR b2) au rfl)<|an 1<|ag (aw (cR c) au rfl)<|ag (aD (us:=(cR (a1+v)++cR b1++cR (a2+w)++cR b2++cR c)) K0 jO rfl rfl rfl) ?_
 refine aR<|ar<|ai<|al ?_
 exact ao (bh cn rfl ae)
theorem uS {a1 b1 a2 b2 c:Rat}(ha1:Rz 600 a1) (hb1:Rz 600 b1) (ha2:Rz 600 a2) (hb2:Rz 600 b2) (hc:Rz 600 c) (v1:wt b1 b2 c=true) {d e:Rat}(hd:Rz 600 d) (he:Rz 600 e):Ok Tryz.prog 326 [.a ((cR a1++cR b1++cR a2++cR b2++cR c)),.a ((cR d++cR e))] [.a ((cR (KP (a1-d) (a2-e) b1 b2 c)++cR (L6 (a1-d) (a2-e) b1 b2)++cR (zc (L6 (a1-d) (a2-e) b1 b2) c)))]:=by
 have ka1:Rz 60000 a1:=ha1.m_
 have kb1:Rz 60000 b1:=hb1.m_
 have ka2:Rz 60000 a2:=ha2.m_
 have kb2:Rz 60000 b2:=hb2.m_
 have kc:Rz 60000 c:=hc.m_
 have kd:Rz 60000 d:=hd.m_
 have ke:Rz 60000 e:=he.m_
 have u1:Rz 1400 (a1-d):=(ha1.sub hd).m_
 have u2:Rz 1400 (a2-e):=(ha2.sub he).m_
 have k3:Rz 60000 (-d):=kd.neg
 have k4:Rz 60000 (-e):=ke.neg
 have nz:=Nq v1
 have x1:Rz 10000 (a1-d):=u1.m_
 have x2:Rz 10000 (a2-e):=u2.m_
 have y1:Rz 10000 b1:=hb1.m_
 have y2:Rz 10000 b2:=hb2.m_
 have hC:Rz 10000 c:=hc.m_
 have z1:Rz 10000 (zc b1 c):=Rz.zc hC (by decide)
 have z2:Rz 10000 (zc b2 c):=Rz.zc hC (by decide)
 have A1:Rz 10000 ((a1-d)*(a1-d)+b1*b1*c):=((u1.mul u1).add ((hb1.mul hb1).mul hc)).m_
 have A2:Rz 10000 ((a2-e)*(a2-e)+b2*b2*c):=((u2.mul u2).add ((hb2.mul hb2).mul hc)).m_
 have B1:Rz 10000 ((a1-d)*b1+(a1-d)*b1):=((u1.mul hb1).add (u1.mul hb1)).m_
 have B2:Rz 10000 ((a2-e)*b2+(a2-e)*b2):=((u2.mul hb2).add (u2.mul hb2)).m_
 have C1:Rz 10000 (zc ((a1-d)*b1+(a1-d)*b1) c):=Rz.zc hC (by decide)
 have C2:Rz 10000 (zc ((a2-e)*b2+(a2-e)*b2) c):=Rz.zc hC (by decide)
 have nS:((a1-d)*b1+(a1-d)*b1)+((a2-e)*b2+(a2-e)*b2)≠0→c≠0:=fun h=>by rw[Fv] at h;have:=(K5 v1 h).1;grind
 refine Ok.fn Tryz.func326 23 [.cell 4 67] rfl<|aa<|ab<|am 2<|az (ah gj rfl) rfl<|ap<|aa<|aN 5 rfl rfl<|an 2<|ag (aj rfl (IJ (by assumption) (by assumption)))<|ag (aj rfl (EE (by assumption) (by assumption) (by assumption) (by assumption)))<|ba (ah jO rfl) rfl<|aR<|bg ?_
 refine ai<|aa<|cm 13 [6,999999] a7 (by kernel_rfl) rfl rfl<|an 1<|ag (aj rfl (rX pF (KI _ _) rfl rfl))<|ag (aj rfl (rX (wu x1 y1 z1) NH (M8 nz.1) (Nb nz.1)))<|an 1<|ag (aj rfl (rX vv (KI _ _) rfl rfl))<|ag (aj rfl (rX (wu x2 y2 z2) NH (M8 nz.2) (Nb nz.2)))<|ag (aj rfl (H7 (CK A1 B1 C1 A2 B2 C2 L2) (Oy _ _ _ _ _) ((Qo nS).trans (Fv _ _ _ _)) ((PH nS).trans (by rw[Fv]))))<|an 3<|ba (ah gj rfl) rfl<|iz (fE iL rfl) rfl rfl rfl rfl<|bK ?_
 refine cf<|ap<|aa<|ab<|ai<|al ?_
 exact ao (bh iL rfl ae)
theorem NR {k:Ci}(hk:GK k) {p:Pt}(hp:GP p):Ok Tryz.prog 326 [.a (aA p),.a ((cR k.x++cR k.y))] [.a ((cR (KP (p.a1-k.x) (p.a2-k.y) p.b1 p.b2 p.c)++cR (H8 k p)++cR (zc (H8 k p) p.c)))]:=uS (hp.a1.mono (by decide)) (hp.b1.mono (by decide)) (hp.a2.mono (by decide)) (hp.b2.mono (by decide)) (hp.c.mono (by decide)) hp.v (hk.x.mono (by decide)) (hk.y.mono (by decide))
theorem O9 {k:Ci}(hk:GK k) {p:Pt}(hp:GP p):Ok Tryz.prog 272 [.a (dc k),.a (aA p)] [.a ((cR (Pw k p)++cR (H8 k p)++cR (zc (H8 k p) p.c)))]:=by
 have s1:Rz 60000 (KP (p.a1-k.x) (p.a2-k.y) p.b1 p.b2 p.c):=(DM hk hp).m_
 have s2:Rz 60000 k.q:=hk.q.m_
 have s3:Rz 60000 (-k.q):=s2.neg
 refine Ok.fn Tryz.func272 16 [.cell 4 67] rfl<|aa<|ab<|am 2<|az (ah gj rfl) rfl<|ap<|aa<|aN 11 rfl rfl<|an 2<|ag (aw (cR k.x) au rfl)<|an 1<|ag (aw (cR k.y) au rfl)<|ag (aD (us:=(cR k.x++cR k.y)) ko fR rfl rfl rfl) ?_
 refine ag (aj rfl (NR hk hp))<|an 1<|ag (aw (cR k.q) au rfl)<|ag (aj rfl (eD (MT)))<|ag (aj rfl (va (by assumption) (by assumption)))<|aR<|ar<|ai<|al ?_
 exact ao (bh iL rfl ae)
theorem NN {k:Ci}(hk:GK k) {p:Pt}(hp:GP p):Ok Tryz.prog 206 [.a (dc k),.a (aA p)] [.c (.i .i64 (OE k p))]:=by
 refine Ok.fn Tryz.func206 10 [.tmp 4] rfl<|aa<|ab<|ai<|aa<|ab<|am 2<|ak (aj rfl (O9 hk hp))<|ak (aj rfl (sD ((Ly hk hp).m_) ((KU hk hp).m_) (Rz.zc (hp.c.m_) (by decide))))<|ak (eE (r:= -s3 (Pw k p) (H8 k p) (zc (H8 k p) p.c)) rfl (rk (M5 _ _ _)) rfl) ?_
 refine ai<|al ?_
 exact ao (aC ae)
theorem Dv {l:Ln}(hl:GL l) {p:Pt}(hp:GP p) (hs:iX p.c=true):Ok Tryz.prog 273 [.a (eK l),.a (aA p)] [.a ((cR (vA l p+vB l p*rt p.c)++cR 0++cR 0))]:=by
 refine Ok.fn Tryz.func273 41 [.cell 4 67] rfl<|aa<|ab<|am 2<|az (ah gj rfl) rfl<|ap<|aa<|aN 15 rfl rfl<|an 1<|ag (aw (cR l.a) au rfl)<|an 1<|ag (aw (cR p.a1) au rfl)<|ag (aj rfl (bQ (aO (hl.a)) (aO (hp.a1))))<|an 1 ?_
 refine ag (aw (cR l.b) au rfl)<|an 1<|ag (aw (cR p.a2) au rfl)<|ag (aj rfl (bQ (aO (hl.b)) (aO (hp.a2))))<|ag (aj rfl (fx (aO (Rz.mul (hl.a) (hp.a1))) (aO (Rz.mul (hl.b) (hp.a2)))))<|an 1<|ag (aw (cR l.c) au rfl)<|ag (aj rfl (dC (aO (Rz.add (Rz.mul (hl.a) (hp.a1)) (Rz.mul (hl.b) (hp.a2)))) (aO (hl.c))))<|ba (ah br rfl) rfl<|aR<|bg<|ai<|aa<|cm 21 [6,999999] a7 (by kernel_rfl) rfl rfl ?_
 refine an 2<|ag (aw (cR l.a) au rfl)<|an 1<|ag (aw (cR p.b1) au rfl)<|ag (aj rfl (bQ (aO (hl.a)) (aO (hp.b1))))<|an 1<|ag (aw (cR l.b) au rfl)<|an 1<|ag (aw (cR p.b2) au rfl)<|ag (aj rfl (bQ (aO (hl.b)) (aO (hp.b2))))<|ag (aj rfl (fx (aO (Rz.mul (hl.a) (hp.b1))) (aO (Rz.mul (hl.b) (hp.b2)))))<|an 1<|ag (aw (cR p.c) au rfl)<|ag (aj rfl (zS ((Ev hl hp).m_) ((F6 hl hp).m_) (hp.c.m_) (fun h=>absurd h (Rat.not_lt.2 (Br hp.v))) hs)) ?_
 refine an 3<|ba (ah gj rfl) rfl<|iz (fE iL rfl) rfl rfl rfl rfl<|bK<|cf<|ap<|aa<|ab<|ai<|al ?_
 exact ao (bh iL rfl ae)
theorem Ff {l:Ln}(hl:GL l) {p:Pt}(hp:GP p) (hs:iX p.c=false):Ok Tryz.prog 273 [.a (eK l),.a (aA p)] [.a ((cR (vA l p)++cR (rB (vB l p) p.c)++cR (rC (vB l p) p.c)))]:=by
 refine Ok.fn Tryz.func273 41 [.cell 4 67] rfl<|aa<|ab<|am 2<|az (ah gj rfl) rfl<|ap<|aa<|aN 15 rfl rfl<|an 1<|ag (aw (cR l.a) au rfl)<|an 1<|ag (aw (cR p.a1) au rfl)<|ag (aj rfl (bQ (aO (hl.a)) (aO (hp.a1))))<|an 1 ?_
 refine ag (aw (cR l.b) au rfl)<|an 1<|ag (aw (cR p.a2) au rfl)<|ag (aj rfl (bQ (aO (hl.b)) (aO (hp.a2))))<|ag (aj rfl (fx (aO (Rz.mul (hl.a) (hp.a1))) (aO (Rz.mul (hl.b) (hp.a2)))))<|an 1<|ag (aw (cR l.c) au rfl)<|ag (aj rfl (dC (aO (Rz.add (Rz.mul (hl.a) (hp.a1)) (Rz.mul (hl.b) (hp.a2)))) (aO (hl.c))))<|ba (ah br rfl) rfl<|aR<|bg<|ai<|aa<|cm 21 [6,999999] a7 (by kernel_rfl) rfl rfl ?_
 refine an 2<|ag (aw (cR l.a) au rfl)<|an 1<|ag (aw (cR p.b1) au rfl)<|ag (aj rfl (bQ (aO (hl.a)) (aO (hp.b1))))<|an 1<|ag (aw (cR l.b) au rfl)<|an 1<|ag (aw (cR p.b2) au rfl)<|ag (aj rfl (bQ (aO (hl.b)) (aO (hp.b2))))<|ag (aj rfl (fx (aO (Rz.mul (hl.a) (hp.b1))) (aO (Rz.mul (hl.b) (hp.b2)))))<|an 1<|ag (aw (cR p.c) au rfl)<|ag (aj rfl (yV ((Ev hl hp).m_) ((F6 hl hp).m_) (hp.c.m_) (fun h=>absurd h (Rat.not_lt.2 (Br hp.v))) hs)) ?_
 refine an 3<|ba (ah gj rfl) rfl<|iz (fE iL rfl) rfl rfl rfl rfl<|bK<|cf<|ap<|aa<|ab<|ai<|al ?_
 exact ao (bh iL rfl ae)
theorem M6 {l:Ln}(hl:GL l) {p:Pt}(hp:GP p):Ok Tryz.prog 273 [.a (eK l),.a (aA p)] [.a ((cR (vA l p)++cR (rB (vB l p) p.c)++cR (rC (vB l p) p.c)))]:=by
 cases hs:iX p.c with
 |true=>obtain⟨e1,e2,e3⟩:=Mp (l:=l) hp.v hs;exact rX (Dv hl hp hs) e1 e2 e3
 |false=>exact Ff hl hp hs
theorem Ma {l:Ln}(hl:GL l) {p:Pt}(hp:GP p):Ok Tryz.prog 207 [.a (eK l),.a (aA p)] [.c (.i .i64 (Jv l p))]:=by
 refine Ok.fn Tryz.func207 9 [.tmp 4] rfl<|aa<|ab<|ai<|aa<|ab<|am 2<|ak (aj rfl (M6 hl hp))<|ak (aj rfl (sD ((Ev hl hp).m_) (OK ((F6 hl hp).m_) (by decide)) (Pg (hp.c.m_) (by decide))))<|ai<|al ?_
 exact ao (aC ae)
theorem Kk {k:Ci}(hk:GK k) {p:Pt}(hp:GP p):Ok Tryz.prog 306 [.a (dc k),.a (aA p)] [.c (.b (nB k p))]:=by
 refine Ok.fn Tryz.func306 25 [.tmp 4] rfl<|aa<|ab<|ai<|aa<|aN 6 rfl rfl<|an 1<|ag (aj rfl (vv))<|an 1<|ag (aw (cR k.y) au rfl)<|ag (aj rfl (P9 hp (hk.y.m_)))<|bK<|ar<|ap ?_
 refine aa<|aN 15 rfl rfl<|an 2 ?_
 refine fI (ca rfl) (fun c1 hb1=>?_)
 cases c1
 ·refine an 2 ?_
  refine fI (ca rfl) (fun c2 hb2=>?_)
  cases c2
  ·refine bK<|ar<|ap<|al ?_
   rw[K9 (k:=k) (p:=p) hb1 hb2]
   exact ao (aC ae)
  ·refine an 1<|ag (aj rfl (pF))<|an 1<|ag (aw (cR k.x) au rfl)<|ag (aj rfl (Qh hp (hk.x.m_)))<|bK<|ar<|ap<|al ?_
   rw[Lw (k:=k) (p:=p) hb1 hb2]
   exact ao (aC ae)
 ·refine bK<|ar<|ap<|al ?_
  rw[M1 (k:=k) (p:=p) hb1]
  exact ao (aC ae)
theorem Dj {k:Ci}(hk:GK k) {p q:Pt}(hp:GP p) (hq:GP q):Ok Tryz.prog 239 [.a (dc k),.a (aA p),.a (aA q)] [.c (.i .i64 (eN k p q))]:=by
 refine Ok.fn Tryz.func239 29 [.tmp 6] rfl<|aa<|ab<|ai<|aa<|aN 8 rfl rfl<|an 2<|ag (aj rfl (Kk hk hp))<|an 2<|ag (aj rfl (Kk hk hq))<|bK<|ar<|ap<|aa ?_
 refine aa<|ab<|am 2<|ak (eo rfl rfl eB rfl) ?_
 refine ap ?_
 refine ay rfl (fun hc1=>?_) (fun hc1=>?_)
 ·refine aa<|aa<|ab<|ai ?_
  refine ay rfl (fun hc2=>?_) (fun hc2=>?_)
  ·refine aa<|ab<|ai<|al ?_
   rw[HI (k:=k) (p:=p) (q:=q) hc1 hc2]
   exact ao (aC ae)
  ·refine aq<|aa<|ab<|ai<|al ?_
   rw[ES (k:=k) (p:=p) (q:=q) hc1 hc2]
   exact ao (aC ae)
 ·refine aq<|aa<|aN 6 rfl rfl<|an 1<|ag (aj rfl (pF))<|an 1<|ag (aj rfl (pF))<|ag (aj rfl (QK hp hq))<|bK<|ar<|ap<|aa<|aa<|ab ?_
  refine ai ?_
  refine ay rfl (fun hc3=>?_) (fun hc3=>?_)
  ·refine aa<|ab<|am 1<|ak (eE (r:= -cx p q) rfl (rk (Pe p q)) rfl) ?_
   refine ai<|al ?_
   rw[Ep (k:=k) (p:=p) (q:=q) hc1 hc3]
   exact ao (aC ae)
  ·refine aq<|aa<|ab<|ai<|al ?_
   rw[FA (k:=k) (p:=p) (q:=q) hc1 hc3]
   exact ao (aC ae)
theorem Ke {k:Ci}(hk:GK k) {f p q:Pt}(hf:GP f) (hp:GP p) (hq:GP q):Ok Tryz.prog 154 [.a (dc k),.a (aA f),.a (aA p),.a (aA q)] [.c (.i .i64 (F5 k f p q))]:=by
 refine Ok.fn Tryz.func154 29 [.tmp 8] rfl<|aa<|ab<|ai<|aa<|aN 12 rfl rfl<|an 3<|ag (aj rfl (Dj hk hp hf))<|an 4<|ag (aj rfl (Dj hk hq hf))<|bK<|ar<|ap<|aa ?_
 refine aa<|ab<|am 2<|ak (eo rfl rfl eB rfl) ?_
 refine ap ?_
 refine ay rfl (fun hc1=>?_) (fun hc1=>?_)
 ·refine aa<|aa<|ab<|ai ?_
  refine ay rfl (fun hc2=>?_) (fun hc2=>?_)
  ·refine aa<|ab<|ai<|al ?_
   rw[NZ (k:=k) (f:=f) (p:=p) (q:=q) hc1 hc2]
   exact ao (aC ae)
  ·refine aq<|aa<|ab<|ai<|al ?_
   rw[Mr (k:=k) (f:=f) (p:=p) (q:=q) hc1 hc2]
   exact ao (aC ae)
 ·refine aq<|aa<|ab<|am 3<|ak (aj rfl (Dj hk hp hq))<|ai<|al ?_
  rw[Ns (k:=k) (f:=f) (p:=p) (q:=q) hc1]
  exact ao (aC ae)
theorem uR {p:Pt}(hp:GP p):Ok Tryz.prog 156 [.a (aA p)] [.a (aA p.flip)]:=by
 refine Ok.fn Tryz.func156 12 [.cell 2 37] rfl<|aa<|ab<|am 1<|az (ah jO rfl) rfl<|ap<|aa<|aN 7 rfl rfl<|an 1<|ag (aw (cR p.a1) au rfl)<|ag (aj rfl (eD (hp.a1.m_)))<|an 1<|ag (aw (cR p.b1) au rfl)<|ag (aj rfl (eD (hp.b1.m_))) ?_
 refine bK<|ar<|dd (bn (us:=(cR (-p.a1)++cR p.b1++cR p.a2++cR p.b2++cR p.c)) au rfl rfl rfl rfl (Nat.le_of_ble_eq_true rfl) rfl rfl) ?_
 refine am 1<|dd (bn (us:=(cR (-p.a1)++cR (-p.b1)++cR p.a2++cR p.b2++cR p.c)) au rfl rfl rfl rfl (Nat.le_of_ble_eq_true rfl) rfl rfl) ?_
 refine ap<|aa<|ab<|ai<|al ?_
 exact ao (bh cn rfl ae)
theorem Nm {k:Ci}(hk:GK k) {w:Bool}{f t:Pt}(hf:GP f) (ht:GP t):Ok Tryz.prog 155 [.a (([.b true]++d8++dc k++[.b w]++aA f++aA t))] [.a (([.b true]++d8++dc k.mir++[.b (!w)]++aA f.flip++aA t.flip))]:=by
 refine Ok.fn Tryz.func155 22 [.cell 2 39] rfl<|aa<|ab<|am 1<|az (ah iK rfl) rfl<|ap<|aa<|ab<|am 2<|ak (dX (cR k.x) au rfl (by kernel_rfl))<|ak (aj rfl (eD (hk.x.m_)))<|am 2<|dd (bn (us:=([.b true]++d8++(cR k.mir.x++cR k.y++cR k.q)++[.b w]++aA f++aA t)) au rfl rfl rfl rfl (Nat.le_of_ble_eq_true (by kernel_rfl)) (by kernel_rfl) rfl) ?_
 refine ap<|aa<|cm 13 [1,999999] a7 (by kernel_rfl) rfl rfl<|an 1<|Du (by kernel_rfl) (dX (aA f) cn rfl (by kernel_rfl))<|ag (aj rfl (uR hf))<|an 1<|Du (by kernel_rfl) (dX (aA t) cn rfl (by kernel_rfl))<|ag (aj rfl (uR ht))<|an 1<|Du (by kernel_rfl) (PK Fc rfl)<|an 2<|fU (bn (us:=([.b true]++d8++(cR k.mir.x++cR k.y++cR k.q)++[.b w]++aA f.flip++aA t)) cn rfl rfl rfl rfl (Nat.le_of_ble_eq_true (by kernel_rfl)) (by kernel_rfl) rfl) rfl rfl rfl rfl ?_
 refine an 1<|BC (bn (us:=([.b true]++d8++(cR k.mir.x++cR k.y++cR k.q)++[.b w]++aA f.flip++aA t.flip)) cn rfl rfl rfl rfl (Nat.le_of_ble_eq_true (by kernel_rfl)) (by kernel_rfl) rfl) rfl rfl (by kernel_rfl) rfl ?_
 refine aR<|cf<|am 1<|dd (bn (us:=([.b true]++d8++(cR k.mir.x++cR k.y++cR k.q)++[.b (!w)]++aA f.flip++aA t.flip)) Fc rfl rfl rfl rfl (Nat.le_of_ble_eq_true (by kernel_rfl)) (by kernel_rfl) rfl) ?_
 refine ap<|aa<|ab<|ai<|al ?_
 exact ao (fA (us:=([.b true]++d8++(cR k.mir.x++cR k.y++cR k.q)++[.b (!w)]++aA f.flip++aA t.flip)) er rfl rfl (by kernel_rfl) (by kernel_rfl) ae)
theorem yZ {l:Ln}(_hl:GL l) {f t:Pt}(hf:GP f) (ht:GP t) {p q:Pt}(hp:GP p) (hq:GP q):Ok Tryz.prog 77 [.a (([.b false]++eK l++d8++[.b false]++aA f++aA t)),.a (aA p),.a (aA q)] [.c (.i .i64 ((Cv.seg l f t).ord p q))]:=by
 refine Ok.fn Tryz.func77 45 [.tmp 6] rfl<|aa<|ab<|ai<|aa<|aa<|ab<|ai<|bP rfl<|aa<|ab<|am 2<|ak (aj rfl (pp hp hq))<|ai ?_
 refine aa<|aa<|ab<|am 1<|ak (dX (aA f) cn rfl (by kernel_rfl))<|am 1<|ak (dX (aA t) cn rfl (by kernel_rfl))<|ak (aj rfl (pp hf ht))<|ai ?_
 refine ay rfl (fun hc1=>?_) (fun hc1=>?_)
 ·--region 4
  refine ab<|am 1<|ak (eE (r:= -cP p q) rfl (rk (OA p q)) rfl) ?_
  refine ai<|aa<|ab<|ai<|al ?_
  rw[K4 (l:=l) (f:=f) (t:=t) (p:=p) (q:=q) hc1]
  exact ao (aC ae)
 ·refine aq<|aa<|ab<|ai<|al ?_
  rw[LE (l:=l) (f:=f) (t:=t) (p:=p) (q:=q) hc1]
  exact ao (aC ae)
theorem yv {k:Ci}(hk:GK k) {w:Bool}{f t:Pt}(hf:GP f) (ht:GP t) {p q:Pt}(hp:GP p) (hq:GP q):Ok Tryz.prog 77 [.a (([.b true]++d8++dc k++[.b w]++aA f++aA t)),.a (aA p),.a (aA q)] [.c (.i .i64 ((Cv.arc k w f t).ord p q))]:=by
 refine Ok.fn Tryz.func77 45 [.tmp 6] rfl<|aa<|ab<|ai<|aa<|aa<|ab<|ai<|bj rfl<|aq<|aa<|aa<|ab<|ai ?_
 refine ay rfl (fun hc1=>?_) (fun hc1=>?_)
 ·refine aa<|ab<|am 1<|ak (dX (dc k) oK rfl (by kernel_rfl))<|am 1<|ak (dX (aA f) cn rfl (by kernel_rfl))<|am 2<|ak (aj rfl (Ke hk hf hp hq))<|ai<|al ?_
  rw[LO (k:=k) (w:=w) (f:=f) (t:=t) (p:=p) (q:=q) hc1]
  exact ao (aC ae)
 ·refine aq<|aa<|ab<|am 1<|ak (aj rfl (Nm hk hf ht))<|az (ah iK rfl) rfl<|ai<|aa<|aN 10 rfl rfl<|an 1<|ag (dX (dc k.mir) oK rfl (by kernel_rfl))<|an 1<|ag (dX (aA f.flip) cn rfl (by kernel_rfl))<|an 1 ?_
  refine ag (aj rfl (uR hp))<|an 1<|ag (aj rfl (uR hq))<|ag (aj rfl (Ke (GK.mir hk) (GP.flip hf) (GP.flip hp) (GP.flip hq)))<|bK<|ar<|ap<|al ?_
  rw[Mh (k:=k) (w:=w) (f:=f) (t:=t) (p:=p) (q:=q) hc1]
  exact ao (aC ae)
theorem Mu {l:Ln}(hl:GL l) {f t:Pt}(_hf:GP f) (_ht:GP t) {p:Pt}(hp:GP p):Ok Tryz.prog 118 [.a (([.b false]++eK l++d8++[.b false]++aA f++aA t)),.a (aA p)] [.c (.b ((Cv.seg l f t).supp p))]:=by
 refine Ok.fn Tryz.func118 17 [.tmp 4] rfl<|aa<|ab<|ai<|aa<|aa<|ab<|ai<|bj rfl<|aq<|aa<|ab<|am 1<|ak (dX (eK l) rM rfl (by kernel_rfl)) ?_
 refine am 1<|ak (aj rfl (Ma hl hp))<|ai<|al ?_
 exact ao (aC ae)
theorem Ls {k:Ci}(hk:GK k) {w:Bool}{f t:Pt}(_hf:GP f) (_ht:GP t) {p:Pt}(hp:GP p):Ok Tryz.prog 118 [.a (([.b true]++d8++dc k++[.b w]++aA f++aA t)),.a (aA p)] [.c (.b ((Cv.arc k w f t).supp p))]:=by
 refine Ok.fn Tryz.func118 17 [.tmp 4] rfl<|aa<|ab<|ai<|aa<|aa<|ab<|ai<|bP rfl<|aa<|ab<|am 1<|ak (dX (dc k) oK rfl (by kernel_rfl))<|am 1 ?_
 refine ak (aj rfl (NN hk hp))<|ai<|al ?_
 exact ao (aC ae)
theorem NA {l:Ln}(hl:GL l) {f t:Pt}(hf:GP f) (ht:GP t) {p:Pt}(hp:GP p):Ok Tryz.prog 75 [.a (([.b false]++eK l++d8++[.b false]++aA f++aA t)),.a (aA p)] [.c (.b ((Cv.seg l f t).on p))]:=by
 refine Ok.fn Tryz.func75 24 [.tmp 4] rfl<|aa<|ab<|ai<|aa<|ab<|am 2<|ak (aj rfl (Mu hl hf ht hp)) ?_
 refine dh (ca rfl) (fun c1 hb1=>?_)
 cases c1
 ·refine ai<|al ?_
  rw[Oa (c:=(Cv.seg l f t)) (p:=p) hb1]
  exact ao (aC ae)
 ·refine am 2<|ak (dX (aA f) cn rfl (by kernel_rfl))<|am 1<|ak (aj rfl (yZ hl hf ht hf hp))<|am 2 ?_
  refine dh (ca rfl) (fun c2 hb2=>?_)
  cases c2
  ·refine ai<|al ?_
   rw[Kx (c:=(Cv.seg l f t)) (p:=p) hb1 hb2]
   exact ao (aC ae)
  ·refine am 3<|ak (dX (aA t) cn rfl (by kernel_rfl))<|ak (aj rfl (yZ hl hf ht hp ht))<|ai<|al ?_
   rw[JE (c:=(Cv.seg l f t)) (p:=p) hb1 hb2]
   exact ao (aC ae)
theorem Pa {k:Ci}(hk:GK k) {w:Bool}{f t:Pt}(hf:GP f) (ht:GP t) {p:Pt}(hp:GP p):Ok Tryz.prog 75 [.a (([.b true]++d8++dc k++[.b w]++aA f++aA t)),.a (aA p)] [.c (.b ((Cv.arc k w f t).on p))]:=by
 refine Ok.fn Tryz.func75 24 [.tmp 4] rfl<|aa<|ab<|ai<|aa<|ab<|am 2<|ak (aj rfl (Ls hk hf ht hp)) ?_
 refine dh (ca rfl) (fun c1 hb1=>?_)
 cases c1
 ·refine ai<|al ?_
  rw[Oa (c:=(Cv.arc k w f t)) (p:=p) hb1]
  exact ao (aC ae)
 ·refine am 2<|ak (dX (aA f) cn rfl (by kernel_rfl))<|am 1<|ak (aj rfl (yv hk hf ht hf hp))<|am 2 ?_
  refine dh (ca rfl) (fun c2 hb2=>?_)
  cases c2
  ·refine ai<|al ?_
   rw[Kx (c:=(Cv.arc k w f t)) (p:=p) hb1 hb2]
   exact ao (aC ae)
  ·refine am 3<|ak (dX (aA t) cn rfl (by kernel_rfl))<|ak (aj rfl (yv hk hf ht hp ht))<|ai<|al ?_
   rw[JE (c:=(Cv.arc k w f t)) (p:=p) hb1 hb2]
   exact ao (aC ae)
theorem LC {l:Ln}(_hl:GL l) {f t:Pt}(_hf:GP f) (_ht:GP t):Ok Tryz.prog 8 [.a (([.b false]++eK l++d8++[.b false]++aA f++aA t))] [.a (([.b false]++eK l++d8++[.b false]++aA t++aA f))]:=by
 refine Ok.fn Tryz.func8 18 [.cell 2 39] rfl<|aa<|ab<|am 1<|az (ah iK rfl) rfl<|ap<|aa<|ab<|am 1<|ak (dX (aA t) cn rfl (by kernel_rfl))<|am 1<|ak (dX (aA f) cn rfl (by kernel_rfl))<|am 1<|dd (bn (us:=([.b false]++eK l++d8++[.b false]++aA t++aA t)) cn rfl rfl rfl rfl (Nat.le_of_ble_eq_true (by kernel_rfl)) (by kernel_rfl) rfl) ?_
 refine am 1<|dd (bn (us:=([.b false]++eK l++d8++[.b false]++aA t++aA f)) cn rfl rfl rfl rfl (Nat.le_of_ble_eq_true (by kernel_rfl)) (by kernel_rfl) rfl) ?_
 refine ap<|aa<|ab<|am 8<|dd (bn (us:=([.b false]++eK l++d8++[.b false]++aA t++aA f)) Fc rfl rfl rfl rfl (Nat.le_of_ble_eq_true (by kernel_rfl)) (by kernel_rfl) rfl) ?_
 refine ap<|aa<|ab<|ai<|al ?_
 exact ao (fA (us:=([.b false]++eK l++d8++[.b false]++aA t++aA f)) er rfl rfl (by kernel_rfl) (by kernel_rfl) ae)
theorem K6 {k:Ci}(_hk:GK k) {w:Bool}{f t:Pt}(_hf:GP f) (_ht:GP t):Ok Tryz.prog 8 [.a (([.b true]++d8++dc k++[.b w]++aA f++aA t))] [.a (([.b true]++d8++dc k++[.b (!w)]++aA t++aA f))]:=by
 refine Ok.fn Tryz.func8 18 [.cell 2 39] rfl<|aa<|ab<|am 1<|az (ah iK rfl) rfl<|ap<|aa<|ab<|am 1<|ak (dX (aA t) cn rfl (by kernel_rfl))<|am 1<|ak (dX (aA f) cn rfl (by kernel_rfl))<|am 1<|dd (bn (us:=([.b true]++d8++dc k++[.b w]++aA t++aA t)) cn rfl rfl rfl rfl (Nat.le_of_ble_eq_true (by kernel_rfl)) (by kernel_rfl) rfl) ?_
 refine am 1<|dd (bn (us:=([.b true]++d8++dc k++[.b w]++aA t++aA f)) cn rfl rfl rfl rfl (Nat.le_of_ble_eq_true (by kernel_rfl)) (by kernel_rfl) rfl) ?_
 refine ap<|aa<|ab<|am 8<|dd (bn (us:=([.b true]++d8++dc k++[.b (!w)]++aA t++aA f)) Fc rfl rfl rfl rfl (Nat.le_of_ble_eq_true (by kernel_rfl)) (by kernel_rfl) rfl) ?_
 refine ap<|aa<|ab<|ai<|al ?_
 exact ao (fA (us:=([.b true]++d8++dc k++[.b (!w)]++aA t++aA f)) er rfl rfl (by kernel_rfl) (by kernel_rfl) ae)
theorem AK {x:Rat}(hx:Rz 300 x):Ok Tryz.prog 61 [dR x] [.c (.b (mw x))]:=by
 refine Ok.fn Tryz.func61 16 [.tmp 2] rfl<|aa<|ab<|ai<|aa<|ab<|ak (aj rfl (sw (by omega) (by omega)))<|az (ah br rfl) rfl<|ai<|aa<|aN 12 rfl rfl<|an 2<|ag (aj rfl (uQ (aO hx) (aO (Rz.int (Sz.small (k:=3) (by decide) (by decide) (by decide)) (by decide)))))<|an 1 ?_
 refine fI (ca rfl) (fun c1 hb1=>?_)
 cases c1
 ·refine bK<|ar<|ap<|al ?_
  rw[Ef hb1]
  exact ao (aC ae)
 ·refine an 1<|ag (aj rfl (Bz (aO hx)))<|an 1<|ag (aj rfl (uQ (aO (Rz.neg hx)) (aO (Rz.int (Sz.small (k:=3) (by decide) (by decide) (by decide)) (by decide)))))<|bK<|ar<|ap<|al ?_
  rw[Lj hb1]
  exact ao (aC ae)
end Go.Proofs.YtacopbfkmnpfgaaGreat
