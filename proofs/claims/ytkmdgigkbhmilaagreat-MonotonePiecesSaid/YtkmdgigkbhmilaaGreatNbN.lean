/-Plain:points of a circle in real numbers;the program's and the reference's order of points of an arc are the same. -/
import Derived.Test.YtkmdgigkbhmilaaGreatNbM
namespace Go.Proofs.YtkmdgigkbhmilaaGreat
open Go Go.RowKit
def pX (p:Pt):Re:=qu p.a1 p.b1 p.c
def pY (p:Pt):Re:=qu p.a2 p.b2 p.c
theorem b9 {p:Pt}(h:GP p):0≤p.c:=Jr h.v
theorem iQ {p q:Pt}(hp:0≤p.c) (hq:0≤q.c):cx p q=bR (pX p-pX q):=mn hp hq
theorem tZ {p q:Pt}(hp:0≤p.c) (hq:0≤q.c):cy p q=bR (pY p-pY q):=mn hp hq
theorem kQ {p:Pt}(hp:0≤p.c) (v:Rat):lH p v=bR (pX p-Re.of v):=by
 unfold lH
 rw[fK (fW hp)]
 exact congrArg bR (Re.ext fun n=>by unfold pX qu dX;simp only[bt,bp,bK,cJ];grind)
theorem lT {p:Pt}(hp:0≤p.c) (v:Rat):fT p v=bR (pY p-Re.of v):=by
 unfold fT
 rw[fK (fW hp)]
 exact congrArg bR (Re.ext fun n=>by unfold pY qu dX;simp only[bt,bp,bK,cJ];grind)
theorem fe {p q:Pt}(hp:0≤p.c) (hq:0≤q.c):cx q p= -cx p q:=by rw[iQ hp hq,iQ hq hp,j8]
theorem uc {p:Pt}(hp:0≤p.c):cx p p=0:=by rw[iQ hp hp,pS]
theorem MJ {A B c:Rat}(hc:0≤c) (b1 b2 x y:Rat) (hA:A=F8 x y b1 b2 c) (hB:B=HH x y b1 b2):
 bR (dX A B (zc B c)-(qu x b1 c*qu x b1 c+qu y b2 c*qu y b2 c))=0:=by
 subst hA hB
 rw[show dX (F8 x y b1 b2 c) (HH x y b1 b2) (zc (HH x y b1 b2) c)=qu (F8 x y b1 b2 c) (HH x y b1 b2) c from rfl,og,og,og]
 have h:=ry hc
 have e:Re.of (F8 x y b1 b2 c)+Re.of (HH x y b1 b2)*Re.rt c-((Re.of x+Re.of b1*Re.rt c)*(Re.of x+Re.of b1*Re.rt c)+(Re.of y+Re.of b2*Re.rt c)*(Re.of y+Re.of b2*Re.rt c))=Re.of (-(b1*b1+b2*b2))*(Re.rt c*Re.rt c-Re.of c):=Re.ext fun n=>by
  unfold F8 HH
  simp only[bt,bp,bK,cJ];grind
 rw[e,cj,h,Int.mul_zero]
def tq (k:Ci) (p:Pt):Re:=(pX p-Re.of k.x)*(pX p-Re.of k.x)+(pY p-Re.of k.y)*(pY p-Re.of k.y)-Re.of k.q
theorem xS (a b c v:Rat):qu (a-v) b c=qu a b c-Re.of v:=Re.ext fun n=>by unfold qu dX;simp only[bt,bp,bK,cJ];grind
theorem PJ {k:Ci}{p:Pt}(hp:0≤p.c):bR (dX (Gu k p) (Al k p) (zc (Al k p) p.c))=bR (tq k p):=by
 refine my ?_
 have h:=MJ (A:=F8 (p.a1-k.x) (p.a2-k.y) p.b1 p.b2 p.c) (B:=Al k p) hp p.b1 p.b2 (p.a1-k.x) (p.a2-k.y) rfl rfl
 rw[←h]
 refine congrArg bR (Re.ext fun n=>?_)
 unfold tq pX pY
 rw[xS,xS]
 unfold Gu dX
 simp only[bt,bp,bK,cJ];grind
theorem ra {k:Ci}{p:Pt}(hp:GP p):iu k p= -bR (tq k p):=by
 have hv:=hp.v
 unfold iu
 rw[←PJ (b9 hp),F9 (fW (b9 hp))]
 intro hb
 have h:=Ia hv (x:=p.a1-k.x) (y:=p.a2-k.y) hb
 rw[show zc (Al k p) p.c=p.c from by unfold zc;rw[if_neg hb]]
 exact h
theorem zY (k:Ci) (p:Pt): -1≤iu k p∧iu k p≤1:=by have:=H0 (Gu k p) (Al k p) (zc (Al k p) p.c);unfold iu;omega
def OnK (k:Ci) (p:Pt):Prop:=GP p∧iu k p=0
theorem cb {k:Ci}{w:Bool}{f t p:Pt}:(Cv.arc k w f t).supp p=true↔iu k p=0:=by
 show(iu k p==0)=true↔_
 simp
def kd (k:Ci) (p:Pt):Fin 4:=if fT p k.y>0 then 1 else if fT p k.y=0 then(if lH p k.x>0 then 0 else 2) else 3
theorem pK (k:Ci) (p:Pt):ji k p=uK (kd k p):=by
 unfold ji kd uK
 by_cases h:fT p k.y>0
 ·simp[h]
 ·by_cases g:fT p k.y=0
  ·by_cases e:lH p k.x>0
   ·simp[g,e]
   ·simp[g,e]
  ·simp[h,g]
section
variable {k:Ci}{p:Pt}(hq:0<k.q) (hp:OnK k p)
include hp
theorem ck:0≤p.c:=b9 hp.1
theorem pq:bR (tq k p)=0:=by have h1:=ra (k:=k) hp.1;rw[hp.2] at h1;omega
include hq
theorem zN (h:fT p k.y=0):lH p k.x≠0:=by
 intro h2
 rw[lT (ck hp)] at h
 rw[kQ (ck hp)] at h2
 have e:Re.of k.q=((pX p-Re.of k.x)*(pX p-Re.of k.x)+(pY p-Re.of k.y)*(pY p-Re.of k.y))+ -tq k p:=Re.ext fun n=>by unfold tq;simp only[bt,bp,bK,cJ,bT];grind
 have h3:bR (Re.of k.q)=0:=by
  rw[e,dy _ (by rw[dz,pq hp];rfl),dy _ (by rw[cj,h,Int.zero_mul]),cj,h2,Int.zero_mul]
 rw[dN] at h3
 have:=fu.1 h3
 grind
end
theorem uR (p:Pt):pX p.flip= -pX p:=Re.ext fun n=>by
 show(qu (-p.a1) (-p.b1) p.c).s n=_
 unfold pX qu dX
 have:zc (-p.b1) p.c=zc p.b1 p.c:=by
  by_cases h:p.b1=0
  ·rw[o8 h,o8 (by rw[h];rfl)]
  ·rw[fS h,fS (by grind)]
 rw[this]
 simp only[bt,bK,cJ,bT];grind
theorem Ns (p:Pt):pY p.flip=pY p:=rfl
theorem uW {k:Ci}{p:Pt}(hp:0≤p.c):lH p.flip k.mir.x= -lH p k.x:=by
 rw[kQ (show 0≤p.flip.c from hp),kQ hp,uR,←dz]
 exact congrArg bR (Re.ext fun n=>by show _+ -(-k.x)=_;simp only[bp,cJ,bT];grind)
theorem wE (k:Ci) (p:Pt):fT p.flip k.mir.y=fT p k.y:=rfl
theorem nd {p q:Pt}(hp:0≤p.c) (hq:0≤q.c):cx p.flip q.flip= -cx p q:=by
 rw[iQ (show 0≤p.flip.c from hp) (show 0≤q.flip.c from hq),iQ hp hq,uR,uR,←dz]
 exact congrArg bR (Re.ext fun n=>by simp only[bp,bT];grind)
theorem wi {k:Ci}{p:Pt}(hq:0<k.q) (hp:OnK k p):ji k.mir p.flip=uF (kd k p):=by
 have h1:=uW (k:=k) (ck hp)
 have h2:=zN hq hp
 unfold ji kd uF
 rw[h1,wE]
 by_cases h:fT p k.y>0
 ·simp[h]
 ·by_cases g:fT p k.y=0
  ·have h3:=h2 g
   by_cases e:lH p k.x>0
   ·simp[g,e];omega
   ·simp[g,e];omega
  ·simp[h,g]
theorem fL (k:Ci) (p q:Pt):fJ k p q=Cp (ji k p) (ji k q) (cx p q):=rfl
def mk (k:Ci) (p q:Pt):Int:=GA (ji k p) (ji k q) (cx p q)
def n5 (k:Ci) (f p:Pt):Int:=G9 (mk k p f)
def xb (k:Ci) (f p q:Pt):Int:=vJ (mk k p f) (mk k q f) (mk k p q)
theorem pn (k:Ci) (f p q:Pt):qE k f p q=Di (fJ k p f) (fJ k q f) (fJ k p q):=rfl
theorem fP {n:Int}(h: -1≤n∧n≤1): ∃i:Fin 3,n=i3 i:=by
 rcases(by omega:n= -1∨n=0∨n=1) with h|h|h
 ·exact⟨0,h⟩
 ·exact⟨1,h⟩
 ·exact⟨2,h⟩
theorem jS {f p t:Pt}(hf:0≤f.c) (hp:0≤p.c) (ht:0≤t.c):C3 (cx p f) (cx t f) (cx p t)=true:=by
 rw[iQ hp hf,iQ ht hf,iQ hp ht]
 have e1:pX p-pX f=(pX p-pX t)+(pX t-pX f):=Re.ext fun n=>by simp only[bt,bp];grind
 have e2:pX p-pX t=(pX p-pX f)+ -(pX t-pX f):=Re.ext fun n=>by simp only[bt,bp,bT];grind
 have c1:=cF (pX p-pX f)
 have c2:=cF (pX t-pX f)
 unfold C3
 simp only[Bool.and_eq_true,Bool.or_eq_true,bne_iff_ne,beq_iff_eq]
 refine⟨⟨?_,?_⟩,?_⟩
 ·by_cases h:bR (pX t-pX f)=0
  ·right;rw[e2];exact dy _ (by rw[dz,h];rfl)
  ·exact .inl h
 ·by_cases h:bR (pX p-pX f)=0
  ·right;rw[e2,gN h,dz]
  ·exact .inl h
 ·by_cases h:bR (pX p-pX f)= -bR (pX t-pX f)
  ·right;rw[e2,gJ (by rw[dz];exact h)]
  ·exact .inl h
theorem Rr (X:Re):bR (X+X)=bR X:=gJ rfl
theorem uZ {k:Ci}{p l:Pt}(hp:OnK k p) (hl:OnK k l) (h0:fT p k.y=0) (h1:lH p k.x>0):
 (fT l k.y=0∧lH l k.x>0∧cx p l=0)∨(¬(fT l k.y=0∧lH l k.x>0)∧cx p l=1):=by
 have cp:=ck hp
 have cl:=ck hl
 rw[lT cp] at h0
 rw[kQ cp] at h1
 rw[lT cl,kQ cl,iQ cp cl]
 generalize hP:pX p-Re.of k.x=P at*
 generalize hL:pX l-Re.of k.x=L at*
 generalize hY:pY p-Re.of k.y=Y at*
 generalize hZ:pY l-Re.of k.y=Z at*
 have d:pX p-pX l=P-L:=by rw[←hP,←hL];exact Re.ext fun n=>by simp only[bp];grind
 rw[d]
 have w1:tq k p=P*P+Y*Y-Re.of k.q:=by rw[←hP,←hY];rfl
 have w2:tq k l=L*L+Z*Z-Re.of k.q:=by rw[←hL,←hZ];rfl
 have e:(P-L)*(P+L)=(Z*Z+(P*P+Y*Y-Re.of k.q))+(-(L*L+Z*Z-Re.of k.q)+ -(Y*Y)):=Re.ext fun n=>by simp only[bt,bp,bK,cJ,bT];grind
 have z1:bR (-(L*L+Z*Z-Re.of k.q)+ -(Y*Y))=0:=by
  rw[dy _ (by rw[dz,cj,h0];rfl),dz,←w2,pq hl];rfl
 have hprod:bR (P-L)*bR (P+L)=bR Z*bR Z:=by
  rw[←cj,e,dy _ z1,dy _ (by rw[←w1];exact pq hp),cj]
 have s2:(P-L)+(P+L)=P+P:=Re.ext fun n=>by simp only[bt,bp];grind
 have hP1:bR (P+P)=1:=by rw[Rr];have:=cF P;omega
 have hPL:L=P+ -(P-L):=Re.ext fun n=>by simp only[bt,bp,bT];grind
 have hPL2:L= -P+(P+L):=Re.ext fun n=>by simp only[bt,bT];grind
 rcases cF Z with c|c|c
 ·right
  refine⟨fun h=>by omega,?_⟩
  rw[c] at hprod
  rcases cF (P-L) with a|a|a
  ·exact a
  ·rw[a] at hprod;omega
  ·exfalso
   have:bR (P+L)= -1:=by rw[a] at hprod;omega
   have:=gJ (x:=P-L) (y:=P+L) (by omega)
   rw[s2] at this;omega
 ·rw[c] at hprod
  rcases cF (P-L) with a|a|a
  ·right
   refine⟨fun h=>?_,a⟩
   have h5:bR (P+L)=0:=by rw[a] at hprod;omega
   have:bR L= -bR P:=by rw[hPL2,dy _ h5,dz]
   omega
  ·left
   have:bR L=bR P:=by rw[hPL,dy _ (by rw[dz,a];rfl)]
   exact⟨c,by omega,a⟩
  ·exfalso
   have h5:bR (P+L)=0:=by rw[a] at hprod;omega
   have:=dy (P-L) h5
   rw[s2] at this;omega
 ·right
  refine⟨fun h=>by omega,?_⟩
  rw[c] at hprod
  rcases cF (P-L) with a|a|a
  ·exact a
  ·rw[a] at hprod;omega
  ·exfalso
   have:bR (P+L)= -1:=by rw[a] at hprod;omega
   have:=gJ (x:=P-L) (y:=P+L) (by omega)
   rw[s2] at this;omega
theorem LR {k:Ci}{p:Pt}(_hp:0≤p.c):bR (tq k.mir p.flip)=bR (tq k p):=by
 refine congrArg bR (Re.ext fun n=>?_)
 unfold tq
 rw[uR,Ns]
 show _=_
 simp only[Ci.mir,bt,bp,bK,cJ,bT];grind
theorem OnK.flip {k:Ci}{p:Pt}(hp:OnK k p):OnK k.mir p.flip:=by
 refine⟨hp.1.flip,?_⟩
 rw[ra hp.1.flip,LR (ck hp),pq hp];rfl
theorem zX {k:Ci}{p l:Pt}(hp:OnK k p) (hl:OnK k l) (h0:fT p k.y=0) (h1:lH p k.x<0):
 (fT l k.y=0∧lH l k.x<0∧cx p l=0)∨(¬(fT l k.y=0∧lH l k.x<0)∧cx p l= -1):=by
 have h:=uZ hp.flip hl.flip (by rw[wE];exact h0) (by rw[uW (ck hp)];omega)
 rw[wE,uW (ck hl),nd (ck hp) (ck hl)] at h
 rcases h with⟨a,b,c⟩|⟨a,c⟩
 ·exact .inl ⟨a,by omega,by omega⟩
 ·exact .inr ⟨fun g=>a ⟨g.1,by omega⟩,by omega⟩
theorem kK {k:Ci}{p:Pt}(hq:0<k.q) (hp:OnK k p):(kd k p=0∧fT p k.y=0∧lH p k.x>0)∨(kd k p=1∧fT p k.y>0)∨(kd k p=2∧fT p k.y=0∧lH p k.x<0)∨(kd k p=3∧fT p k.y<0):=by
 have h2:=zN hq hp
 unfold kd
 by_cases h:fT p k.y>0
 ·exact .inr (.inl ⟨if_pos h,h⟩)
 ·by_cases g:fT p k.y=0
  ·have h3:=h2 g
   by_cases e:lH p k.x>0
   ·exact .inl ⟨by rw[if_neg h,if_pos g,if_pos e],g,e⟩
   ·exact .inr (.inr (.inl ⟨by rw[if_neg h,if_pos g,if_neg e],g,by omega⟩))
  ·exact .inr (.inr (.inr ⟨by rw[if_neg h,if_neg g],by omega⟩))
theorem jn {k:Ci}{p l:Pt}(hq:0<k.q) (hp:OnK k p) (hl:OnK k l):o5 (kd k p) (kd k l) (cx p l)=true:=by
 have xp:=zN hq hp
 have xl:=zN hq hl
 have R:=uZ hp hl
 have L:=zX hp hl
 have R':=uZ hl hp
 have L':=zX hl hp
 rw[fe (ck hp) (ck hl)] at R' L'
 rcases kK hq hp with⟨e1,a1,a2⟩|⟨e1,a1⟩|⟨e1,a1,a2⟩|⟨e1,a1⟩<;>rcases kK hq hl with⟨e2,b1,b2⟩|⟨e2,b1⟩|⟨e2,b1,b2⟩|⟨e2,b1⟩<;>rw[e1,e2]<;>simp[o5]
 all_goals first
  |(have h:=R a1 a2;omega)
  |(have h:=L a1 a2;omega)
  |(have h:=R' b1 b2;omega)
  |(have h:=L' b1 b2;omega)
theorem wN {k:Ci}{f t p:Pt}(hf:GP f) (ht:GP t) (hp:GP p):(decide ((Cv.arc k false f t).ord f p≤0)&&decide ((Cv.arc k false f t).ord p t≤0))=decide (xb k f p t≤0):=by
 have cf:=b9 hf
 have ct:=b9 ht
 have cp:=b9 hp
 show(decide (qE k f f p≤0)&&decide (qE k f p t≤0))=_
 have ht:=jS cf cp ct
 obtain⟨i,hi⟩:=fP (fC p f)
 obtain⟨j,hj⟩:=fP (fC t f)
 obtain⟨l,hl⟩:=fP (fC p t)
 have h:=HR (ji k f) (ji k p) (ji k t) i j l (by rw[←hi,←hj,←hl];exact ht)
 rw[←hi,←hj,←hl] at h
 unfold Ug Tz at h
 rw[pn,pn,fL,fL,fL,fL,fL,uc cf,fe cp cf]
 exact h
theorem AU {k:Ci}{f t p:Pt}(hq:0<k.q) (hf:OnK k f) (ht:OnK k t) (hp:OnK k p):(decide ((Cv.arc k true f t).ord f p≤0)&&decide ((Cv.arc k true f t).ord p t≤0))=decide (xb k t p f≤0):=by
 have cf:=ck hf
 have ct:=ck ht
 have cp:=ck hp
 show(decide (qE k.mir f.flip f.flip p.flip≤0)&&decide (qE k.mir f.flip p.flip t.flip≤0))=_
 have h3:=jS cf cp ct
 have m1:=jn hq hp hf
 have m2:=jn hq ht hf
 have m3:=jn hq hp ht
 obtain⟨i,hi⟩:=fP (fC p f)
 obtain⟨j,hj⟩:=fP (fC t f)
 obtain⟨l,hl⟩:=fP (fC p t)
 rw[hi] at m1
 rw[hj] at m2
 rw[hl] at m3
 have h:=N3 (kd k f) (kd k p) (kd k t) i j l (by rw[←hi,←hj,←hl];exact h3) m1 m2 m3
 rw[←hi,←hj,←hl] at h
 unfold VY VZ at h
 rw[pn,pn,fL,fL,fL,fL,fL,nd cf cf,nd cp cf,nd cf cp,nd ct cf,nd cp ct,uc cf,fe cp cf,Int.neg_zero,Int.neg_neg,wi hq hf,wi hq hp,wi hq ht,h]
 unfold xb mk
 rw[fe ct cf,pK,pK,pK]
theorem PV (k:Ci) (f p q:Pt): -1≤xb k f p q∧xb k f p q≤1:=by unfold xb vJ P5;split<;>omega
theorem JS (a b c:Rat):dG a b c≤dH a b c:=by
 cases h:dO a b c with
 |true=>have hi:=Bj h;exact Rat.intCast_le_intCast.1 (sM (SG hi.1 hi.2))
 |false=>rw[(mT h).1,(mT h).2];exact Int.le_refl _
theorem KT (a b c:Rat):Bd (dG a b c)∧Bd (dH a b c):=by
 cases h:dO a b c with
 |false=>rw[(mT h).1,(mT h).2];exact⟨Bd.zero,Bd.zero⟩
 |true=>
  have hle:=JS a b c
  have h2:=h
  unfold dO Na at h2
  simp only[Bool.and_eq_true,Bool.or_eq_true] at h2
  unfold dG dH at*
  rw[if_pos h,if_pos h] at*
  have h3:=yD h2.1
  split
  ·exact⟨⟨h3.1,h3.2.1⟩,h3.2.2⟩
  ·rename_i g
   rw[if_neg g,if_neg g] at hle
   have h4:=Fm (h2.2.resolve_left g).2.2.2.2
   unfold Bd
   omega
theorem O0 (a b c:Rat):Bd (dG a b c):=(KT a b c).1
theorem OT (a b c:Rat):Bd (dH a b c):=(KT a b c).2
theorem Bd.neg {x:Int}(h:Bd x):Bd (-x):=by unfold Bd at*;omega
theorem DU {lo hi:Int}{X:Re}(h:oL lo hi X):oL (-hi) (-lo) (-X):=by
 refine⟨nL (fun k=>?_) h.2,nL (fun k=>?_) h.1⟩
 ·simp only[bp,bK,cJ,bT,Rat.intCast_neg];grind
 ·simp only[bp,bK,cJ,bT,Rat.intCast_neg];grind
theorem PC {x y:Int}(h:x≤y): -y≤ -x:=by omega
def tY (a b c v:Rat):Bool:=dO a b c&&gh v
def yp (a b c v:Rat):Int:=if tY a b c v then aL (dG a b c) (dH a b c) (-gH v) (-gL v) else 0
def yl (a b c v:Rat):Int:=if tY a b c v then aH (dG a b c) (dH a b c) (-gH v) (-gL v) else 0
def C5 (a b c v:Rat):Bool:=tY a b c v&&pu (dG a b c+ -gH v) (dH a b c+ -gL v)
section
variable {a b c v:Rat}
theorem xJ (h:tY a b c v=false):yp a b c v=0∧yl a b c v=0∧C5 a b c v=false:=by unfold yp yl C5;rw[h];exact⟨rfl,rfl,rfl⟩
theorem Am (h:tY a b c v=true):yp a b c v=aL (dG a b c) (dH a b c) (-gH v) (-gL v)∧yl a b c v=aH (dG a b c) (dH a b c) (-gH v) (-gL v)∧C5 a b c v=pu (dG a b c+ -gH v) (dH a b c+ -gL v):=by unfold yp yl C5;rw[h];exact⟨rfl,rfl,rfl⟩
theorem AF (a b c v:Rat):Bd (yp a b c v):=by
 unfold yp;split
 ·exact Bb (JS _ _ _) (PC (xy _))
 ·exact Bd.zero
theorem yX (a b c v:Rat):Bd (yl a b c v):=by
 unfold yl;split
 ·exact AS (JS _ _ _) (PC (xy _))
 ·exact Bd.zero
theorem Pw (h:C5 a b c v=true):oL (yp a b c v) (yl a b c v) (dX a b c+ -Re.of v):=by
 have h0:=h
 unfold C5 at h
 rw[Bool.and_eq_true] at h
 obtain⟨e1,e2,_⟩:=Am h.1
 rw[e1,e2]
 have h2:=h.1
 unfold tY at h2
 rw[Bool.and_eq_true] at h2
 exact CL (Bj h2.1) (DU (xm h2.2)) h.2
end
section
variable (k:Ci) (p:Pt)
def Im:Int:=pL (yp p.a1 p.b1 p.c k.x) (yl p.a1 p.b1 p.c k.x) (yp p.a1 p.b1 p.c k.x) (yl p.a1 p.b1 p.c k.x)
def JP:Int:=pH (yp p.a1 p.b1 p.c k.x) (yl p.a1 p.b1 p.c k.x) (yp p.a1 p.b1 p.c k.x) (yl p.a1 p.b1 p.c k.x)
def NO:Bool:=rF (yp p.a1 p.b1 p.c k.x) (yl p.a1 p.b1 p.c k.x) (yp p.a1 p.b1 p.c k.x) (yl p.a1 p.b1 p.c k.x) 4
def KO:Int:=pL (yp p.a2 p.b2 p.c k.y) (yl p.a2 p.b2 p.c k.y) (yp p.a2 p.b2 p.c k.y) (yl p.a2 p.b2 p.c k.y)
def Id:Int:=pH (yp p.a2 p.b2 p.c k.y) (yl p.a2 p.b2 p.c k.y) (yp p.a2 p.b2 p.c k.y) (yl p.a2 p.b2 p.c k.y)
def Q3:Bool:=rF (yp p.a2 p.b2 p.c k.y) (yl p.a2 p.b2 p.c k.y) (yp p.a2 p.b2 p.c k.y) (yl p.a2 p.b2 p.c k.y) 4
def Un:Int:=aL (Im k p) (JP k p) (KO k p) (Id k p)
def Sj:Int:=aH (Im k p) (JP k p) (KO k p) (Id k p)
def VM:Bool:=pu (Im k p+KO k p) (JP k p+Id k p)
def UC:Int:=aL (Un k p) (Sj k p) (-gH k.q) (-gL k.q)
def UA:Int:=aH (Un k p) (Sj k p) (-gH k.q) (-gL k.q)
def Vn:Bool:=pu (Un k p+ -gH k.q) (Sj k p+ -gL k.q)
def L6:Bool:=C5 p.a1 p.b1 p.c k.x&&(C5 p.a2 p.b2 p.c k.y&&gh k.q)
def Fh:Bool:=L6 k p&&(NO k p&&Q3 k p)
def CW:Bool:=Fh k p&&VM k p
def xn:Bool:=CW k p&&Vn k p
def OV:Bool:=xn k p&&Dz (UC k p) (UA k p)
def Pp:Int:=if xn k p then Dr (UC k p) (UA k p) else 0
end
section
variable {k:Ci}{p:Pt}
theorem m9 (h:xn k p=false):Pp k p=0∧OV k p=false:=by unfold Pp OV;rw[h];exact⟨rfl,rfl⟩
theorem Dp (h:xn k p=true):Pp k p=Dr (UC k p) (UA k p)∧OV k p=Dz (UC k p) (UA k p):=by unfold Pp OV;rw[h];exact⟨rfl,rfl⟩
theorem QY {a b c:Rat}:dX a b (zc b c)=dX a b c:=Re.ext fun n=>by
 unfold dX zc
 by_cases h:b=0
 ·subst h;simp only[bt,bK,cJ];grind
 ·rw[if_neg h]
theorem NR (h:OV k p=true):Pp k p=bR (tq k p):=by
 unfold OV at h
 rw[Bool.and_eq_true] at h
 obtain⟨h4,hs⟩:=h
 rw[(Dp h4).1]
 unfold xn CW Fh L6 at h4
 simp only[Bool.and_eq_true] at h4
 obtain⟨⟨⟨⟨k1,k2,k3⟩,k4,k5⟩,k6⟩,k7⟩:=h4
 have i1:=Pw k1
 have i2:=Pw k2
 have j1:oL (Im k p) (JP k p) _:=Ei i1 i1 k4
 have j2:oL (KO k p) (Id k p) _:=Ei i2 i2 k5
 have j3:oL (Un k p) (Sj k p) _:=CL j1 j2 k6
 have j4:oL (UC k p) (UA k p) _:=CL j3 (DU (xm k3)) k7
 rw[Af j4 hs]
 refine congrArg bR (Re.ext fun n=>?_)
 unfold tq pX pY qu
 rw[QY,QY]
 simp only[bt,bp,bK,cJ,bT]
theorem Gc:Bd (Im k p)∧Bd (JP k p):=⟨vV _ _ _ _,wV _ _ _ _⟩
theorem Fx:Bd (KO k p)∧Bd (Id k p):=⟨vV _ _ _ _,wV _ _ _ _⟩
theorem LK:Bd (Un k p)∧Bd (Sj k p):=⟨Bb (tj _ _ _ _) (tj _ _ _ _),AS (tj _ _ _ _) (tj _ _ _ _)⟩
theorem Tv (hp:GP p) (h:OV k p=true): -Pp k p=iu k p:=by rw[NR h,ra hp]
theorem Uo (hp:GP p): -cm (Gu k p) (Al k p) p.c=iu k p:=by
 rw[fK (b9 hp),ra hp,←PJ (b9 hp),QY]
end
def sP (l:Ln) (p:Pt):Re:=Re.of l.a*pX p+Re.of l.b*pY p-Re.of l.c
theorem KX {l:Ln}{p:Pt}:dX (vA l p) (vB l p) p.c=sP l p:=Re.ext fun n=>by
 unfold sP pX pY qu
 rw[QY,QY]
 unfold dX vA vB
 simp only[bt,bp,bK,cJ];grind
theorem mx {l:Ln}{p:Pt}(hp:GP p):d9 l p=bR (sP l p):=by
 have hv:=hp.v
 have hc:=b9 hp
 unfold d9
 by_cases hb:vB l p=0
 ·rw[En (.inl hb),Df (.inl hb),F9 (by decide) (fun h=>absurd rfl h),←KX]
  refine congrArg bR (Re.ext fun n=>?_)
  unfold dX
  rw[hb]
  simp only[bt,bK,cJ];grind
 ·have hcc:0<p.c∧go p.c=false:=by
   unfold sI at hv
   split at hv
   ·rename_i e
    exact absurd (by unfold vB;rw[e.1,e.2];grind) hb
   ·rw[Bool.and_eq_true] at hv
    exact⟨of_decide_eq_true hv.1,by simpa using hv.2⟩
  have hc0:p.c≠0:=by have:=hcc.1;grind
  have e1:rB (vB l p) p.c=vB l p:=by unfold rB;rw[if_neg (by rintro(h|h);exact hb h;exact hc0 h)]
  have e2:rC (vB l p) p.c=p.c:=by unfold rC;rw[if_neg (by rintro(h|h);exact hb h;exact hc0 h)]
  rw[e1,e2,F9 hc (fun _=>hcc),KX]
theorem QC {l:Ln}{p:Pt}(hp:GP p):cm (vA l p) (vB l p) p.c=d9 l p:=by rw[fK (b9 hp),KX,mx hp]
theorem EM (l:Ln) (p:Pt): -1≤d9 l p∧d9 l p≤1:=H0 _ _ _
def tV (n a b c:Rat):Bool:=dO a b c&&gh n
def CX (n a b c:Rat):Int:=if tV n a b c then pL (gL n) (gH n) (dG a b c) (dH a b c) else 0
def C4 (n a b c:Rat):Int:=if tV n a b c then pH (gL n) (gH n) (dG a b c) (dH a b c) else 0
def CY (n a b c:Rat):Bool:=tV n a b c&&rF (gL n) (gH n) (dG a b c) (dH a b c) 4
section
variable {n a b c:Rat}
theorem xT (h:tV n a b c=false):CX n a b c=0∧C4 n a b c=0∧CY n a b c=false:=by unfold CX C4 CY;rw[h];exact⟨rfl,rfl,rfl⟩
theorem zS (h:tV n a b c=true):CX n a b c=pL (gL n) (gH n) (dG a b c) (dH a b c)∧C4 n a b c=pH (gL n) (gH n) (dG a b c) (dH a b c)∧CY n a b c=rF (gL n) (gH n) (dG a b c) (dH a b c) 4:=by unfold CX C4 CY;rw[h];exact⟨rfl,rfl,rfl⟩
theorem IW (n a b c:Rat):Bd (CX n a b c):=by
 unfold CX;split
 ·exact vV _ _ _ _
 ·exact Bd.zero
theorem IB (n a b c:Rat):Bd (C4 n a b c):=by
 unfold C4;split
 ·exact wV _ _ _ _
 ·exact Bd.zero
theorem EO (n a b c:Rat):CX n a b c≤C4 n a b c:=by
 unfold CX C4;split
 ·exact tj _ _ _ _
 ·exact Int.le_refl _
theorem Py (h:CY n a b c=true):oL (CX n a b c) (C4 n a b c) (Re.of n*dX a b c):=by
 unfold CY at h
 rw[Bool.and_eq_true] at h
 obtain⟨e1,e2,_⟩:=zS h.1
 rw[e1,e2]
 have h2:=h.1
 unfold tV at h2
 rw[Bool.and_eq_true] at h2
 exact Ei (xm h2.2) (Bj h2.1) h.2
end
section
variable (l:Ln) (p:Pt)
def UH:Int:=aL (CX l.a p.a1 p.b1 p.c) (C4 l.a p.a1 p.b1 p.c) (CX l.b p.a2 p.b2 p.c) (C4 l.b p.a2 p.b2 p.c)
def Tj:Int:=aH (CX l.a p.a1 p.b1 p.c) (C4 l.a p.a1 p.b1 p.c) (CX l.b p.a2 p.b2 p.c) (C4 l.b p.a2 p.b2 p.c)
def U7:Bool:=pu (CX l.a p.a1 p.b1 p.c+CX l.b p.a2 p.b2 p.c) (C4 l.a p.a1 p.b1 p.c+C4 l.b p.a2 p.b2 p.c)
def Ue:Int:=aL (UH l p) (Tj l p) (-gH l.c) (-gL l.c)
def ST:Int:=aH (UH l p) (Tj l p) (-gH l.c) (-gL l.c)
def VI:Bool:=pu (UH l p+ -gH l.c) (Tj l p+ -gL l.c)
def Ma:Bool:=CY l.a p.a1 p.b1 p.c&&(CY l.b p.a2 p.b2 p.c&&gh l.c)
def HJ:Bool:=Ma l p&&U7 l p
def AZ:Bool:=HJ l p&&VI l p
def Rt:Bool:=AZ l p&&Dz (Ue l p) (ST l p)
def Sd:Int:=if AZ l p then Dr (Ue l p) (ST l p) else 0
end
section
variable {l:Ln}{p:Pt}
theorem qJ (h:AZ l p=false):Sd l p=0∧Rt l p=false:=by unfold Sd Rt;rw[h];exact⟨rfl,rfl⟩
theorem D5 (h:AZ l p=true):Sd l p=Dr (Ue l p) (ST l p)∧Rt l p=Dz (Ue l p) (ST l p):=by unfold Sd Rt;rw[h];exact⟨rfl,rfl⟩
theorem KW:Bd (UH l p)∧Bd (Tj l p):=⟨Bb (EO _ _ _ _) (EO _ _ _ _),AS (EO _ _ _ _) (EO _ _ _ _)⟩
theorem MX (hp:GP p) (h:Rt l p=true):Sd l p=d9 l p:=by
 unfold Rt at h
 rw[Bool.and_eq_true] at h
 obtain⟨h4,hs⟩:=h
 rw[(D5 h4).1]
 unfold AZ HJ Ma at h4
 simp only[Bool.and_eq_true] at h4
 obtain⟨⟨⟨k1,k2,k3⟩,k4⟩,k5⟩:=h4
 have j3:oL (UH l p) (Tj l p) _:=CL (Py k1) (Py k2) k4
 have j4:oL (Ue l p) (ST l p) _:=CL j3 (DU (xm k3)) k5
 rw[Af j4 hs,mx hp]
 refine congrArg bR (Re.ext fun n=>?_)
 unfold sP pX pY qu
 rw[QY,QY]
 simp only[bt,bp,bK,cJ,bT]
end
def Cv.pos:Cv→Prop
 | .seg ..=>True
 | .arc k _ _ _=>0<k.q
structure CvV (c:Cv):Prop where
 g:c.good
 pos:c.pos
 sp:c.supp c.p=true
 sq:c.supp c.q=true
 ne:cP c.p c.q≠0
theorem gC {p q:Pt}:cP p q=0↔cx p q=0∧cy p q=0:=by
 unfold cP jZ
 show(if cx p q≠0 then cx p q else cy p q)=0↔_
 by_cases h:cx p q=0
 ·rw[if_neg (by rw[h];decide)];simp[h]
 ·rw[if_pos h];simp[h]
theorem fQ {p q:Pt}(hp:0≤p.c) (hq:0≤q.c):cP q p= -cP p q:=Dj hp hq
theorem Fs {p:Pt}(hp:0≤p.c):cP p p=0:=D6 hp
theorem CvV.rev {c:Cv}(h:CvV c):CvV c.rev:=by
 have hp:=b9 (cn h.g)
 have hq:=b9 (cH h.g)
 cases c with
 |seg l p q=>exact⟨wn h.g,trivial,h.sq,h.sp,fun e=>h.ne (by have:=fQ hp hq;have e2:cP q p=0:=e;show cP p q=0;have h3:cP q p= -cP p q:=this;omega)⟩
 |arc k w p q=>exact⟨wn h.g,h.pos,h.sq,h.sp,fun e=>h.ne (by have:=fQ hp hq;have e2:cP q p=0:=e;show cP p q=0;have h3:cP q p= -cP p q:=this;omega)⟩
theorem yI {x y:Re}(h:bR (x-y)=0) (v:Re):bR (x-v)=bR (y-v):=my (by rw[←h];exact congrArg bR (Re.ext fun n=>by simp only[bp];grind))
section
variable {p q:Pt}(hp:0≤p.c) (hq:0≤q.c) (h:cP p q=0)
include hp hq h
theorem zj {f:Pt}(hf:0≤f.c):cx p f=cx q f:=by
 have h1:=(gC.1 h).1
 rw[iQ hp hq] at h1
 rw[iQ hp hf,iQ hq hf];exact yI h1 _
theorem JM (v:Rat):lH p v=lH q v:=by
 have h1:=(gC.1 h).1
 rw[iQ hp hq] at h1
 rw[kQ hp,kQ hq];exact yI h1 _
theorem Bi (v:Rat):fT p v=fT q v:=by
 have h1:=(gC.1 h).2
 rw[tZ hp hq] at h1
 rw[lT hp,lT hq];exact yI h1 _
theorem LL (k:Ci):ji k p=ji k q:=by unfold ji;rw[JM hp hq h,Bi hp hq h]
theorem AY {k:Ci}{f:Pt}(hf:0≤f.c):qE k f p q=0:=by
 rw[pn,fL,fL,fL,zj hp hq h hf,LL hp hq h,(gC.1 h).1]
 unfold Di
 rw[if_neg (by simp)]
 unfold Cp
 simp
theorem Bf {c:Cv}(hc:c.good):c.ord p q=0:=by
 have hf:=b9 (cn hc)
 cases c with
 |seg l f t=>
  show(if decide (cP f t>0)=true then-cP p q else cP p q)=0
  rw[h];split<;>rfl
 |arc k w f t=>
  show(if (!w)=true then qE k f p q else qE k.mir f.flip p.flip q.flip)=0
  split
  ·exact AY hp hq h hf
  ·refine AY (p:=p.flip) (q:=q.flip) hp hq (gC.2 ⟨?_,?_⟩) (f:=f.flip) hf
   ·rw[nd hp hq,(gC.1 h).1];rfl
   ·exact(gC.1 h).2
end
theorem AC {c:Cv}(hc:c.good) {p q:Pt}(hp:GP p) (hq:GP q) (h:c.ord p q<0):cP p q≠0:=fun e=>by
 have:=Bf (b9 hp) (b9 hq) e hc
 omega
theorem BB {c:Cv}{x:Pt}:gp c [] x=[x]:=rfl
theorem uL {c:Cv}{x o:Pt}{l:List Pt}(h:c.ord o x<0):gp c (o::l) x=o::gp c l x:=by
 have e:jd c x (o::l)=jd c x l+1:=by show(if c.ord o x<0 then jd c x l+1 else 0)=_;rw[if_pos h]
 unfold gp
 rw[e]
 by_cases g:jd c x l<l.length∧cP (l.getD (jd c x l) dPt) x=0
 ·rw[if_pos g,if_pos ⟨by rw[List.length_cons];omega,g.2⟩]
 ·rw[if_neg g,if_neg (fun f=>g ⟨by have:=f.1;rw[List.length_cons] at this;omega,f.2⟩)];rfl
theorem uE {c:Cv}{x o:Pt}{l:List Pt}(h: ¬c.ord o x<0):gp c (o::l) x=if cP o x=0 then o::l else x::o::l:=by
 have e:jd c x (o::l)=0:=by show(if c.ord o x<0 then jd c x l+1 else 0)=_;rw[if_neg h]
 unfold gp
 rw[e]
 by_cases g:cP o x=0
 ·rw[if_pos ⟨by rw[List.length_cons];omega,g⟩,if_pos g]
 ·rw[if_neg (fun f=>g f.2),if_neg g];rfl
def rE:List Pt→Prop
 |p::q::l=>cP p q≠0∧rE (q::l)
 |_=>True
theorem HO {o:Pt}{l:List Pt}(h:rE (o::l)):rE l:=by
 cases l with
 |nil=>trivial
 |cons p l=>exact h.2
theorem CS {c:Cv}(hc:c.good) {x:Pt}(hx:GP x): ∀ {l:List Pt},(∀p∈l,GP p)→rE l→rE (gp c l x)
 |[],_,_=>trivial
 |o::l,hl,h=>by
  by_cases g:c.ord o x<0
  ·rw[uL g]
   have ih:=CS hc hx (l:=l) (fun p hp=>hl p (List.mem_cons_of_mem _ hp)) (HO h)
   have ho:=AC hc (hl o List.mem_cons_self) hx g
   cases l with
   |nil=>exact⟨ho,trivial⟩
   |cons p l=>
    by_cases g2:c.ord p x<0
    ·rw[uL g2] at ih⊢;exact⟨h.1,ih⟩
    ·rw[uE g2] at ih⊢
     by_cases e:cP p x=0
     ·rw[if_pos e];exact h
     ·rw[if_neg e] at ih⊢;exact⟨ho,ih⟩
  ·rw[uE g]
   by_cases e:cP o x=0
   ·rw[if_pos e];exact h
   ·rw[if_neg e]
    refine⟨fun e2=>e ?_,h⟩
    rw[fQ (b9 hx) (b9 (hl o List.mem_cons_self)),e2];rfl
theorem Ca {c:Cv}(hc:c.good): ∀ {l out:List Pt},(∀p∈l,GP p)→(∀p∈out,GP p)→rE out→rE (l.foldl (gp c) out)
 |[],_,_,_,h=>h
 |x::l,out,hl,ho,h=>by
  refine Ca hc (l:=l) (out:=gp c out x) (fun p hp=>hl p (List.mem_cons_of_mem _ hp)) (fun p hp=>?_) (CS hc (hl x List.mem_cons_self) ho h)
  rcases rr hp with e|e
  ·exact ho p e
  ·rw[e];exact hl x List.mem_cons_self
theorem GZ {c:Cv}(hc:c.good) {l:List Pt}(hl: ∀p∈l,GP p):rE (cr c l):=Ca hc hl (fun p hp=>by cases hp) trivial
theorem xQ {c:Cv}: ∀ {l:List Pt}{d:Cv},rE l→d∈gT c l→ ∃p q,p∈l∧q∈l∧cP p q≠0∧d=c.ends p q
 |p::q::l,d,ha,h=>by
  rcases List.mem_cons.1 (show d∈c.ends p q::gT c (q::l) from h) with h|h
  ·exact⟨p,q,List.mem_cons_self,List.mem_cons_of_mem _ List.mem_cons_self,ha.1,h⟩
  ·obtain⟨p',q',h1,h2,h3,h4⟩:=xQ ha.2 h
   exact⟨p',q',List.mem_cons_of_mem _ h1,List.mem_cons_of_mem _ h2,h3,h4⟩
 |[_],d,_,h=>by cases h
 |[],d,_,h=>by cases h
theorem Ll (c:Cv) (p q:Pt):(c.ends p q).p=p:=by cases c<;>rfl
theorem Jw (c:Cv) (p q:Pt):(c.ends p q).q=q:=by cases c<;>rfl
theorem yo (c:Cv) (p q x:Pt):(c.ends p q).supp x=c.supp x:=by cases c<;>rfl
theorem Lq {c:Cv}(h:c.pos) (p q:Pt):(c.ends p q).pos:=by cases c<;>exact h
theorem p9 {c:Cv}{p:Pt}(h:c.on p=true):c.supp p=true:=by
 unfold Cv.on at h
 simp only[Bool.and_eq_true] at h
 exact h.1.1
theorem uu {c:Cv}(h:CvV c) {L:List Pt}(hL: ∀p∈L,GP p) (hs: ∀p∈L,c.supp p=true): ∀d∈eE c L,CvV d:=by
 intro d hd
 have hG: ∀p∈ [c.p,c.q]++L,GP p:=by
  intro p hp
  simp only[List.cons_append,List.nil_append,List.mem_cons] at hp
  rcases hp with e|e|e
  ·rw[e];exact cn h.g
  ·rw[e];exact cH h.g
  ·exact hL p e
 have hS: ∀p∈ [c.p,c.q]++L,c.supp p=true:=by
  intro p hp
  simp only[List.cons_append,List.nil_append,List.mem_cons] at hp
  rcases hp with e|e|e
  ·rw[e];exact h.sp
  ·rw[e];exact h.sq
  ·exact hs p e
 obtain⟨p,q,h1,h2,h3,rfl⟩:=xQ (GZ h.g hG) hd
 have m1:=j7 h1
 have m2:=j7 h2
 exact⟨yG h.g (hG p m1) (hG q m2),Lq h.pos p q,by rw[Ll,yo];exact hS p m1,by rw[Jw,yo];exact hS q m2,by rw[Ll,Jw];exact h3⟩
theorem E6 (a b:Rat):pX (rP a b)=Re.of a:=Re.ext fun n=>by unfold pX qu dX;simp only[bt,bK,cJ,rP];grind
theorem Jx (a b:Rat):pY (rP a b)=Re.of b:=Re.ext fun n=>by unfold pY qu dX;simp only[bt,bK,cJ,rP];grind
theorem Ac {l:Ln}{a b:Rat}(hp:GP (rP a b)) (h:l.a*a+l.b*b=l.c):d9 l (rP a b)=0:=by
 rw[mx hp]
 unfold sP
 rw[E6,Jx,j9,j9,Ji,rb,dN,h]
 exact fu.2 (by grind)
theorem DW {k:Ci}{a b:Rat}(hp:GP (rP a b)) (h:(a-k.x)*(a-k.x)+(b-k.y)*(b-k.y)=k.q):iu k (rP a b)=0:=by
 rw[ra hp]
 unfold tq
 rw[E6,Jx,rb,rb,j9,j9,Ji,rb,dN,h,fu.2 (show k.q-k.q=0 by grind)];rfl
theorem Io {q:Rat}(_h0:0<q) (hs:go q=true):rt q*rt q=q:=by
 have hs2:=hs
 unfold go xe at hs2
 simp only[Bool.and_eq_true,beq_iff_eq] at hs2
 have hd:bP (q.den:Int)≠0:=by have:=sB (den_pos q);omega
 have hdq:((bP (q.den:Int):Int):Rat)≠0:=by simpa using hd
 have h2:rt q*((bP (q.den:Int):Int):Rat)=((bP q.num:Int):Rat):=by unfold rt;rw[Rat.divInt_eq_div,Rat.div_mul_cancel hdq]
 have h3:=EE q
 have e1:((q.num:Int):Rat)=((bP q.num:Int):Rat)*((bP q.num:Int):Rat):=by rw[←Rat.intCast_mul,hs2.1]
 have e2:(((q.den:Int)):Rat)=((bP (q.den:Int):Int):Rat)*((bP (q.den:Int):Int):Rat):=by rw[←Rat.intCast_mul,hs2.2]
 rw[e1,e2,←h2] at h3
 generalize ((bP (q.den:Int):Int):Rat)=d at*
 have h5:(rt q*rt q-q)*(d*d)=0:=by grind
 rcases Rat.mul_eq_zero.1 h5 with h6|h6
 ·grind
 ·rcases Rat.mul_eq_zero.1 h6 with h7|h7<;>exact absurd h7 hdq
theorem Kn {k:Ci}(s:Rat) (hs:s*s=1) (h0:0<k.q) (hp:GP (fv k.x s k.y 0 k.q)):iu k (fv k.x s k.y 0 k.q)=0:=by
 cases hq:go k.q with
 |true=>
  have e:fv k.x s k.y 0 k.q=rP (k.x+s*rt k.q) (k.y+0*rt k.q):=by unfold fv;rw[hq];rfl
  rw[e] at hp⊢
  refine DW hp ?_
  have:=Io h0 hq
  grind
 |false=>
  have e:fv k.x s k.y 0 k.q=⟨k.x,s,k.y,0,k.q⟩:=by unfold fv;rw[hq];rfl
  rw[e] at hp⊢
  rw[ra hp]
  have hc:(0:Rat)≤k.q:=by grind
  have h:=ry hc
  have e2:tq k ⟨k.x,s,k.y,0,k.q⟩=Re.rt k.q*Re.rt k.q-Re.of k.q:=Re.ext fun n=>by
   unfold tq pX pY
   rw[og,og]
   simp only[bt,bp,bK,cJ];grind
  rw[e2,h];rfl
theorem Ar {k:Ci}(hk:GK k) (h0:0<k.q):iu k (jt k)=0:=Kn (-1) (by decide+kernel) h0 (qY hk h0)
theorem zw {k:Ci}(hk:GK k) (h0:0<k.q):iu k (i9 k)=0:=Kn 1 (by decide+kernel) h0 (q6 hk h0)
section
variable {a b c d e f:Rat}(hn:lj a b c d e f≠0)
include hn
theorem O5:uy a b c d e f*(lj a b c d e f+lj a b c d e f)=((c-a)*(c-a)+(d-b)*(d-b))*(f-b)-((e-a)*(e-a)+(f-b)*(f-b))*(d-b)∧
 uM a b c d e f*(lj a b c d e f+lj a b c d e f)=((e-a)*(e-a)+(f-b)*(f-b))*(c-a)-((c-a)*(c-a)+(d-b)*(d-b))*(e-a):=by
 have h2D:lj a b c d e f+lj a b c d e f≠0:=fun h=>hn (by grind)
 exact⟨by unfold uy;exact Rat.div_mul_cancel h2D,by unfold uM;exact Rat.div_mul_cancel h2D⟩
theorem Rw:(e-(a+uy a b c d e f))*(e-(a+uy a b c d e f))+(f-(b+uM a b c d e f))*(f-(b+uM a b c d e f))=uy a b c d e f*uy a b c d e f+uM a b c d e f*uM a b c d e f:=by
 obtain⟨h1,h2⟩:=O5 hn
 have h2D:lj a b c d e f+lj a b c d e f≠0:=fun h=>hn (by grind)
 generalize hx:uy a b c d e f=x at*
 generalize hy:uM a b c d e f=y at*
 generalize hD:lj a b c d e f+lj a b c d e f=D at*
 have eD:D=((c-a)*(f-b)-(d-b)*(e-a))+((c-a)*(f-b)-(d-b)*(e-a)):=by rw[←hD];rfl
 have key:((e-a)*(e-a)+(f-b)*(f-b)-((e-a)*x+(f-b)*y)-((e-a)*x+(f-b)*y))*D=0:=by grind
 rcases Rat.mul_eq_zero.1 key with h|h
 ·grind
 ·exact absurd h h2D
theorem Qh:0<uy a b c d e f*uy a b c d e f+uM a b c d e f*uM a b c d e f:=by
 obtain⟨h1,h2⟩:=O5 hn
 have h2D:lj a b c d e f+lj a b c d e f≠0:=fun h=>hn (by grind)
 have q1:=Nr (uy a b c d e f)
 have q2:=Nr (uM a b c d e f)
 by_cases h:uy a b c d e f*uy a b c d e f+uM a b c d e f*uM a b c d e f=0
 ·exfalso
  obtain⟨hx,hy⟩:=Fe h
  rw[hx] at h1
  rw[hy] at h2
  have key:((c-a)*(c-a)+(d-b)*(d-b))*(lj a b c d e f)=0:=by
   show _*((c-a)*(f-b)-(d-b)*(e-a))=0
   grind
  rcases Rat.mul_eq_zero.1 key with g|g
  ·obtain⟨g1,g2⟩:=Fe g
   exact hn (by unfold lj;rw[g1,g2];grind)
  ·exact hn g
 ·grind
end
theorem RQ (a b x y:Rat):(a-(a+x))*(a-(a+x))+(b-(b+y))*(b-(b+y))=x*x+y*y:=by grind
theorem P2 (a b c d:Rat):(b-d)*c+(c-a)*d=(b-d)*a+(c-a)*b:=by grind
section
variable {K U A B C D E F:Int}(hU:0≤U) (hA: -128≤A∧A≤127) (hB: -128≤B∧B≤127) (hC: -128≤C∧C≤127) (hD: -128≤D∧D≤127) (hE: -128≤E∧E≤127) (hF: -128≤F∧F≤127)
include hU hA hB hC hD hE hF
theorem FQ: ∀c∈pA K U A B C D E F,CvV c:=by
 intro c hc
 have hg:=vh (K:=K) hU hA hB hC hD hE hF c hc
 unfold pA at hc
 split at hc
 ·split at hc
  ·rename_i h0
   unfold tG at hc
   rcases List.mem_cons.1 hc with e|e
   ·subst e
    have gk:GK _:=hg.g.1
    exact⟨hg.g,h0,cb.2 (Ar gk h0),cb.2 (zw gk h0),hg.ne⟩
   ·rw[List.mem_singleton] at e;subst e
    have gk:GK _:=hg.g.1
    exact⟨hg.g,h0,cb.2 (zw gk h0),cb.2 (Ar gk h0),hg.ne⟩
  ·cases hc
 ·split at hc
  ·split at hc
   ·cases hc
   ·rename_i h0
    rw[List.mem_singleton] at hc;subst hc
    exact⟨hg.g,Qh h0,cb.2 (DW hg.g.2.1 (RQ _ _ _ _)),cb.2 (DW hg.g.2.2 (Rw h0)),hg.ne⟩
  ·split at hc
   ·cases hc
   ·rw[List.mem_singleton] at hc;subst hc
    refine⟨hg.g,trivial,?_,?_,hg.ne⟩
    ·show(d9 _ (rP _ _)==0)=true
     rw[Ac hg.g.2.1 rfl];rfl
    ·show(d9 _ (rP _ _)==0)=true
     rw[Ac hg.g.2.2 (P2 _ _ _ _)];rfl
end
theorem Q6 {A0 Bl:List Cv}(hg:CvV (A0.getD 0 bn)) (hB: ∀d∈Bl,d.good): ∀c∈t6 A0 Bl,CvV c:=
 uu hg (fun p hp=>(ue hg.g hB p hp).1) (fun p hp=>p9 (ue hg.g hB p hp).2)
def Cv.inner (c:Cv) (p:Pt):Bool:=c.on p&&(!(cP c.p p==0)&& !(cP c.q p==0))
def Cv.mono:Cv→Bool
 | .seg _ p q=> !decide (cP p q≥0)
 | .arc k w p q=> !decide (cP p q≥0)&&(!(Cv.arc k w p q).inner (jt k)&& !(Cv.arc k w p q).inner (i9 k))
def Cv.vert:Cv→Bool
 | .seg _ p q=>cx p q==0
 | .arc ..=>false
def sR (k:Ci) (p:Pt):Int:=if ji k p then 0 else 1
theorem RF {k:Ci}{p:Pt}(h:decide (fT p k.y>0)=false) (g:(fT p k.y==0)=false):sR k p=1:=by unfold sR;rw[IM h g];rfl
theorem Tw {k:Ci}{p:Pt}(h:decide (fT p k.y>0)=true):sR k p=0:=by unfold sR;rw[Pa h];rfl
theorem Ub {k:Ci}{p:Pt}(h:decide (fT p k.y>0)=false) (g:(fT p k.y==0)=true) (e:decide (lH p k.x>0)=true):sR k p=0:=by unfold sR;rw[DQ h g,e];rfl
theorem Ti {k:Ci}{p:Pt}(h:decide (fT p k.y>0)=false) (g:(fT p k.y==0)=true) (e:decide (lH p k.x>0)=false):sR k p=1:=by unfold sR;rw[DQ h g,e];rfl
theorem Iv (k:Ci) (p:Pt):0≤sR k p∧sR k p≤1:=by unfold sR;split<;>omega
theorem RI {k:Ci}{p q:Pt}(h:(sR k p==sR k q)=false):mk k p q=sR k p-sR k q:=by
 unfold mk GA sR at*
 generalize ji k p=u at*
 generalize ji k q=v at*
 cases u<;>cases v<;>first|rfl|(simp at h)
theorem Mn {k:Ci}{p q:Pt}(h:(sR k p==sR k q)=true) (g:(sR k p==0)=true):mk k p q= -cx p q:=by
 unfold mk GA sR at*
 generalize ji k p=u at*
 generalize ji k q=v at*
 cases u<;>cases v<;>first|rfl|(simp at g;done)|(simp at h;done)
theorem N7 {k:Ci}{p q:Pt}(h:(sR k p==sR k q)=true) (g:(sR k p==0)=false):mk k p q=cx p q:=by
 unfold mk GA sR at*
 generalize ji k p=u at*
 generalize ji k q=v at*
 cases u<;>cases v<;>first|rfl|(simp at g;done)|(simp at h;done)
theorem K6 (k:Ci) (f p:Pt):0≤n5 k f p∧n5 k f p≤2:=by unfold n5 G9;repeat' split<;>omega
theorem Q4 {k:Ci}{f p:Pt}(h:(mk k p f==0)=true):n5 k f p=0:=by unfold n5 G9;rw[if_pos (by simpa using h)]
theorem Q8 {k:Ci}{f p:Pt}(h:(mk k p f==0)=false) (g:decide (mk k p f>0)=true):n5 k f p=1:=by unfold n5 G9;rw[if_neg (by simpa using h),if_pos (of_decide_eq_true g)]
theorem RZ {k:Ci}{f p:Pt}(h:(mk k p f==0)=false) (g:decide (mk k p f>0)=false):n5 k f p=2:=by unfold n5 G9;rw[if_neg (by simpa using h),if_neg (of_decide_eq_false g)]
theorem S2 {k:Ci}{f p q:Pt}(h:(n5 k f p==n5 k f q)=false):xb k f p q=P5 (n5 k f p-n5 k f q):=by
 unfold xb vJ;rw[if_pos (show G9 (mk k p f)≠G9 (mk k q f) from by simpa [n5] using h)];rfl
theorem SH {k:Ci}{f p q:Pt}(h:(n5 k f p==n5 k f q)=true):xb k f p q=P5 (mk k p q):=by
 unfold xb vJ;rw[if_neg (show ¬G9 (mk k p f)≠G9 (mk k q f) from by simpa [n5] using h)]
theorem Px {c:Cv}{p:Pt}(h:c.on p=false):c.inner p=false:=by unfold Cv.inner;rw[h];rfl
theorem KN {c:Cv}{p:Pt}(h:c.on p=true) (g:(!(cP c.p p==0))=false):c.inner p=false:=by unfold Cv.inner;rw[h,g];rfl
theorem LQ {c:Cv}{p:Pt}(h:c.on p=true) (g:(!(cP c.p p==0))=true):c.inner p= !(cP c.q p==0):=by unfold Cv.inner;rw[h,g];rfl
theorem yy {c:Cv}{p:Pt}(h:c.supp p=true):c.on p=(decide (c.ord c.p p≤0)&&decide (c.ord p c.q≤0)):=by unfold Cv.on;rw[h,Bool.true_and]
theorem Qa {u v q:Rat}(hb: ¬(u=0∧v=0)):zcp u v (cc u (zc u q) (zc v q))=q:=by
 unfold zcp
 rw[if_neg hb]
 by_cases h:u=0
 ·rw[tk h,fS (fun e=>hb ⟨h,e⟩)]
 ·rw[oS h,fS h]
theorem To {a b c d:Rat}(ha:Rz 600 a) (hb:Rz 600 b) (hc:Rz 600 c) (hd:Rz 600 d):Ok Tryz.prog 173 [.a ((cR a++cR b++cR c)),dR d] [.c (.i .i64 (cm (a-d) b c))]:=by
 refine Ok.fn Tryz.func173 14 [.tmp 4] rfl<|aa<|ab<|ag<|aa<|aR 10 rfl rfl<|ap 1<|aj (aF (cR a) aD rfl)<|ap 1<|aj (am rfl (eP (aX ha) (aX hd)))<|ap 1<|aj (aF (cR b) aD rfl)<|ap 1<|aj (aF (cR c) aD rfl) ?_
 refine aj (am rfl (ss (aX (Rz.sub ha hd)) (aX hb) (aX hc)))<|bk<|az<|ar<|an ?_
 exact aq (aE ae)
theorem U3 {p:Pt}(hp:GP p) {v:Rat}(hv:Rz 600 v):Ok Tryz.prog 173 [.a ((cR p.a1++cR p.b1++cR (zc p.b1 p.c))),dR v] [.c (.i .i64 (lH p v))]:=To (hp.a1.mono (by decide)) (hp.b1.mono (by decide)) (Rz.zc (hp.c.mono (by decide)) (by decide)) hv
theorem Vv {p:Pt}(hp:GP p) {v:Rat}(hv:Rz 600 v):Ok Tryz.prog 173 [.a ((cR p.a2++cR p.b2++cR (zc p.b2 p.c))),dR v] [.c (.i .i64 (fT p v))]:=To (hp.a2.mono (by decide)) (hp.b2.mono (by decide)) (Rz.zc (hp.c.mono (by decide)) (by decide)) hv
theorem Tr {p q:Pt}(hp:GP p) (hq:GP q):Ok Tryz.prog 72 [.a ((cR p.a1++cR p.b1++cR (zc p.b1 p.c))),.a ((cR q.a1++cR q.b1++cR (zc q.b1 q.c)))] [.c (.i .i64 (cx p q))]:=A7 (hp.a1.mono (by decide)) (hp.b1.mono (by decide)) (Rz.zc (hp.c.mono (by decide)) (by decide)) (hq.a1.mono (by decide)) (hq.b1.mono (by decide)) (Rz.zc (hq.c.mono (by decide)) (by decide))
theorem UO {p q:Pt}(hp:GP p) (hq:GP q):Ok Tryz.prog 72 [.a ((cR p.a2++cR p.b2++cR (zc p.b2 p.c))),.a ((cR q.a2++cR q.b2++cR (zc q.b2 q.c)))] [.c (.i .i64 (cy p q))]:=A7 (hp.a2.mono (by decide)) (hp.b2.mono (by decide)) (Rz.zc (hp.c.mono (by decide)) (by decide)) (hq.a2.mono (by decide)) (hq.b2.mono (by decide)) (Rz.zc (hq.c.mono (by decide)) (by decide))
theorem kW {p q:Pt}(hp:GP p) (hq:GP q):Ok Tryz.prog 93 [.a (au p),.a (au q)] [.c (.i .i64 (cP p q))]:=by
 refine Ok.fn Tryz.func93 19 [.tmp 4] rfl<|aa<|ab<|ag<|aa<|aa<|aR 6 rfl rfl<|ap 1<|aj (am rfl (i4))<|ap 1<|aj (am rfl (i4))<|aj (am rfl (Tr hp hq))<|bk<|az ?_
 refine ar<|aa<|ab<|ag ?_
 refine aw rfl (fun hc1=>?_) (fun hc1=>?_)
 ·refine aa<|ab<|ag<|an ?_
  rw[UU (p:=p) (q:=q) hc1]
  exact aq (aE ae)
 ·refine ao<|aa<|aR 6 rfl rfl<|ap 1<|aj (am rfl (lU))<|ap 1<|aj (am rfl (lU))<|aj (am rfl (UO hp hq))<|bk<|az<|ar<|an ?_
  rw[VH (p:=p) (q:=q) hc1]
  exact aq (aE ae)
theorem vD {p q:Pt}(hp:GP p) (hq:GP q):Ok Tryz.prog 89 [.a (au p),.a (au q)] [.c (.b (cP p q==0))]:=by
 refine Ok.fn Tryz.func89 9 [.tmp 4] rfl<|aa<|ab<|ag<|aa<|ab<|al 2<|ah (am rfl (kW hp hq))<|ag<|an ?_
 exact aq (aE ae)
theorem ii {x y:Rat}(hx:Rz 60000 x) (hy:Rz 60000 y):Ok Tryz.prog 193 [dR x,dR y] [dR (x+y)]:=by
 refine Ok.fn Tryz.func193 8 [.cell 4 35] rfl<|aa<|ab<|al 2<|aC (ai bJ rfl) rfl<|ar<|aa<|ab<|al 2<|ah (am rfl (gj (aX hx) (aX hy)))<|ag<|an ?_
 exact aq (a7 aD rfl ae)
theorem eL {x y:Rat}(hx:Rz 60000 x) (hy:Rz 60000 y):Ok Tryz.prog 191 [dR x,dR y] [dR (x-y)]:=by
 refine Ok.fn Tryz.func191 8 [.cell 4 35] rfl<|aa<|ab<|al 2<|aC (ai bJ rfl) rfl<|ar<|aa<|ab<|al 2<|ah (am rfl (eP (aX hx) (aX hy)))<|ag<|an ?_
 exact aq (a7 aD rfl ae)
theorem cZ {x y:Rat}(hx:Rz 60000 x) (hy:Rz 60000 y):Ok Tryz.prog 192 [dR x,dR y] [dR (x*y)]:=by
 refine Ok.fn Tryz.func192 8 [.cell 4 35] rfl<|aa<|ab<|al 2<|aC (ai bJ rfl) rfl<|ar<|aa<|ab<|al 2<|ah (am rfl (cW (aX hx) (aX hy)))<|ag<|an ?_
 exact aq (a7 aD rfl ae)
theorem Br {x y:Rat}(hx:Rz 60000 x) (hy:Rz 60000 y) (h0:y≠0):Ok Tryz.prog 194 [dR x,dR y] [dR (x/y)]:=by
 refine Ok.fn Tryz.func194 14 [.cell 4 35] rfl<|aa<|ab<|al 2<|aC (ai bJ rfl) rfl<|ar<|aa<|ab<|al 2<|ah (am rfl (pQ hx hy h0))<|al 3<|aC (ai bJ rfl) rfl<|ag<|aa ?_
 refine ab<|ag<|an ?_
 exact aq (a7 aD rfl ae)
theorem nU {x y:Rat}(hx:Rz 60000 x) (hy:Rz 60000 y):Ok Tryz.prog 255 [dR x,dR y] [dR (x+y)]:=by
 refine Ok.fn Tryz.func255 8 [.cell 4 35] rfl<|aa<|ab<|al 2<|aC (ai bJ rfl) rfl<|ar<|aa<|ab<|al 2<|ah (am rfl (gj (aX hx) (aX hy)))<|ag<|an ?_
 exact aq (a7 aD rfl ae)
theorem ij {x y:Rat}(hx:Rz 60000 x) (hy:Rz 60000 y):Ok Tryz.prog 264 [dR x,dR y] [dR (x-y)]:=by
 refine Ok.fn Tryz.func264 8 [.cell 4 35] rfl<|aa<|ab<|al 2<|aC (ai bJ rfl) rfl<|ar<|aa<|ab<|al 2<|ah (am rfl (eP (aX hx) (aX hy)))<|ag<|an ?_
 exact aq (a7 aD rfl ae)
theorem dT {x y:Rat}(hx:Rz 60000 x) (hy:Rz 60000 y):Ok Tryz.prog 256 [dR x,dR y] [dR (x*y)]:=by
 refine Ok.fn Tryz.func256 8 [.cell 4 35] rfl<|aa<|ab<|al 2<|aC (ai bJ rfl) rfl<|ar<|aa<|ab<|al 2<|ah (am rfl (cW (aX hx) (aX hy)))<|ag<|an ?_
 exact aq (a7 aD rfl ae)
theorem pg {x y:Rat}(hx:Rz 60000 x) (hy:Rz 60000 y) (h0:y≠0):Ok Tryz.prog 262 [dR x,dR y] [dR (x/y)]:=by
 refine Ok.fn Tryz.func262 14 [.cell 4 35] rfl<|aa<|ab<|al 2<|aC (ai bJ rfl) rfl<|ar<|aa<|ab<|al 2<|ah (am rfl (pQ hx hy h0))<|al 3<|aC (ai bJ rfl) rfl<|ag<|aa ?_
 refine ab<|ag<|an ?_
 exact aq (a7 aD rfl ae)
theorem r7 {x:Rat}(hx:Rz 60000 x):Ok Tryz.prog 190 [dR x] [dR (-x)]:=by
 refine Ok.fn Tryz.func190 5 [.cell 2 35] rfl<|aa<|ab<|al 1<|aC (ai bJ rfl) rfl<|ar<|aa<|ab<|al 1<|ah (am rfl (eK (aX hx)))<|ag<|an ?_
 exact aq (a7 aD rfl ae)
theorem Mo {v w:Rat}(hv:Rz 60000 v) (hw:Rz 60000 w):Ok Tryz.prog 286 [.a ((cR v++cR w))] [.a ((cR (-v)++cR (-w)))]:=by
 refine Ok.fn Tryz.func286 10 [.cell 2 37] rfl<|aa<|ab<|al 1<|aC (ai il rfl) rfl<|ar<|aa<|aR 7 rfl rfl<|ap 1<|aj (aF (cR v) aD rfl)<|aj (am rfl (eK (aX hv)))<|ap 1<|aj (aF (cR w) aD rfl)<|aj (am rfl (eK (aX hw))) ?_
 refine aj (aN (us:=(cR (-v)++cR (-w))) nr il rfl rfl rfl) ?_
 refine aY<|az<|ag<|an ?_
 exact aq (a7 MB rfl ae)
theorem Kr {a1 b1 a2 b2 c:Rat}{v w:Rat}(hv:Rz 60000 v) (hw:Rz 60000 w) (ha1:Rz 60000 a1) (ha2:Rz 60000 a2):Ok Tryz.prog 285 [.a ((cR a1++cR b1++cR a2++cR b2++cR c)),.a ((cR v++cR w))] [.a ((cR (a1+v)++cR b1++cR (a2+w)++cR b2++cR c))]:=by
 refine Ok.fn Tryz.func285 22 [.cell 4 46] rfl<|aa<|ab<|al 2<|aC (ai fO rfl) rfl<|ar<|aa<|aR 17 rfl rfl<|ap 1<|aj (aF (cR a1) aD rfl)<|ap 1<|aj (aF (cR v) aD rfl)<|aj (am rfl (gj (aX ha1) (aX hv)))<|ap 1 ?_
 refine aj (aF (cR b1) aD rfl)<|ap 1<|aj (aF (cR a2) aD rfl)<|ap 1<|aj (aF (cR w) aD rfl)<|aj (am rfl (gj (aX ha2) (aX hw)))<|ap 1<|aj (aF (cR b2) aD rfl)<|ap 1<|aj (aF (cR c) aD rfl)<|aj (aN (us:=(cR (a1+v)++cR b1++cR (a2+w)++cR b2++cR c)) zp fO rfl rfl rfl) ?_
 refine aY<|az<|ag<|an ?_
 exact aq (a7 bo rfl ae)
theorem Ax {a1 b1 a2 b2 c:Rat}(ha1:Rz 600 a1) (hb1:Rz 600 b1) (ha2:Rz 600 a2) (hb2:Rz 600 b2) (hc:Rz 600 c) (v1:sI b1 b2 c=true) {d e:Rat}(hd:Rz 600 d) (he:Rz 600 e):Ok Tryz.prog 235 [.a ((cR a1++cR b1++cR a2++cR b2++cR c)),.a ((cR d++cR e))] [.a ((cR (F8 (a1-d) (a2-e) b1 b2 c)++cR (HH (a1-d) (a2-e) b1 b2)++cR (zc (HH (a1-d) (a2-e) b1 b2) c)))]:=by
 have ka1:Rz 60000 a1:=ha1.m_
 have kb1:Rz 60000 b1:=hb1.m_
 have ka2:Rz 60000 a2:=ha2.m_
 have kb2:Rz 60000 b2:=hb2.m_
 have kc:Rz 60000 c:=hc.m_
 have kd:Rz 60000 d:=hd.m_
 have ke:Rz 60000 e:=he.m_
 have u1:Rz 1400 (a1-d):=(ha1.sub hd).m_
 have u2:Rz 1400 (a2-e):=(ha2.sub he).m_
 have k3:Rz 60000 (-d):=kd.neg
 have k4:Rz 60000 (-e):=ke.neg
 have nz:=Uj v1
 have x1:Rz 10000 (a1-d):=u1.m_
 have x2:Rz 10000 (a2-e):=u2.m_
 have y1:Rz 10000 b1:=hb1.m_
 have y2:Rz 10000 b2:=hb2.m_
 have hC:Rz 10000 c:=hc.m_
 have z1:Rz 10000 (zc b1 c):=Rz.zc hC (by decide)
 have z2:Rz 10000 (zc b2 c):=Rz.zc hC (by decide)
 have A1:Rz 10000 ((a1-d)*(a1-d)+b1*b1*c):=((u1.mul u1).add ((hb1.mul hb1).mul hc)).m_
 have A2:Rz 10000 ((a2-e)*(a2-e)+b2*b2*c):=((u2.mul u2).add ((hb2.mul hb2).mul hc)).m_
 have B1:Rz 10000 ((a1-d)*b1+(a1-d)*b1):=((u1.mul hb1).add (u1.mul hb1)).m_
 have B2:Rz 10000 ((a2-e)*b2+(a2-e)*b2):=((u2.mul hb2).add (u2.mul hb2)).m_
 have C1:Rz 10000 (zc ((a1-d)*b1+(a1-d)*b1) c):=Rz.zc hC (by decide)
 have C2:Rz 10000 (zc ((a2-e)*b2+(a2-e)*b2) c):=Rz.zc hC (by decide)
 have nS:((a1-d)*b1+(a1-d)*b1)+((a2-e)*b2+(a2-e)*b2)≠0→c≠0:=fun h=>by rw[KG] at h;have:=(Ia v1 h).1;grind
 refine Ok.fn Tryz.func235 23 [.cell 4 49] rfl<|aa<|ab<|al 2<|aC (ai de rfl) rfl<|ar<|aa<|aR 5 rfl rfl<|ap 2<|aj (am rfl (Mo (by assumption) (by assumption)))<|aj (am rfl (Kr (by assumption) (by assumption) (by assumption) (by assumption)))<|ba (ai fO rfl) rfl<|aY<|bl ?_
 refine ag<|aa<|bZ 13 [6,999999] aU (by kernel_rfl) rfl rfl<|ap 1<|aj (am rfl (ow i4 (qL _ _) rfl rfl))<|aj (am rfl (ow (CJ x1 y1 z1) SP (TY nz.1) (T7 nz.1)))<|ap 1<|aj (am rfl (ow lU (qL _ _) rfl rfl))<|aj (am rfl (ow (CJ x2 y2 z2) SP (TY nz.2) (T7 nz.2)))<|aj (am rfl (jr (Ht A1 B1 C1 A2 B2 C2 QX) (TC _ _ _ _ _) ((VL nS).trans (KG _ _ _ _)) ((UZ nS).trans (by rw[KG]))))<|ap 3<|ba (ai de rfl) rfl<|gz (fG dx rfl) rfl rfl rfl rfl<|bk ?_
 refine bG<|ar<|aa<|ab<|ag<|an ?_
 exact aq (a7 dx rfl ae)
theorem Uu {k:Ci}(hk:GK k) {p:Pt}(hp:GP p):Ok Tryz.prog 235 [.a (au p),.a ((cR k.x++cR k.y))] [.a ((cR (F8 (p.a1-k.x) (p.a2-k.y) p.b1 p.b2 p.c)++cR (Al k p)++cR (zc (Al k p) p.c)))]:=Ax (hp.a1.mono (by decide)) (hp.b1.mono (by decide)) (hp.a2.mono (by decide)) (hp.b2.mono (by decide)) (hp.c.mono (by decide)) hp.v (hk.x.mono (by decide)) (hk.y.mono (by decide))
theorem TK {k:Ci}(hk:GK k) {p:Pt}(hp:GP p):Ok Tryz.prog 160 [.a (ca k),.a (au p)] [.a ((cR (Gu k p)++cR (Al k p)++cR (zc (Al k p) p.c)))]:=by
 have s1:Rz 60000 (F8 (p.a1-k.x) (p.a2-k.y) p.b1 p.b2 p.c):=(JV hk hp).m_
 have s2:Rz 60000 k.q:=hk.q.m_
 have s3:Rz 60000 (-k.q):=s2.neg
 refine Ok.fn Tryz.func160 16 [.cell 4 49] rfl<|aa<|ab<|al 2<|aC (ai de rfl) rfl<|ar<|aa<|aR 11 rfl rfl<|ap 2<|aj (aF (cR k.x) aD rfl)<|ap 1<|aj (aF (cR k.y) aD rfl)<|aj (aN (us:=(cR k.x++cR k.y)) nr il rfl rfl rfl) ?_
 refine aj (am rfl (Uu hk hp))<|ap 1<|aj (aF (cR k.q) aD rfl)<|aj (am rfl (eK (Sn)))<|aj (am rfl (iT (by assumption) (by assumption)))<|aY<|az<|ag<|an ?_
 exact aq (a7 dx rfl ae)
theorem OU {k:Ci}(hk:GK k) {p:Pt}(hp:GP p):Ok Tryz.prog 85 [.a (ca k),.a (au p)] [.c (.i .i64 (iu k p))]:=by
 refine Ok.fn Tryz.func85 10 [.tmp 4] rfl<|aa<|ab<|ag<|aa<|ab<|al 2<|ah (am rfl (TK hk hp))<|ah (am rfl (kj ((Js hk hp).m_) ((Ls hk hp).m_) (Rz.zc (hp.c.m_) (by decide))))<|ah (dD (r:= -s3 (Gu k p) (Al k p) (zc (Al k p) p.c)) rfl (mN (H0 _ _ _)) rfl) ?_
 refine ag<|an ?_
 exact aq (aE ae)
theorem Ja {l:Ln}(hl:GL l) {p:Pt}(hp:GP p) (hs:go p.c=true):Ok Tryz.prog 158 [.a (dV l),.a (au p)] [.a ((cR (vA l p+vB l p*rt p.c)++cR 0++cR 0))]:=by
 refine Ok.fn Tryz.func158 41 [.cell 4 49] rfl<|aa<|ab<|al 2<|aC (ai de rfl) rfl<|ar<|aa<|aR 15 rfl rfl<|ap 1<|aj (aF (cR l.a) aD rfl)<|ap 1<|aj (aF (cR p.a1) aD rfl)<|aj (am rfl (cZ (aX (hl.a)) (aX (hp.a1))))<|ap 1 ?_
 refine aj (aF (cR l.b) aD rfl)<|ap 1<|aj (aF (cR p.a2) aD rfl)<|aj (am rfl (cZ (aX (hl.b)) (aX (hp.a2))))<|aj (am rfl (ii (aX (Rz.mul (hl.a) (hp.a1))) (aX (Rz.mul (hl.b) (hp.a2)))))<|ap 1<|aj (aF (cR l.c) aD rfl)<|aj (am rfl (eL (aX (Rz.add (Rz.mul (hl.a) (hp.a1)) (Rz.mul (hl.b) (hp.a2)))) (aX (hl.c))))<|ba (ai bJ rfl) rfl<|aY<|bl<|ag<|aa<|bZ 21 [6,999999] aU (by kernel_rfl) rfl rfl ?_
 refine ap 2<|aj (aF (cR l.a) aD rfl)<|ap 1<|aj (aF (cR p.b1) aD rfl)<|aj (am rfl (cZ (aX (hl.a)) (aX (hp.b1))))<|ap 1<|aj (aF (cR l.b) aD rfl)<|ap 1<|aj (aF (cR p.b2) aD rfl)<|aj (am rfl (cZ (aX (hl.b)) (aX (hp.b2))))<|aj (am rfl (ii (aX (Rz.mul (hl.a) (hp.b1))) (aX (Rz.mul (hl.b) (hp.b2)))))<|ap 1<|aj (aF (cR p.c) aD rfl)<|aj (am rfl (ol ((FR hl hp).m_) ((EA hl hp).m_) (hp.c.m_) (fun h=>absurd h (Rat.not_lt.2 (Jr hp.v))) hs)) ?_
 refine ap 3<|ba (ai de rfl) rfl<|gz (fG dx rfl) rfl rfl rfl rfl<|bk<|bG<|ar<|aa<|ab<|ag<|an ?_
 exact aq (a7 dx rfl ae)
theorem IF {l:Ln}(hl:GL l) {p:Pt}(hp:GP p) (hs:go p.c=false):Ok Tryz.prog 158 [.a (dV l),.a (au p)] [.a ((cR (vA l p)++cR (rB (vB l p) p.c)++cR (rC (vB l p) p.c)))]:=by
 refine Ok.fn Tryz.func158 41 [.cell 4 49] rfl<|aa<|ab<|al 2<|aC (ai de rfl) rfl<|ar<|aa<|aR 15 rfl rfl<|ap 1<|aj (aF (cR l.a) aD rfl)<|ap 1<|aj (aF (cR p.a1) aD rfl)<|aj (am rfl (cZ (aX (hl.a)) (aX (hp.a1))))<|ap 1 ?_
 refine aj (aF (cR l.b) aD rfl)<|ap 1<|aj (aF (cR p.a2) aD rfl)<|aj (am rfl (cZ (aX (hl.b)) (aX (hp.a2))))<|aj (am rfl (ii (aX (Rz.mul (hl.a) (hp.a1))) (aX (Rz.mul (hl.b) (hp.a2)))))<|ap 1<|aj (aF (cR l.c) aD rfl)<|aj (am rfl (eL (aX (Rz.add (Rz.mul (hl.a) (hp.a1)) (Rz.mul (hl.b) (hp.a2)))) (aX (hl.c))))<|ba (ai bJ rfl) rfl<|aY<|bl<|ag<|aa<|bZ 21 [6,999999] aU (by kernel_rfl) rfl rfl ?_
 refine ap 2<|aj (aF (cR l.a) aD rfl)<|ap 1<|aj (aF (cR p.b1) aD rfl)<|aj (am rfl (cZ (aX (hl.a)) (aX (hp.b1))))<|ap 1<|aj (aF (cR l.b) aD rfl)<|ap 1<|aj (aF (cR p.b2) aD rfl)<|aj (am rfl (cZ (aX (hl.b)) (aX (hp.b2))))<|aj (am rfl (ii (aX (Rz.mul (hl.a) (hp.b1))) (aX (Rz.mul (hl.b) (hp.b2)))))<|ap 1<|aj (aF (cR p.c) aD rfl)<|aj (am rfl (oN ((FR hl hp).m_) ((EA hl hp).m_) (hp.c.m_) (fun h=>absurd h (Rat.not_lt.2 (Jr hp.v))) hs)) ?_
 refine ap 3<|ba (ai de rfl) rfl<|gz (fG dx rfl) rfl rfl rfl rfl<|bk<|bG<|ar<|aa<|ab<|ag<|an ?_
 exact aq (a7 dx rfl ae)
theorem SR {l:Ln}(hl:GL l) {p:Pt}(hp:GP p):Ok Tryz.prog 158 [.a (dV l),.a (au p)] [.a ((cR (vA l p)++cR (rB (vB l p) p.c)++cR (rC (vB l p) p.c)))]:=by
 cases hs:go p.c with
 |true=>obtain⟨e1,e2,e3⟩:=Qy (l:=l) hp.v hs;exact ow (Ja hl hp hs) e1 e2 e3
 |false=>exact IF hl hp hs
theorem Jh {l:Ln}(hl:GL l) {p:Pt}(hp:GP p):Ok Tryz.prog 83 [.a (dV l),.a (au p)] [.c (.i .i64 (d9 l p))]:=by
 refine Ok.fn Tryz.func83 9 [.tmp 4] rfl<|aa<|ab<|ag<|aa<|ab<|al 2<|ah (am rfl (SR hl hp))<|ah (am rfl (kj ((FR hl hp).m_) (Tq ((EA hl hp).m_) (by decide)) (Tu (hp.c.m_) (by decide))))<|ag<|an ?_
 exact aq (aE ae)
theorem PI {k:Ci}(hk:GK k) {p:Pt}(hp:GP p):Ok Tryz.prog 276 [.a (ca k),.a (au p)] [.c (.b (ji k p))]:=by
 refine Ok.fn Tryz.func276 25 [.tmp 4] rfl<|aa<|ab<|ag<|aa<|aR 6 rfl rfl<|ap 1<|aj (am rfl (lU))<|ap 1<|aj (aF (cR k.y) aD rfl)<|aj (am rfl (Vv hp (hk.y.m_)))<|bk<|az<|ar ?_
 refine aa<|aR 15 rfl rfl<|ap 2 ?_
 refine fb (bN rfl) (fun c1 hb1=>?_)
 cases c1
 ·refine ap 2 ?_
  refine fb (bN rfl) (fun c2 hb2=>?_)
  cases c2
  ·refine bk<|az<|ar<|an ?_
   rw[IM (k:=k) (p:=p) hb1 hb2]
   exact aq (aE ae)
  ·refine ap 1<|aj (am rfl (i4))<|ap 1<|aj (aF (cR k.x) aD rfl)<|aj (am rfl (U3 hp (hk.x.m_)))<|bk<|az<|ar<|an ?_
   rw[DQ (k:=k) (p:=p) hb1 hb2]
   exact aq (aE ae)
 ·refine bk<|az<|ar<|an ?_
  rw[Pa (k:=k) (p:=p) hb1]
  exact aq (aE ae)
theorem H5 {k:Ci}(hk:GK k) {p q:Pt}(hp:GP p) (hq:GP q):Ok Tryz.prog 220 [.a (ca k),.a (au p),.a (au q)] [.c (.i .i64 (fJ k p q))]:=by
 refine Ok.fn Tryz.func220 29 [.tmp 6] rfl<|aa<|ab<|ag<|aa<|aR 8 rfl rfl<|ap 2<|aj (am rfl (PI hk hp))<|ap 2<|aj (am rfl (PI hk hq))<|bk<|az<|ar<|aa ?_
 refine aa<|ab<|al 2<|ah (ff rfl rfl fp rfl) ?_
 refine ar ?_
 refine aw rfl (fun hc1=>?_) (fun hc1=>?_)
 ·refine aa<|aa<|ab<|ag ?_
  refine aw rfl (fun hc2=>?_) (fun hc2=>?_)
  ·refine aa<|ab<|ag<|an ?_
   rw[Mz (k:=k) (p:=p) (q:=q) hc1 hc2]
   exact aq (aE ae)
  ·refine ao<|aa<|ab<|ag<|an ?_
   rw[JF (k:=k) (p:=p) (q:=q) hc1 hc2]
   exact aq (aE ae)
 ·refine ao<|aa<|aR 6 rfl rfl<|ap 1<|aj (am rfl (i4))<|ap 1<|aj (am rfl (i4))<|aj (am rfl (Tr hp hq))<|bk<|az<|ar<|aa<|aa<|ab ?_
  refine ag ?_
  refine aw rfl (fun hc3=>?_) (fun hc3=>?_)
  ·refine aa<|ab<|al 1<|ah (dD (r:= -cx p q) rfl (mN (fC p q)) rfl) ?_
   refine ag<|an ?_
   rw[KU (k:=k) (p:=p) (q:=q) hc1 hc3]
   exact aq (aE ae)
  ·refine ao<|aa<|ab<|ag<|an ?_
   rw[Jq (k:=k) (p:=p) (q:=q) hc1 hc3]
   exact aq (aE ae)
theorem Pl {k:Ci}(hk:GK k) {f p q:Pt}(hf:GP f) (hp:GP p) (hq:GP q):Ok Tryz.prog 141 [.a (ca k),.a (au f),.a (au p),.a (au q)] [.c (.i .i64 (qE k f p q))]:=by
 refine Ok.fn Tryz.func141 29 [.tmp 8] rfl<|aa<|ab<|ag<|aa<|aR 12 rfl rfl<|ap 3<|aj (am rfl (H5 hk hp hf))<|ap 4<|aj (am rfl (H5 hk hq hf))<|bk<|az<|ar<|aa ?_
 refine aa<|ab<|al 2<|ah (ff rfl rfl fp rfl) ?_
 refine ar ?_
 refine aw rfl (fun hc1=>?_) (fun hc1=>?_)
 ·refine aa<|aa<|ab<|ag ?_
  refine aw rfl (fun hc2=>?_) (fun hc2=>?_)
  ·refine aa<|ab<|ag<|an ?_
   rw[SC (k:=k) (f:=f) (p:=p) (q:=q) hc1 hc2]
   exact aq (aE ae)
  ·refine ao<|aa<|ab<|ag<|an ?_
   rw[QB (k:=k) (f:=f) (p:=p) (q:=q) hc1 hc2]
   exact aq (aE ae)
 ·refine ao<|aa<|ab<|al 3<|ah (am rfl (H5 hk hp hq))<|ag<|an ?_
  rw[T2 (k:=k) (f:=f) (p:=p) (q:=q) hc1]
  exact aq (aE ae)
theorem yQ {p:Pt}(hp:GP p):Ok Tryz.prog 143 [.a (au p)] [.a (au p.flip)]:=by
 refine Ok.fn Tryz.func143 12 [.cell 2 46] rfl<|aa<|ab<|al 1<|aC (ai fO rfl) rfl<|ar<|aa<|aR 7 rfl rfl<|ap 1<|aj (aF (cR p.a1) aD rfl)<|aj (am rfl (eK (hp.a1.m_)))<|ap 1<|aj (aF (cR p.b1) aD rfl)<|aj (am rfl (eK (hp.b1.m_))) ?_
 refine bk<|az<|bL (bm (us:=(cR (-p.a1)++cR p.b1++cR p.a2++cR p.b2++cR p.c)) aD rfl rfl rfl rfl (Nat.le_of_ble_eq_true rfl) rfl rfl) ?_
 refine al 1<|bL (bm (us:=(cR (-p.a1)++cR (-p.b1)++cR p.a2++cR p.b2++cR p.c)) aD rfl rfl rfl rfl (Nat.le_of_ble_eq_true rfl) rfl rfl) ?_
 refine ar<|aa<|ab<|ag<|an ?_
 exact aq (a7 bo rfl ae)
theorem SV {k:Ci}(hk:GK k) {w:Bool}{f t:Pt}(hf:GP f) (ht:GP t):Ok Tryz.prog 142 [.a (([.b true]++cS++ca k++[.b w]++au f++au t))] [.a (([.b true]++cS++ca k.mir++[.b (!w)]++au f.flip++au t.flip))]:=by
 refine Ok.fn Tryz.func142 22 [.cell 2 48] rfl<|aa<|ab<|al 1<|aC (ai eo rfl) rfl<|ar<|aa<|ab<|al 2<|ah (cD (cR k.x) aD rfl (by kernel_rfl))<|ah (am rfl (eK (hk.x.m_)))<|al 2<|bL (bm (us:=([.b true]++cS++(cR k.mir.x++cR k.y++cR k.q)++[.b w]++au f++au t)) aD rfl rfl rfl rfl (Nat.le_of_ble_eq_true (by kernel_rfl)) (by kernel_rfl) rfl) ?_
 refine ar<|aa<|bZ 13 [1,999999] aU (by kernel_rfl) rfl rfl<|ap 1<|tF (by kernel_rfl) (cD (au f) bo rfl (by kernel_rfl))<|aj (am rfl (yQ hf))<|ap 1<|tF (by kernel_rfl) (cD (au t) bo rfl (by kernel_rfl))<|aj (am rfl (yQ ht))<|ap 1<|tF (by kernel_rfl) (Vt xf rfl)<|ap 2<|gw (bm (us:=([.b true]++cS++(cR k.mir.x++cR k.y++cR k.q)++[.b w]++au f.flip++au t)) bo rfl rfl rfl rfl (Nat.le_of_ble_eq_true (by kernel_rfl)) (by kernel_rfl) rfl) rfl rfl rfl rfl ?_
 refine ap 1<|B8 (bm (us:=([.b true]++cS++(cR k.mir.x++cR k.y++cR k.q)++[.b w]++au f.flip++au t.flip)) bo rfl rfl rfl rfl (Nat.le_of_ble_eq_true (by kernel_rfl)) (by kernel_rfl) rfl) rfl rfl (by kernel_rfl) rfl ?_
 refine aY<|bG<|al 1<|bL (bm (us:=([.b true]++cS++(cR k.mir.x++cR k.y++cR k.q)++[.b (!w)]++au f.flip++au t.flip)) xf rfl rfl rfl rfl (Nat.le_of_ble_eq_true (by kernel_rfl)) (by kernel_rfl) rfl) ?_
 refine ar<|aa<|ab<|ag<|an ?_
 exact aq (fr (us:=([.b true]++cS++(cR k.mir.x++cR k.y++cR k.q)++[.b (!w)]++au f.flip++au t.flip)) bd rfl rfl (by kernel_rfl) (by kernel_rfl) ae)
theorem D8 {l:Ln}(_hl:GL l) {f t:Pt}(hf:GP f) (ht:GP t) {p q:Pt}(hp:GP p) (hq:GP q):Ok Tryz.prog 74 [.a (([.b false]++dV l++cS++[.b false]++au f++au t)),.a (au p),.a (au q)] [.c (.i .i64 ((Cv.seg l f t).ord p q))]:=by
 refine Ok.fn Tryz.func74 45 [.tmp 6] rfl<|aa<|ab<|ag<|aa<|aa<|ab<|ag<|bg rfl<|aa<|ab<|al 2<|ah (am rfl (kW hp hq))<|ag ?_
 refine aa<|aa<|ab<|al 1<|ah (cD (au f) bo rfl (by kernel_rfl))<|al 1<|ah (cD (au t) bo rfl (by kernel_rfl))<|ah (am rfl (kW hf ht))<|ag ?_
 refine aw rfl (fun hc1=>?_) (fun hc1=>?_)
 ·--region 4
  refine ab<|al 1<|ah (dD (r:= -cP p q) rfl (mN (OD p q)) rfl) ?_
  refine ag<|aa<|ab<|ag<|an ?_
  rw[Qd (l:=l) (f:=f) (t:=t) (p:=p) (q:=q) hc1]
  exact aq (aE ae)
 ·refine ao<|aa<|ab<|ag<|an ?_
  rw[RK (l:=l) (f:=f) (t:=t) (p:=p) (q:=q) hc1]
  exact aq (aE ae)
theorem C9 {k:Ci}(hk:GK k) {w:Bool}{f t:Pt}(hf:GP f) (ht:GP t) {p q:Pt}(hp:GP p) (hq:GP q):Ok Tryz.prog 74 [.a (([.b true]++cS++ca k++[.b w]++au f++au t)),.a (au p),.a (au q)] [.c (.i .i64 ((Cv.arc k w f t).ord p q))]:=by
 refine Ok.fn Tryz.func74 45 [.tmp 6] rfl<|aa<|ab<|ag<|aa<|aa<|ab<|ag<|aP rfl<|ao<|aa<|aa<|ab<|ag ?_
 refine aw rfl (fun hc1=>?_) (fun hc1=>?_)
 ·refine aa<|ab<|al 1<|ah (cD (ca k) mJ rfl (by kernel_rfl))<|al 1<|ah (cD (au f) bo rfl (by kernel_rfl))<|al 2<|ah (am rfl (Pl hk hf hp hq))<|ag<|an ?_
  rw[QI (k:=k) (w:=w) (f:=f) (t:=t) (p:=p) (q:=q) hc1]
  exact aq (aE ae)
 ·refine ao<|aa<|ab<|al 1<|ah (am rfl (SV hk hf ht))<|aC (ai eo rfl) rfl<|ag<|aa<|aR 10 rfl rfl<|ap 1<|aj (cD (ca k.mir) mJ rfl (by kernel_rfl))<|ap 1<|aj (cD (au f.flip) bo rfl (by kernel_rfl))<|ap 1 ?_
  refine aj (am rfl (yQ hp))<|ap 1<|aj (am rfl (yQ hq))<|aj (am rfl (Pl (GK.mir hk) (GP.flip hf) (GP.flip hp) (GP.flip hq)))<|bk<|az<|ar<|an ?_
  rw[Ru (k:=k) (w:=w) (f:=f) (t:=t) (p:=p) (q:=q) hc1]
  exact aq (aE ae)
theorem QF {l:Ln}(hl:GL l) {f t:Pt}(_hf:GP f) (_ht:GP t) {p:Pt}(hp:GP p):Ok Tryz.prog 73 [.a (([.b false]++dV l++cS++[.b false]++au f++au t)),.a (au p)] [.c (.b ((Cv.seg l f t).supp p))]:=by
 refine Ok.fn Tryz.func73 17 [.tmp 4] rfl<|aa<|ab<|ag<|aa<|aa<|ab<|ag<|aP rfl<|ao<|aa<|ab<|al 1<|ah (cD (dV l) sZ rfl (by kernel_rfl)) ?_
 refine al 1<|ah (am rfl (Jh hl hp))<|ag<|an ?_
 exact aq (aE ae)
theorem Qx {k:Ci}(hk:GK k) {w:Bool}{f t:Pt}(_hf:GP f) (_ht:GP t) {p:Pt}(hp:GP p):Ok Tryz.prog 73 [.a (([.b true]++cS++ca k++[.b w]++au f++au t)),.a (au p)] [.c (.b ((Cv.arc k w f t).supp p))]:=by
 refine Ok.fn Tryz.func73 17 [.tmp 4] rfl<|aa<|ab<|ag<|aa<|aa<|ab<|ag<|bg rfl<|aa<|ab<|al 1<|ah (cD (ca k) mJ rfl (by kernel_rfl))<|al 1 ?_
 refine ah (am rfl (OU hk hp))<|ag<|an ?_
 exact aq (aE ae)
theorem SD {l:Ln}(hl:GL l) {f t:Pt}(hf:GP f) (ht:GP t) {p:Pt}(hp:GP p):Ok Tryz.prog 20 [.a (([.b false]++dV l++cS++[.b false]++au f++au t)),.a (au p)] [.c (.b ((Cv.seg l f t).on p))]:=by
 refine Ok.fn Tryz.func20 24 [.tmp 4] rfl<|aa<|ab<|ag<|aa<|ab<|al 2<|ah (am rfl (QF hl hf ht hp)) ?_
 refine cg (bN rfl) (fun c1 hb1=>?_)
 cases c1
 ·refine ag<|an ?_
  rw[RW (c:=(Cv.seg l f t)) (p:=p) hb1]
  exact aq (aE ae)
 ·refine al 2<|ah (cD (au f) bo rfl (by kernel_rfl))<|al 1<|ah (am rfl (D8 hl hf ht hf hp))<|al 2 ?_
  refine cg (bN rfl) (fun c2 hb2=>?_)
  cases c2
  ·refine ag<|an ?_
   rw[Pv (c:=(Cv.seg l f t)) (p:=p) hb1 hb2]
   exact aq (aE ae)
  ·refine al 3<|ah (cD (au t) bo rfl (by kernel_rfl))<|ah (am rfl (D8 hl hf ht hp ht))<|ag<|an ?_
   rw[O2 (c:=(Cv.seg l f t)) (p:=p) hb1 hb2]
   exact aq (aE ae)
theorem O4 {k:Ci}(hk:GK k) {w:Bool}{f t:Pt}(hf:GP f) (ht:GP t) {p:Pt}(hp:GP p):Ok Tryz.prog 20 [.a (([.b true]++cS++ca k++[.b w]++au f++au t)),.a (au p)] [.c (.b ((Cv.arc k w f t).on p))]:=by
 refine Ok.fn Tryz.func20 24 [.tmp 4] rfl<|aa<|ab<|ag<|aa<|ab<|al 2<|ah (am rfl (Qx hk hf ht hp)) ?_
 refine cg (bN rfl) (fun c1 hb1=>?_)
 cases c1
 ·refine ag<|an ?_
  rw[RW (c:=(Cv.arc k w f t)) (p:=p) hb1]
  exact aq (aE ae)
 ·refine al 2<|ah (cD (au f) bo rfl (by kernel_rfl))<|al 1<|ah (am rfl (C9 hk hf ht hf hp))<|al 2 ?_
  refine cg (bN rfl) (fun c2 hb2=>?_)
  cases c2
  ·refine ag<|an ?_
   rw[Pv (c:=(Cv.arc k w f t)) (p:=p) hb1 hb2]
   exact aq (aE ae)
  ·refine al 3<|ah (cD (au t) bo rfl (by kernel_rfl))<|ah (am rfl (C9 hk hf ht hp ht))<|ag<|an ?_
   rw[O2 (c:=(Cv.arc k w f t)) (p:=p) hb1 hb2]
   exact aq (aE ae)
theorem Ii {l:Ln}(_hl:GL l) {f t:Pt}(_hf:GP f) (_ht:GP t):Ok Tryz.prog 38 [.a (([.b false]++dV l++cS++[.b false]++au f++au t))] [.a (([.b false]++dV l++cS++[.b false]++au t++au f))]:=by
 refine Ok.fn Tryz.func38 18 [.cell 2 48] rfl<|aa<|ab<|al 1<|aC (ai eo rfl) rfl<|ar<|aa<|ab<|al 1<|ah (cD (au t) bo rfl (by kernel_rfl))<|al 1<|ah (cD (au f) bo rfl (by kernel_rfl))<|al 1<|bL (bm (us:=([.b false]++dV l++cS++[.b false]++au t++au t)) bo rfl rfl rfl rfl (Nat.le_of_ble_eq_true (by kernel_rfl)) (by kernel_rfl) rfl) ?_
 refine al 1<|bL (bm (us:=([.b false]++dV l++cS++[.b false]++au t++au f)) bo rfl rfl rfl rfl (Nat.le_of_ble_eq_true (by kernel_rfl)) (by kernel_rfl) rfl) ?_
 refine ar<|aa<|ab<|al 8<|bL (bm (us:=([.b false]++dV l++cS++[.b false]++au t++au f)) xf rfl rfl rfl rfl (Nat.le_of_ble_eq_true (by kernel_rfl)) (by kernel_rfl) rfl) ?_
 refine ar<|aa<|ab<|ag<|an ?_
 exact aq (fr (us:=([.b false]++dV l++cS++[.b false]++au t++au f)) bd rfl rfl (by kernel_rfl) (by kernel_rfl) ae)
theorem Lb {k:Ci}(_hk:GK k) {w:Bool}{f t:Pt}(_hf:GP f) (_ht:GP t):Ok Tryz.prog 38 [.a (([.b true]++cS++ca k++[.b w]++au f++au t))] [.a (([.b true]++cS++ca k++[.b (!w)]++au t++au f))]:=by
 refine Ok.fn Tryz.func38 18 [.cell 2 48] rfl<|aa<|ab<|al 1<|aC (ai eo rfl) rfl<|ar<|aa<|ab<|al 1<|ah (cD (au t) bo rfl (by kernel_rfl))<|al 1<|ah (cD (au f) bo rfl (by kernel_rfl))<|al 1<|bL (bm (us:=([.b true]++cS++ca k++[.b w]++au t++au t)) bo rfl rfl rfl rfl (Nat.le_of_ble_eq_true (by kernel_rfl)) (by kernel_rfl) rfl) ?_
 refine al 1<|bL (bm (us:=([.b true]++cS++ca k++[.b w]++au t++au f)) bo rfl rfl rfl rfl (Nat.le_of_ble_eq_true (by kernel_rfl)) (by kernel_rfl) rfl) ?_
 refine ar<|aa<|ab<|al 8<|bL (bm (us:=([.b true]++cS++ca k++[.b (!w)]++au t++au f)) xf rfl rfl rfl rfl (Nat.le_of_ble_eq_true (by kernel_rfl)) (by kernel_rfl) rfl) ?_
 refine ar<|aa<|ab<|ag<|an ?_
 exact aq (fr (us:=([.b true]++cS++ca k++[.b (!w)]++au t++au f)) bd rfl rfl (by kernel_rfl) (by kernel_rfl) ae)
theorem km {a b c d e f:Rat}(ha:Rz 20000 a) (hb:Rz 1600 b) (hc:Rz 1600 c) (hd:Rz 20000 d) (he:Rz 1600 e) (hf:Rz 1600 f) (h1:Rz 1600 (a-d)) (c0:0≤c) (f0:0≤f):
 Ok Tryz.prog 76 [.a (cR a++cR b++cR c),.a (cR d++cR e++cR f)] [.c (.i .i64 (iX (a-d) b (-e) 0 c f))]:=i5 (vu ha hb hc hd he hf h1) ((E7 c0 f0).trans (jH c0 f0).symm)
theorem Il {P:Program}{f:FuncId}{ds:List D0}{x x':Int}(h:Ok P f ds [dI x]) (e:x=x'):Ok P f ds [dI x']:=by subst e;exact h
def qV (a b c:Rat):Rat:=1/(a*a-b*b*c)
def sE (a b c:Rat):Int:=if aV b 0=0∨aV a 0=aV b 0 then aV a 0 else if aV a 0=0 then aV b 0 else aV a 0*aV (a*a-b*b*c) 0
section
variable {a b c:Rat}
theorem Rp (h:(aV b 0==0)=true):sE a b c=aV a 0:=by unfold sE;rw[if_pos (.inl (by simpa using h))]
theorem R8 (h:(aV a 0==aV b 0)=true):sE a b c=aV a 0:=by unfold sE;rw[if_pos (.inr (by simpa using h))]
theorem QM (h:(aV b 0==0)=false) (h2:(aV a 0==aV b 0)=false) (h3:(aV a 0==0)=true):sE a b c=aV b 0:=by
 unfold sE;rw[if_neg (fun e=>e.elim (by simpa using h) (by simpa using h2)),if_pos (by simpa using h3)]
theorem PR (h:(aV b 0==0)=false) (h2:(aV a 0==aV b 0)=false) (h3:(aV a 0==0)=false):sE a b c=aV a 0*aV (a*a-b*b*c) 0:=by
 unfold sE;rw[if_neg (fun e=>e.elim (by simpa using h) (by simpa using h2)),if_neg (by simpa using h3)]
end
theorem sJ:Ok Tryz.prog 119 [] [dR 0]:=by
 refine Ok.fn Tryz.func119 2 [.cell 0 35] rfl<|aa<|ab<|aC (ai bJ rfl) rfl<|ar<|aa<|ab<|ah (am rfl (wx (by omega) (by omega)))<|ag<|an ?_
 rw[Fq]
 exact aq (a7 aD rfl ae)
theorem lr {a b c:Rat}:Ok Tryz.prog 125 [dR a,dR b,dR c] [.a ((cR a++cR b++cR (zc b c)))]:=by
 refine Ok.fn Tryz.func125 15 [.cell 6 49] rfl<|aa<|ab<|al 3<|aC (ai de rfl) rfl<|ar<|aa<|aa<|ab<|al 1<|ah (am rfl (ml))<|ag ?_
 refine aw rfl (fun hc1=>?_) (fun hc1=>?_)
 ·--region 2
  refine ab<|ah (am rfl (sJ))<|ag<|aa<|ab<|al 3<|ah (aN (us:=(cR a++cR b++cR 0)) lQ de rfl rfl rfl) ?_
  refine ag<|an ?_
  rw[o8 (mC hc1)]
  exact aq (a7 dx rfl ae)
 ·refine ao<|aa<|ab<|al 3<|ah (aN (us:=(cR a++cR b++cR c)) lQ de rfl rfl rfl) ?_
  refine ag<|an ?_
  rw[fS (jT hc1)]
  exact aq (a7 dx rfl ae)
theorem Cw {a b c k:Rat}(ha:Rz 60000 a) (hb:Rz 60000 b) (hk:Rz 60000 k):Ok Tryz.prog 240 [.a ((cR a++cR b++cR c)),dR k] [.a ((cR (a*k)++cR (b*k)++cR (zc (b*k) c)))]:=by
 refine Ok.fn Tryz.func240 16 [.cell 4 49] rfl<|aa<|ab<|al 2<|aC (ai de rfl) rfl<|ar<|aa<|aR 11 rfl rfl<|ap 1<|aj (aF (cR a) aD rfl)<|ap 1<|aj (am rfl (dd (aX ha) (aX hk)))<|ap 1<|aj (aF (cR b) aD rfl) ?_
 refine ap 1<|aj (am rfl (dd (aX hb) (aX hk)))<|ap 1<|aj (aF (cR c) aD rfl)<|aj (am rfl (lr))<|aY<|az<|ag<|an ?_
 exact aq (a7 dx rfl ae)
theorem dM {a:Rat}:Ok Tryz.prog 53 [dR a] [.a ((cR a++cR 0++cR 0))]:=by
 refine Ok.fn Tryz.func53 7 [.cell 2 49] rfl<|aa<|ab<|al 1<|aC (ai de rfl) rfl<|ar<|aa<|aR 4 rfl rfl<|ap 1<|aj (am rfl (sJ))<|aj (am rfl (sJ))<|aj (aN (us:=(cR a++cR 0++cR 0)) lQ de rfl rfl rfl) ?_
 refine aY<|az<|ag<|an ?_
 exact aq (a7 dx rfl ae)
theorem Gf {a b c:Rat}(ha:Rz 60000 a) (hb:Rz 60000 b):Ok Tryz.prog 166 [.a ((cR a++cR b++cR c))] [.a ((cR (-a)++cR (-b)++cR c))]:=by
 refine Ok.fn Tryz.func166 12 [.cell 2 49] rfl<|aa<|ab<|al 1<|aC (ai de rfl) rfl<|ar<|aa<|aR 9 rfl rfl<|ap 1<|aj (aF (cR a) aD rfl)<|aj (am rfl (gc (aX ha)))<|ap 1<|aj (aF (cR b) aD rfl)<|aj (am rfl (gc (aX hb))) ?_
 refine ap 1<|aj (aF (cR c) aD rfl)<|aj (aN (us:=(cR (-a)++cR (-b)++cR c)) lQ de rfl rfl rfl) ?_
 refine aY<|az<|ag<|an ?_
 exact aq (a7 dx rfl ae)
theorem wQ {a b c:Rat}(ha:Rz 10000 a) (hb:Rz 10000 b) (hc:Rz 10000 c):Ok Tryz.prog 239 [.a ((cR a++cR b++cR c))] [dR (a*a-b*b*c)]:=by
 refine Ok.fn Tryz.func239 17 [.cell 2 35] rfl<|aa<|ab<|al 1<|aC (ai bJ rfl) rfl<|ar<|aa<|aR 14 rfl rfl<|ap 1<|aj (aF (cR a) aD rfl)<|ap 1<|aj (aF (cR a) aD rfl)<|aj (am rfl (dd (aX ha) (aX ha)))<|ap 1 ?_
 refine aj (aF (cR b) aD rfl)<|ap 1<|aj (aF (cR b) aD rfl)<|aj (am rfl (dd (aX hb) (aX hb)))<|ap 1<|aj (aF (cR c) aD rfl)<|aj (am rfl (dd (aX (Rz.mul hb hb)) (aX hc)))<|aj (am rfl (fE (aX (Rz.mul ha ha)) (aX (Rz.mul (Rz.mul hb hb) hc))))<|aY<|az<|ag<|an ?_
 exact aq (a7 aD rfl ae)
theorem wM {a b c:Rat}(ha:Rz 10000 a) (hb:Rz 10000 b) (hc:Rz 10000 c):Ok Tryz.prog 238 [.a ((cR a++cR b++cR c))] [.c (.i .i64 (sE a b c))]:=by
 have hp:=ei (dm a 0) (dm (a*a-b*b*c) 0)
 refine Ok.fn Tryz.func238 29 [.tmp 2] rfl<|aa<|ab<|ag<|aa<|aR 8 rfl rfl<|ap 1<|aj (aF (cR a) aD rfl)<|aj (am rfl (dh))<|ap 1<|aj (aF (cR b) aD rfl)<|aj (am rfl (dh))<|bk<|az ?_
 refine ar<|aa<|aJ<|aa<|ab<|al 2 ?_
 refine cg (bN rfl) (fun c1 hb1=>?_)
 cases c1
 ·refine ag ?_
  refine aw rfl (fun hc2=>?_) (fun hc2=>?_)
  ·refine aa<|ab<|ag<|an ?_
   rw[R8 hc2]
   exact aq (aE ae)
  ·refine aa<|ab<|ag ?_
   refine aw rfl (fun hc3=>?_) (fun hc3=>?_)
   ·refine aa<|ab<|ag<|an ?_
    rw[QM hb1 hc2 hc3]
    exact aq (aE ae)
   ·refine ao<|aa<|ab<|al 2<|ah (am rfl (wQ (by assumption) (by assumption) (by assumption)))<|ah (am rfl (dh))<|ah (aK (r:=(aV a 0)*(aV (a*a-b*b*c) 0)) rfl rfl (dg (by omega) (by omega)) rfl) ?_
    refine ag<|an ?_
    rw[PR hb1 hc2 hc3]
    exact aq (aE ae)
 ·refine ag<|bg rfl<|aa<|ab<|ag<|an ?_
  rw[Rp hb1]
  exact aq (aE ae)
theorem DL {a b c d e f:Rat}(ha:Rz 20000 a) (hb:Rz 1600 b) (hc:Rz 1600 c) (hd:Rz 20000 d) (he:Rz 1600 e) (hf:Rz 1600 f) (h1:Rz 1600 (a-d)) (c0:0≤c) (f0:0≤f):Ok Tryz.prog 95 [.a ((cR a++cR b++cR c)),.a ((cR d++cR e++cR f))] [.c (.b (iX (a-d) b (-e) 0 c f==0))]:=by
 refine Ok.fn Tryz.func95 9 [.tmp 4] rfl<|aa<|ab<|ag<|aa<|ab<|al 2<|ah (am rfl (km (by assumption) (by assumption) (by assumption) (by assumption) (by assumption) (by assumption) (by assumption) (by assumption) (by assumption)))<|ag<|an ?_
 exact aq (aE ae)
theorem tT {a b c d:Rat}(ha:Rz 20000 a) (hb:Rz 1600 b) (hc:Rz 1600 c) (hd:Rz 20000 d) (h1:Rz 1600 (a-d)) (c0:0≤c):Ok Tryz.prog 80 [.a ((cR a++cR b++cR c)),dR d] [.c (.i .i64 (iX (a-d) b (-0) 0 c 0))]:=by
 have z0:Rz 1600 (0:Rat):=Rz.zero (by decide)
 refine Ok.fn Tryz.func80 9 [.tmp 4] rfl<|aa<|ab<|ag<|aa<|aR 5 rfl rfl<|ap 2<|aj (am rfl (dM))<|aj (am rfl (km (by assumption) (by assumption) (by assumption) (by assumption) z0 z0 h1 c0 Rat.le_refl))<|bk<|az<|ar<|an ?_
 exact aq (aE ae)
end Go.Proofs.YtkmdgigkbhmilaaGreat
