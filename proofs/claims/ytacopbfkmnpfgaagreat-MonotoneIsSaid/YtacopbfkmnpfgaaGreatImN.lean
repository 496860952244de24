/-Plain:points of a circle in real numbers;the program's and the reference's order of points of an arc are the same. -/
import Derived.Test.YtacopbfkmnpfgaaGreatImM
namespace Go.Proofs.YtacopbfkmnpfgaaGreat
open Go Go.RowKit
def pX (p:Pt):Re:=p8 p.a1 p.b1 p.c
def pY (p:Pt):Re:=p8 p.a2 p.b2 p.c
theorem iG {p:Pt}(h:GP p):0≤p.c:=HO h.v
theorem qz {p q:Pt}(hp:0≤p.c) (hq:0≤q.c):cx p q=ce (pX p-pX q):=lW hp hq
theorem S0 {p q:Pt}(hp:0≤p.c) (hq:0≤q.c):cy p q=ce (pY p-pY q):=lW hp hq
theorem te {p:Pt}(hp:0≤p.c) (v:Rat):rF p v=ce (pX p-Re.of v):=by
 unfold rF
 rw[gm (jR hp)]
 exact congrArg ce (Re.ext fun n=>by unfold pX p8 dX;simp only[bK,bE,bU,dc];grind)
theorem x8 {p:Pt}(hp:0≤p.c) (v:Rat):lp p v=ce (pY p-Re.of v):=by
 unfold lp
 rw[gm (jR hp)]
 exact congrArg ce (Re.ext fun n=>by unfold pY p8 dX;simp only[bK,bE,bU,dc];grind)
theorem rY {p q:Pt}(hp:0≤p.c) (hq:0≤q.c):cx q p= -cx p q:=by rw[qz hp hq,qz hq hp,wE]
theorem BR {p:Pt}(hp:0≤p.c):cx p p=0:=by rw[qz hp hp,Ht]
theorem Lx {A B c:Rat}(hc:0≤c) (b1 b2 x y:Rat) (hA:A=Dk x y b1 b2 c) (hB:B=DE x y b1 b2):
 ce (dX A B (zc B c)-(p8 x b1 c*p8 x b1 c+p8 y b2 c*p8 y b2 c))=0:=by
 subst hA hB
 rw[show dX (Dk x y b1 b2 c) (DE x y b1 b2) (zc (DE x y b1 b2) c)=p8 (Dk x y b1 b2 c) (DE x y b1 b2) c from rfl,tp,tp,tp]
 have h:=sw hc
 have e:Re.of (Dk x y b1 b2 c)+Re.of (DE x y b1 b2)*Re.rt c-((Re.of x+Re.of b1*Re.rt c)*(Re.of x+Re.of b1*Re.rt c)+(Re.of y+Re.of b2*Re.rt c)*(Re.of y+Re.of b2*Re.rt c))=Re.of (-(b1*b1+b2*b2))*(Re.rt c*Re.rt c-Re.of c):=Re.ext fun n=>by
  unfold Dk DE
  simp only[bK,bE,bU,dc];grind
 rw[e,dJ,h,Int.mul_zero]
def An (k:Ci) (p:Pt):Re:=(pX p-Re.of k.x)*(pX p-Re.of k.x)+(pY p-Re.of k.y)*(pY p-Re.of k.y)-Re.of k.q
theorem uS (a b c v:Rat):p8 (a-v) b c=p8 a b c-Re.of v:=Re.ext fun n=>by unfold p8 dX;simp only[bK,bE,bU,dc];grind
theorem MD {k:Ci}{p:Pt}(hp:0≤p.c):ce (dX (Ep k p) (wS k p) (zc (wS k p) p.c))=ce (An k p):=by
 refine jF ?_
 have h:=Lx (A:=Dk (p.a1-k.x) (p.a2-k.y) p.b1 p.b2 p.c) (B:=wS k p) hp p.b1 p.b2 (p.a1-k.x) (p.a2-k.y) rfl rfl
 rw[←h]
 refine congrArg ce (Re.ext fun n=>?_)
 unfold An pX pY
 rw[uS,uS]
 unfold Ep dX
 simp only[bK,bE,bU,dc];grind
theorem qI {k:Ci}{p:Pt}(hp:GP p):mS k p= -ce (An k p):=by
 have hv:=hp.v
 unfold mS
 rw[←MD (iG hp),GN (jR (iG hp))]
 intro hb
 have h:=IC hv (x:=p.a1-k.x) (y:=p.a2-k.y) hb
 rw[show zc (wS k p) p.c=p.c from by unfold zc;rw[if_neg hb]]
 exact h
theorem J0 (k:Ci) (p:Pt): -1≤mS k p∧mS k p≤1:=by have:=L8 (Ep k p) (wS k p) (zc (wS k p) p.c);unfold mS;omega
def OnK (k:Ci) (p:Pt):Prop:=GP p∧mS k p=0
theorem gf {k:Ci}{w:Bool}{f t p:Pt}:(Cv.arc k w f t).supp p=true↔mS k p=0:=by
 show(mS k p==0)=true↔_
 simp
def kd (k:Ci) (p:Pt):Fin 4:=if lp p k.y>0 then 1 else if lp p k.y=0 then(if rF p k.x>0 then 0 else 2) else 3
theorem AP (k:Ci) (p:Pt):jf k p=uK (kd k p):=by
 unfold jf kd uK
 by_cases h:lp p k.y>0
 ·simp[h]
 ·by_cases g:lp p k.y=0
  ·by_cases e:rF p k.x>0
   ·simp[g,e]
   ·simp[g,e]
  ·simp[h,g]
section
variable {k:Ci}{p:Pt}(hq:0<k.q) (hp:OnK k p)
include hp
theorem jL:0≤p.c:=iG hp.1
theorem xn:ce (An k p)=0:=by have h1:=qI (k:=k) hp.1;rw[hp.2] at h1;omega
include hq
theorem wW (h:lp p k.y=0):rF p k.x≠0:=by
 intro h2
 rw[x8 (jL hp)] at h
 rw[te (jL hp)] at h2
 have e:Re.of k.q=((pX p-Re.of k.x)*(pX p-Re.of k.x)+(pY p-Re.of k.y)*(pY p-Re.of k.y))+ -An k p:=Re.ext fun n=>by unfold An;simp only[bK,bE,bU,dc,cr];grind
 have h3:ce (Re.of k.q)=0:=by
  rw[e,eN _ (by rw[fk,xn hp];rfl),eN _ (by rw[dJ,h,Int.zero_mul]),dJ,h2,Int.zero_mul]
 rw[fQ] at h3
 have:=f8.1 h3
 grind
end
theorem si (p:Pt):pX p.flip= -pX p:=Re.ext fun n=>by
 show(p8 (-p.a1) (-p.b1) p.c).s n=_
 unfold pX p8 dX
 have:zc (-p.b1) p.c=zc p.b1 p.c:=by
  by_cases h:p.b1=0
  ·rw[yU h,yU (by rw[h];rfl)]
  ·rw[kR h,kR (by grind)]
 rw[this]
 simp only[bK,bU,dc,cr];grind
theorem KP (p:Pt):pY p.flip=pY p:=rfl
theorem tw {k:Ci}{p:Pt}(hp:0≤p.c):rF p.flip k.mir.x= -rF p k.x:=by
 rw[te (show 0≤p.flip.c from hp),te hp,si,←fk]
 exact congrArg ce (Re.ext fun n=>by show _+ -(-k.x)=_;simp only[bE,dc,cr];grind)
theorem sF (k:Ci) (p:Pt):lp p.flip k.mir.y=lp p k.y:=rfl
theorem mg {p q:Pt}(hp:0≤p.c) (hq:0≤q.c):cx p.flip q.flip= -cx p q:=by
 rw[qz (show 0≤p.flip.c from hp) (show 0≤q.flip.c from hq),qz hp hq,si,si,←fk]
 exact congrArg ce (Re.ext fun n=>by simp only[bE,cr];grind)
theorem s6 {k:Ci}{p:Pt}(hq:0<k.q) (hp:OnK k p):jf k.mir p.flip=uF (kd k p):=by
 have h1:=tw (k:=k) (jL hp)
 have h2:=wW hq hp
 unfold jf kd uF
 rw[h1,sF]
 by_cases h:lp p k.y>0
 ·simp[h]
 ·by_cases g:lp p k.y=0
  ·have h3:=h2 g
   by_cases e:rF p k.x>0
   ·simp[g,e];omega
   ·simp[g,e];omega
  ·simp[h,g]
theorem eF (k:Ci) (p q:Pt):eC k p q=BW (jf k p) (jf k q) (cx p q):=rfl
def j9 (k:Ci) (p q:Pt):Int:=Jp (jf k p) (jf k q) (cx p q)
def lg (k:Ci) (f p:Pt):Int:=Ec (j9 k p f)
def Jo (k:Ci) (f p q:Pt):Int:=zF (j9 k p f) (j9 k q f) (j9 k p q)
theorem nC (k:Ci) (f p q:Pt):vX k f p q=EC (eC k p f) (eC k q f) (eC k p q):=rfl
theorem uR {n:Int}(h: -1≤n∧n≤1): ∃i:Fin 3,n=i3 i:=by
 rcases(by omega:n= -1∨n=0∨n=1) with h|h|h
 ·exact⟨0,h⟩
 ·exact⟨1,h⟩
 ·exact⟨2,h⟩
theorem FV {f p t:Pt}(hf:0≤f.c) (hp:0≤p.c) (ht:0≤t.c):SD (cx p f) (cx t f) (cx p t)=true:=by
 rw[qz hp hf,qz ht hf,qz hp ht]
 have e1:pX p-pX f=(pX p-pX t)+(pX t-pX f):=Re.ext fun n=>by simp only[bK,bE];grind
 have e2:pX p-pX t=(pX p-pX f)+ -(pX t-pX f):=Re.ext fun n=>by simp only[bK,bE,cr];grind
 have c1:=cE (pX p-pX f)
 have c2:=cE (pX t-pX f)
 unfold SD
 simp only[Bool.and_eq_true,Bool.or_eq_true,bne_iff_ne,beq_iff_eq]
 refine⟨⟨?_,?_⟩,?_⟩
 ·by_cases h:ce (pX t-pX f)=0
  ·right;rw[e2];exact eN _ (by rw[fk,h];rfl)
  ·exact .inl h
 ·by_cases h:ce (pX p-pX f)=0
  ·right;rw[e2,pU h,fk]
  ·exact .inl h
 ·by_cases h:ce (pX p-pX f)= -ce (pX t-pX f)
  ·right;rw[e2,iX (by rw[fk];exact h)]
  ·exact .inl h
theorem N6 (X:Re):ce (X+X)=ce X:=iX rfl
theorem tM {k:Ci}{p l:Pt}(hp:OnK k p) (hl:OnK k l) (h0:lp p k.y=0) (h1:rF p k.x>0):
 (lp l k.y=0∧rF l k.x>0∧cx p l=0)∨(¬(lp l k.y=0∧rF l k.x>0)∧cx p l=1):=by
 have cp:=jL hp
 have cl:=jL hl
 rw[x8 cp] at h0
 rw[te cp] at h1
 rw[x8 cl,te cl,qz cp cl]
 generalize hP:pX p-Re.of k.x=P at*
 generalize hL:pX l-Re.of k.x=L at*
 generalize hY:pY p-Re.of k.y=Y at*
 generalize hZ:pY l-Re.of k.y=Z at*
 have d:pX p-pX l=P-L:=by rw[←hP,←hL];exact Re.ext fun n=>by simp only[bE];grind
 rw[d]
 have w1:An k p=P*P+Y*Y-Re.of k.q:=by rw[←hP,←hY];rfl
 have w2:An k l=L*L+Z*Z-Re.of k.q:=by rw[←hL,←hZ];rfl
 have e:(P-L)*(P+L)=(Z*Z+(P*P+Y*Y-Re.of k.q))+(-(L*L+Z*Z-Re.of k.q)+ -(Y*Y)):=Re.ext fun n=>by simp only[bK,bE,bU,dc,cr];grind
 have z1:ce (-(L*L+Z*Z-Re.of k.q)+ -(Y*Y))=0:=by
  rw[eN _ (by rw[fk,dJ,h0];rfl),fk,←w2,xn hl];rfl
 have hprod:ce (P-L)*ce (P+L)=ce Z*ce Z:=by
  rw[←dJ,e,eN _ z1,eN _ (by rw[←w1];exact xn hp),dJ]
 have s2:(P-L)+(P+L)=P+P:=Re.ext fun n=>by simp only[bK,bE];grind
 have hP1:ce (P+P)=1:=by rw[N6];have:=cE P;omega
 have hPL:L=P+ -(P-L):=Re.ext fun n=>by simp only[bK,bE,cr];grind
 have hPL2:L= -P+(P+L):=Re.ext fun n=>by simp only[bK,cr];grind
 rcases cE Z with c|c|c
 ·right
  refine⟨fun h=>by omega,?_⟩
  rw[c] at hprod
  rcases cE (P-L) with a|a|a
  ·exact a
  ·rw[a] at hprod;omega
  ·exfalso
   have:ce (P+L)= -1:=by rw[a] at hprod;omega
   have:=iX (x:=P-L) (y:=P+L) (by omega)
   rw[s2] at this;omega
 ·rw[c] at hprod
  rcases cE (P-L) with a|a|a
  ·right
   refine⟨fun h=>?_,a⟩
   have h5:ce (P+L)=0:=by rw[a] at hprod;omega
   have:ce L= -ce P:=by rw[hPL2,eN _ h5,fk]
   omega
  ·left
   have:ce L=ce P:=by rw[hPL,eN _ (by rw[fk,a];rfl)]
   exact⟨c,by omega,a⟩
  ·exfalso
   have h5:ce (P+L)=0:=by rw[a] at hprod;omega
   have:=eN (P-L) h5
   rw[s2] at this;omega
 ·right
  refine⟨fun h=>by omega,?_⟩
  rw[c] at hprod
  rcases cE (P-L) with a|a|a
  ·exact a
  ·rw[a] at hprod;omega
  ·exfalso
   have:ce (P+L)= -1:=by rw[a] at hprod;omega
   have:=iX (x:=P-L) (y:=P+L) (by omega)
   rw[s2] at this;omega
theorem Jb {k:Ci}{p:Pt}(_hp:0≤p.c):ce (An k.mir p.flip)=ce (An k p):=by
 refine congrArg ce (Re.ext fun n=>?_)
 unfold An
 rw[si,KP]
 show _=_
 simp only[Ci.mir,bK,bE,bU,dc,cr];grind
theorem OnK.flip {k:Ci}{p:Pt}(hp:OnK k p):OnK k.mir p.flip:=by
 refine⟨hp.1.flip,?_⟩
 rw[qI hp.1.flip,Jb (jL hp),xn hp];rfl
theorem CI {k:Ci}{p l:Pt}(hp:OnK k p) (hl:OnK k l) (h0:lp p k.y=0) (h1:rF p k.x<0):
 (lp l k.y=0∧rF l k.x<0∧cx p l=0)∨(¬(lp l k.y=0∧rF l k.x<0)∧cx p l= -1):=by
 have h:=tM hp.flip hl.flip (by rw[sF];exact h0) (by rw[tw (jL hp)];omega)
 rw[sF,tw (jL hl),mg (jL hp) (jL hl)] at h
 rcases h with⟨a,b,c⟩|⟨a,c⟩
 ·exact .inl ⟨a,by omega,by omega⟩
 ·exact .inr ⟨fun g=>a ⟨g.1,by omega⟩,by omega⟩
theorem Ah {k:Ci}{p:Pt}(hq:0<k.q) (hp:OnK k p):(kd k p=0∧lp p k.y=0∧rF p k.x>0)∨(kd k p=1∧lp p k.y>0)∨(kd k p=2∧lp p k.y=0∧rF p k.x<0)∨(kd k p=3∧lp p k.y<0):=by
 have h2:=wW hq hp
 unfold kd
 by_cases h:lp p k.y>0
 ·exact .inr (.inl ⟨if_pos h,h⟩)
 ·by_cases g:lp p k.y=0
  ·have h3:=h2 g
   by_cases e:rF p k.x>0
   ·exact .inl ⟨by rw[if_neg h,if_pos g,if_pos e],g,e⟩
   ·exact .inr (.inr (.inl ⟨by rw[if_neg h,if_pos g,if_neg e],g,by omega⟩))
  ·exact .inr (.inr (.inr ⟨by rw[if_neg h,if_neg g],by omega⟩))
theorem tA {k:Ci}{p l:Pt}(hq:0<k.q) (hp:OnK k p) (hl:OnK k l):yR (kd k p) (kd k l) (cx p l)=true:=by
 have xp:=wW hq hp
 have xl:=wW hq hl
 have R:=tM hp hl
 have L:=CI hp hl
 have R':=tM hl hp
 have L':=CI hl hp
 rw[rY (jL hp) (jL hl)] at R' L'
 rcases Ah hq hp with⟨e1,a1,a2⟩|⟨e1,a1⟩|⟨e1,a1,a2⟩|⟨e1,a1⟩<;>rcases Ah hq hl with⟨e2,b1,b2⟩|⟨e2,b1⟩|⟨e2,b1,b2⟩|⟨e2,b1⟩<;>rw[e1,e2]<;>simp[yR]
 all_goals first
  |(have h:=R a1 a2;omega)
  |(have h:=L a1 a2;omega)
  |(have h:=R' b1 b2;omega)
  |(have h:=L' b1 b2;omega)
theorem O1 {k:Ci}{f t p:Pt}(hf:GP f) (ht:GP t) (hp:GP p):(decide ((Cv.arc k false f t).ord f p≤0)&&decide ((Cv.arc k false f t).ord p t≤0))=decide (Jo k f p t≤0):=by
 have cf:=iG hf
 have ct:=iG ht
 have cp:=iG hp
 show(decide (vX k f f p≤0)&&decide (vX k f p t≤0))=_
 have ht:=FV cf cp ct
 obtain⟨i,hi⟩:=uR (rn p f)
 obtain⟨j,hj⟩:=uR (rn t f)
 obtain⟨l,hl⟩:=uR (rn p t)
 have h:=HZ (jf k f) (jf k p) (jf k t) i j l (by rw[←hi,←hj,←hl];exact ht)
 rw[←hi,←hj,←hl] at h
 unfold Sw Qf at h
 rw[nC,nC,eF,eF,eF,eF,eF,BR cf,rY cp cf]
 exact h
theorem RY {k:Ci}{f t p:Pt}(hq:0<k.q) (hf:OnK k f) (ht:OnK k t) (hp:OnK k p):(decide ((Cv.arc k true f t).ord f p≤0)&&decide ((Cv.arc k true f t).ord p t≤0))=decide (Jo k t p f≤0):=by
 have cf:=jL hf
 have ct:=jL ht
 have cp:=jL hp
 show(decide (vX k.mir f.flip f.flip p.flip≤0)&&decide (vX k.mir f.flip p.flip t.flip≤0))=_
 have h3:=FV cf cp ct
 have m1:=tA hq hp hf
 have m2:=tA hq ht hf
 have m3:=tA hq hp ht
 obtain⟨i,hi⟩:=uR (rn p f)
 obtain⟨j,hj⟩:=uR (rn t f)
 obtain⟨l,hl⟩:=uR (rn p t)
 rw[hi] at m1
 rw[hj] at m2
 rw[hl] at m3
 have h:=Lq (kd k f) (kd k p) (kd k t) i j l (by rw[←hi,←hj,←hl];exact h3) m1 m2 m3
 rw[←hi,←hj,←hl] at h
 unfold T8 T4 at h
 rw[nC,nC,eF,eF,eF,eF,eF,mg cf cf,mg cp cf,mg cf cp,mg ct cf,mg cp ct,BR cf,rY cp cf,Int.neg_zero,Int.neg_neg,s6 hq hf,s6 hq hp,s6 hq ht,h]
 unfold Jo j9
 rw[rY ct cf,AP,AP,AP]
theorem GC (a b c:Rat):dz a b c≤dA a b c:=by
 cases h:dk a b c with
 |true=>have hi:=CO h;exact Rat.intCast_le_intCast.1 (qB (R6 hi.1 hi.2))
 |false=>rw[(kG h).1,(kG h).2];exact Int.le_refl _
theorem Hg (a b c:Rat):Bd (dz a b c)∧Bd (dA a b c):=by
 cases h:dk a b c with
 |false=>rw[(kG h).1,(kG h).2];exact⟨Bd.zero,Bd.zero⟩
 |true=>
  have hle:=GC a b c
  have h2:=h
  unfold dk LQ at h2
  simp only[Bool.and_eq_true,Bool.or_eq_true] at h2
  unfold dz dA at*
  rw[if_pos h,if_pos h] at*
  have h3:=vK h2.1
  split
  ·exact⟨⟨h3.1,h3.2.1⟩,h3.2.2⟩
  ·rename_i g
   rw[if_neg g,if_neg g] at hle
   have h4:=Cx (h2.2.resolve_left g).2.2.2.2
   unfold Bd
   omega
theorem Q7 (a b c:Rat):Bd (dz a b c):=(Hg a b c).1
theorem QA (a b c:Rat):Bd (dA a b c):=(Hg a b c).2
theorem Bd.neg {x:Int}(h:Bd x):Bd (-x):=by unfold Bd at*;omega
theorem GT {lo hi:Int}{X:Re}(h:mL lo hi X):mL (-hi) (-lo) (-X):=by
 refine⟨kY (fun k=>?_) h.2,kY (fun k=>?_) h.1⟩
 ·simp only[bE,bU,dc,cr,Rat.intCast_neg];grind
 ·simp only[bE,bU,dc,cr,Rat.intCast_neg];grind
theorem Nj {x y:Int}(h:x≤y): -y≤ -x:=by omega
def rA (a b c v:Rat):Bool:=dk a b c&&fw v
def vr (a b c v:Rat):Int:=if rA a b c v then aL (dz a b c) (dA a b c) (-gH v) (-gL v) else 0
def vf (a b c v:Rat):Int:=if rA a b c v then aH (dz a b c) (dA a b c) (-gH v) (-gL v) else 0
def Am (a b c v:Rat):Bool:=rA a b c v&&oo (dz a b c+ -gH v) (dA a b c+ -gL v)
section
variable {a b c v:Rat}
theorem ve (h:rA a b c v=false):vr a b c v=0∧vf a b c v=0∧Am a b c v=false:=by unfold vr vf Am;rw[h];exact⟨rfl,rfl,rfl⟩
theorem xa (h:rA a b c v=true):vr a b c v=aL (dz a b c) (dA a b c) (-gH v) (-gL v)∧vf a b c v=aH (dz a b c) (dA a b c) (-gH v) (-gL v)∧Am a b c v=oo (dz a b c+ -gH v) (dA a b c+ -gL v):=by unfold vr vf Am;rw[h];exact⟨rfl,rfl,rfl⟩
theorem wH (a b c v:Rat):Bd (vr a b c v):=by
 unfold vr;split
 ·exact C5 (GC _ _ _) (Nj (ue _))
 ·exact Bd.zero
theorem xj (a b c v:Rat):Bd (vf a b c v):=by
 unfold vf;split
 ·exact Db (GC _ _ _) (Nj (ue _))
 ·exact Bd.zero
theorem MG (h:Am a b c v=true):mL (vr a b c v) (vf a b c v) (dX a b c+ -Re.of v):=by
 have h0:=h
 unfold Am at h
 rw[Bool.and_eq_true] at h
 obtain⟨e1,e2,_⟩:=xa h.1
 rw[e1,e2]
 have h2:=h.1
 unfold rA at h2
 rw[Bool.and_eq_true] at h2
 exact EN (CO h2.1) (GT (ya h2.2)) h.2
end
section
variable (k:Ci) (p:Pt)
def FI:Int:=pL (vr p.a1 p.b1 p.c k.x) (vf p.a1 p.b1 p.c k.x) (vr p.a1 p.b1 p.c k.x) (vf p.a1 p.b1 p.c k.x)
def Gb:Int:=pH (vr p.a1 p.b1 p.c k.x) (vf p.a1 p.b1 p.c k.x) (vr p.a1 p.b1 p.c k.x) (vf p.a1 p.b1 p.c k.x)
def JJ:Bool:=qF (vr p.a1 p.b1 p.c k.x) (vf p.a1 p.b1 p.c k.x) (vr p.a1 p.b1 p.c k.x) (vf p.a1 p.b1 p.c k.x) 4
def G2:Int:=pL (vr p.a2 p.b2 p.c k.y) (vf p.a2 p.b2 p.c k.y) (vr p.a2 p.b2 p.c k.y) (vf p.a2 p.b2 p.c k.y)
def IP:Int:=pH (vr p.a2 p.b2 p.c k.y) (vf p.a2 p.b2 p.c k.y) (vr p.a2 p.b2 p.c k.y) (vf p.a2 p.b2 p.c k.y)
def Pn:Bool:=qF (vr p.a2 p.b2 p.c k.y) (vf p.a2 p.b2 p.c k.y) (vr p.a2 p.b2 p.c k.y) (vf p.a2 p.b2 p.c k.y) 4
def Qj:Int:=aL (FI k p) (Gb k p) (G2 k p) (IP k p)
def Q2:Int:=aH (FI k p) (Gb k p) (G2 k p) (IP k p)
def TL:Bool:=oo (FI k p+G2 k p) (Gb k p+IP k p)
def RJ:Int:=aL (Qj k p) (Q2 k p) (-gH k.q) (-gL k.q)
def Sk:Int:=aH (Qj k p) (Q2 k p) (-gH k.q) (-gL k.q)
def SN:Bool:=oo (Qj k p+ -gH k.q) (Q2 k p+ -gL k.q)
def Jq:Bool:=Am p.a1 p.b1 p.c k.x&&(Am p.a2 p.b2 p.c k.y&&fw k.q)
def CD:Bool:=Jq k p&&(JJ k p&&Pn k p)
def Al:Bool:=CD k p&&TL k p
def um:Bool:=Al k p&&SN k p
def Ml:Bool:=um k p&&EQ (RJ k p) (Sk k p)
def Nx:Int:=if um k p then D3 (RJ k p) (Sk k p) else 0
end
section
variable {k:Ci}{p:Pt}
theorem kv (h:um k p=false):Nx k p=0∧Ml k p=false:=by unfold Nx Ml;rw[h];exact⟨rfl,rfl⟩
theorem Bo (h:um k p=true):Nx k p=D3 (RJ k p) (Sk k p)∧Ml k p=EQ (RJ k p) (Sk k p):=by unfold Nx Ml;rw[h];exact⟨rfl,rfl⟩
theorem QS {a b c:Rat}:dX a b (zc b c)=dX a b c:=Re.ext fun n=>by
 unfold dX zc
 by_cases h:b=0
 ·subst h;simp only[bK,bU,dc];grind
 ·rw[if_neg h]
theorem JG (h:Ml k p=true):Nx k p=ce (An k p):=by
 unfold Ml at h
 rw[Bool.and_eq_true] at h
 obtain⟨h4,hs⟩:=h
 rw[(Bo h4).1]
 unfold um Al CD Jq at h4
 simp only[Bool.and_eq_true] at h4
 obtain⟨⟨⟨⟨k1,k2,k3⟩,k4,k5⟩,k6⟩,k7⟩:=h4
 have i1:=MG k1
 have i2:=MG k2
 have j1:mL (FI k p) (Gb k p) _:=D6 i1 i1 k4
 have j2:mL (G2 k p) (IP k p) _:=D6 i2 i2 k5
 have j3:mL (Qj k p) (Q2 k p) _:=EN j1 j2 k6
 have j4:mL (RJ k p) (Sk k p) _:=EN j3 (GT (ya k3)) k7
 rw[Dr j4 hs]
 refine congrArg ce (Re.ext fun n=>?_)
 unfold An pX pY p8
 rw[QS,QS]
 simp only[bK,bE,bU,dc,cr]
theorem B8:Bd (FI k p)∧Bd (Gb k p):=⟨uZ _ _ _ _,uM _ _ _ _⟩
theorem Cb:Bd (G2 k p)∧Bd (IP k p):=⟨uZ _ _ _ _,uM _ _ _ _⟩
theorem HA:Bd (Qj k p)∧Bd (Q2 k p):=⟨C5 (ru _ _ _ _) (ru _ _ _ _),Db (ru _ _ _ _) (ru _ _ _ _)⟩
theorem QN (hp:GP p) (h:Ml k p=true): -Nx k p=mS k p:=by rw[JG h,qI hp]
theorem Rl (hp:GP p): -cg (Ep k p) (wS k p) p.c=mS k p:=by
 rw[gm (iG hp),qI hp,←MD (iG hp),QS]
end
def Sy (l:Ln) (p:Pt):Re:=Re.of l.a*pX p+Re.of l.b*pY p-Re.of l.c
theorem No {l:Ln}{p:Pt}:dX (vA l p) (vB l p) p.c=Sy l p:=Re.ext fun n=>by
 unfold Sy pX pY p8
 rw[QS,QS]
 unfold dX vA vB
 simp only[bK,bE,bU,dc];grind
theorem OD {l:Ln}{p:Pt}(hp:GP p):sB l p=ce (Sy l p):=by
 have hv:=hp.v
 have hc:=iG hp
 unfold sB
 by_cases hb:vB l p=0
 ·rw[J6 (.inl hb),K7 (.inl hb),GN (by decide) (fun h=>absurd rfl h),←No]
  refine congrArg ce (Re.ext fun n=>?_)
  unfold dX
  rw[hb]
  simp only[bK,bU,dc];grind
 ·have hcc:0<p.c∧iD p.c=false:=by
   unfold xy at hv
   split at hv
   ·rename_i e
    exact absurd (by unfold vB;rw[e.1,e.2];grind) hb
   ·rw[Bool.and_eq_true] at hv
    exact⟨of_decide_eq_true hv.1,by simpa using hv.2⟩
  have hc0:p.c≠0:=by have:=hcc.1;grind
  have e1:rB (vB l p) p.c=vB l p:=by unfold rB;rw[if_neg (by rintro(h|h);exact hb h;exact hc0 h)]
  have e2:rC (vB l p) p.c=p.c:=by unfold rC;rw[if_neg (by rintro(h|h);exact hb h;exact hc0 h)]
  rw[e1,e2,GN hc (fun _=>hcc),No]
section
variable {n a b c:Rat}
end
section
variable (l:Ln) (p:Pt)
end
section
variable {l:Ln}{p:Pt}
end
def Cv.pos:Cv→Prop
 | .seg ..=>True
 | .arc k _ _ _=>0<k.q
structure CvV (c:Cv):Prop where
 g:c.good
 pos:c.pos
 sp:c.supp c.p=true
 sq:c.supp c.q=true
 ne:cP c.p c.q≠0
theorem my {p q:Pt}:cP p q=0↔cx p q=0∧cy p q=0:=by
 unfold cP jj
 show(if cx p q≠0 then cx p q else cy p q)=0↔_
 by_cases h:cx p q=0
 ·rw[if_neg (by rw[h];decide)];simp[h]
 ·rw[if_pos h];simp[h]
theorem v8 {p q:Pt}(hp:0≤p.c) (hq:0≤q.c):cP q p= -cP p q:=Bu hp hq
theorem CvV.rev {c:Cv}(h:CvV c):CvV c.rev:=by
 have hp:=iG (mR h.g)
 have hq:=iG (oS h.g)
 cases c with
 |seg l p q=>exact⟨tE h.g,trivial,h.sq,h.sp,fun e=>h.ne (by have:=v8 hp hq;have e2:cP q p=0:=e;show cP p q=0;have h3:cP q p= -cP p q:=this;omega)⟩
 |arc k w p q=>exact⟨tE h.g,h.pos,h.sq,h.sp,fun e=>h.ne (by have:=v8 hp hq;have e2:cP q p=0:=e;show cP p q=0;have h3:cP q p= -cP p q:=this;omega)⟩
theorem wV {x y:Re}(h:ce (x-y)=0) (v:Re):ce (x-v)=ce (y-v):=jF (by rw[←h];exact congrArg ce (Re.ext fun n=>by simp only[bE];grind))
section
variable {p q:Pt}(hp:0≤p.c) (hq:0≤q.c) (h:cP p q=0)
include hp hq h
theorem Jy {f:Pt}(hf:0≤f.c):cx p f=cx q f:=by
 have h1:=(my.1 h).1
 rw[qz hp hq] at h1
 rw[qz hp hf,qz hq hf];exact wV h1 _
theorem Fo (v:Rat):rF p v=rF q v:=by
 have h1:=(my.1 h).1
 rw[qz hp hq] at h1
 rw[te hp,te hq];exact wV h1 _
theorem HR (v:Rat):lp p v=lp q v:=by
 have h1:=(my.1 h).2
 rw[S0 hp hq] at h1
 rw[x8 hp,x8 hq];exact wV h1 _
theorem GO (k:Ci):jf k p=jf k q:=by unfold jf;rw[Fo hp hq h,HR hp hq h]
theorem xX {k:Ci}{f:Pt}(hf:0≤f.c):vX k f p q=0:=by
 rw[nC,eF,eF,eF,Jy hp hq h hf,GO hp hq h,(my.1 h).1]
 unfold EC
 rw[if_neg (by simp)]
 unfold BW
 simp
theorem Fa {c:Cv}(hc:c.good):c.ord p q=0:=by
 have hf:=iG (mR hc)
 cases c with
 |seg l f t=>
  show(if decide (cP f t>0)=true then-cP p q else cP p q)=0
  rw[h];split<;>rfl
 |arc k w f t=>
  show(if (!w)=true then vX k f p q else vX k.mir f.flip p.flip q.flip)=0
  split
  ·exact xX hp hq h hf
  ·refine xX (p:=p.flip) (q:=q.flip) hp hq (my.2 ⟨?_,?_⟩) (f:=f.flip) hf
   ·rw[mg hp hq,(my.1 h).1];rfl
   ·exact(my.1 h).2
end
theorem Pc {c:Cv}(hc:c.good) {p q:Pt}(hp:GP p) (hq:GP q) (h:c.ord p q<0):cP p q≠0:=fun e=>by
 have:=Fa (iG hp) (iG hq) e hc
 omega
theorem Dp {c:Cv}{x o:Pt}{l:List Pt}(h:c.ord o x<0):gn c (o::l) x=o::gn c l x:=by
 have e:gy c x (o::l)=gy c x l+1:=by show(if c.ord o x<0 then gy c x l+1 else 0)=_;rw[if_pos h]
 unfold gn
 rw[e]
 by_cases g:gy c x l<l.length∧cP (l.getD (gy c x l) dPt) x=0
 ·rw[if_pos g,if_pos ⟨by rw[List.length_cons];omega,g.2⟩]
 ·rw[if_neg g,if_neg (fun f=>g ⟨by have:=f.1;rw[List.length_cons] at this;omega,f.2⟩)];rfl
theorem Ca {c:Cv}{x o:Pt}{l:List Pt}(h: ¬c.ord o x<0):gn c (o::l) x=if cP o x=0 then o::l else x::o::l:=by
 have e:gy c x (o::l)=0:=by show(if c.ord o x<0 then gy c x l+1 else 0)=_;rw[if_neg h]
 unfold gn
 rw[e]
 by_cases g:cP o x=0
 ·rw[if_pos ⟨by rw[List.length_cons];omega,g⟩,if_pos g]
 ·rw[if_neg (fun f=>g f.2),if_neg g];rfl
def pM:List Pt→Prop
 |p::q::l=>cP p q≠0∧pM (q::l)
 |_=>True
theorem HC {o:Pt}{l:List Pt}(h:pM (o::l)):pM l:=by
 cases l with
 |nil=>trivial
 |cons p l=>exact h.2
theorem yx {c:Cv}(hc:c.good) {x:Pt}(hx:GP x): ∀ {l:List Pt},(∀p∈l,GP p)→pM l→pM (gn c l x)
 |[],_,_=>trivial
 |o::l,hl,h=>by
  by_cases g:c.ord o x<0
  ·rw[Dp g]
   have ih:=yx hc hx (l:=l) (fun p hp=>hl p (List.mem_cons_of_mem _ hp)) (HC h)
   have ho:=Pc hc (hl o List.mem_cons_self) hx g
   cases l with
   |nil=>exact⟨ho,trivial⟩
   |cons p l=>
    by_cases g2:c.ord p x<0
    ·rw[Dp g2] at ih⊢;exact⟨h.1,ih⟩
    ·rw[Ca g2] at ih⊢
     by_cases e:cP p x=0
     ·rw[if_pos e];exact h
     ·rw[if_neg e] at ih⊢;exact⟨ho,ih⟩
  ·rw[Ca g]
   by_cases e:cP o x=0
   ·rw[if_pos e];exact h
   ·rw[if_neg e]
    refine⟨fun e2=>e ?_,h⟩
    rw[v8 (iG hx) (iG (hl o List.mem_cons_self)),e2];rfl
theorem x5 {c:Cv}(hc:c.good): ∀ {l out:List Pt},(∀p∈l,GP p)→(∀p∈out,GP p)→pM out→pM (l.foldl (gn c) out)
 |[],_,_,_,h=>h
 |x::l,out,hl,ho,h=>by
  refine x5 hc (l:=l) (out:=gn c out x) (fun p hp=>hl p (List.mem_cons_of_mem _ hp)) (fun p hp=>?_) (yx hc (hl x List.mem_cons_self) ho h)
  rcases zE hp with e|e
  ·exact ho p e
  ·rw[e];exact hl x List.mem_cons_self
theorem Eq {c:Cv}(hc:c.good) {l:List Pt}(hl: ∀p∈l,GP p):pM (bL c l):=x5 hc hl (fun p hp=>by cases hp) trivial
theorem vG {c:Cv}: ∀ {l:List Pt}{d:Cv},pM l→d∈ja c l→ ∃p q,p∈l∧q∈l∧cP p q≠0∧d=c.ends p q
 |p::q::l,d,ha,h=>by
  rcases List.mem_cons.1 (show d∈c.ends p q::ja c (q::l) from h) with h|h
  ·exact⟨p,q,List.mem_cons_self,List.mem_cons_of_mem _ List.mem_cons_self,ha.1,h⟩
  ·obtain⟨p',q',h1,h2,h3,h4⟩:=vG ha.2 h
   exact⟨p',q',List.mem_cons_of_mem _ h1,List.mem_cons_of_mem _ h2,h3,h4⟩
 |[_],d,_,h=>by cases h
 |[],d,_,h=>by cases h
theorem Jg (c:Cv) (p q:Pt):(c.ends p q).p=p:=by cases c<;>rfl
theorem ID (c:Cv) (p q:Pt):(c.ends p q).q=q:=by cases c<;>rfl
theorem uI (c:Cv) (p q x:Pt):(c.ends p q).supp x=c.supp x:=by cases c<;>rfl
theorem I8 {c:Cv}(h:c.pos) (p q:Pt):(c.ends p q).pos:=by cases c<;>exact h
theorem K5 {c:Cv}{p:Pt}(h:c.on p=true):c.supp p=true:=by
 unfold Cv.on at h
 simp only[Bool.and_eq_true] at h
 exact h.1.1
theorem Kv {c:Cv}(h:CvV c) {L:List Pt}(hL: ∀p∈L,GP p) (hs: ∀p∈L,c.supp p=true): ∀d∈oY c L,CvV d:=by
 intro d hd
 have hG: ∀p∈ [c.p,c.q]++L,GP p:=by
  intro p hp
  simp only[List.cons_append,List.nil_append,List.mem_cons] at hp
  rcases hp with e|e|e
  ·rw[e];exact mR h.g
  ·rw[e];exact oS h.g
  ·exact hL p e
 have hS: ∀p∈ [c.p,c.q]++L,c.supp p=true:=by
  intro p hp
  simp only[List.cons_append,List.nil_append,List.mem_cons] at hp
  rcases hp with e|e|e
  ·rw[e];exact h.sp
  ·rw[e];exact h.sq
  ·exact hs p e
 obtain⟨p,q,h1,h2,h3,rfl⟩:=vG (Eq h.g hG) hd
 have m1:=lq h1
 have m2:=lq h2
 exact⟨En h.g (hG p m1) (hG q m2),I8 h.pos p q,by rw[Jg,uI];exact hS p m1,by rw[ID,uI];exact hS q m2,by rw[Jg,ID];exact h3⟩
theorem MI (a b:Rat):pX (rP a b)=Re.of a:=Re.ext fun n=>by unfold pX p8 dX;simp only[bK,bU,dc,rP];grind
theorem MJ (a b:Rat):pY (rP a b)=Re.of b:=Re.ext fun n=>by unfold pY p8 dX;simp only[bK,bU,dc,rP];grind
theorem BS {l:Ln}{a b:Rat}(hp:GP (rP a b)) (h:l.a*a+l.b*b=l.c):sB l (rP a b)=0:=by
 rw[OD hp]
 unfold Sy
 rw[MI,MJ,iP,iP,E4,oU,fQ,h]
 exact f8.2 (by grind)
theorem AX {k:Ci}{a b:Rat}(hp:GP (rP a b)) (h:(a-k.x)*(a-k.x)+(b-k.y)*(b-k.y)=k.q):mS k (rP a b)=0:=by
 rw[qI hp]
 unfold An
 rw[MI,MJ,oU,oU,iP,iP,E4,oU,fQ,h,f8.2 (show k.q-k.q=0 by grind)];rfl
theorem O0 {q:Rat}(_h0:0<q) (hs:iD q=true):rt q*rt q=q:=by
 have hs2:=hs
 unfold iD rH at hs2
 simp only[Bool.and_eq_true,beq_iff_eq] at hs2
 have hd:bD (q.den:Int)≠0:=by have:=qm (den_pos q);omega
 have hdq:((bD (q.den:Int):Int):Rat)≠0:=by simpa using hd
 have h2:rt q*((bD (q.den:Int):Int):Rat)=((bD q.num:Int):Rat):=by unfold rt;rw[Rat.divInt_eq_div,Rat.div_mul_cancel hdq]
 have h3:=DA q
 have e1:((q.num:Int):Rat)=((bD q.num:Int):Rat)*((bD q.num:Int):Rat):=by rw[←Rat.intCast_mul,hs2.1]
 have e2:(((q.den:Int)):Rat)=((bD (q.den:Int):Int):Rat)*((bD (q.den:Int):Int):Rat):=by rw[←Rat.intCast_mul,hs2.2]
 rw[e1,e2,←h2] at h3
 generalize ((bD (q.den:Int):Int):Rat)=d at*
 have h5:(rt q*rt q-q)*(d*d)=0:=by grind
 rcases Rat.mul_eq_zero.1 h5 with h6|h6
 ·grind
 ·rcases Rat.mul_eq_zero.1 h6 with h7|h7<;>exact absurd h7 hdq
theorem Gk {k:Ci}(s:Rat) (hs:s*s=1) (h0:0<k.q) (hp:GP (gX k.x s k.y 0 k.q)):mS k (gX k.x s k.y 0 k.q)=0:=by
 cases hq:iD k.q with
 |true=>
  have e:gX k.x s k.y 0 k.q=rP (k.x+s*rt k.q) (k.y+0*rt k.q):=by unfold gX;rw[hq];rfl
  rw[e] at hp⊢
  refine AX hp ?_
  have:=O0 h0 hq
  grind
 |false=>
  have e:gX k.x s k.y 0 k.q=⟨k.x,s,k.y,0,k.q⟩:=by unfold gX;rw[hq];rfl
  rw[e] at hp⊢
  rw[qI hp]
  have hc:(0:Rat)≤k.q:=by grind
  have h:=sw hc
  have e2:An k ⟨k.x,s,k.y,0,k.q⟩=Re.rt k.q*Re.rt k.q-Re.of k.q:=Re.ext fun n=>by
   unfold An pX pY
   rw[tp,tp]
   simp only[bK,bE,bU,dc];grind
  rw[e2,h];rfl
theorem B5 {k:Ci}(hk:GK k) (h0:0<k.q):mS k (wy k)=0:=Gk (-1) (by decide+kernel) h0 (ws hk h0)
theorem CZ {k:Ci}(hk:GK k) (h0:0<k.q):mS k (xz k)=0:=Gk 1 (by decide+kernel) h0 (xu hk h0)
section
variable {a b c d e f:Rat}(hn:jA a b c d e f≠0)
include hn
theorem Mt:rN a b c d e f*(jA a b c d e f+jA a b c d e f)=((c-a)*(c-a)+(d-b)*(d-b))*(f-b)-((e-a)*(e-a)+(f-b)*(f-b))*(d-b)∧
 sb a b c d e f*(jA a b c d e f+jA a b c d e f)=((e-a)*(e-a)+(f-b)*(f-b))*(c-a)-((c-a)*(c-a)+(d-b)*(d-b))*(e-a):=by
 have h2D:jA a b c d e f+jA a b c d e f≠0:=fun h=>hn (by grind)
 exact⟨by unfold rN;exact Rat.div_mul_cancel h2D,by unfold sb;exact Rat.div_mul_cancel h2D⟩
theorem NU:(e-(a+rN a b c d e f))*(e-(a+rN a b c d e f))+(f-(b+sb a b c d e f))*(f-(b+sb a b c d e f))=rN a b c d e f*rN a b c d e f+sb a b c d e f*sb a b c d e f:=by
 obtain⟨h1,h2⟩:=Mt hn
 have h2D:jA a b c d e f+jA a b c d e f≠0:=fun h=>hn (by grind)
 generalize hx:rN a b c d e f=x at*
 generalize hy:sb a b c d e f=y at*
 generalize hD:jA a b c d e f+jA a b c d e f=D at*
 have eD:D=((c-a)*(f-b)-(d-b)*(e-a))+((c-a)*(f-b)-(d-b)*(e-a)):=by rw[←hD];rfl
 have key:((e-a)*(e-a)+(f-b)*(f-b)-((e-a)*x+(f-b)*y)-((e-a)*x+(f-b)*y))*D=0:=by grind
 rcases Rat.mul_eq_zero.1 key with h|h
 ·grind
 ·exact absurd h h2D
theorem OC:0<rN a b c d e f*rN a b c d e f+sb a b c d e f*sb a b c d e f:=by
 obtain⟨h1,h2⟩:=Mt hn
 have h2D:jA a b c d e f+jA a b c d e f≠0:=fun h=>hn (by grind)
 have q1:=JP (rN a b c d e f)
 have q2:=JP (sb a b c d e f)
 by_cases h:rN a b c d e f*rN a b c d e f+sb a b c d e f*sb a b c d e f=0
 ·exfalso
  obtain⟨hx,hy⟩:=Dm h
  rw[hx] at h1
  rw[hy] at h2
  have key:((c-a)*(c-a)+(d-b)*(d-b))*(jA a b c d e f)=0:=by
   show _*((c-a)*(f-b)-(d-b)*(e-a))=0
   grind
  rcases Rat.mul_eq_zero.1 key with g|g
  ·obtain⟨g1,g2⟩:=Dm g
   exact hn (by unfold jA;rw[g1,g2];grind)
  ·exact hn g
 ·grind
end
theorem Pf (a b x y:Rat):(a-(a+x))*(a-(a+x))+(b-(b+y))*(b-(b+y))=x*x+y*y:=by grind
theorem OY (a b c d:Rat):(b-d)*c+(c-a)*d=(b-d)*a+(c-a)*b:=by grind
section
variable {K U A B C D E F:Int}(hU:0≤U) (hA: -128≤A∧A≤127) (hB: -128≤B∧B≤127) (hC: -128≤C∧C≤127) (hD: -128≤D∧D≤127) (hE: -128≤E∧E≤127) (hF: -128≤F∧F≤127)
include hU hA hB hC hD hE hF
theorem P8: ∀c∈pf K U A B C D E F,CvV c:=by
 intro c hc
 have hg:=tY (K:=K) hU hA hB hC hD hE hF c hc
 unfold pf at hc
 split at hc
 ·split at hc
  ·rename_i h0
   unfold rq at hc
   rcases List.mem_cons.1 hc with e|e
   ·subst e
    have gk:GK _:=hg.g.1
    exact⟨hg.g,h0,gf.2 (B5 gk h0),gf.2 (CZ gk h0),hg.ne⟩
   ·rw[List.mem_singleton] at e;subst e
    have gk:GK _:=hg.g.1
    exact⟨hg.g,h0,gf.2 (CZ gk h0),gf.2 (B5 gk h0),hg.ne⟩
  ·cases hc
 ·split at hc
  ·split at hc
   ·cases hc
   ·rename_i h0
    rw[List.mem_singleton] at hc;subst hc
    exact⟨hg.g,OC h0,gf.2 (AX hg.g.2.1 (Pf _ _ _ _)),gf.2 (AX hg.g.2.2 (NU h0)),hg.ne⟩
  ·split at hc
   ·cases hc
   ·rw[List.mem_singleton] at hc;subst hc
    refine⟨hg.g,trivial,?_,?_,hg.ne⟩
    ·show(sB _ (rP _ _)==0)=true
     rw[BS hg.g.2.1 rfl];rfl
    ·show(sB _ (rP _ _)==0)=true
     rw[BS hg.g.2.2 (OY _ _ _ _)];rfl
end
theorem OG {A0 Bl:List Cv}(hg:CvV (A0.getD 0 fP)) (hB: ∀d∈Bl,d.good): ∀c∈rD A0 Bl,CvV c:=
 Kv hg (fun p hp=>(sm hg.g hB p hp).1) (fun p hp=>K5 (sm hg.g hB p hp).2)
def Cv.inner (c:Cv) (p:Pt):Bool:=c.on p&&(!(cP c.p p==0)&& !(cP c.q p==0))
def Cv.mono:Cv→Bool
 | .seg _ p q=> !decide (cP p q≥0)
 | .arc k w p q=> !decide (cP p q≥0)&&(!(Cv.arc k w p q).inner (wy k)&& !(Cv.arc k w p q).inner (xz k))
def Cv.vert:Cv→Bool
 | .seg _ p q=>cx p q==0
 | .arc ..=>false
def qH (k:Ci) (p:Pt):Int:=if jf k p then 0 else 1
theorem Of {k:Ci}{p:Pt}(h:decide (lp p k.y>0)=false) (g:(lp p k.y==0)=false):qH k p=1:=by unfold qH;rw[H4 h g];rfl
theorem RT {k:Ci}{p:Pt}(h:decide (lp p k.y>0)=true):qH k p=0:=by unfold qH;rw[Nz h];rfl
theorem PW {k:Ci}{p:Pt}(h:decide (lp p k.y>0)=false) (g:(lp p k.y==0)=true) (e:decide (rF p k.x>0)=true):qH k p=0:=by unfold qH;rw[Bv h g,e];rfl
theorem Q8 {k:Ci}{p:Pt}(h:decide (lp p k.y>0)=false) (g:(lp p k.y==0)=true) (e:decide (rF p k.x>0)=false):qH k p=1:=by unfold qH;rw[Bv h g,e];rfl
theorem GG (k:Ci) (p:Pt):0≤qH k p∧qH k p≤1:=by unfold qH;split<;>omega
theorem O2 {k:Ci}{p q:Pt}(h:(qH k p==qH k q)=false):j9 k p q=qH k p-qH k q:=by
 unfold j9 Jp qH at*
 generalize jf k p=u at*
 generalize jf k q=v at*
 cases u<;>cases v<;>first|rfl|(simp at h)
theorem KA {k:Ci}{p q:Pt}(h:(qH k p==qH k q)=true) (g:(qH k p==0)=true):j9 k p q= -cx p q:=by
 unfold j9 Jp qH at*
 generalize jf k p=u at*
 generalize jf k q=v at*
 cases u<;>cases v<;>first|rfl|(simp at g;done)|(simp at h;done)
theorem LT {k:Ci}{p q:Pt}(h:(qH k p==qH k q)=true) (g:(qH k p==0)=false):j9 k p q=cx p q:=by
 unfold j9 Jp qH at*
 generalize jf k p=u at*
 generalize jf k q=v at*
 cases u<;>cases v<;>first|rfl|(simp at g;done)|(simp at h;done)
theorem Fp (k:Ci) (f p:Pt):0≤lg k f p∧lg k f p≤2:=by unfold lg Ec;repeat' split<;>omega
theorem O6 {k:Ci}{f p:Pt}(h:(j9 k p f==0)=true):lg k f p=0:=by unfold lg Ec;rw[if_pos (by simpa using h)]
theorem Oi {k:Ci}{f p:Pt}(h:(j9 k p f==0)=false) (g:decide (j9 k p f>0)=true):lg k f p=1:=by unfold lg Ec;rw[if_neg (by simpa using h),if_pos (of_decide_eq_true g)]
theorem OP {k:Ci}{f p:Pt}(h:(j9 k p f==0)=false) (g:decide (j9 k p f>0)=false):lg k f p=2:=by unfold lg Ec;rw[if_neg (by simpa using h),if_neg (of_decide_eq_false g)]
theorem RE {k:Ci}{f p q:Pt}(h:(lg k f p==lg k f q)=false):Jo k f p q=PN (lg k f p-lg k f q):=by
 unfold Jo zF;rw[if_pos (show Ec (j9 k p f)≠Ec (j9 k q f) from by simpa [lg] using h)];rfl
theorem QU {k:Ci}{f p q:Pt}(h:(lg k f p==lg k f q)=true):Jo k f p q=PN (j9 k p q):=by
 unfold Jo zF;rw[if_neg (show ¬Ec (j9 k p f)≠Ec (j9 k q f) from by simpa [lg] using h)]
theorem Ma {c:Cv}{p:Pt}(h:c.on p=false):c.inner p=false:=by unfold Cv.inner;rw[h];rfl
theorem FB {c:Cv}{p:Pt}(h:c.on p=true) (g:(!(cP c.p p==0))=false):c.inner p=false:=by unfold Cv.inner;rw[h,g];rfl
theorem Fj {c:Cv}{p:Pt}(h:c.on p=true) (g:(!(cP c.p p==0))=true):c.inner p= !(cP c.q p==0):=by unfold Cv.inner;rw[h,g];rfl
theorem QG {c:Cv}{p:Pt}(h:c.supp p=true):c.on p=(decide (c.ord c.p p≤0)&&decide (c.ord p c.q≤0)):=by unfold Cv.on;rw[h,Bool.true_and]
theorem Fd {l:Ln}{p q:Pt}(h:decide (cP p q≥0)=true):(Cv.seg l p q).mono=false:=by show(!_)=false;rw[h];rfl
theorem Gq {l:Ln}{p q:Pt}(h:decide (cP p q≥0)=false):(Cv.seg l p q).mono=true:=by show(!_)=true;rw[h];rfl
theorem GQ {k:Ci}{w:Bool}{p q:Pt}(h:decide (cP p q≥0)=true):(Cv.arc k w p q).mono=false:=by show(!_&&_)=false;rw[h];rfl
theorem Dt {k:Ci}{w:Bool}{p q:Pt}(h:decide (cP p q≥0)=false) (g:(!(Cv.arc k w p q).inner (wy k))=false):(Cv.arc k w p q).mono=false:=by show(!_&&(_&&_))=false;rw[h,g];rfl
theorem BX {k:Ci}{w:Bool}{p q:Pt}(h:decide (cP p q≥0)=false) (g:(!(Cv.arc k w p q).inner (wy k))=true):(Cv.arc k w p q).mono= !(Cv.arc k w p q).inner (xz k):=by show(!_&&(_&&_))=_;rw[h,g];rfl
theorem NH {u v q:Rat}(hb: ¬(u=0∧v=0)):Js u v (cc u (zc u q) (zc v q))=q:=by
 unfold Js
 rw[if_neg hb]
 by_cases h:u=0
 ·rw[I1 h,kR (fun e=>hb ⟨h,e⟩)]
 ·rw[uh h,kR h]
theorem RI {a b c d:Rat}(ha:Rz 600 a) (hb:Rz 600 b) (hc:Rz 600 c) (hd:Rz 600 d):Ok Tryz.prog 349 [.a ((cR a++cR b++cR c)),dR d] [.c (.i .i64 (cg (a-d) b c))]:=by
 refine Ok.fn Tryz.func349 14 [.tmp 4] rfl<|aa<|ab<|ag<|aa<|aM 10 rfl rfl<|an 1<|ai (aA (cR a) az rfl)<|an 1<|ai (ak rfl (fK (aO ha) (aO hd)))<|an 1<|ai (aA (cR b) az rfl)<|an 1<|ai (aA (cR c) az rfl) ?_
 refine ai (ak rfl (pp (aO (Rz.sub ha hd)) (aO hb) (aO hc)))<|bJ<|ar<|aq<|am ?_
 exact ao (aC ae)
theorem Tj {p:Pt}(hp:GP p) {v:Rat}(hv:Rz 600 v):Ok Tryz.prog 349 [.a ((cR p.a1++cR p.b1++cR (zc p.b1 p.c))),dR v] [.c (.i .i64 (rF p v))]:=RI (hp.a1.mono (by decide)) (hp.b1.mono (by decide)) (Rz.zc (hp.c.mono (by decide)) (by decide)) hv
theorem SS {p:Pt}(hp:GP p) {v:Rat}(hv:Rz 600 v):Ok Tryz.prog 349 [.a ((cR p.a2++cR p.b2++cR (zc p.b2 p.c))),dR v] [.c (.i .i64 (lp p v))]:=RI (hp.a2.mono (by decide)) (hp.b2.mono (by decide)) (Rz.zc (hp.c.mono (by decide)) (by decide)) hv
theorem SQ {p q:Pt}(hp:GP p) (hq:GP q):Ok Tryz.prog 104 [.a ((cR p.a1++cR p.b1++cR (zc p.b1 p.c))),.a ((cR q.a1++cR q.b1++cR (zc q.b1 q.c)))] [.c (.i .i64 (cx p q))]:=yl (hp.a1.mono (by decide)) (hp.b1.mono (by decide)) (Rz.zc (hp.c.mono (by decide)) (by decide)) (hq.a1.mono (by decide)) (hq.b1.mono (by decide)) (Rz.zc (hq.c.mono (by decide)) (by decide))
theorem Um {p q:Pt}(hp:GP p) (hq:GP q):Ok Tryz.prog 104 [.a ((cR p.a2++cR p.b2++cR (zc p.b2 p.c))),.a ((cR q.a2++cR q.b2++cR (zc q.b2 q.c)))] [.c (.i .i64 (cy p q))]:=yl (hp.a2.mono (by decide)) (hp.b2.mono (by decide)) (Rz.zc (hp.c.mono (by decide)) (by decide)) (hq.a2.mono (by decide)) (hq.b2.mono (by decide)) (Rz.zc (hq.c.mono (by decide)) (by decide))
theorem nF {p q:Pt}(hp:GP p) (hq:GP q):Ok Tryz.prog 37 [.a (ay p),.a (ay q)] [.c (.i .i64 (cP p q))]:=by
 refine Ok.fn Tryz.func37 19 [.tmp 4] rfl<|aa<|ab<|ag<|aa<|aa<|aM 6 rfl rfl<|an 1<|ai (ak rfl (nI))<|an 1<|ai (ak rfl (nI))<|ai (ak rfl (SQ hp hq))<|bJ<|ar ?_
 refine aq<|aa<|ab<|ag ?_
 refine au rfl (fun hc1=>?_) (fun hc1=>?_)
 ·refine aa<|ab<|ag<|am ?_
  rw[Tw (p:=p) (q:=q) hc1]
  exact ao (aC ae)
 ·refine ap<|aa<|aM 6 rfl rfl<|an 1<|ai (ak rfl (wc))<|an 1<|ai (ak rfl (wc))<|ai (ak rfl (Um hp hq))<|bJ<|ar<|aq<|am ?_
  rw[TK (p:=p) (q:=q) hc1]
  exact ao (aC ae)
theorem Gr {p q:Pt}(hp:GP p) (hq:GP q):Ok Tryz.prog 59 [.a (ay p),.a (ay q)] [.c (.b (cP p q==0))]:=by
 refine Ok.fn Tryz.func59 9 [.tmp 4] rfl<|aa<|ab<|ag<|aa<|ab<|al 2<|aj (ak rfl (nF hp hq))<|ag<|am ?_
 exact ao (aC ae)
theorem fJ {x y:Rat}(hx:Rz 60000 x) (hy:Rz 60000 y):Ok Tryz.prog 159 [dR x,dR y] [dR (x+y)]:=by
 refine Ok.fn Tryz.func159 8 [.cell 4 31] rfl<|aa<|ab<|al 2<|aw (ah br rfl) rfl<|aq<|aa<|ab<|al 2<|aj (ak rfl (eJ (aO hx) (aO hy)))<|ag<|am ?_
 exact ao (bb az rfl ae)
theorem dV {x y:Rat}(hx:Rz 60000 x) (hy:Rz 60000 y):Ok Tryz.prog 157 [dR x,dR y] [dR (x-y)]:=by
 refine Ok.fn Tryz.func157 8 [.cell 4 31] rfl<|aa<|ab<|al 2<|aw (ah br rfl) rfl<|aq<|aa<|ab<|al 2<|aj (ak rfl (fK (aO hx) (aO hy)))<|ag<|am ?_
 exact ao (bb az rfl ae)
theorem bZ {x y:Rat}(hx:Rz 60000 x) (hy:Rz 60000 y):Ok Tryz.prog 158 [dR x,dR y] [dR (x*y)]:=by
 refine Ok.fn Tryz.func158 8 [.cell 4 31] rfl<|aa<|ab<|al 2<|aw (ah br rfl) rfl<|aq<|aa<|ab<|al 2<|aj (ak rfl (cK (aO hx) (aO hy)))<|ag<|am ?_
 exact ao (bb az rfl ae)
theorem yX {x y:Rat}(hx:Rz 60000 x) (hy:Rz 60000 y) (h0:y≠0):Ok Tryz.prog 160 [dR x,dR y] [dR (x/y)]:=by
 refine Ok.fn Tryz.func160 14 [.cell 4 31] rfl<|aa<|ab<|al 2<|aw (ah br rfl) rfl<|aq<|aa<|ab<|al 2<|aj (ak rfl (tz hx hy h0))<|al 3<|aw (ah br rfl) rfl<|ag<|aa ?_
 refine ab<|ag<|am ?_
 exact ao (bb az rfl ae)
theorem ll {x y:Rat}(hx:Rz 60000 x) (hy:Rz 60000 y):Ok Tryz.prog 194 [dR x,dR y] [dR (x+y)]:=by
 refine Ok.fn Tryz.func194 8 [.cell 4 31] rfl<|aa<|ab<|al 2<|aw (ah br rfl) rfl<|aq<|aa<|ab<|al 2<|aj (ak rfl (eJ (aO hx) (aO hy)))<|ag<|am ?_
 exact ao (bb az rfl ae)
theorem fM {x y:Rat}(hx:Rz 60000 x) (hy:Rz 60000 y):Ok Tryz.prog 237 [dR x,dR y] [dR (x-y)]:=by
 refine Ok.fn Tryz.func237 8 [.cell 4 31] rfl<|aa<|ab<|al 2<|aw (ah br rfl) rfl<|aq<|aa<|ab<|al 2<|aj (ak rfl (fK (aO hx) (aO hy)))<|ag<|am ?_
 exact ao (bb az rfl ae)
theorem di {x y:Rat}(hx:Rz 60000 x) (hy:Rz 60000 y):Ok Tryz.prog 195 [dR x,dR y] [dR (x*y)]:=by
 refine Ok.fn Tryz.func195 8 [.cell 4 31] rfl<|aa<|ab<|al 2<|aw (ah br rfl) rfl<|aq<|aa<|ab<|al 2<|aj (ak rfl (cK (aO hx) (aO hy)))<|ag<|am ?_
 exact ao (bb az rfl ae)
theorem nd {x y:Rat}(hx:Rz 60000 x) (hy:Rz 60000 y) (h0:y≠0):Ok Tryz.prog 235 [dR x,dR y] [dR (x/y)]:=by
 refine Ok.fn Tryz.func235 14 [.cell 4 31] rfl<|aa<|ab<|al 2<|aw (ah br rfl) rfl<|aq<|aa<|ab<|al 2<|aj (ak rfl (tz hx hy h0))<|al 3<|aw (ah br rfl) rfl<|ag<|aa ?_
 refine ab<|ag<|am ?_
 exact ao (bb az rfl ae)
theorem p5 {x:Rat}(hx:Rz 60000 x):Ok Tryz.prog 107 [dR x] [dR (-x)]:=by
 refine Ok.fn Tryz.func107 5 [.cell 2 31] rfl<|aa<|ab<|al 1<|aw (ah br rfl) rfl<|aq<|aa<|ab<|al 1<|aj (ak rfl (ii (aO hx)))<|ag<|am ?_
 exact ao (bb az rfl ae)
theorem JA {v w:Rat}(hv:Rz 60000 v) (hw:Rz 60000 w):Ok Tryz.prog 360 [.a ((cR v++cR w))] [.a ((cR (-v)++cR (-w)))]:=by
 refine Ok.fn Tryz.func360 10 [.cell 2 64] rfl<|aa<|ab<|al 1<|aw (ah gB rfl) rfl<|aq<|aa<|aM 7 rfl rfl<|an 1<|ai (aA (cR v) az rfl)<|ai (ak rfl (ii (aO hv)))<|an 1<|ai (aA (cR w) az rfl)<|ai (ak rfl (ii (aO hw))) ?_
 refine ai (aD (us:=(cR (-v)++cR (-w))) mo gB rfl rfl rfl) ?_
 refine aV<|ar<|ag<|am ?_
 exact ao (bb Tx rfl ae)
theorem Gy {a1 b1 a2 b2 c:Rat}{v w:Rat}(hv:Rz 60000 v) (hw:Rz 60000 w) (ha1:Rz 60000 a1) (ha2:Rz 60000 a2):Ok Tryz.prog 359 [.a ((cR a1++cR b1++cR a2++cR b2++cR c)),.a ((cR v++cR w))] [.a ((cR (a1+v)++cR b1++cR (a2+w)++cR b2++cR c))]:=by
 refine Ok.fn Tryz.func359 22 [.cell 4 37] rfl<|aa<|ab<|al 2<|aw (ah hJ rfl) rfl<|aq<|aa<|aM 17 rfl rfl<|an 1<|ai (aA (cR a1) az rfl)<|an 1<|ai (aA (cR v) az rfl)<|ai (ak rfl (eJ (aO ha1) (aO hv)))<|an 1 ?_
 refine ai (aA (cR b1) az rfl)<|an 1<|ai (aA (cR a2) az rfl)<|an 1<|ai (aA (cR w) az rfl)<|ai (ak rfl (eJ (aO ha2) (aO hw)))<|an 1<|ai (aA (cR b2) az rfl)<|an 1<|ai (aA (cR c) az rfl)<|ai (aD (us:=(cR (a1+v)++cR b1++cR (a2+w)++cR b2++cR c)) EE hJ rfl rfl rfl) ?_
 refine aV<|ar<|ag<|am ?_
 exact ao (bb ca rfl ae)
theorem xc {a1 b1 a2 b2 c:Rat}(ha1:Rz 600 a1) (hb1:Rz 600 b1) (ha2:Rz 600 a2) (hb2:Rz 600 b2) (hc:Rz 600 c) (v1:xy b1 b2 c=true) {d e:Rat}(hd:Rz 600 d) (he:Rz 600 e):Ok Tryz.prog 326 [.a ((cR a1++cR b1++cR a2++cR b2++cR c)),.a ((cR d++cR e))] [.a ((cR (Dk (a1-d) (a2-e) b1 b2 c)++cR (DE (a1-d) (a2-e) b1 b2)++cR (zc (DE (a1-d) (a2-e) b1 b2) c)))]:=by
 have ka1:Rz 60000 a1:=ha1.m_
 have kb1:Rz 60000 b1:=hb1.m_
 have ka2:Rz 60000 a2:=ha2.m_
 have kb2:Rz 60000 b2:=hb2.m_
 have kc:Rz 60000 c:=hc.m_
 have kd:Rz 60000 d:=hd.m_
 have ke:Rz 60000 e:=he.m_
 have u1:Rz 1400 (a1-d):=(ha1.sub hd).m_
 have u2:Rz 1400 (a2-e):=(ha2.sub he).m_
 have k3:Rz 60000 (-d):=kd.neg
 have k4:Rz 60000 (-e):=ke.neg
 have nz:=R1 v1
 have x1:Rz 10000 (a1-d):=u1.m_
 have x2:Rz 10000 (a2-e):=u2.m_
 have y1:Rz 10000 b1:=hb1.m_
 have y2:Rz 10000 b2:=hb2.m_
 have hC:Rz 10000 c:=hc.m_
 have z1:Rz 10000 (zc b1 c):=Rz.zc hC (by decide)
 have z2:Rz 10000 (zc b2 c):=Rz.zc hC (by decide)
 have A1:Rz 10000 ((a1-d)*(a1-d)+b1*b1*c):=((u1.mul u1).add ((hb1.mul hb1).mul hc)).m_
 have A2:Rz 10000 ((a2-e)*(a2-e)+b2*b2*c):=((u2.mul u2).add ((hb2.mul hb2).mul hc)).m_
 have B1:Rz 10000 ((a1-d)*b1+(a1-d)*b1):=((u1.mul hb1).add (u1.mul hb1)).m_
 have B2:Rz 10000 ((a2-e)*b2+(a2-e)*b2):=((u2.mul hb2).add (u2.mul hb2)).m_
 have C1:Rz 10000 (zc ((a1-d)*b1+(a1-d)*b1) c):=Rz.zc hC (by decide)
 have C2:Rz 10000 (zc ((a2-e)*b2+(a2-e)*b2) c):=Rz.zc hC (by decide)
 have nS:((a1-d)*b1+(a1-d)*b1)+((a2-e)*b2+(a2-e)*b2)≠0→c≠0:=fun h=>by rw[I5] at h;have:=(IC v1 h).1;grind
 refine Ok.fn Tryz.func326 23 [.cell 4 67] rfl<|aa<|ab<|al 2<|aw (ah fv rfl) rfl<|aq<|aa<|aM 5 rfl rfl<|an 2<|ai (ak rfl (JA (by assumption) (by assumption)))<|ai (ak rfl (Gy (by assumption) (by assumption) (by assumption) (by assumption)))<|bh (ah hJ rfl) rfl<|aV<|bi ?_
 refine ag<|aa<|dr 13 [6,999999] bd (by kernel_rfl) rfl rfl<|an 1<|ai (ak rfl (th nI (MU _ _) rfl rfl))<|ai (ak rfl (th (zr x1 y1 z1) Sm (Sv nz.1) (QJ nz.1)))<|an 1<|ai (ak rfl (th wc (MU _ _) rfl rfl))<|ai (ak rfl (th (zr x2 y2 z2) Sm (Sv nz.2) (QJ nz.2)))<|ai (ak rfl (L5 (DT A1 B1 C1 A2 B2 C2 OK) (Q1 _ _ _ _ _) ((SL nS).trans (I5 _ _ _ _)) ((TV nS).trans (by rw[I5]))))<|an 3<|bh (ah fv rfl) rfl<|oD (iE g9 rfl) rfl rfl rfl rfl<|bJ ?_
 refine cS<|aq<|aa<|ab<|ag<|am ?_
 exact ao (bb g9 rfl ae)
theorem PZ {k:Ci}(hk:GK k) {p:Pt}(hp:GP p):Ok Tryz.prog 326 [.a (ay p),.a ((cR k.x++cR k.y))] [.a ((cR (Dk (p.a1-k.x) (p.a2-k.y) p.b1 p.b2 p.c)++cR (wS k p)++cR (zc (wS k p) p.c)))]:=xc (hp.a1.mono (by decide)) (hp.b1.mono (by decide)) (hp.a2.mono (by decide)) (hp.b2.mono (by decide)) (hp.c.mono (by decide)) hp.v (hk.x.mono (by decide)) (hk.y.mono (by decide))
theorem Rk {k:Ci}(hk:GK k) {p:Pt}(hp:GP p):Ok Tryz.prog 272 [.a (ci k),.a (ay p)] [.a ((cR (Ep k p)++cR (wS k p)++cR (zc (wS k p) p.c)))]:=by
 have s1:Rz 60000 (Dk (p.a1-k.x) (p.a2-k.y) p.b1 p.b2 p.c):=(Fh hk hp).m_
 have s2:Rz 60000 k.q:=hk.q.m_
 have s3:Rz 60000 (-k.q):=s2.neg
 refine Ok.fn Tryz.func272 16 [.cell 4 67] rfl<|aa<|ab<|al 2<|aw (ah fv rfl) rfl<|aq<|aa<|aM 11 rfl rfl<|an 2<|ai (aA (cR k.x) az rfl)<|an 1<|ai (aA (cR k.y) az rfl)<|ai (aD (us:=(cR k.x++cR k.y)) mo gB rfl rfl rfl) ?_
 refine ai (ak rfl (PZ hk hp))<|an 1<|ai (aA (cR k.q) az rfl)<|ai (ak rfl (ii (Qo)))<|ai (ak rfl (vW (by assumption) (by assumption)))<|aV<|ar<|ag<|am ?_
 exact ao (bb g9 rfl ae)
theorem RK {k:Ci}(hk:GK k) {p:Pt}(hp:GP p):Ok Tryz.prog 206 [.a (ci k),.a (ay p)] [.c (.i .i64 (mS k p))]:=by
 refine Ok.fn Tryz.func206 10 [.tmp 4] rfl<|aa<|ab<|ag<|aa<|ab<|al 2<|aj (ak rfl (Rk hk hp))<|aj (ak rfl (tO ((HU hk hp).m_) ((Iq hk hp).m_) (Rz.zc (hp.c.m_) (by decide))))<|aj (eI (r:= -s3 (Ep k p) (wS k p) (zc (wS k p) p.c)) rfl (yB (L8 _ _ _)) rfl) ?_
 refine ag<|am ?_
 exact ao (aC ae)
theorem Gu {l:Ln}(hl:GL l) {p:Pt}(hp:GP p) (hs:iD p.c=true):Ok Tryz.prog 273 [.a (eQ l),.a (ay p)] [.a ((cR (vA l p+vB l p*rt p.c)++cR 0++cR 0))]:=by
 refine Ok.fn Tryz.func273 41 [.cell 4 67] rfl<|aa<|ab<|al 2<|aw (ah fv rfl) rfl<|aq<|aa<|aM 15 rfl rfl<|an 1<|ai (aA (cR l.a) az rfl)<|an 1<|ai (aA (cR p.a1) az rfl)<|ai (ak rfl (bZ (aO (hl.a)) (aO (hp.a1))))<|an 1 ?_
 refine ai (aA (cR l.b) az rfl)<|an 1<|ai (aA (cR p.a2) az rfl)<|ai (ak rfl (bZ (aO (hl.b)) (aO (hp.a2))))<|ai (ak rfl (fJ (aO (Rz.mul (hl.a) (hp.a1))) (aO (Rz.mul (hl.b) (hp.a2)))))<|an 1<|ai (aA (cR l.c) az rfl)<|ai (ak rfl (dV (aO (Rz.add (Rz.mul (hl.a) (hp.a1)) (Rz.mul (hl.b) (hp.a2)))) (aO (hl.c))))<|bh (ah br rfl) rfl<|aV<|bi<|ag<|aa<|dr 21 [6,999999] bd (by kernel_rfl) rfl rfl ?_
 refine an 2<|ai (aA (cR l.a) az rfl)<|an 1<|ai (aA (cR p.b1) az rfl)<|ai (ak rfl (bZ (aO (hl.a)) (aO (hp.b1))))<|an 1<|ai (aA (cR l.b) az rfl)<|an 1<|ai (aA (cR p.b2) az rfl)<|ai (ak rfl (bZ (aO (hl.b)) (aO (hp.b2))))<|ai (ak rfl (fJ (aO (Rz.mul (hl.a) (hp.b1))) (aO (Rz.mul (hl.b) (hp.b2)))))<|an 1<|ai (aA (cR p.c) az rfl)<|ai (ak rfl (A3 ((FY hl hp).m_) ((H8 hl hp).m_) (hp.c.m_) (fun h=>absurd h (Rat.not_lt.2 (HO hp.v))) hs)) ?_
 refine an 3<|bh (ah fv rfl) rfl<|oD (iE g9 rfl) rfl rfl rfl rfl<|bJ<|cS<|aq<|aa<|ab<|ag<|am ?_
 exact ao (bb g9 rfl ae)
theorem Fx {l:Ln}(hl:GL l) {p:Pt}(hp:GP p) (hs:iD p.c=false):Ok Tryz.prog 273 [.a (eQ l),.a (ay p)] [.a ((cR (vA l p)++cR (rB (vB l p) p.c)++cR (rC (vB l p) p.c)))]:=by
 refine Ok.fn Tryz.func273 41 [.cell 4 67] rfl<|aa<|ab<|al 2<|aw (ah fv rfl) rfl<|aq<|aa<|aM 15 rfl rfl<|an 1<|ai (aA (cR l.a) az rfl)<|an 1<|ai (aA (cR p.a1) az rfl)<|ai (ak rfl (bZ (aO (hl.a)) (aO (hp.a1))))<|an 1 ?_
 refine ai (aA (cR l.b) az rfl)<|an 1<|ai (aA (cR p.a2) az rfl)<|ai (ak rfl (bZ (aO (hl.b)) (aO (hp.a2))))<|ai (ak rfl (fJ (aO (Rz.mul (hl.a) (hp.a1))) (aO (Rz.mul (hl.b) (hp.a2)))))<|an 1<|ai (aA (cR l.c) az rfl)<|ai (ak rfl (dV (aO (Rz.add (Rz.mul (hl.a) (hp.a1)) (Rz.mul (hl.b) (hp.a2)))) (aO (hl.c))))<|bh (ah br rfl) rfl<|aV<|bi<|ag<|aa<|dr 21 [6,999999] bd (by kernel_rfl) rfl rfl ?_
 refine an 2<|ai (aA (cR l.a) az rfl)<|an 1<|ai (aA (cR p.b1) az rfl)<|ai (ak rfl (bZ (aO (hl.a)) (aO (hp.b1))))<|an 1<|ai (aA (cR l.b) az rfl)<|an 1<|ai (aA (cR p.b2) az rfl)<|ai (ak rfl (bZ (aO (hl.b)) (aO (hp.b2))))<|ai (ak rfl (fJ (aO (Rz.mul (hl.a) (hp.b1))) (aO (Rz.mul (hl.b) (hp.b2)))))<|an 1<|ai (aA (cR p.c) az rfl)<|ai (ak rfl (A9 ((FY hl hp).m_) ((H8 hl hp).m_) (hp.c.m_) (fun h=>absurd h (Rat.not_lt.2 (HO hp.v))) hs)) ?_
 refine an 3<|bh (ah fv rfl) rfl<|oD (iE g9 rfl) rfl rfl rfl rfl<|bJ<|cS<|aq<|aa<|ab<|ag<|am ?_
 exact ao (bb g9 rfl ae)
theorem Qn {l:Ln}(hl:GL l) {p:Pt}(hp:GP p):Ok Tryz.prog 273 [.a (eQ l),.a (ay p)] [.a ((cR (vA l p)++cR (rB (vB l p) p.c)++cR (rC (vB l p) p.c)))]:=by
 cases hs:iD p.c with
 |true=>obtain⟨e1,e2,e3⟩:=Oq (l:=l) hp.v hs;exact th (Gu hl hp hs) e1 e2 e3
 |false=>exact Fx hl hp hs
theorem NG {l:Ln}(hl:GL l) {p:Pt}(hp:GP p):Ok Tryz.prog 207 [.a (eQ l),.a (ay p)] [.c (.i .i64 (sB l p))]:=by
 refine Ok.fn Tryz.func207 9 [.tmp 4] rfl<|aa<|ab<|ag<|aa<|ab<|al 2<|aj (ak rfl (Qn hl hp))<|aj (ak rfl (tO ((FY hl hp).m_) (Rv ((H8 hl hp).m_) (by decide)) (P9 (hp.c.m_) (by decide))))<|ag<|am ?_
 exact ao (aC ae)
theorem M6 {k:Ci}(hk:GK k) {p:Pt}(hp:GP p):Ok Tryz.prog 306 [.a (ci k),.a (ay p)] [.c (.b (jf k p))]:=by
 refine Ok.fn Tryz.func306 25 [.tmp 4] rfl<|aa<|ab<|ag<|aa<|aM 6 rfl rfl<|an 1<|ai (ak rfl (wc))<|an 1<|ai (aA (cR k.y) az rfl)<|ai (ak rfl (SS hp (hk.y.m_)))<|bJ<|ar<|aq ?_
 refine aa<|aM 15 rfl rfl<|an 2 ?_
 refine gJ (bO rfl) (fun c1 hb1=>?_)
 cases c1
 ·refine an 2 ?_
  refine gJ (bO rfl) (fun c2 hb2=>?_)
  cases c2
  ·refine bJ<|ar<|aq<|am ?_
   rw[H4 (k:=k) (p:=p) hb1 hb2]
   exact ao (aC ae)
  ·refine an 1<|ai (ak rfl (nI))<|an 1<|ai (aA (cR k.x) az rfl)<|ai (ak rfl (Tj hp (hk.x.m_)))<|bJ<|ar<|aq<|am ?_
   rw[Bv (k:=k) (p:=p) hb1 hb2]
   exact ao (aC ae)
 ·refine bJ<|ar<|aq<|am ?_
  rw[Nz (k:=k) (p:=p) hb1]
  exact ao (aC ae)
theorem Fn {k:Ci}(hk:GK k) {p q:Pt}(hp:GP p) (hq:GP q):Ok Tryz.prog 239 [.a (ci k),.a (ay p),.a (ay q)] [.c (.i .i64 (eC k p q))]:=by
 refine Ok.fn Tryz.func239 29 [.tmp 6] rfl<|aa<|ab<|ag<|aa<|aM 8 rfl rfl<|an 2<|ai (ak rfl (M6 hk hp))<|an 2<|ai (ak rfl (M6 hk hq))<|bJ<|ar<|aq<|aa ?_
 refine aa<|ab<|al 2<|aj (dH rfl rfl d9 rfl) ?_
 refine aq ?_
 refine au rfl (fun hc1=>?_) (fun hc1=>?_)
 ·refine aa<|aa<|ab<|ag ?_
  refine au rfl (fun hc2=>?_) (fun hc2=>?_)
  ·refine aa<|ab<|ag<|am ?_
   rw[Kz (k:=k) (p:=p) (q:=q) hc1 hc2]
   exact ao (aC ae)
  ·refine ap<|aa<|ab<|ag<|am ?_
   rw[Gt (k:=k) (p:=p) (q:=q) hc1 hc2]
   exact ao (aC ae)
 ·refine ap<|aa<|aM 6 rfl rfl<|an 1<|ai (ak rfl (nI))<|an 1<|ai (ak rfl (nI))<|ai (ak rfl (SQ hp hq))<|bJ<|ar<|aq<|aa<|aa<|ab ?_
  refine ag ?_
  refine au rfl (fun hc3=>?_) (fun hc3=>?_)
  ·refine aa<|ab<|al 1<|aj (eI (r:= -cx p q) rfl (yB (rn p q)) rfl) ?_
   refine ag<|am ?_
   rw[G7 (k:=k) (p:=p) (q:=q) hc1 hc3]
   exact ao (aC ae)
  ·refine ap<|aa<|ab<|ag<|am ?_
   rw[FF (k:=k) (p:=p) (q:=q) hc1 hc3]
   exact ao (aC ae)
theorem Ns {k:Ci}(hk:GK k) {f p q:Pt}(hf:GP f) (hp:GP p) (hq:GP q):Ok Tryz.prog 154 [.a (ci k),.a (ay f),.a (ay p),.a (ay q)] [.c (.i .i64 (vX k f p q))]:=by
 refine Ok.fn Tryz.func154 29 [.tmp 8] rfl<|aa<|ab<|ag<|aa<|aM 12 rfl rfl<|an 3<|ai (ak rfl (Fn hk hp hf))<|an 4<|ai (ak rfl (Fn hk hq hf))<|bJ<|ar<|aq<|aa ?_
 refine aa<|ab<|al 2<|aj (dH rfl rfl d9 rfl) ?_
 refine aq ?_
 refine au rfl (fun hc1=>?_) (fun hc1=>?_)
 ·refine aa<|aa<|ab<|ag ?_
  refine au rfl (fun hc2=>?_) (fun hc2=>?_)
  ·refine aa<|ab<|ag<|am ?_
   rw[RQ (k:=k) (f:=f) (p:=p) (q:=q) hc1 hc2]
   exact ao (aC ae)
  ·refine ap<|aa<|ab<|ag<|am ?_
   rw[PA (k:=k) (f:=f) (p:=p) (q:=q) hc1 hc2]
   exact ao (aC ae)
 ·refine ap<|aa<|ab<|al 3<|aj (ak rfl (Fn hk hp hq))<|ag<|am ?_
  rw[PS (k:=k) (f:=f) (p:=p) (q:=q) hc1]
  exact ao (aC ae)
theorem xm {p:Pt}(hp:GP p):Ok Tryz.prog 156 [.a (ay p)] [.a (ay p.flip)]:=by
 refine Ok.fn Tryz.func156 12 [.cell 2 37] rfl<|aa<|ab<|al 1<|aw (ah hJ rfl) rfl<|aq<|aa<|aM 7 rfl rfl<|an 1<|ai (aA (cR p.a1) az rfl)<|ai (ak rfl (ii (hp.a1.m_)))<|an 1<|ai (aA (cR p.b1) az rfl)<|ai (ak rfl (ii (hp.b1.m_))) ?_
 refine bJ<|ar<|dm (bm (us:=(cR (-p.a1)++cR p.b1++cR p.a2++cR p.b2++cR p.c)) az rfl rfl rfl rfl (Nat.le_of_ble_eq_true rfl) rfl rfl) ?_
 refine al 1<|dm (bm (us:=(cR (-p.a1)++cR (-p.b1)++cR p.a2++cR p.b2++cR p.c)) az rfl rfl rfl rfl (Nat.le_of_ble_eq_true rfl) rfl rfl) ?_
 refine aq<|aa<|ab<|ag<|am ?_
 exact ao (bb ca rfl ae)
theorem QC {k:Ci}(hk:GK k) {w:Bool}{f t:Pt}(hf:GP f) (ht:GP t):Ok Tryz.prog 155 [.a (([.b true]++dN++ci k++[.b w]++ay f++ay t))] [.a (([.b true]++dN++ci k.mir++[.b (!w)]++ay f.flip++ay t.flip))]:=by
 refine Ok.fn Tryz.func155 22 [.cell 2 39] rfl<|aa<|ab<|al 1<|aw (ah gz rfl) rfl<|aq<|aa<|ab<|al 2<|aj (dO (cR k.x) az rfl (by kernel_rfl))<|aj (ak rfl (ii (hk.x.m_)))<|al 2<|dm (bm (us:=([.b true]++dN++(cR k.mir.x++cR k.y++cR k.q)++[.b w]++ay f++ay t)) az rfl rfl rfl rfl (Nat.le_of_ble_eq_true (by kernel_rfl)) (by kernel_rfl) rfl) ?_
 refine aq<|aa<|dr 13 [1,999999] bd (by kernel_rfl) rfl rfl<|an 1<|EV (by kernel_rfl) (dO (ay f) ca rfl (by kernel_rfl))<|ai (ak rfl (xm hf))<|an 1<|EV (by kernel_rfl) (dO (ay t) ca rfl (by kernel_rfl))<|ai (ak rfl (xm ht))<|an 1<|EV (by kernel_rfl) (SZ ET rfl)<|an 2<|gV (bm (us:=([.b true]++dN++(cR k.mir.x++cR k.y++cR k.q)++[.b w]++ay f.flip++ay t)) ca rfl rfl rfl rfl (Nat.le_of_ble_eq_true (by kernel_rfl)) (by kernel_rfl) rfl) rfl rfl rfl rfl ?_
 refine an 1<|C0 (bm (us:=([.b true]++dN++(cR k.mir.x++cR k.y++cR k.q)++[.b w]++ay f.flip++ay t.flip)) ca rfl rfl rfl rfl (Nat.le_of_ble_eq_true (by kernel_rfl)) (by kernel_rfl) rfl) rfl rfl (by kernel_rfl) rfl ?_
 refine aV<|cS<|al 1<|dm (bm (us:=([.b true]++dN++(cR k.mir.x++cR k.y++cR k.q)++[.b (!w)]++ay f.flip++ay t.flip)) ET rfl rfl rfl rfl (Nat.le_of_ble_eq_true (by kernel_rfl)) (by kernel_rfl) rfl) ?_
 refine aq<|aa<|ab<|ag<|am ?_
 exact ao (eG (us:=([.b true]++dN++(cR k.mir.x++cR k.y++cR k.q)++[.b (!w)]++ay f.flip++ay t.flip)) dF rfl rfl (by kernel_rfl) (by kernel_rfl) ae)
theorem Bt {l:Ln}(_hl:GL l) {f t:Pt}(hf:GP f) (ht:GP t) {p q:Pt}(hp:GP p) (hq:GP q):Ok Tryz.prog 77 [.a (([.b false]++eQ l++dN++[.b false]++ay f++ay t)),.a (ay p),.a (ay q)] [.c (.i .i64 ((Cv.seg l f t).ord p q))]:=by
 refine Ok.fn Tryz.func77 45 [.tmp 6] rfl<|aa<|ab<|ag<|aa<|aa<|ab<|ag<|bo rfl<|aa<|ab<|al 2<|aj (ak rfl (nF hp hq))<|ag ?_
 refine aa<|aa<|ab<|al 1<|aj (dO (ay f) ca rfl (by kernel_rfl))<|al 1<|aj (dO (ay t) ca rfl (by kernel_rfl))<|aj (ak rfl (nF hf ht))<|ag ?_
 refine au rfl (fun hc1=>?_) (fun hc1=>?_)
 ·--region 4
  refine ab<|al 1<|aj (eI (r:= -cP p q) rfl (yB (RM p q)) rfl) ?_
  refine ag<|aa<|ab<|ag<|am ?_
  rw[NO (l:=l) (f:=f) (t:=t) (p:=p) (q:=q) hc1]
  exact ao (aC ae)
 ·refine ap<|aa<|ab<|ag<|am ?_
  rw[NI (l:=l) (f:=f) (t:=t) (p:=p) (q:=q) hc1]
  exact ao (aC ae)
theorem Ba {k:Ci}(hk:GK k) {w:Bool}{f t:Pt}(hf:GP f) (ht:GP t) {p q:Pt}(hp:GP p) (hq:GP q):Ok Tryz.prog 77 [.a (([.b true]++dN++ci k++[.b w]++ay f++ay t)),.a (ay p),.a (ay q)] [.c (.i .i64 ((Cv.arc k w f t).ord p q))]:=by
 refine Ok.fn Tryz.func77 45 [.tmp 6] rfl<|aa<|ab<|ag<|aa<|aa<|ab<|ag<|ba rfl<|ap<|aa<|aa<|ab<|ag ?_
 refine au rfl (fun hc1=>?_) (fun hc1=>?_)
 ·refine aa<|ab<|al 1<|aj (dO (ci k) ou rfl (by kernel_rfl))<|al 1<|aj (dO (ay f) ca rfl (by kernel_rfl))<|al 2<|aj (ak rfl (Ns hk hf hp hq))<|ag<|am ?_
  rw[NW (k:=k) (w:=w) (f:=f) (t:=t) (p:=p) (q:=q) hc1]
  exact ao (aC ae)
 ·refine ap<|aa<|ab<|al 1<|aj (ak rfl (QC hk hf ht))<|aw (ah gz rfl) rfl<|ag<|aa<|aM 10 rfl rfl<|an 1<|ai (dO (ci k.mir) ou rfl (by kernel_rfl))<|an 1<|ai (dO (ay f.flip) ca rfl (by kernel_rfl))<|an 1 ?_
  refine ai (ak rfl (xm hp))<|an 1<|ai (ak rfl (xm hq))<|ai (ak rfl (Ns (GK.mir hk) (GP.flip hf) (GP.flip hp) (GP.flip hq)))<|bJ<|ar<|aq<|am ?_
  rw[Pb (k:=k) (w:=w) (f:=f) (t:=t) (p:=p) (q:=q) hc1]
  exact ao (aC ae)
theorem Py {l:Ln}(hl:GL l) {f t:Pt}(_hf:GP f) (_ht:GP t) {p:Pt}(hp:GP p):Ok Tryz.prog 118 [.a (([.b false]++eQ l++dN++[.b false]++ay f++ay t)),.a (ay p)] [.c (.b ((Cv.seg l f t).supp p))]:=by
 refine Ok.fn Tryz.func118 17 [.tmp 4] rfl<|aa<|ab<|ag<|aa<|aa<|ab<|ag<|ba rfl<|ap<|aa<|ab<|al 1<|aj (dO (eQ l) tx rfl (by kernel_rfl)) ?_
 refine al 1<|aj (ak rfl (NG hl hp))<|ag<|am ?_
 exact ao (aC ae)
theorem O9 {k:Ci}(hk:GK k) {w:Bool}{f t:Pt}(_hf:GP f) (_ht:GP t) {p:Pt}(hp:GP p):Ok Tryz.prog 118 [.a (([.b true]++dN++ci k++[.b w]++ay f++ay t)),.a (ay p)] [.c (.b ((Cv.arc k w f t).supp p))]:=by
 refine Ok.fn Tryz.func118 17 [.tmp 4] rfl<|aa<|ab<|ag<|aa<|aa<|ab<|ag<|bo rfl<|aa<|ab<|al 1<|aj (dO (ci k) ou rfl (by kernel_rfl))<|al 1 ?_
 refine aj (ak rfl (RK hk hp))<|ag<|am ?_
 exact ao (aC ae)
theorem Qs {l:Ln}(hl:GL l) {f t:Pt}(hf:GP f) (ht:GP t) {p:Pt}(hp:GP p):Ok Tryz.prog 75 [.a (([.b false]++eQ l++dN++[.b false]++ay f++ay t)),.a (ay p)] [.c (.b ((Cv.seg l f t).on p))]:=by
 refine Ok.fn Tryz.func75 24 [.tmp 4] rfl<|aa<|ab<|ag<|aa<|ab<|al 2<|aj (ak rfl (Py hl hf ht hp)) ?_
 refine cm (bO rfl) (fun c1 hb1=>?_)
 cases c1
 ·refine ag<|am ?_
  rw[N3 (c:=(Cv.seg l f t)) (p:=p) hb1]
  exact ao (aC ae)
 ·refine al 2<|aj (dO (ay f) ca rfl (by kernel_rfl))<|al 1<|aj (ak rfl (Bt hl hf ht hf hp))<|al 2 ?_
  refine cm (bO rfl) (fun c2 hb2=>?_)
  cases c2
  ·refine ag<|am ?_
   rw[Nh (c:=(Cv.seg l f t)) (p:=p) hb1 hb2]
   exact ao (aC ae)
  ·refine al 3<|aj (dO (ay t) ca rfl (by kernel_rfl))<|aj (ak rfl (Bt hl hf ht hp ht))<|ag<|am ?_
   rw[Mv (c:=(Cv.seg l f t)) (p:=p) hb1 hb2]
   exact ao (aC ae)
theorem M8 {k:Ci}(hk:GK k) {w:Bool}{f t:Pt}(hf:GP f) (ht:GP t) {p:Pt}(hp:GP p):Ok Tryz.prog 75 [.a (([.b true]++dN++ci k++[.b w]++ay f++ay t)),.a (ay p)] [.c (.b ((Cv.arc k w f t).on p))]:=by
 refine Ok.fn Tryz.func75 24 [.tmp 4] rfl<|aa<|ab<|ag<|aa<|ab<|al 2<|aj (ak rfl (O9 hk hf ht hp)) ?_
 refine cm (bO rfl) (fun c1 hb1=>?_)
 cases c1
 ·refine ag<|am ?_
  rw[N3 (c:=(Cv.arc k w f t)) (p:=p) hb1]
  exact ao (aC ae)
 ·refine al 2<|aj (dO (ay f) ca rfl (by kernel_rfl))<|al 1<|aj (ak rfl (Ba hk hf ht hf hp))<|al 2 ?_
  refine cm (bO rfl) (fun c2 hb2=>?_)
  cases c2
  ·refine ag<|am ?_
   rw[Nh (c:=(Cv.arc k w f t)) (p:=p) hb1 hb2]
   exact ao (aC ae)
  ·refine al 3<|aj (dO (ay t) ca rfl (by kernel_rfl))<|aj (ak rfl (Ba hk hf ht hp ht))<|ag<|am ?_
   rw[Mv (c:=(Cv.arc k w f t)) (p:=p) hb1 hb2]
   exact ao (aC ae)
theorem Iy {l:Ln}(_hl:GL l) {f t:Pt}(_hf:GP f) (_ht:GP t):Ok Tryz.prog 8 [.a (([.b false]++eQ l++dN++[.b false]++ay f++ay t))] [.a (([.b false]++eQ l++dN++[.b false]++ay t++ay f))]:=by
 refine Ok.fn Tryz.func8 18 [.cell 2 39] rfl<|aa<|ab<|al 1<|aw (ah gz rfl) rfl<|aq<|aa<|ab<|al 1<|aj (dO (ay t) ca rfl (by kernel_rfl))<|al 1<|aj (dO (ay f) ca rfl (by kernel_rfl))<|al 1<|dm (bm (us:=([.b false]++eQ l++dN++[.b false]++ay t++ay t)) ca rfl rfl rfl rfl (Nat.le_of_ble_eq_true (by kernel_rfl)) (by kernel_rfl) rfl) ?_
 refine al 1<|dm (bm (us:=([.b false]++eQ l++dN++[.b false]++ay t++ay f)) ca rfl rfl rfl rfl (Nat.le_of_ble_eq_true (by kernel_rfl)) (by kernel_rfl) rfl) ?_
 refine aq<|aa<|ab<|al 8<|dm (bm (us:=([.b false]++eQ l++dN++[.b false]++ay t++ay f)) ET rfl rfl rfl rfl (Nat.le_of_ble_eq_true (by kernel_rfl)) (by kernel_rfl) rfl) ?_
 refine aq<|aa<|ab<|ag<|am ?_
 exact ao (eG (us:=([.b false]++eQ l++dN++[.b false]++ay t++ay f)) dF rfl rfl (by kernel_rfl) (by kernel_rfl) ae)
theorem IG {k:Ci}(_hk:GK k) {w:Bool}{f t:Pt}(_hf:GP f) (_ht:GP t):Ok Tryz.prog 8 [.a (([.b true]++dN++ci k++[.b w]++ay f++ay t))] [.a (([.b true]++dN++ci k++[.b (!w)]++ay t++ay f))]:=by
 refine Ok.fn Tryz.func8 18 [.cell 2 39] rfl<|aa<|ab<|al 1<|aw (ah gz rfl) rfl<|aq<|aa<|ab<|al 1<|aj (dO (ay t) ca rfl (by kernel_rfl))<|al 1<|aj (dO (ay f) ca rfl (by kernel_rfl))<|al 1<|dm (bm (us:=([.b true]++dN++ci k++[.b w]++ay t++ay t)) ca rfl rfl rfl rfl (Nat.le_of_ble_eq_true (by kernel_rfl)) (by kernel_rfl) rfl) ?_
 refine al 1<|dm (bm (us:=([.b true]++dN++ci k++[.b w]++ay t++ay f)) ca rfl rfl rfl rfl (Nat.le_of_ble_eq_true (by kernel_rfl)) (by kernel_rfl) rfl) ?_
 refine aq<|aa<|ab<|al 8<|dm (bm (us:=([.b true]++dN++ci k++[.b (!w)]++ay t++ay f)) ET rfl rfl rfl rfl (Nat.le_of_ble_eq_true (by kernel_rfl)) (by kernel_rfl) rfl) ?_
 refine aq<|aa<|ab<|ag<|am ?_
 exact ao (eG (us:=([.b true]++dN++ci k++[.b (!w)]++ay t++ay f)) dF rfl rfl (by kernel_rfl) (by kernel_rfl) ae)
section
variable {a b c:Rat}
end
theorem qA {a b c d e f:Rat}(ha:Rz 20000 a) (hb:Rz 1600 b) (hc:Rz 1600 c) (hd:Rz 20000 d) (he:Rz 1600 e) (hf:Rz 1600 f) (h1:Rz 1600 (a-d)) (c0:0≤c) (f0:0≤f):
 Ok Tryz.prog 90 [.a (cR a++cR b++cR c),.a (cR d++cR e++cR f)] [.c (.i .i64 (iH (a-d) b (-e) 0 c f))]:=tS (tW ha hb hc hd he hf h1) ((Cm c0 f0).trans (qE c0 f0).symm)
section
variable {P:Program}{f:FuncId}{ds rs:List D0}{x y z x' y' z':Rat}
end
section
variable {a b c:Rat}
end
end Go.Proofs.YtacopbfkmnpfgaaGreat
