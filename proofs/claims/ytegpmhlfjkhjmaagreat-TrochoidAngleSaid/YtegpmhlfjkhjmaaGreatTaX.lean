/-Plain:whether an arc spans at most an angle depends on the values of its ends alone;lists of such arcs. -/
import Derived.Test.YtegpmhlfjkhjmaaGreatTaW
namespace Go.Proofs.YtegpmhlfjkhjmaaGreat
open Go Go.RowKit
variable {al:Bool}{D k:Ci}{R a a1 a2 b dx dy r s:Int}{us:List CellD}{L:List Ci}{G P:List Cv}{i j n:Nat}{f p q t z:Pt}{c x:Rat}
section
variable {k:Ci}{p q p' q':Pt}(hp:0≤p.c) (hq:0≤q.c) (m:Rat)
include hp hq
theorem Xo:Nj k p q=aB ((pX p-Re.of k.x)*(pY q-Re.of k.y)-(pY p-Re.of k.y)*(pX q-Re.of k.x)):=by
 unfold Nj
 rw[np hp hq]
 exact congrArg aB (aM fun n=>by simp only[jM,az,pX,pY,oZ,crA,Yf,XY,crD,aD,aj,aE,aK];grind)
theorem W6:Il k p q m=aB ((pX p-Re.of k.x)*(pX q-Re.of k.x)+(pY p-Re.of k.y)*(pY q-Re.of k.y)-Re.of m):=by
 unfold Il
 rw[np hp hq]
 exact congrArg aB (aM fun n=>by simp only[jM,az,pX,pY,oZ,X8,Zt,YH,dtD,aD,aj,aE,aK];grind)
variable (hp':0≤p'.c) (hq':0≤q'.c) (h:cP p p'=0) (g:cP q q'=0)
include hp' hq' h g
end
def vh (x:Rat) (c:Cv):Bool:=Vb c x !=0||decide (UD c x>0)
def Gs (al:Bool) (x:Rat) (G:List Cv):Bool:= !(al|| !j6 x)&&G.all fun c=> !vh x c
theorem WN (hn:n<G.length) (h:vh x (G.getD n bY)=true):Gs al x G=false:=by
 unfold Gs
 rw[show(G.all fun c=> !vh x c)=false from ?_,mX]
 rw[List.all_eq_false]
 exact⟨_,bX hn,by rw[h];decide⟩
theorem Xt (hc:j6 x=true) (h: ∀i,i<G.length→vh x (G.getD i bY)=false):Gs false x G=true:=by
 unfold Gs
 rw[hc,show(G.all fun c=> !vh x c)=true from ?_]
 ·rfl
 rw[jV]
 intro c hc
 obtain⟨i,hi,e⟩:=List.getElem_of_mem hc
 have:=h i hi
 rw[List.getD_eq_getElem?_getD,gE hi,e] at this
 rw[show vh x c=false from this];rfl
theorem Km (h:(al|| !j6 x)=true):Gs al x G=false:=by unfold Gs;rw[h];rfl
theorem iy (x y:Re):aB (x-y)= -aB (y-x):=by rw[←bG];exact congrArg aB (aM fun n=>by simp only[aj,aV];grind)
theorem Vr (hs:s=1∨s= -1) {x y z:Re}(h:s*aB (x-y)=1) (g:s*aB (y-z)=1):s*aB (x-z)=1:=by
 rcases hs with rfl|rfl
 ·rw[show x-z=(x-y)+(y-z) from aM fun n=>by simp only[aj,aD];grind,ms (by omega) (by omega)];rfl
 ·rw[iy,show z-x=(y-x)+(z-y) from aM fun n=>by simp only[aj,aD];grind,ms (by rw[iy];omega) (by rw[iy];omega)];rfl
theorem WX (hk:RK k) (hD:RK D) (op:OnR k p) (oq:OnR k q) (hs:s=1∨s= -1) (u1:0≤s*aB (rY k p)) (u2:0≤s*aB (rY k q)) (hx:s*aB (rX k p-rX k q)=1) (h:dE D p*dE D q= -1):
 ∃z∈iZ k D,OnK k z∧s*aB (rX k p-rX k z)=1∧s*aB (rX k z-rX k q)=1∧aB (rY k z)=s:=by
 rcases hs with rfl|rfl
 ·obtain⟨z,hz,oz,a,b,c⟩:=Lh hk hD oq op (.inl rfl) u2 u1 (by omega) (by rw[rA];exact h)
  exact⟨z,hz,oz,by omega,by omega,c⟩
 ·obtain⟨z,hz,oz,a,b,c⟩:=Lh hk hD op oq (.inr rfl) u1 u2 (by rw[iy];omega) h
  exact⟨z,hz,oz,by rw[iy];omega,by rw[iy];omega,c⟩
def NK (k:Ci) (p q z:Pt):Re:=(rX k q-rX k p)*(rY k z-rY k p)-(rY k q-rY k p)*(rX k z-rX k p)
theorem LB (op:OnR k p) (oq:OnR k q) (oz:OnR k z) (hs:s=1∨s= -1) (u1:0≤s*aB (rY k p)) (u2:0≤s*aB (rY k q)) (hx:s*aB (rX k p-rX k q)=1) (h:aB (NK k p q z)= -1):
 s*aB (rX k p-rX k z)=1∧s*aB (rX k z-rX k q)=1∧aB (rY k z)=s:=by
 rcases hs with rfl|rfl
 ·obtain⟨a,b,c⟩:=rE oq.n op.n oz.n (by omega) (by omega) (by omega) (by
   rw[show(rX k p-rX k q)*(rY k z-rY k q)-(rY k p-rY k q)*(rX k z-rX k q)= -NK k p q z from aM fun n=>by simp only[NK,aj,aE,aV];grind,bG,h];rfl)
  exact⟨by omega,by omega,c⟩
 ·have ng: ∀ {x:Pt},OnR k x→aB (rX k x*rX k x+ -rY k x* -rY k x-Re.of k.q)=0:=fun{x} ox=>by
   rw[show rX k x*rX k x+ -rY k x* -rY k x-Re.of k.q=rX k x*rX k x+rY k x*rY k x-Re.of k.q from aM fun n=>by simp only[aD,aj,aE,aV];grind];exact ox.n
  obtain⟨a,b,c⟩:=rE (ng op) (ng oq) (ng oz) (by rw[bG];omega) (by rw[bG];omega) (by rw[iy];omega) (by
   rw[show(rX k q-rX k p)*(-rY k z- -rY k p)-(-rY k q- -rY k p)*(rX k z-rX k p)= -NK k p q z from aM fun n=>by simp only[NK,aj,aE,aV];grind,bG,h];rfl)
  rw[bG] at c
  exact⟨by rw[iy];omega,by rw[iy];omega,by omega⟩
structure Pce (k:Ci) (L:List Ci) (a m b:Pt) (s:Int):Prop where
 hs:s=1∨s= -1
 oa:OnK k a
 ob:OnK k b
 om:OnR k m
 ya:0≤s*aB (rY k a)
 yb:0≤s*aB (rY k b)
 ym:0≤s*aB (rY k m)
 xa:s*aB (rX k a-rX k m)=1
 xb:s*aB (rX k m-rX k b)=1
 cut: ∀D∈L,∀z∈iZ k D,OnK k z→s*aB (rX k a-rX k z)=1→s*aB (rX k z-rX k b)=1→aB (rY k z)=s→False
section
variable {k D:Ci}{L:List Ci}{a m b:Pt}{s:Int}(Pz:Pce k L a m b s) (hk:RK k) (hD:RK D) (hL:D∈L)
include Pz hk hD hL
theorem Pce.ends:dE D a*dE D m≠ -1∧dE D m*dE D b≠ -1:=by
 refine⟨fun h=>?_,fun h=>?_⟩
 ·obtain⟨z,hz,oz,x1,x2,y⟩:=WX hk hD Pz.oa.r Pz.om Pz.hs Pz.ya Pz.ym Pz.xa h
  exact Pz.cut D hL z hz oz x1 (Vr Pz.hs x2 Pz.xb) y
 ·obtain⟨z,hz,oz,x1,x2,y⟩:=WX hk hD Pz.om Pz.ob.r Pz.hs Pz.ym Pz.yb Pz.xb h
  exact Pz.cut D hL z hz oz (Vr Pz.hs Pz.xa x1) x2 y
theorem Pce.out (h:dE D m<0):dE D a≤0∧dE D b≤0:=by
 obtain⟨e1,e2⟩:=Pz.ends hk hD hL
 have:=nr D m
 have:=nr D a
 have:=nr D b
 rw[show dE D m= -1 by omega] at e1 e2
 omega
theorem Pce.inn (h:0<dE D m):0≤dE D a∧0≤dE D b:=by
 obtain⟨e1,e2⟩:=Pz.ends hk hD hL
 have:=nr D m
 have:=nr D a
 have:=nr D b
 rw[show dE D m=1 by omega] at e1 e2
 omega
end
theorem CV (op:OnR k p):aB (fA k D p*fA k D p+fB k D p*fB k D p-(Re.of (uX k D)*Re.of (uX k D)+Re.of (uY k D)*Re.of (uY k D))*Re.of k.q)=0:=aaW _ _ _ _ op.n
theorem MV {x:Re}(h:0≤aB (x+x)):0≤aB x:=by rw[jL] at h;exact h
theorem Qa (op:OnR k p) (h:dE D p≤0):0≤aB (fA k D p+fA k D p-Re.of (kK k D)):=by
 rw[yd op,iy] at h;omega
theorem KW (op:OnR k p) (hK:0≤kK k D) (h:dE D p≤0):0≤aB (fA k D p):=by
 have h1:=Qa op h
 have h2:0≤aB (Re.of (kK k D)):=by rw[bQ];exact gG hK
 refine MV ?_
 rw[show fA k D p+fA k D p=(fA k D p+fA k D p-Re.of (kK k D))+Re.of (kK k D) from aM fun n=>by simp only[aj,aD];grind]
 exact fP h1 h2
theorem Qf (op:OnR k p) (hK:0≤kK k D) (h:dE D p<0):aB (fA k D p)=1:=by
 have h2:0≤aB (Re.of (kK k D)):=by rw[bQ];exact gG hK
 have h1:aB (fA k D p+fA k D p-Re.of (kK k D))=1:=by
  have e:=yd (D:=D) op
  have:=nr D p
  rw[iy];omega
 have h3:=ms h1 h2
 rw[show fA k D p+fA k D p-Re.of (kK k D)+Re.of (kK k D)=fA k D p+fA k D p from aM fun n=>by simp only[aj,aD];grind,jL] at h3
 exact h3
section
variable {k D:Ci}{L:List Ci}{a m b:Pt}{s:Int}(Pz:Pce k L a m b s) (q0:0<k.q)
include Pz q0
theorem Pce.ym1:s*aB (rY k m)=1:=by
 have hs:=Pz.hs
 have hy:=Pz.ym
 have c:=bg (rY k m)
 suffices h:aB (rY k m)≠0 by rcases hs with rfl|rfl<;>omega
 intro e
 have q1:aB (Re.of k.q)=1:=by rw[bQ];exact n8 q0
 have n:aB (rX k m*rX k m-Re.of k.q)=0:=by
  rw[dm (y:=rX k m*rX k m+rY k m*rY k m-Re.of k.q) (z:= -(rY k m*rY k m)) (aM fun n=>by simp only[aD,aj,aE,aV];grind) (my (dA _ e))];exact Pz.om.n
 have le: ∀ {x:Pt},OnK k x→0≤aB (Re.of k.q-rX k x*rX k x):=fun{x} ox=>by
  rw[dm (y:=rY k x*rY k x) (z:= -(rX k x*rX k x+rY k x*rY k x-Re.of k.q)) (aM fun n=>by simp only[aD,aj,aE,aV];grind) (my (aa7 ox))];exact DE _
 have fb: ∀ {x:Pt},OnK k x→aB ((rX k x-rX k m)*rX k m)=1→False:=fun{x} ox h=>by
  have h1:=DE (rX k x-rX k m)
  have h2:=ms (ms h (by rw[h];decide:0≤aB ((rX k x-rX k m)*rX k m))) (fP h1 (le ox))
  rw[dm (y:=Re.of 0) (z:= -(rX k m*rX k m-Re.of k.q)) (aM fun n=>by simp only[aD,aj,aE,aV,aK];grind) (my n),bQ] at h2
  exact absurd h2 (by decide+kernel)
 have xa:=Pz.xa
 have xb:=Pz.xb
 have hm:aB (rX k m)≠0:=fun z=>by
  have:aB (rX k m*rX k m)=1:=by rw[cY n];exact q1
  rw[aY,z] at this;omega
 have cm:=bg (rX k m)
 have sb:aB (rX k b-rX k m)= -aB (rX k m-rX k b):=iy _ _
 by_cases g:s*aB (rX k m)=1
 ·exact fb Pz.oa (by rw[aY];rcases hs with rfl|rfl<;>(rcases cm with c|c|c<;>rw[c] at g⊢ <;>omega))
 ·exact fb Pz.ob (by rw[aY,sb];rcases hs with rfl|rfl<;>(rcases cm with c|c|c<;>rw[c] at g hm⊢ <;>omega))
variable (hk:RK k) (hD:RK D) (hL:D∈L) (hE:0<uX k D*uX k D+uY k D*uY k D) (hK:0≤kK k D) (ho:dE D m<0)
include hk hD hL hE hK ho
theorem Pce.up:aB (fB k D b-fB k D a)=1:=by
 obtain⟨ia,ib⟩:=Pz.out hk hD hL ho
 have y1:=Pz.ym1 q0
 have am:=Qf Pz.om hK ho
 have aa:=KW Pz.oa.r hK ia
 have ab:=KW Pz.ob.r hK ib
 have e1:aB (Re.of (uX k D)*Re.of (uX k D)+Re.of (uY k D)*Re.of (uY k D))=1:=by rw[dO,dO,vX,bQ];exact n8 hE
 have hs:=Pz.hs
 have sw: ∀ {x y:Re},aB (x*x+y*y-Re.of k.q)=0→aB (y*y+x*x-Re.of k.q)=0:=fun{x y} h=>by rw[y8];exact h
 have ng: ∀ {x y:Re},aB (x*x+y*y-Re.of k.q)=0→aB (-y* -y+x*x-Re.of k.q)=0:=fun{x y} h=>by rw[show-y* -y+x*x-Re.of k.q=x*x+y*y-Re.of k.q from aM fun n=>by simp only[aD,aj,aE,aV];grind];exact h
 have cr: ∀ {p q:Pt},OnR k p→OnR k q→0≤s*aB (rY k p)→0≤s*aB (rY k q)→(s*aB (rY k p)=1∨s*aB (rY k q)=1)→s*aB (rX k p-rX k q)=1→aB (rX k p*rY k q-rY k p*rX k q)=1:=fun{p q} op oq u1 u2 u3 hx=>by
  rcases hs with rfl|rfl
  ·rw[show rX k p*rY k q-rY k p*rX k q=rY k q*rX k p-rX k q*rY k p from aM fun n=>by simp only[aj,aE];grind,Ga (sw oq.n) (sw op.n) ?_]
   ·omega
   ·rcases u3 with u3|u3
    ·exact Eu (by omega) (by omega)
    ·exact ms (by omega) (by omega)
  ·rw[show rX k p*rY k q-rY k p*rX k q= -rY k p*rX k q-rX k p* -rY k q from aM fun n=>by simp only[aj,aE,aV];grind,Ga (ng op.n) (ng oq.n) ?_]
   ·rw[iy];omega
   ·rcases u3 with u3|u3
    ·exact ms (by rw[bG];omega) (by rw[bG];omega)
    ·exact Eu (by rw[bG];omega) (by rw[bG];omega)
 have st: ∀ {p q:Pt},OnR k p→OnR k q→aB (fA k D p+fA k D q)=1→aB (rX k p*rY k q-rY k p*rX k q)=1→aB (fB k D q-fB k D p)=1:=fun{p q} op oq hp hc=>by
  rw[←Ga (CV op) (CV oq) hp]
  show aB (BG _ _ _ _*CA _ _ _ _-CA _ _ _ _*BG _ _ _ _)=1
  rw[C1,aY,e1,hc];rfl
 have h1:=st Pz.oa.r Pz.om (Eu aa am) (cr Pz.oa.r Pz.om Pz.ya Pz.ym (.inr y1) Pz.xa)
 have h2:=st Pz.om Pz.ob.r (ms am ab) (cr Pz.om Pz.ob.r Pz.ym Pz.yb (.inl y1) Pz.xb)
 rw[show fB k D b-fB k D a=(fB k D m-fB k D a)+(fB k D b-fB k D m) from aM fun n=>by simp only[aj,aD];grind]
 exact ms h1 (by rw[h2];decide)
end
theorem Us (of:OnK k f) (ot:OnK k t) (hE:0<uX k D*uX k D+uY k D*uY k D) (hK:0≤kK k D) (h1:dE D f≤0) (h2:dE D t≤0) (hb:0≤aB (fB k D t-fB k D f)) (hx:j6 x=true)
 (hc:2*((uX k D*uX k D+uY k D*uY k D)*k.q*(1+x))≤kK k D*kK k D):vh x (.arc k false f t)=false:=by
 have e1:aB (Re.of (uX k D)*Re.of (uX k D)+Re.of (uY k D)*Re.of (uY k D))=1:=by rw[dO,dO,vX,bQ];exact n8 hE
 have cr:0≤Nj k f t:=by
  rw[Xo (aU of) (aU ot)]
  have h:=aap (CV (D:=D) of.r) (CV ot.r) (KW of.r hK h1) (KW ot.r hK h2) hb
  have h:0≤aB (BG _ _ _ _*CA _ _ _ _-CA _ _ _ _*BG _ _ _ _):=h
  rw[C1,aY,e1,js] at h
  exact h
 have dt:0≤Il k f t (x*k.q):=by
  rw[W6 (aU of) (aU ot)]
  have two: ∀p:Pt,OnR k p→dE D p≤0→0≤aB (fA k D p-Re.of (kK k D/2)):=fun p op h=>by
   refine MV ?_
   rw[show fA k D p-Re.of (kK k D/2)+(fA k D p-Re.of (kK k D/2))=fA k D p+fA k D p-Re.of (kK k D) from aM fun n=>by simp only[aj,aD,aK];grind]
   exact Qa op h
  have h:=ZO (CV (D:=D) of.r) (CV ot.r) (K:=Re.of (kK k D/2)) (c:=(Re.of (uX k D)*Re.of (uX k D)+Re.of (uY k D)*Re.of (uY k D))*Re.of (x*k.q)) (by rw[bQ];exact gG (by grind)) (two f of.r h1) (two t ot.r h2) (by
   rw[show Re.of (kK k D/2)*Re.of (kK k D/2)+Re.of (kK k D/2)*Re.of (kK k D/2)-(Re.of (uX k D)*Re.of (uX k D)+Re.of (uY k D)*Re.of (uY k D))*Re.of k.q-(Re.of (uX k D)*Re.of (uX k D)+Re.of (uY k D)*Re.of (uY k D))*Re.of (x*k.q)
    =Re.of ((kK k D*kK k D-2*((uX k D*uX k D+uY k D*uY k D)*k.q*(1+x)))/2) from aM fun n=>by simp only[aj,aD,aE,aK];grind,bQ]
   exact gG (by grind))
  have h:0≤aB (BG _ _ _ _*BG _ _ _ _+CA _ _ _ _*CA _ _ _ _-_):=h
  rw[OV,show ∀A B C:Re,A*B-A*C=A*(B-C) from fun A B C=>aM fun n=>by simp only[aj,aE];grind,aY,e1,js] at h
  exact h
 have ok:BI false k f t x=true:=by
  unfold BI Eb
  rw[hx,iA]
  exact decide_eq_true cr
 show(Oy false k f t x !=0||decide (Ea false k f t x>0))=false
 unfold Oy Ea
 rw[ok,if_pos rfl,if_pos rfl,decide_eq_false (by omega)]
 rfl
section
variable {k:Ci}{L:List Ci}(hk:RK k) (hL: ∀d∈L,RK d)
include hk hL
theorem MM (vc:CvV (.arc k false f t)):(∀y∈jG (.arc k false f t) (j8 k L (.arc k false f t)),GP y∧(Cv.arc k false f t).on y=true)∧ ∀z∈a9 k L,(Cv.arc k false f t).on z=true→(∃y∈jG (.arc k false f t) (j8 k L (.arc k false f t)),cP y z=0)∨cP f z=0∨cP t z=0:=by
 obtain⟨_,h2,h3⟩:=BS vc (z8 hk hL)
 exact⟨fun y hy=>z8 hk hL y (h2 y hy).2,fun z hz ho=>h3 z (mG.2 ⟨hz,ho⟩)⟩
theorem abq {d:Cv}(hd:d∈aR k L) (oz:OnK k z) (hz:z∈a9 k L):d.inner z=false:=by
 obtain⟨c,hc,hd⟩:=vz.1 hd
 have key: ∀ {f t:Pt},c=.arc k false f t→CvV (.arc k false f t)→d.inner z=false:=fun{f t} e vc=>by
  subst e
  obtain⟨o1,o2⟩:=MM hk hL vc
  have hd:d∈nh (.arc k false f t) (jG (.arc k false f t) (j8 k L (.arc k false f t))):=by
   rw[←xZ vc (z8 hk hL)];exact hd
  cases hi:d.inner z with
  |false=>rfl
  |true=>
   obtain⟨i1,i2⟩:=IF vc o1 hd oz.1 hi
   obtain⟨g1,g2,g3⟩:=kS.1 i1
   rcases o2 z hz g1 with⟨y,hy,e⟩|e|e
   ·exact absurd e (i2 y hy)
   ·exact absurd e g2
   ·exact absurd e g3
 rcases d8.1 hc with e|e
 ·exact key e (Ll hk.k hk.pos)
 ·exact key (nC.1 e) (MX hk.k hk.pos)
end
theorem ED (op:OnK k p):(kd k p≠1→aB (rY k p)≤0)∧(kd k p≠3→0≤aB (rY k p))∧(aB (rY k p)=1→kd k p=1)∧(aB (rY k p)= -1→kd k p=3):=by
 have e:aB (rY k p)=s8 p k.y:=(Bv (aU op) k.y).symm
 rw[e]
 unfold kd
 refine⟨fun h=>?_,fun h=>?_,fun h=>?_,fun h=>?_⟩
 ·refine Int.not_lt.1 fun g=>h ?_
  rw[if_pos g]
 ·refine Int.not_lt.1 fun g=>h ?_
  rw[if_neg (by omega),if_neg (by omega)]
 ·rw[if_pos (by omega)]
 ·rw[if_neg (by omega),if_neg (by omega)]
theorem Mn (hp:0≤p.c) (hq:0≤q.c):cx p q=aB (rX k p-rX k q):=by
 rw[nT hp hq]
 exact congrArg aB (aM fun n=>by simp only[rX,aj,aK];grind)
section
variable {k:Ci}{L:List Ci}(hk:RK k) (hL: ∀d∈L,RK d) {m:Nat→Pt}(hm: ∀i,i<(aR k L).length→GB (m i)∧ ∃x,m i=uP ((aR k L).getD i bY).fwd x∧lu ((aR k L).getD i bY).fwd.p x<0∧0<lu ((aR k L).getD i bY).fwd.q x)
include hk hL hm
theorem Qw (hi:i<(aR k L).length): ∃a b s,(aR k L).getD i bY=.arc k false a b∧Pce k L a (m i) b s:=by
 have S:=xf hk hL
 have h0:=hk.pos
 obtain⟨a,b,_,_,e,_,⟨oa,ob⟩,_,_,_,ne,inn⟩:=S.at_ i hi
 have vP:CvV (.arc k false a b):=⟨⟨hk.k,oa.1,ob.1⟩,h0,bK.2 oa.2,bK.2 ob.2,ne⟩
 have hmo:=Bh vP (inn _ (.inl rfl)).1 (inn _ (.inr rfl)).1
 have hd:(Cv.arc k false a b)∈aR k L:=by rw[←e];exact bX hi
 obtain⟨gm,x,ex,x1,x2⟩:=hm i hi
 rw[e] at ex x1 x2
 have cut0: ∀D∈L,∀z∈iZ k D,OnK k z→(Cv.arc k false a b).inner z=false:=fun D hD z hz oz=>abq hk hL hd oz (vz.2 ⟨D,hD,hz⟩)
 have mid: ∀ {w:Bool}{f t:Pt},OnK k f→OnK k t→m i=uP (.arc k w f t) x→lu f x<0→0<lu t x→OnR k (m i)∧rX k (m i)=Re.of x-Re.of k.x∧0≤aB (Re.of (sW w))*aB (rY k (m i)):=fun{w f t} of ot em h1 h2=>by
  have hn:=AT of ot (qw h1) (qw h2)
  obtain⟨y1,y2⟩:=acZ (w:=w) (f:=f) (t:=t) hn
  have ex:rX k (m i)=Re.of x-Re.of k.x:=by rw[em];unfold rX;rw[abQ]
  refine⟨⟨gm.v,?_⟩,ex,by rw[em];exact y2⟩
  rw[ex,em]
  rw[dm (y:=(pY (uP (.arc k w f t) x)-Re.of k.y)*(pY (uP (.arc k w f t) x)-Re.of k.y)-Re.of (iB k x)) (z:=Re.of 0) (aM fun n=>by simp only[rY,iB,aD,aj,aE,aK];grind) (by rw[bQ];decide+kernel)]
  exact y1
 have sx: ∀ {p:Pt},OnK k p→rX k (m i)=Re.of x-Re.of k.x→aB (rX k p-rX k (m i))=lu p x:=fun{p} op g=>by
  rw[nG (aU op),g]
  exact congrArg aB (aM fun n=>by simp only[rX,aj,aK];grind)
 by_cases hf:decide (cP a b>0)=true
 ·have ef:(Cv.arc k false a b).fwd=.arc k true b a:=In hf
  rw[ef] at hmo ex x1 x2
  have hh:(kd k a=0∨kd k a=1)∧(kd k b=1∨kd k b=2)∧cx b a= -1:=wO hk.k h0 ob oa hmo
  obtain⟨om,xm,ym⟩:=mid ob oa ex x1 x2
  have x1:lu b x<0:=x1
  have x2:0<lu a x:=x2
  have b1:=FP a x
  have b2:=FP b x
  refine⟨a,b,1,e,.inl rfl,oa,ob,om,?_,?_,?_,?_,?_,fun D hD z hz oz u1 u2 u3=>?_⟩
  ·rw[js];exact(ED oa).2.1 (by rcases hh.1 with g|g<;>rw[g]<;>decide)
  ·rw[js];exact(ED ob).2.1 (by rcases hh.2.1 with g|g<;>rw[g]<;>decide)
  ·rw[show sW true=1 from rfl,bQ,show aX 1 0=1 from by decide+kernel] at ym;exact ym
  ·rw[sx oa xm];omega
  ·rw[iy,sx ob xm];omega
  ·have v2:CvV (.arc k true b a):=⟨⟨hk.k,ob.1,oa.1⟩,h0,bK.2 ob.2,bK.2 oa.2,fun q=>ne (mZ (aU ob) (aU oa) q)⟩
   have q1:cx a z=1:=by rw[Mn (k:=k) (aU oa) (aU oz)];omega
   have q2:cx z b=1:=by rw[Mn (k:=k) (aU oz) (aU ob)];omega
   have r1:=dd (aU oa) (aU oz)
   have r2:=dd (aU oz) (aU ob)
   have hon:(Cv.arc k true b a).on z=true:=(LE v2 hmo oz).2 ⟨by rw[(ED oz).2.2.1 u3];decide,by omega,by omega⟩
   have hin:(Cv.arc k true b a).inner z=true:=kS.2 ⟨hon,fun q=>by have:=Nl q;have:cx b z=0:=this;omega,fun q=>by have:=Nl q;have:cx a z=0:=this;omega⟩
   rw[show(true:Bool)= !false from rfl,A7 h0 oa ob oz,cut0 D hD z hz oz] at hin
   cases hin
 ·have ef:(Cv.arc k false a b).fwd=.arc k false a b:=Jw (show decide (cP a b>0)=false from eq_false_of_ne_true hf)
  rw[ef] at hmo ex x1 x2
  have hh:(kd k a=2∨kd k a=3)∧(kd k b=3∨kd k b=0)∧cx b a=1:=wO hk.k h0 oa ob hmo
  obtain⟨om,xm,ym⟩:=mid oa ob ex x1 x2
  have x1:lu a x<0:=x1
  have x2:0<lu b x:=x2
  have b1:=FP a x
  have b2:=FP b x
  refine⟨a,b,-1,e,.inr rfl,oa,ob,om,?_,?_,?_,?_,?_,fun D hD z hz oz u1 u2 u3=>?_⟩
  ·have:=(ED oa).1 (by rcases hh.1 with g|g<;>rw[g]<;>decide);omega
  ·have:=(ED ob).1 (by rcases hh.2.1 with g|g<;>rw[g]<;>decide);omega
  ·rw[show sW false= -1 from rfl,bQ,show aX (-1) 0= -1 from by decide+kernel] at ym;exact ym
  ·rw[sx oa xm];omega
  ·rw[iy,sx ob xm];omega
  ·have q1:cx a z= -1:=by rw[Mn (k:=k) (aU oa) (aU oz)];omega
   have q2:cx z b= -1:=by rw[Mn (k:=k) (aU oz) (aU ob)];omega
   have r1:=dd (aU oa) (aU oz)
   have r2:=dd (aU oz) (aU ob)
   have hon:(Cv.arc k false a b).on z=true:=(LE vP hmo oz).2 ⟨by rw[(ED oz).2.2.2 u3];decide,by omega,by omega⟩
   have hin:(Cv.arc k false a b).inner z=true:=kS.2 ⟨hon,fun q=>by have:=Nl q;have:cx a z=0:=this;omega,fun q=>by have:=Nl q;have:cx b z=0:=this;omega⟩
   rw[cut0 D hD z hz oz] at hin
   cases hin
end
abbrev Yz (k:Ci) (L:List Ci) (m:Nat→Pt):Prop:= ∀i,i<(aR k L).length→GB (m i)∧ ∃x,m i=uP ((aR k L).getD i bY).fwd x∧lu ((aR k L).getD i bY).fwd.p x<0∧0<lu ((aR k L).getD i bY).fwd.q x
section
variable {k D:Ci}{L:List Ci}{m:Nat→Pt}
theorem wI (hD:D∈L) (h:xW k L m i=true):dE D (m (i%(aR k L).length))<0:=by
 unfold xW BD at h
 rw[jV] at h
 exact of_decide_eq_true (h D hD)
theorem Tf {e:Nat→Bool}{s:Nat}{c:Cv}(h:c∈mr P e s n): ∃a j,s≤a∧a<s+n∧e a=false∧(∀i,i≤j→e (a+1+i)=true)∧c=AG P (a+1) (a+1+j)∧(e s=false→e (s+n)=e s→e (a+1+(j+1))=false):=by
 obtain⟨a,ha,rfl⟩:=pp.1 h
 obtain⟨h1,h2,h3,h4⟩:=gM.1 ha
 refine⟨a,qL e (a+1) (s+n-(a+1)),h1,h2,h4,fun i hi=>?_,rfl,fun g1 g2=>?_⟩
 ·cases i with
  |zero=>exact h3
  |succ i=>rw[show a+1+(i+1)=a+1+1+i from by omega];exact vu (s+n-(a+1)) (a+1) i (by omega)
 ·have:=sO (e:=e) (s+n-(a+1)) (a+1) (xj ha h2 (ck _) (g2.trans g1))
  rw[show a+1+(qL e (a+1) (s+n-(a+1))+1)=a+1+1+qL e (a+1) (s+n-(a+1)) from by omega];exact this
variable (hk:RK k) (hL: ∀d∈L,RK d)
include hk hL
theorem Q9:0<(aR k L).length:=by
 have:=(xf hk hL).two
 omega
theorem B9 (i:Nat):((aR k L).getD (i%(aR k L).length) bY).q=((aR k L).getD ((i+1)%(aR k L).length) bY).p:=by
 have:=(xf hk hL).nxt (i%(aR k L).length) (Nat.mod_lt _ (Q9 hk hL))
 rw[Nat.mod_add_mod] at this;exact this
variable (hm:Yz k L m)
include hm
theorem oh (i:Nat): ∃a b s,(aR k L).getD (i%(aR k L).length) bY=.arc k false a b∧Pce k L a (m (i%(aR k L).length)) b s:=Qw hk hL hm (Nat.mod_lt _ (Q9 hk hL))
variable (hD:D∈L)
include hD
theorem xe (h:xW k L m i=true):dE D ((aR k L).getD (i%(aR k L).length) bY).p≤0∧dE D ((aR k L).getD (i%(aR k L).length) bY).q≤0:=by
 obtain⟨a,b,s,e,P⟩:=oh hk hL hm i
 rw[e]
 exact P.out hk (hL D hD) hD (wI hD h)
theorem SR (hE:0<uX k D*uX k D+uY k D*uY k D) (hK:0≤kK k D) (u:Nat): ∀j,(∀i,i≤j→xW k L m (u+i)=true)→aB (fB k D ((aR k L).getD ((u+j)%(aR k L).length) bY).q-fB k D ((aR k L).getD (u%(aR k L).length) bY).p)=1:=by
 have one: ∀i,xW k L m i=true→aB (fB k D ((aR k L).getD (i%(aR k L).length) bY).q-fB k D ((aR k L).getD (i%(aR k L).length) bY).p)=1:=fun i h=>by
  obtain⟨a,b,s,e,P⟩:=oh hk hL hm i
  rw[e]
  exact P.up hk.pos hk (hL D hD) hD hE hK (wI hD h)
 intro j
 induction j with
 |zero=>intro h;exact one u (h 0 (ck _))
 |succ j ih=>
  intro h
  have h1:=ih fun i hi=>h i (by omega)
  have h2:=one (u+(j+1)) (h (j+1) (ck _))
  rw[B9 hk hL (u+j),show u+j+1=u+(j+1) from rfl] at h1
  generalize fB k D ((aR k L).getD ((u+(j+1))%(aR k L).length) bY).q=x at*
  generalize fB k D ((aR k L).getD ((u+(j+1))%(aR k L).length) bY).p=y at*
  generalize fB k D ((aR k L).getD (u%(aR k L).length) bY).p=z at*
  rw[show x-z=(x-y)+(y-z) from aM fun n=>by simp only[aj,aD];grind]
  exact ms h2 (by rw[h1];decide)
theorem IG (hK:0≤kK k D) (h:xW k L m i=true):0<uX k D*uX k D+uY k D*uY k D:=by
 obtain⟨a,b,s,e,P⟩:=oh hk hL hm i
 have h1:=Qf P.om hK (wI hD h)
 refine Rat.not_le.1 fun hn=>?_
 have q1:=C9 (uX k D)
 have q2:=C9 (uY k D)
 obtain⟨z1,z2⟩:=(FC (Re.of (uX k D)) (Re.of (uY k D))).2.1 (by rw[dO,dO,vX,bQ];exact uN.2 (by grind))
 have z:aB (fA k D (m (i%(aR k L).length)))=0:=by
  unfold fA BG
  rw[rn (Re.of (uX k D)),rn (Re.of (uY k D))]
  exact nB (dA _ z1) (dA _ z2)
 omega
theorem L0 (hK:0≤kK k D) (hx:j6 x=true) (hc:2*((uX k D*uX k D+uY k D*uY k D)*k.q*(1+x))≤kK k D*kK k D):
 ¬(∀i,i<(aR k L).length→xW k L m i=true)∧ ∀s n,∀c∈mr (aR k L) (xW k L m) s n,vh x c=false:=by
 have hn:=Q9 hk hL
 refine⟨fun h=>?_,fun s n c hc2=>?_⟩
 ·have hE:=IG hk hL hm hD hK (h 0 hn)
  have h1:=SR hk hL hm hD hE hK 0 ((aR k L).length-1) fun i hi=>h (0+i) (by omega)
  rw[B9 hk hL,show 0+((aR k L).length-1)+1=(aR k L).length from by omega,Nat.mod_self,Nat.zero_mod,qc] at h1
  omega
 ·obtain⟨a,j,_,_,_,h4,rfl,_⟩:=Tf hc2
  have h0:=h4 0 (iW _)
  have hE:=IG hk hL hm hD hK h0
  have hu:=SR hk hL hm hD hE hK (a+1) j h4
  have e1:=xe hk hL hm hD h0
  have e2:=xe hk hL hm hD (h4 j (ck _))
  obtain⟨p,q,s1,g1,P⟩:=oh hk hL hm (a+1)
  obtain⟨p2,q2,s2,g2,P2⟩:=oh hk hL hm (a+1+j)
  have e:AG (aR k L) (a+1) (a+1+j)=.arc k false p q2:=by unfold AG;rw[g1,g2];rfl
  rw[show a+1+0=a+1 from rfl] at e1
  rw[g1] at e1 hu
  rw[g2] at e2 hu
  rw[e]
  exact Us P.oa P2.ob hE hK e1.1 e2.2 (by rw[show aB (fB k D q2-fB k D p)=1 from hu];decide) hx hc
end
section
variable {k D:Ci}(h0:0<cV (ca k D) k)
theorem La (h0:0<cV (ca k D) k):tx k D=false:=by
 cases h:tx k D with
 |false=>rfl
 |true=>
  unfold tx at h
  rw[di] at h
  have a:=LO h.1
  have b:=LO h.2
  have n:cZ (ca k D)=0:=by unfold cZ ca;dsimp only;rw[a,b];grind
  unfold cV at h0
  rw[n] at h0
  have:=C9 (iU (ca k D) k.x k.y)
  grind
theorem Ch:cV (ca k D) k=4*((uX k D*uX k D+uY k D*uY k D)*k.q)-kK k D*kK k D:=by
 unfold cV cZ iU ca CQ kK uX uY;grind
theorem CY (op:OnR k p) (h:dE D p=0):aB (fA k D p+fA k D p-Re.of (kK k D))=0∧aB ((fB k D p+fB k D p)*(fB k D p+fB k D p)-Re.of (cV (ca k D) k))=0:=by
 rw[yd op] at h
 have h1:aB (fA k D p+fA k D p-Re.of (kK k D))=0:=by rw[iy,h];rfl
 refine⟨h1,?_⟩
 have h2:=CV (D:=D) op
 rw[Ch]
 rw[dm (y:=Re.of 0) (z:=(fA k D p*fA k D p+fB k D p*fB k D p-(Re.of (uX k D)*Re.of (uX k D)+Re.of (uY k D)*Re.of (uY k D))*Re.of k.q)+(fA k D p*fA k D p+fB k D p*fB k D p-(Re.of (uX k D)*Re.of (uX k D)+Re.of (uY k D)*Re.of (uY k D))*Re.of k.q)
    +((fA k D p*fA k D p+fB k D p*fB k D p-(Re.of (uX k D)*Re.of (uX k D)+Re.of (uY k D)*Re.of (uY k D))*Re.of k.q)+(fA k D p*fA k D p+fB k D p*fB k D p-(Re.of (uX k D)*Re.of (uX k D)+Re.of (uY k D)*Re.of (uY k D))*Re.of k.q))
    -(fA k D p+fA k D p+Re.of (kK k D))*(fA k D p+fA k D p-Re.of (kK k D)))
  (aM fun n=>by simp only[aj,aD,aE,aK];grind) (iX (nB (nB h2 h2) (nB h2 h2)) (dA _ h1)),bQ]
 decide+kernel
end
section
variable {k D:Ci}(hk:RK k) (hD:RK D) (h0:0<cV (ca k D) k)
include hk hD h0
theorem v6: ∃u∈iZ k D,∃v∈iZ k D,(OnK k u∧dE D u=0∧aB (fB k D u+fB k D u+Re.rt (cV (ca k D) k))=0)∧OnK k v∧dE D v=0∧aB (fB k D v+fB k D v-Re.rt (cV (ca k D) k))=0:=by
 have hc:=La h0
 have hn:=(rD hk.k hD.k hc).n
 obtain⟨p0,pn⟩:=Xn hn
 have hr:=L8 h0
 have key: ∀ {A:Pt}{r:Re},A∈nP (ca k D) k→LinP (Re.of (ca k D).a) (Re.of (ca k D).b) (Re.of (cZ (ca k D))) (Re.of (iU (ca k D) k.x k.y)) r (rX k A) (rY k A)→aB (r*r+Re.of (iU (ca k D) k.x k.y)*Re.of (iU (ca k D) k.x k.y)-Re.of (cZ (ca k D))*Re.of k.q)=0→
  ∃u∈iZ k D,OnK k u∧dE D u=0∧aB (fB k D u+fB k D u+r)=0:=fun{A r} hA lA hr=>by
  have oA:=lA.on pn p0 hr
  have hA':A∈wh k D:=by unfold wh;rw[if_neg (by rw[hc];decide)];exact hA
  have gA:=te hk.k hD.k A hA'
  obtain⟨z,hz,e⟩:=(wS hk hD).2 A hA'
  obtain⟨oz,ex,ey⟩:=WK hk hD hz gA e oA
  have dn:aB (Re.of (cZ (ca k D))*Re.of (cZ (ca k D)))≠0:=by rw[aY,p0];decide
  refine⟨z,hz,oz,?_,?_⟩
  ·rw[yd oz.r,←DR]
   refine Fe (x:=Re.of (cZ (ca k D))) ?_ (by rw[p0];decide)
   rw[dm (y:=Re.of 0) (z:=Re.of (ca k D).a*(rX k A*Re.of (cZ (ca k D))+(Re.of (iU (ca k D) k.x k.y)*Re.of (ca k D).a+Re.of (ca k D).b*r))+Re.of (ca k D).b*(rY k A*Re.of (cZ (ca k D))+(Re.of (iU (ca k D) k.x k.y)*Re.of (ca k D).b-Re.of (ca k D).a*r))
      -Re.of (cZ (ca k D))*Re.of (ca k D).a*(rX k A-rX k z)-Re.of (cZ (ca k D))*Re.of (ca k D).b*(rY k A-rY k z))
    (aM fun n=>by simp only[hL,cZ,aj,aD,aE,aK];grind) (iX (iX (nB (dA _ lA.x) (dA _ lA.y)) (dA _ ex)) (dA _ ey)),bQ]
   decide+kernel
  ·refine Fe (x:=Re.of (cZ (ca k D))) ?_ (by rw[p0];decide)
   rw[dm (y:=Re.of 0) (z:=Re.of (ca k D).b*(rX k A*Re.of (cZ (ca k D))+(Re.of (iU (ca k D) k.x k.y)*Re.of (ca k D).a+Re.of (ca k D).b*r))-Re.of (ca k D).a*(rY k A*Re.of (cZ (ca k D))+(Re.of (iU (ca k D) k.x k.y)*Re.of (ca k D).b-Re.of (ca k D).a*r))
      -Re.of (cZ (ca k D))*Re.of (ca k D).b*(rX k A-rX k z)+Re.of (cZ (ca k D))*Re.of (ca k D).a*(rY k A-rY k z))
    (aM fun n=>by simp only[fB,CA,uX,uY,ca,cZ,aj,aD,aE,aK];grind) (nB (iX (iX (dA _ lA.x) (dA _ lA.y)) (dA _ ex)) (dA _ ey)),bQ]
   decide+kernel
 obtain⟨mP,mQ⟩:=DI h0
 obtain⟨u,hu,a1,a2,a3⟩:=key mP (Lx hn h0) hr
 obtain⟨v,hv,b1,b2,b3⟩:=key mQ (Le hn h0) (by rw[show-Re.rt (cV (ca k D) k)* -Re.rt (cV (ca k D) k)=Re.rt (cV (ca k D) k)*Re.rt (cV (ca k D) k) from aM fun n=>by simp only[aE,aV];grind];exact hr)
 exact⟨u,hu,v,hv,⟨a1,a2,a3⟩,b1,b2,b3⟩
end
theorem QL (p q z:Pt):(fA k D q-fA k D p)*(fB k D z-fB k D p)-(fB k D q-fB k D p)*(fA k D z-fA k D p)=(Re.of (uX k D)*Re.of (uX k D)+Re.of (uY k D)*Re.of (uY k D))*NK k p q z:=aM fun n=>by
 simp only[fA,fB,BG,CA,NK,aj,aD,aE];grind
section
variable {k D:Ci}{a m b:Pt}{s:Int}(Pz:Pce k [D] a m b s) {z:Pt}(hz:z∈iZ k D) (oz:OnK k z)
include Pz hz oz
theorem Pce.left:aB (NK k a m z)≠ -1∧aB (NK k m b z)≠ -1:=by
 refine⟨fun h=>?_,fun h=>?_⟩
 ·obtain⟨x1,x2,y⟩:=LB Pz.oa.r Pz.om oz.r Pz.hs Pz.ya Pz.ym Pz.xa h
  exact Pz.cut D io z hz oz x1 (Vr Pz.hs x2 Pz.xb) y
 ·obtain⟨x1,x2,y⟩:=LB Pz.om Pz.ob.r oz.r Pz.hs Pz.ym Pz.yb Pz.xb h
  exact Pz.cut D io z hz oz (Vr Pz.hs Pz.xa x1) x2 y
end
theorem Ru (zp:aB (fA k D p+fA k D p-Re.of (kK k D))=0) (oq:OnR k q):aB (fA k D q-fA k D p)= -dE D q:=by
 rw[yd oq,←iy,←jL]
 exact dm (z:= -(fA k D p+fA k D p-Re.of (kK k D))) (aM fun n=>by simp only[aj,aD,aV];grind) (my zp)
section
variable {k D:Ci}(h0:0<cV (ca k D) k)
include h0
theorem RX:aB (Re.rt (cV (ca k D) k))=1:=by
 have h1:=lh (uU h0)
 have h2:=cY h1
 rw[aY,bQ,n8 h0] at h2
 have h3:=u9 (cV (ca k D) k)
 rcases bg (Re.rt (cV (ca k D) k)) with e|e|e<;>rw[e] at h2 h3<;>first|exact e|(exfalso;revert h2;decide)|(exfalso;revert h3;decide)
theorem DG (op:OnR k p) (h:dE D p=0):aB (fB k D p+fB k D p+Re.rt (cV (ca k D) k))=0∨aB (fB k D p+fB k D p-Re.rt (cV (ca k D) k))=0:=by
 obtain⟨_,h2⟩:=CY op h
 have h3:=lh (uU h0)
 generalize Re.rt (cV (ca k D) k)=r at*
 generalize fB k D p=y at*
 have e:aB ((y+y+r)*(y+y-r))=0:=by
  rw[dm (y:=(y+y)*(y+y)-Re.of (cV (ca k D) k)) (z:= -(r*r-Re.of (cV (ca k D) k))) (aM fun n=>by simp only[aj,aD,aE,aV];grind) (my h3)];exact h2
 rw[aY] at e
 rcases pV.1 e with e|e
 ·exact .inl e
 ·exact .inr e
theorem Pg (h:aB (fB k D p+fB k D p+Re.rt (cV (ca k D) k))=0):aB (fB k D p)= -1:=by
 have h1:=RX h0
 have:aB (fB k D p+fB k D p)= -1:=by
  rw[dm (y:= -Re.rt (cV (ca k D) k)) (z:=fB k D p+fB k D p+Re.rt (cV (ca k D) k)) (aM fun n=>by simp only[aj,aD,aV];grind) h,bG,h1]
 rwa [jL] at this
theorem QE (h:aB (fB k D p+fB k D p-Re.rt (cV (ca k D) k))=0):aB (fB k D p)=1:=by
 have h1:=RX h0
 have:aB (fB k D p+fB k D p)=1:=by rw[cY h];exact h1
 rwa [jL] at this
variable (hk:RK k)
include hk
theorem F9:0<uX k D*uX k D+uY k D*uY k D:=by
 rw[Ch] at h0
 have h1:=C9 (kK k D)
 refine Rat.not_le.1 fun hn=>?_
 have:=fl (show 0≤ -(uX k D*uX k D+uY k D*uY k D) by grind) (uU hk.pos)
 grind
theorem WR (zp:aB (fA k D p+fA k D p-Re.of (kK k D))=0) (zz:aB (fA k D z+fA k D z-Re.of (kK k D))=0):aB (NK k p q z)=aB (fA k D q-fA k D p)*aB (fB k D z-fB k D p):=by
 have e1:aB (Re.of (uX k D)*Re.of (uX k D)+Re.of (uY k D)*Re.of (uY k D))=1:=by rw[dO,dO,vX,bQ];exact n8 (F9 h0 hk)
 have d:aB (fA k D z-fA k D p)=0:=by
  rw[←jL]
  rw[show fA k D z-fA k D p+(fA k D z-fA k D p)=(fA k D z+fA k D z-Re.of (kK k D))-(fA k D p+fA k D p-Re.of (kK k D)) from aM fun n=>by simp only[aj,aD];grind]
  exact iX zz zp
 have h:=congrArg aB (QL (k:=k) (D:=D) p q z)
 rw[aY (Re.of (uX k D)*Re.of (uX k D)+Re.of (uY k D)*Re.of (uY k D)),e1,js] at h
 rw[←h,←aY]
 exact dm (z:= -((fB k D q-fB k D p)*(fA k D z-fA k D p))) (aM fun n=>by simp only[aj,aE,aV];grind) (my (dA _ d))
variable (hD:RK D)
include hD
section
variable {a m b:Pt}{s:Int}(Pz:Pce k [D] a m b s)
include Pz
theorem Pce.mid_no:dE D m≠0:=fun h=>by
 have hc:=La h0
 obtain⟨u,hu,v,hv,⟨ou,iu,eu⟩,ov,iv,ev⟩:=v6 hk hD h0
 have e1:aB (Re.of (uX k D)*Re.of (uX k D)+Re.of (uY k D)*Re.of (uY k D))=1:=by rw[dO,dO,vX,bQ];exact n8 (F9 h0 hk)
 have same: ∀ {w:Pt},w∈iZ k D→OnK k w→dE D w=0→aB (fB k D m+fB k D m-(fB k D w+fB k D w))=0→False:=fun{w} hw ow iw eb=>by
  have ea:aB (fA k D m+fA k D m-(fA k D w+fA k D w))=0:=by
   rw[show fA k D m+fA k D m-(fA k D w+fA k D w)=(fA k D m+fA k D m-Re.of (kK k D))-(fA k D w+fA k D w-Re.of (kK k D)) from aM fun n=>by simp only[aj,aD];grind]
   exact iX (CY Pz.om h).1 (CY ow.r iw).1
  have ex:aB (rX k m-rX k w)=0:=by
   refine Fe (x:=Re.of (uX k D)*Re.of (uX k D)+Re.of (uY k D)*Re.of (uY k D)) ?_ (by rw[e1];decide)
   rw[←jL,show(Re.of (uX k D)*Re.of (uX k D)+Re.of (uY k D)*Re.of (uY k D))*(rX k m-rX k w)+(Re.of (uX k D)*Re.of (uX k D)+Re.of (uY k D)*Re.of (uY k D))*(rX k m-rX k w)=Re.of (uX k D)*(fA k D m+fA k D m-(fA k D w+fA k D w))-Re.of (uY k D)*(fB k D m+fB k D m-(fB k D w+fB k D w)) from aM fun n=>by simp only[fA,fB,BG,CA,aj,aD,aE,aK];grind]
   exact iX (dA _ ea) (dA _ eb)
  have ey:aB (rY k m-rY k w)=0:=by
   refine Fe (x:=Re.of (uX k D)*Re.of (uX k D)+Re.of (uY k D)*Re.of (uY k D)) ?_ (by rw[e1];decide)
   rw[←jL,show(Re.of (uX k D)*Re.of (uX k D)+Re.of (uY k D)*Re.of (uY k D))*(rY k m-rY k w)+(Re.of (uX k D)*Re.of (uX k D)+Re.of (uY k D)*Re.of (uY k D))*(rY k m-rY k w)=Re.of (uY k D)*(fA k D m+fA k D m-(fA k D w+fA k D w))+Re.of (uX k D)*(fB k D m+fB k D m-(fB k D w+fB k D w)) from aM fun n=>by simp only[fA,fB,BG,CA,aj,aD,aE,aK];grind]
   exact nB (dA _ ea) (dA _ eb)
  have x1:aB (rX k a-rX k w)=aB (rX k a-rX k m):=dm (z:=rX k m-rX k w) (aM fun n=>by simp only[aj];grind) ex
  have x2:aB (rX k w-rX k b)=aB (rX k m-rX k b):=dm (z:= -(rX k m-rX k w)) (aM fun n=>by simp only[aj,aV];grind) (my ex)
  have y1:=Pz.ym1 hk.pos
  refine Pz.cut D io w hw ow (by rw[x1];exact Pz.xa) (by rw[x2];exact Pz.xb) ?_
  rw[←cY ey]
  rcases Pz.hs with rfl|rfl<;>omega
 rcases DG h0 Pz.om h with e|e
 ·refine same hu ou iu ?_
  rw[show fB k D m+fB k D m-(fB k D u+fB k D u)=(fB k D m+fB k D m+Re.rt (cV (ca k D) k))-(fB k D u+fB k D u+Re.rt (cV (ca k D) k)) from aM fun n=>by simp only[aj,aD];grind]
  exact iX e eu
 ·refine same hv ov iv ?_
  rw[show fB k D m+fB k D m-(fB k D v+fB k D v)=(fB k D m+fB k D m-Re.rt (cV (ca k D) k))-(fB k D v+fB k D v-Re.rt (cV (ca k D) k)) from aM fun n=>by simp only[aj,aD];grind]
  exact iX e ev
theorem Pce.beg (ho:dE D m= -1) (hb:dE D a=0):aB (fB k D a+fB k D a+Re.rt (cV (ca k D) k))=0:=by
 obtain⟨u,hu,v,hv,⟨ou,iu,eu⟩,ov,iv,ev⟩:=v6 hk hD h0
 refine(DG h0 Pz.oa.r hb).resolve_right fun e=>?_
 refine(Pz.left hu ou).1 ?_
 have za:=(CY Pz.oa.r hb).1
 rw[WR h0 hk za (CY ou.r iu).1,Ru za Pz.om,ho]
 have h1:=Pg h0 eu
 have h2:=QE h0 e
 rw[show aB (fB k D u-fB k D a)= -1 from ?_]
 ·rfl
 rw[iy,ms (x:=fB k D a) (y:= -fB k D u) h2 (by rw[bG,h1];decide)|>(show aB (fB k D a-fB k D u)=1 from ·)]
theorem Pce.end_ (ho:dE D m= -1) (hb:dE D b=0):aB (fB k D b+fB k D b-Re.rt (cV (ca k D) k))=0:=by
 obtain⟨u,hu,v,hv,⟨ou,iu,eu⟩,ov,iv,ev⟩:=v6 hk hD h0
 refine(DG h0 Pz.ob.r hb).resolve_left fun e=>?_
 refine(Pz.left hv ov).2 ?_
 have zb:=(CY Pz.ob.r hb).1
 have zv:=(CY ov.r iv).1
 have h1:=Pg h0 e
 have h2:=QE h0 ev
 rw[show NK k m b v=NK k b v m from aM fun n=>by simp only[NK,aj,aE];grind]
 have e1:aB (Re.of (uX k D)*Re.of (uX k D)+Re.of (uY k D)*Re.of (uY k D))=1:=by rw[dO,dO,vX,bQ];exact n8 (F9 h0 hk)
 have d:aB (fA k D v-fA k D b)=0:=by
  rw[←jL]
  rw[show fA k D v-fA k D b+(fA k D v-fA k D b)=(fA k D v+fA k D v-Re.of (kK k D))-(fA k D b+fA k D b-Re.of (kK k D)) from aM fun n=>by simp only[aj,aD];grind]
  exact iX zv zb
 have h:=congrArg aB (QL (k:=k) (D:=D) b v m)
 rw[aY (Re.of (uX k D)*Re.of (uX k D)+Re.of (uY k D)*Re.of (uY k D)),e1,js] at h
 rw[←h,dm (y:= -((fB k D v-fB k D b)*(fA k D m-fA k D b))) (z:=(fB k D m-fB k D b)*(fA k D v-fA k D b)) (aM fun n=>by simp only[aj,aE,aV];grind) (dA _ d),bG,aY,Ru zb Pz.om,ho,
  show aB (fB k D v-fB k D b)=1 from ms (x:=fB k D v) (y:= -fB k D b) h2 (by rw[bG,h1];decide)]
 rfl
theorem Pce.opn (hb:aB (fB k D a+fB k D a+Re.rt (cV (ca k D) k))=0) (ha:dE D a=0):dE D m= -1:=by
 obtain⟨u,hu,v,hv,⟨ou,iu,eu⟩,ov,iv,ev⟩:=v6 hk hD h0
 have n0:=Pz.mid_no h0 hk hD
 have bd:=nr D m
 refine fe fun hn=>?_
 refine(Pz.left hv ov).1 ?_
 have za:=(CY Pz.oa.r ha).1
 rw[WR h0 hk za (CY ov.r iv).1,Ru za Pz.om,show dE D m=1 by omega]
 have h1:=Pg h0 hb
 have h2:=QE h0 ev
 rw[show aB (fB k D v-fB k D a)=1 from ms (x:=fB k D v) (y:= -fB k D a) h2 (by rw[bG,h1];decide)]
 rfl
end
omit hD in
theorem XW (of:OnK k f) (ot:OnK k t) (i1:dE D f=0) (i2:dE D t=0) (e1:aB (fB k D f+fB k D f+Re.rt (cV (ca k D) k))=0) (e2:aB (fB k D t+fB k D t-Re.rt (cV (ca k D) k))=0) (hb:vh x (.arc k false f t)=false):
 0≤kK k D∧2*((uX k D*uX k D+uY k D*uY k D)*k.q*(1+x))≤kK k D*kK k D:=by
 have p1:aB (Re.of (uX k D)*Re.of (uX k D)+Re.of (uY k D)*Re.of (uY k D))=1:=by rw[dO,dO,vX,bQ];exact n8 (F9 h0 hk)
 have za:=(CY of.r i1).1
 have zb:=(CY ot.r i2).1
 have r1:=RX h0
 have rq:=lh (uU h0)
 have hb:(Oy false k f t x !=0||decide (Ea false k f t x>0))=false:=hb
 unfold Oy Ea at hb
 cases ok:BI false k f t x with
 |false=>rw[ok] at hb;exact absurd hb (by simp)
 |true=>
  rw[ok,if_pos rfl,if_pos rfl] at hb
  have dt:0≤Il k f t (x*k.q):=by
   have:decide (-Il k f t (x*k.q)>0)=false:=by simpa using hb
   have:=of_decide_eq_false this
   omega
  have cr:0≤Nj k f t:=by
   unfold BI Eb at ok
   rw[di] at ok
   exact of_decide_eq_true ok.2
  rw[Xo (aU of) (aU ot)] at cr
  rw[W6 (aU of) (aU ot)] at dt
  have cr:0≤aB (rX k f*rY k t-rY k f*rX k t):=cr
  have dt:0≤aB (rX k f*rX k t+rY k f*rY k t-Re.of (x*k.q)):=dt
  have fc:=C1 (Re.of (uX k D)) (Re.of (uY k D)) (rX k f) (rY k f) (rX k t) (rY k t)
  have fd:=OV (Re.of (uX k D)) (Re.of (uY k D)) (rX k f) (rY k f) (rX k t) (rY k t)
  have fc:fA k D f*fB k D t-fB k D f*fA k D t=_:=fc
  have fd:fA k D f*fA k D t+fB k D f*fB k D t=_:=fd
  have c2:0≤aB (fA k D f*fB k D t-fB k D f*fA k D t):=by rw[fc,aY,p1,js];exact cr
  have d2:0≤aB (fA k D f*fA k D t+fB k D f*fB k D t-(Re.of (uX k D)*Re.of (uX k D)+Re.of (uY k D)*Re.of (uY k D))*Re.of (x*k.q)):=by
   rw[fd,show ∀A B C:Re,A*B-A*C=A*(B-C) from fun A B C=>aM fun n=>by simp only[aj,aE];grind,aY,p1,js];exact dt
  generalize hA:fA k D f=A1 at*
  generalize fA k D t=A2 at*
  generalize fB k D f=B1 at*
  generalize fB k D t=B2 at*
  generalize hr:Re.rt (cV (ca k D) k)=r at*
  constructor
  ·have h:aB ((A1*B2-B1*A2+(A1*B2-B1*A2))+(A1*B2-B1*A2+(A1*B2-B1*A2)))=aB (Re.of (kK k D)*r+Re.of (kK k D)*r):=dm
    (z:=(r+r)*(A1+A1-Re.of (kK k D))+(A1+A1)*(B2+B2-r)-((A2+A2)*(B1+B1+r)-r*(A2+A2-Re.of (kK k D))+r*(A1+A1-Re.of (kK k D)))) (aM fun n=>by simp only[aj,aD,aE];grind)
    (iX (nB (dA _ za) (dA _ e2)) (nB (iX (dA _ e1) (dA _ zb)) (dA _ za)))
   rw[jL,jL,jL,aY (Re.of _),r1,sv,bQ] at h
   rw[h] at c2
   exact wQ.1 c2
  ·have h:aB ((A1*A2+B1*B2-(Re.of (uX k D)*Re.of (uX k D)+Re.of (uY k D)*Re.of (uY k D))*Re.of (x*k.q))+(A1*A2+B1*B2-(Re.of (uX k D)*Re.of (uX k D)+Re.of (uY k D)*Re.of (uY k D))*Re.of (x*k.q))+((A1*A2+B1*B2-(Re.of (uX k D)*Re.of (uX k D)+Re.of (uY k D)*Re.of (uY k D))*Re.of (x*k.q))+(A1*A2+B1*B2-(Re.of (uX k D)*Re.of (uX k D)+Re.of (uY k D)*Re.of (uY k D))*Re.of (x*k.q))))
    =aB (Re.of (2*(kK k D*kK k D-2*((uX k D*uX k D+uY k D*uY k D)*k.q*(1+x))))):=dm
    (z:=(A2+A2)*(A1+A1-Re.of (kK k D))+Re.of (kK k D)*(A2+A2-Re.of (kK k D))+(B2+B2)*(B1+B1+r)-r*(B2+B2-r)-(r*r-Re.of (cV (ca k D) k))) (by rw[Ch];exact aM fun n=>by simp only[aj,aD,aE,aK];grind)
    (iX (iX (nB (nB (dA _ za) (dA _ zb)) (dA _ e1)) (dA _ e2)) rq)
   rw[jL,jL,bQ] at h
   rw[h] at d2
   have:=wQ.1 d2
   grind
end
def ci (us:List CellD) (i:Nat):Int:=match us[i]? with
 |some (.i _ x)=>x
 |_=>0
def VX:CellD→Bool
 | .i .i64 _=>true
 |_=>false
def bdJ:CellD→Bool
 | .i .i64 x=>decide (-10000000≤x)&&decide (x≤10000000)
 |_=>false
theorem GT (h:us.all bdJ=true):us.all VX=true:=by
 rw[jV] at*
 intro c hc
 have h1:=h c hc
 cases c with
 |i k x=>cases k<;>first|rfl|cases h1
 |_=>cases h1
theorem Pj (h:us.all VX=true) (hi:i<us.length):us[i]=.i .i64 (ci us i):=by
 have h1:=jV.1 h _ (wv hi)
 unfold ci
 rw[gE hi]
 generalize us[i]=c at h1
 cases c with
 |i k x=>cases k<;>first|rfl|cases h1
 |_=>cases h1
theorem QN (h:us.all bdJ=true) (i:Nat): -10000000≤ci us i∧ci us i≤10000000:=by
 by_cases hi:i<us.length
 ·have h1:=jV.1 h _ (wv hi)
  unfold ci
  rw[gE hi]
  generalize us[i]=c at h1
  cases c with
  |i k x=>cases k<;>first|(have h2:(decide (-10000000≤x)&&decide (x≤10000000))=true:=h1;rw[di,decide_eq_true_eq,decide_eq_true_eq] at h2;exact h2)|cases h1
  |_=>cases h1
 ·unfold ci
  rw[rT (by omega)]
  exact⟨by decide,by decide⟩
theorem gI (hl:us.length=n*2) (hJ:us.all VX=true) (hj:j<n):us.drop (j*2)=([.i .i64 (ci us (j*2))]++[.i .i64 (ci us (j*2+1))])++us.drop (j*2+2):=by
 rw[nI (show j*2<us.length by omega),nI (show j*2+1<us.length by omega),Pj hJ,Pj hJ]
 rfl
def iN (a1 a2 dx dy L s:Int) (k:Nat):List CellD:=BY a1 a2 dx dy s k++([.i .i64 (a1+L*dx)]++[.i .i64 (a2+L*dy)])
theorem tZ {L:Int}{k:Nat}:(iN a1 a2 dx dy L s k).length=(k+1+1)*2:=by
 unfold iN
 rw[d6,gw]
 show(k+1)*2+2=_
 omega
theorem SI {a1 a2 dx dy L s:Int}{k:Nat}(hd:Dir dx dy) (hs:1≤s) (hk:(k:Int)=(L-1)/s) (r1: -10000000≤a1∧a1≤10000000) (r2: -10000000≤a2∧a2≤10000000) (r3: -10000000≤a1+L*dx∧a1+L*dx≤10000000) (r4: -10000000≤a2+L*dy∧a2+L*dy≤10000000):
 ∀i,i≤k→(BY a1 a2 dx dy s i).all bdJ=true
 |0,_=>by
  show(decide _&&decide _&&(decide _&&decide _&&true))=true
  simp only[vO,di,decide_eq_true_eq]
  omega
 |i+1,h=>by
  show(BY a1 a2 dx dy s i++_).all bdJ=true
  rw[List.all_append,SI hd hs hk r1 r2 r3 r4 i (by omega),iA]
  have h1:=(ye hs hk i).2 (by omega)
  have h2:=Ic hs (i+1)
  show(decide _&&decide _&&(decide _&&decide _&&true))=true
  simp only[vO,di,decide_eq_true_eq]
  generalize ((i+1:Nat):Int)*s=q at*
  rcases hd with⟨rfl,rfl⟩|⟨rfl,rfl⟩|⟨rfl,rfl⟩|⟨rfl,rfl⟩<;>omega
theorem A6 {L:Int}{k:Nat}(hd:Dir dx dy) (hs:1≤s) (hk:(k:Int)=(L-1)/s) (r1: -10000000≤a1∧a1≤10000000) (r2: -10000000≤a2∧a2≤10000000) (r3: -10000000≤a1+L*dx∧a1+L*dx≤10000000) (r4: -10000000≤a2+L*dy∧a2+L*dy≤10000000):
 (iN a1 a2 dx dy L s k).all bdJ=true:=by
 unfold iN
 rw[List.all_append,SI hd hs hk r1 r2 r3 r4 k (ck _),iA]
 show(decide _&&decide _&&(decide _&&decide _&&true))=true
 simp only[vO,di,decide_eq_true_eq]
 omega
def mvf (us:List CellD) (dx dy r z f:Int) (j:Nat):List CellD:=[.i .i64 2]++([.i .i64 (ci us (j*2)-dx*r)]++[.i .i64 (ci us (j*2+1)-dy*r)]++[.i .i64 z])++([.i .i64 0]++[.i .i64 0])++[.i .i64 f]
def mva (us:List CellD) (dx dy r z f:Int) (j:Nat):List CellD:=[.i .i64 4]++([.i .i64 (ci us (j*2)-dx*r)]++[.i .i64 (ci us (j*2+1)-dy*r)]++[.i .i64 z])++([.i .i64 (ci us (j*2))]++[.i .i64 (ci us (j*2+1))])++[.i .i64 f]
def UC (us:List CellD) (dx dy r z f:Int):Nat→List CellD
 |0=>mva us dx dy r z f 0
 |j+1=>(UC us dx dy r z f j++mvf us dx dy r z f (j+1))++mva us dx dy r z f (j+1)
theorem pv {us:List CellD}{dx dy r z f:Int}: ∀j,(UC us dx dy r z f j).length=(2*j+1)*7
 |0=>rfl
 |j+1=>by
  show((UC us dx dy r z f j++_)++_).length=_
  rw[d6,d6,pv j]
  show(2*j+1)*7+7+7=_
  omega
def CM (us:List CellD) (j:Nat):Int:=max (max (max (ci us (j*2)-ci us ((j-1)*2)) (ci us ((j-1)*2)-ci us (j*2))) (ci us (j*2+1)-ci us ((j-1)*2+1))) (ci us ((j-1)*2+1)-ci us (j*2+1))
def dk (us:List CellD) (j:Nat):Bool:=G8 (ci us ((j-1)*2)) (ci us ((j-1)*2+1)) (ci us (j*2)) (ci us (j*2+1))
def dX (us:List CellD) (j:Nat):Int:=vj (ci us ((j-1)*2)) (ci us (j*2))
def dY (us:List CellD) (j:Nat):Int:=vj (ci us ((j-1)*2+1)) (ci us (j*2+1))
def eg (us:List CellD) (a:Int) (j:Nat):Bool:=(fb (ci us (j*2))||fb (ci us (j*2+1)))||(decide (j≠0)&&(!dk us j||(!(dX us j==dX us 1&&dY us j==dY us 1)||decide (CM us j>a))))
def Oq (us:List CellD):Nat→Int
 |0=>0
 |j+1=>if j=0 then 0 else max (Oq us j) (CM us j)
theorem XP (h:j=0):Oq us j=Oq us (j+1):=by subst h;rfl
theorem HB (h:j≠0):max (Oq us j) (CM us j)=Oq us (j+1):=by
 show _=if j=0 then 0 else _
 rw[if_neg h]
def SO (us:List CellD) (n:Nat) (a t:Int) (c:Rat):Bool:=(List.range n).all (fun i=> !eg us a i)&&D4 a t (Oq us n) c
theorem FR {t:Int}(hj:j<n) (h:eg us a j=true):SO us n a t c=false:=by
 unfold SO
 rw[show(List.range n).all (fun i=> !eg us a i)=false from ?_,q7]
 rw[List.all_eq_false]
 exact⟨j,ko.2 hj,by rw[h];decide⟩
theorem Sc {t:Int}(h: ∀i,i<n→eg us a i=false):SO us n a t c=D4 a t (Oq us n) c:=by
 unfold SO
 rw[show(List.range n).all (fun i=> !eg us a i)=true from ?_,iA]
 rw[jV]
 intro i hi
 rw[h i (ko.1 hi)];rfl
section
variable {us:List CellD}{a:Int}{j:Nat}
theorem adD (h:(!(!(fb (ci us (j*2))||fb (ci us (j*2+1)))))=true):eg us a j=true:=by
 rw[Bool.not_not] at h
 unfold eg;rw[h,Bool.true_or]
theorem ade (h:(!(!(fb (ci us (j*2))||fb (ci us (j*2+1)))))=false):fb (ci us (j*2))=false∧fb (ci us (j*2+1))=false:=by
 rw[Bool.not_not,AC] at h
 exact h
theorem acF (h:fb (ci us (j*2))=false∧fb (ci us (j*2+1))=false) (h0:j=0):eg us a j=false:=by
 unfold eg;rw[h.1,h.2,decide_eq_false (show ¬j≠0 from fun g=>g h0)];rfl
theorem ado (h0:j≠0) (h:(!dk us j)=true):eg us a j=true:=by
 unfold eg;rw[h,decide_eq_true h0];simp
theorem ad6 (h0:j≠0) (h:(!(dX us j==dX us 1&&dY us j==dY us 1))=true):eg us a j=true:=by
 unfold eg;rw[h,decide_eq_true h0];simp
theorem adz (h0:j≠0) (h:decide (CM us j>a)=true):eg us a j=true:=by
 unfold eg;rw[h,decide_eq_true h0];simp
theorem abo (g:fb (ci us (j*2))=false∧fb (ci us (j*2+1))=false) (h2:(!dk us j)=false) (h3:(!(dX us j==dX us 1&&dY us j==dY us 1))=false) (h4:decide (CM us j>a)=false):eg us a j=false:=by
 unfold eg;rw[g.1,g.2,h2,h3,h4];simp
theorem aaj (h:eg us a j=false):(-10000000≤ci us (j*2)∧ci us (j*2)≤10000000)∧(-10000000≤ci us (j*2+1)∧ci us (j*2+1)≤10000000):=by
 unfold eg at h
 rw[AC,AC] at h
 exact⟨xO h.1.1,xO h.1.2⟩
theorem Xe (h0:j≠0) (h:eg us a j=false):dk us j=true∧dX us j=dX us 1∧dY us j=dY us 1∧CM us j≤a:=by
 unfold eg at h
 rw[decide_eq_true h0] at h
 simp only[AC,iA,Bool.not_eq_false',di,decide_eq_false_iff_not,beq_iff_eq] at h
 exact⟨h.2.1,h.2.2.1.1,h.2.2.1.2,by omega⟩
theorem Vf (h:dk us j=true):1≤CM us j:=by
 obtain⟨L,dx,dy,hL,hd,e1,e2⟩:=QK h
 unfold CM
 rcases hd with⟨rfl,rfl⟩|⟨rfl,rfl⟩|⟨rfl,rfl⟩|⟨rfl,rfl⟩<;>omega
theorem O4 (ha:0≤a): ∀n,(∀i,i<n→eg us a i=false)→0≤Oq us n∧Oq us n≤a
 |0,_=>⟨Int.le_refl _,ha⟩
 |n+1,h=>by
  have ih:=O4 ha n (fun i hi=>h i (by omega))
  by_cases h0:n=0
  ·rw[←XP h0];exact ih
  ·rw[←HB h0]
   have h1:=(Xe h0 (h n (by omega))).2.2.2
   omega
theorem Yw (hn:2≤n) (h: ∀i,i<n→eg us a i=false):1≤Oq us n:=by
 match n,hn with
 |n+2,_=>
  rw[←HB (show n+1≠0 by omega)]
  have h1:=Vf (Xe (show n+1≠0 by omega) (h (n+1) (by omega))).1
  omega
end
def BW (R a b:Int):Rat:=((R:Int):Rat)*(((b:Int):Rat)*((b:Int):Rat)-((a:Int):Rat)*((a:Int):Rat))/(((a:Int):Rat)*((a:Int):Rat)+((b:Int):Rat)*((b:Int):Rat))
def Gi (R a b:Int):Rat:=((2*R:Int):Rat)*(((a:Int):Rat)*((b:Int):Rat))/(((a:Int):Rat)*((a:Int):Rat)+((b:Int):Rat)*((b:Int):Rat))
def yL (px py dx dy R S a b:Int):Ci:=⟨((px:Int):Rat)+(BW R a b*((dx:Int):Rat)-Gi R a b*((dy:Int):Rat)),((py:Int):Rat)+(BW R a b*((dy:Int):Rat)+Gi R a b*((dx:Int):Rat)),((S:Int):Rat)*((S:Int):Rat)⟩
def AL (x y r:Int):Ci:=⟨((x:Int):Rat),((y:Int):Rat),((r:Int):Rat)*((r:Int):Rat)⟩
section
variable {R a b:Int}(h:((a:Int):Rat)*((a:Int):Rat)+((b:Int):Rat)*((b:Int):Rat)≠0)
include h
theorem Pq:BW R a b*(((a:Int):Rat)*((a:Int):Rat)+((b:Int):Rat)*((b:Int):Rat))=((R:Int):Rat)*(((b:Int):Rat)*((b:Int):Rat)-((a:Int):Rat)*((a:Int):Rat))∧
 Gi R a b*(((a:Int):Rat)*((a:Int):Rat)+((b:Int):Rat)*((b:Int):Rat))=2*((R:Int):Rat)*(((a:Int):Rat)*((b:Int):Rat)):=by
 refine⟨Rat.div_mul_cancel h,?_⟩
 unfold Gi
 rw[rK h,dD];rfl
theorem SZ:BW R a b*BW R a b+Gi R a b*Gi R a b=((R:Int):Rat)*((R:Int):Rat):=by
 obtain⟨h1,h2⟩:=Pq (R:=R) h
 generalize BW R a b=x at*
 generalize Gi R a b=y at*
 generalize ((a:Int):Rat)=a at*
 generalize ((b:Int):Rat)=b at*
 generalize ((R:Int):Rat)=r at*
 have e:(x*x+y*y-r*r)*((a*a+b*b)*(a*a+b*b))=0:=by
  have:(x*x+y*y-r*r)*((a*a+b*b)*(a*a+b*b))=(x*(a*a+b*b))*(x*(a*a+b*b))+(y*(a*a+b*b))*(y*(a*a+b*b))-r*r*((a*a+b*b)*(a*a+b*b)):=by grind
  rw[this,h1,h2];grind
 rcases AZ.1 e with e|e
 ·grind
 ·rcases AZ.1 e with e|e<;>exact absurd e h
theorem abx (hR:0≤R):BW R a b≤((R:Int):Rat):=by
 have h1:=SZ (R:=R) h
 have h2:(0:Rat)≤((R:Int):Rat):=yi.2 hR
 have h3:=C9 (Gi R a b)
 refine Rat.not_lt.1 fun q=>?_
 have:=jh (show 0<BW R a b-((R:Int):Rat) by grind) (show 0<BW R a b+((R:Int):Rat) by grind)
 grind
end
section
variable {px py lx ly dx dy R S a b st:Int}(hd:Dir dx dy) (e1:px=lx+st*dx) (e2:py=ly+st*dy) (h:((a:Int):Rat)*((a:Int):Rat)+((b:Int):Rat)*((b:Int):Rat)≠0)
include hd e1 e2 h
theorem Sw:uX (yL px py dx dy R S a b) (AL lx ly (R+S))*uX (yL px py dx dy R S a b) (AL lx ly (R+S))+uY (yL px py dx dy R S a b) (AL lx ly (R+S))*uY (yL px py dx dy R S a b) (AL lx ly (R+S))=
 ((st:Int):Rat)*((st:Int):Rat)+2*(((st:Int):Rat)*BW R a b)+((R:Int):Rat)*((R:Int):Rat):=by
 have h1:=SZ (R:=R) h
 subst e1 e2
 unfold uX uY yL AL
 dsimp only
 rw[gz,gz,dD,dD]
 rcases hd with⟨rfl,rfl⟩|⟨rfl,rfl⟩|⟨rfl,rfl⟩|⟨rfl,rfl⟩<;>simp only[qm,Rat.intCast_one,Rat.intCast_zero]<;>grind
theorem W5:kK (yL px py dx dy R S a b) (AL lx ly (R+S))=((R+S:Int):Rat)*((R+S:Int):Rat)-((S:Int):Rat)*((S:Int):Rat)-(((st:Int):Rat)*((st:Int):Rat)+2*(((st:Int):Rat)*BW R a b)+((R:Int):Rat)*((R:Int):Rat)):=by
 unfold kK
 rw[Sw hd e1 e2 h]
 rfl
theorem Iq (hR:1≤R) (hS:R≤S) (h0:0≤st) (hc:j6 c=true) (ha:D4 R S st c=true):0≤kK (yL px py dx dy R S a b) (AL lx ly (R+S))∧
 2*((uX (yL px py dx dy R S a b) (AL lx ly (R+S))*uX (yL px py dx dy R S a b) (AL lx ly (R+S))+uY (yL px py dx dy R S a b) (AL lx ly (R+S))*uY (yL px py dx dy R S a b) (AL lx ly (R+S)))*(yL px py dx dy R S a b).q*(1+c))≤kK (yL px py dx dy R S a b) (AL lx ly (R+S))*kK (yL px py dx dy R S a b) (AL lx ly (R+S)):=by
 obtain⟨a1,a2⟩:=FQ.1 ha
 have he:=I0 hR (show 1≤S by omega) h0
 have hx:=abx (R:=R) h (by omega)
 have hq:=SZ (R:=R) h
 rw[W5 hd e1 e2 h,Sw hd e1 e2 h]
 have c1: -1≤c:=by
  unfold j6 at hc
  rw[di] at hc
  exact of_decide_eq_true hc.2
 show _∧2*(_*(((S:Int):Rat)*((S:Int):Rat))*(1+c))≤_
 rw[show(((R+S)*(R+S)-(R+st)*(R+st)-S*S:Int):Rat)=((R:Int)+(S:Int):Rat)*((R:Int)+(S:Int):Rat)-((R:Int)+(st:Int):Rat)*((R:Int)+(st:Int):Rat)-(S:Int)*(S:Int) from by simp only[ri,dD,gz],gz R st] at he
 rw[gz]
 have r0:(0:Rat)≤((R:Int):Rat):=yi.2 (by omega)
 have s0:(0:Rat)≤((S:Int):Rat):=yi.2 (by omega)
 have t0:(0:Rat)≤((st:Int):Rat):=yi.2 h0
 rw[show((2:Int):Rat)=2 from rfl] at he
 generalize cq R S st=w at*
 generalize BW R a b=x at*
 generalize Gi R a b=y at*
 generalize ((R:Int):Rat)=r at*
 generalize ((S:Int):Rat)=t at*
 generalize ((st:Int):Rat)=s at*
 have f1:=fl t0 (show 0≤r-x by grind)
 have f2:0≤(s+x)*(s+x)+y*y:=by
  have:=C9 (s+x)
  have:=C9 y
  grind
 have f3:=fl (show 0≤r+s by grind) s0
 have f4:=fl a1 f3
 generalize hE:s*s+2*(s*x)+r*r=E at*
 have g1:E≤(r+s)*(r+s):=by grind
 have g2:0≤E:=by grind
 have g3:0≤(r+t)*(r+t)-(r+s)*(r+s)-t*t:=by rw[←he];grind
 refine⟨by grind,?_⟩
 have k1:((r+t)*(r+t)-(r+s)*(r+s)-t*t)*((r+t)*(r+t)-(r+s)*(r+s)-t*t)≤((r+t)*(r+t)-t*t-E)*((r+t)*(r+t)-t*t-E):=by
  generalize hA:(r+t)*(r+t)-(r+s)*(r+s)-t*t=A at*
  have hB:A≤(r+t)*(r+t)-t*t-E:=by grind
  generalize (r+t)*(r+t)-t*t-E=B at*
  have m1:=fl g3 (show 0≤B-A by grind)
  have m2:=fl (show 0≤B by grind) (show 0≤B-A by grind)
  grind
 have k2:2*((r+s)*(r+s)*(t*t)*(1+c))≤((r+t)*(r+t)-(r+s)*(r+s)-t*t)*((r+t)*(r+t)-(r+s)*(r+s)-t*t):=by
  rw[←he]
  have m1:=fl (show 0≤w*w+w*w-1-c by grind) (fl (fl (show 0≤r+s by grind) (show 0≤r+s by grind)) (fl s0 s0))
  grind
 have k3:E*(t*t)*(1+c)≤(r+s)*(r+s)*(t*t)*(1+c):=by
  have m1:=fl (fl (show 0≤(r+s)*(r+s)-E by grind) (fl s0 s0)) (show 0≤1+c by grind)
  grind
 grind
end
theorem aaZ:BW R 0 1=((R:Int):Rat):=by
 unfold BW
 rw[show((0:Int):Rat)=0 from rfl,show((1:Int):Rat)=1 from rfl]
 grind
section
variable {px py lx ly dx dy R S st:Int}(hd:Dir dx dy) (e1:px=lx+st*dx) (e2:py=ly+st*dy) (hR:1≤R) (hS:R≤S) (h1:1≤st) (h2:st≤R)
include hd e1 e2 hR hS h1 h2
theorem TZ:0<cV (ca (yL px py dx dy R S 0 1) (AL lx ly (R+S))) (yL px py dx dy R S 0 1)∧
 (0≤kK (yL px py dx dy R S 0 1) (AL lx ly (R+S))→2*((uX (yL px py dx dy R S 0 1) (AL lx ly (R+S))*uX (yL px py dx dy R S 0 1) (AL lx ly (R+S))+uY (yL px py dx dy R S 0 1) (AL lx ly (R+S))*uY (yL px py dx dy R S 0 1) (AL lx ly (R+S)))*(yL px py dx dy R S 0 1).q*(1+c))≤kK (yL px py dx dy R S 0 1) (AL lx ly (R+S))*kK (yL px py dx dy R S 0 1) (AL lx ly (R+S))→D4 R S st c=true):=by
 have hz:((0:Int):Rat)*((0:Int):Rat)+((1:Int):Rat)*((1:Int):Rat)≠0:=by decide+kernel
 have he:=I0 hR (show 1≤S by omega) (show 0≤st by omega)
 have hl:=XF hR (show 1≤S by omega) h1
 have hp:=yh hR (show 1≤S by omega) (show 0≤st by omega)
 rw[Ch,W5 hd e1 e2 hz,Sw hd e1 e2 hz,aaZ]
 show 0<4*(_*(((S:Int):Rat)*((S:Int):Rat)))-_∧(_→2*(_*(((S:Int):Rat)*((S:Int):Rat))*(1+c))≤_→_)
 rw[show(((R+S)*(R+S)-(R+st)*(R+st)-S*S:Int):Rat)=((R:Int)+(S:Int):Rat)*((R:Int)+(S:Int):Rat)-((R:Int)+(st:Int):Rat)*((R:Int)+(st:Int):Rat)-(S:Int)*(S:Int) from by simp only[ri,dD,gz],gz R st] at he
 rw[gz R st] at hp
 rw[gz,FQ]
 have r0:(0:Rat)<((R:Int):Rat):=VY hR
 have s0:(0:Rat)≤((S:Int):Rat)-((R:Int):Rat):=by
  have:=fm.2 hS
  grind
 have t0:(0:Rat)<((st:Int):Rat):=VY h1
 have t1:(0:Rat)≤((R:Int):Rat)-((st:Int):Rat):=by
  have:=fm.2 h2
  grind
 rw[show((2:Int):Rat)=2 from rfl] at he
 generalize cq R S st=w at*
 generalize ((R:Int):Rat)=r at*
 generalize ((S:Int):Rat)=t at*
 generalize ((st:Int):Rat)=s at*
 have eE:s*s+2*(s*r)+r*r=(r+s)*(r+s):=by grind
 rw[eE]
 have eK:(r+t)*(r+t)-t*t-(r+s)*(r+s)=w*(2*((r+s)*t)):=by rw[he];grind
 rw[eK]
 have p2:0<2*((r+s)*t):=by grind
 have w2: -1<w:=by
  refine Rat.not_le.1 fun q=>?_
  have m:=fl (show 0≤ -1-w by grind) (uU p2)
  have m2:=jh (show 0<r+(t+t)-(r+s) by grind) (show 0<r+(r+s) by grind)
  grind
 have sq:0<(2*((r+s)*t))*(2*((r+s)*t)):=jh p2 p2
 refine⟨?_,fun k0 k1=>⟨?_,?_⟩⟩
 ·have m:=jh (jh (show 0<1-w by grind) (show 0<1+w by grind)) sq
  grind
 ·refine Rat.not_lt.1 fun q=>?_
  have m:=jh (show 0< -w by grind) p2
  grind
 ·refine Rat.not_lt.1 fun q=>?_
  have m:=jh (show 0<c-(w*w+w*w-1) by grind) sq
  grind
end
theorem acP (hk:GK k) (h0:0<k.q) (oz:OnK k z):(Tl k).on z=true∨(hvB k).on z=true:=by
 have gl:=(qb hk h0).1
 have gr:=(oX hk h0).1
 have go: ∀ {f t x:Pt},GP f→GP t→OnK k x→(Cv.arc k false f t).on x=decide (yC k f x t≤0):=fun hf ht hx=>(zg (bK.2 hx.2)).trans (AO hf ht hx.1)
 have a1:=rL hk h0 oz
 have a2:=uH hk h0 oz
 have a3:=rL hk h0 (oX hk h0)
 have b1:=dd (aU (qb hk h0)) (aU oz)
 have b2:=dd (aU (oX hk h0)) (aU oz)
 have b3:=dd (aU (qb hk h0)) (aU (oX hk h0))
 unfold Tl hvB
 rw[go gl gr oz,go gr gl oz,rg,rg,yq h0,vM h0,b1,b2,b3,a1,a2,a3,vM h0]
 generalize kd k z=d
 revert d
 decide+kernel
section
variable {k:Ci}{L:List Ci}(hk:RK k) (hL: ∀d∈L,RK d)
include hk hL
theorem vert (hz:z∈a9 k L) (oz:OnK k z): ∃i,i<(aR k L).length∧cP ((aR k L).getD i bY).p z=0:=by
 have h0:=hk.pos
 have e:aR k L=jp k L (Tl k)++jp k L (hvB k):=by show _++(_++[])=_;rw[m9];rfl
 have lA:=vn (k:=k) (L:=L) (c:=Tl k)
 have lB:=vn (k:=k) (L:=L) (c:=hvB k)
 have at_: ∀ {f t:Pt}{i:Nat},i<(jp k L (.arc k false f t)).length→((jp k L (.arc k false f t)).getD i bY).p=(f::(jG (.arc k false f t) (j8 k L (.arc k false f t))++[t])).getD i dPt:=fun{f t i} hi=>by
  have hl:(jp k L (.arc k false f t)).length=(jG (.arc k false f t) (j8 k L (.arc k false f t))).length+1:=zI _ _
  show((kH (.arc k false f t) (f::(jG (.arc k false f t) (j8 k L (.arc k false f t))++[t]))).getD i bY).p=_
  rw[GD _ (by simp;omega),JE]
 have inT: ∀ {f t:Pt},CvV (.arc k false f t)→(Cv.arc k false f t).on z=true→(∃i,i<(jp k L (.arc k false f t)).length∧cP ((jp k L (.arc k false f t)).getD i bY).p z=0)∨cP t z=0:=fun{f t} vc ho=>by
  have hl:(jp k L (.arc k false f t)).length=(jG (.arc k false f t) (j8 k L (.arc k false f t))).length+1:=zI _ _
  rcases(MM hk hL vc).2 z hz ho with⟨y,hy,ey⟩|ey|ey
  ·obtain⟨j,hj,e9⟩:=List.getElem_of_mem hy
   refine .inl ⟨j+1,by omega,?_⟩
   rw[at_ (by omega),List.getD_cons_succ,List.getD_eq_getElem?_getD,CK hj,gE hj,e9]
   exact ey
  ·refine .inl ⟨0,by omega,?_⟩
   rw[at_ (by omega)];exact ey
  ·exact .inr ey
 have first: ∀ {f t:Pt},((jp k L (.arc k false f t)).getD 0 bY).p=f:=fun{f t}=>by rw[at_ vn];rfl
 rw[e]
 rcases acP hk.k h0 oz with ho|ho
 ·rcases inT (Ll hk.k h0) ho with⟨i,hi,ei⟩|ei
  ·exact⟨i,by rw[d6];exact oO hi (Nat.le_add_right _ _),by rw[sy (show i<(jp k L (Tl k)).length from hi)];exact ei⟩
  ·refine⟨(jp k L (Tl k)).length+0,by rw[d6];omega,?_⟩
   rw[Fn]
   unfold hvB
   rw[first];exact ei
 ·rcases inT (MX hk.k h0) ho with⟨i,hi,ei⟩|ei
  ·exact⟨(jp k L (Tl k)).length+i,by rw[d6];exact Nat.add_lt_add_left hi _,by rw[Fn];exact ei⟩
  ·refine⟨0,by rw[d6];omega,?_⟩
   rw[sy lA]
   unfold Tl
   rw[first];exact ei
end
theorem Sf {e:Nat→Bool}{s:Nat}(h:e s=false): ∀j,e (s+j)=true→ ∃a,s≤a∧a<s+j∧e a=false∧e (a+1)=true
 |0,g=>by rw[rZ,h] at g;cases g
 |j+1,g=>by
  cases h2:e (s+j) with
  |true=>
   obtain⟨a,a1,a2,a3⟩:=Sf h j h2
   exact⟨a,a1,by omega,a3⟩
  |false=>exact⟨s+j,by omega,by omega,h2,g⟩
theorem GY (hD:RK D): ∀d∈ [D],RK d:=fun d hd=>by rw[nC.1 hd];exact hD
section
variable {k D:Ci}(hk:RK k) (hD:RK D) (h0:0<cV (ca k D) k) {m:Nat→Pt}(hm:Yz k [D] m)
include hk hD h0 hm
theorem abn (h:xW k [D] m i=false):0<dE D (m (i%(aR k [D]).length)):=by
 obtain⟨a,b,s,_,P⟩:=oh hk (GY hD) hm i
 have h1:=P.mid_no h0 hk hD
 have h2:(decide (dE D (m (i%(aR k [D]).length))<0)&&true)=false:=h
 rw[vO] at h2
 have:=of_decide_eq_false h2
 omega
theorem NN: ∃i,i<(aR k [D]).length∧xW k [D] m i=true:=by
 have hL:=GY hD
 obtain⟨u,hu,v,hv,⟨ou,iu,eu⟩,ov,iv,ev⟩:=v6 hk hD h0
 obtain⟨i,hi,e⟩:=vert hk hL (vz.2 ⟨D,io,hu⟩) ou
 obtain⟨a,b,s,e2,P⟩:=Qw hk hL hm hi
 rw[e2] at e
 have e:cP a u=0:=e
 have ia:dE D a=0:=by rw[CL P.oa.1 ou.1 e];exact iu
 obtain⟨q1,q2⟩:=eH.1 e
 rw[nT (aU P.oa) (aU ou)] at q1
 rw[rW (aU P.oa) (aU ou)] at q2
 have ea:aB (fB k D a+fB k D a+Re.rt (cV (ca k D) k))=0:=by
  rw[dm (y:=fB k D u+fB k D u+Re.rt (cV (ca k D) k)) (z:=(Re.of (uX k D)+Re.of (uX k D))*(pY a-pY u)-(Re.of (uY k D)+Re.of (uY k D))*(pX a-pX u)) (aM fun n=>by simp only[fB,CA,rX,rY,aj,aD,aE,aK];grind) (iX (dA _ q2) (dA _ q1))]
  exact eu
 have h:=P.opn h0 hk hD ea ia
 refine⟨i,hi,?_⟩
 rw[KD hi]
 show(decide (dE D (m i)<0)&&true)=true
 rw[h];rfl
theorem UQ {s:Nat}(hs:s<(aR k [D]).length) (hc:xW k [D] m s=false) (h: ∀c∈mr (aR k [D]) (xW k [D] m) s (aR k [D]).length,vh x c=false):
 0≤kK k D∧2*((uX k D*uX k D+uY k D*uY k D)*k.q*(1+x))≤kK k D*kK k D:=by
 have hL:=GY hD
 have mD:D∈ [D]:=io
 have per: ∀i,xW k [D] m (i+(aR k [D]).length)=xW k [D] m i:=fun i=>by unfold xW;rw[Aq]
 obtain⟨i,hi,ho⟩:=NN hk hD h0 hm
 obtain⟨j,hj⟩: ∃j,xW k [D] m (s+j)=true∧j<(aR k [D]).length:=by
  rcases jY i s with g|g
  ·exact⟨i+(aR k [D]).length-s,by rw[show s+(i+(aR k [D]).length-s)=i+(aR k [D]).length from by omega,per];exact ho,by omega⟩
  ·exact⟨i-s,by rw[show s+(i-s)=i from by omega];exact ho,by omega⟩
 obtain⟨a,a1,a2,a3,a4⟩:=Sf hc j hj.1
 have ha:a∈mI (xW k [D] m) s (aR k [D]).length:=gM.2 ⟨a1,by omega,a4,a3⟩
 have hmem:=List.mem_map_of_mem (f:=fun a=>AG (aR k [D]) (a+1) (a+1+qL (xW k [D] m) (a+1) (s+(aR k [D]).length-(a+1)))) ha
 have hb:=h _ hmem
 obtain⟨a,j,_,_,c1,c2,c3,c4⟩:=Tf (c:=AG (aR k [D]) (a+1) (a+1+qL (xW k [D] m) (a+1) (s+(aR k [D]).length-(a+1)))) hmem
 have c4:=c4 hc (per s)
 have c0:=c2 0 (iW _)
 have cj:=c2 j (ck _)
 rw[show a+1+0=a+1 from rfl] at c0
 obtain⟨p,q,s1,g1,P⟩:=oh hk hL hm (a+1)
 obtain⟨p2,q2,s2,g2,P2⟩:=oh hk hL hm (a+1+j)
 obtain⟨p0,q0,s0,g0,P0⟩:=oh hk hL hm a
 obtain⟨p3,q3,s3,g3,P3⟩:=oh hk hL hm (a+1+(j+1))
 have n0:=B9 hk hL a
 have n2:=B9 hk hL (a+1+j)
 rw[g0,g1] at n0
 rw[show a+1+j+1=a+1+(j+1) from rfl,g2,g3] at n2
 have n0:q0=p:=n0
 have n2:q2=p3:=n2
 have o0:=xe hk hL hm mD c0
 have oj:=xe hk hL hm mD cj
 rw[g1] at o0
 rw[g2] at oj
 have i1:dE D p=0:=by
  have:=(P0.inn hk hD mD (abn hk hD h0 hm c1)).2
  rw[n0] at this
  exact Int.le_antisymm o0.1 this
 have i2:dE D q2=0:=by
  have:=(P3.inn hk hD mD (abn hk hD h0 hm c4)).1
  rw[←n2] at this
  exact Int.le_antisymm oj.2 this
 have m1:dE D (m ((a+1)%(aR k [D]).length))= -1:=by
  have:=wI mD c0
  have:=nr D (m ((a+1)%(aR k [D]).length))
  omega
 have m2:dE D (m ((a+1+j)%(aR k [D]).length))= -1:=by
  have:=wI mD cj
  have:=nr D (m ((a+1+j)%(aR k [D]).length))
  omega
 rw[c3,show AG (aR k [D]) (a+1) (a+1+j)=.arc k false p q2 from by unfold AG;rw[g1,g2];rfl] at hb
 exact XW h0 hk P.oa P2.ob i1 i2 (P.beg h0 hk hD m1 i1) (P2.end_ h0 hk hD m2 i2) hb
end
def tN (us:List CellD) (r:Int) (n:Nat):List Ci:=(List.range n).map fun j=>AL (ci us (j*2)) (ci us (j*2+1)) r
theorem IY (us:List CellD) (r:Int) (n:Nat):tN us r (n+1)=tN us r n++[AL (ci us (n*2)) (ci us (n*2+1)) r]:=by unfold tN;rw[List.range_succ,rV];rfl
theorem vp (us:List CellD) (r:Int) (n:Nat):(tN us r n).length=n:=by unfold tN;simp
theorem PV (h:D∈tN us r n): ∃j,j<n∧D=AL (ci us (j*2)) (ci us (j*2+1)) r:=by
 obtain⟨j,hj,e⟩:=pp.1 h
 exact⟨j,ko.1 hj,e.symm⟩
theorem VN (h:j<n):AL (ci us (j*2)) (ci us (j*2+1)) r∈tN us r n:=pp.2 ⟨j,ko.2 h,rfl⟩
theorem GI (h:i<n):ci (us.take n) i=ci us i:=by
 unfold ci
 rw[tH,if_pos h]
theorem NX (us:List CellD) (r:Int) (n:Nat):tN (us.take (n*2)) r n=tN us r n:=by
 unfold tN
 refine Ar fun j hj=>?_
 have:=ko.1 hj
 rw[GI (by omega),GI (by omega)]
theorem Kf (h0:0≤b) (h: ∀i,-b≤ci us i∧ci us i≤b) (i:Nat): -b≤ci (us.take n) i∧ci (us.take n) i≤b:=by
 by_cases g:i<n
 ·rw[GI g];exact h i
 ·have e:(us.take n)[i]? =none:=rT (by rw[gX];omega)
  unfold ci
  rw[e]
  exact⟨by show-b≤0;omega,h0⟩
theorem ON (h:us.all VX=true) (n:Nat):(us.take n).all VX=true:=by
 rw[jV] at*
 exact fun y hy=>h y (List.mem_of_mem_take hy)
theorem acQ (hx:Rz 3 x) (vG: ∀c∈G,CvV c) (lG:G.length≤100) (hP:Ok Tryz.prog 9 [.a (bT k),.c (.s L.length (aW bT L))] [.c (.s ((G).length) (aW aZ (G))),.c (.b al)]):Ok Tryz.prog 15 [.a (bT k),.c (.s L.length (aW bT L)),dR x] [.c (.b (Gs al x G))]:=by
 refine b9 Tryz.func15 rfl ?_
 refine ac rfl (hP) ?_
 refine lg (bJ rfl) (fun c1 hb1=>?_)
 cases c1
 ·have n0:al=false:=hb1
  refine ac rfl (BZ (hx.m_)) ?_
  refine dS rfl (fun hc2=>?_) (fun hc2=>?_)
  ·have n1:j6 x=false:=by simpa using hc2
   refine ai ?_
   rw[Km (show(al|| !j6 x)=true from by rw[n1];simp)]
   exact ak ag
  ·have n1:j6 x=true:=by simpa using hc2
   refine DW.mk<|bv (ι:={n:Nat // n≤G.length∧ ∀i,i<n→vh x (G.getD i bY)=false}) (fun i=>⟨44,[(5,.p 5 0),(25,.v (.c (.s ((G).length) (aW aZ (G))))),(26,.v (.c (.i .i64 (G.length:Int)))),(27,.v (.c (.i .i64 (i.1:Int))))],[(5,38,cR x)]⟩) (fun i=>G.length-i.1) ⟨0,iW _,fun i hi=>absurd hi (Nat.not_lt_zero i)⟩ (ap (bo rfl) ⟨rfl,trivial⟩ rfl) ?_
   rintro⟨n,h2,h3⟩
   replace h2:n≤G.length:=h2
   replace h3: ∀i,i<n→vh x (G.getD i bY)=false:=h3
   dsimp only
   refine gZ ?_
   refine dS rfl (fun hc3=>?_) (fun hc3=>?_)
   ·have g1:n<G.length:=by have:=of_decide_eq_true hc3;omega
    have vc:=vG _ (bX (d:=bY) g1)
    refine ar (vf bY ao g1 qN rfl)<|ar (ve ao cG rfl)<|r9 (dN cG rfl rfl rfl (ao _) rfl rfl) ?_
    refine ar (pM (ao _) cG rfl) ?_
    refine ac rfl (acp vc.g hx) ?_
    refine lg (bJ rfl) (fun c4 hb4=>?_)
    cases c4
    ·have n2:(Vb (G.getD n bY) x !=0)=false:=hb4
     refine dS rfl (fun hc5=>?_) (fun hc5=>?_)
     ·have n3:decide (UD (G.getD n bY) x>0)=true:=hc5
      refine ai ?_
      rw[WN g1 (show vh x (G.getD n bY)=true from by unfold vh;rw[n3];simp)]
      exact ak ag
     ·have n3:decide (UD (G.getD n bY) x>0)=false:=hc5
      have n4:vh x (G.getD n bY)=false:=by unfold vh;rw[n2,n3];rfl
      refine ar (dZ (by omega) rfl) ?_
      exact⟨⟨n+1,g1,fun i hi=>(jY i n).elim (h3 i) fun q=>(show i=n by omega)▸n4⟩,ap (bo rfl) ⟨rfl,trivial⟩ rfl,by show G.length-(n+1)<G.length-n;omega⟩
    ·have n2:(Vb (G.getD n bY) x !=0)=true:=hb4
     refine lr rfl<|ai ?_
     rw[WN g1 (show vh x (G.getD n bY)=true from by unfold vh;rw[n2];rfl)]
     exact ak ag
   ·have hp:n=G.length:=by have:=of_decide_eq_false hc3;omega
    refine ai ?_
    rw[n0,Xt n1 fun i hi=>h3 i (hp▸hi)]
    exact ak ag
 ·refine lr rfl<|ai ?_
  rw[Km (show(al|| !j6 x)=true from by rw[hb1];rfl)]
  exact ak ag
theorem Sb (hk:RK k) (hL: ∀d∈L,RK d) (lL:L.length≤4) (hx:Rz 3 x): ∃v:Bool,Ok Tryz.prog 15 [.a (bT k),.c (.s L.length (aW bT L)),dR x] [.c (.b v)]∧
 (∀D∈L,0≤kK k D→j6 x=true→2*((uX k D*uX k D+uY k D*uY k D)*k.q*(1+x))≤kK k D*kK k D→v=true)∧ ∀D,L=[D]→0<cV (ca k D) k→v=true→0≤kK k D∧2*((uX k D*uX k D+uY k D*uY k D)*k.q*(1+x))≤kK k D*kK k D:=by
 obtain⟨m,hm⟩:=ZX hk hL
 have hM:Yz k L m:=fun i hi=>⟨(hm i hi).1,(hm i hi).2.2.2⟩
 rcases UL hk hL lL (fun i hi=>⟨(hm i hi).1,(hm i hi).2.1⟩) with⟨h1,hP⟩|⟨s,h1,h2,h3,hP⟩
 ·refine⟨Gs true x [],acQ (G:=[]) hx (fun c hc=>nomatch hc) (iW _) hP,fun D hD g1 g2 g3=>?_,fun D _ _ h=>?_⟩
  ·exact absurd h1 (L0 hk hL hM hD g1 g2 g3).1
  ·rw[Km (show(true|| !j6 x)=true from rfl)] at h;cases h
 ·have S:=xf hk hL
  have hr:=MN (k:=k) (L:=L) (m:=m) (by omega)
  have hv:=(Jv hk.k hk.pos S hr h1 h3).2.1
  have hl:(bp bY dj (mr (aR k L) (xW k L m) s (aR k L).length)).length≤100:=by
   rw[fV]
   have e1:=Ld (P:=aR k L) (e:=xW k L m) (s:=s) (n:=(aR k L).length)
   have e2:=BP (k:=k) lL (n:=2) (by decide)
   rw[TE] at e2
   omega
  refine⟨_,acQ hx (fun c hc=>(hv c hc).1) hl hP,fun D hD g1 g2 g3=>?_,fun D hD g1 h=>?_⟩
  ·exact Xt g2 fun i hi=>(L0 hk hL hM hD g1 g2 g3).2 s _ _ ((jl _).mem_iff.1 (bX hi))
  ·subst hD
   refine UQ hk (hL D io) g1 hM h1 h3 fun c hc=>?_
   unfold Gs at h
   rw[di,jV] at h
   have:=h.2 c ((jl _).mem_iff.2 hc)
   simpa using this
theorem KV {L:Int}(hL:1≤L) (hd:Dir dx dy) (hs:1≤s) (hs2:s≤9223372036854775807) {k:Nat}(hk:(k:Int)=(L-1)/s) (r1: -10000000≤a1∧a1≤10000000) (r2: -10000000≤a2∧a2≤10000000) (r3: -10000000≤a1+L*dx∧a1+L*dx≤10000000) (r4: -10000000≤a2+L*dy∧a2+L*dy≤10000000) (hfit:(L-1)/s+2≤10000):Ok Tryz.prog 197 [.a (([.i .i64 a1]++[.i .i64 a2])),.a (([.i .i64 (a1+L*dx)]++[.i .i64 (a2+L*dy)])),.a (([.i .i64 dx]++[.i .i64 dy])),.c (.i .i64 s)] [.c (.s (k+1+1) (iN a1 a2 dx dy L s k)),.c (.i .i64 0)]:=by
 have hL2:=PA hL hd r1 r2 r3 r4
 have hq:=Or hL hs
 have hk2:k≤9998:=by omega
 refine eo Tryz.func197 68 [.tmp 8,.tmp 9] rfl<|ae<|ah<|ae<|ah ?_
 refine ar (bF ((a1+L*dx)-a1) (aS (by rcases hd with⟨rfl,rfl⟩|⟨rfl,rfl⟩|⟨rfl,rfl⟩|⟨rfl,rfl⟩<;>omega) (by rcases hd with⟨rfl,rfl⟩|⟨rfl,rfl⟩|⟨rfl,rfl⟩|⟨rfl,rfl⟩<;>omega)) rfl) ?_
 refine ar (bF (a1-(a1+L*dx)) (aS (by rcases hd with⟨rfl,rfl⟩|⟨rfl,rfl⟩|⟨rfl,rfl⟩|⟨rfl,rfl⟩<;>omega) (by rcases hd with⟨rfl,rfl⟩|⟨rfl,rfl⟩|⟨rfl,rfl⟩|⟨rfl,rfl⟩<;>omega)) rfl) ?_
 refine ar (bF ((a2+L*dy)-a2) (aS (by rcases hd with⟨rfl,rfl⟩|⟨rfl,rfl⟩|⟨rfl,rfl⟩|⟨rfl,rfl⟩<;>omega) (by rcases hd with⟨rfl,rfl⟩|⟨rfl,rfl⟩|⟨rfl,rfl⟩|⟨rfl,rfl⟩<;>omega)) rfl) ?_
 refine ar (bF (a2-(a2+L*dy)) (aS (by rcases hd with⟨rfl,rfl⟩|⟨rfl,rfl⟩|⟨rfl,rfl⟩|⟨rfl,rfl⟩<;>omega) (by rcases hd with⟨rfl,rfl⟩|⟨rfl,rfl⟩|⟨rfl,rfl⟩|⟨rfl,rfl⟩<;>omega)) rfl) ?_
 refine ar (tv (c:=L) (Hi rfl rfl rfl rfl rfl) (by(rcases hd with⟨rfl,rfl⟩|⟨rfl,rfl⟩|⟨rfl,rfl⟩|⟨rfl,rfl⟩<;>omega))) ?_
 refine ae<|ae<|bq<|bH 1 ?_
 refine aO (bF (L-1) (aS (by rcases hd with⟨rfl,rfl⟩|⟨rfl,rfl⟩|⟨rfl,rfl⟩|⟨rfl,rfl⟩<;>omega) (by rcases hd with⟨rfl,rfl⟩|⟨rfl,rfl⟩|⟨rfl,rfl⟩|⟨rfl,rfl⟩<;>omega)) rfl) ?_
 refine bH 1<|aO (iJ (r:=(L-1)/s) rfl rfl (by omega) (by rw[qX (by omega)];exact qO (by omega) (by omega)) rfl) ?_
 refine aO (bF (((L-1)/s)+2) (aT (by rcases hd with⟨rfl,rfl⟩|⟨rfl,rfl⟩|⟨rfl,rfl⟩|⟨rfl,rfl⟩<;>omega) (by rcases hd with⟨rfl,rfl⟩|⟨rfl,rfl⟩|⟨rfl,rfl⟩|⟨rfl,rfl⟩<;>omega)) rfl) ?_
 refine aO (aJ (c:=false) (dG rfl) (decide_eq_false (by omega))) ?_
 refine bt<|bh rfl<|aA<|ae<|bq<|aO (fE rfl) ?_
 refine bt<|ae<|ae<|ah<|aG ?_
 refine zQ (ι:={t:Nat×Nat×List CellD // t.1≤k∧t.1+1≤t.2.1∧t.2.1≤maxLen∧t.2.2.length=(t.2.1-(t.1+1))*2}) (fun i=>⟨68,[(11,.o 63 (i.1.1+1) i.1.2.1),(3,.v (.c (.i .i64 s))),(4,.p 4 0),(5,.p 5 0),(6,.p 6 0),(10,.v (.c (.i .i64 L))),(12,.v (.c (.i .i64 (((i.1.1+1:Nat):Int)*s))))],[(4,72,([.i .i64 a1]++[.i .i64 a2])),(5,72,([.i .i64 (a1+L*dx)]++[.i .i64 (a2+L*dy)])),(6,72,([.i .i64 dx]++[.i .i64 dy])),(63,72,BY a1 a2 dx dy s i.1.1++i.1.2.2)]⟩) (fun i=>k-i.1.1) (k+1) ?_ ?_
 ·refine ae<|ae<|ah ?_
  refine aP rfl (fun hc1=>?_) (fun hc1=>?_)
  ·refine aA<|ae<|aG<|ah ?_
   refine ar (bF (dx*0) (b5 (by rcases hd with⟨rfl,rfl⟩|⟨rfl,rfl⟩|⟨rfl,rfl⟩|⟨rfl,rfl⟩<;>omega) (by rcases hd with⟨rfl,rfl⟩|⟨rfl,rfl⟩|⟨rfl,rfl⟩|⟨rfl,rfl⟩<;>omega)) rfl) ?_
   refine ar (bF (a1) ((aT (by(rcases hd with⟨rfl,rfl⟩|⟨rfl,rfl⟩|⟨rfl,rfl⟩|⟨rfl,rfl⟩<;>omega)) (by(rcases hd with⟨rfl,rfl⟩|⟨rfl,rfl⟩|⟨rfl,rfl⟩|⟨rfl,rfl⟩<;>omega))).trans (congrArg some (by(rcases hd with⟨rfl,rfl⟩|⟨rfl,rfl⟩|⟨rfl,rfl⟩|⟨rfl,rfl⟩<;>omega)))) rfl) ?_
   refine ar (bF (dy*0) (b5 (by rcases hd with⟨rfl,rfl⟩|⟨rfl,rfl⟩|⟨rfl,rfl⟩|⟨rfl,rfl⟩<;>omega) (by rcases hd with⟨rfl,rfl⟩|⟨rfl,rfl⟩|⟨rfl,rfl⟩|⟨rfl,rfl⟩<;>omega)) rfl) ?_
   refine ar (bF (a2) ((aT (by(rcases hd with⟨rfl,rfl⟩|⟨rfl,rfl⟩|⟨rfl,rfl⟩|⟨rfl,rfl⟩<;>omega)) (by(rcases hd with⟨rfl,rfl⟩|⟨rfl,rfl⟩|⟨rfl,rfl⟩|⟨rfl,rfl⟩<;>omega))).trans (congrArg some (by(rcases hd with⟨rfl,rfl⟩|⟨rfl,rfl⟩|⟨rfl,rfl⟩|⟨rfl,rfl⟩<;>omega)))) rfl) ?_
   refine ar (aF (us:=([.i .i64 a1]++[.i .i64 a2])) ue tD rfl rfl rfl) ?_
   refine ar (bW (n:=1) (us:=([.i .i64 a1]++[.i .i64 a2])) xX rfl rfl rfl (by decide) (by decide) rfl) ?_
   refine DL.mk<|lv (ys:=([.i .i64 a1]++[.i .i64 a2])) xX rfl rfl rfl (by decide) (by decide) (by decide) rfl rfl (fun cg2 rg2 hga2 hgb2 hgc2=>fa ?_)
   refine ah<|ar (bF (((0+1:Nat):Int)*s) ((aT (by omega) (by omega)).trans (congrArg some (by simp))) rfl) ?_
   exact⟨⟨⟨0,cg2,rg2⟩,by omega,by omega,hgb2,hgc2⟩,ap (bo rfl) (bo rfl) rfl,by show k-0<k+1;omega⟩
  ·exact(of_decide_eq_false hc1 (by omega)).elim
 ·rintro⟨⟨j,c,rs⟩,h2,h3,h4,h5⟩
  dsimp only at h2 h3 h4 h5
  dsimp only
  refine ae<|ae<|ah ?_
  refine aP rfl (fun hc3=>?_) (fun hc3=>?_)
  ·have g1:=(ye hs hk j).1 (of_decide_eq_true hc3)
   have g2:=Ic hs (j+1)
   have g3:=W9 hs j
   have g4:=of_decide_eq_true hc3
   refine aA<|ae<|aG<|ah ?_
   refine ar (bF (dx*(((j+1:Nat):Int)*s)) (b5 (by rcases hd with⟨rfl,rfl⟩|⟨rfl,rfl⟩|⟨rfl,rfl⟩|⟨rfl,rfl⟩<;>omega) (by rcases hd with⟨rfl,rfl⟩|⟨rfl,rfl⟩|⟨rfl,rfl⟩|⟨rfl,rfl⟩<;>omega)) rfl) ?_
   refine ar (bF (a1+(dx*(((j+1:Nat):Int)*s))) (aT (by rcases hd with⟨rfl,rfl⟩|⟨rfl,rfl⟩|⟨rfl,rfl⟩|⟨rfl,rfl⟩<;>omega) (by rcases hd with⟨rfl,rfl⟩|⟨rfl,rfl⟩|⟨rfl,rfl⟩|⟨rfl,rfl⟩<;>omega)) rfl) ?_
   refine ar (bF (dy*(((j+1:Nat):Int)*s)) (b5 (by rcases hd with⟨rfl,rfl⟩|⟨rfl,rfl⟩|⟨rfl,rfl⟩|⟨rfl,rfl⟩<;>omega) (by rcases hd with⟨rfl,rfl⟩|⟨rfl,rfl⟩|⟨rfl,rfl⟩|⟨rfl,rfl⟩<;>omega)) rfl) ?_
   refine ar (bF (a2+(dy*(((j+1:Nat):Int)*s))) (aT (by rcases hd with⟨rfl,rfl⟩|⟨rfl,rfl⟩|⟨rfl,rfl⟩|⟨rfl,rfl⟩<;>omega) (by rcases hd with⟨rfl,rfl⟩|⟨rfl,rfl⟩|⟨rfl,rfl⟩|⟨rfl,rfl⟩<;>omega)) rfl) ?_
   refine ar (aF (us:=([.i .i64 (a1+(dx*(((j+1:Nat):Int)*s)))]++[.i .i64 (a2+(dy*(((j+1:Nat):Int)*s)))])) ue tD rfl rfl rfl) ?_
   refine ar (bW (n:=1) (us:=([.i .i64 (a1+(dx*(((j+1:Nat):Int)*s)))]++[.i .i64 (a2+(dy*(((j+1:Nat):Int)*s)))])) xX rfl rfl rfl (by decide) (by decide) rfl) ?_
   refine DL.mk<|kQ (us:=BY a1 a2 dx dy s j) (rest:=rs) (ys:=([.i .i64 (a1+(dx*(((j+1:Nat):Int)*s)))]++[.i .i64 (a2+(dy*(((j+1:Nat):Int)*s)))])) xX rfl rfl rfl (by first|exact gw _|(rw[d6,gw];show _+2=_;omega)) (by assumption) rfl (by decide) (by omega) (by assumption) (by omega) (oD (by omega)) (.inl rfl) rfl (fun cg4 rg4 hga4 hgb4 hgc4=>fa ?_)
   refine ah<|ar (bF ((((j+1)+1:Nat):Int)*s) ((aT (by omega) (by omega)).trans (congrArg some (DJ (j+1)).symm)) rfl) ?_
   exact⟨⟨⟨j+1,cg4,rg4⟩,g1,by omega,hgb4,hgc4⟩,ap (bo rfl) (bo rfl) rfl,by show k-(j+1)<k-j;omega⟩
  ·have g1: ¬j<k:=fun h=>absurd ((ye hs hk j).2 h) (of_decide_eq_false hc3)
   obtain rfl:j=k:=by omega
   refine bV<|ae<|ah ?_
   refine ar (bW (n:=1) (us:=([.i .i64 (a1+L*dx)]++[.i .i64 (a2+L*dy)])) xX rfl rfl rfl (by decide) (by decide) rfl) ?_
   refine DL.mk<|kQ (us:=BY a1 a2 dx dy s j) (rest:=rs) (ys:=([.i .i64 (a1+L*dx)]++[.i .i64 (a2+L*dy)])) xX rfl rfl rfl (by first|exact gw _|(rw[d6,gw];show _+2=_;omega)) (by assumption) rfl (by decide) (by omega) (by assumption) (by omega) (oD (by omega)) (.inr rfl) rfl (fun cg5 rg5 hga5 hgb5 hgc5=>fa ?_)
   refine d7 (t:=8) (m:=2) (us:=BY a1 a2 dx dy s j++(([.i .i64 (a1+L*dx)]++[.i .i64 (a2+L*dy)]))) rfl rfl (pf (n:=(j+1)+1) (by first|exact gw _|(rw[d6,gw];show _+2=_;omega)) (by assumption) (by omega)) (by omega) (by assumption) (lq (by first|exact gw _|(rw[d6,gw];show _+2=_;omega))) ?_
   refine ba ?_
   exact ai (ak (ak ag))
end Go.Proofs.YtegpmhlfjkhjmaaGreat
