/-Plain:the program's intervals around lines and circles;its signs are those of the values. -/
import Derived.Test.YtegpmhlfjkhjmaaGreatYgM
namespace Go.Proofs.YtegpmhlfjkhjmaaGreat
open Go Go.RowKit
variable {k:Ci}{c:Cv}{L l:List Pt}{f o p q:Pt}{a b d u v x y:Rat}
theorem OZ (a b c:Rat):dY a b c≤dZ a b c:=by
 cases h:dS a b c with
 |true=>have hi:=K0 h;exact ef.1 (fN (dW hi.1 hi.2))
 |false=>rw[(qB h).1,(qB h).2];exact pP _
theorem On (a b c:Rat):Bd (dY a b c)∧Bd (dZ a b c):=by
 cases h:dS a b c with
 |false=>rw[(qB h).1,(qB h).2];exact⟨Bd.zero,Bd.zero⟩
 |true=>
  have hle:=OZ a b c
  have h2:=h
  unfold dS SM at h2
  simp only[dF,sj] at h2
  unfold dY dZ at*
  rw[if_pos h,if_pos h] at*
  have h3:=DN h2.1
  split
  ·exact⟨⟨h3.1,h3.2.1⟩,h3.2.2⟩
  ·rename_i g
   rw[if_neg g,if_neg g] at hle
   have h4:=Li (h2.2.resolve_left g).2.2.2.2
   unfold Bd
   omega
theorem Yz (a b c:Rat):Bd (dY a b c):=(On a b c).1
theorem aaA (a b c:Rat):Bd (dZ a b c):=(On a b c).2
theorem Bd.neg {x:Int}(h:Bd x):Bd (-x):=by unfold Bd at*;omega
theorem Pf {lo hi:Int}{X:Re}(h:tY lo hi X):tY (-hi) (-lo) (-X):=by
 refine⟨j7 (fun k=>?_) h.2,j7 (fun k=>?_) h.1⟩
 ·simp only[ao,aD,aV,bg,qI];grind
 ·simp only[ao,aD,aV,bg,qI];grind
theorem Uj {x y:Int}(h:x≤y): -y≤ -x:=by omega
def Aw (a b c v:Rat):Bool:=dS a b c&&iO v
def De (a b c v:Rat):Int:=if Aw a b c v then aL (dY a b c) (dZ a b c) (-gH v) (-gL v) else 0
def DE (a b c v:Rat):Int:=if Aw a b c v then aH (dY a b c) (dZ a b c) (-gH v) (-gL v) else 0
def H7 (a b c v:Rat):Bool:=Aw a b c v&&wm (dY a b c+ -gH v) (dZ a b c+ -gL v)
section
variable {a b c v:Rat}
theorem D3 (h:Aw a b c v=false):De a b c v=0∧DE a b c v=0∧H7 a b c v=false:=by unfold De DE H7;rw[h];exact⟨rfl,rfl,rfl⟩
theorem Ea (h:Aw a b c v=true):De a b c v=aL (dY a b c) (dZ a b c) (-gH v) (-gL v)∧DE a b c v=aH (dY a b c) (dZ a b c) (-gH v) (-gL v)∧H7 a b c v=wm (dY a b c+ -gH v) (dZ a b c+ -gL v):=by unfold De DE H7;rw[h];exact⟨rfl,rfl,rfl⟩
theorem Fg (a b c v:Rat):Bd (De a b c v):=by
 unfold De;split
 ·exact JD (OZ _ _ _) (Uj (CJ _))
 ·exact Bd.zero
theorem Fp (a b c v:Rat):Bd (DE a b c v):=by
 unfold DE;split
 ·exact J0 (OZ _ _ _) (Uj (CJ _))
 ·exact Bd.zero
theorem UF (h:H7 a b c v=true):tY (De a b c v) (DE a b c v) (am a b c+ -Re.of v):=by
 have h0:=h
 unfold H7 at h
 rw[dF] at h
 obtain⟨e1,e2,_⟩:=Ea h.1
 rw[e1,e2]
 have h2:=h.1
 unfold Aw at h2
 rw[dF] at h2
 exact LT (K0 h2.1) (Pf (GF h2.2)) h.2
end
section
variable (k:Ci) (p:Pt)
def NU:Int:=pL (De p.a1 p.b1 p.c k.x) (DE p.a1 p.b1 p.c k.x) (De p.a1 p.b1 p.c k.x) (DE p.a1 p.b1 p.c k.x)
def P8:Int:=pH (De p.a1 p.b1 p.c k.x) (DE p.a1 p.b1 p.c k.x) (De p.a1 p.b1 p.c k.x) (DE p.a1 p.b1 p.c k.x)
def RO:Bool:=y5 (De p.a1 p.b1 p.c k.x) (DE p.a1 p.b1 p.c k.x) (De p.a1 p.b1 p.c k.x) (DE p.a1 p.b1 p.c k.x) 4
def Pm:Int:=pL (De p.a2 p.b2 p.c k.y) (DE p.a2 p.b2 p.c k.y) (De p.a2 p.b2 p.c k.y) (DE p.a2 p.b2 p.c k.y)
def MX:Int:=pH (De p.a2 p.b2 p.c k.y) (DE p.a2 p.b2 p.c k.y) (De p.a2 p.b2 p.c k.y) (DE p.a2 p.b2 p.c k.y)
def Vt:Bool:=y5 (De p.a2 p.b2 p.c k.y) (DE p.a2 p.b2 p.c k.y) (De p.a2 p.b2 p.c k.y) (DE p.a2 p.b2 p.c k.y) 4
def Ya:Int:=aL (NU k p) (P8 k p) (Pm k p) (MX k p)
def Yi:Int:=aH (NU k p) (P8 k p) (Pm k p) (MX k p)
def smK:Bool:=wm (NU k p+Pm k p) (P8 k p+MX k p)
def ZH:Int:=aL (Ya k p) (Yi k p) (-gH k.q) (-gL k.q)
def ZM:Int:=aH (Ya k p) (Yi k p) (-gH k.q) (-gL k.q)
def rsK:Bool:=wm (Ya k p+ -gH k.q) (Yi k p+ -gL k.q)
def QQ:Bool:=H7 p.a1 p.b1 p.c k.x&&(H7 p.a2 p.b2 p.c k.y&&iO k.q)
def KY:Bool:=QQ k p&&(RO k p&&Vt k p)
def H9:Bool:=KY k p&&smK k p
def CI:Bool:=H9 k p&&rsK k p
def Tx:Bool:=CI k p&&LK (ZH k p) (ZM k p)
def TX:Int:=if CI k p then L9 (ZH k p) (ZM k p) else 0
end
section
variable {k:Ci}{p:Pt}
theorem qR (h:CI k p=false):TX k p=0∧Tx k p=false:=by unfold TX Tx;rw[h];exact⟨rfl,rfl⟩
theorem I7 (h:CI k p=true):TX k p=L9 (ZH k p) (ZM k p)∧Tx k p=LK (ZH k p) (ZM k p):=by unfold TX Tx;rw[h];exact⟨rfl,rfl⟩
theorem Yt {c:Rat}:am a b (zc b c)=am a b c:=ba fun n=>by
 unfold am zc
 by_cases h:b=0
 ·subst h;simp only[aI,aD,aV];grind
 ·rw[if_neg h]
theorem SG (h:Tx k p=true):TX k p=aO (wz k p):=by
 unfold Tx at h
 rw[dF] at h
 obtain⟨h4,hs⟩:=h
 rw[(I7 h4).1]
 unfold CI H9 KY QQ at h4
 simp only[dF] at h4
 obtain⟨⟨⟨⟨k1,k2,k3⟩,k4,k5⟩,k6⟩,k7⟩:=h4
 have i1:=UF k1
 have i2:=UF k2
 have j1:tY (NU k p) (P8 k p) _:=L5 i1 i1 k4
 have j2:tY (Pm k p) (MX k p) _:=L5 i2 i2 k5
 have j3:tY (Ya k p) (Yi k p) _:=LT j1 j2 k6
 have j4:tY (ZH k p) (ZM k p) _:=LT j3 (Pf (GF k3)) k7
 rw[Jv j4 hs]
 refine congrArg aO (ba fun n=>?_)
 unfold wz pX pY wt
 rw[Yt,Yt]
 simp only[aI,ao,aD,aV,bg]
theorem Jz:Bd (NU k p)∧Bd (P8 k p):=⟨Ds _ _ _ _,CY _ _ _ _⟩
theorem J9:Bd (Pm k p)∧Bd (MX k p):=⟨Ds _ _ _ _,CY _ _ _ _⟩
theorem OF:Bd (Ya k p)∧Bd (Yi k p):=⟨JD (At _ _ _ _) (At _ _ _ _),J0 (At _ _ _ _) (At _ _ _ _)⟩
theorem ZK (hv:tZ p.b1 p.b2 p.c=true) (h:Tx k p=true): -TX k p=jQ k p:=by rw[SG h,EL hv]
theorem Y5 (hv:tZ p.b1 p.b2 p.c=true): -bd (Ac k p) (qC k p) p.c=jQ k p:=by
 rw[iD (yF hv),EL hv,←Ug (yF hv),Yt]
end
def QR (l:Ln) (p:Pt):Re:=Re.of l.a*pX p+Re.of l.b*pY p-Re.of l.c
theorem TN {l:Ln}:am (vA l p) (vB l p) p.c=QR l p:=ba fun n=>by
 unfold QR pX pY wt
 rw[Yt,Yt]
 unfold am vA vB
 simp only[aI,ao,aD,aV];grind
theorem M4 {l:Ln}(hp:GP p):z9 l p=aO (QR l p):=by
 have hv:=hp.v
 have hc:=b9 hp
 unfold z9
 by_cases hb:vB l p=0
 ·rw[Tg (.inl hb),Sp (.inl hb),OA (by decide) (fun h=>absurd rfl h),←TN]
  refine congrArg aO (ba fun n=>?_)
  unfold am
  simp only[aI,aD,aV];grind
 ·have hcc:0<p.c∧iC p.c=false:=by
   unfold tZ at hv
   split at hv
   ·rename_i e
    exact absurd (by unfold vB;rw[e.1,e.2];grind) hb
   grind
  have hc0:p.c≠0:=by have:=hcc.1;grind
  have e1:rB (vB l p) p.c=vB l p:=by unfold rB;rw[if_neg (by rintro(h|h);exact hb h;exact hc0 h)]
  have e2:rC (vB l p) p.c=p.c:=by unfold rC;rw[if_neg (by rintro(h|h);exact hb h;exact hc0 h)]
  rw[e1,e2,OA hc (fun _=>hcc),TN]
def Cv.pos:Cv→Prop
 | .seg ..=>True
 | .arc k _ _ _=>0<k.q
structure CvV (c:Cv):Prop where
 g:c.good
 pos:c.pos
 sp:c.supp c.p=true
 sq:c.supp c.q=true
 ne:cP c.p c.q≠0
theorem d8:cP p q=0↔cx p q=0∧cy p q=0:=by
 show(if cx p q≠0 then cx p q else cy p q)=0↔_
 grind
theorem fg (hp:0≤p.c) (hq:0≤q.c):cP q p= -cP p q:=Ik hp hq
theorem kX (hp:0≤p.c):cP p p=0:=Il hp
theorem CvV.rev (h:CvV c):CvV c.rev:=by
 have hp:=b9 (jK h.g)
 have hq:=b9 (s8 h.g)
 cases c with
 |seg l p q=>exact⟨FY h.g,trivial,h.sq,h.sp,fun e=>h.ne (by have:=fg hp hq;have e2:cP q p=0:=e;show cP p q=0;have h3:cP q p= -cP p q:=this;omega)⟩
 |arc k w p q=>exact⟨FY h.g,h.pos,h.sq,h.sp,fun e=>h.ne (by have:=fg hp hq;have e2:cP q p=0:=e;show cP p q=0;have h3:cP q p= -cP p q:=this;omega)⟩
theorem AA {x y:Re}(h:aO (x-y)=0) (v:Re):aO (x-v)=aO (y-v):=dC (by rw[←h];exact congrArg aO (ba fun n=>by simp only[ao];grind))
section
variable {p q:Pt}(hp:0≤p.c) (hq:0≤q.c) (h:cP p q=0)
include hp hq h
theorem vY (hf:0≤f.c):cx p f=cx q f:=by
 have h1:=(d8.1 h).1
 rw[n8 hp hq] at h1
 rw[n8 hp hf,n8 hq hf];exact AA h1 _
theorem AJ (hf:0≤f.c):cy p f=cy q f:=by
 have h1:=(d8.1 h).2
 rw[rb hp hq] at h1
 rw[rb hp hf,rb hq hf];exact AA h1 _
theorem OH (v:Rat):jm p v=jm q v:=by
 have h1:=(d8.1 h).1
 rw[n8 hp hq] at h1
 rw[nC hp,nC hq];exact AA h1 _
theorem NG (v:Rat):qf p v=qf q v:=by
 have h1:=(d8.1 h).2
 rw[rb hp hq] at h1
 rw[yA hp,yA hq];exact AA h1 _
theorem Bm (k:Ci):j6 k p=j6 k q:=by unfold j6;rw[OH hp hq h,NG hp hq h]
theorem F1 (hf:0≤f.c):ru k f p q=0:=by
 rw[rL,eP,eP,eP,vY hp hq h hf,Bm hp hq h,(d8.1 h).1]
 unfold EV
 unfold BG
 simp
theorem uY (hc:c.good):c.ord p q=0:=by
 have hf:=b9 (jK hc)
 cases c with
 |seg l f t=>
  show(if decide (cP f t>0)=true then-cP p q else cP p q)=0
  grind
 |arc k w f t=>
  show(if (!w)=true then ru k f p q else ru k.mir f.flip p.flip q.flip)=0
  split
  ·exact F1 hp hq h hf
  ·refine F1 (p:=p.flip) (q:=q.flip) hp hq (d8.2 ⟨?_,?_⟩) (f:=f.flip) hf
   ·rw[lT hp hq,(d8.1 h).1];rfl
   ·exact(d8.1 h).2
end
theorem rd (hc:c.good) (hp:GP p) (hq:GP q) (h:c.ord p q<0):cP p q≠0:=fun e=>by
 have:=uY (b9 hp) (b9 hq) e hc
 omega
theorem Bj {x:Pt}:lE c [] x=[x]:=rfl
theorem xZ {x:Pt}(h:c.ord o x<0):lE c (o::l) x=o::lE c l x:=by
 have e:wu c x (o::l)=wu c x l+1:=by show(if c.ord o x<0 then wu c x l+1 else 0)=_;rw[if_pos h]
 unfold lE
 grind
theorem xY {x:Pt}(h: ¬c.ord o x<0):lE c (o::l) x=if cP o x=0 then o::l else x::o::l:=by
 have e:wu c x (o::l)=0:=by show(if c.ord o x<0 then wu c x l+1 else 0)=_;rw[if_neg h]
 unfold lE
 grind
def yL:List Pt→Prop
 |p::q::l=>cP p q≠0∧yL (q::l)
 |_=>True
theorem MW (h:yL (o::l)):yL l:=by
 cases l with
 |nil=>trivial
 |cons p l=>exact h.2
theorem HZ {c:Cv}(hc:c.good) {x:Pt}(hx:GP x): ∀ {l:List Pt},(∀p∈l,GP p)→yL l→yL (lE c l x)
 |[],_,_=>trivial
 |o::l,hl,h=>by
  by_cases g:c.ord o x<0
  ·rw[xZ g]
   have ih:=HZ hc hx (l:=l) (fun p hp=>hl p (gN _ hp)) (MW h)
   have ho:=rd hc (hl o gT) hx g
   cases l with
   |nil=>exact⟨ho,trivial⟩
   |cons p l=>
    by_cases g2:c.ord p x<0
    ·rw[xZ g2] at ih⊢;exact⟨h.1,ih⟩
    ·rw[xY g2] at ih⊢
     by_cases e:cP p x=0
     ·rw[if_pos e];exact h
     ·rw[if_neg e] at ih⊢;exact⟨ho,ih⟩
  ·rw[xY g]
   by_cases e:cP o x=0
   ·rw[if_pos e];exact h
   ·rw[if_neg e]
    refine⟨fun e2=>e ?_,h⟩
    rw[fg (b9 hx) (b9 (hl o gT)),e2];rfl
theorem F7 {c:Cv}(hc:c.good): ∀ {l out:List Pt},(∀p∈l,GP p)→(∀p∈out,GP p)→yL out→yL (l.foldl (lE c) out)
 |[],_,_,_,h=>h
 |x::l,out,hl,ho,h=>by
  refine F7 hc (l:=l) (out:=lE c out x) (fun p hp=>hl p (gN _ hp)) (fun p hp=>?_) (HZ hc (hl x gT) ho h)
  rcases rO hp with e|e
  ·exact ho p e
  ·rw[e];exact hl x gT
theorem Ml (hc:c.good) (hl: ∀p∈l,GP p):yL (qy c l):=F7 hc hl (fun p hp=>by cases hp) trivial
theorem C5 {c:Cv}: ∀ {l:List Pt}{d:Cv},yL l→d∈jX c l→ ∃p q,p∈l∧q∈l∧cP p q≠0∧d=c.ends p q
 |p::q::l,d,ha,h=>by
  rcases dM.1 (show d∈c.ends p q::jX c (q::l) from h) with h|h
  ·exact⟨p,q,gT,gN _ gT,ha.1,h⟩
  ·obtain⟨p',q',h1,h2,h3,h4⟩:=C5 ha.2 h
   exact⟨p',q',gN _ h1,gN _ h2,h3,h4⟩
 |[_],d,_,h=>by cases h
 |[],d,_,h=>by cases h
theorem NM (c:Cv) (p q:Pt):(c.ends p q).p=p:=by cases c<;>rfl
theorem OE (c:Cv) (p q:Pt):(c.ends p q).q=q:=by cases c<;>rfl
theorem Dk (c:Cv) (p q x:Pt):(c.ends p q).supp x=c.supp x:=by cases c<;>rfl
theorem PN (h:c.pos) (p q:Pt):(c.ends p q).pos:=by cases c<;>exact h
theorem Fl (h:c.on p=true):c.supp p=true:=by
 unfold Cv.on at h
 grind
theorem SO (h:CvV c) (hL: ∀p∈L,GP p) (hs: ∀p∈L,c.supp p=true): ∀d∈mN c L,CvV d:=by
 intro d hd
 have hG: ∀p∈ [c.p,c.q]++L,GP p:=by
  intro p hp
  simp only[List.cons_append,sv,dM] at hp
  rcases hp with e|e|e
  ·rw[e];exact jK h.g
  ·rw[e];exact s8 h.g
  grind
 have hS: ∀p∈ [c.p,c.q]++L,c.supp p=true:=by
  intro p hp
  simp only[List.cons_append,sv,dM] at hp
  rcases hp with e|e|e
  ·rw[e];exact h.sp
  ·rw[e];exact h.sq
  grind
 obtain⟨p,q,h1,h2,h3,rfl⟩:=C5 (Ml h.g hG) hd
 have m1:=mX h1
 have m2:=mX h2
 exact⟨Mm h.g (hG p m1) (hG q m2),PN h.pos p q,by rw[NM,Dk];exact hS p m1,by rw[OE,Dk];exact hS q m2,by rw[NM,OE];exact h3⟩
theorem K8 (a b:Rat):pX (rP a b)=Re.of a:=ba fun n=>by unfold pX wt am;simp only[aI,aD,aV,rP];grind
theorem Ua (a b:Rat):pY (rP a b)=Re.of b:=ba fun n=>by unfold pY wt am;simp only[aI,aD,aV,rP];grind
theorem Wl (hp:GP (rP a b)) (h:(a-k.x)*(a-k.x)+(b-k.y)*(b-k.y)=k.q):jQ k (rP a b)=0:=by
 rw[y8 hp]
 unfold wz
 rw[K8,Ua,wN,wN,gg,gg,Wn,wN,ca,h,Bx.2 (show k.q-k.q=0 by grind)];rfl
theorem ze {q:Rat}(_h0:0<q) (hs:iC q=true):rt q*rt q=q:=by
 have hs2:=hs
 unfold iC Cy at hs2
 simp only[dF,beq_iff_eq] at hs2
 have hd:bO (q.den:Int)≠0:=by have:=xP (den_pos q);omega
 have hdq:((bO (q.den:Int):Int):Rat)≠0:=by simpa using hd
 have h2:rt q*((bO (q.den:Int):Int):Rat)=((bO q.num:Int):Rat):=by unfold rt;rw[Rat.divInt_eq_div,no hdq]
 have h3:=tN q
 have e1:((q.num:Int):Rat)=((bO q.num:Int):Rat)*((bO q.num:Int):Rat):=by rw[←fE,hs2.1]
 have e2:(((q.den:Int)):Rat)=((bO (q.den:Int):Int):Rat)*((bO (q.den:Int):Int):Rat):=by rw[←fE,hs2.2]
 grind
theorem Nx (s:Rat) (hs:s*s=1) (h0:0<k.q) (hp:GP (dU k.x s k.y 0 k.q)):jQ k (dU k.x s k.y 0 k.q)=0:=by
 cases hq:iC k.q with
 |true=>
  have e:dU k.x s k.y 0 k.q=rP (k.x+s*rt k.q) (k.y+0*rt k.q):=by unfold dU;rw[hq];rfl
  rw[e] at hp⊢
  refine Wl hp ?_
  have:=ze h0 hq
  grind
 |false=>
  have e:dU k.x s k.y 0 k.q=⟨k.x,s,k.y,0,k.q⟩:=by unfold dU;rw[hq];rfl
  rw[y8 hp]
  have hc:(0:Rat)≤k.q:=by grind
  have h:=my hc
  have e2:wz k ⟨k.x,s,k.y,0,k.q⟩=Re.rt k.q*Re.rt k.q-Re.of k.q:=ba fun n=>by
   unfold wz pX pY
   rw[pk,pk]
   simp only[aI,ao,aD,aV];grind
  grind
theorem Fb (hk:GK k) (h0:0<k.q):jQ k (fY k)=0:=Nx (-1) (by decide+kernel) h0 (qZ hk h0)
theorem Ex (hk:GK k) (h0:0<k.q):jQ k (fR k)=0:=Nx 1 (by decide+kernel) h0 (q5 hk h0)
def Cv.inner (c:Cv) (p:Pt):Bool:=c.on p&&(!(cP c.p p==0)&& !(cP c.q p==0))
def Cv.mono:Cv→Bool
 | .seg _ p q=> !decide (cP p q≥0)
 | .arc k w p q=> !decide (cP p q≥0)&&(!(Cv.arc k w p q).inner (fY k)&& !(Cv.arc k w p q).inner (fR k))
def Cv.vert:Cv→Bool
 | .seg _ p q=>cx p q==0
 | .arc ..=>false
def zZ (k:Ci) (p:Pt):Int:=if j6 k p then 0 else 1
theorem WH (h:decide (qf p k.y>0)=false) (g:(qf p k.y==0)=false):zZ k p=1:=by unfold zZ;rw[Qv h g];rfl
theorem aay (h:decide (qf p k.y>0)=true):zZ k p=0:=by unfold zZ;rw[Uu h];rfl
theorem aaE (h:decide (qf p k.y>0)=false) (g:(qf p k.y==0)=true) (e:decide (jm p k.x>0)=true):zZ k p=0:=by unfold zZ;rw[Im h g,e];rfl
theorem Yr (h:decide (qf p k.y>0)=false) (g:(qf p k.y==0)=true) (e:decide (jm p k.x>0)=false):zZ k p=1:=by unfold zZ;rw[Im h g,e];rfl
theorem PL (k:Ci) (p:Pt):0≤zZ k p∧zZ k p≤1:=by unfold zZ;split<;>omega
theorem Xx (h:(zZ k p==zZ k q)=false):ns k p q=zZ k p-zZ k q:=by
 unfold ns As zZ at*
 grind
theorem Tr (h:(zZ k p==zZ k q)=true) (g:(zZ k p==0)=true):ns k p q= -cx p q:=by
 unfold ns As zZ at*
 grind
theorem Q6 (h:(zZ k p==zZ k q)=true) (g:(zZ k p==0)=false):ns k p q=cx p q:=by
 unfold ns As zZ at*
 grind
theorem Pi (k:Ci) (f p:Pt):0≤rS k f p∧rS k f p≤2:=by unfold rS LP;repeat' split<;>omega
theorem WM (h:(ns k p f==0)=true):rS k f p=0:=by unfold rS LP;rw[if_pos (by simpa using h)]
theorem V2 (h:(ns k p f==0)=false) (g:decide (ns k p f>0)=true):rS k f p=1:=by unfold rS LP;rw[if_neg (by simpa using h),if_pos (of_decide_eq_true g)]
theorem Wo (h:(ns k p f==0)=false) (g:decide (ns k p f>0)=false):rS k f p=2:=by unfold rS LP;rw[if_neg (by simpa using h),if_neg (of_decide_eq_false g)]
theorem YZ (h:(rS k f p==rS k f q)=false):xn k f p q=XO (rS k f p-rS k f q):=by
 unfold xn uz;rw[if_pos (show LP (ns k p f)≠LP (ns k q f) from by simpa [rS] using h)];rfl
theorem Zp (h:(rS k f p==rS k f q)=true):xn k f p q=XO (ns k p q):=by
 unfold xn uz;rw[if_neg (show ¬LP (ns k p f)≠LP (ns k q f) from by simpa [rS] using h)]
theorem aaf (h:c.on p=false):c.inner p=false:=by unfold Cv.inner;rw[h];rfl
theorem Xt (h:c.on p=true) (g:(!(cP c.p p==0))=false):c.inner p=false:=by unfold Cv.inner;rw[h,g];rfl
theorem U4 (h:c.on p=true) (g:(!(cP c.p p==0))=true):c.inner p= !(cP c.q p==0):=by unfold Cv.inner;rw[h,g];rfl
theorem yp (h:c.supp p=true):c.on p=(decide (c.ord c.p p≤0)&&decide (c.ord p c.q≤0)):=by unfold Cv.on;rw[h,fW]
theorem VD {q:Rat}(hb: ¬(u=0∧v=0)):Md u v (cc u (zc u q) (zc v q))=q:=by
 unfold Md
 rw[if_neg hb]
 by_cases h:u=0
 ·rw[Fn h,nF (fun e=>hb ⟨h,e⟩)]
 ·rw[zU h,nF h]
theorem dv1 (n:Int):Rat.divInt n 1=(n:Rat):=by rw[Rat.divInt_eq_div];have:((1:Int):Rat)=1:=rfl;rw[this];grind
theorem yW:Ok Tryz.prog 236 [] [dR 0]:=by
 refine bW Tryz.func236 rfl<|ac rfl (fm (by omega) (by omega)) ?_
 refine ah ?_
 rw[JK]
 exact aQ aX rfl aa
theorem yB {c:Rat}:Ok Tryz.prog 320 [dR a,dR b,dR c] [.a ((cR a++cR b++cR (zc b c)))]:=by
 refine bW Tryz.func320 rfl<|ac rfl (gJ) ?_
 refine df rfl (fun hc1=>?_) (fun hc1=>?_)
 ·refine ac rfl (yW) ?_
  refine ar (az (us:=(cR a++cR b++cR 0)) kT js rfl rfl rfl) ?_
  refine ah ?_
  rw[EM (qk hc1)]
  exact aQ cG rfl aa
 ·refine ar (az (us:=(cR a++cR b++cR c)) kT js rfl rfl rfl) ?_
  refine ah ?_
  rw[nF (nW hc1)]
  exact aQ cG rfl aa
theorem F9 {c k:Rat}(ha:Rz 6000000 a) (hb:Rz 6000000 b) (hk:Rz 6000000 k):Ok Tryz.prog 363 [.a ((cR a++cR b++cR c)),dR k] [.a ((cR (a*k)++cR (b*k)++cR (zc (b*k) c)))]:=by
 refine bW Tryz.func363 rfl<|cz 11 [] ?_
 refine aC rfl (cB (aE ha) (aE hk)) ?_
 refine aC rfl (cB (aE hb) (aE hk)) ?_
 refine aC rfl (yB) ?_
 exact ah (aQ cG rfl aa)
theorem qu {c:Rat}(ha:Rz 400000 a) (hb:Rz 400000 b) (hc:Rz 400000 c):Ok Tryz.prog 314 [.a ((cR a++cR b++cR c))] [dI (nK a b c)]:=by
 have hn:(a.den:Int)*((b*b*c).den:Int)≠0:=io (jp a) (jp (b*b*c))
 refine bW Tryz.func314 rfl<|ac rfl (cn) ?_
 refine df rfl (fun hc1=>?_) (fun hc1=>?_)
 ·refine ac rfl (wF (aE ha)) ?_
  refine ah ?_
  rw[P5 (qk hc1)]
  exact aQ dJ rfl aa
 ·refine cz 9 [] ?_
  refine aC rfl (cB (aE hb) (aE hb)) ?_
  refine aC rfl (cB (aE (aF hb hb)) (aE hc))<|cz 9 [4,5,999999] ?_
  refine DQ.mk<|fp (dL dJ rfl) rfl rfl rfl rfl<|dc ?_
  refine DQ.mk<|fp (dL dJ rfl) rfl rfl rfl rfl<|dc ?_
  refine cz 9 [] ?_
  refine aC rfl (fS (dT (cS ha)) (dT (cS ha))) ?_
  refine aC rfl (fS (dT (er (aF (aF hb hb) hc))) (dT (cS (aF (aF hb hb) hc)))) ?_
  refine aC rfl (fS (dT (dh (cS ha) (cS ha))) (dT (dh (er (aF (aF hb hb) hc)) (cS (aF (aF hb hb) hc))))) ?_
  refine ac rfl (BZ (dT (dh (dh (cS ha) (cS ha)) (dh (er (aF (aF hb hb) hc)) (cS (aF (aF hb hb) hc)))))) ?_
  refine ac rfl (cn) ?_
  refine df rfl (fun hc2=>?_) (fun hc2=>?_)
  ·refine cz 4 [] ?_
   refine aC rfl (iy (by omega) (by omega))<|aC rfl (sP (dT (Sz.isq (dh (dh (cS ha) (cS ha)) (dh (er (aF (aF hb hb) hc)) (cS (aF (aF hb hb) hc)))))) (dT (cX (k:=3) (by decide) (by decide) (by decide))))<|aC rfl (yi (dT (Sz.addm (Sz.isq (dh (dh (cS ha) (cS ha)) (dh (er (aF (aF hb hb) hc)) (cS (aF (aF hb hb) hc))))) (cX (k:=3) (by decide) (by decide) (by decide)))))<|cz 20 [9,10,999999] ?_
   refine aC rfl (fS (dT (er ha)) (dT (cS (aF (aF hb hb) hc)))) ?_
   refine aC rfl (sP (dT (dh (er ha) (cS (aF (aF hb hb) hc)))) (dT (Sz.neg (Sz.addm (Sz.isq (dh (dh (cS ha) (cS ha)) (dh (er (aF (aF hb hb) hc)) (cS (aF (aF hb hb) hc))))) (cX (k:=3) (by decide) (by decide) (by decide)))))) ?_
   refine aC rfl (fS (dT (cS ha)) (dT (cS (aF (aF hb hb) hc)))) ?_
   refine aC rfl (mO (dT (Sz.addm (dh (er ha) (cS (aF (aF hb hb) hc))) (Sz.neg (Sz.addm (Sz.isq (dh (dh (cS ha) (cS ha)) (dh (er (aF (aF hb hb) hc)) (cS (aF (aF hb hb) hc))))) (cX (k:=3) (by decide) (by decide) (by decide)))))) (dT (dh (cS ha) (cS (aF (aF hb hb) hc)))) (by assumption)) ?_
   refine DQ.mk<|fp (dL dJ rfl) rfl rfl rfl rfl<|dc ?_
   refine DQ.mk<|fp (dL dJ rfl) rfl rfl rfl rfl<|dc ?_
   refine ah ?_
   rw[T9 (nW hc1) (Fr hc2)]
   exact aQ dJ rfl aa
  ·refine cz 20 [9,10,999999] ?_
   refine aC rfl (fS (dT (er ha)) (dT (cS (aF (aF hb hb) hc)))) ?_
   refine aC rfl (sP (dT (dh (er ha) (cS (aF (aF hb hb) hc)))) (dT (Sz.isq (dh (dh (cS ha) (cS ha)) (dh (er (aF (aF hb hb) hc)) (cS (aF (aF hb hb) hc))))))) ?_
   refine aC rfl (fS (dT (cS ha)) (dT (cS (aF (aF hb hb) hc)))) ?_
   refine aC rfl (mO (dT (Sz.addm (dh (er ha) (cS (aF (aF hb hb) hc))) (Sz.isq (dh (dh (cS ha) (cS ha)) (dh (er (aF (aF hb hb) hc)) (cS (aF (aF hb hb) hc))))))) (dT (dh (cS ha) (cS (aF (aF hb hb) hc)))) (by assumption)) ?_
   refine DQ.mk<|fp (dL dJ rfl) rfl rfl rfl rfl<|dc ?_
   refine DQ.mk<|fp (dL dJ rfl) rfl rfl rfl rfl<|dc ?_
   refine ah ?_
   rw[Uc (nW hc1) (Bp hc2)]
   exact aQ dJ rfl aa
theorem fT:Ok Tryz.prog 130 [dR a] [.a ((cR a++cR 0++cR 0))]:=by
 refine bW Tryz.func130 rfl<|cz 4 [] ?_
 refine aC rfl (yW) ?_
 refine aC rfl (yW) ?_
 refine aq (az (us:=(cR a++cR 0++cR 0)) kT js rfl rfl rfl) ?_
 exact ah (aQ cG rfl aa)
theorem Do {c:Rat}(ha:Rz 6000000 a) (hb:Rz 6000000 b):Ok Tryz.prog 229 [.a ((cR a++cR b++cR c))] [.a ((cR (-a)++cR (-b)++cR c))]:=by
 refine bW Tryz.func229 rfl<|cz 9 [] ?_
 refine aC rfl (dD (aE ha)) ?_
 refine aC rfl (dD (aE hb)) ?_
 refine aq (az (us:=(cR (-a)++cR (-b)++cR c)) kT js rfl rfl rfl) ?_
 exact ah (aQ cG rfl aa)
theorem Bw {c:Rat}(ha:Rz 1000000 a) (hb:Rz 1000000 b) (hc:Rz 1000000 c):Ok Tryz.prog 362 [.a ((cR a++cR b++cR c))] [dR (a*a-b*b*c)]:=by
 refine bW Tryz.func362 rfl<|cz 14 [] ?_
 refine aC rfl (cB (aE ha) (aE ha)) ?_
 refine aC rfl (cB (aE hb) (aE hb)) ?_
 refine aC rfl (cB (aE (aF hb hb)) (aE hc)) ?_
 refine aC rfl (ei (aE (aF ha ha)) (aE (aF (aF hb hb) hc))) ?_
 exact ah (aQ aX rfl aa)
theorem Iy {c:Rat}(ha:Rz 1000000 a) (hb:Rz 1000000 b) (hc:Rz 1000000 c):Ok Tryz.prog 361 [.a ((cR a++cR b++cR c))] [.c (.i .i64 (vi a b c))]:=by
 have hp:=jr (dA a 0) (dA (a*a-b*b*c) 0)
 refine bW Tryz.func361 rfl<|cz 8 [] ?_
 refine aC rfl (cn) ?_
 refine aC rfl (cn) ?_
 refine jC (bq rfl) (fun c1 hb1=>?_)
 cases c1
 ·refine df rfl (fun hc2=>?_) (fun hc2=>?_)
  ·refine ah ?_
   rw[V1 hc2]
   exact ak aa
  ·refine df rfl (fun hc3=>?_) (fun hc3=>?_)
   ·refine ah ?_
    rw[Vv hb1 hc2 hc3]
    exact ak aa
   ·refine ac rfl (Bw (by assumption) (by assumption) (by assumption))<|ac rfl (cn)<|ar (bZ ((aw a 0)*(aw (a*a-b*b*c) 0)) (fJ (by omega) (by omega)) rfl)<|ah ?_
    rw[Vr hb1 hc2 hc3]
    exact ak aa
 ·refine rx rfl<|ah ?_
  rw[Wm hb1]
  exact ak aa
theorem zq {c:Rat}(ha:Rz 6000000 a) (hd:Rz 6000000 d):Ok Tryz.prog 316 [.a ((cR a++cR b++cR c)),dR d] [.a ((cR (a-d)++cR b++cR c))]:=by
 refine bW Tryz.func316 rfl<|ac rfl (ei (aE ha) (aE hd)) ?_
 refine nM (aY (us:=(cR (a-d)++cR b++cR c)) aX rfl rfl rfl rfl (dO rfl) rfl rfl) ?_
 exact ah (aQ cG rfl aa)
theorem I6 {c e f:Rat}(ha:Rz 2000000 a) (hb:Rz 160000 b) (hc:Rz 160000 c) (hd:Rz 2000000 d) (he:Rz 160000 e) (hf:Rz 160000 f) (h1:Rz 160000 (a-d)) (c0:0≤c) (f0:0≤f):Ok Tryz.prog 318 [.a ((cR a++cR b++cR c)),.a ((cR d++cR e++cR f))] [.c (.b (eE (a-d) b (-e) 0 c f==0))]:=by
 refine bW Tryz.func318 rfl ?_
 refine ac rfl (lk (by assumption) (by assumption) (by assumption) (by assumption) (by assumption) (by assumption) (by assumption) (by assumption) (by assumption)) ?_
 exact ah (ak aa)
theorem dX {c:Rat}(ha:Rz 2000000 a) (hb:Rz 160000 b) (hc:Rz 160000 c) (hd:Rz 2000000 d) (h1:Rz 160000 (a-d)) (c0:0≤c):Ok Tryz.prog 227 [.a ((cR a++cR b++cR c)),dR d] [.c (.i .i64 (eE (a-d) b (-0) 0 c 0))]:=by
 have z0:Rz 160000 (0:Rat):=eK (by decide)
 refine bW Tryz.func227 rfl<|cz 5 [] ?_
 refine aC rfl (fT) ?_
 refine aC rfl (lk (by assumption) (by assumption) (by assumption) (by assumption) z0 z0 h1 c0 kO) ?_
 exact ah (ak aa)
theorem AT {c:Rat}(hc:0≤c):eE (a-d) b (-0) 0 c 0=bd (a-d) b c:=by
 rw[mW hc kO,iD hc]
 exact congrArg aO (ba fun n=>by unfold am;simp only[aI,ao,aD,aV];grind)
theorem ON (hp:GP p) (hq:GP q):Ok Tryz.prog 51 [.a (ai p),.a (ai q)] [.c (.i .i64 (cP p q))]:=bX (wx (hp.a1.mono (by decide)) (hp.b1.mono (by decide)) (hp.a2.mono (by decide)) (hp.b2.mono (by decide)) (hp.c.mono (by decide)) (hq.a1.mono (by decide)) (hq.b1.mono (by decide)) (hq.a2.mono (by decide)) (hq.b2.mono (by decide)) (hq.c.mono (by decide)) ((hp.a1.sub hq.a1).mono (by decide)) ((hp.a2.sub hq.a2).mono (by decide))) (HK (b9 hp) (b9 hq))
theorem xQ (hp:GP p) (hq:GP q):Ok Tryz.prog 220 [.a (ai p),.a (ai q)] [.c (.b (cP p q==0))]:=eG (Ht (hp.a1.mono (by decide)) (hp.b1.mono (by decide)) (hp.a2.mono (by decide)) (hp.b2.mono (by decide)) (hp.c.mono (by decide)) (hq.a1.mono (by decide)) (hq.b1.mono (by decide)) (hq.a2.mono (by decide)) (hq.b2.mono (by decide)) (hq.c.mono (by decide)) ((hp.a1.sub hq.a1).mono (by decide)) ((hp.a2.sub hq.a2).mono (by decide))) (by rw[HK (b9 hp) (b9 hq)];rfl)
theorem xCX (hp:GP p) (hq:GP q):Ok Tryz.prog 139 [.a ((cR p.a1++cR p.b1++cR (zc p.b1 p.c))),.a ((cR q.a1++cR q.b1++cR (zc q.b1 q.c)))] [.c (.i .i64 (cx p q))]:=lk (hp.a1.mono (by decide)) (hp.b1.mono (by decide)) (gw (hp.c.mono (by decide)) (by decide)) (hq.a1.mono (by decide)) (hq.b1.mono (by decide)) (gw (hq.c.mono (by decide)) (by decide)) ((hp.a1.sub hq.a1).mono (by decide)) (jW (b9 hp)) (jW (b9 hq))
theorem xEX (hp:GP p) (hq:GP q):Ok Tryz.prog 318 [.a ((cR p.a1++cR p.b1++cR (zc p.b1 p.c))),.a ((cR q.a1++cR q.b1++cR (zc q.b1 q.c)))] [.c (.b (cx p q==0))]:=I6 (hp.a1.mono (by decide)) (hp.b1.mono (by decide)) (gw (hp.c.mono (by decide)) (by decide)) (hq.a1.mono (by decide)) (hq.b1.mono (by decide)) (gw (hq.c.mono (by decide)) (by decide)) ((hp.a1.sub hq.a1).mono (by decide)) (jW (b9 hp)) (jW (b9 hq))
theorem xRX (hp:GP p) (hv:Rz 400 v):Ok Tryz.prog 227 [.a ((cR p.a1++cR p.b1++cR (zc p.b1 p.c))),dR v] [.c (.i .i64 (jm p v))]:=bX (dX (hp.a1.mono (by decide)) (hp.b1.mono (by decide)) (gw (hp.c.mono (by decide)) (by decide)) (hv.mono (by decide)) ((hp.a1.sub hv).mono (by decide)) (jW (b9 hp))) (AT (jW (b9 hp)))
theorem xRY (hp:GP p) (hv:Rz 400 v):Ok Tryz.prog 227 [.a ((cR p.a2++cR p.b2++cR (zc p.b2 p.c))),dR v] [.c (.i .i64 (qf p v))]:=bX (dX (hp.a2.mono (by decide)) (hp.b2.mono (by decide)) (gw (hp.c.mono (by decide)) (by decide)) (hv.mono (by decide)) ((hp.a2.sub hv).mono (by decide)) (jW (b9 hp))) (AT (jW (b9 hp)))
theorem pr (hx:Rz 6000000 x) (hy:Rz 6000000 y):Ok Tryz.prog 134 [dR x,dR y] [dR (x+y)]:=by
 refine bW Tryz.func134 rfl<|ac rfl (iG (aE hx) (aE hy)) ?_
 exact ah (aQ aX rfl aa)
theorem r7 (hx:Rz 6000000 x) (hy:Rz 6000000 y):Ok Tryz.prog 133 [dR x,dR y] [dR (x-y)]:=by
 refine bW Tryz.func133 rfl<|ac rfl (ei (aE hx) (aE hy)) ?_
 exact ah (aQ aX rfl aa)
theorem fP (hx:Rz 6000000 x) (hy:Rz 6000000 y):Ok Tryz.prog 135 [dR x,dR y] [dR (x*y)]:=by
 refine bW Tryz.func135 rfl<|ac rfl (cB (aE hx) (aE hy)) ?_
 exact ah (aQ aX rfl aa)
theorem BB (hx:Rz 6000000 x) (hy:Rz 6000000 y):Ok Tryz.prog 297 [dR x,dR y] [dR (x+y)]:=by
 refine bW Tryz.func297 rfl<|ac rfl (iG (aE hx) (aE hy)) ?_
 exact ah (aQ aX rfl aa)
theorem o5 (hx:Rz 6000000 x) (hy:Rz 6000000 y):Ok Tryz.prog 296 [dR x,dR y] [dR (x-y)]:=by
 refine bW Tryz.func296 rfl<|ac rfl (ei (aE hx) (aE hy)) ?_
 exact ah (aQ aX rfl aa)
theorem np (hx:Rz 6000000 x) (hy:Rz 6000000 y):Ok Tryz.prog 298 [dR x,dR y] [dR (x*y)]:=by
 refine bW Tryz.func298 rfl<|ac rfl (cB (aE hx) (aE hy)) ?_
 exact ah (aQ aX rfl aa)
theorem Vs {m:Rat}(ha:Rz 2000000 a) (hb:Rz 2000000 b) (hm:Rz 2000000 m):Ok Tryz.prog 136 [dR a,dR b,dR m] [.c (.i .i64 (bd a b m))]:=by
 have ka:Rz 6000000 a:=ha.m_
 have kb:Rz 6000000 b:=hb.m_
 have hp:=jr (dA b 0) (dA m 0)
 have hp2:=jr (dA a 0) (dA (a*a) (b*b*m))
 refine bW Tryz.func136 rfl<|cz 9 [] ?_
 refine aC rfl (cn) ?_
 refine aC rfl (cn) ?_
 refine aC rfl (cn) ?_
 refine aq (bZ ((aw b 0)*(aw m 0)) (fJ (by omega) (by omega)) rfl) ?_
 refine jC (bq rfl) (fun c1 hb1=>?_)
 cases c1
 ·refine df rfl (fun hc2=>?_) (fun hc2=>?_)
  ·refine ah ?_
   unfold bd
   rw[yw hc2]
   exact ak aa
  ·refine df rfl (fun hc3=>?_) (fun hc3=>?_)
   ·refine ah ?_
    unfold bd
    rw[yn hc3]
    exact ak aa
   ·refine cz 12 [] ?_
    refine aC rfl (fP (aE ha) (aE ha)) ?_
    refine aC rfl (fP (aE hb) (aE hb)) ?_
    refine aC rfl (fP (aE (aF hb hb)) (aE hm)) ?_
    refine aC rfl (kQ (aE (aF ha ha)) (aE (aF (aF hb hb) hm))) ?_
    refine aq (bZ ((aw a 0)*(aw (a*a) ((b*b)*m))) (fJ (by omega) (by omega)) rfl)<|ah ?_
    unfold bd
    rw[yc hc3 hb1 hc2]
    exact ak aa
 ·refine rx rfl<|ah ?_
  unfold bd
  rw[yG hb1]
  exact ak aa
theorem KJ {x y:Int}(hx:Bd x) (hy:Bd y):Ok Tryz.prog 241 [.a (([.i .i64 x]++[.i .i64 y]))] [.a (([.i .i64 (-y)]++[.i .i64 (-x)]))]:=by
 unfold Bd at hx hy
 refine bW Tryz.func241 rfl<|ar (fi (r:= -y) rfl (by rw[Int.zero_sub];exact ii (by omega) (by omega)) rfl) ?_
 refine ar (fi (r:= -x) rfl (by rw[Int.zero_sub];exact ii (by omega) (by omega)) rfl) ?_
 refine ar (az (us:=([.i .i64 (-y)]++[.i .i64 (-x)])) qx pt rfl rfl rfl) ?_
 exact ah (aQ jz rfl aa)
theorem Po {c:Rat}(ha:Rz 4000000 a) (hb:Rz 4000000 b) (hc:Rz 4000000 c) (hv:Rz 4000000 v):Ok Tryz.prog 237 [dR a,dR b,dR c,dR v] [.a (([.i .i64 (De a b c v)]++[.i .i64 (DE a b c v)])),.c (.b (H7 a b c v))]:=by
 refine bW Tryz.func237 rfl<|ar (az (us:=(cR a++cR b++cR c)) kT js rfl rfl rfl) ?_
 refine ac rfl (wG (by assumption) (by assumption) (by assumption))<|ac rfl (iT (aE hv)) ?_
 refine jC (bq rfl) (fun c1 hb1=>?_)
 cases c1
 ·refine df rfl (fun hc2=>?_) (fun hc2=>?_)
  ·have n1:Aw a b c v=false:=by unfold Aw;rw[eZ hb1,jw hc2];rfl
   refine ar (az (us:=([.i .i64 0]++[.i .i64 0])) qx pt rfl rfl rfl) ?_
   refine ah ?_
   rw[(D3 n1).1,(D3 n1).2.1,(D3 n1).2.2]
   exact aQ jz rfl (ak aa)
  ·have n1:Aw a b c v=true:=by unfold Aw;rw[eZ hb1,eZ hc2];rfl
   refine cz 6 [] ?_
   refine aC rfl (KJ (ui _) (um _)) ?_
   refine aC rfl (v6 (Yz _ _ _) (aaA _ _ _) (Bd.neg (um _)) (Bd.neg (ui _)))<|ah ?_
   rw[(Ea n1).1,(Ea n1).2.1,(Ea n1).2.2]
   exact aQ jz rfl (ak aa)
 ·have n1:Aw a b c v=false:=by unfold Aw;rw[jw hb1];rfl
  refine rx rfl<|ar (az (us:=([.i .i64 0]++[.i .i64 0])) qx pt rfl rfl rfl) ?_
  refine ah ?_
  rw[(D3 n1).1,(D3 n1).2.1,(D3 n1).2.2]
  exact aQ jz rfl (ak aa)
theorem S0 (hk:GK k) (hp:GB p):Ok Tryz.prog 132 [.a (bo k),.a (ai p)] [.c (.i .i64 (TX k p)),.c (.b (Tx k p))]:=by
 refine bW Tryz.func132 rfl ?_
 refine ac rfl (Po (hp.a1.m_) (hp.b1.m_) (hp.c.m_) (hk.x.m_)) ?_
 refine ac rfl (Po (hp.a2.m_) (hp.b2.m_) (hp.c.m_) (hk.y.m_)) ?_
 refine ac rfl (iT (hk.q.m_)) ?_
 refine jC (bq rfl) (fun c1 hb1=>?_)
 cases c1
 ·refine jC (bq rfl) (fun c2 hb2=>?_)
  cases c2
  ·refine df rfl (fun hc3=>?_) (fun hc3=>?_)
   ·have m0:QQ k p=false:=by unfold QQ;rw[show H7 p.a1 p.b1 p.c k.x=true from eZ hb1,show H7 p.a2 p.b2 p.c k.y=true from eZ hb2,show iO k.q=false from jw hc3];rfl
    have m1:KY k p=false:=by unfold KY;rw[m0];rfl
    have m2:H9 k p=false:=by unfold H9;rw[m1];rfl
    have m3:CI k p=false:=by unfold CI;rw[m2];rfl
    refine ah ?_
    rw[(qR m3).1,(qR m3).2]
    exact ak (ak aa)
   ·have n1:QQ k p=true:=by unfold QQ;rw[show H7 p.a1 p.b1 p.c k.x=true from eZ hb1,show H7 p.a2 p.b2 p.c k.y=true from eZ hb2,show iO k.q=true from eZ hc3];rfl
    refine ac rfl (vr (Fg _ _ _ _) (Fp _ _ _ _) (Fg _ _ _ _) (Fp _ _ _ _))<|ac rfl (vr (Fg _ _ _ _) (Fp _ _ _ _) (Fg _ _ _ _) (Fp _ _ _ _)) ?_
    refine jC (bq rfl) (fun c4 hb4=>?_)
    cases c4
    ·refine df rfl (fun hc5=>?_) (fun hc5=>?_)
     ·have m1:KY k p=false:=by unfold KY;rw[n1,show RO k p=true from eZ hb4,show Vt k p=false from jw hc5];rfl
      have m2:H9 k p=false:=by unfold H9;rw[m1];rfl
      have m3:CI k p=false:=by unfold CI;rw[m2];rfl
      refine ah ?_
      rw[(qR m3).1,(qR m3).2]
      exact ak (ak aa)
     ·have n2:KY k p=true:=by unfold KY;rw[n1,show RO k p=true from eZ hb4,show Vt k p=true from eZ hc5];rfl
      refine ac rfl (v6 Jz.1 Jz.2 J9.1 J9.2) ?_
      refine df rfl (fun hc6=>?_) (fun hc6=>?_)
      ·have m2:H9 k p=false:=by unfold H9;rw[n2,show smK k p=false from jw hc6];rfl
       have m3:CI k p=false:=by unfold CI;rw[m2];rfl
       refine ah ?_
       rw[(qR m3).1,(qR m3).2]
       exact ak (ak aa)
      ·have n3:H9 k p=true:=by unfold H9;rw[n2,show smK k p=true from eZ hc6];rfl
       refine cz 10 [15,999999] ?_
       refine aC rfl (KJ (ui _) (um _)) ?_
       refine aC rfl (v6 OF.1 OF.2 (Bd.neg (um _)) (Bd.neg (ui _))) ?_
       refine DQ.mk<|fp (dL jz rfl) rfl rfl rfl rfl<|dc ?_
       refine df rfl (fun hc7=>?_) (fun hc7=>?_)
       ·have m3:CI k p=false:=by unfold CI;rw[n3,show rsK k p=false from jw hc7];rfl
        refine ah ?_
        rw[(qR m3).1,(qR m3).2]
        exact ak (ak aa)
       ·have n4:CI k p=true:=by unfold CI;rw[n3,show rsK k p=true from eZ hc7];rfl
        refine ac rfl (Ha)<|ah ?_
        rw[(I7 n4).1,(I7 n4).2]
        exact ak (ak aa)
    ·refine rx rfl ?_
     have m1:KY k p=false:=by unfold KY;rw[n1,show RO k p=false from jw hb4];rfl
     have m2:H9 k p=false:=by unfold H9;rw[m1];rfl
     have m3:CI k p=false:=by unfold CI;rw[m2];rfl
     refine ah ?_
     rw[(qR m3).1,(qR m3).2]
     exact ak (ak aa)
  ·refine rx rfl ?_
   have m0:QQ k p=false:=by unfold QQ;rw[show H7 p.a1 p.b1 p.c k.x=true from eZ hb1,show H7 p.a2 p.b2 p.c k.y=false from jw hb2];rfl
   have m1:KY k p=false:=by unfold KY;rw[m0];rfl
   have m2:H9 k p=false:=by unfold H9;rw[m1];rfl
   have m3:CI k p=false:=by unfold CI;rw[m2];rfl
   refine ah ?_
   rw[(qR m3).1,(qR m3).2]
   exact ak (ak aa)
 ·refine ar (bq rfl)<|rx rfl ?_
  have m0:QQ k p=false:=by unfold QQ;rw[show H7 p.a1 p.b1 p.c k.x=false from jw hb1];rfl
  have m1:KY k p=false:=by unfold KY;rw[m0];rfl
  have m2:H9 k p=false:=by unfold H9;rw[m1];rfl
  have m3:CI k p=false:=by unfold CI;rw[m2];rfl
  refine ah ?_
  rw[(qR m3).1,(qR m3).2]
  exact ak (ak aa)
theorem PR (k:Ci) (p:Pt):(p.a1-k.x)*(p.a1-k.x)+(p.a2-k.y)*(p.a2-k.y)+p.c*(p.b1*p.b1+p.b2*p.b2)-k.q=Ac k p:=by unfold Ac zf;grind
theorem Qr (hk:GK k) (hp:GB p):Ok Tryz.prog 46 [.a (bo k),.a (ai p)] [.c (.i .i64 (jQ k p))]:=by
 have b1:=SI k p
 have b2:=gC (Ac k p) (qC k p) p.c
 have e3:=Y5 (k:=k) hp.v
 have wA:=PH hk hp
 have wB:=OL hk hp
 refine bW Tryz.func46 rfl ?_
 refine ac rfl (S0 hk hp) ?_
 refine df rfl (fun hc1=>?_) (fun hc1=>?_)
 ·have e4:=ZK hp.v hc1
  refine ar (fi (r:= -TX k p) rfl (by rw[Int.zero_sub];exact ii (by omega) (by omega)) rfl) ?_
  refine ah ?_
  rw[←e4]
  exact ak aa
 ·refine cz 12 [] ?_
  refine aC rfl (r7 (aE (hp.a1)) (aE (hk.x))) ?_
  refine aC rfl (r7 (aE (hp.a2)) (aE (hk.y)))<|cz 8 [9,10,999999] ?_
  refine DQ.mk<|fp (dL aX rfl) rfl rfl rfl rfl<|dc ?_
  refine DQ.mk<|fp (dL aX rfl) rfl rfl rfl rfl<|dc ?_
  refine cz 19 [] ?_
  refine aC rfl (fP (aE (cT (hp.a1) (hk.x))) (aE (cT (hp.a1) (hk.x)))) ?_
  refine aC rfl (fP (aE (cT (hp.a2) (hk.y))) (aE (cT (hp.a2) (hk.y)))) ?_
  refine aC rfl (pr (aE (aF (cT (hp.a1) (hk.x)) (cT (hp.a1) (hk.x)))) (aE (aF (cT (hp.a2) (hk.y)) (cT (hp.a2) (hk.y))))) ?_
  refine aC rfl (fP (aE (hp.b1)) (aE (hp.b1))) ?_
  refine aC rfl (fP (aE (hp.b2)) (aE (hp.b2))) ?_
  refine aC rfl (pr (aE (aF (hp.b1) (hp.b1))) (aE (aF (hp.b2) (hp.b2)))) ?_
  refine aC rfl (fP (aE (hp.c)) (aE (ig (aF (hp.b1) (hp.b1)) (aF (hp.b2) (hp.b2))))) ?_
  refine aC rfl (pr (aE (ig (aF (cT (hp.a1) (hk.x)) (cT (hp.a1) (hk.x))) (aF (cT (hp.a2) (hk.y)) (cT (hp.a2) (hk.y))))) (aE (aF (hp.c) (ig (aF (hp.b1) (hp.b1)) (aF (hp.b2) (hp.b2))))))<|cz 8 [] ?_
  refine aC rfl (fP (aE (cT (hp.a1) (hk.x))) (aE (hp.b1))) ?_
  refine aC rfl (fP (aE (cT (hp.a2) (hk.y))) (aE (hp.b2))) ?_
  refine aC rfl (pr (aE (aF (cT (hp.a1) (hk.x)) (hp.b1))) (aE (aF (cT (hp.a2) (hk.y)) (hp.b2))))<|cz 12 [] ?_
  refine aC rfl (r7 (aE (ig (ig (aF (cT (hp.a1) (hk.x)) (cT (hp.a1) (hk.x))) (aF (cT (hp.a2) (hk.y)) (cT (hp.a2) (hk.y)))) (aF (hp.c) (ig (aF (hp.b1) (hp.b1)) (aF (hp.b2) (hp.b2)))))) (aE (hk.q))) ?_
  refine aC rfl (pr (aE (ig (aF (cT (hp.a1) (hk.x)) (hp.b1)) (aF (cT (hp.a2) (hk.y)) (hp.b2)))) (aE (ig (aF (cT (hp.a1) (hk.x)) (hp.b1)) (aF (cT (hp.a2) (hk.y)) (hp.b2))))) ?_
  refine aC rfl (bX (c:=bd (Ac k p) (qC k p) p.c) (Vs (by rw[PR];exact wA.m_) (wB.m_) (hp.c.m_)) (by rw[PR];rfl))<|aq (fi (r:= -bd (Ac k p) (qC k p) p.c) rfl (Ad b2) rfl) ?_
  refine ah ?_
  rw[←e3]
  exact ak aa
theorem Y8 (hk:GK k) (hp:GP p):Ok Tryz.prog 46 [.a (bo k),.a (ai p)] [.c (.i .i64 (jQ k p))]:=Qr hk hp.gb
theorem vp {c:Rat}(ha:Rz 2000000 a) (hb:Rz 2000000 b) (hc:Rz 2000000 c) (h0: ¬c<0) (hs:iC c=true):Ok Tryz.prog 234 [dR a,dR b,dR c] [.a ((cR (a+b*rt c)++cR 0++cR 0)),.c (.i .i64 0)]:=by
 have kt:Rz 2000000 (rt c):=hc.rt
 have k1:Rz 6000000 (b*rt c):=(hb.mul hc.rt).m_
 refine bW Tryz.func234 rfl<|ac rfl (cn) ?_
 refine df rfl (fun hc1=>?_) (fun hc1=>?_)
 ·exact absurd (Fr hc1) h0
 ·refine ac rfl (CT (aE hc)) ?_
  refine DW.mk<|aS rfl (fun hc2=>?_) (fun hc2=>?_)
  ·refine oC (σ':=⟨30,[(3,.p 3 0),(4,.p 4 0),(6,.p 6 0),(8,.p 8 0)],[(3,38,cR a),(4,38,cR b),(6,129,zR),(8,38,cR (rt c))]⟩) (aA ⟨rfl,rfl,rfl,rfl,trivial⟩ ⟨rfl,rfl,rfl,by rw[←Gc hs];rfl,trivial⟩ rfl)<|nZ ?_
   refine cz 6 [] ?_
   refine aC rfl (cB (aE hb) (HJ)) ?_
   refine aC rfl (iG (aE ha) (aE (aF hb (by assumption))))<|aC rfl (fT) ?_
   exact ah (aQ cG rfl (ak aa))
  ·exact absurd hs (by rw[hc2];decide)
theorem vV {c:Rat}(_ha:Rz 2000000 a) (_hb:Rz 2000000 b) (hc:Rz 2000000 c) (h0: ¬c<0) (hs:iC c=false):Ok Tryz.prog 234 [dR a,dR b,dR c] [.a ((cR a++cR b++cR (zc b c))),.c (.i .i64 0)]:=by
 refine bW Tryz.func234 rfl<|ac rfl (cn) ?_
 refine df rfl (fun hc1=>?_) (fun hc1=>?_)
 ·exact absurd (Fr hc1) h0
 ·refine ac rfl (CT (aE hc)) ?_
  refine df rfl (fun hc2=>?_) (fun hc2=>?_)
  ·exact absurd hc2 (by rw[hs];decide)
  ·refine ac rfl (yB) ?_
   exact ah (aQ cG rfl (ak aa))
theorem Mr {q:Rat}(hx:Rz 100 x) (hu:Rz 100 u) (hy:Rz 100 y) (hv:Rz 100 v) (hq:Rz 200 q) (h0:0<q) (_hb: ¬(u=0∧v=0)) (hs:iC q=true):Ok Tryz.prog 301 [dR x,dR u,dR y,dR v,dR q] [.a (ai (dU x u y v q))]:=by
 have nq: ¬q<0:=by grind
 refine bW Tryz.func301 rfl<|ac rfl (vp (hx.m_) (hu.m_) (hq.m_) nq hs)<|ac rfl (vp (hy.m_) (hv.m_) (hq.m_) nq hs)<|ac rfl (Fk (v':=0) (xF (eK (by decide)) (eK (by decide)) (fun e=>e.1 rfl)) rfl rfl rfl rfl (KG rfl rfl))<|ah ?_
 rw[show dU x u y v q=⟨x+u*rt q,0,y+v*rt q,0,0⟩ from by unfold dU;rw[hs];rfl]
 exact aQ bE rfl aa
theorem Mq {q:Rat}(hx:Rz 100 x) (hu:Rz 100 u) (hy:Rz 100 y) (hv:Rz 100 v) (hq:Rz 200 q) (h0:0<q) (hb: ¬(u=0∧v=0)) (hs:iC q=false):Ok Tryz.prog 301 [dR x,dR u,dR y,dR v,dR q] [.a (ai (dU x u y v q))]:=by
 have nq: ¬q<0:=by grind
 have hz: ∀w:Rat,Rz 6000000 (zc w q):=fun w=>gw (hq.m_) (by decide)
 refine bW Tryz.func301 rfl<|ac rfl (vV (hx.m_) (hu.m_) (hq.m_) nq hs)<|ac rfl (vV (hy.m_) (hv.m_) (hq.m_) nq hs)<|ac rfl (Fk (v':=q) (xF (hz _) (hz _) (fun e=>e.2.2 (by rw[nF e.1,nF e.2.1]))) rfl rfl rfl rfl (VD hb))<|ah ?_
 rw[show dU x u y v q=⟨x,u,y,v,q⟩ from by unfold dU;rw[hs];rfl]
 exact aQ bE rfl aa
theorem rj {q:Rat}(hx:Rz 100 x) (hu:Rz 100 u) (hy:Rz 100 y) (hv:Rz 100 v) (hq:Rz 200 q) (h0:0<q) (hb: ¬(u=0∧v=0)):Ok Tryz.prog 301 [dR x,dR u,dR y,dR v,dR q] [.a (ai (dU x u y v q))]:=by
 cases hs:iC q with
 |true=>exact Mr hx hu hy hv hq h0 hb hs
 |false=>exact Mq hx hu hy hv hq h0 hb hs
theorem UG (hk:GK k) (h0:0<k.q):Ok Tryz.prog 213 [.a (bo k)] [.a (ai (fY k)),.a (ai (fR k))]:=by
 have o1:Rz 6000000 (1:Rat):=tv.m_
 refine bW Tryz.func213 rfl<|ac rfl (lh (fX (by decide) (by decide)) (show((1:Int):Rat)=1 from rfl))<|ac rfl (lh (fX (by decide) (by decide)) (show((0:Int):Rat)=0 from rfl))<|cz 19 [] ?_
 refine aC rfl (dD o1) ?_
 refine aC rfl (rj (hk.x.m_) (tv.neg.m_) (hk.y.m_) (eK (by decide)) (hk.q.m_) h0 (fun e=>absurd e.1 (by decide))) ?_
 refine aC rfl (rj (hk.x.m_) (tv.m_) (hk.y.m_) (eK (by decide)) (hk.q.m_) h0 (fun e=>absurd e.1 (by decide))) ?_
 exact ah (aQ bE rfl (aQ bE rfl aa))
theorem Zq {d:Ci}(hk:GK k) (hd:GK d):Ok Tryz.prog 22 [.a (bo k),.a (bo d)] [.c (.b (iQ k d))]:=by
 refine bW Tryz.func22 rfl ?_
 refine ac rfl (pE (aE (hk.x)) (aE (hd.x))) ?_
 refine jC (bq rfl) (fun c1 hb1=>?_)
 cases c1
 ·refine ar (bq rfl)<|ah ?_
  rw[show iQ k d=false from by unfold iQ yV;rw[hb1];rfl]
  exact ak aa
 ·refine ac rfl (pE (aE (hk.y)) (aE (hd.y))) ?_
  refine jC (bq rfl) (fun c2 hb2=>?_)
  cases c2
  ·refine ah ?_
   rw[show iQ k d=false from by unfold iQ yV;rw[hb1,hb2];rfl]
   exact ak aa
  ·refine ac rfl (pE (aE (hk.q)) (aE (hd.q)))<|ah ?_
   rw[show iQ k d=(aw k.q d.q==0) from by unfold iQ yV;rw[hb1,hb2];rfl]
   exact ak aa
theorem YT (hc:c.good) (hp:GP p):Ok Tryz.prog 25 [.a (aG c),.a (ai p)] [.c (.b (c.on p))]:=by
 cases c with
 |seg l f t=>exact aab hc.1 hc.2.1 hc.2.2 hp
 |arc k w f t=>exact Yk hc.1 hc.2.1 hc.2.2 hp
end Go.Proofs.YtegpmhlfjkhjmaaGreat
