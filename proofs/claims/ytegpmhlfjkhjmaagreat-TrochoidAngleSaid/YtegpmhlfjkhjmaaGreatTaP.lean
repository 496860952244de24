/-Plain:the point of a monotone curve at an x coordinate. -/
import Derived.Test.YtegpmhlfjkhjmaaGreatTaO
namespace Go.Proofs.YtegpmhlfjkhjmaaGreat
open Go Go.RowKit
variable {w:Bool}{k:Ci}{c:Cv}{rs:List CellD}{L S:List Pt}{N c9:Nat}{a b f p q t:Pt}{r x x1 x2 xa y y1 y2 ya:Re}{U e ty:TypeId}
def sW (w:Bool):Rat:=if w then 1 else-1
def iB (k:Ci) (x:Rat):Rat:=k.q-(x-k.x)*(x-k.x)
def uP:Cv→Rat→Pt
 | .seg l _ _,x=>⟨x,0,(l.c-l.a*x)/l.b,0,0⟩
 | .arc k w _ _,x=>gg x 0 k.y (sW w) (iB k x)
def Xd:Cv→Rat→List CellD
 | .seg l _ _,x=>cR ((l.c-l.a*x)/l.b)++cR 0++cR 0
 | .arc k w _ _,x=>if kg (iB k x) then cR (k.y+sW w*rt (iB k x))++cR 0++cR 0 else cR k.y++cR (sW w)++cR (zc (sW w) (iB k x))
theorem RT {x:Rat}(hs:kg (iB k x)=true):Xd (.arc k w f t) x=cR (k.y+sW w*rt (iB k x))++cR 0++cR 0:=if_pos hs
theorem SP {x:Rat}(hs:kg (iB k x)=false):Xd (.arc k w f t) x=cR k.y++cR (sW w)++cR (zc (sW w) (iB k x)):=if_neg (by rw[hs];decide)
theorem Cd (c:Cv) (x:Rat):(Xd c x).length=12:=by
 cases c with
 |seg l f t=>rfl
 |arc k w f t=>
  show(if kg (iB k x)=true then cR (k.y+sW w*rt (iB k x))++cR 0++cR 0 else cR k.y++cR (sW w)++cR (zc (sW w) (iB k x))).length=12
  split<;>rfl
def yn (c:Cv) (x:Rat):Bool:= !c.vert&&(decide (lu c.p x≤0)&&decide (0≤lu c.q x))
def kY (c:Cv) (x:Rat):Bool:=decide (lu c.p x≤0)&&decide (-lu c.q x≤0)
theorem l6 {x:Rat}:yn c x=(!c.vert&&kY c x):=by
 unfold yn kY
 grind
theorem AT {x:Rat}(of:OnK k f) (ot:OnK k t) (h1:lu f x≤0) (h2:0≤lu t x):0≤iB k x:=by
 rw[nG (aU of)] at h1
 rw[nG (aU ot)] at h2
 have main: ∀(p:Pt),OnK k p→0≤aB ((pX p-Re.of x)*(pX p-Re.of k.x+(Re.of x-Re.of k.x)))→0≤iB k x:=fun p op h=>by
  have w:=ww op
  have e:Re.of (iB k x)=((pY p-Re.of k.y)*(pY p-Re.of k.y)+(pX p-Re.of x)*(pX p-Re.of k.x+(Re.of x-Re.of k.x)))+ -xA k p:=aM fun n=>by unfold iB xA;simp only[aD,aj,aE,aK,aV];grind
  have h3:0≤aB ((pY p-Re.of k.y)*(pY p-Re.of k.y)):=by rw[aY];rcases bg (pY p-Re.of k.y) with g|g|g<;>rw[g]<;>decide
  have h4:0≤aB (Re.of (iB k x)):=by
   rw[e,dH _ (by rw[bG,w];rfl)]
   exact fP h3 h
  rw[bQ] at h4
  apply fe
  intro g
  have:aX (iB k x) 0= -1:=by unfold aX;rw[if_pos (by grind)]
  omega
 by_cases hx:x-k.x<0
 ·refine main f of ?_
  have a:aB (Re.of x-Re.of k.x)= -1:=by
   rw[←B3];unfold aX;rw[if_pos (by grind)]
  rw[aY]
  have c1:=bg (pX f-Re.of x)
  rcases c1 with g|g|g
  ·omega
  ·grind
  ·have e:pX f-Re.of k.x=(pX f-Re.of x)+(Re.of x-Re.of k.x):=aM fun n=>by simp only[aD,aj];grind
   have h5:aB (pX f-Re.of k.x)= -1:=by rw[e,jF (by omega)];exact g
   have h6:aB (pX f-Re.of k.x+(Re.of x-Re.of k.x))= -1:=by rw[jF (by omega)];exact h5
   grind
 ·refine main t ot ?_
  have a:0≤aB (Re.of x-Re.of k.x):=by
   rw[←B3];unfold aX;rw[if_neg (by grind)];split<;>decide
  rw[aY]
  have h5:0≤aB (pX t-Re.of k.x):=by
   rw[show pX t-Re.of k.x=(pX t-Re.of x)+(Re.of x-Re.of k.x) from aM fun n=>by simp only[aD,aj];grind]
   exact fP h2 a
  have h6:=fP h5 a
  exact fU h2 h6
theorem xL (w:Bool):Rz 1 (sW w):=by
 unfold sW;cases w
 ·rw[if_neg (by decide)];exact tT.neg
 ·rw[if_pos rfl];exact tT
theorem VK (h:w=true):((1:Int):Rat)=sW w:=by rw[h];rfl
theorem Tz (h:w=false):((-1:Int):Rat)=sW w:=by rw[h];decide+kernel
theorem XI (w:Bool):sW w*sW w=1:=by cases w<;>decide+kernel
theorem Vg:rt 0=0:=by decide+kernel
theorem Rf:kg 0=true:=by decide+kernel
theorem abQ (c:Cv) (x:Rat):pX (uP c x)=Re.of x:=by
 cases c with
 |seg l f t=>exact S7 x _
 |arc k w f t=>
  show pX (gg x 0 k.y (sW w) (iB k x))=_
  unfold gg
  split
  ·have e:x+0*rt (iB k x)=x:=by grind
   rw[e]
   exact S7 x _
  ·exact aM fun n=>by unfold pX xG az;simp only[aD,aE,aK];grind
theorem acZ {x:Rat}(h0:0≤iB k x):aB ((pY (uP (.arc k w f t) x)-Re.of k.y)*(pY (uP (.arc k w f t) x)-Re.of k.y)-Re.of (iB k x))=0∧0≤aB (Re.of (sW w))*aB (pY (uP (.arc k w f t) x)-Re.of k.y):=by
 have hw:aB (Re.of (sW w))*aB (Re.of (sW w))=1:=by cases w<;>(rw[bQ];decide+kernel)
 show aB ((pY (gg x 0 k.y (sW w) (iB k x))-Re.of k.y)*(pY (gg x 0 k.y (sW w) (iB k x))-Re.of k.y)-Re.of (iB k x))=0∧0≤aB (Re.of (sW w))*aB (pY (gg x 0 k.y (sW w) (iB k x))-Re.of k.y)
 cases hs:kg (iB k x) with
 |true=>
  have e:gg x 0 k.y (sW w) (iB k x)=rP (x+0*rt (iB k x)) (k.y+sW w*rt (iB k x)):=by unfold gg;rw[hs];rfl
  rw[e,WG]
  have e1:Re.of (k.y+sW w*rt (iB k x))-Re.of k.y=Re.of (sW w)*Re.of (rt (iB k x)):=aM fun n=>by simp only[aj,aE,aK];grind
  rw[e1]
  have hr:rt (iB k x)*rt (iB k x)=iB k x:=by
   by_cases hz:iB k x=0
   ·rw[hz,Vg];grind
   ·exact JK (by grind) hs
  refine⟨?_,?_⟩
  ·rw[show Re.of (sW w)*Re.of (rt (iB k x))*(Re.of (sW w)*Re.of (rt (iB k x)))-Re.of (iB k x)=Re.of 0 from aM fun n=>by simp only[aj,aE,aK];have:=XI w;grind,bQ]
   decide+kernel
  ·rw[aY,←Int.mul_assoc,hw,js,bQ]
   have:=AH (iB k x)
   unfold aX;rw[if_neg (by grind)];split<;>decide
 |false=>
  have e:gg x 0 k.y (sW w) (iB k x)=⟨x,0,k.y,sW w,iB k x⟩:=by unfold gg;rw[hs];rfl
  rw[e]
  have e1:pY ⟨x,0,k.y,sW w,iB k x⟩-Re.of k.y=Re.of (sW w)*Re.rt (iB k x):=by
   unfold pY;rw[oZ];exact aM fun n=>by simp only[aD,aj,aE,aK];grind
  rw[e1]
  refine⟨?_,?_⟩
  ·rw[show Re.of (sW w)*Re.rt (iB k x)*(Re.of (sW w)*Re.rt (iB k x))-Re.of (iB k x)=Re.rt (iB k x)*Re.rt (iB k x)-Re.of (iB k x) from aM fun n=>by simp only[aj,aE,aK];have:=XI w;grind]
   exact lh h0
  ·rw[aY,←Int.mul_assoc,hw,js]
   exact u9 _
theorem XG (c:Cv) (x:Rat):Xd c x=cR (uP c x).a2++cR (uP c x).b2++cR (zc (uP c x).b2 (uP c x).c):=by
 cases c with
 |seg l f t=>show cR _++cR 0++cR 0=cR _++cR 0++cR (zc 0 0);rw[Ns rfl];rfl
 |arc k w f t=>
  cases hs:kg (iB k x) with
  |true=>
   rw[RT hs,show uP (.arc k w f t) x=⟨x+0*rt (iB k x),0,k.y+sW w*rt (iB k x),0,0⟩ from if_pos hs]
   show _=cR _++cR 0++cR (zc 0 0)
   rw[Ns rfl]
  |false=>rw[SP hs,show uP (.arc k w f t) x=⟨x,0,k.y,sW w,iB k x⟩ from if_neg (by rw[hs];decide)]
theorem Rj (c:Cv) (x:Rat):x=(uP c x).a1∧0=(uP c x).b1:=by
 cases c with
 |seg l f t=>exact⟨rfl,rfl⟩
 |arc k w f t=>
  cases hs:kg (iB k x) with
  |true=>
   rw[show uP (.arc k w f t) x=⟨x+0*rt (iB k x),0,k.y+sW w*rt (iB k x),0,0⟩ from if_pos hs]
   exact⟨by show x=x+0*rt (iB k x);grind,rfl⟩
  |false=>rw[show uP (.arc k w f t) x=⟨x,0,k.y,sW w,iB k x⟩ from if_neg (by rw[hs];decide)];exact⟨rfl,rfl⟩
theorem O1 {b1 b2 c:Rat}(h:BE b1 b2 c=true) (hb:0=b1):Oa 0 b2 (cc 0 0 (zc b2 c))=c:=by
 subst hb
 rw[NQ rfl]
 by_cases e:b2=0
 ·unfold BE at h
  rw[if_pos ⟨rfl,e⟩] at h
  rw[LU rfl e];exact(of_decide_eq_true h).symm
 ·rw[JM e,yU e]
theorem aav (hk:GK k) (hf:GP f) (ht:GP t) (hp:GP p) (hq:GP q):Ok Tryz.prog 309 [.a (([.b true]++rx++bT k++[.b w]++aw f++aw t)),.a (aw p),.a (aw q)] [.c (.i .i64 (bL (Cv.arc k w f t) p q))]:=by
 have b1:=YC k t p q
 refine b9 Tryz.func309 rfl ?_
 refine ar (lp sK rfl) ?_
 refine qq rfl ?_
 refine ar (lp sK rfl) ?_
 refine dS rfl (fun hc1=>?_) (fun hc1=>?_)
 ·refine ar (fv (bT k) AX rfl (by kernel_rfl)) ?_
  refine ar (fv (aw t) cn rfl (by kernel_rfl)) ?_
  refine ac rfl (G1 hk ht hp hq) ?_
  refine ar (il (r:= -yC k t p q) rfl (IH b1) rfl) ?_
  refine ai ?_
  rw[show bL (Cv.arc k w f t) p q= -yC k t p q from if_pos hc1]
  exact ak ag
 ·refine ar (fv (bT k) AX rfl (by kernel_rfl)) ?_
  refine ar (fv (aw f) cn rfl (by kernel_rfl)) ?_
  refine ac rfl (G1 hk hf hp hq)<|ai ?_
  rw[show bL (Cv.arc k w f t) p q=yC k f p q from if_neg (by rw[hc1];decide)]
  exact ak ag
theorem Yv (vc:CvV c) (ha:c.isArc=true) (hp:GP p) (hq:GP q):Ok Tryz.prog 309 [.a (aZ c),.a (aw p),.a (aw q)] [.c (.i .i64 (bL c p q))]:=by
 cases c with
 |seg l f t=>cases ha
 |arc k w f t=>exact aav vc.g.1 vc.g.2.1 vc.g.2.2 hp hq
theorem Io (vc:CvV c) (ha:c.isArc=true) (hp:GP p):Ok Tryz.prog 123 [.a (aZ c),.a (aw p)] [.c (.b (c.on p))]:=by
 cases c with
 |seg l f t=>cases ha
 |arc k w f t=>exact Wy vc.g.1 vc.pos ⟨vc.g.2.1,bK.1 vc.sp⟩ ⟨vc.g.2.2,bK.1 vc.sq⟩ hp
theorem ace (vc:CvV c) (ha:c.isArc=true) (hp:GP p):Ok Tryz.prog 223 [.a (aZ c),.a (aw p)] [.c (.b (c.inner p))]:=by
 cases c with
 |seg l f t=>cases ha
 |arc k w f t=>exact OT vc.g.1 vc.pos ⟨vc.g.2.1,bK.1 vc.sp⟩ ⟨vc.g.2.2,bK.1 vc.sq⟩ hp
theorem aa8 (vc:CvV c) (ha:c.isArc=true) (hp:GP p) (hq:GP q):Ok Tryz.prog 308 [.a (aw p),.a (aw q),.c (.p (aZ c))] [.c (.i .i64 (bL c p q))]:=by
 refine b9 Tryz.func308 rfl<|ar (mH (us:=aZ c) cG rfl (kZ (qe (ao _))) (ao _) rfl) ?_
 refine ac rfl (Yv vc ha hp hq) ?_
 exact ai (ak ag)
theorem ad5 (vc:CvV c) (ha:c.isArc=true) (hp:GP p):Ok Tryz.prog 218 [.a (aw p),.c (.p (aZ c))] [.c (.b (!c.on p))]:=by
 refine b9 Tryz.func218 rfl<|ar (mH (us:=aZ c) cG rfl (kZ (qe (ao _))) (ao _) rfl) ?_
 refine ac rfl (Io vc ha hp) ?_
 exact ai (ak ag)
theorem acm (vc:CvV c) (ha:c.isArc=true) (hp:GP p):Ok Tryz.prog 222 [.a (aw p),.c (.p (aZ c))] [.c (.b (!c.inner p))]:=by
 refine b9 Tryz.func222 rfl<|ar (mH (us:=aZ c) cG rfl (kZ (qe (ao _))) (ao _) rfl) ?_
 refine ac rfl (ace vc ha hp) ?_
 exact ai (ak ag)
theorem adt (vc:CvV c) (ha:c.isArc=true) (hL: ∀p∈L,GP p) (lL:L.length≤12) (hq: ∀p∈L,c.on p=true):Ok Tryz.prog 305 [.c (.s ((L).length) (aW aw (L))),.c (.k 218 [.p (aZ c)])] [.c (.i .i64 (-1))]:=by
 refine b9 Tryz.func305 rfl ?_
 refine DW.mk<|bv (ι:={n:Nat // n≤L.length}) (fun i=>⟨19,[(0,.v (.c (.s ((L).length) (aW aw (L))))),(1,.v (.c (.k 218 [.p (aZ c)]))),(7,.v (.c (.i .i64 (L.length:Int)))),(8,.v (.c (.i .i64 (i.1:Int))))],[]⟩) (fun i=>L.length-i.1) ⟨0,iW _⟩ (ap (bo rfl) trivial rfl) ?_
 rintro⟨n,h2⟩
 replace h2:n≤L.length:=h2
 dsimp only
 refine gZ ?_
 refine dS rfl (fun hc1=>?_) (fun hc1=>?_)
 ·have g1:n<L.length:=by have:=of_decide_eq_true hc1;omega
  refine ar (vf dPt bi g1 f7 rfl)<|ar (ve bi cn rfl)<|ar (pN rfl rfl (cE (c:=false) (ad5 vc ha (hL _ (bX g1))) (by simp only[hq _ (bX g1)];rfl)) rfl) ?_
  refine qq rfl<|ar (dZ (by omega) rfl) ?_
  exact⟨⟨n+1,g1⟩,ap (bo rfl) trivial rfl,by show L.length-(n+1)<L.length-n;omega⟩
 ·exact ai (ak ag)
theorem adS (vc:CvV c) (ha:c.isArc=true) (hL: ∀p∈L,GP p) (lL:L.length≤12) (hq: ∀p∈L,c.on p=true):Ok Tryz.prog 217 [.c (.s ((L).length) (aW aw (L))),.c (.k 218 [.p (aZ c)])] [.c (.b false)]:=by
 refine eo Tryz.func217 9 [.tmp 4] rfl<|ae<|ah<|ae<|bq<|bH 2<|aO (dg rfl (adt vc ha hL lL hq))<|aO (aJ (c:=false) (dG rfl) (by decide)) ?_
 refine gi<|ba ?_
 exact ai (ak ag)
theorem adL (vc:CvV c) (ha:c.isArc=true) (pa:GP a) (_pb:GP b) (ea:c.inner a=false):Ok Tryz.prog 305 [.c (.s 2 (aw a++aw b)),.c (.k 222 [.p (aZ c)])] [.c (.i .i64 0)]:=by
 refine b9 Tryz.func305 rfl ?_
 refine DW.mk<|bv (ι:=Nat) (fun i=>match i with|_=>⟨19,[(0,.v (.c (.s 2 (aw a++aw b)))),(1,.v (.c (.k 222 [.p (aZ c)]))),(7,.v (.c (.i .i64 2))),(8,.v (.c (.i .i64 0)))],[]⟩) (fun i=>0-i) 0 (ap (bo rfl) trivial rfl) ?_
 intro i
 match i with
 |_=>
  show Dw _ _ ⟨19,[(0,.v (.c (.s 2 (aw a++aw b)))),(1,.v (.c (.k 222 [.p (aZ c)]))),(7,.v (.c (.i .i64 2))),(8,.v (.c (.i .i64 0)))],[]⟩ _
  refine gZ<|lr rfl<|ar (bc (us:=aw a++aw b) f7 rfl rfl (by decide) (rfl) (rfl) rfl) ?_
  refine ar (ve bi cn rfl)<|ar (pN rfl rfl (cE (c:=true) (acm vc ha pa) (by simp only[ea];rfl)) rfl) ?_
  refine lr rfl ?_
  exact ai (ak ag)
theorem abJ (vc:CvV c) (ha:c.isArc=true) (pa:GP a) (pb:GP b) (ea:c.inner a=false) (eb:c.inner b=false):OkT Tryz.prog 221 47 2 2 0 (aw a++aw b++[]) (([]:List CellD)++(Xg++Xg)) [.c (.k 222 [.p (aZ c)])]:=by
 refine OkT.of (K:=100000) (by kernel_rfl) Tryz.func221 rfl rfl rfl ?_
 rw[show Tryz.f221.ntmps=42 from rfl]
 refine ae<|ah<|ae<|ah<|ar (NJ (m:=20) (us:=aw a++aw b) rfl rfl rfl rfl rfl (rfl) (gj rfl) (ck _) (by decide) (adL vc ha pa pb ea) rfl) ?_
 refine ae<|ae<|ah<|bh rfl<|aA<|ae<|ae<|ah<|ar (er (r:=1) rfl rfl rfl rfl) ?_
 refine aG ?_
 refine bv (ι:=Nat) (fun i=>match i with|0=>⟨42,[(0,.o 100000 2 2),(1,.v (.c (.k 222 [.p (aZ c)]))),(5,.v (.c (.i .i64 0))),(6,.v (.c (.i .i64 1)))],[(100000,47,aw a++aw b++[])]⟩|_+1=>⟨42,[(0,.o 100000 2 2),(1,.v (.c (.k 222 [.p (aZ c)]))),(5,.v (.c (.i .i64 0))),(6,.v (.c (.i .i64 2)))],[(100000,47,aw a++aw b++[])]⟩) (fun i=>1-i) 0 (ap (bo rfl) ⟨rfl,trivial⟩ rfl) ?_
 intro i
 match i with
 |0=>
  show Dw _ _ ⟨42,[(0,.o 100000 2 2),(1,.v (.c (.k 222 [.p (aZ c)]))),(5,.v (.c (.i .i64 0))),(6,.v (.c (.i .i64 1)))],[(100000,47,aw a++aw b++[])]⟩ _
  refine ae<|ae<|ah<|ar (jm f7 rfl rfl) ?_
  refine cz rfl<|aA<|ae<|aG<|ae<|bq<|bH 2<|aO (bE f7 rfl rfl (by decide) rfl) ?_
  refine aO (cD (us:=aw b) cn rfl rfl (by rfl) (bi _) rfl) ?_
  refine rQ (jc De rfl) rfl<|gi<|ae<|ah ?_
  refine ar (pN rfl rfl (cE (c:=true) (acm vc ha pb) (by simp only[eb];rfl)) rfl) ?_
  refine bh rfl<|aA<|ah<|ar (er (r:=2) rfl rfl rfl rfl) ?_
  exact⟨1,ap (bo rfl) ⟨rfl,trivial⟩ rfl,by show 1-1<1-0;decide⟩
 |z+1=>
  show Dw _ _ ⟨42,[(0,.o 100000 2 2),(1,.v (.c (.k 222 [.p (aZ c)]))),(5,.v (.c (.i .i64 0))),(6,.v (.c (.i .i64 2)))],[(100000,47,aw a++aw b++[])]⟩ _
  refine ae<|ae<|ah<|ar (jm f7 rfl rfl) ?_
  refine bh rfl<|bV<|ae<|ah<|ar (Bw (q:=0) f7 rfl rfl (by decide) (by decide) rfl) ?_
  refine r9 (E5 (cs':=([]:List CellD)++(Xg++Xg)) kj rfl rfl (gj rfl) (by rfl) rfl) ?_
  refine ae<|ah<|ar (we (q:=0) f7 rfl rfl (by decide) rfl) ?_
  refine ba ?_
  exact⟨.inr rfl,rfl,4,rfl,rfl⟩
theorem NL {P:Program}{ops:Array Oper}{os:List Oper}{K:St→Prop}{tm:List (Nat×DV)}{bx:List (Nat×TypeId×List CellD)}{t:Nat}{x y:Operand}{pos:String}{af:Array Edge}{g:Option (Nat×Bool)}{q m by_:Nat}{us ys zs zs':List CellD}
 (hU:xF P U=some (e,m,by_,zs)) (hx:cO (fun s=>aQ s tm) x=some (.f 0 us)) (hy:cO (fun s=>aQ s tm) y=some (.v (.c (.s q ys)))) (hys:ys.length=q*m) (hq:0<q)
 (hbytes:q*by_≤140737488355328) (h63:q≤maxLen) (hd:aQ t bx=none) (hz:ys=zs')
 (hg:gd ops ⟨some t,.call ⟨.builtin .append,#[x,y],#[U,U]⟩,ty,pos,af,g⟩ (fun s=>aQ s tm)=some true)
 (hk: ∀c' rest',q≤c'→c'≤maxLen→rest'.length=(c'-q)*m→dl P ops os ⟨N,(t,.o t q c')::tm,(t,e,zs'++rest')::bx⟩ K):
 dl P ops (⟨some t,.call ⟨.builtin .append,#[x,y],#[U,U]⟩,ty,pos,af,g⟩::os) ⟨N,tm,bx⟩ K:=by
 subst hz
 exact .inr ⟨_,KF hU hx hy hys hq hbytes h63 hd hg,fun σ' ⟨c',rest',h1,h2,h3,e⟩=>by subst e;exact hk c' rest' h1 h2 h3⟩
theorem adB (hl:0<L.length) (lL:L.length≤12):OkN Tryz.prog 306 [.c (.s ((L).length) (aW aw (L)))] 47 L.length 20 (aW aw L) []:=by
 refine OkN.of (by kernel_rfl) Tryz.func306 rfl rfl ?_
 rw[show Tryz.f306.ntmps=8 from rfl]
 refine ae<|ah<|ae<|ae<|bq<|bH 1 ?_
 refine HS f7 rfl rfl (fun bz1 hbz1=>?_)
 refine bt ?_
 refine aP rfl (fun hc2=>?_) (fun hc2=>?_)
 ·exact absurd hc2 (by rw[hbz1 hl];decide)
 ·refine aA<|ae<|ah<|ar (C3 kj rfl) ?_
  refine DL.mk<|NL (q:=L.length) (ys:=aW aw (L)) (zs':=aW aw L) kj rfl rfl (a7 bi _) (hl) (by omega) (oD (by omega)) rfl (rfl) rfl (fun cg3 rg3 hga3 hgb3 hgc3=>fa ?_)
  refine ba ?_
  exact⟨.inr rfl,2,7,cg3,[],rg3,rfl,rfl,rfl,by omega,by assumption,by assumption,ag⟩
theorem adZ:Ok Tryz.prog 306 [.c (.s 0 [])] [.c (.s 0 [])]:=by
 refine eo Tryz.func306 8 [.tmp 2] rfl<|ae<|ah<|ae<|ae<|bq<|bH 1 ?_
 refine HS f7 rfl rfl (fun bz1 hbz1=>?_)
 refine bt ?_
 refine aP rfl (fun hc2=>?_) (fun hc2=>?_)
 ·refine ae<|ah<|ba ?_
  exact ai (ak ag)
 ·refine aA<|ae<|ah<|ar (C3 kj rfl) ?_
  refine ar (Ed kj rfl rfl rfl) ?_
  refine abm (t:=2) rfl<|ba ?_
  exact ai (ak ag)
theorem abv (vc:CvV c) (ha:c.isArc=true) (hn1:1≤L.length) (hn:L.length≤12) (hG: ∀x∈L,GP x):OkS Tryz.prog 380 47 L.length c9 (aW aw L++rs) (aW aw (bp dPt (bL c) L)++rs) [.c (.i .i64 0),.c (.i .i64 (L.length:Int)),.c (.k 308 [.p (aZ c)])]:=by
 refine OkS.of (K:=100000) (by kernel_rfl) Tryz.func380 rfl rfl rfl rfl ?_
 rw[show Tryz.f380.ntmps=53 from rfl]
 refine ae<|ah<|ar (er (r:=1) rfl rfl rfl rfl) ?_
 refine aG<|bv (ι:={p:Nat // 1≤p∧p≤L.length}) (fun i=>⟨53,[(0,.o 100000 L.length c9),(1,.v (.c (.i .i64 0))),(2,.v (.c (.i .i64 (L.length:Int)))),(3,.v (.c (.k 308 [.p (aZ c)]))),(8,.v (.c (.i .i64 (i.1:Int))))],[(100000,47,aW aw (UZ dPt (bL c) L i.1)++rs)]⟩) (fun i=>L.length-i.1) ⟨1,ck _,hn1⟩ (ap (bo rfl) ⟨congrArg (fun q=>some (47,aW aw q++rs)) ((LA L).symm),trivial⟩ rfl) ?_
 rintro⟨p,h1,h2⟩
 replace h1:1≤p:=h1
 replace h2:p≤L.length:=h2
 dsimp only
 refine ae<|ae<|ah ?_
 refine aP rfl (fun hc1=>?_) (fun hc1=>?_)
 ·have g1:p<L.length:=by have:=of_decide_eq_true hc1;omega
  have hOl:(bp dPt (bL c) (L.take p)).length=p:=by rw[fV,gX,q5 h2]
  refine aA<|ae<|aG<|ae<|ah<|aG<|bv (ι:={j:Nat // j≤p∧pE dPt (bL c) (L.getD p dPt) (bp dPt (bL c) (L.take p)) p=pE dPt (bL c) (L.getD p dPt) (bp dPt (bL c) (L.take p)) j}) (fun i=>⟨53,[(0,.o 100000 L.length c9),(1,.v (.c (.i .i64 0))),(2,.v (.c (.i .i64 (L.length:Int)))),(3,.v (.c (.k 308 [.p (aZ c)]))),(8,.v (.c (.i .i64 (p:Int)))),(9,.v (.c (.i .i64 (i.1:Int))))],[(100000,47,aW aw (A8 (bp dPt (bL c) (L.take p)) (L.drop (p+1)) (L.getD p dPt) i.1)++rs)]⟩) (fun i=>i.1) ⟨p,ck _,rfl⟩ (ap (bo rfl) ⟨congrArg (fun q=>some (47,aW aw q++rs)) (L5 g1),trivial⟩ rfl) ?_
  rintro⟨j,h3,h4⟩
  replace h3:j≤p:=h3
  replace h4:pE dPt (bL c) (L.getD p dPt) (bp dPt (bL c) (L.take p)) p=pE dPt (bL c) (L.getD p dPt) (bp dPt (bL c) (L.take p)) j:=h4
  dsimp only
  refine ae<|ae<|wq 17 rfl rfl<|ji 3 ?_
  refine RO (bJ rfl) (fun c2 hb2=>?_)
  cases c2
  ·have g2:j=0:=by have:=of_decide_eq_false hb2;omega
   refine Gm<|iC<|bt<|bh rfl<|bV<|ah<|ar (dZ (by omega) rfl) ?_
   exact⟨⟨p+1,by omega,g1⟩,ap (bo rfl) ⟨congrArg (fun q=>some (47,aW aw q++rs)) (zJ g1 (h4.trans (Fo (.inl g2)))),trivial⟩ rfl,by show L.length-(p+1)<L.length-p;omega⟩
  ·have g2:0<j:=by have:=of_decide_eq_true hb2;omega
   have hjl:j≤(bp dPt (bL c) (L.take p)).length:=by rw[hOl];exact h3
   refine ji 3<|cK (bE f7 rfl rfl (by omega) rfl) ?_
   refine cK (cD (us:=aw (L.getD p dPt)) cn rfl rfl ((jX (e:=dPt) (O:=(A8 (bp dPt (bL c) (L.take p)) (L.drop (p+1)) (L.getD p dPt) j)) bi (by rw[iQ hjl,hOl,lZ];omega)).trans (congrArg aw (G3 hjl))) (bi _) rfl) ?_
   refine ji 2<|cK (bF (((j-1:Nat):Int)) ((aS (by omega) (by omega)).trans (congrArg some (by omega))) rfl)<|cK (bE f7 rfl rfl (by omega) rfl) ?_
   refine cK (cD (us:=aw ((bp dPt (bL c) (L.take p)).getD (j-1) dPt)) cn rfl rfl ((jX (e:=dPt) (O:=(A8 (bp dPt (bL c) (L.take p)) (L.drop (p+1)) (L.getD p dPt) j)) bi (by rw[iQ hjl,hOl,lZ];omega)).trans (congrArg aw (Gp g2 hjl))) (bi _) rfl) ?_
   refine cK (pN rfl rfl (aa8 vc ha (hG _ (bX g1)) (hG _ (List.mem_of_mem_take ((jl _).mem_iff.1 (bX (show j-1<(bp dPt (bL c) (L.take p)).length by rw[hOl];omega)))))) rfl) ?_
   refine Gm<|iC<|bt ?_
   refine aP rfl (fun hc3=>?_) (fun hc3=>?_)
   ·have g3:(bL c) (L.getD p dPt) ((bp dPt (bL c) (L.take p)).getD (j-1) dPt)<0:=of_decide_eq_true hc3
    refine aA<|ae<|aG<|xr 16 [100000,999999] jK (by kernel_rfl) rfl rfl<|ji 4<|cK (bF (((j-1:Nat):Int)) ((aS (by omega) (by omega)).trans (congrArg some (by omega))) rfl)<|ji 2<|cK (bF (((j-1:Nat):Int)) ((aS (by omega) (by omega)).trans (congrArg some (by omega))) rfl)<|cK (bE f7 rfl rfl (by omega) rfl) ?_
    refine Lb (by kernel_rfl) (cD (us:=aw ((bp dPt (bL c) (L.take p)).getD (j-1) dPt)) cn rfl rfl ((jX (e:=dPt) (O:=(A8 (bp dPt (bL c) (L.take p)) (L.drop (p+1)) (L.getD p dPt) j)) bi (by rw[iQ hjl,hOl,lZ];omega)).trans (congrArg aw (Gp g2 hjl))) (bi _) rfl) ?_
    refine ji 2<|cK (bE f7 rfl rfl (by omega) rfl) ?_
    refine Lb (by kernel_rfl) (cD (us:=aw (L.getD p dPt)) cn rfl rfl ((jX (e:=dPt) (O:=(A8 (bp dPt (bL c) (L.take p)) (L.drop (p+1)) (L.getD p dPt) j)) bi (by rw[iQ hjl,hOl,lZ];omega)).trans (congrArg aw (G3 hjl))) (bi _) rfl) ?_
    refine cK (bE f7 rfl rfl (by omega) rfl) ?_
    refine jE (br (us:=aW aw ((A8 (bp dPt (bL c) (L.take p)) (L.drop (p+1)) (L.getD p dPt) j).set j ((bp dPt (bL c) (L.take p)).getD (j-1) dPt))++rs) cn rfl rfl rfl (bi _) (by rw[d6,a7 bi,iQ hjl,hOl,lZ];omega) (xc bi (by rw[iQ hjl,hOl,lZ];omega) _) rfl) rfl rfl rfl rfl ?_
    refine wd<|At<|aO (bE f7 rfl rfl (by omega) rfl) ?_
    refine jk (br (us:=aW aw (((A8 (bp dPt (bL c) (L.take p)) (L.drop (p+1)) (L.getD p dPt) j).set j ((bp dPt (bL c) (L.take p)).getD (j-1) dPt)).set (j-1) (L.getD p dPt))++rs) cn rfl rfl rfl (bi _) (by rw[d6,a7 bi,yG,iQ hjl,hOl,lZ];omega) (xc bi (by rw[yG,iQ hjl,hOl,lZ];omega) _) rfl) ?_
    refine bt<|ah<|ar (bF (((j-1:Nat):Int)) ((aS (by omega) (by omega)).trans (congrArg some (by omega))) rfl) ?_
    exact⟨⟨j-1,by omega,h4.trans (Pu g2 g3)⟩,ap (bo rfl) ⟨congrArg (fun q=>some (47,aW aw q++rs)) (Rg g2 hjl),trivial⟩ rfl,by show j-1<j;omega⟩
   ·have g3: ¬(bL c) (L.getD p dPt) ((bp dPt (bL c) (L.take p)).getD (j-1) dPt)<0:=of_decide_eq_false hc3
    refine bV<|ah<|ar (dZ (by omega) rfl) ?_
    exact⟨⟨p+1,by omega,g1⟩,ap (bo rfl) ⟨congrArg (fun q=>some (47,aW aw q++rs)) (zJ g1 (h4.trans (Fo (.inr g3)))),trivial⟩ rfl,by show L.length-(p+1)<L.length-p;omega⟩
 ·have hp:p=L.length:=by have:=of_decide_eq_false hc1;omega
  refine bV ?_
  exact⟨.inl rfl,congrArg (fun q=>some (47,aW aw q++rs)) (by rw[hp,Lp])⟩
theorem ab3 (vc:CvV c) (ha:c.isArc=true) (hn1:1≤L.length) (hn:L.length≤12) (hG: ∀x∈L,GP x):OkS Tryz.prog 356 47 L.length c9 (aW aw L++rs) (aW aw (bp dPt (bL c) L)++rs) [.c (.i .i64 (L.length:Int)),.c (.k 308 [.p (aZ c)])]:=by
 refine OkS.of (K:=100000) (by kernel_rfl) Tryz.func356 rfl rfl rfl rfl ?_
 rw[show Tryz.f356.ntmps=63 from rfl]
 refine ae<|ah<|ae<|ah<|ae<|aG ?_
 refine bv (ι:=Nat) (fun i=>match i with|_=>⟨63,[(0,.o 100000 L.length c9),(1,.v (.c (.i .i64 (L.length:Int)))),(2,.v (.c (.k 308 [.p (aZ c)]))),(6,.v (.c (.i .i64 20))),(7,.v (.c (.i .i64 0))),(8,.v (.c (.i .i64 20)))],[(100000,47,aW aw L++rs)]⟩) (fun i=>0-i) 0 (ap (bo rfl) ⟨rfl,trivial⟩ rfl) ?_
 intro i
 match i with
 |_=>
  show Dw _ _ ⟨63,[(0,.o 100000 L.length c9),(1,.v (.c (.i .i64 (L.length:Int)))),(2,.v (.c (.k 308 [.p (aZ c)]))),(6,.v (.c (.i .i64 20))),(7,.v (.c (.i .i64 0))),(8,.v (.c (.i .i64 20)))],[(100000,47,aW aw L++rs)]⟩ _
  refine ae<|ae<|bq<|bH 2<|aO (aJ (c:=false) (dG rfl) (decide_eq_false (by omega))) ?_
  refine bt<|bh rfl<|bV<|ae<|ah ?_
  refine DL.mk<|tE (kU rfl rfl rfl rfl rfl (abv vc ha hn1 hn hG) rfl)<|fa ?_
  refine aG ?_
  refine bv (ι:=Nat) (fun i=>match i with|_=>⟨63,[(0,.o 100000 L.length c9),(1,.v (.c (.i .i64 (L.length:Int)))),(2,.v (.c (.k 308 [.p (aZ c)]))),(6,.v (.c (.i .i64 20))),(7,.v (.c (.i .i64 0))),(8,.v (.c (.i .i64 20)))],[(100000,47,aW aw (bp dPt (bL c) L)++rs)]⟩) (fun i=>0-i) 0 (ap (bo rfl) ⟨rfl,trivial⟩ rfl) ?_
  intro i
  match i with
  |_=>
   show Dw _ _ ⟨63,[(0,.o 100000 L.length c9),(1,.v (.c (.i .i64 (L.length:Int)))),(2,.v (.c (.k 308 [.p (aZ c)]))),(6,.v (.c (.i .i64 20))),(7,.v (.c (.i .i64 0))),(8,.v (.c (.i .i64 20)))],[(100000,47,aW aw (bp dPt (bL c) L)++rs)]⟩ _
   refine ae<|ae<|bq<|bH 2<|aO (aJ (c:=false) (dG rfl) (decide_eq_false (by omega))) ?_
   refine bt<|bh rfl<|bV ?_
   exact⟨.inl rfl,rfl⟩
theorem aaP (vc:CvV c) (ha:c.isArc=true) (hn1:1≤L.length) (hn:L.length≤12) (hG: ∀x∈L,GP x):OkS Tryz.prog 307 47 L.length c9 (aW aw L++rs) (aW aw (bp dPt (bL c) L)++rs) [.c (.k 308 [.p (aZ c)])]:=by
 refine OkS.of (K:=100000) (by kernel_rfl) Tryz.func307 rfl rfl rfl rfl ?_
 rw[show Tryz.f307.ntmps=9 from rfl]
 refine ah<|ar (jm f7 rfl rfl) ?_
 refine DL.mk<|tE (kU rfl rfl rfl rfl rfl (ab3 vc ha hn1 hn hG) rfl)<|fa ?_
 exact⟨.inl rfl,rfl⟩
theorem Y0:Ok Tryz.prog 380 [.c (.s 0 []),.c (.i .i64 0),.c (.i .i64 0),.c (.k 308 [.p (aZ c)])] []:=by
 refine b9 Tryz.func380 rfl<|ar (er (r:=1) rfl rfl rfl rfl) ?_
 refine DW.mk<|bv (ι:=Nat) (fun i=>match i with|_=>⟨53,[(0,.v (.c (.s 0 []))),(1,.v (.c (.i .i64 0))),(2,.v (.c (.i .i64 0))),(3,.v (.c (.k 308 [.p (aZ c)]))),(8,.v (.c (.i .i64 1)))],[]⟩) (fun i=>0-i) 0 (ap (bo rfl) trivial rfl) ?_
 intro i
 match i with
 |_=>
  show Dw _ _ ⟨53,[(0,.v (.c (.s 0 []))),(1,.v (.c (.i .i64 0))),(2,.v (.c (.i .i64 0))),(3,.v (.c (.k 308 [.p (aZ c)]))),(8,.v (.c (.i .i64 1)))],[]⟩ _
  refine gZ<|qq rfl ?_
  exact Ji ag
theorem XS:Ok Tryz.prog 356 [.c (.s 0 []),.c (.i .i64 0),.c (.k 308 [.p (aZ c)])] []:=by
 refine b9 Tryz.func356 rfl ?_
 refine DW.mk<|bv (ι:=Nat) (fun i=>match i with|_=>⟨63,[(0,.v (.c (.s 0 []))),(1,.v (.c (.i .i64 0))),(2,.v (.c (.k 308 [.p (aZ c)]))),(6,.v (.c (.i .i64 20))),(7,.v (.c (.i .i64 0))),(8,.v (.c (.i .i64 20)))],[]⟩) (fun i=>0-i) 0 (ap (bo rfl) trivial rfl) ?_
 intro i
 match i with
 |_=>
  show Dw _ _ ⟨63,[(0,.v (.c (.s 0 []))),(1,.v (.c (.i .i64 0))),(2,.v (.c (.k 308 [.p (aZ c)]))),(6,.v (.c (.i .i64 20))),(7,.v (.c (.i .i64 0))),(8,.v (.c (.i .i64 20)))],[]⟩ _
  refine gZ<|qq rfl<|ac rfl (Y0) ?_
  refine DW.mk<|bv (ι:=Nat) (fun i=>match i with|_=>⟨63,[(0,.v (.c (.s 0 []))),(1,.v (.c (.i .i64 0))),(2,.v (.c (.k 308 [.p (aZ c)]))),(6,.v (.c (.i .i64 20))),(7,.v (.c (.i .i64 0))),(8,.v (.c (.i .i64 20)))],[]⟩) (fun i=>0-i) 0 (ap (bo rfl) trivial rfl) ?_
  intro i
  match i with
  |_=>
   show Dw _ _ ⟨63,[(0,.v (.c (.s 0 []))),(1,.v (.c (.i .i64 0))),(2,.v (.c (.k 308 [.p (aZ c)]))),(6,.v (.c (.i .i64 20))),(7,.v (.c (.i .i64 0))),(8,.v (.c (.i .i64 20)))],[]⟩ _
   refine gZ<|qq rfl ?_
   exact Ji ag
theorem ZT:Ok Tryz.prog 307 [.c (.s 0 []),.c (.k 308 [.p (aZ c)])] []:=by
 refine b9 Tryz.func307 rfl ?_
 refine ac rfl (XS) ?_
 exact Ji ag
theorem adm (hS: ∀p∈S,GP p) (lS:S.length≤12) (hne: ∀i,i+1<S.length→cP (S.getD (i+1) dPt) (S.getD i dPt)≠0):Ok Tryz.prog 310 [.c (.s ((S).length) (aW aw (S))),.c (.f 220)] [.c (.s ((S).length) (aW aw (S)))]:=by
 refine b9 Tryz.func310 rfl ?_
 refine dS rfl (fun hc1=>?_) (fun hc1=>?_)
 ·exact ai (ak ag)
 ·refine DW.mk<|bv (ι:={n:Nat // n+1≤S.length∨n=0}) (fun i=>⟨66,[(0,.v (.c (.s ((S).length) (aW aw (S))))),(1,.v (.c (.f 220))),(5,.v (.c (.i .i64 (((i.1+1:Nat):Int)))))],[]⟩) (fun i=>S.length-i.1) ⟨0,.inr rfl⟩ (ap (bo rfl) trivial rfl) ?_
  rintro⟨n,h2⟩
  replace h2:n+1≤S.length∨n=0:=h2
  dsimp only
  refine gZ ?_
  refine dS rfl (fun hc2=>?_) (fun hc2=>?_)
  ·have g1:n+1<S.length:=by have:=of_decide_eq_true hc2;omega
   refine dF 11 []<|aq (bc (us:=aw (S.getD (n+1) dPt)++aW aw (S.drop ((n+1)+1))) f7 rfl rfl (by omega) (a7 bi _) (wD bi (kV g1)) rfl) ?_
   refine aq (ve bi cn rfl)<|aq (bF (((n:Nat):Int)) ((aS (by omega) (by omega)).trans (congrArg some (by omega))) rfl)<|aq (bc (us:=aw (S.getD n dPt)++aW aw (S.drop (n+1))) f7 rfl rfl (by omega) (a7 bi _) (wD bi (kV (by omega))) rfl) ?_
   refine aq (ve bi cn rfl)<|aI rfl (cE (c:=false) (zW (GP.getD hS (n+1)) (GP.getD hS n)) (beq_eq_false_iff_ne.2 (hne n g1)))<|qq rfl<|ar (bF (((n+1+1:Nat):Int)) ((aT (by omega) (by omega)).trans (congrArg some (by omega))) rfl) ?_
   exact⟨⟨n+1,.inl g1⟩,ap (bo rfl) trivial rfl,by show S.length-(n+1)<S.length-n;omega⟩
  ·exact ai (ak ag)
theorem Fc (c:Cv) (q:Pt):(aZ c).take 46++aw q++(aZ c).drop (46+20)=aZ (c.ends c.p q):=by cases c<;>rfl
theorem NC (c:Cv):c.ends c.p c.q=c:=by cases c<;>rfl
theorem EJ (c:Cv) (x q P:Pt):(c.ends x q).ends (c.ends x q).p P=c.ends x P:=by cases c<;>rfl
theorem EY (c:Cv) (x q P:Pt):(c.ends x q).setp P=c.ends P q:=by cases c<;>rfl
theorem Tc (h:c.inner p=true):c.on p=true:=by unfold Cv.inner at h;rw[di] at h;exact h.1
theorem RZ (hc:c.good) (hp:GP p) (h:c.inner p=true):cP p c.p≠0∧cP p c.q≠0:=by
 unfold Cv.inner at h
 have h1:=fS (cg (kO hc)) (cg hp)
 have h2:=fS (cg (tK hc)) (cg hp)
 grind
def JD (R:List Cv) (n:Nat):List Cv:=(R.take n).map Cv.fwd++R.drop n
section
variable {R:List Cv}{n:Nat}
theorem zG (h:n≤R.length):(JD R n).length=R.length:=by unfold JD;rw[d6,List.length_map,gX,lZ];omega
theorem O8 (h:n<R.length):(JD R n).getD n bY=R.getD n bY:=by
 unfold JD
 grind
theorem M2 (h:n<R.length):(JD R n).set n (R.getD n bY).fwd=JD R (n+1):=by
 unfold JD
 have hl:((R.take n).map Cv.fwd).length=n:=by grind
 rw[List.set_append_right _ _ (by omega),hl,Nat.sub_self,sT (d:=bY) h,rV,wx,nI h]
 rfl
theorem OX (h:n<R.length) (e:(R.getD n bY).fwd=R.getD n bY):JD R n=JD R (n+1):=by
 rw[←M2 h,e]
 apply List.ext_getElem?
 intro j
 rw[List.getElem?_set]
 split
 ·rename_i g
  subst g
  rw[if_pos (by rw[zG (Nat.le_of_lt h)];exact h),←O8 h,kV (by rw[zG (Nat.le_of_lt h)];exact h)]
 ·rfl
theorem Wd:JD R R.length=R.map Cv.fwd:=by unfold JD;simp
theorem abe:JD R 0=R:=by unfold JD;simp
end
theorem Xl (hk:GK k) (h0:0<k.q):cP (mi k) (lX k)≠0:=fun e=>by
 have h1:=(eH.1 e).1
 have kL:=S9 (k:=k) h0
 have kR:=PW (k:=k) h0
 rcases GA (qb hk h0) (oX hk h0) kL.1 kL.2 with⟨_,b,_⟩|⟨_,b⟩
 ·have:=kR.2;omega
 ·omega
def pA (kf kt:Fin 4) (i:Int):Bool:=pd kt kf i&& !(uK kt==uK kf&&i==0)
def pB (kf kt kx:Fin 4) (i j d:Int):Bool:=pd kx kf j&&(pd kx kt d&&(Fj j i d&&cwP kf kx kt j i d))
def pC (kx ky:Fin 4) (j l d e g:Int):Bool:=pd kx ky g&&(Fj j l g&&Fj d e g)
set_option maxRecDepth 1000000 in
theorem Nx: ∀(kf kt:Fin 4) (i:Fin 3),pA kf kt (i3 i)=true→ ∀(kx:Fin 4) (j d:Fin 3),pB kf kt kx (i3 i) (i3 j) (i3 d)=true→ ∀(ky:Fin 4) (l e:Fin 3),pB kf kt ky (i3 i) (i3 l) (i3 e)=true→ ∀g:Fin 3,pC kx ky (i3 j) (i3 l) (i3 d) (i3 e) (i3 g)=true→
 Fw (DS (uF kx) (uF kf) (-(i3 j))) (DS (uF ky) (uF kf) (-(i3 l))) (DS (uF kx) (uF ky) (-(i3 g)))= -wt (BK (uK kx) (uK kt) (i3 d)) (BK (uK ky) (uK kt) (i3 e)) (BK (uK kx) (uK ky) (i3 g)):=by decide+kernel
theorem ZI {x y:Pt}(h0:0<k.q) (of:OnK k f) (ot:OnK k t) (ox:OnK k x) (oy:OnK k y) (hne:cP f t≠0) (hx:(Cv.arc k true f t).on x=true) (hy:(Cv.arc k true f t).on y=true):(Cv.arc k true f t).ord x y= -yC k t x y:=by
 have cf:=aU of
 have ct:=aU ot
 have cx':=aU ox
 have cy':=aU oy
 rw[zg (bK.2 ox.2)] at hx
 rw[zg (bK.2 oy.2)] at hy
 have hx:(decide ((Cv.arc k true f t).ord f x≤0)&&decide ((Cv.arc k true f t).ord x t≤0))=true:=hx
 have hy:(decide ((Cv.arc k true f t).ord f y≤0)&&decide ((Cv.arc k true f t).ord y t≤0))=true:=hy
 rw[Df h0 of ot ox] at hx
 rw[Df h0 of ot oy] at hy
 have t1:=jx cf cx' ct
 have t2:=jx cf cy' ct
 have t3:=jx cf cx' cy'
 have t4:=jx ct cx' cy'
 have m1:=gJ h0 ot of
 have m2:=gJ h0 ox of
 have m3:=gJ h0 ox ot
 have m4:=gJ h0 oy of
 have m5:=gJ h0 oy ot
 have m6:=gJ h0 ox oy
 have hn:(uK (kd k t)==uK (kd k f)&&cx t f==0)=false:=by
  rw[←fW,←fW]
  cases h:(qp k t==qp k f&&cx t f==0) with
  |false=>rfl
  |true=>exact absurd (yR h0 ot of h) (fun e=>hne (by rw[fS ct cf,e];rfl))
 have e1:yC k t x f=wt (BK (uK (kd k x)) (uK (kd k t)) (cx x t)) (BK (uK (kd k f)) (uK (kd k t)) (-cx t f)) (BK (uK (kd k x)) (uK (kd k f)) (cx x f)):=by
  unfold yC oR;rw[fW,fW,fW,dd ct cf]
 have e2:yC k t y f=wt (BK (uK (kd k y)) (uK (kd k t)) (cx y t)) (BK (uK (kd k f)) (uK (kd k t)) (-cx t f)) (BK (uK (kd k y)) (uK (kd k f)) (cx y f)):=by
  unfold yC oR;rw[fW,fW,fW,dd ct cf]
 rw[e1] at hx
 rw[e2] at hy
 show xI k.mir f.flip x.flip y.flip=_
 rw[ti,fL,fL,fL,m7 cx' cf,m7 cy' cf,m7 cx' cy',sV h0 of,sV h0 ox,sV h0 oy]
 unfold yC oR
 rw[fW,fW,fW]
 obtain⟨i,hi⟩:=fp (fh t f)
 obtain⟨j,hj⟩:=fp (fh x f)
 obtain⟨l,hl⟩:=fp (fh y f)
 obtain⟨d,hd⟩:=fp (fh x t)
 obtain⟨e,he⟩:=fp (fh y t)
 obtain⟨g,hg⟩:=fp (fh x y)
 rw[hi] at t1 t2 m1 hn hx hy
 rw[hj] at t1 t3 m2 hx⊢
 rw[hl] at t2 t3 m4 hy⊢
 rw[hd] at t1 t4 m3 hx⊢
 rw[he] at t2 t4 m5 hy⊢
 rw[hg] at t3 t4 m6⊢
 exact Nx _ _ i (by unfold pA;rw[m1,hn];rfl) _ j d (by unfold pB cwP;rw[m2,m3,t1,hx];rfl) _ l e (by unfold pB cwP;rw[m4,m5,t2,hy];rfl) g (by unfold pC;rw[m6,t3,t4];rfl)
theorem Az {x:Pt}(gx:GP x) (h:(Cv.arc k w f t).on x=true):OnK k x:=⟨gx,bK.1 (F5 h)⟩
theorem Wm (vc:CvV c) (ha:c.isArc=true) {x y:Pt}(gx:GP x) (gy:GP y) (hx:c.on x=true) (hy:c.on y=true):bL c x y=c.ord x y:=by
 cases c with
 |seg l f t=>cases ha
 |arc k w f t=>
  cases w with
  |true=>exact(ZI vc.pos ⟨vc.g.2.1,bK.1 vc.sp⟩ ⟨vc.g.2.2,bK.1 vc.sq⟩ (Az gx hx) (Az gy hy) vc.ne hx hy).symm
  |false=>exact(T7 vc.g.2.1 gx gy).symm
theorem CH {α:Type}{r:α→α→Prop}: ∀ {A B:List α},(∀a∈A,∀b∈A,r a b→ ¬r b a)→A.Perm B→A.Pairwise r→B.Pairwise r→A=B
 |[],B,_,h,_,_=>h.nil_eq
 |a::A,[],_,h,_,_=>absurd h.length_eq (by simp)
 |a::A,b::B,hs9,h,hA,hB=>by
  have hab:a=b:=by
   apply fe
   intro hn
   have h1:a∈B:=(d8.1 (h.mem_iff.1 io)).resolve_left hn
   have h2:b∈A:=(d8.1 (h.mem_iff.2 io)).resolve_left (Ne.symm hn)
   exact hs9 a io b (jd _ h2) ((lj.1 hA).1 b h2) ((lj.1 hB).1 a h1)
  subst hab
  rw[CH (fun x hx y hy=>hs9 x (jd _ hx) y (jd _ hy)) h.cons_inv (lj.1 hA).2 (lj.1 hB).2]
section
variable {k:Ci}{w:Bool}{f t:Pt}(vc:CvV (.arc k w f t))
include vc
theorem Ef:OnK k f∧OnK k t:=⟨⟨vc.g.2.1,bK.1 vc.sp⟩,⟨vc.g.2.2,bK.1 vc.sq⟩⟩
theorem Kl {x y:Pt}(ox:OnK k x) (oy:OnK k y) (h:(Cv.arc k w f t).ord x y≤0) (hne:cP x y≠0):(Cv.arc k w f t).ord x y<0:=by
 have:(Cv.arc k w f t).ord x y≠0:=fun e=>hne (vY vc.pos (Ef vc).1 ox oy e)
 omega
end
theorem Mk: ∀ {L:List Pt},(∀a∈L,∀b∈L,cP a b=0→cP b a=0)→L.Pairwise (fun a b=>cP a b≠0)→ ∀a∈L,∀b∈L,cP a b=0→a=b
 |[],_,_,_,h,_,_,_=>by cases h
 |x::L,hs,h,a,ha,b,hb,e=>by
  obtain⟨h1,h2⟩:=lj.1 h
  rcases d8.1 ha with rfl|ha'
  ·rcases d8.1 hb with rfl|hb'
   ·rfl
   ·exact absurd e (h1 b hb')
  ·rcases d8.1 hb with rfl|hb'
   ·exact absurd (hs a ha b hb e) (h1 a ha')
   ·exact Mk (fun a ha b hb=>hs a (jd _ ha) b (jd _ hb)) h2 a ha' b hb' e
theorem nB (h:aB x=0) (g:aB y=0):aB (x+y)=0:=by rw[nm h,g]
theorem dA (y:Re) (h:aB x=0):aB (y*x)=0:=by rw[aY,h,ny]
theorem my (h:aB x=0):aB (-x)=0:=by rw[bG,h];rfl
theorem adA {x y:Rat}(h:aB (Re.of x-Re.of y)=0):x=y:=by
 rw[←B3] at h
 have:aX (x-y) 0=0:=by rw[oE];exact h
 have:=uN.1 this
 grind
theorem Fe (h:aB (x*y)=0) (hx:aB x≠0):aB y=0:=by
 rw[aY] at h
 exact(pV.1 h).resolve_left hx
theorem LO {x y:Rat}(h:Cx x y=true):x=y:=by
 have:=beq_iff_eq.1 h
 rw[B3] at this
 exact adA this
theorem aa7 (op:OnK k p):aB ((pX p-Re.of k.x)*(pX p-Re.of k.x)+(pY p-Re.of k.y)*(pY p-Re.of k.y)-Re.of k.q)=0:=ww op
def eqC (c d:Cv):Bool:=WY c d&&((c.cw==d.cw)&&(cP c.p d.p==0&&cP c.q d.q==0))
theorem ms (h:aB x=1) (g:0≤aB y):aB (x+y)=1:=by
 have h1:=wG (x:=x) (y:=y) (by omega) g
 have h2:=bg (x+y)
 omega
theorem Eu (h:0≤aB x) (g:aB y=1):aB (x+y)=1:=by rw[y8];exact ms g h
theorem RB (h:aB (x*y)=1) (hy:aB y=1):aB x=1:=by
 rw[aY,hy] at h;omega
theorem Dr (h:0≤aB x) (g:0≤aB y):0≤aB (x*y):=by
 rw[aY];exact fU h g
theorem Jc (h:aB x=1) (g:aB y=1):aB (x*y)=1:=by rw[aY,h,g];rfl
theorem DE (x:Re):0≤aB (x*x):=by
 rw[aY]
 rcases bg x with h|h|h<;>rw[h]<;>decide
theorem dm {z:Re}(e:x-y=z) (hz:aB z=0):aB x=aB y:=cY (by rw[e];exact hz)
theorem iX (h:aB x=0) (g:aB y=0):aB (x-y)=0:=nB h (my g)
theorem PM {p a b:Re}(h:aB (p*b-r*a)≠0):aB (a*a+b*b)=1:=by
 obtain⟨h1,h2⟩:=FC a b
 have h3:=bg (a*a+b*b)
 rcases h3 with h3|h3|h3
 ·grind
 ·obtain⟨z1,z2⟩:=h2.1 h3
  exact absurd (iX (dA p z2) (dA r z1)) h
 grind
theorem rE {q:Re}(n1:aB (x1*x1+y1*y1-q)=0) (n2:aB (x2*x2+y2*y2-q)=0) (na:aB (xa*xa+ya*ya-q)=0) (hy1:0≤aB y1) (hy2:0≤aB y2) (hx:aB (x2-x1)=1)
 (hc:aB ((x2-x1)*(ya-y1)-(y2-y1)*(xa-x1))=1):aB (xa-x1)=1∧aB (x2-xa)=1∧aB ya=1:=by
 have w0:aB ((x2-x1)*(x2-x1)+(y2-y1)*(y2-y1))=1:=ms (Jc hx hx) (DE _)
 have v0:aB ((xa-x1)*(xa-x1)+(ya-y1)*(ya-y1))=1:=PM (p:=x2-x1) (r:=y2-y1) (by rw[hc];decide)
 have u0:aB ((xa-x2)*(xa-x2)+(ya-y2)*(ya-y2))=1:=PM (p:=x2-x1) (r:=y2-y1) (by
  rw[show(x2-x1)*(ya-y2)-(y2-y1)*(xa-x2)=(x2-x1)*(ya-y1)-(y2-y1)*(xa-x1) from(aM fun n=>by simp only[aj,aE];grind),hc];decide)
 have a1:aB (xa-x1)=1:=by
  refine RB (y:=(x2-x1)*(x2-x1)+(y2-y1)*(y2-y1)) ?_ w0
  rw[dm (y:=(y1+y1)*((x2-x1)*(ya-y1)-(y2-y1)*(xa-x1))+(x2-x1)*((xa-x1)*(xa-x1)+(ya-y1)*(ya-y1)))
   (z:=(xa-x1)*((x2*x2+y2*y2-q)-(x1*x1+y1*y1-q))-(x2-x1)*((xa*xa+ya*ya-q)-(x1*x1+y1*y1-q)))
   ((aM fun n=>by simp only[aD,aj,aE];grind)) (iX (dA _ (iX n2 n1)) (dA _ (iX na n1)))]
  exact Eu (Dr (fP hy1 hy1) (by rw[hc];decide)) (Jc hx v0)
 have a2:aB (x2-xa)=1:=by
  refine RB (y:=(x2-x1)*(x2-x1)+(y2-y1)*(y2-y1)) ?_ w0
  rw[dm (y:=(y2+y2)*((x2-x1)*(ya-y1)-(y2-y1)*(xa-x1))+(x2-x1)*((xa-x2)*(xa-x2)+(ya-y2)*(ya-y2)))
   (z:=(x1-x2)*((xa*xa+ya*ya-q)-(x2*x2+y2*y2-q))-(xa-x2)*((x1*x1+y1*y1-q)-(x2*x2+y2*y2-q)))
   ((aM fun n=>by simp only[aD,aj,aE];grind)) (iX (dA _ (iX na n2)) (dA _ (iX n1 n2)))]
  exact Eu (Dr (fP hy2 hy2) (by rw[hc];decide)) (Jc hx u0)
 refine⟨a1,a2,?_⟩
 refine RB (y:=x2-x1) ?_ hx
 rw[show ya*(x2-x1)=((x2-x1)*(ya-y1)-(y2-y1)*(xa-x1))+(y1*(x2-xa)+y2*(xa-x1)) from(aM fun n=>by simp only[aD,aj,aE];grind)]
 exact ms hc (fP (Dr hy1 (by rw[a2];decide)) (Dr hy2 (by rw[a1];decide)))
theorem abO {T1 T2 H1 H2 V:Re}(m1:aB (r*r+V*V-(T1*T1+(H1-V)*(H1-V)))=0) (m2:aB (r*r+V*V-(T2*T2+(H2-V)*(H2-V)))=0) (hs:aB H1*aB H2= -1):
 aB (T2*H1-T1*H2+r*(H2-H1))*aB (T2*H1-T1*H2-r*(H2-H1))= -1:=by
 have hd:aB (H2-H1)≠0:=by
  intro h
  have:=cY h
  rw[this] at hs
  rcases bg H1 with e|e|e<;>rw[e] at hs<;>exact absurd hs (by decide)
 have hq:aB ((H2-H1)*(H2-H1)+(T1-T2)*(T1-T2))=1:=by
  refine ms ?_ (DE _)
  rw[aY]
  rcases bg (H2-H1) with e|e|e
  ·rw[e];rfl
  ·exact absurd e hd
  ·rw[e];rfl
 rw[←aY,dm (y:=H1*H2*((H2-H1)*(H2-H1)+(T1-T2)*(T1-T2)))
  (z:= -(H2*H2*(r*r+V*V-(T1*T1+(H1-V)*(H1-V)))+H1*H1*(r*r+V*V-(T2*T2+(H2-V)*(H2-V)))-H1*H2*((r*r+V*V-(T1*T1+(H1-V)*(H1-V)))+(r*r+V*V-(T2*T2+(H2-V)*(H2-V))))))
  ((aM fun n=>by simp only[aD,aj,aE,aV];grind)) (my (iX (nB (dA _ m1) (dA _ m2)) (dA _ (nB m1 m2)))),aY,aY,hq,hs]
 rfl
structure LinP (a b n V r xa ya:Re):Prop where
 x:aB (xa*n+(V*a+b*r))=0
 y:aB (ya*n+(V*b-a*r))=0
section
variable {a b n V r q:Re}(hn:n=a*a+b*b) (n0:aB n=1) (hr:aB (r*r+V*V-n*q)=0)
include hn n0 hr
theorem LinP.on (h:LinP a b n V r xa ya):aB (xa*xa+ya*ya-q)=0:=by
 refine Fe (x:=n*n) ?_ (by rw[Jc n0 n0];decide)
 rw[dm (y:=n*(r*r+V*V-n*q)) (z:=(xa*n-(V*a+b*r))*(xa*n+(V*a+b*r))+(ya*n-(V*b-a*r))*(ya*n+(V*b-a*r))) (by subst hn;exact(aM fun n=>by simp only[aD,aj,aE];grind)) (nB (dA _ h.x) (dA _ h.y))]
 exact dA _ hr
theorem LinP.cross (h:LinP a b n V r xa ya):aB ((x2-x1)*(ya-y1)-(y2-y1)*(xa-x1))=aB ((a*y2-b*x2)*(a*x1+b*y1+V)-(a*y1-b*x1)*(a*x2+b*y2+V)+r*((a*x2+b*y2+V)-(a*x1+b*y1+V))):=by
 have e:=dm (x:=((x2-x1)*(ya-y1)-(y2-y1)*(xa-x1))*n) (y:=(a*y2-b*x2)*(a*x1+b*y1+V)-(a*y1-b*x1)*(a*x2+b*y2+V)+r*((a*x2+b*y2+V)-(a*x1+b*y1+V)))
  (z:=(x2-x1)*(ya*n+(V*b-a*r))-(y2-y1)*(xa*n+(V*a+b*r))) (by subst hn;exact(aM fun n=>by simp only[aD,aj,aE];grind)) (iX (dA _ h.y) (dA _ h.x))
 rw[←e,aY,n0];omega
theorem Hw {xb yb:Re}(hA:LinP a b n V r xa ya) (hB:LinP a b n V (-r) xb yb) (n1:aB (x1*x1+y1*y1-q)=0) (n2:aB (x2*x2+y2*y2-q)=0) (hy1:0≤aB y1) (hy2:0≤aB y2) (hx:aB (x2-x1)=1)
 (hs:aB (a*x1+b*y1+V)*aB (a*x2+b*y2+V)= -1):(aB (xa-x1)=1∧aB (x2-xa)=1∧aB ya=1)∨(aB (xb-x1)=1∧aB (x2-xb)=1∧aB yb=1):=by
 have hr2:aB (-r* -r+V*V-n*q)=0:=by rw[show-r* -r+V*V-n*q=r*r+V*V-n*q from(aM fun n=>by simp only[aD,aj,aE,aV];grind)];exact hr
 have m: ∀ {x y:Re},aB (x*x+y*y-q)=0→aB (r*r+V*V-((a*y-b*x)*(a*y-b*x)+(a*x+b*y+V-V)*(a*x+b*y+V-V)))=0:=fun{x y} h=>by
  rw[dm (y:=r*r+V*V-n*q) (z:= -(n*(x*x+y*y-q))) (by subst hn;exact(aM fun n=>by simp only[aD,aj,aE,aV];grind)) (my (dA _ h))];exact hr
 have s:=abO (m n1) (m n2) hs
 have cA:=hA.cross hn n0 hr (x1:=x1) (y1:=y1) (x2:=x2) (y2:=y2)
 have cB:=hB.cross hn n0 hr2 (x1:=x1) (y1:=y1) (x2:=x2) (y2:=y2)
 have e:(a*y2-b*x2)*(a*x1+b*y1+V)-(a*y1-b*x1)*(a*x2+b*y2+V)+ -r*((a*x2+b*y2+V)-(a*x1+b*y1+V))=(a*y2-b*x2)*(a*x1+b*y1+V)-(a*y1-b*x1)*(a*x2+b*y2+V)-r*((a*x2+b*y2+V)-(a*x1+b*y1+V)):=(aM fun n=>by simp only[aD,aj,aE,aV];grind)
 rw[e] at cB
 rw[←cA,←cB] at s
 rcases bg ((x2-x1)*(ya-y1)-(y2-y1)*(xa-x1)) with g|g|g
 ·exact .inl (rE n1 n2 (hA.on hn n0 hr) hy1 hy2 hx g)
 ·rw[g] at s;omega
 ·rw[g] at s;exact .inr (rE n1 n2 (hB.on hn n0 hr2) hy1 hy2 hx (by omega))
end
end Go.Proofs.YtegpmhlfjkhjmaaGreat
