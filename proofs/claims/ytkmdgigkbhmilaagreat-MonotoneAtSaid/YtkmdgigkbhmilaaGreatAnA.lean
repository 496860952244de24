/-The types of this program,as the walks ask of them. -/
import Derived.Test.YtkmdgigkbhmilaaGreatNbV
import Derived.Test.YtkmdgigkbhmilaaGreatProg
namespace Go.Proofs.YtkmdgigkbhmilaaGreat
open Go Go.RowKit
theorem Vi:nv Tryz.prog 29=some (true,3):=by kernel_rfl
def Oi (xs:List Int):Prop:= ∀x∈xs,0≤x∧x≤4294967295
theorem Jy {xs:List Int}(h:Oi xs) (i:Nat):0≤xs.getD i 0∧xs.getD i 0≤4294967295:=by
 by_cases hi:i<xs.length
 ·have:xs.getD i 0=xs[i]:=by simp[List.getD,hi]
  rw[this];exact h _ (List.getElem_mem hi)
 ·have:xs.getD i 0=0:=by rw[List.getD,List.getElem?_eq_none (by omega)];rfl
  rw[this];omega
def vI (neg:Bool) (xs:List Int):Bool:=xs.all (fun x=>decide (x<1000000000))&&((trm xs).length==xs.length)&&(!neg||decide (0<xs.length))
theorem P7 {neg:Bool}{xs:List Int}{k:Nat}(hk:k<xs.length) (h:xs.getD k 0≥1000000000):vI neg xs=false:=by
 have h1:xs.all (fun x=>decide (x<1000000000))=false:=by
  rw[Bool.eq_false_iff]
  intro hall
  have h2:=List.all_eq_true.1 hall xs[k] (List.getElem_mem hk)
  have h3:xs.getD k 0=xs[k]:=by simp[List.getD,hk]
  simp only[decide_eq_true_eq] at h2
  omega
 unfold vI
 rw[h1];rfl
theorem Et {xs:List Int}(hb:Oi xs) (h: ∀k,k<xs.length→xs.getD k 0<1000000000):Lim xs:=by
 intro x hx
 obtain⟨i,hi,rfl⟩:=List.getElem_of_mem hx
 have h1:=h i hi
 have h3:xs.getD i 0=xs[i]:=by simp[List.getD,hi]
 have:=hb xs[i] (List.getElem_mem hi)
 omega
theorem u3 {xs:List Int}(h:Lim xs):xs.all (fun x=>decide (x<1000000000))=true:=List.all_eq_true.2 fun x hx=>by have:=h x hx;simp;omega
theorem RB {neg:Bool}{xs:List Int}(h:Lim xs):vI neg xs=(((trm xs).length==xs.length)&&(!neg||decide (0<xs.length))):=by
 unfold vI;rw[u3 h];rfl
theorem Dd {neg:Bool}{xs:List Int}(h:Lim xs):vI neg xs=((((du (val xs).natAbs).length:Int)==(xs.length:Int))&&(!neg||decide ((xs.length:Int)>0))):=by
 rw[RB h,E1 h]
 congr 1
 ·rw[Bool.eq_iff_iff,beq_iff_eq,beq_iff_eq];omega
 ·simp
theorem Ic {x:Rat}(hx:Rz 300 x):Ok Tryz.prog 71 [dR x] [dQ (if go x then bP x.num else 0) (if go x then bP (x.den:Int) else 0),.c (.b (go x))]:=nJ (hx.mono (by decide))
theorem Ge {neg:Bool}{xs:List Int}(hb:Oi xs) (hn:xs.length≤1000):Ok Tryz.prog 136 [.a (([.b neg]++[cM xs]))] [.c (.b (vI neg xs))]:=by
 refine Ok.fn Tryz.func136 36 [.tmp 2] rfl<|aa<|ab<|ag<|aa<|aa<|ab<|ag<|aJ<|bD (ι:={k:Nat // k≤xs.length∧ ∀j,j<k→xs.getD j 0<1000000000}) (fun i=>⟨36,[(1,.p 1 0),(3,.v (.c (.i .i64 (i.1:Int))))],[(1,33,([.b neg]++[cM xs]))]⟩) (fun i=>xs.length-i.1) ⟨0,Nat.zero_le _,fun j hj=>by omega⟩ (aM ⟨rfl,rfl,trivial⟩ ⟨rfl,trivial⟩ rfl) ?_
 rintro⟨k,hk0,hall⟩
 replace hk0:k≤xs.length:=hk0
 replace hall: ∀j,j<k→xs.getD j 0<1000000000:=hall
 have hg:=Jy hb k
 show Dw _ _ ⟨36,[(1,.p 1 0),(3,.v (.c (.i .i64 (k:Int))))],[(1,33,([.b neg]++[cM xs]))]⟩ _
 refine aa<|aa<|ab<|ag ?_
 refine aw rfl (fun hc1=>?_) (fun hc1=>?_)
 ·have hk:k<xs.length:=by simp only[decide_eq_true_eq] at hc1;omega
  refine ao<|aa<|aJ<|aa<|ab<|al 3<|ah (aW gX rfl rfl (by omega) (ig _) rfl rfl) ?_
  refine ah (cU eQ rfl (iW (i:=k) (by omega)) rfl) ?_
  refine ag ?_
  refine aw rfl (fun hc2=>?_) (fun hc2=>?_)
  ·have hbad:xs.getD k 0≥1000000000:=by simpa using hc2
   refine aa<|ab<|ag<|an ?_
   rw[P7 hk hbad]
   exact aq (aE ae)
  ·have hok: ¬xs.getD k 0≥1000000000:=by simpa using hc2
   have hstep: ∀j,j<k+1→xs.getD j 0<1000000000:=fun j hj=>by
    rcases Nat.lt_or_ge j k with h1|h1
    ·exact hall j h1
    ·rw[show j=k from by omega];omega
   refine ao<|ab<|al 1<|ah (aK (r:=(k:Int)+1) rfl rfl (aQ (by omega) (by omega)) rfl) ?_
   refine ag ?_
   exact⟨⟨k+1,hk,hstep⟩,aM ⟨rfl,by rw[show((k+1:Nat):Int)=(k:Int)+1 from by omega];rfl,trivial⟩ ⟨rfl,trivial⟩ rfl,by show xs.length-(k+1)<xs.length-k;omega⟩
 ·have hk:k=xs.length:=by simp only[decide_eq_false_iff_not] at hc1;omega
  have hL:Lim xs:=Et hb (by rw[←hk];exact hall)
  refine bj<|aa<|aR 20 rfl rfl<|ap 2<|aj (am rfl (jj hL (by omega)))<|ap 5 ?_
  refine fb (bN rfl) (fun c3 hb3=>?_)
  cases c3
  ·refine bk<|az<|ar<|an ?_
   rw[Dd hL,hb3,Bool.false_and]
   exact aq (aE ae)
  ·refine ap 3 ?_
   refine fb (bN rfl) (fun c4 hb4=>?_)
   cases c4
   ·refine bk<|az<|ar<|an ?_
    rw[Dd hL,hb3,hb4,Bool.false_or,Bool.true_and]
    exact aq (aE ae)
   ·refine bk<|az<|ar<|an ?_
    rw[Dd hL,hb3,hb4,Bool.true_or,Bool.true_and]
    exact aq (aE ae)
theorem U4 {x:Int}:vI (decide (x<0)) (du x.natAbs)=true:=by
 unfold vI
 rw[u3 (bW _),show trm (du x.natAbs)=du x.natAbs from gY _]
 by_cases h:x<0
 ·have:du x.natAbs≠ []:=fun e=>by have:=dZ.1 e;omega
  have:=List.length_pos_iff.2 this
  simp[h,this]
 ·simp[h]
theorem NC (v:Nat):Oi (du v):=fun x hx=>by have:=bW v x hx;omega
theorem CV {x:Int}(hx:Sz 1000 x):Ok Tryz.prog 136 [dI x] [.c (.b true)]:=by
 have:=Ge (neg:=decide (x<0)) (xs:=du x.natAbs) (NC _) (fR hx)
 rw[U4] at this;exact this
theorem Sw (x:Rat):vQ x.num (x.den:Int)=true:=by
 unfold vQ
 simp only[Bool.and_eq_true,decide_eq_true_eq,beq_iff_eq]
 refine⟨den_pos x,?_⟩
 have:Int.gcd x.num (x.den:Int)=1:=x.reduced
 rw[this];rfl
theorem TS {x y:Int}(h:(dS y 0 !=1)=true):vQ x y=false:=by
 unfold vQ
 have h1: ¬0<y:=fun e=>by rw[eA e] at h;cases h
 rw[show decide (0<y)=false from by simpa using h1];rfl
theorem Up {y:Int}(h:(dS y 0 !=1)=false):y≠0:=fun e=>by rw[hJ e] at h;cases h
theorem S4 {x y:Int}(h:(dS y 0 !=1)=false):vQ x y=(((Int.gcd x y:Nat):Int)==1):=by
 unfold vQ
 have h1:0<y:=by
  rcases Int.lt_trichotomy y 0 with e|e|e
  ·rw[ew e] at h;cases h
  ·rw[hJ e] at h;cases h
  ·exact e
 rw[show decide (0<y)=true from by simpa using h1,Bool.true_and]
def rj (b c:Rat):Bool:=if b=0∨c=0 then decide (b=0∧c=0) else decide (0<c)&& !go c
theorem Uc {x:Rat}:(aV x 0==0)=decide (x=0):=by rw[Bool.eq_iff_iff,beq_iff_eq,decide_eq_true_eq,lP]
theorem TE {x:Rat}:decide (aV x 0>0)=decide (0<x):=by rw[Bool.eq_iff_iff,decide_eq_true_eq,decide_eq_true_eq];exact vW
theorem M8 {b c:Rat}(h:(aV b 0==0)=true):rj b c=(aV c 0==0):=by
 have:=mC h
 unfold rj;rw[if_pos (.inl this),Uc,Bool.eq_iff_iff,decide_eq_true_eq,decide_eq_true_eq]
 exact⟨fun e=>e.2,fun e=>⟨this,e⟩⟩
theorem MC {b c:Rat}(h:(aV b 0==0)=false) (h2:(aV c 0==0)=true):rj b c=false:=by
 have:=jT h
 unfold rj;rw[if_pos (.inr (mC h2)),decide_eq_false_iff_not]
 exact fun e=>this e.1
theorem EF {b c:Rat}(h:(aV b 0==0)=false) (h2:(aV c 0==0)=false):rj b c=(decide (aV c 0>0)&& !go c):=by
 unfold rj;rw[if_neg (fun e=>e.elim (jT h) (jT h2)),TE]
theorem MT {x y:Int}(hx:Sz 999 x) (hy:Sz 999 y):Ok Tryz.prog 70 [dQ x y] [.c (.b (vQ x y))]:=by
 have hx1:Sz 1000 x:=hx.m_
 have hy1:Sz 1000 y:=hy.m_
 refine Ok.fn Tryz.func70 26 [.tmp 2] rfl<|aa<|ab<|ag<|aa<|aa<|ab<|al 1<|ah (aF (cI x) bU rfl)<|ah (am rfl (CV (by assumption)))<|al 3<|ah (aF (cI y) bU rfl)<|ah (am rfl (CV (by assumption)))<|al 4 ?_
 refine ah (aF (cI y) bU rfl)<|ah (am rfl (sm))<|ag ?_
 refine aw rfl (fun hc1=>?_) (fun hc1=>?_)
 ·refine aa<|ab<|ag<|an ?_
  rw[TS hc1]
  exact aq (aE ae)
 ·have hgc:Sz 1000000 ((Int.gcd x y:Nat):Int):=(Sz.gcd (x:=x) hy (Up hc1)).m_
  refine ao<|aa<|ab<|al 1<|ah (aF (cI x) bU rfl)<|al 1<|ah (aF (cI y) bU rfl)<|ah (am rfl (zO (fm hx) (fm hy)))<|ah (am rfl (CC))<|ah (am rfl (pr (JE) (fm (Sz.small (k:=3) (by decide) (by decide) (by decide)))))<|ag<|an ?_
  rw[S4 hc1]
  exact aq (aE ae)
theorem wW {x:Rat}(hx:Rz 999 x):Ok Tryz.prog 70 [dR x] [.c (.b true)]:=by
 have:=MT hx.n hx.d
 rw[Sw] at this;exact this
theorem G0 {a b c:Rat}(ha:Rz 300 a) (hb:Rz 300 b) (hc:Rz 300 c):Ok Tryz.prog 18 [.a ((cR a++cR b++cR c))] [.c (.b (rj b c))]:=by
 refine Ok.fn Tryz.func18 55 [.tmp 2] rfl<|aa<|ab<|ag<|aa<|aa<|ab<|al 1<|ah (aF (cR a) aD rfl)<|ah (am rfl (wW (aX ha)))<|al 3<|ah (aF (cR b) aD rfl)<|ah (am rfl (wW (aX hb)))<|al 4 ?_
 refine ah (aF (cR c) aD rfl)<|ah (am rfl (wW (aX hc)))<|ag<|aP rfl<|ao<|aa<|aa<|ab<|al 1<|ah (aF (cR b) aD rfl)<|ah (am rfl (fl))<|al 1 ?_
 refine cg (bN rfl) (fun c1 hb1=>?_)
 cases c1
 ·refine al 1<|ah (aF (cR c) aD rfl)<|ah (am rfl (fl))<|ag ?_
  refine aw rfl (fun hc2=>?_) (fun hc2=>?_)
  ·refine aa<|ab<|al 1<|ah (aF (cR b) aD rfl)<|ah (am rfl (fl))<|al 1 ?_
   refine cg (bN rfl) (fun c3 hb3=>?_)
   cases c3
   ·refine ag<|an ?_
    rw[MC hb1 hc2]
    exact aq (aE ae)
   ·exact absurd hb3 (by rw[hb1];decide)
  ·refine ao<|aa<|ab<|al 1<|ah (aF (cR c) aD rfl)<|ah (am rfl (Ic (aX hc)))<|al 3<|aC (ai bJ rfl) rfl<|ag<|aa<|ab<|al 1<|ah (aF (cR c) aD rfl)<|ah (am rfl (fl)) ?_
   refine al 1 ?_
   refine cg (bN rfl) (fun c4 hb4=>?_)
   cases c4
   ·refine ag<|an ?_
    rw[EF hb1 hc2,hb4,Bool.false_and]
    exact aq (aE ae)
   ·refine ag<|an ?_
    rw[EF hb1 hc2,hb4,Bool.true_and]
    exact aq (aE ae)
 ·refine ag<|bg rfl<|aa<|ab<|al 1<|ah (aF (cR b) aD rfl)<|ah (am rfl (fl))<|al 1 ?_
  refine cg (bN rfl) (fun c5 hb5=>?_)
  cases c5
  ·exact absurd hb1 (by rw[hb5];decide)
  ·refine al 1<|ah (aF (cR c) aD rfl)<|ah (am rfl (fl))<|ag<|an ?_
   rw[M8 hb1]
   exact aq (aE ae)
theorem MN:cI 0=[.b false,.s 0 []]:=by
 unfold cI cL
 rw[show(0:Int).natAbs=0 from rfl,iG]
 rfl
def OQ:List CellD:=[.b false,.s 0 [],.b false,.s 0 []]
theorem Lp:Ok Tryz.prog 133 [.a [.b false,.s 0 []],.a [.b false,.s 0 []]] [.c (.b true)]:=by
 have h:=pr (x:=0) (y:=0) (Sz.small (by decide) (by decide) (by decide)) (Sz.small (by decide) (by decide) (by decide))
 unfold dI at h
 rw[MN] at h
 exact h
theorem Ey:Ok Tryz.prog 65 [.a (OQ),.a (OQ)] [.c (.b true)]:=by
 refine Ok.fn Tryz.func65 17 [.tmp 4] rfl<|aa<|ab<|ag<|aa<|ab<|al 1<|ah (aA bU rfl rfl rfl rfl rfl) ?_
 refine al 1<|ah (aA bU rfl rfl rfl rfl rfl) ?_
 refine ah (am rfl (Lp))<|al 2<|ah (aA bU rfl rfl rfl rfl rfl) ?_
 refine al 1<|ah (aA bU rfl rfl rfl rfl rfl) ?_
 refine ah (am rfl (Lp))<|ag<|an ?_
 exact aq (aE ae)
theorem kz (c:Cv) (x:Rat):(C0 c x).length=12:=by
 cases c with
 |seg l f t=>rfl
 |arc k w f t=>
  show(if go (gB k x)=true then cR (k.y+sW w*rt (gB k x))++cR 0++cR 0 else cR k.y++cR (sW w)++cR (zc (sW w) (gB k x))).length=12
  split<;>rfl
theorem If (w:Bool):sW w*sW w=1:=by cases w<;>decide+kernel
theorem Fp:rt 0=0:=by decide+kernel
theorem wY {c:Cv}(vc:CvV c) {x:Rat}(hx:Rz 2 x) (hb:rV c x=true):GP (tB c x):=by
 unfold rV at hb
 rw[Bool.and_eq_true,Bool.and_eq_true] at hb
 cases c with
 |seg l f t=>
  have sf:d9 l f=0:=by have:=vc.sp;simpa [Cv.supp,Cv.p] using this
  have st:d9 l t=0:=by have:=vc.sq;simpa [Cv.supp,Cv.q] using this
  have hv:=oK vc.g.1 vc.g.2.1 vc.g.2.2 sf st vc.ne
  have hb0:l.b≠0:=fun e=>by
   have h1:(!(cx f t==0))=true:=hb.1
   rw[hv.2 e] at h1;cases h1
  exact GP.rat (hx.mono (by decide)) (((vc.g.1.c.sub (vc.g.1.a.mul hx)).div vc.g.1.b hb0).mono (by decide))
 |arc k w f t=>
  have of:OnK k f:=⟨vc.g.2.1,cb.1 vc.sp⟩
  have ot:OnK k t:=⟨vc.g.2.2,cb.1 vc.sq⟩
  have h0:=ti of ot (of_decide_eq_true hb.2.1) (of_decide_eq_true hb.2.2)
  have hs:=oC vc.g.1 hx
  show GP (fv x 0 k.y (sW w) (gB k x))
  by_cases hz:gB k x=0
  ·rw[hz]
   unfold fv
   rw[if_pos vN,Fp]
   have e1:x+0*0=x:=by grind
   have e2:k.y+sW w*0=k.y:=by grind
   rw[e1,e2]
   exact GP.rat (hx.mono (by decide)) (vc.g.1.y.mono (by decide))
  ·refine si (hx.mono (by decide)) (Rz.zero (by decide)) (vc.g.1.y.mono (by decide)) ((rT w).mono (by decide)) (hs.mono (by decide)) (by grind) (fun e=>?_)
   have:=If w
   rw[e.2] at this
   exact absurd this (by decide+kernel)
theorem SK (c:Cv) (x:Rat):pX (tB c x)=Re.of x:=by
 cases c with
 |seg l f t=>exact E6 x _
 |arc k w f t=>
  show pX (fv x 0 k.y (sW w) (gB k x))=_
  unfold fv
  split
  ·have e:x+0*rt (gB k x)=x:=by grind
   rw[e]
   exact E6 x _
  ·exact Re.ext fun n=>by unfold pX qu dX;simp only[bt,bK,cJ];grind
theorem Tn {k:Ci}{w:Bool}{f t:Pt}{x:Rat}(h0:0≤gB k x):bR ((pY (tB (.arc k w f t) x)-Re.of k.y)*(pY (tB (.arc k w f t) x)-Re.of k.y)-Re.of (gB k x))=0∧0≤bR (Re.of (sW w))*bR (pY (tB (.arc k w f t) x)-Re.of k.y):=by
 have hw:bR (Re.of (sW w))*bR (Re.of (sW w))=1:=by cases w<;>(rw[dN];decide+kernel)
 show bR ((pY (fv x 0 k.y (sW w) (gB k x))-Re.of k.y)*(pY (fv x 0 k.y (sW w) (gB k x))-Re.of k.y)-Re.of (gB k x))=0∧0≤bR (Re.of (sW w))*bR (pY (fv x 0 k.y (sW w) (gB k x))-Re.of k.y)
 cases hs:go (gB k x) with
 |true=>
  have e:fv x 0 k.y (sW w) (gB k x)=rP (x+0*rt (gB k x)) (k.y+sW w*rt (gB k x)):=by unfold fv;rw[hs];rfl
  rw[e,Jx]
  have e1:Re.of (k.y+sW w*rt (gB k x))-Re.of k.y=Re.of (sW w)*Re.of (rt (gB k x)):=Re.ext fun n=>by simp only[bp,bK,cJ];grind
  rw[e1]
  have hr:rt (gB k x)*rt (gB k x)=gB k x:=by
   by_cases hz:gB k x=0
   ·rw[hz,Fp];grind
   ·exact Io (by grind) hs
  refine⟨?_,?_⟩
  ·rw[show Re.of (sW w)*Re.of (rt (gB k x))*(Re.of (sW w)*Re.of (rt (gB k x)))-Re.of (gB k x)=Re.of 0 from Re.ext fun n=>by simp only[bp,bK,cJ];have:=If w;grind,dN]
   decide+kernel
  ·rw[cj,←Int.mul_assoc,hw,Int.one_mul,dN]
   have:=xE (gB k x)
   unfold aV;rw[if_neg (by grind)];split<;>decide
 |false=>
  have e:fv x 0 k.y (sW w) (gB k x)=⟨x,0,k.y,sW w,gB k x⟩:=by unfold fv;rw[hs];rfl
  rw[e]
  have e1:pY ⟨x,0,k.y,sW w,gB k x⟩-Re.of k.y=Re.of (sW w)*Re.rt (gB k x):=by
   unfold pY;rw[og];exact Re.ext fun n=>by simp only[bt,bp,bK,cJ];grind
  rw[e1]
  refine⟨?_,?_⟩
  ·rw[show Re.of (sW w)*Re.rt (gB k x)*(Re.of (sW w)*Re.rt (gB k x))-Re.of (gB k x)=Re.rt (gB k x)*Re.rt (gB k x)-Re.of (gB k x) from Re.ext fun n=>by simp only[bp,bK,cJ];have:=If w;grind]
   exact ry h0
  ·rw[cj,←Int.mul_assoc,hw,Int.one_mul]
   exact ED _
theorem Tf {c:Cv}(vc:CvV c) (hm:c.mono=true) {x:Rat}(hx:Rz 2 x) (hb:rV c x=true):c.on (tB c x)=true:=by
 have hg:=wY vc hx hb
 have hpx:=SK c x
 unfold rV at hb
 rw[Bool.and_eq_true,Bool.and_eq_true] at hb
 have b1:lH c.p x≤0:=of_decide_eq_true hb.2.1
 have b2:0≤lH c.q x:=of_decide_eq_true hb.2.2
 have ho:c.over (tB c x)=true:=by
  unfold Cv.over
  rw[kQ (b9 (cn vc.g))] at b1
  rw[kQ (b9 (cH vc.g))] at b2
  rw[iQ (b9 (cn vc.g)) (b9 hg),iQ (b9 hg) (b9 (cH vc.g)),hpx,decide_eq_true b1,Bool.true_and]
  refine decide_eq_true ?_
  rw[j8];omega
 refine(LJ vc hm hg ho).1 ?_
 cases c with
 |seg l f t=>
  have sf:d9 l f=0:=by have:=vc.sp;simpa [Cv.supp,Cv.p] using this
  have st:d9 l t=0:=by have:=vc.sq;simpa [Cv.supp,Cv.q] using this
  have hv:=oK vc.g.1 vc.g.2.1 vc.g.2.2 sf st vc.ne
  have h1:(!(cx f t==0))=true:=hb.1
  have hb0:l.b≠0:=fun e=>by rw[hv.2 e] at h1;cases h1
  have hs:d9 l (rP x ((l.c-l.a*x)/l.b))=0:=by
   refine Ac hg ?_
   have:(l.c-l.a*x)/l.b*l.b=l.c-l.a*x:=Rat.div_mul_cancel hb0
   generalize (l.c-l.a*x)/l.b=y at*
   grind
  unfold mI
  rw[if_neg (show ¬(Cv.seg l f t).vert=true from fun g=>by have g:(cx f t==0)=true:=g;rw[g] at h1;cases h1)]
  show d9 l (rP x ((l.c-l.a*x)/l.b))*aV l.b 0=0
  rw[hs,Int.zero_mul]
 |arc k w f t=>
  have of:OnK k f:=⟨vc.g.2.1,cb.1 vc.sp⟩
  have ot:OnK k t:=⟨vc.g.2.2,cb.1 vc.sq⟩
  have h0:=ti of ot b1 b2
  obtain⟨h1,h2⟩:=Tn (w:=w) (f:=f) (t:=t) h0
  have hi:iu k (tB (.arc k w f t) x)=0:=by
   rw[ra hg]
   have e:tq k (tB (.arc k w f t) x)=(pY (tB (.arc k w f t) x)-Re.of k.y)*(pY (tB (.arc k w f t) x)-Re.of k.y)-Re.of (gB k x):=by
    unfold tq;rw[hpx];exact Re.ext fun n=>by unfold gB;simp only[bt,bp,bK,cJ];grind
   rw[e,h1];rfl
  have hy:=lT (b9 hg) k.y
  unfold mI
  show(if false=true then _ else if w=true then(if fT (tB (.arc k w f t) x) k.y<0 then-1 else-iu k (tB (.arc k w f t) x)) else if fT (tB (.arc k w f t) x) k.y>0 then 1 else iu k (tB (.arc k w f t) x))=0
  rw[if_neg (by decide),hi,hy]
  cases w with
  |true=>
   have:bR (Re.of (sW true))=1:=by rw[dN];decide+kernel
   rw[this] at h2
   rw[if_pos rfl,if_neg (by omega)];rfl
  |false=>
   have:bR (Re.of (sW false))= -1:=by rw[dN];decide+kernel
   rw[this] at h2
   rw[if_neg (by decide),if_neg (by omega)]
theorem Tt {X Y D:Int}(X0: -32768≤X) (X1:X≤32767) (Y0: -32768≤Y) (Y1:Y≤32767) (D0:0≤D) (D1:D≤255):Ok Tryz.prog 11 [.a (([.i .i16 X]++[.i .i16 Y]++[.i .u8 D]))] [.a ((cR (Rat.divInt X (D+1))++cR (Rat.divInt Y (D+1))))]:=by
 refine Ok.fn Tryz.func11 19 [.cell 2 37] rfl<|aa<|ab<|al 1<|aC (ai il rfl) rfl<|ar<|aa<|ab<|al 2<|ah (bF (r:=D) Kg kZ rfl (iU (by omega) (by omega)) rfl) ?_
 refine ah (aK (r:=D+1) rfl rfl (aQ (by omega) (by omega)) rfl) ?_
 refine ag<|aa<|aR 11 rfl rfl<|ap 2<|aj (bF (r:=X) qK kZ rfl (iU (by omega) (by omega)) rfl) ?_
 refine ap 1<|aj (am rfl (jk (by omega) (by omega) (by omega) (by omega) (by omega)))<|ap 2<|aj (bF (r:=Y) qK kZ rfl (iU (by omega) (by omega)) rfl) ?_
 refine ap 1<|aj (am rfl (jk (by omega) (by omega) (by omega) (by omega) (by omega)))<|aj (aN (us:=(cR (Rat.divInt X (D+1))++cR (Rat.divInt Y (D+1)))) nr il rfl rfl rfl) ?_
 refine aY<|az<|ag<|an ?_
 exact aq (a7 MB rfl ae)
structure SpD where
 x:Int
 y:Int
 d:Int
structure SpD.Wf (p:SpD):Prop where
 x0: -32768≤p.x
 x1:p.x≤32767
 y0: -32768≤p.y
 y1:p.y≤32767
 d0:0≤p.d
 d1:p.d≤255
def UX (p:SpD):List CellD:=[.i .i16 p.x]++[.i .i16 p.y]++[.i .u8 p.d]
theorem U6 {p:SpD}(w:p.Wf): ∃x y:Rat,Rz 2 x∧Ok Tryz.prog 11 [.a (UX p)] [.a (cR x++cR y)]:=by
 obtain⟨w1,w2,w3,w4,w5,w6⟩:=w
 exact⟨_,_,(Rz.of (k:=1) (Sz.one1 (by omega) (by omega)) (Sz.one1 (by omega) (by omega)) (by omega)).mono (by decide),Tt w1 w2 w3 w4 w5 w6⟩
end Go.Proofs.YtkmdgigkbhmilaaGreat
