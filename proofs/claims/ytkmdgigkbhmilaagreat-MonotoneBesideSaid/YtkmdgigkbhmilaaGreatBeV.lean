/-The reference's number between two values that are ends of curves. -/
import Derived.Test.YtkmdgigkbhmilaaGreatBeU
namespace Go.Proofs.YtkmdgigkbhmilaaGreat
open Go Go.RowKit
variable {args:Array Operand}{at_:Array TypeId}{cd:Code}{c d:Cv}{fn:Func}{f:FuncId}{X Y cs cs' cs0 cs1 rs us zs:List CellD}{ds:List D0}{xs:List Operand}{L S:List Pt}{N c9 i k m n n1 o' t:Nat}{fo x y:Operand}{a b p q r:Pt}{U U2 e:TypeId}{v z:Value}
variable {ty:TypeId}{pos:String}{af:Array Edge}{g:Option (Nat×Bool)}{dst:Option Nat}
section
variable {A B C D E F:Rat}
theorem ZG (hA:Rz 113 A) (hB:Rz 21 B) (hC:Rz 78 C) (hD:Rz 113 D) (hE:Rz 21 E) (hF:Rz 78 F) (v1:Vl B C) (v2:Vl E F) (ab:aw (aA D E F-aA A B C)=1):
 ∃z:Rat,Rz 6841 z∧Ok Tryz.prog 96 [.a (cR A++cR B++cR C),.a (cR D++cR E++cR F)] [dR z]∧BW (aA A B C) (aA D E F) z:=by
 have mA:Rz 330 A:=hA.mono (by decide)
 have mB:Rz 330 B:=hB.mono (by decide)
 have mC:Rz 330 C:=hC.mono (by decide)
 have mD:Rz 330 D:=hD.mono (by decide)
 have mE:Rz 330 E:=hE.mono (by decide)
 have mF:Rz 330 F:=hF.mono (by decide)
 have gap:=Yg hA hB hC hD hE hF v1.c0 v2.c0 ab
 obtain⟨uA,lA⟩:=Of hA hB hC v1.c0
 obtain⟨uD,lD⟩:=Of hD hE hF v2.c0
 by_cases aN:aw (aA A B C)<0
 ·by_cases bP:aw (aA D E F)>0
  ·--0 lies between
   have i1:BW (aA A B C) (aA D E F) 0:=by
    refine⟨?_,?_⟩
    ·rw[dS,WC];have:=aU (aA A B C);omega
    ·rw[WC];have:=aU (aA D E F);omega
   exact⟨0,dL (by decide),ZW mA mB mC mD mE mF v1.c0 v2.c0 (nk v1.c0) (decide_eq_true aN) (nk v2.c0) (decide_eq_true bP),i1⟩
  ·--both are not positive
   have bN:aw (aA D E F)≤0:=by omega
   have nb0:0≤aw (aA (-D) (-E) F):=by rw[jK,br];omega
   have nab:aw (aA (-A) (-B) C-aA (-D) (-E) F)=1:=by
    rw[jK,jK,show-(aA A B C)- -(aA D E F)=aA D E F-aA A B C from aS fun k=>by simp only[ak,aD];grind];exact ab
   have ngap:cH (Re.of (1/((pw (1710+1710):Int):Rat))) (aA (-A) (-B) C-aA (-D) (-E) F):=by
    rw[jK,jK,show-(aA A B C)- -(aA D E F)=aA D E F-aA A B C from aS fun k=>by simp only[ak,aD];grind];exact gap
   obtain⟨P,Q,R,T,z⟩:=(BSt.start v2.neg v1.neg nb0 nab (by rw[jK];exact lD) (by rw[jK];exact lA) ngap).go mD.neg mE.neg mF mA.neg mB.neg mC
   rw[jK,jK] at T
   refine⟨-(fr P Q),z.neg,?_,(x7 _).1 T.mem⟩
   have f1:cH (Re.of ((oB A B C:Int):Rat)) (aA A B C):=(sF v1.c0).1
   have f2:=vr (x:=A) (y:=B) v1.c0 v1.v
   have hn1:oB A B C≤0:=by
    have h0:cH (aA A B C) (Re.of ((0:Int):Rat)):=by
     show 0≤aw (Re.of 0-aA A B C)
     rw[dS,WC];omega
    exact gm.1 (gK (fb f1 h0))
   have hn2: -pw 213≤oB A B C+1:=by
    have h0:cH (Re.of ((-pw 213:Int):Rat)) (aA A B C):=by
     refine lh (fun k=>?_) lA
     simp only[ak,aD,aE,tQ];grind
    have:=kO.1 (pS h0 f2)
    omega
   have nz:=rz8 hn2 hn1
   have L:Lv A B C D E F (oB A B C):=⟨hA.mono (by decide),hB.mono (by decide),mC,hD.mono (by decide),hE.mono (by decide),mF,v1,v2,ab,rfl,nz.mono (by decide)⟩
   generalize oB A B C=n at*
   by_cases hb:aw (aA D E F-Re.of ((n+1:Int):Rat))=1
   ·have hg:decide (bi (D-((n:Rat)+1)) E F>0)=true:=decide_eq_true (by rw[sV v2.c0,←G6,hb];decide)
    have q1:cH (Re.of ((oB D E F:Int):Rat)) (aA D E F):=(sF v2.c0).1
    have q2:=vr (x:=D) (y:=E) v2.c0 v2.v
    have hm1:n+1<oB D E F+1:=by
     have h0:cH (Re.of ((n+1:Int):Rat)) (aA D E F):=by unfold cH;omega
     exact kO.1 (pS h0 q2)
    have hm2:oB D E F≤0:=by
     have h0:cH (aA D E F) (Re.of ((0:Int):Rat)):=by
      show 0≤aw (Re.of 0-aA D E F)
      rw[dS,WC];omega
     exact gm.1 (gK (fb q1 h0))
    have oT:Ok Tryz.prog 174 [.a (cR D++cR E++cR F)] [dR ((oB D E F:Int):Rat)]:=wm L.kD L.kE L.kF v2
    generalize oB D E F=m at*
    have mz:Sz 3421 m:=(rz8 (by omega) hm2).mono (by decide)
    have up: ∀k:Int,n+1≤k→aw (Re.of (k:Rat)-aA A B C)=1:=by
     intro k hk
     rw[show Re.of (k:Rat)-aA A B C=(Re.of (k:Rat)-Re.of ((n+1:Int):Rat))+(Re.of ((n+1:Int):Rat)-aA A B C) from aS fun k=>by simp only[ak,ao];grind]
     exact j8 (pc hk) f2
    by_cases he:aw (aA D E F-Re.of (m:Rat))=0
    ·have hlt:n+1<m:=by
      have h0:cH (aA D E F) (Re.of (m:Rat)):=by unfold cH;rw[dS];omega
      have h1:aw (Re.of (m:Rat)-Re.of ((n+1:Int):Rat))=1:=by
       rw[show Re.of (m:Rat)-Re.of ((n+1:Int):Rat)=(Re.of (m:Rat)-aA D E F)+(aA D E F-Re.of ((n+1:Int):Rat)) from aS fun k=>by simp only[ak,ao];grind]
       exact j8 h0 hb
      exact kO.1 (pS (iy _) h1)
     have eI:=KB (z:=m-1) (b:=aA D E F) (a:=aA A B C) (by
      rw[show aA D E F-Re.of ((m-1:Int):Rat)=(aA D E F-Re.of (m:Rat))+Re.of 1 from aS fun k=>by simp only[ak,ao,aE,n6,UJ];grind]
      exact j8 (by omega) (xw (by decide))) (fun k hk=>by
       have h1:aw (Re.of (m:Rat)-Re.of (k:Rat))=1:=by
        rw[show Re.of (m:Rat)-Re.of (k:Rat)=(Re.of (m:Rat)-aA D E F)+(aA D E F-Re.of (k:Rat)) from aS fun k=>by simp only[ak,ao];grind]
        exact j8 (by rw[dS];omega) hk
       have:=kO.1 (pS (iy _) h1)
       omega) (up _ (by omega)) T
     rw[eI,n6,UJ]
     exact Sv L (nk v1.c0) (decide_eq_true aN) (decide_eq_false (by omega)) (nk v2.c0) (decide_eq_false (by omega)) L.flA rfl hg mz oT ((sV v2.c0).trans he) rfl
    ·have hp:aw (aA D E F-Re.of (m:Rat))=1:=by
      have h0:0≤aw (aA D E F-Re.of (m:Rat)):=q1
      have:=aU (aA D E F-Re.of (m:Rat))
      omega
     have eI:=KB (z:=m) (b:=aA D E F) (a:=aA A B C) hp (fun k hk=>by
      have h0:cH (Re.of (k:Rat)) (aA D E F):=by unfold cH;omega
      have:=kO.1 (pS h0 q2)
      omega) (up _ (by omega)) T
     rw[eI]
     exact TH L (nk v1.c0) (decide_eq_true aN) (decide_eq_false (by omega)) (nk v2.c0) (decide_eq_false (by omega)) L.flA rfl hg mz oT ((sV v2.c0).trans hp) rfl
   ·have hb':aw (aA D E F-Re.of ((n+1:Int):Rat))≤0:=by have:=aU (aA D E F-Re.of ((n+1:Int):Rat));omega
    have b1:cH (aA D E F) (Re.of ((n+1:Int):Rat)):=by unfold cH;rw[dS];omega
    have sA:Rz 330 (A-(n:Rat)):=(hA.sub (gY nz (by decide))).mono (by decide)
    have sD:Rz 330 (D-(n:Rat)):=(hD.sub (gY nz (by decide))).mono (by decide)
    have one7:cH (Re.of 1) (Re.of ((pw 213:Int):Rat)):=by
     have:=pc (dw 213)
     exact this
    have xab:aw (aA (D-(n:Rat)) E F-aA (A-(n:Rat)) B C)=1:=by
     rw[gn,gn,show aA D E F-Re.of (n:Rat)-(aA A B C-Re.of (n:Rat))=aA D E F-aA A B C from aS fun k=>by simp only[ak];grind];exact ab
    have xgap:cH (Re.of (1/((pw (1710+1710):Int):Rat))) (aA (D-(n:Rat)) E F-aA (A-(n:Rat)) B C):=by
     rw[gn,gn,show aA D E F-Re.of (n:Rat)-(aA A B C-Re.of (n:Rat))=aA D E F-aA A B C from aS fun k=>by simp only[ak];grind];exact gap
    have x0:0≤aw (aA (A-(n:Rat)) B C):=by rw[gn];exact f1
    have y1:cH (aA (D-(n:Rat)) E F) (Re.of 1):=by rw[gn];exact Cq (n:=n) b1 (iy _)
    have a1:cH (aA (A-(n:Rat)) B C) (Re.of 1):=fb (by unfold cH;omega) y1
    obtain⟨P2,Q2,R2,T2,_⟩:=(BSt.start v1 v2 x0 xab (fb a1 one7) (fb y1 one7) xgap).go sA mB mC sD mE mF
    rw[gn,gn] at T2
    rw[Uy T T2 f1 b1]
    exact QY L aN bN hb' R2 f2
 ·--both are not negative
  have a0:0≤aw (aA A B C):=by omega
  have b0: ¬aw (aA D E F)≤0:=by
   have h:=j8 a0 ab
   rw[show aA A B C+(aA D E F-aA A B C)=aA D E F from aS fun k=>by simp only[ak,ao];grind] at h
   omega
  obtain⟨P,Q,R,T,z⟩:=(BSt.start v1 v2 a0 ab uA uD gap).go mA mB mC mD mE mF
  exact⟨fr P Q,z,P8 R,T.mem⟩
end
theorem aag (g:GP p):Vl p.b1 (zc p.b1 p.c):=by
 have hv:=g.v
 unfold Ax at hv
 refine⟨ii (bz g),fun hb=>?_,fun hb=>u3 hb⟩
 rw[iD hb]
 grind
theorem OA (gp:GP p) (gq:GP q) (h:cx p q<0): ∃x:Rat,Rz 6841 x∧Ok Tryz.prog 96 [.a (cR p.a1++cR p.b1++cR (zc p.b1 p.c)),.a (cR q.a1++cR q.b1++cR (zc q.b1 q.c))] [dR x]∧lp p x<0∧0<lp q x:=by
 have ab:aw (pX q-pX p)=1:=by
  rw[jP (bz gp) (bz gq),dS] at h
  have:=aU (pX q-pX p)
  omega
 obtain⟨z,h1,h2,h3,h4⟩:=ZG gp.a1 gp.b1 (fi gp.c (by decide)) gq.a1 gq.b1 (fi gq.c (by decide)) (aag gp) (aag gq) ab
 have h3:aw (Re.of z-pX p)=1:=h3
 have h4:aw (pX q-Re.of z)=1:=h4
 exact⟨z,h1,h2,by rw[li (bz gp),dS,h3];decide,by rw[li (bz gq),h4];decide⟩
theorem Bc (vc:CvV c) (hm:c.mono=true) (nv:c.vert=false):cx c.p c.q<0:=by
 cases c with
 |seg l f t=>
  have h1:cP f t<0:=by
   have h:(!decide (cP f t≥0))=true:=hm
   grind
  have h2:cx f t≠0:=by
   have h:(cx f t==0)=false:=nv
   grind
  have:=MX h2
  show cx f t<0
  omega
 |arc k w f t=>
  have h:=wx vc.g.1 vc.pos ⟨vc.g.2.1,bD.1 vc.sp⟩ ⟨vc.g.2.2,bD.1 vc.sq⟩ hm
  have ha:=iz (bz vc.g.2.1) (bz vc.g.2.2)
  show cx f t<0
  cases w with
  |true=>have h:=h.2.2;omega
  |false=>have h:=h.2.2;omega
theorem Kz {x:Rat}(nc:c.vert=false) (h1:lp c.p x<0) (h2:0<lp c.q x):AB c x=true:=by
 unfold AB
 grind
def rV (p q:Pt):Pt:=if cx p q<0 then p else q
def rN (p q:Pt):Pt:=if cx p q>0 then p else q
theorem XR (hp:GP p) (hq:GP q):GP (rV p q):=by unfold rV;split<;>assumption
theorem Yu (hp:GP p) (hq:GP q):GP (rN p q):=by unfold rN;split<;>assumption
section
variable {p q:Pt}(gp:GP p) (gq:GP q)
include gp gq
theorem QT {x:Rat}(h:cx p q≤0) (h2:0<lp p x):0<lp q x:=by
 rw[jP (bz gp) (bz gq),dS] at h
 rw[li (bz gp)] at h2
 rw[li (bz gq),show pX q-Re.of x=(pX q-pX p)+(pX p-Re.of x) from aS fun k=>by simp only[ak,ao];grind,j8 (by omega) (by have:=aU (pX p-Re.of x);omega)]
 grind
theorem OG {x:Rat}(h:cx p q≤0) (h2:lp q x<0):lp p x<0:=by
 rw[jP (bz gp) (bz gq),dS] at h
 rw[li (bz gq),dS] at h2
 rw[li (bz gp),dS,show Re.of x-pX p=(pX q-pX p)+(Re.of x-pX q) from aS fun k=>by simp only[ak,ao];grind,j8 (by omega) (by have:=aU (Re.of x-pX q);omega)]
 grind
theorem ON:cx q p= -cx p q:=iz (bz gp) (bz gq)
theorem aa4 (gr:GP r) (h:cx p q≤0) (h2:cx q r<0):cx p r<0:=by
 rw[jP (bz gp) (bz gq),dS] at h
 rw[jP (bz gq) (bz gr),dS] at h2
 rw[jP (bz gp) (bz gr),dS,show pX r-pX p=(pX q-pX p)+(pX r-pX q) from aS fun k=>by simp only[ak,ao];grind,j8 (by omega) (by have:=aU (pX r-pX q);omega)]
 grind
theorem Wa (gr:GP r) (h:cx p q<0) (h2:cx q r≤0):cx p r<0:=by
 rw[jP (bz gp) (bz gq),dS] at h
 rw[jP (bz gq) (bz gr),dS] at h2
 rw[jP (bz gp) (bz gr),dS,show pX r-pX p=(pX r-pX q)+(pX q-pX p) from aS fun k=>by simp only[ak,ao];grind,j8 (by omega) (by have:=aU (pX q-pX p);omega)]
 grind
end
section
variable {a b c d:Cv}(va:CvV a) (vb:CvV b) (hc:c∈t6 a b) (hd:d∈t6 a b) (nc:c.vert=false) (nd:d.vert=false)
include va vb hc hd nc nd
theorem MA (e:yA c d=0):cx c.p (rV c.q d.q)<0∧ ∀x:Rat,lp c.p x<0→0<lp (rV c.q d.q) x→AB c x=true∧AB d x=true∧cy (r9 c x) (r9 d x)=rc c d:=by
 have e0:cP c.p d.p=0:=by
  unfold yA at e
  grind
 have vc:=sv va vb c hc
 have vd:=sv va vb d hd
 have xc:=Bc vc (Fp va vb c hc) nc
 have xd:=Bc vd (Fp va vb d hd) nd
 have gc:=cn vc.g
 have gd:=cn vd.g
 have kc:=dy vc.g
 have kd:=dy vd.g
 have z:=(iM.1 e0).1
 refine⟨?_,fun x h1 h2=>?_⟩
 ·unfold rV
  split
  ·grind
  ·exact aa4 gc gd kd (by omega) xd
 ·have h3:=uj (bz gc) (bz gd) e0 x
  have h4:0<lp c.q x∧0<lp d.q x:=by
   unfold rV at h2
   split at h2
   ·rename_i g
    exact⟨h2,QT kc kd (by omega) h2⟩
   ·rename_i g
    have:=ON kc kd
    exact⟨QT kd kc (by omega) h2,h2⟩
  exact⟨Kz nc h1 h4.1,Kz nd (by omega) h4.2,Mh va vb hc hd nc nd e0 h1 h4.1 h4.2⟩
theorem Oc (e:Df c d=0):cx (rN c.p d.p) c.q<0∧ ∀x:Rat,lp (rN c.p d.p) x<0→0<lp c.q x→AB c x=true∧AB d x=true∧cy (r9 c x) (r9 d x)=AH c d:=by
 have e0:cP c.q d.q=0:=by
  unfold Df at e
  grind
 have vc:=sv va vb c hc
 have vd:=sv va vb d hd
 have xc:=Bc vc (Fp va vb c hc) nc
 have xd:=Bc vd (Fp va vb d hd) nd
 have gc:=cn vc.g
 have gd:=cn vd.g
 have kc:=dy vc.g
 have kd:=dy vd.g
 have z:=(iM.1 e0).1
 have z2:=ON kc kd
 refine⟨?_,fun x h1 h2=>?_⟩
 ·unfold rN
  split
  ·grind
  ·exact Wa gd kd kc xd (by omega)
 ·have h3:=uj (bz kc) (bz kd) e0 x
  have h4:lp c.p x<0∧lp d.p x<0:=by
   have:=ON gc gd
   unfold rN at h1
   split at h1
   ·rename_i g
    exact⟨h1,OG gd gc (by omega) h1⟩
   ·rename_i g
    exact⟨OG gc gd (by omega) h1,h1⟩
  exact⟨Kz nc h4.1 h2,Kz nd h4.2 (by omega),Pk va vb hc hd nc nd e0 h2 h4.1 h4.2⟩
end
theorem Pb {b1 b2 c:Rat}(h:Ax b1 b2 c=true):xE b2 (zc b2 c)=true:=by
 unfold xE
 by_cases e:b2=0
 ·rw[if_pos (.inl e),u3 e];exact decide_eq_true ⟨e,rfl⟩
 ·have h2:(decide (0<c)&& !jp c)=true:=by
   unfold Ax at h
   rw[if_neg (fun g=>e g.2)] at h;exact h
  rw[iD e,if_neg (fun g=>g.elim e (fun g=>by rw[g] at h2;simp at h2))];exact h2
theorem Pc (c:Cv) (x:Rat):Si c x=cR (r9 c x).a2++cR (r9 c x).b2++cR (zc (r9 c x).b2 (r9 c x).c):=by
 cases c with
 |seg l f t=>show cR _++cR 0++cR 0=cR _++cR 0++cR (zc 0 0);rw[u3 rfl];rfl
 |arc k w f t=>
  cases hs:jp (jT k x) with
  |true=>
   rw[R1 hs,show r9 (.arc k w f t) x=⟨x+0*rt (jT k x),0,k.y+sW w*rt (jT k x),0,0⟩ from if_pos hs]
   show _=cR _++cR 0++cR (zc 0 0)
   rw[u3 rfl]
  |false=>rw[VQ hs,show r9 (.arc k w f t) x=⟨x,0,k.y,sW w,jT k x⟩ from if_neg (by rw[hs];decide)]
theorem Ja (vc:CvV c) {x:Rat}(hx:Rz 6841 x) (hb:AB c x=true):(Rz 40000 (r9 c x).a2∧Rz 40000 (r9 c x).b2∧Rz 40000 (r9 c x).c)∧Ax (r9 c x).b1 (r9 c x).b2 (r9 c x).c=true:=by
 unfold AB at hb
 rw[dT,dT] at hb
 have v0:Ax 0 0 0=true:=by unfold Ax;rw[if_pos ⟨rfl,rfl⟩];exact decide_eq_true rfl
 cases c with
 |seg l f t=>
  have sf:j6 l f=0:=by have:=vc.sp;simpa [Cv.supp,Cv.p] using this
  have st:j6 l t=0:=by have:=vc.sq;simpa [Cv.supp,Cv.q] using this
  have hv:=B7 vc.g.1 vc.g.2.1 vc.g.2.2 sf st vc.ne
  have hb0:l.b≠0:=fun e=>by
   have h1:(!(cx f t==0))=true:=hb.1
   rw[hv.2 e] at h1;cases h1
  exact⟨⟨((vc.g.1.c.sub (vc.g.1.a.mul hx)).div vc.g.1.b hb0).mono (by decide),dL (by decide),dL (by decide)⟩,v0⟩
 |arc k w f t=>
  have h0:=EF ⟨vc.g.2.1,bD.1 vc.sp⟩ ⟨vc.g.2.2,bD.1 vc.sq⟩ (of_decide_eq_true hb.2.1) (of_decide_eq_true hb.2.2)
  have hk:GK k:=vc.g.1
  have hs:Rz 14000 (jT k x):=(hk.q.sub ((hx.sub hk.x).mul (hx.sub hk.x))).mono (by decide)
  cases e:jp (jT k x) with
  |true=>
   rw[show r9 (.arc k w f t) x=⟨x+0*rt (jT k x),0,k.y+sW w*rt (jT k x),0,0⟩ from if_pos e]
   exact⟨⟨(hk.y.add ((Ek w).mul hs.rt)).mono (by decide),dL (by decide),dL (by decide)⟩,v0⟩
  |false=>
   rw[show r9 (.arc k w f t) x=⟨x,0,k.y,sW w,jT k x⟩ from if_neg (by rw[e];decide)]
   refine⟨⟨hk.y.mono (by decide),(Ek w).mono (by decide),hs.mono (by decide)⟩,?_⟩
   have hp:0<jT k x:=by have:=aaC e;grind
   show Ax 0 (sW w) (jT k x)=true
   unfold Ax
   rw[if_neg (fun g=>aap w g.2),e,decide_eq_true hp];rfl
theorem W8 (vc:CvV c) (vd:CvV d) {x:Rat}(hx:Rz 6841 x) (bc:AB c x=true) (bd:AB d x=true):Ok Tryz.prog 72 [.a (Si c x),.a (Si d x)] [.c (.i .i64 (cy (r9 c x) (r9 d x)))]:=by
 obtain⟨⟨a1,a2,a3⟩,_⟩:=Ja vc hx bc
 obtain⟨⟨b1,b2,b3⟩,_⟩:=Ja vd hx bd
 rw[Pc,Pc]
 exact Cm (a1.mono (by decide)) (a2.mono (by decide)) ((fi a3 (by decide)).mono (by decide)) (b1.mono (by decide)) (b2.mono (by decide)) ((fi b3 (by decide)).mono (by decide))
theorem J9 {a b c:Rat}(ha:Rz 5000000 a) (hb:Rz 5000000 b) (hc:Rz 5000000 c):Ok Tryz.prog 18 [.a ((cR a++cR b++cR c))] [.c (.b (xE b c))]:=by
 refine bU Tryz.func18 rfl ?_
 refine ac rfl (Cl (aW ha)) ?_
 refine ar (bp rfl) ?_
 refine ac rfl (Cl (aW hb)) ?_
 refine ar (bp rfl) ?_
 refine ac rfl (Cl (aW hc)) ?_
 refine mi rfl ?_
 refine ac rfl (ce) ?_
 refine kT (bp rfl) (fun c1 hb1=>?_)
 cases c1
 ·refine ac rfl (ce) ?_
  refine dr rfl (fun hc2=>?_) (fun hc2=>?_)
  ·refine ac rfl (ce) ?_
   refine kT (bp rfl) (fun c3 hb3=>?_)
   cases c3
   ·refine ai ?_
    rw[TU hb1 hc2]
    exact al ae
   ·exact absurd hb3 (by rw[hb1];decide)
  ·refine ac rfl (rK (aW hc))<|ac rfl (ce) ?_
   refine kT (bp rfl) (fun c4 hb4=>?_)
   cases c4
   ·refine ai ?_
    rw[KO hb1 hc2,hb4,rW]
    exact al ae
   ·refine ai ?_
    rw[KO hb1 hc2,hb4,jH]
    exact al ae
 ·refine oC rfl ?_
  refine ac rfl (ce) ?_
  refine kT (bp rfl) (fun c5 hb5=>?_)
  cases c5
  ·exact absurd hb1 (by rw[hb5];decide)
  ·refine ac rfl (ce) ?_
   refine ai ?_
   rw[To hb1]
   exact al ae
theorem Vv (vc:CvV c) {x:Rat}(hx:Rz 6841 x) (bc:AB c x=true):Ok Tryz.prog 18 [.a (Si c x)] [.c (.b true)]:=by
 obtain⟨⟨a1,a2,a3⟩,hv⟩:=Ja vc hx bc
 rw[Pc]
 exact jQ (J9 (a1.mono (by decide)) (a2.mono (by decide)) ((fi a3 (by decide)).mono (by decide))) (Pb hv)
theorem acm (hp:GP p) (hq:GP q):Ok Tryz.prog 34 [.a ((cR p.a1++cR p.b1++cR (zc p.b1 p.c))),.a ((cR q.a1++cR q.b1++cR (zc q.b1 q.c)))] [.a ((cR ((rV p q).a1)++cR ((rV p q).b1)++cR (zc (rV p q).b1 (rV p q).c)))]:=by
 refine bU Tryz.func34 rfl<|ac rfl (YU hp hq) ?_
 refine dr rfl (fun hc1=>?_) (fun hc1=>?_)
 ·refine ai ?_
  rw[show rV p q=p from if_pos (of_decide_eq_true hc1)]
  exact a8 ez rfl ae
 ·refine ai ?_
  rw[show rV p q=q from if_neg (of_decide_eq_false hc1)]
  exact a8 ez rfl ae
theorem aa2 (hp:GP p) (hq:GP q):Ok Tryz.prog 35 [.a ((cR p.a1++cR p.b1++cR (zc p.b1 p.c))),.a ((cR q.a1++cR q.b1++cR (zc q.b1 q.c)))] [.a ((cR ((rN p q).a1)++cR ((rN p q).b1)++cR (zc (rN p q).b1 (rN p q).c)))]:=by
 refine bU Tryz.func35 rfl<|ac rfl (YU hp hq) ?_
 refine dr rfl (fun hc1=>?_) (fun hc1=>?_)
 ·refine ai ?_
  rw[show rN p q=p from if_pos (of_decide_eq_true hc1)]
  exact a8 ez rfl ae
 ·refine ai ?_
  rw[show rN p q=q from if_neg (of_decide_eq_false hc1)]
  exact a8 ez rfl ae
theorem Zm (hp:GP p) (hq:GP q) (vc:CvV c) (vd:CvV d) (h0:cx p q<0) {x:Rat}(hx:Rz 6841 x) (hB:Ok Tryz.prog 96 [.a ((cR p.a1++cR p.b1++cR (zc p.b1 p.c))),.a ((cR q.a1++cR q.b1++cR (zc q.b1 q.c)))] [dR x]) (bc:AB c x=true) (bd:AB d x=true) {n:Int}(hn:cy (r9 c x) (r9 d x)=n):Ok Tryz.prog 32 [.a (ap c),.a (ap d),.a ((cR p.a1++cR p.b1++cR (zc p.b1 p.c))),.a ((cR q.a1++cR q.b1++cR (zc q.b1 q.c))),.c (.i .i64 n)] [.c (.b true)]:=by
 refine fD Tryz.func32 56 [.tmp 10] rfl<|aa<|ah<|aa<|aa<|bo<|bR 2<|a7 (dt rfl (YU hp hq))<|a7 (aZ (c:=false) (fe rfl) (decide_eq_false (by omega))) ?_
 refine bj ?_
 refine ba rfl ?_
 refine aJ ?_
 refine aa ?_
 refine ah ?_
 refine ac rfl (hB) ?_
 refine aa<|bo<|a7 (cD (ag _) aY rfl)<|bR 1<|a7 (dt rfl ((by have h9:=IW vc (hx.m_);rw[if_pos bc] at h9;exact h9))) ?_
 refine bR 3<|pg (kW p6 rfl) rfl<|gZ (bn ez rfl rfl rfl (vO _ _) rfl rfl) ?_
 refine fN<|aa<|bo<|a7 (cD (ag _) aY rfl)<|bR 1<|a7 (dt rfl ((by have h9:=IW vd (hx.m_);rw[if_pos bd] at h9;exact h9))) ?_
 refine bR 3<|pg (kW p6 rfl) rfl<|gZ (bn ez rfl rfl rfl (vO _ _) rfl rfl) ?_
 refine fN<|aa<|bo<|bR 7<|a7 (cD (vO _ _) ez rfl)<|a7 (dt rfl (Vv vc hx bc))<|bR 2<|a7 (cD (vO _ _) ez rfl)<|a7 (dt rfl (Vv vd hx bd))<|bR 2<|a7 (cD (vO _ _) ez rfl)<|a7 (cD (vO _ _) ez rfl)<|a7 (dt rfl (W8 vc vd hx bc bd))<|bR 1 ?_
 refine a7 (aZ (c:=true) (fe rfl) (by rw[hn];simp)) ?_
 refine fN<|bb ?_
 exact ai (al ae)
theorem Ms (lX:X.length=17) (lY:Y.length=17) (hA:Ok Tryz.prog 10 [] [.c (.b true)]) {L:List Cv}(lL:L.length≤12) (vL: ∀d∈L,CvV d) (hC:Ok Tryz.prog 12 [.a X,.a Y] [.c (.s ((L).length) (aI ap (L)))]) (hR: ∀c∈L,∀d∈L,c.vert=false→d.vert=false→yA c d=0→Ok Tryz.prog 32 [.a (ap c),.a (ap d),.a ((cR c.p.a1++cR c.p.b1++cR (zc c.p.b1 c.p.c))),.a ((cR ((rV c.q d.q).a1)++cR ((rV c.q d.q).b1)++cR (zc (rV c.q d.q).b1 (rV c.q d.q).c))),.c (.i .i64 (rc c d))] [.c (.b true)]) (hL: ∀c∈L,∀d∈L,c.vert=false→d.vert=false→Df c d=0→Ok Tryz.prog 32 [.a (ap c),.a (ap d),.a ((cR ((rN c.p d.p).a1)++cR ((rN c.p d.p).b1)++cR (zc (rN c.p d.p).b1 (rN c.p d.p).c))),.a ((cR c.q.a1++cR c.q.b1++cR (zc c.q.b1 c.q.c))),.c (.i .i64 (AH c d))] [.c (.b true)]):Ok Tryz.prog 8 [.a (X),.a (Y)] [.c (.b true)]:=by
 refine bU Tryz.func8 rfl<|ac rfl (hA) ?_
 refine mi rfl ?_
 refine ar (cD (lX) C4 rfl) ?_
 refine ar (cD (lY) C4 rfl) ?_
 refine ac rfl (hC) ?_
 refine DW.mk<|bF (ι:={n:Nat // n≤L.length}) (fun i=>⟨89,[(5,.v (.c (.s ((L).length) (aI ap (L))))),(19,.v (.c (.s ((L).length) (aI ap (L))))),(20,.v (.c (.i .i64 (L.length:Int)))),(21,.v (.c (.i .i64 (i.1:Int))))],[]⟩) (fun i=>L.length-i.1) ⟨0,iH _⟩ (aB ⟨rfl,rfl,rfl,rfl,trivial⟩ trivial rfl) ?_
 rintro⟨n,h2⟩
 replace h2:n≤L.length:=h2
 dsimp only
 refine nF ?_
 refine dr rfl (fun hc1=>?_) (fun hc1=>?_)
 ·have g1:n<L.length:=by have:=of_decide_eq_true hc1;omega
  have vc:=vL _ (cz (d:=bV) g1)
  refine ar (mR bV ag g1 gz rfl)<|ar (oV ag aY rfl)<|jF (bn aY rfl rfl rfl (ag _) rfl rfl) ?_
  refine DW.mk<|bF (ι:={j:Nat // j≤L.length}) (fun i=>⟨89,[(5,.v (.c (.s ((L).length) (aI ap (L))))),(7,.p 7 0),(19,.v (.c (.s ((L).length) (aI ap (L))))),(20,.v (.c (.i .i64 (L.length:Int)))),(21,.v (.c (.i .i64 (n:Int)))),(25,.v (.c (.s ((L).length) (aI ap (L))))),(26,.v (.c (.i .i64 (L.length:Int)))),(27,.v (.c (.i .i64 (i.1:Int))))],[(7,48,ap (L.getD n bV))]⟩) (fun i=>L.length-i.1) ⟨0,iH _⟩ (aB ⟨rfl,rfl,rfl,rfl,rfl,rfl,rfl,rfl,trivial⟩ ⟨rfl,trivial⟩ rfl) ?_
  rintro⟨j,h3⟩
  replace h3:j≤L.length:=h3
  dsimp only
  refine nF ?_
  refine dr rfl (fun hc2=>?_) (fun hc2=>?_)
  ·have g2:j<L.length:=by have:=of_decide_eq_true hc2;omega
   have vd:=vL _ (cz (d:=bV) g2)
   refine ar (mR bV ag g2 gz rfl)<|ar (oV ag aY rfl)<|jF (bn aY rfl rfl rfl (ag _) rfl rfl) ?_
   refine ar (cD (ag _) aY rfl)<|ac rfl (Pm vc) ?_
   refine kT (bp rfl) (fun c3 hb3=>?_)
   cases c3
   ·refine ar (cD (ag _) aY rfl)<|ac rfl (Pm vd) ?_
    refine dr rfl (fun hc4=>?_) (fun hc4=>?_)
    ·refine ar (fB (by omega) rfl) ?_
     exact⟨⟨j+1,g2⟩,aB ⟨rfl,rfl,rfl,rfl,rfl,rfl,rfl,rfl,trivial⟩ ⟨rfl,trivial⟩ rfl,by show L.length-(j+1)<L.length-j;omega⟩
    ·have v1:(L.getD n bV).vert=false:=hb3
     have v2:(L.getD j bV).vert=false:=hc4
     refine ar (cD (ag _) aY rfl) ?_
     refine ar (cD (ag _) aY rfl) ?_
     refine ac rfl (Uj vc vd) ?_
     refine cU 19 [] ?_
     refine xi (bp rfl) (fun c5 hb5=>?_)
     cases c5
     ·refine mi rfl ?_
      refine ar (cD (ag _) aY rfl) ?_
      refine ar (cD (ag _) aY rfl) ?_
      refine ac rfl (aao vc vd) ?_
      refine cU 19 [] ?_
      refine xi (bp rfl) (fun c6 hb6=>?_)
      cases c6
      ·refine mi rfl<|ar (fB (by omega) rfl) ?_
       exact⟨⟨j+1,g2⟩,aB ⟨rfl,rfl,rfl,rfl,rfl,rfl,rfl,rfl,trivial⟩ ⟨rfl,trivial⟩ rfl,by show L.length-(j+1)<L.length-j;omega⟩
      ·refine aq (cD (ag _) aY rfl) ?_
       refine aq (cD (ag _) aY rfl) ?_
       refine aq (aV (us:=aj (L.getD n bV).p) bv rfl rfl (fl _) rfl rfl) ?_
       refine aO rfl (jt) ?_
       refine aq (aV (us:=aj (L.getD j bV).p) bv rfl rfl (fl _) rfl rfl) ?_
       refine aO rfl (jt) ?_
       refine aO rfl (aa2 (cn vc.g) (cn vd.g)) ?_
       refine aq (aV (us:=aj (L.getD n bV).q) bv rfl rfl (f5 _) rfl rfl) ?_
       refine aO rfl (jt) ?_
       refine aO rfl (hL _ (cz (d:=bV) g1) _ (cz (d:=bV) g2) v1 v2 (beq_iff_eq.1 hb6))<|mi rfl<|ar (fB (by omega) rfl) ?_
       exact⟨⟨j+1,g2⟩,aB ⟨rfl,rfl,rfl,rfl,rfl,rfl,rfl,rfl,trivial⟩ ⟨rfl,trivial⟩ rfl,by show L.length-(j+1)<L.length-j;omega⟩
     ·refine aq (cD (ag _) aY rfl) ?_
      refine aq (cD (ag _) aY rfl) ?_
      refine aq (aV (us:=aj (L.getD n bV).p) bv rfl rfl (fl _) rfl rfl) ?_
      refine aO rfl (jt) ?_
      refine aq (aV (us:=aj (L.getD n bV).q) bv rfl rfl (f5 _) rfl rfl) ?_
      refine aO rfl (jt) ?_
      refine aq (aV (us:=aj (L.getD j bV).q) bv rfl rfl (f5 _) rfl rfl) ?_
      refine aO rfl (jt) ?_
      refine aO rfl (acm (dy vc.g) (dy vd.g)) ?_
      refine aO rfl (hR _ (cz (d:=bV) g1) _ (cz (d:=bV) g2) v1 v2 (beq_iff_eq.1 hb5)) ?_
      refine mi rfl ?_
      refine ar (cD (ag _) aY rfl) ?_
      refine ar (cD (ag _) aY rfl) ?_
      refine ac rfl (aao vc vd) ?_
      refine cU 19 [] ?_
      refine xi (bp rfl) (fun c7 hb7=>?_)
      cases c7
      ·refine mi rfl<|ar (fB (by omega) rfl) ?_
       exact⟨⟨j+1,g2⟩,aB ⟨rfl,rfl,rfl,rfl,rfl,rfl,rfl,rfl,trivial⟩ ⟨rfl,trivial⟩ rfl,by show L.length-(j+1)<L.length-j;omega⟩
      ·refine aq (cD (ag _) aY rfl) ?_
       refine aq (cD (ag _) aY rfl) ?_
       refine aq (aV (us:=aj (L.getD n bV).p) bv rfl rfl (fl _) rfl rfl) ?_
       refine aO rfl (jt) ?_
       refine aq (aV (us:=aj (L.getD j bV).p) bv rfl rfl (fl _) rfl rfl) ?_
       refine aO rfl (jt) ?_
       refine aO rfl (aa2 (cn vc.g) (cn vd.g)) ?_
       refine aq (aV (us:=aj (L.getD n bV).q) bv rfl rfl (f5 _) rfl rfl) ?_
       refine aO rfl (jt) ?_
       refine aO rfl (hL _ (cz (d:=bV) g1) _ (cz (d:=bV) g2) v1 v2 (beq_iff_eq.1 hb7))<|mi rfl<|ar (fB (by omega) rfl) ?_
       exact⟨⟨j+1,g2⟩,aB ⟨rfl,rfl,rfl,rfl,rfl,rfl,rfl,rfl,trivial⟩ ⟨rfl,trivial⟩ rfl,by show L.length-(j+1)<L.length-j;omega⟩
   ·refine oC rfl<|ar (fB (by omega) rfl) ?_
    exact⟨⟨j+1,g2⟩,aB ⟨rfl,rfl,rfl,rfl,rfl,rfl,rfl,rfl,trivial⟩ ⟨rfl,trivial⟩ rfl,by show L.length-(j+1)<L.length-j;omega⟩
  ·refine ar (fB (by omega) rfl) ?_
   exact⟨⟨n+1,g1⟩,aB ⟨rfl,rfl,rfl,rfl,trivial⟩ trivial rfl,by show L.length-(n+1)<L.length-n;omega⟩
 ·exact ai (al ae)
def XC (X:List CellD):Prop:=Ok Tryz.prog 36 [.a X] [.a (([.b false]++dA++dA++[.b false]++r8++r8)),.c (.b false)]∨ ∃c,CvV c∧Ok Tryz.prog 36 [.a X] [.a (ap c),.c (.b true)]
theorem Kv {K U A B C D E F K' U' A' B' C' D' E' F' N:Int}(w0:0≤K∧K≤255) (w1:0≤U∧U≤255) (w2: -128≤A∧A≤127) (w3: -128≤B∧B≤127) (w4: -128≤C∧C≤127) (w5: -128≤D∧D≤127) (w6: -128≤E∧E≤127) (w7: -128≤F∧F≤127) (w8:0≤K'∧K'≤255) (w9:0≤U'∧U'≤255) (w10: -128≤A'∧A'≤127) (w11: -128≤B'∧B'≤127) (w12: -128≤C'∧C'≤127) (w13: -128≤D'∧D'≤127) (w14: -128≤E'∧E'≤127) (w15: -128≤F'∧F'≤127) (w16:0≤N∧N≤255):XC ((([.i .u8 K]++[.i .u8 U]++[.i .i8 A]++[.i .i8 B]++[.i .i8 C]++[.i .i8 D]++[.i .i8 E]++[.i .i8 F])++([.i .u8 K']++[.i .u8 U']++[.i .i8 A']++[.i .i8 B']++[.i .i8 C']++[.i .i8 D']++[.i .i8 E']++[.i .i8 F'])++[.i .u8 N])):=by
 have hO1:=YZ w0 w1 w2 w3 w4 w5 w6 w7
 have hO2:=YZ w8 w9 w10 w11 w12 w13 w14 w15
 by_cases h0:vG K U A B C D E F=[]
 ·exact .inl (JT w16 hO1 hO2 h0)
 ·have hp:0<(vG K U A B C D E F).length:=List.length_pos_iff.2 h0
  have hg:=Bm (K:=K) w1.1 w2 w3 w4 w5 w6 w7
  have hB: ∀d∈vG K' U' A' B' C' D' E' F',d.good:=fun d hd=>(Bm (K:=K') w9.1 w10 w11 w12 w13 w14 w15 d hd).g
  have hg0:=hg _ (cz (d:=bV) hp)
  have hv0:=Lz (K:=K) w1.1 w2 w3 w4 w5 w6 w7 _ (cz (d:=bV) hp)
  have hpos:=GX (A0:=vG K U A B C D E F) (Bl:=vG K' U' A' B' C' D' E' F') hg0.ne
  exact .inr ⟨_,YB hv0 hB _ (cz (Nat.mod_lt _ hpos)),Qj w16 hO1 hO2 hg0 hp hB SX⟩
theorem S6 (lX:X.length=17) (lY:Y.length=17) (hX:XC X) (hY:XC Y): ∃L:List Cv,(∀d∈L,CvV d)∧L.length≤12∧Ok Tryz.prog 12 [.a X,.a Y] [.c (.s ((L).length) (aI ap (L)))]∧(∀c∈L,∀d∈L,c.vert=false→d.vert=false→yA c d=0→Ok Tryz.prog 32 [.a (ap c),.a (ap d),.a ((cR c.p.a1++cR c.p.b1++cR (zc c.p.b1 c.p.c))),.a ((cR ((rV c.q d.q).a1)++cR ((rV c.q d.q).b1)++cR (zc (rV c.q d.q).b1 (rV c.q d.q).c))),.c (.i .i64 (rc c d))] [.c (.b true)])∧(∀c∈L,∀d∈L,c.vert=false→d.vert=false→Df c d=0→Ok Tryz.prog 32 [.a (ap c),.a (ap d),.a ((cR ((rN c.p d.p).a1)++cR ((rN c.p d.p).b1)++cR (zc (rN c.p d.p).b1 (rN c.p d.p).c))),.a ((cR c.q.a1++cR c.q.b1++cR (zc c.q.b1 c.q.c))),.c (.i .i64 (AH c d))] [.c (.b true)]):=by
 have nil: ∀ {P:Cv→Prop},∀c∈([]:List Cv),P c:=fun c hc=>by cases hc
 rcases hX with h1|⟨a,va,h1⟩<;>rcases hY with h2|⟨b,vb,h2⟩
 ·exact⟨[],nil,iH _,Wx lX lY h1 h2,nil,nil⟩
 ·exact⟨[],nil,iH _,W3 lX lY h1 h2,nil,nil⟩
 ·exact⟨[],nil,iH _,WT lX lY h1 h2,nil,nil⟩
 ·refine⟨t6 a b,sv va vb,Ql,Xu lX lY va vb h1 h2,fun c hc d hd nc nd e=>?_,fun c hc d hd nc nd e=>?_⟩
  ·obtain⟨h0,h⟩:=MA va vb hc hd nc nd e
   have vc:=sv va vb c hc
   have vd:=sv va vb d hd
   have gp:=cn vc.g
   have gq:=XR (dy vc.g) (dy vd.g)
   obtain⟨x,hx,hB,s1,s2⟩:=OA gp gq h0
   obtain⟨b1,b2,b3⟩:=h x s1 s2
   exact Zm gp gq vc vd h0 hx hB b1 b2 b3
  ·obtain⟨h0,h⟩:=Oc va vb hc hd nc nd e
   have vc:=sv va vb c hc
   have vd:=sv va vb d hd
   have gp:=Yu (cn vc.g) (cn vd.g)
   have gq:=dy vc.g
   obtain⟨x,hx,hB,s1,s2⟩:=OA gp gq h0
   obtain⟨b1,b2,b3⟩:=h x s1 s2
   exact Zm gp gq vc vd h0 hx hB b1 b2 b3
def Yw (x:Value):List Value→Value
 |[]=>x
 |xs=>.tuple (x::xs).toArray
def N8 (t n c:Nat):List D0→DV
 |[]=>.o t n c
 |ds=>.tn t n c ds
structure OkN (P:Program) (f:FuncId) (ds:List D0) (U:TypeId) (n m:Nat) (us:List CellD) (rs:List D0):Prop where
 cal:fU P f=true
 run: ∀(V:Nat→Prop) (vs:Array Value) (w:World),(∀x,V x→x<w.heap.size)→RdL V w vs.toList ds→Calls P f vs w fun e w'=> ∃(b c:Nat) (bs:Array Value) (rest:List CellD) (xs:List Value),
  e=.returned (Yw (.slice (some ⟨b,0,none⟩) n c) xs)∧Below w.heap.size w w'∧w.heap.size≤b∧b<w'.heap.size∧n≤c∧c≤maxLen∧rest.length=(c-n)*m∧w'.heap[b]? =some (.cells bs U (0,0))∧RdCs (fun x=>V x∨x=b) w' bs.toList (us++rest)∧RdL (fun x=>V x∨x=b) w' xs rs
structure OkT (P:Program) (f:FuncId) (U:TypeId) (n c n1:Nat) (cs0 cs1:List CellD) (ds:List D0):Prop where
 cal:fU P f=true
 run: ∀(V:Nat→Prop) (b:Nat) (bs vs:Array Value) (vl:List Value) (w:World),vs.toList=.slice (some ⟨b,0,none⟩) n c::vl→(∀x,V x→x<w.heap.size)→V b→w.heap[b]? =some (.cells bs U (0,0))→RdCs V w bs.toList cs0→RdL V w vl ds→
  Calls P f vs w fun e w'=> ∃bs':Array Value,e=.returned (.slice (some ⟨b,0,none⟩) n1 c)∧w'.heap[b]? =some (.cells bs' U (0,0))∧Mid b w w'∧RdCs V w' bs'.toList cs1
section
variable {P:Program}
theorem Ls {a:Act}(h:a.tmps[t]? =some v):a.tmps.getD t undef=v:=by simp_all
theorem OkN.of {rs:List D0}(hcal:fU P f=true) (hf:P.funcs[f]? =some fn) (hb:fn.body=some cd) (hlen:Nat.ble ds.length fn.ntmps=true)
 (h:Dw P cd ⟨fn.ntmps,mZ 0 ds,[]⟩ fun e σ=>(e=.normal∨e=.ret)∧ ∃(t k c:Nat) (rv:List ResultVar) (rest:List CellD),fn.results.toList=.tmp t::rv∧aM t σ.tm=some (.o k n c)∧aM k σ.bx=some (U,us++rest)∧n≤c∧c≤maxLen∧rest.length=(c-n)*m∧qh P σ rv=some rs):OkN P f ds U n m us rs:=by
 refine⟨hcal,fun V vs w hV hds=>calls_of_wp hf hb ?_⟩
 refine tw ?_ (h V ⟨w,fun _=>False,fn.ntmps⟩ (fun _=>0) _ w (YY (dV hlen) hV hds))
 rintro e a' w' ⟨σ',β',hn,⟨he,t,k,c,rv,rest,hrv,ht,hk,hc1,hc2,hrl,hres⟩,hr⟩
 obtain⟨xs,hrun,hxs⟩:=Cu hr _ _ hres
 obtain⟨v,ev,hv⟩:=hr.sees.tmp t _ trivial ht
 subst hv
 obtain⟨hvk,bs,ebl,hrd⟩:=hr.sees.box k _ _ hk
 have hBk:σ'.B k≠none:=by rw[show σ'.B k=_ from hk];simp
 have hk2:Keep (fun b=>V b∨ ∃k,σ'.B k≠none∧β' k=b) (fun x=>V x∨x=β' k) w' w':=⟨Nat.le_refl _,fun _ _ _=>rfl,fun x _ hx=>hx.imp id fun e=>⟨k,hBk,e.symm⟩⟩
 have hall:(fn.results.toList.mapM (ra a')).run P w'=.ok (.slice (some ⟨β' k,0,none⟩) n c::xs) w':=by
  rw[hrv,List.mapM_cons]
  have e1:(ra a' (.tmp t)).run P w'=.ok (.slice (some ⟨β' k,0,none⟩) n c) w':=by show(pure (a'.tmps.getD t undef):Go.Sem Value).run P w'=_;rw[Ls ev];rfl
  simp only[fI,e1,fM,hrun,gG]
 have hresults:(results fn a'.tmps).run P w'=.ok (Yw (.slice (some ⟨β' k,0,none⟩) n c) xs) w':=by
  rw[uE hall]
  cases xs with
  |nil=>rfl
  |cons x xs=>exact congrArg (fun q=>Result.ok q w') (dif_neg (by simp))
 have hown:w.heap.size≤β' k:=(hr.own k hBk).resolve_right (fun h=>h)
 rcases he with rfl|rfl
 ·exact⟨hr.dfr,_,hresults,β' k,c,bs,rest,xs,rfl,hr.bel.to (fun _ h=>h),hown,hr.sees.av _ (.inr ⟨k,hBk,rfl⟩),hc1,hc2,hrl,ebl,hrd.keep hk2,hxs.keep hk2⟩
 ·exact⟨hr.dfr,_,hresults,β' k,c,bs,rest,xs,rfl,hr.bel.to (fun _ h=>h),hown,hr.sees.av _ (.inr ⟨k,hBk,rfl⟩),hc1,hc2,hrl,ebl,hrd.keep hk2,hxs.keep hk2⟩
theorem OkT.of {K:Nat}(hcal:fU P f=true) (hf:P.funcs[f]? =some fn) (hb:fn.body=some cd) (hlen:Nat.ble (ds.length+1) fn.ntmps=true) (hK:Nat.ble fn.ntmps K=true)
 (h:Dw P cd ⟨fn.ntmps,(0,.o K n m)::mZ 1 ds,[(K,U,cs0)]⟩ fun e σ=>(e=.normal∨e=.ret)∧aM K σ.bx=some (U,cs1)∧ ∃t,fn.results.toList=[.tmp t]∧aM t σ.tm=some (.o K n1 m)):OkT P f U n m n1 cs0 cs1 ds:=by
 refine⟨hcal,fun V b bs vs vl w hvs hV hVb hbl hcs hds=>calls_of_wp hf hb ?_⟩
 refine tw ?_ (h _ _ (fun _=>b) _ w (Vj (dV hlen) (dV hK) hvs hV hVb hbl hcs hds))
 rintro e a' w' ⟨σ',β',hn,⟨he,hbx,t,hrv,ht⟩,hr⟩
 obtain⟨hfix,bs',ebl,hm,hrd⟩:=VH hr hbx
 obtain⟨v,ev,hv⟩:=hr.sees.tmp t _ trivial ht
 have hv:v=.slice (some ⟨β' K,0,none⟩) n1 m:=hv
 rw[hfix] at hv
 subst hv
 have hall:(fn.results.toList.mapM (ra a')).run P w'=.ok [.slice (some ⟨b,0,none⟩) n1 m] w':=by
  rw[hrv,List.mapM_cons]
  have e1:(ra a' (.tmp t)).run P w'=.ok (.slice (some ⟨b,0,none⟩) n1 m) w':=by show(pure (a'.tmps.getD t undef):Go.Sem Value).run P w'=_;rw[Ls ev];rfl
  simp only[fI,e1,fM,List.mapM_nil,gG]
 have hresults:(results fn a'.tmps).run P w'=.ok (.slice (some ⟨b,0,none⟩) n1 m) w':=uE hall
 rcases he with rfl|rfl
 ·exact⟨hr.dfr,_,hresults,bs',rfl,ebl,hm,hrd⟩
 ·exact⟨hr.dfr,_,hresults,bs',rfl,ebl,hm,hrd⟩
variable {ops os:Array Oper}{N:Nat}{tm:List (Nat×DV)}{bx:List (Nat×TypeId×List CellD)}
theorem Ju {rs:List D0}
 (hf:dc (fun s=>aM s tm) fo=some (.v (.c (.f f)))) (ha:pJ (fun s=>aM s tm) args.toList=some ds) (hok:OkN P f ds U n m us rs) (hd:aM t bx=none) (hg:gd ops ⟨some t,.call ⟨.value fo,args,at_⟩,ty,pos,af,g⟩ (fun s=>aM s tm)=some true):
 IN P ops ⟨some t,.call ⟨.value fo,args,at_⟩,ty,pos,af,g⟩ ⟨N,tm,bx⟩ (fun σ'=> ∃c rest,n≤c∧c≤maxLen∧rest.length=(c-n)*m∧σ'=⟨N,(t,N8 t n c rs)::tm,(t,U,us++rest)::bx⟩):=by
 intro av w0 β a w hrel htn
 have hs:=Sees.of hrel.sees (L:=iZ ops ⟨some t,.call ⟨.value fo,args,at_⟩,ty,pos,af,g⟩) (fun _ _=>trivial) (fun _ _ _ h=>h) (fun _ _ h=>h)
 refine⟨fa hs hg,?_⟩
 have h1:=RdC.func_eq (aK hs (x:=fo) (by simp[Op.operands,Call.operands]) hf)
 have h2:=js hs args.toList ds (fun x hx=>by have hx2:=Array.mem_toList_iff.1 hx;simp[Op.operands,Call.operands,hx2]) ha
 have hc:=hok.cal
 unfold fU at hc
 cases hfn:P.funcs[f]? with
 |none=>rw[hfn] at hc;cases hc
 |some fn=>
  rw[hfn] at hc
  simp only[dT,bne_iff_ne,ne_eq,sJ] at hc
  have hrun:(execOp a.eval ⟨some t,.call ⟨.value fo,args,at_⟩,ty,pos,af,g⟩).run P w=.ok (.enter f (args.map a.eval)) w:=by
   have hb2:fn.body≠none:=by have:=hc.2;cases hbb:fn.body with
    |none=>rw[hbb] at this;cases this
    |some c=>simp
   simp[execOp,resolve,h1,Deferred.ofValue,invoke,callFunc,program,Sem.run,hfn,hc.1,hb2]
  unfold Gives
  rw[hrun]
  refine(hok.run _ (args.map a.eval) w hs.av (by simpa using h2)).mono ?_
  rintro e w' ⟨b,c,bs,rest,xs,rfl,hw,hb1,hb2,hc1,hc2,hrl,hcl,hrd,hxs⟩
  refine⟨_,rfl,⟨N,(t,N8 t n c rs)::tm,(t,U,us++rest)::bx⟩,fun k=>if k=t then b else β k,⟨c,rest,hc1,hc2,hrl,rfl⟩,rfl,?_⟩
  have hx:RdX (fun y=>(av y∨ ∃k,aM k bx≠none∧β k=y)∨y=b) w' (fun k=>if k=t then b else β k) (Yw (.slice (some ⟨b,0,none⟩) n c) xs) (N8 t n c rs):=by
   cases rs with
   |nil=>
    cases xs with
    |nil=>show _=Value.slice (some ⟨if t=t then b else β t,0,none⟩) n c;rw[if_pos rfl];rfl
    |cons x xs=>exact absurd hxs.1 (by simp)
   |cons r rs=>
    cases xs with
    |nil=>exact absurd hxs.1 (by simp)
    |cons x xs=>exact⟨x::xs,by show _=Value.tuple (Value.slice (some ⟨if t=t then b else β t,0,none⟩) n c::x::xs).toArray;rw[if_pos rfl];rfl,hxs⟩
  have:=hrel.fresh (d:=t) (htn t rfl) hd hw hb1 hb2 hcl hrd hx (by intro k hk;cases rs<;>(injection hk with hk;exact hk.symm))
  refine this.congr (fun s=>?_) (fun l=>?_)
  ·show aM s ((t,N8 t n c rs)::tm)=(if some t=some s then _ else aM s tm)
   rw[bl]
   grind
  ·show aM l ((t,U,us++rest)::bx)=(if some t=some l then _ else aM l bx)
   rw[bl]
   grind
theorem Jw {c:Nat}
 (hf:dc (fun s=>aM s tm) fo=some (.v (.c (.f f)))) (hargs:args.toList=x::xs) (hx:dc (fun s=>aM s tm) x=some (.o k n c)) (ha:pJ (fun s=>aM s tm) xs=some ds) (hb:aM k bx=some (U,cs0)) (hok:OkT P f U n c n1 cs0 cs1 ds)
 (hg:gd ops ⟨some t,.call ⟨.value fo,args,at_⟩,ty,pos,af,g⟩ (fun s=>aM s tm)=some true):
 IN P ops ⟨some t,.call ⟨.value fo,args,at_⟩,ty,pos,af,g⟩ ⟨N,tm,bx⟩ (fun σ'=>σ'=⟨N,(t,.o k n1 c)::tm,(k,U,cs1)::bx⟩):=by
 intro av w0 β a w hrel htn
 have hs:=Sees.of hrel.sees (L:=iZ ops ⟨some t,.call ⟨.value fo,args,at_⟩,ty,pos,af,g⟩) (fun _ _=>trivial) (fun _ _ _ h=>h) (fun _ _ h=>h)
 refine⟨fa hs hg,?_⟩
 have hin: ∀y∈x::xs,y∈(⟨some t,.call ⟨.value fo,args,at_⟩,ty,pos,af,g⟩:Oper).op.operands:=fun y hy=>by
  have hx2:y∈args:=by grind
  simp[Op.operands,Call.operands,hx2]
 have h1:=RdC.func_eq (aK hs (x:=fo) (by simp[Op.operands,Call.operands]) hf)
 have h2:=js hs xs ds (fun y hy=>hin y (iY _ hy)) ha
 have h3:a.eval x=.slice (some ⟨β k,0,none⟩) n c:=aK hs (hin x (j5 ..)) hx
 obtain⟨hV,bs,e,hr⟩:=hs.box k U cs0 hb
 have hc:=hok.cal
 unfold fU at hc
 cases hfn:P.funcs[f]? with
 |none=>rw[hfn] at hc;cases hc
 |some fn=>
  rw[hfn] at hc
  simp only[dT,bne_iff_ne,ne_eq,sJ] at hc
  have hrun:(execOp a.eval ⟨some t,.call ⟨.value fo,args,at_⟩,ty,pos,af,g⟩).run P w=.ok (.enter f (args.map a.eval)) w:=by
   have hb2:fn.body≠none:=by have:=hc.2;cases hbb:fn.body with
    |none=>rw[hbb] at this;cases this
    |some c=>simp
   simp[execOp,resolve,h1,Deferred.ofValue,invoke,callFunc,program,Sem.run,hfn,hc.1,hb2]
  unfold Gives
  rw[hrun]
  refine(hok.run _ (β k) bs (args.map a.eval) (xs.map a.eval) w (by rw[xy,hargs,pt,h3]) hs.av hV e hr h2).mono ?_
  rintro e w' ⟨bs',rfl,hbl,hm,hr1⟩
  refine⟨_,rfl,⟨N,(t,.o k n1 c)::tm,(k,U,cs1)::bx⟩,β,rfl,rfl,?_⟩
  have hsv:=hrel.sval (k:=k) (d:=some t) (x:=.n) (v:=undef) hb hbl hm htn rfl hr1 trivial
  have hval:=hsv.value (d:=some t) (x:=.o k n1 c) (v:=.slice (some ⟨β k,0,none⟩) n1 c) htn (fu _ _) rfl (by intro l hl;injection hl with hl;subst hl;rw[if_pos rfl];simp)
  rw[AP] at hval
  refine hval.congr (fun s=>?_) (fun l=>?_)
  ·show aM s ((t,DV.o k n1 c)::tm)=(if some t=some s then _ else if some t=some s then _ else aM s tm)
   rw[bl]
   grind
  ·show aM l ((k,U,cs1)::bx)=(if k=l then _ else aM l bx)
   rw[bl]
variable {os:List Oper}{K:St→Prop}
theorem uJ {rs:List D0}
 (hf:dc (fun s=>aM s tm) fo=some (.v (.c (.f f)))) (ha:pJ (fun s=>aM s tm) args.toList=some ds) (hok:OkN P f ds U n m us rs) (hd:aM t bx=none) (hg:gd ops ⟨some t,.call ⟨.value fo,args,at_⟩,ty,pos,af,g⟩ (fun s=>aM s tm)=some true)
 (hk: ∀c rest,n≤c→c≤maxLen→rest.length=(c-n)*m→dl P ops os ⟨N,(t,N8 t n c rs)::tm,(t,U,us++rest)::bx⟩ K):
 dl P ops (⟨some t,.call ⟨.value fo,args,at_⟩,ty,pos,af,g⟩::os) ⟨N,tm,bx⟩ K:=
 .inr ⟨_,Ju hf ha hok hd hg,fun σ' ⟨c,rest,h1,h2,h3,e⟩=>by subst e;exact hk c rest h1 h2 h3⟩
theorem yn {c:Nat}
 (hf:dc (fun s=>aM s tm) fo=some (.v (.c (.f f)))) (hargs:args.toList=x::xs) (hx:dc (fun s=>aM s tm) x=some (.o k n c)) (ha:pJ (fun s=>aM s tm) xs=some ds) (hb:aM k bx=some (U,cs0)) (hok:OkT P f U n c n1 cs0 cs1 ds)
 (hg:gd ops ⟨some t,.call ⟨.value fo,args,at_⟩,ty,pos,af,g⟩ (fun s=>aM s tm)=some true) (hk:dl P ops os ⟨N,(t,.o k n1 c)::tm,(k,U,cs1)::bx⟩ K):
 dl P ops (⟨some t,.call ⟨.value fo,args,at_⟩,ty,pos,af,g⟩::os) ⟨N,tm,bx⟩ K:=
 .inr ⟨_,Jw hf hargs hx ha hb hok hg,fun σ' e=>by subst e;exact hk⟩
variable {T:TF}{B:BF}
theorem xG {c:Nat}
 (hx:dc T x=some (.tn k n c ds)) (hg:gd ops ⟨dst,.extract x 0,ty,pos,af,g⟩ T=some true):Sem P ops ⟨dst,.extract x 0,ty,pos,af,g⟩ T B (.r (.o k n c)):=
 bQ hg (fun l hl=>qR (by simp[Op.operands]) hx (by injection hl with hl;subst hl;rfl)) (fun V β a w hs=>by
  obtain⟨xs,hp,_⟩:=aK hs (x:=x) (by simp[Op.operands]) hx
  refine⟨_,?_,rfl⟩
  simp only[execOp,hp,Instr.extract,fI,gG]
  simp)
theorem xN {c:Nat}{d:D0}
 (hx:dc T x=some (.tn k n c ds)) (hd:ds[i]? =some d) (hg:gd ops ⟨dst,.extract x (i+1),ty,pos,af,g⟩ T=some true):Sem P ops ⟨dst,.extract x (i+1),ty,pos,af,g⟩ T B (.r (.v d)):=
 bQ hg (qi rfl) (fun V β a w hs=>by
  obtain⟨xs,hp,hr⟩:=aK hs (x:=x) (by simp[Op.operands]) hx
  have hlt:i<ds.length:=(jU.1 hd).1
  have hv:xs[i]? =some (xs[i]'(by rw[hr.1];exact hlt)):=j7 _
  refine⟨_,?_,hr.2 i _ d hv hd⟩
  have h2:(Value.slice (some ⟨β k,0,none⟩) n c::xs).toArray[i+1]? =some (xs[i]'(by rw[hr.1];exact hlt)):=by simp
  simp only[execOp,hp,Instr.extract,h2,fI,gG,fM])
theorem wv {c:Nat}{r:Int}
 (hf:dc T fo=some (.v (.c (.f f)))) (hargs:args.toList=x::xs) (hx:dc T x=some (.o k n c)) (ha:pJ T xs=some ds) (hb:B k=some (U,cs)) (hus:cs.take (n*m)=us) (hl:n*m≤cs.length) (hnc:n≤c) (hc:c≤maxLen) (hok:Ok P f (.c (.s n us)::ds) [.c (.i .i64 r)])
 (hg:gd ops ⟨dst,.call ⟨.value fo,args,at_⟩,ty,pos,af,g⟩ T=some true):Sem P ops ⟨dst,.call ⟨.value fo,args,at_⟩,ty,pos,af,g⟩ T B (.r (.v (.c (.i .i64 r)))):=by
 refine⟨qi rfl,fun V β a w hs=>⟨fa hs hg,?_⟩⟩
 have hin: ∀y∈x::xs,y∈(⟨dst,.call ⟨.value fo,args,at_⟩,ty,pos,af,g⟩:Oper).op.operands:=fun y hy=>by
  have hx2:y∈args:=by grind
  simp[Op.operands,Call.operands,hx2]
 have h1:=RdC.func_eq (aK hs (x:=fo) (by simp[Op.operands,Call.operands]) hf)
 have h2:=js hs xs ds (fun y hy=>hin y (iY _ hy)) ha
 have h3:a.eval x=.slice (some ⟨β k,0,none⟩) n c:=aK hs (hin x (j5 ..)) hx
 have hmax:maxLen=9223372036854775807:=rfl
 have h4:=Ku (q:=n) (c:=c) (m:=m) (off:=0) (ys:=us) hs hb (by rw[tR];exact hus) (fun _=>by omega) hnc (by omega)
 have hkeep:Keep V (fun x=>V x∧x≠β k) w w:=⟨Nat.le_refl _,fun _ _ _=>rfl,fun _ _ h=>h.1⟩
 have hcl:=hok.cal
 unfold fU at hcl
 cases hfn:P.funcs[f]? with
 |none=>rw[hfn] at hcl;cases hcl
 |some fn=>
  rw[hfn] at hcl
  simp only[dT,bne_iff_ne,ne_eq,sJ] at hcl
  have hrun:(execOp a.eval ⟨dst,.call ⟨.value fo,args,at_⟩,ty,pos,af,g⟩).run P w=.ok (.enter f (args.map a.eval)) w:=by
   have hb2:fn.body≠none:=by have:=hcl.2;cases hbb:fn.body with
    |none=>rw[hbb] at this;cases this
    |some c=>simp
   simp[execOp,resolve,h1,Deferred.ofValue,invoke,callFunc,program,Sem.run,hfn,hcl.1,hb2]
  unfold Gives
  rw[hrun]
  refine(hok.run (fun x=>V x∧x≠β k) (args.map a.eval) w (fun b hb=>hs.av b hb.1) (by rw[xy,hargs,pt,h3];exact tY h4 (h2.keep hkeep))).mono ?_
  rintro e w' ⟨v,rfl,hr,hb⟩
  refine⟨v,rfl,?_,hb⟩
  rw[hr.int_eq]
  exact .i _ _
theorem Y4 (hzl:zs.length=m) (hzr: ∀(V:Nat→Prop) (w:World),RdCs V w z.cells.toList zs) (r:Nat) (V:Nat→Prop) (w:World):RdCs V w (Builtin.zeroCells z.cells r).toList (List.replicate r zs).flatten:=by
 have hzs:z.cells.size=m:=by have:=(hzr (fun _=>False) default).1;rw[hzl] at this;simpa using this
 have key:RdCs V w ((List.range (r*m)).map (fun j=>z.cells[j%z.cells.size]!)) (List.replicate r zs).flatten:=by
  induction r with
  |zero=>simp;exact tJ
  |succ r ih=>
   rw[Nat.succ_mul,List.range_add,List.map_append,List.replicate_succ',List.flatten_append]
   refine lP ih ?_
   have e2:(List.map (fun x=>r*m+x) (List.range m)).map (fun j=>z.cells[j%z.cells.size]!)=z.cells.toList:=by
    apply List.ext_getElem (by simp[hzs])
    intro j h1 h2
    simp at h1
    simp only[List.getElem_map,List.getElem_range,hzs]
    rw[Nat.mul_comm r,Nat.mul_add_mod,Nat.mod_eq_of_lt (by omega),getElem!_pos z.cells j (by omega)]
    simp
   grind
 unfold Builtin.zeroCells
 simpa [hzs] using key
theorem zO {off c by_:Nat}
 (hU:ua P U=some (e,m,by_,zs)) (hy:dc T y=some (.w k off n c)) (hb:B k=some (e,cs)) (hoff:off+n*m≤cs.length) (hz:cs.take off++(List.replicate n zs).flatten++cs.drop (off+n*m)=cs')
 (hg:gd ops ⟨none,.call ⟨.builtin .clear,#[y],#[U]⟩,ty,pos,af,g⟩ T=some true):Sem P ops ⟨none,.call ⟨.builtin .clear,#[y],#[U]⟩,ty,pos,af,g⟩ T B (.s k e cs'):=by
 refine⟨rfl,⟨cs,hb⟩,fun V β a w hs=>⟨fa hs hg,?_⟩⟩
 have e1:a.eval y=.slice (some ⟨β k,off,none⟩) n c:=aK hs (x:=y) (by simp[Op.operands,Call.operands]) hy
 obtain⟨hu,i,z,hi,hzi,hsz,hby,hzl,hzr⟩:=jh hU
 obtain⟨hV,vs,ev,hr⟩:=hs.box k e cs hb
 have hexec: ∀ {w':World},(Builtin.clear_ #[U] ty #[a.eval y]).run P w=.ok (.tuple #[]) w'→(execOp a.eval ⟨none,.call ⟨.builtin .clear,#[y],#[U]⟩,ty,pos,af,g⟩).run P w=.ok (.value (.tuple #[])) w':=fun{w'} h=>by
  simp only[execOp,resolve,invoke,builtin,fI,gG,fM,uh,pt,uR]
  rw[h]
  rfl
 unfold Gives
 rcases jZ n with h0|h0
 ·subst h0
  rw[hexec (w':=w) (by rw[e1];simp[Builtin.clear_,run_underlying hu])]
  refine⟨vs,?_,rfl,rfl,rfl,?_⟩
  ·grind
  ·simp_all
 ·have hrow:=Y4 hzl hzr n V w
  have hzlen:(Builtin.zeroCells z.cells n).toList.length=n*m:=by rw[hrow.1,List.length_flatten,List.map_replicate,List.sum_replicate_nat,hzl]
  have hvl:vs.size=cs.length:=by have:=hr.1;simpa using this
  have hst:=run_storeCells_at P (β k) off e (Builtin.zeroCells z.cells n).toList 0 vs w ev (by omega) (RK hrow)
  rw[hexec (w':=w.setRow (β k) (vs.toList.take off++(Builtin.zeroCells z.cells n).toList++vs.toList.drop (off+(Builtin.zeroCells z.cells n).toList.length)).toArray) (by
   rw[e1]
   simp[Builtin.clear_,run_underlying hu,Nat.ne_of_gt h0,zeroValue,typeInfo,hi,hzi]
   rw[hst]
   simp)]
  refine⟨_,oI ev,rfl,rfl,rfl,?_⟩
  rw[←hz,hzlen]
  exact((hr.take off).append hrow).append (hr.drop (off+n*m))
theorem GY 
 (hU:wF P U=some m) (hx:dc (fun s=>aM s tm) x=some (.v (.c (.s n us)))) (hg:gd ops ⟨some t,.binOp .eql U x (.const (.slice none 0 0)) U2,ty,pos,af,g⟩ (fun s=>aM s tm)=some true)
 (hk: ∀b:Bool,(0<n→b=false)→dl P ops os ⟨N,(t,.v (.c (.b b)))::tm,bx⟩ K):dl P ops (⟨some t,.binOp .eql U x (.const (.slice none 0 0)) U2,ty,pos,af,g⟩::os) ⟨N,tm,bx⟩ K:=by
 refine .inr ⟨fun σ'=> ∃b:Bool,(0<n→b=false)∧σ'=⟨N,(t,.v (.c (.b b)))::tm,bx⟩,?_,fun σ' ⟨b,h,e⟩=>by subst e;exact hk b h⟩
 intro av w0 β a w hrel htn
 have hs:=Sees.of hrel.sees (L:=iZ ops ⟨some t,.binOp .eql U x (.const (.slice none 0 0)) U2,ty,pos,af,g⟩) (fun _ _=>trivial) (fun _ _ _ h=>h) (fun _ _ h=>h)
 refine⟨fa hs hg,?_⟩
 have h1:=aK hs (x:=x) (by simp[Op.operands]) hx
 have h2: ∃A c,a.eval x=.slice A n c∧(0<n→A.isNone=false):=by
  generalize a.eval x=v at h1
  cases h1 with
  |s0 A c _=>exact⟨A,c,rfl,fun h=>absurd h (Nat.lt_irrefl 0)⟩
  |s b off c _ _ _ _=>exact⟨_,c,rfl,fun _=>rfl⟩
 obtain⟨A,c,e,hA⟩:=h2
 have hu: ∃el,P.underlying U=some (.slice el):=by
  unfold wF at hU
  grind
 obtain⟨el,hu⟩:=hu
 have heq:(Op.equal U (.slice A n c) (.slice none 0 0)).run P w=.ok A.isNone w:=by
  unfold Op.equal Op.maxDepth
  rw[show(10000:Nat)=9999+1 from rfl,Op.equalIn]
  simp only[fI,run_underlying hu,fM]
  cases A<;>rfl
 have hrun:(execOp a.eval ⟨some t,.binOp .eql U x (.const (.slice none 0 0)) U2,ty,pos,af,g⟩).run P w=.ok (.value (.bool A.isNone)) w:=by
  have e2:a.eval (.const (.slice none 0 0))=.slice none 0 0:=rfl
  have h3:(eqGuard .eql U x (.const (.slice none 0 0)) (.slice A n c) (.slice none 0 0)).run P w=.ok () w:=rfl
  have h4:binOp .eql U (.slice A n c) (.slice none 0 0)=(do pure (.bool (←Op.equal U (.slice A n c) (.slice none 0 0)))):=rfl
  simp only[execOp,e,e2,fI,h3,fM,h4,heq,gG]
 unfold Gives
 rw[hrun]
 refine⟨⟨N,(t,.v (.c (.b A.isNone)))::tm,bx⟩,β,⟨_,hA,rfl⟩,rfl,?_⟩
 have hval:=hrel.value (d:=some t) (x:=.v (.c (.b A.isNone))) (v:=.bool A.isNone) htn (fu _ _) (.b _) (by intro l hl;cases hl)
 refine hval.congr (fun s=>?_) (fun _=>rfl)
 show aM s ((t,DV.v (.c (.b A.isNone)))::tm)=(if some t=some s then _ else aM s tm)
 rw[bl]
 grind
theorem sZ {f:Nat}
 (hU:Sk P U f=some o') (hx:dc T x=some (.v (.c (.p cs)))) (hu:cs.drop o'=us) (hg:gd ops ⟨dst,.fieldAddr U x f,ty,pos,af,g⟩ T=some true):
 Sem P ops ⟨dst,.fieldAddr U x f,ty,pos,af,g⟩ T B (.r (.q us)):=
 bQ hg (qi rfl) (fun V β a w hs=>by
  obtain⟨b,off,vs,hp,hb,hv,hr,hc⟩:=RdC.ptr_eq (aK hs (by simp[Op.operands]) hx)
  obtain⟨fs,fd,h1,h2,h3,h4⟩:=FY hU
  refine⟨.pointer (some ⟨b,off+o',none⟩),?_,b,off+o',vs.drop o',rfl,hb,hv,by rw[←hu];exact hr.drop o',fun j u hj=>?_⟩
  ·simp only[execOp,Instr.fieldAt,hp,Instr.sureAddr,fI,gG,fM,run_underlying h1,h2,h4,lQ]
  ·rw[List.getElem?_drop] at hj
   rw[Nat.add_assoc];exact hc (o'+j) u hj)
end
theorem abd {P:Program}{tm:List (Nat×DV)}{bx:List (Nat×TypeId×List CellD)}{c:Code}{Q:Exit→St→Prop}(ht:aM t tm=some (.f n us)) (h:Dw P c ⟨N,(t,.v (.c (.s n us)))::tm,bx⟩ Q):Dw P c ⟨N,tm,bx⟩ Q:=fun av w0 β a w hr=>by
 obtain⟨v,hv,hx⟩:=hr.sees.tmp t _ trivial ht
 have h2:=hr.upd (t:=t) (x:=.v (.c (.s n us))) hv hx.2 rfl
 refine h av w0 β a w (h2.congr (fun s=>?_) (fun _=>rfl))
 show aM s ((t,.v (.c (.s n us)))::tm)=_
 rw[bl];rfl
theorem XK {k:Ci}{w:Bool}{f t:Pt}(hk:GK k) (hf:GP f) (ht:GP t) (hp:GP p) (hq:GP q):Ok Tryz.prog 251 [.a (([.b true]++dA++cg k++[.b w]++aj f++aj t)),.a (aj p),.a (aj q)] [.c (.i .i64 (co (Cv.arc k w f t) p q))]:=by
 have b1:=Wy k t p q
 refine bU Tryz.func251 rfl ?_
 refine ar (bW jb rfl) ?_
 refine mi rfl ?_
 refine ar (bW jb rfl) ?_
 refine dr rfl (fun hc1=>?_) (fun hc1=>?_)
 ·refine ar (dx (cg k) rg rfl (by kernel_rfl)) ?_
  refine ar (dx (aj t) bv rfl (by kernel_rfl)) ?_
  refine ac rfl (Eu hk ht hp hq) ?_
  refine ar (fG (r:= -Cn k t p q) rfl (yR b1) rfl) ?_
  refine ai ?_
  rw[show co (Cv.arc k w f t) p q= -Cn k t p q from if_pos hc1]
  exact al ae
 ·refine ar (dx (cg k) rg rfl (by kernel_rfl)) ?_
  refine ar (dx (aj f) bv rfl (by kernel_rfl)) ?_
  refine ac rfl (Eu hk hf hp hq) ?_
  refine ai ?_
  rw[show co (Cv.arc k w f t) p q=Cn k f p q from if_neg (by rw[hc1];decide)]
  exact al ae
theorem Xc (vc:CvV c) (ha:c.isArc=true) (hp:GP p) (hq:GP q):Ok Tryz.prog 251 [.a (ap c),.a (aj p),.a (aj q)] [.c (.i .i64 (co c p q))]:=by
 cases c with
 |seg l f t=>cases ha
 |arc k w f t=>exact XK vc.g.1 vc.g.2.1 vc.g.2.2 hp hq
theorem aaF (vc:CvV c) (ha:c.isArc=true) (hp:GP p):Ok Tryz.prog 181 [.a (ap c),.a (aj p)] [.c (.b (c.on p))]:=by
 cases c with
 |seg l f t=>cases ha
 |arc k w f t=>exact V7 vc.g.1 vc.pos ⟨vc.g.2.1,bD.1 vc.sp⟩ ⟨vc.g.2.2,bD.1 vc.sq⟩ hp
theorem ZY (vc:CvV c) (ha:c.isArc=true) (hp:GP p):Ok Tryz.prog 102 [.a (ap c),.a (aj p)] [.c (.b (c.inner p))]:=by
 cases c with
 |seg l f t=>cases ha
 |arc k w f t=>exact OS vc.g.1 vc.pos ⟨vc.g.2.1,bD.1 vc.sp⟩ ⟨vc.g.2.2,bD.1 vc.sq⟩ hp
theorem Zo (vc:CvV c) (ha:c.isArc=true) (hp:GP p) (hq:GP q):Ok Tryz.prog 250 [.a (aj p),.a (aj q),.c (.p (ap c))] [.c (.i .i64 (co c p q))]:=by
 refine bU Tryz.func250 rfl<|ar (kV (us:=ap c) aY rfl (iB (rZ (ag _))) (ag _) rfl) ?_
 refine ac rfl (Xc vc ha hp hq) ?_
 exact ai (al ae)
theorem abW (vc:CvV c) (ha:c.isArc=true) (hp:GP p):Ok Tryz.prog 183 [.a (aj p),.c (.p (ap c))] [.c (.b (!c.on p))]:=by
 refine bU Tryz.func183 rfl<|ar (kV (us:=ap c) aY rfl (iB (rZ (ag _))) (ag _) rfl) ?_
 refine ac rfl (aaF vc ha hp) ?_
 exact ai (al ae)
theorem JJ (vc:CvV c) (ha:c.isArc=true) (hp:GP p):Ok Tryz.prog 101 [.a (aj p),.c (.p (ap c))] [.c (.b (!c.inner p))]:=by
 refine bU Tryz.func101 rfl<|ar (kV (us:=ap c) aY rfl (iB (rZ (ag _))) (ag _) rfl) ?_
 refine ac rfl (ZY vc ha hp) ?_
 exact ai (al ae)
theorem acp (vc:CvV c) (ha:c.isArc=true) (hL: ∀p∈L,GP p) (lL:L.length≤12) (hq: ∀p∈L,c.on p=true):Ok Tryz.prog 180 [.c (.s ((L).length) (aI aj (L))),.c (.k 183 [.p (ap c)])] [.c (.i .i64 (-1))]:=by
 refine bU Tryz.func180 rfl ?_
 refine DW.mk<|bF (ι:={n:Nat // n≤L.length}) (fun i=>⟨19,[(0,.v (.c (.s ((L).length) (aI aj (L))))),(1,.v (.c (.k 183 [.p (ap c)]))),(7,.v (.c (.i .i64 (L.length:Int)))),(8,.v (.c (.i .i64 (i.1:Int))))],[]⟩) (fun i=>L.length-i.1) ⟨0,iH _⟩ (aB ⟨rfl,rfl,rfl,rfl,trivial⟩ trivial rfl) ?_
 rintro⟨n,h2⟩
 replace h2:n≤L.length:=h2
 dsimp only
 refine nF ?_
 refine dr rfl (fun hc1=>?_) (fun hc1=>?_)
 ·have g1:n<L.length:=by have:=of_decide_eq_true hc1;omega
  refine ar (mR dPt aP g1 fw rfl)<|ar (oV aP bv rfl)<|ar (je rfl rfl (jQ (c:=false) (abW vc ha (hL _ (cz g1))) (by simp only[hq _ (cz g1)];rfl)) rfl) ?_
  refine mi rfl<|ar (fB (by omega) rfl) ?_
  exact⟨⟨n+1,g1⟩,aB ⟨rfl,rfl,rfl,rfl,trivial⟩ trivial rfl,by show L.length-(n+1)<L.length-n;omega⟩
 ·exact ai (al ae)
theorem ace (vc:CvV c) (ha:c.isArc=true) (hL: ∀p∈L,GP p) (lL:L.length≤12) (hq: ∀p∈L,c.on p=true):Ok Tryz.prog 182 [.c (.s ((L).length) (aI aj (L))),.c (.k 183 [.p (ap c)])] [.c (.b false)]:=by
 refine fD Tryz.func182 9 [.tmp 4] rfl<|aa<|ah<|aa<|bo<|bR 2<|a7 (dt rfl (acp vc ha hL lL hq))<|a7 (aZ (c:=false) (fe rfl) (by decide)) ?_
 refine fN<|bb ?_
 exact ai (al ae)
theorem aaS (vc:CvV c) (ha:c.isArc=true) (pa:GP a) (pb:GP b) (ea:c.inner a=true) (eb:c.inner b=true):Ok Tryz.prog 180 [.c (.s 2 (aj a++aj b)),.c (.k 101 [.p (ap c)])] [.c (.i .i64 (-1))]:=by
 refine bU Tryz.func180 rfl ?_
 refine DW.mk<|bF (ι:=Nat) (fun i=>match i with|0=>⟨19,[(0,.v (.c (.s 2 (aj a++aj b)))),(1,.v (.c (.k 101 [.p (ap c)]))),(7,.v (.c (.i .i64 2))),(8,.v (.c (.i .i64 0)))],[]⟩|1=>⟨19,[(0,.v (.c (.s 2 (aj a++aj b)))),(1,.v (.c (.k 101 [.p (ap c)]))),(7,.v (.c (.i .i64 2))),(8,.v (.c (.i .i64 1)))],[]⟩|_+2=>⟨19,[(0,.v (.c (.s 2 (aj a++aj b)))),(1,.v (.c (.k 101 [.p (ap c)]))),(7,.v (.c (.i .i64 2))),(8,.v (.c (.i .i64 2)))],[]⟩) (fun i=>2-i) 0 (aB ⟨rfl,rfl,rfl,rfl,trivial⟩ trivial rfl) ?_
 intro i
 match i with
 |0=>
  show Dw _ _ ⟨19,[(0,.v (.c (.s 2 (aj a++aj b)))),(1,.v (.c (.k 101 [.p (ap c)]))),(7,.v (.c (.i .i64 2))),(8,.v (.c (.i .i64 0)))],[]⟩ _
  refine nF<|oC rfl<|ar (bJ (us:=aj a++aj b) fw rfl rfl (by decide) (rfl) (rfl) rfl) ?_
  refine ar (oV aP bv rfl)<|ar (je rfl rfl (jQ (c:=false) (JJ vc ha pa) (by simp only[ea];rfl)) rfl) ?_
  refine mi rfl<|ar (gI (r:=1) rfl rfl rfl rfl) ?_
  exact⟨1,aB ⟨rfl,rfl,rfl,rfl,trivial⟩ trivial rfl,by show 2-1<2-0;decide⟩
 |1=>
  show Dw _ _ ⟨19,[(0,.v (.c (.s 2 (aj a++aj b)))),(1,.v (.c (.k 101 [.p (ap c)]))),(7,.v (.c (.i .i64 2))),(8,.v (.c (.i .i64 1)))],[]⟩ _
  refine nF<|oC rfl<|ar (bJ (us:=aj b) fw rfl rfl (by decide) (rfl) ((KD (aP a))) rfl) ?_
  refine ar (db (us:=aj b) bv rfl (iB (rZ (aP _))) (aP _) rfl) ?_
  refine ar (je rfl rfl (jQ (c:=false) (JJ vc ha pb) (by simp only[eb];rfl)) rfl) ?_
  refine mi rfl<|ar (gI (r:=2) rfl rfl rfl rfl) ?_
  exact⟨2,aB ⟨rfl,rfl,rfl,rfl,trivial⟩ trivial rfl,by show 2-2<2-1;decide⟩
 |z+2=>
  show Dw _ _ ⟨19,[(0,.v (.c (.s 2 (aj a++aj b)))),(1,.v (.c (.k 101 [.p (ap c)]))),(7,.v (.c (.i .i64 2))),(8,.v (.c (.i .i64 2)))],[]⟩ _
  refine nF<|mi rfl ?_
  exact ai (al ae)
theorem aa7 (vc:CvV c) (ha:c.isArc=true) (pa:GP a) (_pb:GP b) (ea:c.inner a=false):Ok Tryz.prog 180 [.c (.s 2 (aj a++aj b)),.c (.k 101 [.p (ap c)])] [.c (.i .i64 0)]:=by
 refine bU Tryz.func180 rfl ?_
 refine DW.mk<|bF (ι:=Nat) (fun i=>match i with|_=>⟨19,[(0,.v (.c (.s 2 (aj a++aj b)))),(1,.v (.c (.k 101 [.p (ap c)]))),(7,.v (.c (.i .i64 2))),(8,.v (.c (.i .i64 0)))],[]⟩) (fun i=>0-i) 0 (aB ⟨rfl,rfl,rfl,rfl,trivial⟩ trivial rfl) ?_
 intro i
 match i with
 |_=>
  show Dw _ _ ⟨19,[(0,.v (.c (.s 2 (aj a++aj b)))),(1,.v (.c (.k 101 [.p (ap c)]))),(7,.v (.c (.i .i64 2))),(8,.v (.c (.i .i64 0)))],[]⟩ _
  refine nF<|oC rfl<|ar (bJ (us:=aj a++aj b) fw rfl rfl (by decide) (rfl) (rfl) rfl) ?_
  refine ar (oV aP bv rfl)<|ar (je rfl rfl (jQ (c:=true) (JJ vc ha pa) (by simp only[ea];rfl)) rfl) ?_
  refine oC rfl ?_
  exact ai (al ae)
theorem aaj (vc:CvV c) (ha:c.isArc=true) (pa:GP a) (pb:GP b) (ea:c.inner a=true) (eb:c.inner b=false):Ok Tryz.prog 180 [.c (.s 2 (aj a++aj b)),.c (.k 101 [.p (ap c)])] [.c (.i .i64 1)]:=by
 refine bU Tryz.func180 rfl ?_
 refine DW.mk<|bF (ι:=Nat) (fun i=>match i with|0=>⟨19,[(0,.v (.c (.s 2 (aj a++aj b)))),(1,.v (.c (.k 101 [.p (ap c)]))),(7,.v (.c (.i .i64 2))),(8,.v (.c (.i .i64 0)))],[]⟩|_+1=>⟨19,[(0,.v (.c (.s 2 (aj a++aj b)))),(1,.v (.c (.k 101 [.p (ap c)]))),(7,.v (.c (.i .i64 2))),(8,.v (.c (.i .i64 1)))],[]⟩) (fun i=>1-i) 0 (aB ⟨rfl,rfl,rfl,rfl,trivial⟩ trivial rfl) ?_
 intro i
 match i with
 |0=>
  show Dw _ _ ⟨19,[(0,.v (.c (.s 2 (aj a++aj b)))),(1,.v (.c (.k 101 [.p (ap c)]))),(7,.v (.c (.i .i64 2))),(8,.v (.c (.i .i64 0)))],[]⟩ _
  refine nF<|oC rfl<|ar (bJ (us:=aj a++aj b) fw rfl rfl (by decide) (rfl) (rfl) rfl) ?_
  refine ar (oV aP bv rfl)<|ar (je rfl rfl (jQ (c:=false) (JJ vc ha pa) (by simp only[ea];rfl)) rfl) ?_
  refine mi rfl<|ar (gI (r:=1) rfl rfl rfl rfl) ?_
  exact⟨1,aB ⟨rfl,rfl,rfl,rfl,trivial⟩ trivial rfl,by show 1-1<1-0;decide⟩
 |z+1=>
  show Dw _ _ ⟨19,[(0,.v (.c (.s 2 (aj a++aj b)))),(1,.v (.c (.k 101 [.p (ap c)]))),(7,.v (.c (.i .i64 2))),(8,.v (.c (.i .i64 1)))],[]⟩ _
  refine nF<|oC rfl<|ar (bJ (us:=aj b) fw rfl rfl (by decide) (rfl) ((KD (aP a))) rfl) ?_
  refine ar (db (us:=aj b) bv rfl (iB (rZ (aP _))) (aP _) rfl) ?_
  refine ar (je rfl rfl (jQ (c:=true) (JJ vc ha pb) (by simp only[eb];rfl)) rfl) ?_
  refine oC rfl ?_
  exact ai (al ae)
theorem Y2 (vc:CvV c) (ha:c.isArc=true) (pa:GP a) (pb:GP b) (ea:c.inner a=true) (eb:c.inner b=true):OkT Tryz.prog 100 46 2 2 2 (aj a++aj b++[]) (aj a++aj b++[]) [.c (.k 101 [.p (ap c)])]:=by
 refine OkT.of (K:=100000) (by kernel_rfl) Tryz.func100 rfl rfl rfl ?_
 rw[show Tryz.f100.ntmps=42 from rfl]
 refine aa<|ah<|aa<|ah<|ar (wv (m:=20) (us:=aj a++aj b) rfl rfl rfl rfl rfl (rfl) (dV rfl) (cK _) (by decide) (aaS vc ha pa pb ea eb) rfl) ?_
 refine aa<|aa<|ah<|cO rfl<|aa<|ah<|bb ?_
 exact⟨.inr rfl,rfl,4,rfl,rfl⟩
theorem Zh (vc:CvV c) (ha:c.isArc=true) (pa:GP a) (pb:GP b) (ea:c.inner a=true) (eb:c.inner b=false):OkT Tryz.prog 100 46 2 2 1 (aj a++aj b++[]) (aj a++Qt) [.c (.k 101 [.p (ap c)])]:=by
 refine OkT.of (K:=100000) (by kernel_rfl) Tryz.func100 rfl rfl rfl ?_
 rw[show Tryz.f100.ntmps=42 from rfl]
 refine aa<|ah<|aa<|ah<|ar (wv (m:=20) (us:=aj a++aj b) rfl rfl rfl rfl rfl (rfl) (dV rfl) (cK _) (by decide) (aaj vc ha pa pb ea eb) rfl) ?_
 refine aa<|aa<|ah<|ba rfl<|aJ<|aa<|aa<|ah<|ar (gI (r:=2) rfl rfl rfl rfl) ?_
 refine aT ?_
 refine bF (ι:=Nat) (fun i=>match i with|_=>⟨42,[(0,.o 100000 2 2),(1,.v (.c (.k 101 [.p (ap c)]))),(5,.v (.c (.i .i64 1))),(6,.v (.c (.i .i64 2)))],[(100000,46,aj a++aj b++[])]⟩) (fun i=>0-i) 0 (aB ⟨rfl,rfl,rfl,rfl,trivial⟩ ⟨rfl,trivial⟩ rfl) ?_
 intro i
 match i with
 |_=>
  show Dw _ _ ⟨42,[(0,.o 100000 2 2),(1,.v (.c (.k 101 [.p (ap c)]))),(5,.v (.c (.i .i64 1))),(6,.v (.c (.i .i64 2)))],[(100000,46,aj a++aj b++[])]⟩ _
  refine aa<|aa<|ah<|ar (f6 fw rfl rfl) ?_
  refine ba rfl<|bG<|aa<|ah<|ar (kJ (q:=1) fw rfl rfl (by decide) (by decide) rfl) ?_
  refine jF (zO (cs':=aj a++Qt) iC rfl rfl (dV rfl) (by rfl) rfl) ?_
  refine aa<|ah<|ar (jq (q:=1) fw rfl rfl (by decide) rfl) ?_
  refine bb ?_
  exact⟨.inr rfl,rfl,4,rfl,rfl⟩
theorem ZN (vc:CvV c) (ha:c.isArc=true) (pa:GP a) (pb:GP b) (ea:c.inner a=false) (eb:c.inner b=true):OkT Tryz.prog 100 46 2 2 1 (aj a++aj b++[]) (aj b++Qt) [.c (.k 101 [.p (ap c)])]:=by
 refine OkT.of (K:=100000) (by kernel_rfl) Tryz.func100 rfl rfl rfl ?_
 rw[show Tryz.f100.ntmps=42 from rfl]
 refine aa<|ah<|aa<|ah<|ar (wv (m:=20) (us:=aj a++aj b) rfl rfl rfl rfl rfl (rfl) (dV rfl) (cK _) (by decide) (aa7 vc ha pa pb ea) rfl) ?_
 refine aa<|aa<|ah<|ba rfl<|aJ<|aa<|aa<|ah<|ar (gI (r:=1) rfl rfl rfl rfl) ?_
 refine aT ?_
 refine bF (ι:=Nat) (fun i=>match i with|0=>⟨42,[(0,.o 100000 2 2),(1,.v (.c (.k 101 [.p (ap c)]))),(5,.v (.c (.i .i64 0))),(6,.v (.c (.i .i64 1)))],[(100000,46,aj a++aj b++[])]⟩|_+1=>⟨42,[(0,.o 100000 2 2),(1,.v (.c (.k 101 [.p (ap c)]))),(5,.v (.c (.i .i64 1))),(6,.v (.c (.i .i64 2)))],[(100000,46,aj b++aj b++[])]⟩) (fun i=>1-i) 0 (aB ⟨rfl,rfl,rfl,rfl,trivial⟩ ⟨rfl,trivial⟩ rfl) ?_
 intro i
 match i with
 |0=>
  show Dw _ _ ⟨42,[(0,.o 100000 2 2),(1,.v (.c (.k 101 [.p (ap c)]))),(5,.v (.c (.i .i64 0))),(6,.v (.c (.i .i64 1)))],[(100000,46,aj a++aj b++[])]⟩ _
  refine aa<|aa<|ah<|ar (f6 fw rfl rfl) ?_
  refine cO rfl<|aJ<|aa<|aT<|aa<|bo<|bR 2<|a7 (bq fw rfl rfl (by decide) rfl) ?_
  refine a7 (aV (us:=aj b) bv rfl rfl (by rfl) (aP _) rfl) ?_
  refine pg (kW FF rfl) rfl ?_
  refine fN ?_
  refine aa ?_
  refine ah ?_
  refine ar (je rfl rfl (jQ (c:=false) (JJ vc ha pb) (by simp only[eb];rfl)) rfl) ?_
  refine cO rfl<|aa<|bo<|bR 3<|a7 (bq fw rfl rfl (by decide) rfl) ?_
  refine gZ (bm (us:=(aj b++aj b)++[]) bv rfl rfl rfl (aP _) (dV rfl) (by rfl) rfl) ?_
  refine bj<|ah<|ar (gI (r:=1) rfl rfl rfl rfl) ?_
  refine ah<|ar (gI (r:=2) rfl rfl rfl rfl) ?_
  exact⟨1,aB ⟨rfl,rfl,rfl,rfl,trivial⟩ ⟨rfl,trivial⟩ rfl,by show 1-1<1-0;decide⟩
 |z+1=>
  show Dw _ _ ⟨42,[(0,.o 100000 2 2),(1,.v (.c (.k 101 [.p (ap c)]))),(5,.v (.c (.i .i64 1))),(6,.v (.c (.i .i64 2)))],[(100000,46,aj b++aj b++[])]⟩ _
  refine aa<|aa<|ah<|ar (f6 fw rfl rfl) ?_
  refine ba rfl<|bG<|aa<|ah<|ar (kJ (q:=1) fw rfl rfl (by decide) (by decide) rfl) ?_
  refine jF (zO (cs':=aj b++Qt) iC rfl rfl (dV rfl) (by rfl) rfl) ?_
  refine aa<|ah<|ar (jq (q:=1) fw rfl rfl (by decide) rfl) ?_
  refine bb ?_
  exact⟨.inr rfl,rfl,4,rfl,rfl⟩
theorem abt (vc:CvV c) (ha:c.isArc=true) (pa:GP a) (pb:GP b) (ea:c.inner a=false) (eb:c.inner b=false):OkT Tryz.prog 100 46 2 2 0 (aj a++aj b++[]) (([]:List CellD)++(Qt++Qt)) [.c (.k 101 [.p (ap c)])]:=by
 refine OkT.of (K:=100000) (by kernel_rfl) Tryz.func100 rfl rfl rfl ?_
 rw[show Tryz.f100.ntmps=42 from rfl]
 refine aa<|ah<|aa<|ah<|ar (wv (m:=20) (us:=aj a++aj b) rfl rfl rfl rfl rfl (rfl) (dV rfl) (cK _) (by decide) (aa7 vc ha pa pb ea) rfl) ?_
 refine aa<|aa<|ah<|ba rfl<|aJ<|aa<|aa<|ah<|ar (gI (r:=1) rfl rfl rfl rfl) ?_
 refine aT ?_
 refine bF (ι:=Nat) (fun i=>match i with|0=>⟨42,[(0,.o 100000 2 2),(1,.v (.c (.k 101 [.p (ap c)]))),(5,.v (.c (.i .i64 0))),(6,.v (.c (.i .i64 1)))],[(100000,46,aj a++aj b++[])]⟩|_+1=>⟨42,[(0,.o 100000 2 2),(1,.v (.c (.k 101 [.p (ap c)]))),(5,.v (.c (.i .i64 0))),(6,.v (.c (.i .i64 2)))],[(100000,46,aj a++aj b++[])]⟩) (fun i=>1-i) 0 (aB ⟨rfl,rfl,rfl,rfl,trivial⟩ ⟨rfl,trivial⟩ rfl) ?_
 intro i
 match i with
 |0=>
  show Dw _ _ ⟨42,[(0,.o 100000 2 2),(1,.v (.c (.k 101 [.p (ap c)]))),(5,.v (.c (.i .i64 0))),(6,.v (.c (.i .i64 1)))],[(100000,46,aj a++aj b++[])]⟩ _
  refine aa<|aa<|ah<|ar (f6 fw rfl rfl) ?_
  refine cO rfl<|aJ<|aa<|aT<|aa<|bo<|bR 2<|a7 (bq fw rfl rfl (by decide) rfl) ?_
  refine a7 (aV (us:=aj b) bv rfl rfl (by rfl) (aP _) rfl) ?_
  refine pg (kW FF rfl) rfl ?_
  refine fN ?_
  refine aa ?_
  refine ah ?_
  refine ar (je rfl rfl (jQ (c:=true) (JJ vc ha pb) (by simp only[eb];rfl)) rfl) ?_
  refine ba rfl<|aJ<|ah<|ar (gI (r:=2) rfl rfl rfl rfl) ?_
  exact⟨1,aB ⟨rfl,rfl,rfl,rfl,trivial⟩ ⟨rfl,trivial⟩ rfl,by show 1-1<1-0;decide⟩
 |z+1=>
  show Dw _ _ ⟨42,[(0,.o 100000 2 2),(1,.v (.c (.k 101 [.p (ap c)]))),(5,.v (.c (.i .i64 0))),(6,.v (.c (.i .i64 2)))],[(100000,46,aj a++aj b++[])]⟩ _
  refine aa<|aa<|ah<|ar (f6 fw rfl rfl) ?_
  refine ba rfl<|bG<|aa<|ah<|ar (kJ (q:=0) fw rfl rfl (by decide) (by decide) rfl) ?_
  refine jF (zO (cs':=([]:List CellD)++(Qt++Qt)) iC rfl rfl (dV rfl) (by rfl) rfl) ?_
  refine aa<|ah<|ar (jq (q:=0) fw rfl rfl (by decide) rfl) ?_
  refine bb ?_
  exact⟨.inr rfl,rfl,4,rfl,rfl⟩
theorem ab8 (hl:0<L.length) (lL:L.length≤12):OkN Tryz.prog 248 [.c (.s ((L).length) (aI aj (L)))] 46 L.length 20 (aI aj L) []:=by
 refine OkN.of (by kernel_rfl) Tryz.func248 rfl rfl ?_
 rw[show Tryz.f248.ntmps=8 from rfl]
 refine aa<|ah<|aa<|aa<|bo<|bR 1 ?_
 refine GY fw rfl rfl (fun bz1 hbz1=>?_)
 refine bj ?_
 refine aX rfl (fun hc2=>?_) (fun hc2=>?_)
 ·exact absurd hc2 (by rw[hbz1 hl];decide)
 ·refine aJ<|aa<|ah<|ar (mm iC rfl) ?_
  refine DL.mk<|Dm (q:=L.length) (ys:=aI aj (L)) (zs':=aI aj L) iC rfl rfl (aG aP _) (hl) (by omega) (jA (by omega)) rfl (rfl) rfl (fun cg3 rg3 hga3 hgb3 hgc3=>fE ?_)
  refine bb ?_
  exact⟨.inr rfl,2,7,cg3,[],rg3,rfl,rfl,rfl,by omega,by assumption,by assumption,ae⟩
theorem abz:Ok Tryz.prog 248 [.c (.s 0 [])] [.c (.s 0 [])]:=by
 refine fD Tryz.func248 8 [.tmp 2] rfl<|aa<|ah<|aa<|aa<|bo<|bR 1 ?_
 refine GY fw rfl rfl (fun bz1 hbz1=>?_)
 refine bj ?_
 refine aX rfl (fun hc2=>?_) (fun hc2=>?_)
 ·refine aa<|ah<|bb ?_
  exact ai (al ae)
 ·refine aJ<|aa<|ah<|ar (mm iC rfl) ?_
  refine ar (q8 iC rfl rfl rfl) ?_
  refine abd (t:=2) rfl<|bb ?_
  exact ai (al ae)
theorem ZT (vc:CvV c) (ha:c.isArc=true) (hn1:1≤L.length) (hn:L.length≤12) (hG: ∀x∈L,GP x):OkS Tryz.prog 305 46 L.length c9 (aI aj L++rs) (aI aj (bO dPt (co c) L)++rs) [.c (.i .i64 0),.c (.i .i64 (L.length:Int)),.c (.k 250 [.p (ap c)])]:=by
 refine OkS.of (K:=100000) (by kernel_rfl) Tryz.func305 rfl rfl rfl rfl ?_
 rw[show Tryz.f305.ntmps=53 from rfl]
 refine aa<|ah<|ar (gI (r:=1) rfl rfl rfl rfl) ?_
 refine aT<|bF (ι:={p:Nat // 1≤p∧p≤L.length}) (fun i=>⟨53,[(0,.o 100000 L.length c9),(1,.v (.c (.i .i64 0))),(2,.v (.c (.i .i64 (L.length:Int)))),(3,.v (.c (.k 250 [.p (ap c)]))),(8,.v (.c (.i .i64 (i.1:Int))))],[(100000,46,aI aj (Qh dPt (co c) L i.1)++rs)]⟩) (fun i=>L.length-i.1) ⟨1,cK _,hn1⟩ (aB ⟨rfl,rfl,rfl,rfl,rfl,trivial⟩ ⟨congrArg (fun q=>some (46,aI aj q++rs)) ((Kn L).symm),trivial⟩ rfl) ?_
 rintro⟨p,h1,h2⟩
 replace h1:1≤p:=h1
 replace h2:p≤L.length:=h2
 show Dw _ _ ⟨53,[(0,.o 100000 L.length c9),(1,.v (.c (.i .i64 0))),(2,.v (.c (.i .i64 (L.length:Int)))),(3,.v (.c (.k 250 [.p (ap c)]))),(8,.v (.c (.i .i64 (p:Int))))],[(100000,46,aI aj (Qh dPt (co c) L p)++rs)]⟩ _
 refine aa<|aa<|ah ?_
 refine aX rfl (fun hc1=>?_) (fun hc1=>?_)
 ·have g1:p<L.length:=by have:=of_decide_eq_true hc1;omega
  have hOl:(bO dPt (co c) (L.take p)).length=p:=by rw[dD,fQ,fT h2]
  refine aJ<|aa<|aT<|aa<|ah<|aT<|bF (ι:={j:Nat // j≤p∧xo dPt (co c) (L.getD p dPt) (bO dPt (co c) (L.take p)) p=xo dPt (co c) (L.getD p dPt) (bO dPt (co c) (L.take p)) j}) (fun i=>⟨53,[(0,.o 100000 L.length c9),(1,.v (.c (.i .i64 0))),(2,.v (.c (.i .i64 (L.length:Int)))),(3,.v (.c (.k 250 [.p (ap c)]))),(8,.v (.c (.i .i64 (p:Int)))),(9,.v (.c (.i .i64 (i.1:Int))))],[(100000,46,aI aj (x8 (bO dPt (co c) (L.take p)) (L.drop (p+1)) (L.getD p dPt) i.1)++rs)]⟩) (fun i=>i.1) ⟨p,cK _,rfl⟩ (aB ⟨rfl,rfl,rfl,rfl,rfl,rfl,trivial⟩ ⟨congrArg (fun q=>some (46,aI aj q++rs)) (Lc g1),trivial⟩ rfl) ?_
  rintro⟨j,h3,h4⟩
  replace h3:j≤p:=h3
  replace h4:xo dPt (co c) (L.getD p dPt) (bO dPt (co c) (L.take p)) p=xo dPt (co c) (L.getD p dPt) (bO dPt (co c) (L.take p)) j:=h4
  show Dw _ _ ⟨53,[(0,.o 100000 L.length c9),(1,.v (.c (.i .i64 0))),(2,.v (.c (.i .i64 (L.length:Int)))),(3,.v (.c (.k 250 [.p (ap c)]))),(8,.v (.c (.i .i64 (p:Int)))),(9,.v (.c (.i .i64 (j:Int))))],[(100000,46,aI aj (x8 (bO dPt (co c) (L.take p)) (L.drop (p+1)) (L.getD p dPt) j)++rs)]⟩ _
  refine aa<|aa<|lq 17 rfl rfl<|dU 3 ?_
  refine HC (bp rfl) (fun c2 hb2=>?_)
  cases c2
  ·have g2:j=0:=by have:=of_decide_eq_false hb2;omega
   refine yQ<|dz<|bj<|ba rfl<|bG<|ah<|ar (fB (by omega) rfl) ?_
   exact⟨⟨p+1,by omega,g1⟩,aB ⟨rfl,rfl,rfl,rfl,rfl,trivial⟩ ⟨congrArg (fun q=>some (46,aI aj q++rs)) (xO g1 (h4.trans (FZ (.inl g2)))),trivial⟩ rfl,by show L.length-(p+1)<L.length-p;omega⟩
  ·have g2:0<j:=by have:=of_decide_eq_true hb2;omega
   have hjl:j≤(bO dPt (co c) (L.take p)).length:=by rw[hOl];exact h3
   refine dU 3<|bH (bq fw rfl rfl (by omega) rfl) ?_
   refine bH (aV (us:=aj (L.getD p dPt)) bv rfl rfl ((nL (e:=dPt) (O:=(x8 (bO dPt (co c) (L.take p)) (L.drop (p+1)) (L.getD p dPt) j)) aP (by rw[iU hjl,hOl,fP];omega)).trans (congrArg aj (FO hjl))) (aP _) rfl) ?_
   refine dU 2<|bH (cr (((j-1:Nat):Int)) ((bT (by omega) (by omega)).trans (congrArg some (by omega))) rfl)<|bH (bq fw rfl rfl (by omega) rfl) ?_
   refine bH (aV (us:=aj ((bO dPt (co c) (L.take p)).getD (j-1) dPt)) bv rfl rfl ((nL (e:=dPt) (O:=(x8 (bO dPt (co c) (L.take p)) (L.drop (p+1)) (L.getD p dPt) j)) aP (by rw[iU hjl,hOl,fP];omega)).trans (congrArg aj (FE g2 hjl))) (aP _) rfl) ?_
   refine bH (je rfl rfl (Zo vc ha (hG _ (cz g1)) (hG _ (u9 ((mI _).mem_iff.1 (cz (show j-1<(bO dPt (co c) (L.take p)).length by rw[hOl];omega)))))) rfl) ?_
   refine yQ<|dz<|bj ?_
   refine aX rfl (fun hc3=>?_) (fun hc3=>?_)
   ·have g3:(co c) (L.getD p dPt) ((bO dPt (co c) (L.take p)).getD (j-1) dPt)<0:=of_decide_eq_true hc3
    refine aJ<|aa<|aT<|qV 16 [100000,999999] ew (by kernel_rfl) rfl rfl<|dU 4<|bH (cr (((j-1:Nat):Int)) ((bT (by omega) (by omega)).trans (congrArg some (by omega))) rfl)<|dU 2<|bH (cr (((j-1:Nat):Int)) ((bT (by omega) (by omega)).trans (congrArg some (by omega))) rfl)<|bH (bq fw rfl rfl (by omega) rfl) ?_
    refine Aj (by kernel_rfl) (aV (us:=aj ((bO dPt (co c) (L.take p)).getD (j-1) dPt)) bv rfl rfl ((nL (e:=dPt) (O:=(x8 (bO dPt (co c) (L.take p)) (L.drop (p+1)) (L.getD p dPt) j)) aP (by rw[iU hjl,hOl,fP];omega)).trans (congrArg aj (FE g2 hjl))) (aP _) rfl) ?_
    refine dU 2<|bH (bq fw rfl rfl (by omega) rfl) ?_
    refine Aj (by kernel_rfl) (aV (us:=aj (L.getD p dPt)) bv rfl rfl ((nL (e:=dPt) (O:=(x8 (bO dPt (co c) (L.take p)) (L.drop (p+1)) (L.getD p dPt) j)) aP (by rw[iU hjl,hOl,fP];omega)).trans (congrArg aj (FO hjl))) (aP _) rfl) ?_
    refine bH (bq fw rfl rfl (by omega) rfl) ?_
    refine i4 (bm (us:=aI aj ((x8 (bO dPt (co c) (L.take p)) (L.drop (p+1)) (L.getD p dPt) j).set j ((bO dPt (co c) (L.take p)).getD (j-1) dPt))++rs) bv rfl rfl rfl (aP _) (by rw[fp,aG aP,iU hjl,hOl,fP];omega) (vU aP (by rw[iU hjl,hOl,fP];omega) _) rfl) rfl rfl rfl rfl ?_
    refine kj<|ry<|a7 (bq fw rfl rfl (by omega) rfl) ?_
    refine gZ (bm (us:=aI aj (((x8 (bO dPt (co c) (L.take p)) (L.drop (p+1)) (L.getD p dPt) j).set j ((bO dPt (co c) (L.take p)).getD (j-1) dPt)).set (j-1) (L.getD p dPt))++rs) bv rfl rfl rfl (aP _) (by rw[fp,aG aP,List.length_set,iU hjl,hOl,fP];omega) (vU aP (by rw[List.length_set,iU hjl,hOl,fP];omega) _) rfl) ?_
    refine bj<|ah<|ar (cr (((j-1:Nat):Int)) ((bT (by omega) (by omega)).trans (congrArg some (by omega))) rfl) ?_
    exact⟨⟨j-1,by omega,h4.trans (Rf g2 g3)⟩,aB ⟨rfl,rfl,rfl,rfl,rfl,rfl,trivial⟩ ⟨congrArg (fun q=>some (46,aI aj q++rs)) (Oi g2 hjl),trivial⟩ rfl,by show j-1<j;omega⟩
   ·have g3: ¬(co c) (L.getD p dPt) ((bO dPt (co c) (L.take p)).getD (j-1) dPt)<0:=of_decide_eq_false hc3
    refine bG<|ah<|ar (fB (by omega) rfl) ?_
    exact⟨⟨p+1,by omega,g1⟩,aB ⟨rfl,rfl,rfl,rfl,rfl,trivial⟩ ⟨congrArg (fun q=>some (46,aI aj q++rs)) (xO g1 (h4.trans (FZ (.inr g3)))),trivial⟩ rfl,by show L.length-(p+1)<L.length-p;omega⟩
 ·have hp:p=L.length:=by have:=of_decide_eq_false hc1;omega
  refine bG ?_
  exact⟨.inl rfl,congrArg (fun q=>some (46,aI aj q++rs)) (by rw[hp,LC])⟩
theorem aa9 (vc:CvV c) (ha:c.isArc=true) (hn1:1≤L.length) (hn:L.length≤12) (hG: ∀x∈L,GP x):OkS Tryz.prog 292 46 L.length c9 (aI aj L++rs) (aI aj (bO dPt (co c) L)++rs) [.c (.i .i64 (L.length:Int)),.c (.k 250 [.p (ap c)])]:=by
 refine OkS.of (K:=100000) (by kernel_rfl) Tryz.func292 rfl rfl rfl rfl ?_
 rw[show Tryz.f292.ntmps=63 from rfl]
 refine aa<|ah<|aa<|ah<|aa<|aT ?_
 refine bF (ι:=Nat) (fun i=>match i with|_=>⟨63,[(0,.o 100000 L.length c9),(1,.v (.c (.i .i64 (L.length:Int)))),(2,.v (.c (.k 250 [.p (ap c)]))),(6,.v (.c (.i .i64 20))),(7,.v (.c (.i .i64 0))),(8,.v (.c (.i .i64 20)))],[(100000,46,aI aj L++rs)]⟩) (fun i=>0-i) 0 (aB ⟨rfl,rfl,rfl,rfl,rfl,rfl,trivial⟩ ⟨rfl,trivial⟩ rfl) ?_
 intro i
 match i with
 |_=>
  show Dw _ _ ⟨63,[(0,.o 100000 L.length c9),(1,.v (.c (.i .i64 (L.length:Int)))),(2,.v (.c (.k 250 [.p (ap c)]))),(6,.v (.c (.i .i64 20))),(7,.v (.c (.i .i64 0))),(8,.v (.c (.i .i64 20)))],[(100000,46,aI aj L++rs)]⟩ _
  refine aa<|aa<|bo<|bR 2<|a7 (aZ (c:=false) (fe rfl) (decide_eq_false (by omega))) ?_
  refine bj<|ba rfl<|bG<|aa<|ah ?_
  refine DL.mk<|uz (nG rfl rfl rfl rfl rfl (ZT vc ha hn1 hn hG) rfl)<|fE ?_
  refine aT ?_
  refine bF (ι:=Nat) (fun i=>match i with|_=>⟨63,[(0,.o 100000 L.length c9),(1,.v (.c (.i .i64 (L.length:Int)))),(2,.v (.c (.k 250 [.p (ap c)]))),(6,.v (.c (.i .i64 20))),(7,.v (.c (.i .i64 0))),(8,.v (.c (.i .i64 20)))],[(100000,46,aI aj (bO dPt (co c) L)++rs)]⟩) (fun i=>0-i) 0 (aB ⟨rfl,rfl,rfl,rfl,rfl,rfl,trivial⟩ ⟨rfl,trivial⟩ rfl) ?_
  intro i
  match i with
  |_=>
   show Dw _ _ ⟨63,[(0,.o 100000 L.length c9),(1,.v (.c (.i .i64 (L.length:Int)))),(2,.v (.c (.k 250 [.p (ap c)]))),(6,.v (.c (.i .i64 20))),(7,.v (.c (.i .i64 0))),(8,.v (.c (.i .i64 20)))],[(100000,46,aI aj (bO dPt (co c) L)++rs)]⟩ _
   refine aa<|aa<|bo<|bR 2<|a7 (aZ (c:=false) (fe rfl) (decide_eq_false (by omega))) ?_
   refine bj<|ba rfl<|bG ?_
   exact⟨.inl rfl,rfl⟩
theorem Y6 (vc:CvV c) (ha:c.isArc=true) (hn1:1≤L.length) (hn:L.length≤12) (hG: ∀x∈L,GP x):OkS Tryz.prog 249 46 L.length c9 (aI aj L++rs) (aI aj (bO dPt (co c) L)++rs) [.c (.k 250 [.p (ap c)])]:=by
 refine OkS.of (K:=100000) (by kernel_rfl) Tryz.func249 rfl rfl rfl rfl ?_
 rw[show Tryz.f249.ntmps=9 from rfl]
 refine ah<|ar (f6 fw rfl rfl) ?_
 refine DL.mk<|uz (nG rfl rfl rfl rfl rfl (aa9 vc ha hn1 hn hG) rfl)<|fE ?_
 exact⟨.inl rfl,rfl⟩
theorem Xp:Ok Tryz.prog 305 [.c (.s 0 []),.c (.i .i64 0),.c (.i .i64 0),.c (.k 250 [.p (ap c)])] []:=by
 refine bU Tryz.func305 rfl<|ar (gI (r:=1) rfl rfl rfl rfl) ?_
 refine DW.mk<|bF (ι:=Nat) (fun i=>match i with|_=>⟨53,[(0,.v (.c (.s 0 []))),(1,.v (.c (.i .i64 0))),(2,.v (.c (.i .i64 0))),(3,.v (.c (.k 250 [.p (ap c)]))),(8,.v (.c (.i .i64 1)))],[]⟩) (fun i=>0-i) 0 (aB ⟨rfl,rfl,rfl,rfl,rfl,trivial⟩ trivial rfl) ?_
 intro i
 match i with
 |_=>
  show Dw _ _ ⟨53,[(0,.v (.c (.s 0 []))),(1,.v (.c (.i .i64 0))),(2,.v (.c (.i .i64 0))),(3,.v (.c (.k 250 [.p (ap c)]))),(8,.v (.c (.i .i64 1)))],[]⟩ _
  refine nF<|mi rfl ?_
  exact QF ae
theorem YD:Ok Tryz.prog 292 [.c (.s 0 []),.c (.i .i64 0),.c (.k 250 [.p (ap c)])] []:=by
 refine bU Tryz.func292 rfl ?_
 refine DW.mk<|bF (ι:=Nat) (fun i=>match i with|_=>⟨63,[(0,.v (.c (.s 0 []))),(1,.v (.c (.i .i64 0))),(2,.v (.c (.k 250 [.p (ap c)]))),(6,.v (.c (.i .i64 20))),(7,.v (.c (.i .i64 0))),(8,.v (.c (.i .i64 20)))],[]⟩) (fun i=>0-i) 0 (aB ⟨rfl,rfl,rfl,rfl,rfl,rfl,trivial⟩ trivial rfl) ?_
 intro i
 match i with
 |_=>
  show Dw _ _ ⟨63,[(0,.v (.c (.s 0 []))),(1,.v (.c (.i .i64 0))),(2,.v (.c (.k 250 [.p (ap c)]))),(6,.v (.c (.i .i64 20))),(7,.v (.c (.i .i64 0))),(8,.v (.c (.i .i64 20)))],[]⟩ _
  refine nF<|mi rfl<|ac rfl (Xp) ?_
  refine DW.mk<|bF (ι:=Nat) (fun i=>match i with|_=>⟨63,[(0,.v (.c (.s 0 []))),(1,.v (.c (.i .i64 0))),(2,.v (.c (.k 250 [.p (ap c)]))),(6,.v (.c (.i .i64 20))),(7,.v (.c (.i .i64 0))),(8,.v (.c (.i .i64 20)))],[]⟩) (fun i=>0-i) 0 (aB ⟨rfl,rfl,rfl,rfl,rfl,rfl,trivial⟩ trivial rfl) ?_
  intro i
  match i with
  |_=>
   show Dw _ _ ⟨63,[(0,.v (.c (.s 0 []))),(1,.v (.c (.i .i64 0))),(2,.v (.c (.k 250 [.p (ap c)]))),(6,.v (.c (.i .i64 20))),(7,.v (.c (.i .i64 0))),(8,.v (.c (.i .i64 20)))],[]⟩ _
   refine nF<|mi rfl ?_
   exact QF ae
theorem Xi:Ok Tryz.prog 249 [.c (.s 0 []),.c (.k 250 [.p (ap c)])] []:=by
 refine bU Tryz.func249 rfl ?_
 refine ac rfl (YD) ?_
 exact QF ae
theorem Zu (hS: ∀p∈S,GP p) (lS:S.length≤12) (hne: ∀i,i+1<S.length→cP (S.getD (i+1) dPt) (S.getD i dPt)≠0):Ok Tryz.prog 252 [.c (.s ((S).length) (aI aj (S))),.c (.f 86)] [.c (.s ((S).length) (aI aj (S)))]:=by
 refine bU Tryz.func252 rfl ?_
 refine dr rfl (fun hc1=>?_) (fun hc1=>?_)
 ·exact ai (al ae)
 ·refine DW.mk<|bF (ι:={n:Nat // n+1≤S.length∨n=0}) (fun i=>⟨66,[(0,.v (.c (.s ((S).length) (aI aj (S))))),(1,.v (.c (.f 86))),(5,.v (.c (.i .i64 (((i.1+1:Nat):Int)))))],[]⟩) (fun i=>S.length-i.1) ⟨0,.inr rfl⟩ (aB ⟨rfl,rfl,rfl,trivial⟩ trivial rfl) ?_
  rintro⟨n,h2⟩
  replace h2:n+1≤S.length∨n=0:=h2
  dsimp only
  refine nF ?_
  refine dr rfl (fun hc2=>?_) (fun hc2=>?_)
  ·have g1:n+1<S.length:=by have:=of_decide_eq_true hc2;omega
   refine cU 11 []<|aq (bJ (us:=aj (S.getD (n+1) dPt)++aI aj (S.drop ((n+1)+1))) fw rfl rfl (by omega) (aG aP _) (gj aP (eJ g1)) rfl) ?_
   refine aq (oV aP bv rfl)<|aq (cr (((n:Nat):Int)) ((bT (by omega) (by omega)).trans (congrArg some (by omega))) rfl)<|aq (bJ (us:=aj (S.getD n dPt)++aI aj (S.drop (n+1))) fw rfl rfl (by omega) (aG aP _) (gj aP (eJ (by omega))) rfl) ?_
   refine aq (oV aP bv rfl)<|aO rfl (jQ (c:=false) (ym (rF hS (n+1)) (rF hS n)) (beq_eq_false_iff_ne.2 (hne n g1)))<|mi rfl<|ar (cr (((n+1+1:Nat):Int)) ((bL (by omega) (by omega)).trans (congrArg some (by omega))) rfl) ?_
   exact⟨⟨n+1,.inl g1⟩,aB ⟨rfl,rfl,rfl,trivial⟩ trivial rfl,by show S.length-(n+1)<S.length-n;omega⟩
  ·exact ai (al ae)
end Go.Proofs.YtkmdgigkbhmilaaGreat
