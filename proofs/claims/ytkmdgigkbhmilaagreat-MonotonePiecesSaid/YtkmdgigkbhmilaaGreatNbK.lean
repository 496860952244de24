/-radical.quick. -/
import Derived.Test.YtkmdgigkbhmilaaGreatNbJ
namespace Go.Proofs.YtkmdgigkbhmilaaGreat
open Go Go.RowKit
theorem DC {A B C D M N:Rat}(hA:Rz 40000 A) (hB:Rz 40000 B) (hC:Rz 40000 C) (hD:Rz 40000 D) (hM:Rz 40000 M) (hN:Rz 40000 N) (hm: ¬M<0) (hn: ¬N<0):Ok Tryz.prog 224 [.a ((cR A++cR B++cR C++cR D++cR M++cR N))] [.c (.i .i64 (PK A B C D M N)),.c (.b (L8 A B C D M N))]:=by
 refine Ok.fn Tryz.func224 126 [.tmp 2,.tmp 3] rfl<|aa<|ab<|ag<|aa<|ab<|ah (aN (us:=([.b true])) Sy S3 rfl rfl rfl) ?_
 refine ag<|aa<|ab<|al 3<|ah (aF (cR M) aD rfl)<|ah (am rfl (fI (aX hM)))<|al 2<|pp (e8 rfl rfl rfl rfl rfl (fN) rfl) ?_
 refine ah (am rfl (A8 (by assumption)))<|al 2<|pp (e8 rfl rfl rfl rfl rfl (fN) rfl) ?_
 refine aC (ai dB rfl) rfl<|ag<|aa<|ab<|al 3<|ah (aF (cR N) aD rfl)<|ah (am rfl (fI (aX hN)))<|al 2<|pp (e8 rfl rfl rfl rfl rfl (fN) rfl) ?_
 refine ah (am rfl (A8 (by assumption)))<|al 2<|pp (e8 rfl rfl rfl rfl rfl (fN) rfl) ?_
 refine aC (ai dB rfl) rfl<|ag<|aa<|aa<|ab<|al 1<|ah (oW rfl rfl) ?_
 refine ag ?_
 refine aw rfl (fun hc1=>?_) (fun hc1=>?_)
 ·refine aa<|ab<|ag<|an ?_
  have hk:F3 A B C D M N=false:=PS (Dl hc1 (by unfold P3;simp only[Bool.true_and,Bool.and_true];try rfl))
  rw[(yg hk).1,(yg hk).2]
  exact aq (aE (aE ae))
 ·refine ao<|aa<|bZ 14 [12] aU (by kernel_rfl) rfl rfl<|ap 3<|aj (aF (cR B) aD rfl)<|aj (am rfl (fI (aX hB)))<|ap 2<|pM (e8 rfl rfl rfl rfl rfl (fN) rfl) rfl rfl rfl rfl rfl (by kernel_rfl) rfl ?_
  refine ap 1<|aj (am rfl (oV (m8 _) (mS _) (FZ _) (FK (by assumption))))<|ap 2<|pM (e8 rfl rfl rfl rfl rfl (fN) rfl) rfl rfl rfl rfl rfl (by kernel_rfl) rfl ?_
  refine ba (ai dB rfl) rfl<|aY<|xI<|ag<|aa<|bZ 14 [12] aU (by kernel_rfl) rfl rfl<|ap 3<|aj (aF (cR C) aD rfl)<|aj (am rfl (fI (aX hC)))<|ap 2<|pM (e8 rfl rfl rfl rfl rfl (fN) rfl) rfl rfl rfl rfl rfl (by kernel_rfl) rfl ?_
  refine ap 1<|aj (am rfl (oV (m8 _) (mS _) (FZ _) (FK (by assumption))))<|ap 2<|pM (e8 rfl rfl rfl rfl rfl (fN) rfl) rfl rfl rfl rfl rfl (by kernel_rfl) rfl ?_
  refine ba (ai dB rfl) rfl<|aY<|xI<|ag<|aa<|bZ 20 [12] aU (by kernel_rfl) rfl rfl<|ap 3<|aj (aF (cR D) aD rfl)<|aj (am rfl (fI (aX hD)))<|ap 2<|pM (e8 rfl rfl rfl rfl rfl (fN) rfl) rfl rfl rfl rfl rfl (by kernel_rfl) rfl ?_
  refine ap 3<|aj (am rfl (oV (FZ _) (FK (by assumption)) (FZ _) (FK (by assumption))))<|ap 2<|pM (e8 rfl rfl rfl rfl rfl (fN) rfl) rfl rfl rfl rfl rfl (by kernel_rfl) rfl ?_
  refine aj (am rfl (oV (m8 _) (mS _) (vV _ _ _ _) (wV _ _ _ _)))<|ap 2<|pM (e8 rfl rfl rfl rfl rfl (fN) rfl) rfl rfl rfl rfl rfl (by kernel_rfl) rfl ?_
  refine ba (ai dB rfl) rfl<|aY<|lI<|ag<|aa<|aa<|ab<|al 1<|ah (oW rfl rfl) ?_
  refine ag ?_
  refine aw rfl (fun hc2=>?_) (fun hc2=>?_)
  ·refine aa<|ab<|ag<|an ?_
   have hk:F3 A B C D M N=false:=J0 (Dl hc2 (by unfold P4 P3;simp only[Bool.true_and,Bool.and_true,Bool.and_assoc];try rfl))
   rw[(yg hk).1,(yg hk).2]
   exact aq (aE (aE ae))
  ·refine ao<|aa<|bZ 26 [12] aU (by kernel_rfl) rfl rfl<|ap 4<|aj (aF (cR A) aD rfl)<|aj (am rfl (fI (aX hA)))<|ap 2<|pM (e8 rfl rfl rfl rfl rfl (fN) rfl) rfl rfl rfl rfl rfl (by kernel_rfl) rfl ?_
   refine ap 1<|aj (am rfl (mR (m8 _) (mS _) (vV _ _ _ _) (wV _ _ _ _)))<|ap 2<|pM (e8 rfl rfl rfl rfl rfl (fN) rfl) rfl rfl rfl rfl rfl (by kernel_rfl) rfl ?_
   refine ap 3<|aj (am rfl (mR (vV _ _ _ _) (wV _ _ _ _) (vV _ _ _ _) (wV _ _ _ _)))<|ap 2<|pM (e8 rfl rfl rfl rfl rfl (fN) rfl) rfl rfl rfl rfl rfl (by kernel_rfl) rfl ?_
   refine aj (am rfl (mR (Bb (by first|exact xy _|exact tj _ _ _ _) (by first|exact xy _|exact tj _ _ _ _)) (AS (by first|exact xy _|exact tj _ _ _ _) (by first|exact xy _|exact tj _ _ _ _)) (Bb (by first|exact xy _|exact tj _ _ _ _) (by first|exact xy _|exact tj _ _ _ _)) (AS (by first|exact xy _|exact tj _ _ _ _) (by first|exact xy _|exact tj _ _ _ _)))) ?_
   refine ap 2<|pM (e8 rfl rfl rfl rfl rfl (fN) rfl) rfl rfl rfl rfl rfl (by kernel_rfl) rfl ?_
   refine ba (ai dB rfl) rfl<|aY<|GC<|ag<|aa<|aa<|ab<|al 1<|ah (oW rfl rfl) ?_
   refine ag ?_
   refine aw rfl (fun hc3=>?_) (fun hc3=>?_)
   ·refine aa<|ab<|ag<|an ?_
    have hk:F3 A B C D M N=false:=Dl hc3 (by unfold F3 P4 P3;simp only[Bool.true_and,Bool.and_true,Bool.and_assoc];try rfl)
    rw[(yg hk).1,(yg hk).2]
    exact aq (aE (aE ae))
   ·refine ao<|aa<|ab<|al 1<|ah (am rfl (wl))<|ag<|an ?_
    have hk:F3 A B C D M N=true:=PL hc3 (by unfold F3 P4 P3;simp only[Bool.true_and,Bool.and_true,Bool.and_assoc];try rfl)
    rw[(DS hk).1,(DS hk).2]
    exact aq (aE (aE ae))
def wG (A B C D M N:Rat):Int:=if M<0∨N<0 then 0 else if L8 A B C D M N=true then PK A B C D M N else iX A B C D M N
theorem LS {A B C D M N:Rat}(h:M<0∨N<0):wG A B C D M N=0:=by unfold wG;rw[if_pos h]
theorem RX {A B C D M N:Rat}(h: ¬M<0) (h': ¬N<0) (hq:L8 A B C D M N=true):wG A B C D M N=PK A B C D M N:=by unfold wG;rw[if_neg (fun e=>e.elim h h'),if_pos hq]
theorem zq {A B C D M N:Rat}(h: ¬M<0) (h': ¬N<0) (hq:L8 A B C D M N=false):wG A B C D M N=ll (cm A B M) (cm C D M*aV N 0) (cm (A*A+M*(B*B)-N*(C*C+M*(D*D))) (A*B-N*(C*D)+(A*B-N*(C*D))) M):=by
 unfold wG;rw[if_neg (fun e=>e.elim h h'),hq,if_neg (by decide),qh h h']
 unfold xM qI
 rw[Rat.mul_comm M (B*B),Rat.mul_comm M (D*D)]
def oU (a b c d e f:Rat):Int:=
 if (aV b 0==0)=true∧(aV e 0==0)=true then aV a d else
 if BS (dO a b c) (dO d e f) (dG a b c) (dH a b c) (dG d e f) (dH d e f)=true then DT (dO a b c) (dO d e f) (dG a b c) (dH a b c) (dG d e f) (dH d e f) else
 if (aV c f==0)=true then cm (a-d) (b-e) c else wG (a-d) b (-e) 0 c f
section
variable {a b c d e f:Rat}
theorem R7 (h:(aV b 0==0)=true) (h2:(aV e 0==0)=true):oU a b c d e f=aV a d:=by unfold oU;rw[if_pos ⟨h,h2⟩]
theorem K1 (h: ¬((aV b 0==0)=true∧(aV e 0==0)=true)) (h2:BS (dO a b c) (dO d e f) (dG a b c) (dH a b c) (dG d e f) (dH d e f)=true):
 oU a b c d e f=DT (dO a b c) (dO d e f) (dG a b c) (dH a b c) (dG d e f) (dH d e f):=by unfold oU;rw[if_neg h,if_pos h2]
theorem Lv (h: ¬((aV b 0==0)=true∧(aV e 0==0)=true)) (h2:BS (dO a b c) (dO d e f) (dG a b c) (dH a b c) (dG d e f) (dH d e f)=false) (h3:(aV c f==0)=true):
 oU a b c d e f=cm (a-d) (b-e) c:=by unfold oU;rw[if_neg h,h2,if_neg (by decide),if_pos h3]
theorem KQ (h: ¬((aV b 0==0)=true∧(aV e 0==0)=true)) (h2:BS (dO a b c) (dO d e f) (dG a b c) (dH a b c) (dG d e f) (dH d e f)=false) (h3:(aV c f==0)=false):
 oU a b c d e f=wG (a-d) b (-e) 0 c f:=by unfold oU;rw[if_neg h,h2,if_neg (by decide),h3,if_neg (by decide)]
theorem Q1 {b c:Bool}(h:b=false): ¬(b=true∧c=true):=fun e=>by rw[h] at e;exact absurd e.1 (by decide)
theorem P1 {b c:Bool}(h:c=false): ¬(b=true∧c=true):=fun e=>by rw[h] at e;exact absurd e.2 (by decide)
end
theorem oz {a b:Rat}(ha:Rz 60000 a) (hb:Rz 60000 b):Ok Tryz.prog 225 [dR a,dR b] [dR (a+b)]:=by
 refine Ok.fn Tryz.func225 8 [.cell 4 35] rfl<|aa<|ab<|al 2<|aC (ai bJ rfl) rfl<|ar<|aa<|ab<|al 2<|ah (am rfl (kS (aX ha) (aX hb)))<|ag<|an ?_
 exact aq (a7 aD rfl ae)
theorem yb {A B C D M N:Rat}(hA:Rz 1600 A) (hB:Rz 1600 B) (hC:Rz 1600 C) (hD:Rz 1600 D) (hM:Rz 1600 M) (hN:Rz 1600 N):Ok Tryz.prog 148 [.a ((cR A++cR B++cR C++cR D++cR M++cR N))] [.c (.i .i64 (wG A B C D M N))]:=by
 have z1:=ei (fq C D M) (dm N 0)
 have z2:=ei (fq A B M) (fq (A*A+M*(B*B)-N*(C*C+M*(D*D))) ((A*B-N*(C*D))+(A*B-N*(C*D))) M)
 have kA:Rz 40000 A:=hA.m_
 have kB:Rz 40000 B:=hB.m_
 have kC:Rz 40000 C:=hC.m_
 have kD:Rz 40000 D:=hD.m_
 have kM:Rz 40000 M:=hM.m_
 have kN:Rz 40000 N:=hN.m_
 refine Ok.fn Tryz.func148 127 [.tmp 2] rfl<|aa<|ab<|ag<|aa<|aa<|ab<|al 1<|ah (aF (cR M) aD rfl)<|ah (am rfl (dh))<|al 1 ?_
 refine cg (bN rfl) (fun c1 hb1=>?_)
 cases c1
 ·have n1:=xK hb1
  refine al 1<|ah (aF (cR N) aD rfl)<|ah (am rfl (dh))<|ag ?_
  refine aw rfl (fun hc2=>?_) (fun hc2=>?_)
  ·refine aa<|ab<|ag<|an ?_
   rw[LS (.inr (Bx hc2))]
   exact aq (aE ae)
  ·have n2:=xK hc2
   refine ao<|aa<|aa<|ab<|al 1<|ah (am rfl (DC (by assumption) (by assumption) (by assumption) (by assumption) (by assumption) (by assumption) (by assumption) (by assumption)))<|ag<|aa<|ab<|ag ?_
   refine aw rfl (fun hc3=>?_) (fun hc3=>?_)
   ·refine aa<|ab<|ag<|an ?_
    rw[RX n1 n2 hc3]
    exact aq (aE ae)
   ·refine ao<|aa<|aR 20 rfl rfl<|ap 1<|aj (aF (cR A) aD rfl)<|ap 1<|aj (aF (cR B) aD rfl)<|ap 1<|aj (aF (cR M) aD rfl)<|aj (am rfl (mj (aX hA) (aX hB) (aX hM)))<|ap 1<|aj (aF (cR C) aD rfl)<|ap 1<|aj (aF (cR D) aD rfl) ?_
    refine ap 1<|aj (aF (cR M) aD rfl)<|aj (am rfl (mj (aX hC) (aX hD) (aX hM)))<|ap 1<|aj (aF (cR N) aD rfl)<|aj (am rfl (dh))<|aj (aK (r:=(cm C D M)*(aV N 0)) rfl rfl (dg (by omega) (by omega)) rfl) ?_
    refine bk<|az<|ar<|aa<|aJ<|aa<|ab<|al 2 ?_
    refine cg (bN rfl) (fun c4 hb4=>?_)
    cases c4
    ·refine ag ?_
     refine aw rfl (fun hc5=>?_) (fun hc5=>?_)
     ·refine aa<|ab<|ag<|an ?_
      rw[zq n1 n2 hc3,rA hc5]
      exact aq (aE ae)
     ·refine aa<|ab<|ag ?_
      refine aw rfl (fun hc6=>?_) (fun hc6=>?_)
      ·refine aa<|ab<|ag<|an ?_
       rw[zq n1 n2 hc3,rK hc6]
       exact aq (aE ae)
      ·refine ao<|aa<|ab<|ag<|aa<|ab<|ag<|aa<|aR 42 rfl rfl<|ap 3<|aj (aF (cR A) aD rfl)<|ap 1<|aj (aF (cR A) aD rfl)<|aj (am rfl (dd (aX hA) (aX hA))) ?_
       refine ap 2<|aj (aF (cR M) aD rfl)<|ap 2<|aj (aF (cR B) aD rfl)<|ap 1<|aj (aF (cR B) aD rfl)<|aj (am rfl (dd (aX hB) (aX hB)))<|aj (am rfl (dd (aX hM) (aX (Rz.mul hB hB))))<|aj (am rfl (oz (aX (Rz.mul hA hA)) (aX (Rz.mul hM (Rz.mul hB hB)))))<|ap 2<|aj (aF (cR N) aD rfl)<|ap 3<|aj (aF (cR C) aD rfl)<|ap 1 ?_
       refine aj (aF (cR C) aD rfl)<|aj (am rfl (dd (aX hC) (aX hC)))<|ap 2<|aj (aF (cR M) aD rfl)<|ap 2<|aj (aF (cR D) aD rfl)<|ap 1<|aj (aF (cR D) aD rfl)<|aj (am rfl (dd (aX hD) (aX hD)))<|aj (am rfl (dd (aX hM) (aX (Rz.mul hD hD))))<|aj (am rfl (oz (aX (Rz.mul hC hC)) (aX (Rz.mul hM (Rz.mul hD hD)))))<|aj (am rfl (dd (aX hN) (aX (Rz.add (Rz.mul hC hC) (Rz.mul hM (Rz.mul hD hD))))))<|aj (am rfl (fE (aX (Rz.add (Rz.mul hA hA) (Rz.mul hM (Rz.mul hB hB)))) (aX (Rz.mul hN (Rz.add (Rz.mul hC hC) (Rz.mul hM (Rz.mul hD hD)))))))<|ba (ai bJ rfl) rfl ?_
       refine aY<|bl<|ag<|aa<|aR 18 rfl rfl<|ap 2<|aj (aF (cR A) aD rfl)<|ap 1<|aj (aF (cR B) aD rfl)<|aj (am rfl (dd (aX hA) (aX hB)))<|ap 2<|aj (aF (cR N) aD rfl)<|ap 2<|aj (aF (cR C) aD rfl) ?_
       refine ap 1<|aj (aF (cR D) aD rfl)<|aj (am rfl (dd (aX hC) (aX hD)))<|aj (am rfl (dd (aX hN) (aX (Rz.mul hC hD))))<|aj (am rfl (fE (aX (Rz.mul hA hB)) (aX (Rz.mul hN (Rz.mul hC hD)))))<|ba (ai bJ rfl) rfl<|aY<|bl<|ag<|aa<|aR 11 rfl rfl<|ap 5<|aj (am rfl (oz (aX (Rz.sub (Rz.mul hA hB) (Rz.mul hN (Rz.mul hC hD)))) (aX (Rz.sub (Rz.mul hA hB) (Rz.mul hN (Rz.mul hC hD))))))<|ap 1 ?_
       refine aj (aF (cR M) aD rfl)<|aj (am rfl (mj (aX (Rz.sub (Rz.add (Rz.mul hA hA) (Rz.mul hM (Rz.mul hB hB))) (Rz.mul hN (Rz.add (Rz.mul hC hC) (Rz.mul hM (Rz.mul hD hD)))))) (aX (Rz.add (Rz.sub (Rz.mul hA hB) (Rz.mul hN (Rz.mul hC hD))) (Rz.sub (Rz.mul hA hB) (Rz.mul hN (Rz.mul hC hD))))) (aX hM)))<|aj (aK (r:=(cm A B M)*(cm (((A*A)+(M*(B*B)))-(N*((C*C)+(M*(D*D))))) (((A*B)-(N*(C*D)))+((A*B)-(N*(C*D)))) M)) rfl rfl (dg (by omega) (by omega)) rfl) ?_
       refine bk<|az<|ar<|an ?_
       rw[zq n1 n2 hc3,su hc6 hb4 hc5]
       exact aq (aE ae)
    ·refine ag<|bg rfl<|aa<|ab<|ag<|an ?_
     rw[zq n1 n2 hc3,sH hb4]
     exact aq (aE ae)
 ·refine ag<|bg rfl<|aa<|ab<|ag<|an ?_
  rw[LS (.inl (Bx hb1))]
  exact aq (aE ae)
theorem vu {a b c d e f:Rat}(ha:Rz 20000 a) (hb:Rz 1600 b) (hc:Rz 1600 c) (hd:Rz 20000 d) (he:Rz 1600 e) (hf:Rz 1600 f) (h1:Rz 1600 (a-d)):Ok Tryz.prog 76 [.a ((cR a++cR b++cR c)),.a ((cR d++cR e++cR f))] [.c (.i .i64 (oU a b c d e f))]:=by
 have ka:Rz 60000 a:=ha.m_
 have la:Rz 40000 a:=ha.m_
 have kb:Rz 60000 b:=hb.m_
 have lb:Rz 40000 b:=hb.m_
 have kc:Rz 60000 c:=hc.m_
 have lc:Rz 40000 c:=hc.m_
 have kd:Rz 60000 d:=hd.m_
 have ld:Rz 40000 d:=hd.m_
 have ke:Rz 60000 e:=he.m_
 have le:Rz 40000 e:=he.m_
 have kf:Rz 60000 f:=hf.m_
 have lf:Rz 40000 f:=hf.m_
 have m2:Rz 1600 (-e):=he.neg
 have m0:Rz 1600 (0:Rat):=Rz.int (n:=0) (Sz.small (by decide) (by decide) (by decide)) (by decide)
 have w1:Rz 20000 (a-d):=h1.m_
 have w2:Rz 20000 (b-e):=(hb.sub he).m_
 have w3:Rz 20000 c:=hc.m_
 refine Ok.fn Tryz.func76 53 [.tmp 4] rfl<|aa<|ab<|ag<|aa<|aa<|ab<|al 1<|ah (aF (cR b) aD rfl)<|ah (am rfl (dh))<|al 1 ?_
 refine cg (bN rfl) (fun c1 hb1=>?_)
 cases c1
 ·refine ag<|aP rfl<|ao<|aa<|aa<|ab<|al 2<|ah (am rfl (wZ (by assumption) (by assumption) (by assumption) (by assumption) (by assumption) (by assumption)))<|ag<|aa<|ab<|ag ?_
  refine aw rfl (fun hc2=>?_) (fun hc2=>?_)
  ·refine aa<|ab<|ag<|an ?_
   rw[K1 (Q1 hb1) hc2]
   exact aq (aE ae)
  ·refine ao<|aa<|aa<|ab<|al 1<|ah (aF (cR c) aD rfl)<|al 1<|ah (aF (cR f) aD rfl)<|ah (am rfl (kJ (aX hc) (aX hf)))<|ag ?_
   refine aw rfl (fun hc3=>?_) (fun hc3=>?_)
   ·refine aa<|aR 14 rfl rfl<|ap 1<|aj (aF (cR a) aD rfl)<|ap 1<|aj (aF (cR d) aD rfl)<|aj (am rfl (fE (aX ha) (aX hd)))<|ap 1<|aj (aF (cR b) aD rfl)<|ap 1<|aj (aF (cR e) aD rfl)<|aj (am rfl (fE (aX hb) (aX he)))<|ap 1<|aj (aF (cR c) aD rfl) ?_
    refine aj (am rfl (mj w1 w2 w3))<|bk<|az<|ar<|an ?_
    rw[Lv (Q1 hb1) hc2 hc3]
    exact aq (aE ae)
   ·refine ao<|aa<|ab<|al 2<|ah (am rfl (AL (by assumption) (by assumption) (by assumption) (by assumption) (by assumption) (by assumption)))<|ah (am rfl (yb (by assumption) (by assumption) (by assumption) (by assumption) (by assumption) (by assumption)))<|ag<|an ?_
    rw[KQ (Q1 hb1) hc2 hc3]
    exact aq (aE ae)
 ·refine al 1<|ah (aF (cR e) aD rfl)<|ah (am rfl (dh))<|ag ?_
  refine aw rfl (fun hc4=>?_) (fun hc4=>?_)
  ·refine aa<|ab<|al 1<|ah (aF (cR a) aD rfl)<|al 1<|ah (aF (cR d) aD rfl)<|ah (am rfl (kJ (aX ha) (aX hd)))<|ag<|an ?_
   rw[R7 hb1 hc4]
   exact aq (aE ae)
  ·refine ao<|aa<|aa<|ab<|al 2<|ah (am rfl (wZ (by assumption) (by assumption) (by assumption) (by assumption) (by assumption) (by assumption)))<|ag<|aa<|ab<|ag ?_
   refine aw rfl (fun hc5=>?_) (fun hc5=>?_)
   ·refine aa<|ab<|ag<|an ?_
    rw[K1 (P1 hc4) hc5]
    exact aq (aE ae)
   ·refine ao<|aa<|aa<|ab<|al 1<|ah (aF (cR c) aD rfl)<|al 1<|ah (aF (cR f) aD rfl)<|ah (am rfl (kJ (aX hc) (aX hf)))<|ag ?_
    refine aw rfl (fun hc6=>?_) (fun hc6=>?_)
    ·refine aa<|aR 14 rfl rfl<|ap 1<|aj (aF (cR a) aD rfl)<|ap 1<|aj (aF (cR d) aD rfl)<|aj (am rfl (fE (aX ha) (aX hd)))<|ap 1<|aj (aF (cR b) aD rfl)<|ap 1<|aj (aF (cR e) aD rfl)<|aj (am rfl (fE (aX hb) (aX he)))<|ap 1<|aj (aF (cR c) aD rfl) ?_
     refine aj (am rfl (mj w1 w2 w3))<|bk<|az<|ar<|an ?_
     rw[Lv (P1 hc4) hc5 hc6]
     exact aq (aE ae)
    ·refine ao<|aa<|ab<|al 2<|ah (am rfl (AL (by assumption) (by assumption) (by assumption) (by assumption) (by assumption) (by assumption)))<|ah (am rfl (yb (by assumption) (by assumption) (by assumption) (by assumption) (by assumption) (by assumption)))<|ag<|an ?_
     rw[KQ (P1 hc4) hc5 hc6]
     exact aq (aE ae)
theorem CJ {a b c:Rat}(ha:Rz 10000 a) (hb:Rz 10000 b) (hc:Rz 10000 c):Ok Tryz.prog 288 [.a ((cR a++cR b++cR c))] [.a ((cR (a*a+b*b*cc b c c)++cR (rB (a*b+b*a) (cc b c c))++cR (rC (a*b+b*a) (cc b c c))))]:=by
 have hbad: ¬G3 b c b c:=fun h=>h.2.2 rfl
 refine Ok.fn Tryz.func288 12 [.cell 2 49] rfl<|aa<|ab<|al 1<|aC (ai de rfl) rfl<|ar<|aa<|ab<|al 2<|ah (am rfl (xN ha hb hc ha hb hc hbad))<|al 3<|aC (ai de rfl) rfl<|ag<|aa ?_
 refine ab<|ag<|an ?_
 exact aq (a7 dx rfl ae)
def tJ (a1 b1 a2 b2 c p1 q1 p2 q2 r:Rat):Int:=if oU a1 b1 (zc b1 c) p1 q1 (zc q1 r)≠0 then oU a1 b1 (zc b1 c) p1 q1 (zc q1 r) else oU a2 b2 (zc b2 c) p2 q2 (zc q2 r)
theorem M6 {a1 b1 a2 b2 c p1 q1 p2 q2 r:Rat}(h:(oU a1 b1 (zc b1 c) p1 q1 (zc q1 r) !=0)=true):tJ a1 b1 a2 b2 c p1 q1 p2 q2 r=oU a1 b1 (zc b1 c) p1 q1 (zc q1 r):=by unfold tJ;rw[if_pos (by simpa using h)]
theorem N8 {a1 b1 a2 b2 c p1 q1 p2 q2 r:Rat}(h:(oU a1 b1 (zc b1 c) p1 q1 (zc q1 r) !=0)=false):tJ a1 b1 a2 b2 c p1 q1 p2 q2 r=oU a2 b2 (zc b2 c) p2 q2 (zc q2 r):=by unfold tJ;rw[if_neg (by simpa using h)]
def sN (x y:Re):Prop:=0≤bR (y-x)
theorem SG {x y z:Re}(h:sN x y) (g:sN y z):sN x z:=by
 unfold sN at*
 have e:z-x=(z-y)+(y-x):=Re.ext fun k=>by simp only[bp,bt];grind
 rw[e];exact pJ g h
theorem of_le {p q:Rat}(h:p≤q):sN (Re.of p) (Re.of q):=by
 unfold sN
 rw[rb,dN]
 unfold aV
 rw[if_neg (by grind)]
 split<;>omega
theorem nL {x y:Re}(h: ∀k,x.s k=y.s k) (g:0≤bR x):0≤bR y:=by rw[←Re.ext h];exact g
def oL (lo hi:Int) (x:Re):Prop:=sN (Re.of (lo:Rat)) (Re.of 65536*x)∧sN (Re.of 65536*x) (Re.of (hi:Rat))
theorem oR {x y u v:Re}(h:sN x y) (g:sN u v):sN (x+u) (y+v):=by
 unfold sN at*
 exact nL (fun k=>by simp only[bp,bt];grind) (pJ h g)
theorem Pc (y:Rat):((y.num.fdiv (y.den:Int):Int):Rat)≤y:=by
 have hd:=den_pos y
 have h1:=EE y
 have hp:(0:Rat)<((y.den:Int):Rat):=Rat.intCast_pos.2 hd
 refine sy hp ?_
 rw[h1,←Rat.intCast_mul]
 refine Rat.intCast_le_intCast.2 ?_
 rw[Int.fdiv_eq_ediv_of_nonneg _ (by omega),Int.mul_comm]
 have:=Int.mul_ediv_add_emod y.num (y.den:Int)
 have:=Int.emod_nonneg y.num (show(y.den:Int)≠0 by omega)
 omega
theorem B9 (a:Rat):oL (io a) (gS a) (Re.of a):=by
 have h1:=Pc (a*((65536:Int):Rat))
 have h2:=Pc (-(a*((65536:Int):Rat)))
 have e:((65536:Int):Rat)=65536:=rfl
 rw[e] at h1 h2
 refine⟨?_,?_⟩
 ·rw[j9]
  refine of_le ?_
  unfold io
  rw[e]
  grind
 ·rw[j9]
  refine of_le ?_
  unfold gS
  rw[e,Rat.intCast_neg]
  grind
theorem xm {a:Rat}(h:gh a=true):oL (gL a) (gH a) (Re.of a):=by
 unfold gL gH;rw[h,if_pos rfl,if_pos rfl];exact B9 a
theorem Cz {p q:Re}(_hp:0≤bR p) (hq:0≤bR q) (h:0≤bR (q*q-p*p)):sN p q:=by
 unfold sN
 rcases cF (q-p) with a|a|a
 ·omega
 ·omega
 ·exfalso
  have h1:0<bR (p-q):=by
   have e:p-q= -(q-p):=Re.ext fun k=>by simp only[bp,bT];grind
   rw[e,dz,a];decide
  have h2:0<bR (p+q):=by
   have e:p+q=(p-q)+(q+q):=Re.ext fun k=>by simp only[bp,bt];grind
   rw[e];exact wy h1 (pJ hq hq)
  have h3:bR ((q-p)*(p+q))=bR (q*q-p*p):=congrArg bR (Re.ext fun k=>by simp only[bp,bt,bK];grind)
  rw[cj,a] at h3
  omega
theorem Fd {n:Int}(h:0≤n):0≤bR (Re.of (n:Rat)):=by
 have:=of_le (Rat.intCast_nonneg.2 h)
 unfold sN at this
 refine nL (fun k=>?_) this
 simp only[bp,cJ];grind
theorem sM {p q:Rat}(h:sN (Re.of p) (Re.of q)):p≤q:=by
 unfold sN at h
 rw[rb,dN] at h
 unfold aV at h
 apply Classical.byContradiction
 intro hn
 rw[if_pos (by grind)] at h
 omega
theorem FH (m:Rat):0≤bR (Re.of 65536*Re.rt m):=by
 have h1:=ED m
 have h2:bR (Re.of 65536)=1:=by rw[dN];decide+kernel
 rw[cj,h2];omega
theorem FA {m:Rat}(h:0≤m) (q:Rat):bR (Re.of 65536*Re.rt m*(Re.of 65536*Re.rt m)-Re.of q)=aV (65536*65536*m) q:=by
 rw[←mw,←dN]
 refine my ?_
 have e:Re.of 65536*Re.rt m*(Re.of 65536*Re.rt m)-Re.of q-Re.of (65536*65536*m-q)=Re.of (65536*65536)*(Re.rt m*Re.rt m-Re.of m):=Re.ext fun k=>by
  simp only[bp,bK,cJ];grind
 rw[e,cj,ry h,Int.mul_zero]
theorem Li {x y:Rat}(h:y≤x):0≤aV x y:=by unfold aV;rw[if_neg (by grind)];split<;>omega
theorem KB {x y:Rat}(h:x≤y):aV x y≤0:=by
 unfold aV
 split
 ·omega
 ·rw[if_neg (by grind)];omega
theorem Le {m:Rat}(hm:0≤m) {lo hi:Int}(h:oL lo hi (Re.of m)):oL (mo lo) (je hi) (Re.rt m):=by
 obtain⟨h1,h2⟩:=h
 rw[j9] at h1 h2
 have g1:=sM h1
 have g2:=sM h2
 have hq:(0:Rat)≤65536*m:=Rat.mul_nonneg (by decide) hm
 refine⟨?_,?_⟩
 ·refine Cz (Fd (ep _)) (FH m) ?_
  rw[j9,FA hm]
  refine Li ?_
  have h3:=oe (x:=max lo 0*65536) (by omega)
  have h4:((bP (max lo 0*65536)*bP (max lo 0*65536):Int):Rat)≤((max lo 0*65536:Int):Rat):=Rat.intCast_le_intCast.2 h3
  rw[Rat.intCast_mul,Rat.intCast_mul] at h4
  have e65:((65536:Int):Rat)=65536:=rfl
  have h5:((max lo 0:Int):Rat)≤65536*m:=by
   by_cases hl:0≤lo
   ·rw[show max lo 0=lo from by omega];exact g1
   ·rw[show max lo 0=0 from by omega];simpa using hq
  rw[e65] at h4
  unfold mo
  grind
 ·refine Cz (FH m) (Fd ?_) ?_
  ·unfold je;have:=ep (hi*65536);split<;>omega
  have h3:0≤ -bR (Re.of 65536*Re.rt m*(Re.of 65536*Re.rt m)-Re.of (((je hi:Int):Rat)*((je hi:Int):Rat))):=by
   rw[FA hm]
   have hh:(0:Int)≤hi:=by
    have:(0:Rat)≤(hi:Rat):=by grind
    exact Rat.intCast_nonneg.1 this
   have h4:hi*65536≤je hi*je hi:=by
    unfold je
    split
    ·rename_i hs
     unfold xe at hs
     have:=beq_iff_eq.1 hs
     omega
    ·have:=ug (x:=hi*65536) (by omega)
     omega
   have h5:((hi*65536:Int):Rat)≤((je hi*je hi:Int):Rat):=Rat.intCast_le_intCast.2 h4
   rw[Rat.intCast_mul,Rat.intCast_mul] at h5
   have e65:((65536:Int):Rat)=65536:=rfl
   rw[e65] at h5
   have:=KB (x:=65536*65536*m) (y:=((je hi:Int):Rat)*((je hi:Int):Rat)) (by grind)
   omega
  rw[←dz] at h3
  refine nL (fun k=>?_) h3
  simp only[bT,bp,bK,cJ];grind
theorem Ed {k u v U L:Re}(h1:0≤bR (k*u-L)) (h2:0≤bR (k*v-L)) (g1:sN u U) (g2:sN U v):0≤bR (k*U-L):=by
 unfold sN at*
 have e:(v-u)*(k*U-L)=(v-U)*(k*u-L)+(U-u)*(k*v-L):=Re.ext fun j=>by simp only[bp,bK,bt];grind
 have hr:0≤bR ((v-U)*(k*u-L)+(U-u)*(k*v-L)):=by
  refine pJ ?_ ?_
  ·rw[cj];exact Int.mul_nonneg g2 h1
  ·rw[cj];exact Int.mul_nonneg g1 h2
 rw[←e,cj] at hr
 have e2:bR (v-u)=bR ((v-U)+(U-u)):=congrArg bR (Re.ext fun j=>by simp only[bp,bt];grind)
 rcases cF (v-u) with a|a|a
 ·rw[a] at hr;omega
 ·rcases cF (U-u) with b|b|b
  ·have:=wy (x:=U-u) (y:=v-U) (by omega) g2
   rw[Fo] at this
   omega
  ·have e3:k*U-L=(k*u-L)+k*(U-u):=Re.ext fun j=>by simp only[bp,bt,bK];grind
   rw[e3,dy _ (by rw[cj,b,Int.mul_zero])]
   exact h1
  ·omega
 ·have:=pJ g2 g1
  omega
theorem JZ {x y u v X U L:Re}(h1:0≤bR (x*u-L)) (h2:0≤bR (x*v-L)) (h3:0≤bR (y*u-L)) (h4:0≤bR (y*v-L)) (g1:sN x X) (g2:sN X y) (g3:sN u U) (g4:sN U v):0≤bR (X*U-L):=by
 have a:=Ed h1 h2 g3 g4
 have b:=Ed h3 h4 g3 g4
 rw[qf x U] at a
 rw[qf y U] at b
 have:=Ed a b g1 g2
 rw[qf U X] at this
 exact this
theorem OX (a b:Int):jK a b*65536≤a*b∧a*b≤jJ a b*65536:=by
 have e:a*b=if (!(decide (a<0)==decide (b<0)))=true then-HI a b else HI a b:=by
  unfold HI
  by_cases ha:a<0<;>by_cases hb:b<0
  ·have h1:(a.natAbs:Int)= -a:=by omega
   have h2:(b.natAbs:Int)= -b:=by omega
   simp[ha,hb,h1,h2];try grind
  ·have h1:(a.natAbs:Int)= -a:=by omega
   have h2:(b.natAbs:Int)=b:=by omega
   simp[ha,hb,h1,h2];try grind
  ·have h1:(a.natAbs:Int)=a:=by omega
   have h2:(b.natAbs:Int)= -b:=by omega
   simp[ha,hb,h1,h2];try grind
  ·have h1:(a.natAbs:Int)=a:=by omega
   have h2:(b.natAbs:Int)=b:=by omega
   simp[ha,hb,h1,h2]
 rw[e]
 unfold jK jJ
 generalize HI a b=p
 have hu:p≤wP p*65536:=by unfold wP;split<;>omega
 generalize wP p=u at*
 by_cases hc:(!(decide (a<0)==decide (b<0)))=true
 ·rw[if_pos hc,if_pos hc,if_pos hc];omega
 ·rw[if_neg hc,if_neg hc,if_neg hc];omega
theorem KD {x y u v:Int}{X U:Re}(h:oL x y X) (g:oL u v U):oL (wm x y u v 4) (t9 x y u v 4) (X*U):=by
 have lo: ∀a b:Int,wm x y u v 4≤jK a b→0≤bR (Re.of (a:Rat)*Re.of (b:Rat)-Re.of ((wm x y u v 4*65536:Int):Rat)):=by
  intro a b hl
  rw[j9]
  refine of_le ?_
  rw[←Rat.intCast_mul]
  exact Rat.intCast_le_intCast.2 (by have:=(OX a b).1;omega)
 have hi: ∀a b:Int,jJ a b≤t9 x y u v 4→0≤bR (-Re.of (a:Rat)*Re.of (b:Rat)-Re.of (-((t9 x y u v 4*65536:Int):Rat))):=by
  intro a b hl
  rw[Lg,j9]
  refine of_le ?_
  have h1:((a*b:Int):Rat)≤((t9 x y u v 4*65536:Int):Rat):=Rat.intCast_le_intCast.2 (by have:=(OX a b).2;omega)
  rw[Rat.intCast_mul] at h1
  grind
 have hlo:wm x y u v 4=min (min (min (min 2305843009213693952 (jK x u)) (jK x v)) (jK y u)) (jK y v):=rfl
 have hhi:t9 x y u v 4=max (max (max (max (-2305843009213693952) (jJ x u)) (jJ x v)) (jJ y u)) (jJ y v):=rfl
 have e65:((65536:Int):Rat)=65536:=rfl
 have p65:bR (Re.of 65536)=1:=by rw[dN];decide+kernel
 refine⟨?_,?_⟩
 ·have hb:=JZ (lo x u (by omega)) (lo x v (by omega)) (lo y u (by omega)) (lo y v (by omega)) h.1 h.2 g.1 g.2
  have e:bR (Re.of 65536*(Re.of 65536*(X*U)-Re.of ((wm x y u v 4:Int):Rat)))=bR (Re.of 65536*X*(Re.of 65536*U)-Re.of ((wm x y u v 4*65536:Int):Rat)):=congrArg bR (Re.ext fun k=>by
   simp only[bp,bK,cJ,Rat.intCast_mul,e65];grind)
  rw[←e,cj,p65,Int.one_mul] at hb
  exact hb
 ·have n1:sN (-Re.of (y:Rat)) (-(Re.of 65536*X)):=nL (fun k=>by simp only[bp,bT];grind) h.2
  have n2:sN (-(Re.of 65536*X)) (-Re.of (x:Rat)):=nL (fun k=>by simp only[bp,bT];grind) h.1
  have hb:=JZ (hi y u (by omega)) (hi y v (by omega)) (hi x u (by omega)) (hi x v (by omega)) n1 n2 g.1 g.2
  have e:bR (Re.of 65536*(Re.of ((t9 x y u v 4:Int):Rat)-Re.of 65536*(X*U)))=bR (-(Re.of 65536*X)*(Re.of 65536*U)-Re.of (-((t9 x y u v 4*65536:Int):Rat))):=congrArg bR (Re.ext fun k=>by
   simp only[bp,bK,cJ,bT,Rat.intCast_mul,e65];grind)
  rw[←e,cj,p65,Int.one_mul] at hb
  exact hb
theorem Ei {x y u v:Int}{X U:Re}(h:oL x y X) (g:oL u v U) (hk:rF x y u v 4=true):oL (pL x y u v) (pH x y u v) (X*U):=by
 unfold pL pH;rw[hk,if_pos rfl,if_pos rfl];exact KD h g
theorem Kq {x y u v:Int}{X U:Re}(h:oL x y X) (g:oL u v U):oL (x+u) (y+v) (X+U):=by
 have a:=oR h.1 g.1
 have b:=oR h.2 g.2
 refine⟨nL (fun k=>?_) a,nL (fun k=>?_) b⟩
 ·simp only[bp,bt,bK,cJ,Rat.intCast_add];grind
 ·simp only[bp,bt,bK,cJ,Rat.intCast_add];grind
theorem CL {x y u v:Int}{X U:Re}(h:oL x y X) (g:oL u v U) (hk:pu (x+u) (y+v)=true):oL (aL x y u v) (aH x y u v) (X+U):=by
 unfold aL aH;rw[hk,if_pos rfl,if_pos rfl];exact Kq h g
theorem N4 (X:Re):bR (Re.of 65536*X)=bR X:=by
 have p65:bR (Re.of 65536)=1:=by rw[dN];decide+kernel
 rw[cj,p65,Int.one_mul]
theorem CF {n:Int}(h:0<n):0<bR (Re.of (n:Rat)):=by
 rw[dN]
 have h1:(0:Rat)<(n:Rat):=Rat.intCast_pos.2 h
 unfold aV
 rw[if_neg (by grind),if_pos h1];decide
theorem PG {lo hi:Int}{X:Re}(h:oL lo hi X) (hl:0<lo):bR X=1:=by
 have h1:=wy (CF hl) h.1
 have e:bR (Re.of (lo:Rat)+(Re.of 65536*X-Re.of (lo:Rat)))=bR (Re.of 65536*X):=congrArg bR (Re.ext fun k=>by simp only[bp,bt];grind)
 rw[e,N4] at h1
 have:=cF X
 omega
theorem OO {lo hi:Int}{X:Re}(h:oL lo hi X) (hl:hi<0):bR X= -1:=by
 have h0:0<bR (-Re.of (hi:Rat)):=by
  rw[Lg,←Rat.intCast_neg];exact CF (by omega)
 have h1:=wy h0 h.2
 have e:bR (-Re.of (hi:Rat)+(Re.of (hi:Rat)-Re.of 65536*X))=bR (-(Re.of 65536*X)):=congrArg bR (Re.ext fun k=>by simp only[bp,bt,bT];grind)
 rw[e,dz,N4] at h1
 have:=cF X
 omega
theorem NQ {X:Re}(h:oL 0 0 X):bR X=0:=by
 have h1:=h.1
 have h2:=h.2
 unfold sN at h1 h2
 have e1:bR (Re.of 65536*X-Re.of ((0:Int):Rat))=bR (Re.of 65536*X):=congrArg bR (Re.ext fun k=>by simp only[bp,cJ];grind)
 have e2:bR (Re.of ((0:Int):Rat)-Re.of 65536*X)=bR (-(Re.of 65536*X)):=congrArg bR (Re.ext fun k=>by simp only[bp,cJ,bT];grind)
 rw[e1,N4] at h1
 rw[e2,dz,N4] at h2
 omega
theorem Af {lo hi:Int}{X:Re}(h:oL lo hi X) (hs:Dz lo hi=true):Dr lo hi=bR X:=by
 unfold Dz at hs
 simp only[Bool.or_eq_true,decide_eq_true_eq,Bool.and_eq_true,beq_iff_eq] at hs
 unfold Dr
 by_cases h1:lo>0
 ·rw[if_pos h1,PG h h1]
 ·rw[if_neg h1]
  by_cases h2:hi<0
  ·rw[if_pos h2,OO h h2]
  ·rw[if_neg h2]
   rcases hs with hs|hs|⟨hs,hs'⟩
   ·omega
   ·omega
   ·subst hs hs'
    exact(NQ h).symm
theorem ML {A B C D M N:Rat}(hM:0≤M) (hN:0≤N) (h:L8 A B C D M N=true):PK A B C D M N=bR (Eb A B C D M N):=by
 unfold L8 at h
 rw[Bool.and_eq_true] at h
 obtain⟨h3,hs⟩:=h
 rw[(DS h3).1]
 unfold F3 P4 P3 at h3
 simp only[Bool.and_eq_true] at h3
 obtain⟨⟨⟨k1,k2⟩,k3,k4,k5,k6,k7,k8,k9⟩,k10,k11,k12,k13⟩:=h3
 have im:=Le hM (xm k1)
 have in_:=Le hN (xm k2)
 have ib:oL (Pe B M) (Pn B M) _:=Ei (xm k3) im k4
 have ic:oL (Pe C N) (Pn C N) _:=Ei (xm k5) in_ k6
 have imn:oL (NB M N) (Or M N) _:=Ei im in_ k8
 have id':oL (UK D M N) (UM D M N) _:=Ei (xm k7) imn k9
 have iab:oL (M9 A B M) (Mi A B M) _:=CL (xm k10) ib k11
 have icd:oL (MR C D M N) (N9 C D M N) _:=CL ic id' k12
 have is':oL (Uy A B C D M N) (UF A B C D M N) _:=CL iab icd k13
 rw[Af is' hs]
 refine congrArg bR (Re.ext fun k=>?_)
 unfold Eb dX
 simp only[bt,bK,cJ];grind
theorem N0 {A B C D M N:Rat}(hM:0≤M) (hN:0≤N):wG A B C D M N=bR (Eb A B C D M N):=by
 unfold wG
 rw[if_neg (by rintro(h|h)<;>grind)]
 split
 ·rename_i h;exact ML hM hN h
 ·exact CO hM hN
theorem Bj {a b c:Rat}(h:dO a b c=true):oL (dG a b c) (dH a b c) (dX a b c):=by
 have h0:=h
 unfold dO at h
 rw[Bool.and_eq_true] at h
 obtain⟨h1,h2⟩:=h
 cases hb:(aV b 0==0) with
 |true=>
  obtain⟨e1,e2,_⟩:=T4 (c:=c) h1 hb
  rw[e1,e2]
  have hb0:b=0:=mC hb
  subst hb0
  have:=B9 a
  have e:dX a 0 c=Re.of a:=Re.ext fun k=>by unfold dX;simp only[bt,bK,cJ];grind
  rw[e];exact this
 |false=>
  rw[hb,Bool.false_or] at h2
  unfold Na at h2
  simp only[Bool.and_eq_true,Bool.not_eq_true'] at h2
  obtain⟨g1,g2,g3,g4,g5⟩:=h2
  have hc:0≤c:=Rat.not_lt.1 (xK g3)
  obtain⟨e1,e2,_⟩:=TI h1 hb g1 g2 g3 g4
  have ir:=Le hc (B9 c)
  have im:=KD (B9 b) ir
  have:=Kq (B9 a) im
  unfold dG dH
  rw[h0,if_pos rfl,if_pos rfl,hb,if_neg (by decide),if_neg (by decide)]
  exact this
theorem Ni {a b c d e f:Rat}(h:BS (dO a b c) (dO d e f) (dG a b c) (dH a b c) (dG d e f) (dH d e f)=true):
 DT (dO a b c) (dO d e f) (dG a b c) (dH a b c) (dG d e f) (dH d e f)=bR (dX a b c-dX d e f):=by
 unfold BS at h
 simp only[Bool.and_eq_true,Bool.or_eq_true,decide_eq_true_eq] at h
 obtain⟨⟨k1,k2⟩,hs⟩:=h
 have i1:=Bj k1
 have i2:=Bj k2
 have i3:oL (dG a b c-dH d e f) (dH a b c-dG d e f) (dX a b c-dX d e f):=by
  have n:=oR i1.1 (nL (y:= -(Re.of 65536*dX d e f)- -Re.of ((dH d e f:Int):Rat)) (fun k=>by simp only[bp,bT];grind) i2.2)
  have m:=oR i1.2 (nL (y:= -Re.of ((dG d e f:Int):Rat)- -(Re.of 65536*dX d e f)) (fun k=>by simp only[bp,bT];grind) i2.1)
  refine⟨nL (fun k=>?_) n,nL (fun k=>?_) m⟩
  ·simp only[bp,bt,bK,cJ,bT,Rat.intCast_sub];grind
  ·simp only[bp,bt,bK,cJ,bT,Rat.intCast_sub];grind
 unfold DT
 rw[k1,k2,Bool.and_self,if_pos rfl]
 by_cases h1:dH a b c<dG d e f
 ·rw[if_pos (decide_eq_true h1),OO i3 (by omega)]
 ·rw[if_neg (by simpa using h1)]
  rcases hs with hs|hs
  ·omega
  ·rw[if_pos (decide_eq_true hs),PG i3 (by omega)]
theorem E7 {a b c d e f:Rat}(hc:0≤c) (hf:0≤f):oU a b c d e f=bR (dX a b c-dX d e f):=by
 unfold oU
 split
 ·rename_i h
  have hb:b=0:=mC h.1
  have he:e=0:=mC h.2
  subst hb he
  rw[←mw,←dN]
  refine congrArg bR (Re.ext fun k=>?_)
  unfold dX;simp only[bp,bt,bK,cJ];grind
 ·split
  ·rename_i h;exact Ni h
  ·split
   ·rename_i h
    have e1:c=f:=lP.1 (by simpa using h)
    subst e1
    rw[fK hc]
    refine congrArg bR (Re.ext fun k=>?_)
    unfold dX;simp only[bp,bt,bK,cJ];grind
   ·rw[N0 hc hf]
    refine congrArg bR (Re.ext fun k=>?_)
    unfold Eb dX;simp only[bp,bt,bK,cJ];grind
theorem qM {a1 b1 a2 b2 c p1 q1 p2 q2 r:Rat}(ha1:Rz 20000 a1) (hb1:Rz 1600 b1) (ha2:Rz 20000 a2) (hb2:Rz 1600 b2) (hc:Rz 1600 c) (hp1:Rz 20000 p1) (hq1:Rz 1600 q1) (hp2:Rz 20000 p2) (hq2:Rz 1600 q2) (hr:Rz 1600 r) (s1:Rz 1600 (a1-p1)) (s2:Rz 1600 (a2-p2)):Ok Tryz.prog 92 [.a ((cR a1++cR b1++cR a2++cR b2++cR c)),.a ((cR p1++cR q1++cR p2++cR q2++cR r))] [.c (.i .i64 (tJ a1 b1 a2 b2 c p1 q1 p2 q2 r))]:=by
 have kb1:Rz 1600 (zc b1 c):=Rz.zc hc (by decide)
 have kb2:Rz 1600 (zc b2 c):=Rz.zc hc (by decide)
 have kq1:Rz 1600 (zc q1 r):=Rz.zc hr (by decide)
 have kq2:Rz 1600 (zc q2 r):=Rz.zc hr (by decide)
 refine Ok.fn Tryz.func92 19 [.tmp 4] rfl<|aa<|ab<|ag<|aa<|aa<|aR 6 rfl rfl<|ap 1<|aj (am rfl (jw))<|ap 1<|aj (am rfl (jw))<|aj (am rfl (vu (by assumption) (by assumption) (by assumption) (by assumption) (by assumption) (by assumption) (by assumption)))<|bk<|az ?_
 refine ar<|aa<|ab<|ag ?_
 refine aw rfl (fun hc1=>?_) (fun hc1=>?_)
 ·refine aa<|ab<|ag<|an ?_
  rw[M6 hc1]
  exact aq (aE ae)
 ·refine ao<|aa<|aR 6 rfl rfl<|ap 1<|aj (am rfl (nw))<|ap 1<|aj (am rfl (nw))<|aj (am rfl (vu (by assumption) (by assumption) (by assumption) (by assumption) (by assumption) (by assumption) (by assumption)))<|bk<|az<|ar<|an ?_
  rw[N8 hc1]
  exact aq (aE ae)
theorem Cx {a1 b1 a2 b2 c p1 q1 p2 q2 r:Rat}(ha1:Rz 20000 a1) (hb1:Rz 1600 b1) (ha2:Rz 20000 a2) (hb2:Rz 1600 b2) (hc:Rz 1600 c) (hp1:Rz 20000 p1) (hq1:Rz 1600 q1) (hp2:Rz 20000 p2) (hq2:Rz 1600 q2) (hr:Rz 1600 r) (s1:Rz 1600 (a1-p1)) (s2:Rz 1600 (a2-p2)):Ok Tryz.prog 86 [.a ((cR a1++cR b1++cR a2++cR b2++cR c)),.a ((cR p1++cR q1++cR p2++cR q2++cR r))] [.c (.b (tJ a1 b1 a2 b2 c p1 q1 p2 q2 r==0))]:=by
 refine Ok.fn Tryz.func86 9 [.tmp 4] rfl<|aa<|ab<|ag<|aa<|ab<|al 2<|ah (am rfl (qM (by assumption) (by assumption) (by assumption) (by assumption) (by assumption) (by assumption) (by assumption) (by assumption) (by assumption) (by assumption) (by assumption) (by assumption)))<|ag<|an ?_
 exact aq (aE ae)
theorem sB {x:Int}(h:0<x):0<bP x:=by
 have h1:=ug (x:=x) (by omega)
 have h2:=ep x
 by_cases e:bP x=0
 ·rw[e] at h1;omega
 ·omega
theorem Rz.rt {k:Nat}{c:Rat}(h:Rz k c):Rz k (rt c):=Rz.of h.n.isq h.d.isq (by have:=sB (den_pos c);omega)
theorem wC {c:Rat}(h:go c=true):cQ (if go c then bP c.num else 0) (if go c then bP (c.den:Int) else 0)=cR (rt c):=by
 have:=NU h
 unfold dQ dR at this
 injection this
def zR:List CellD:=[.b false,.s 0 [],.b false,.s 0 [],.b false,.s 0 [],.b false,.s 0 [],.b false,.s 0 [],.b false,.s 0 []]
theorem ol {a b c:Rat}(ha:Rz 10000 a) (hb:Rz 10000 b) (hc:Rz 10000 c) (h0: ¬c<0) (hs:go c=true):Ok Tryz.prog 64 [dR a,dR b,dR c] [.a ((cR (a+b*rt c)++cR 0++cR 0)),.c (.i .i64 0)]:=by
 have ka:Rz 60000 a:=ha.m_
 have kb:Rz 60000 b:=hb.m_
 have kc:Rz 60000 c:=hc.m_
 have kt:Rz 10000 (rt c):=hc.rt
 refine Ok.fn Tryz.func64 30 [.cell 6 49,.tmp 7] rfl<|aa<|ab<|al 3<|aC (ai de rfl) rfl<|ag<|aa<|aa<|ab<|al 1<|ah (am rfl (db))<|ag ?_
 refine aw rfl (fun hc1=>?_) (fun hc1=>?_)
 ·exact absurd (Bx hc1) h0
 ·refine ao<|aa<|aa<|ab<|al 1<|ah (am rfl (nJ (aX hc)))<|al 3<|aC (ai bJ rfl) rfl<|ag<|aa<|ab<|ag ?_
  refine aw rfl (fun hc2=>?_) (fun hc2=>?_)
  ·refine Dw.weak (σ':=⟨30,[(3,.p 3 0),(4,.p 4 0),(6,.p 6 0),(8,.p 8 0)],[(3,35,cR a),(4,35,cR b),(6,49,zR),(8,35,cR (rt c))]⟩) (aM ⟨rfl,rfl,rfl,rfl,trivial⟩ ⟨rfl,rfl,rfl,by rw[←wC hs];rfl,trivial⟩ rfl) ?_
   refine aa<|aR 6 rfl rfl<|ap 3<|aj (am rfl (cW (aX hb) (Sn)))<|aj (am rfl (gj (aX ha) (aX (Rz.mul hb (by assumption)))))<|aj (am rfl (dP))<|aY<|az<|ag<|an ?_
   exact aq (a7 dx rfl (aE ae))
  ·exact absurd hs (by rw[hc2];decide)
theorem oN {a b c:Rat}(ha:Rz 10000 a) (hb:Rz 10000 b) (hc:Rz 10000 c) (h0: ¬c<0) (hs:go c=false):Ok Tryz.prog 64 [dR a,dR b,dR c] [.a ((cR a++cR (rB b c)++cR (rC b c))),.c (.i .i64 0)]:=by
 have ka:Rz 60000 a:=ha.m_
 have kb:Rz 60000 b:=hb.m_
 have kc:Rz 60000 c:=hc.m_
 have kt:Rz 10000 (rt c):=hc.rt
 refine Ok.fn Tryz.func64 30 [.cell 6 49,.tmp 7] rfl<|aa<|ab<|al 3<|aC (ai de rfl) rfl<|ag<|aa<|aa<|ab<|al 1<|ah (am rfl (db))<|ag ?_
 refine aw rfl (fun hc1=>?_) (fun hc1=>?_)
 ·exact absurd (Bx hc1) h0
 ·refine ao<|aa<|aa<|ab<|al 1<|ah (am rfl (nJ (aX hc)))<|al 3<|aC (ai bJ rfl) rfl<|ag<|aa<|ab<|ag ?_
  refine aw rfl (fun hc2=>?_) (fun hc2=>?_)
  ·exact absurd hc2 (by rw[hs];decide)
  ·refine ao<|aa<|ab<|al 3<|ah (am rfl (lF))<|ag<|an ?_
   exact aq (a7 dx rfl (aE ae))
theorem xX {a1 b1 c1 a2 b2 c2:Rat}(hc1:Rz 300 c1) (hc2:Rz 300 c2) (hbad: ¬G3 b1 c1 b2 c2):Ok Tryz.prog 245 [.a ((cR a1++cR b1++cR c1)),.a ((cR a2++cR b2++cR c2))] [.a ((cR a1++cR b1++cR a2++cR b2++cR (zcp b1 b2 (cc b1 c1 c2)))),.c (.i .i64 0)]:=by
 refine Ok.fn Tryz.func245 39 [.cell 4 46,.tmp 5] rfl<|aa<|ab<|al 2<|aC (ai fO rfl) rfl<|ag<|aa<|ab<|al 1<|ah (aF (cR c1) aD rfl)<|aC (ai bJ rfl) rfl<|ag<|aa<|aa ?_
 refine ab<|al 1<|ah (aF (cR b1) aD rfl)<|ah (am rfl (ml))<|ag ?_
 refine aw rfl (fun hc1=>?_) (fun hc1=>?_)
 ·--region 3
  refine ab<|al 1<|ah (aF (cR c2) aD rfl)<|ag<|aa<|ab<|al 1<|ah (aF (cR a1) aD rfl)<|al 1<|ah (aF (cR b1) aD rfl)<|al 1<|ah (aF (cR a2) aD rfl)<|al 1<|ah (aF (cR b2) aD rfl) ?_
  refine al 1<|ah (aN (us:=(cR a1++cR b1++cR a2++cR b2++cR c2)) zp fO rfl rfl rfl) ?_
  refine ah (am rfl (oh))<|ag<|an ?_
  rw[tk (mC hc1)]
  exact aq (a7 bo rfl (aE ae))
 ·refine aa<|ab<|al 1<|ah (aF (cR b2) aD rfl)<|ah (am rfl (ml))<|al 1 ?_
  refine cg (bN rfl) (fun c2 hb2=>?_)
  cases c2
  ·refine ag<|aP rfl<|ao<|aa<|ab<|al 1<|ah (aF (cR a1) aD rfl)<|al 1<|ah (aF (cR b1) aD rfl)<|al 1<|ah (aF (cR a2) aD rfl)<|al 1<|ah (aF (cR b2) aD rfl)<|al 1 ?_
   refine ah (aN (us:=(cR a1++cR b1++cR a2++cR b2++cR c1)) zp fO rfl rfl rfl) ?_
   refine ah (am rfl (oh))<|ag<|an ?_
   rw[oS (jT hc1)]
   exact aq (a7 bo rfl (aE ae))
  ·refine al 1<|ah (aF (cR c1) aD rfl)<|al 1<|ah (aF (cR c2) aD rfl) ?_
   refine ah (am rfl (NH (by first|assumption|exact Rz.mono hc1 (by decide)) (by first|assumption|exact Rz.mono hc2 (by decide)))) ?_
   refine ag ?_
   refine aw rfl (fun hc3=>?_) (fun hc3=>?_)
   ·exact absurd ⟨jT hc1,AT hb2,AT hc3⟩ hbad
   ·refine ao<|aa<|ab<|al 1<|ah (aF (cR a1) aD rfl)<|al 1<|ah (aF (cR b1) aD rfl)<|al 1<|ah (aF (cR a2) aD rfl)<|al 1<|ah (aF (cR b2) aD rfl)<|al 1<|ah (aN (us:=(cR a1++cR b1++cR a2++cR b2++cR c1)) zp fO rfl rfl rfl) ?_
    refine ah (am rfl (oh))<|ag<|an ?_
    rw[oS (jT hc1)]
    exact aq (a7 bo rfl (aE ae))
theorem tx {a1 b1 c1 a2 b2 c2:Rat}(hc1:Rz 300 c1) (hc2:Rz 300 c2) (hbad: ¬G3 b1 c1 b2 c2):Ok Tryz.prog 16 [.a ((cR a1++cR b1++cR c1)),.a ((cR a2++cR b2++cR c2))] [.a ((cR a1++cR b1++cR a2++cR b2++cR (zcp b1 b2 (cc b1 c1 c2)))),.c (.i .i64 0)]:=by
 refine Ok.fn Tryz.func16 44 [.cell 4 46,.tmp 5] rfl<|aa<|ab<|al 2<|aC (ai fO rfl) rfl<|ag<|aa<|aa<|ab<|al 1<|ah (aF (cR b1) aD rfl)<|ah (am rfl (fl))<|al 1 ?_
 refine cg (bN rfl) (fun c1 hb1=>?_)
 cases c1
 ·refine ag<|aP rfl<|ao<|aa<|ab<|al 1<|ah (aF (cR c1) aD rfl)<|aC (ai bJ rfl) rfl<|ag<|aa<|aa<|ab<|al 1<|ah (aF (cR b1) aD rfl) ?_
  refine ah (am rfl (fl))<|ag ?_
  refine aw rfl (fun hc2=>?_) (fun hc2=>?_)
  ·--region 5
   refine ab<|al 1<|ah (aF (cR c2) aD rfl)<|ag<|aa<|ab<|al 1<|ah (aF (cR a1) aD rfl)<|al 1<|ah (aF (cR b1) aD rfl)<|al 1<|ah (aF (cR a2) aD rfl)<|al 1<|ah (aF (cR b2) aD rfl) ?_
   refine al 1<|ah (am rfl (iS))<|ag<|an ?_
   rw[tk (mC hc2)]
   exact aq (a7 bo rfl (aE ae))
  ·refine ao<|aa<|ab<|al 1<|ah (aF (cR a1) aD rfl)<|al 1<|ah (aF (cR b1) aD rfl)<|al 1<|ah (aF (cR a2) aD rfl)<|al 1<|ah (aF (cR b2) aD rfl)<|al 1<|ah (am rfl (iS))<|ag ?_
   refine an ?_
   rw[oS (jT hc2)]
   exact aq (a7 bo rfl (aE ae))
 ·refine al 1<|ah (aF (cR b2) aD rfl)<|ah (am rfl (fl))<|al 2 ?_
  refine cg (bN rfl) (fun c3 hb3=>?_)
  cases c3
  ·refine ag<|aP rfl<|ao<|aa<|ab<|al 1<|ah (aF (cR c1) aD rfl)<|aC (ai bJ rfl) rfl<|ag<|aa<|aa<|ab<|al 1<|ah (aF (cR b1) aD rfl) ?_
   refine ah (am rfl (fl))<|ag ?_
   refine aw rfl (fun hc4=>?_) (fun hc4=>?_)
   ·--region 5
    refine ab<|al 1<|ah (aF (cR c2) aD rfl)<|ag<|aa<|ab<|al 1<|ah (aF (cR a1) aD rfl)<|al 1<|ah (aF (cR b1) aD rfl)<|al 1<|ah (aF (cR a2) aD rfl)<|al 1<|ah (aF (cR b2) aD rfl) ?_
    refine al 1<|ah (am rfl (iS))<|ag<|an ?_
    rw[tk (mC hc4)]
    exact aq (a7 bo rfl (aE ae))
   ·refine ao<|aa<|ab<|al 1<|ah (aF (cR a1) aD rfl)<|al 1<|ah (aF (cR b1) aD rfl)<|al 1<|ah (aF (cR a2) aD rfl)<|al 1<|ah (aF (cR b2) aD rfl)<|al 1<|ah (am rfl (iS))<|ag ?_
    refine an ?_
    rw[oS (jT hc4)]
    exact aq (a7 bo rfl (aE ae))
  ·refine al 1<|ah (aF (cR c1) aD rfl)<|al 1<|ah (aF (cR c2) aD rfl)<|ah (am rfl (M5 (aX hc1) (aX hc2)))<|ag ?_
   refine aw rfl (fun hc5=>?_) (fun hc5=>?_)
   ·exact absurd ⟨AT hb1,AT hb3,AT hc5⟩ hbad
   ·refine ao<|aa<|ab<|al 1<|ah (aF (cR c1) aD rfl)<|aC (ai bJ rfl) rfl<|ag<|aa<|aa<|ab<|al 1<|ah (aF (cR b1) aD rfl)<|ah (am rfl (fl))<|ag ?_
    refine aw rfl (fun hc6=>?_) (fun hc6=>?_)
    ·--region 5
     refine ab<|al 1<|ah (aF (cR c2) aD rfl)<|ag<|aa<|ab<|al 1<|ah (aF (cR a1) aD rfl)<|al 1<|ah (aF (cR b1) aD rfl)<|al 1<|ah (aF (cR a2) aD rfl)<|al 1<|ah (aF (cR b2) aD rfl) ?_
     refine al 1<|ah (am rfl (iS))<|ag<|an ?_
     rw[tk (mC hc6)]
     exact aq (a7 bo rfl (aE ae))
    ·refine ao<|aa<|ab<|al 1<|ah (aF (cR a1) aD rfl)<|al 1<|ah (aF (cR b1) aD rfl)<|al 1<|ah (aF (cR a2) aD rfl)<|al 1<|ah (aF (cR b2) aD rfl)<|al 1<|ah (am rfl (iS))<|ag ?_
     refine an ?_
     rw[oS (jT hc6)]
     exact aq (a7 bo rfl (aE ae))
theorem Sm {k:Nat}{x:Rat}(h:(decide (-1000000000<x.num)&&(decide (x.num<1000000000)&&(decide ((x.den:Int)<1000000000)&&decide (1≤k))))=true):Rz k x:=by
 simp only[Bool.and_eq_true,decide_eq_true_eq] at h
 have h1:=lh h.2.2.2
 have e:pw 1=1000000000:=by decide+kernel
 have hp:=den_pos x
 exact⟨⟨by omega,by omega⟩,⟨by omega,by omega⟩⟩
theorem Jr {b1 b2 c:Rat}(h:sI b1 b2 c=true):0≤c:=by
 unfold sI at h
 split at h
 ·have:=of_decide_eq_true h;subst this;exact Rat.le_refl
 ·rw[Bool.and_eq_true] at h
  have:=of_decide_eq_true h.1
  grind
theorem fW {b c:Rat}(h:0≤c):0≤zc b c:=by unfold zc;split<;>grind
def qu (a b c:Rat):Re:=dX a b (zc b c)
theorem mn {a b c p q r:Rat}(hc:0≤c) (hr:0≤r):rH a b c p q r=bR (qu a b c-qu p q r):=jH (fW hc) (fW hr)
theorem I7 {a b c p q r:Rat}(hc:0≤c) (hr:0≤r):oU a b (zc b c) p q (zc q r)=bR (qu a b c-qu p q r):=E7 (fW hc) (fW hr)
section
variable {a1 b1 a2 b2 c p1 q1 p2 q2 r:Rat}
theorem Cn (hc:0≤c) (hr:0≤r):tJ a1 b1 a2 b2 c p1 q1 p2 q2 r=jZ a1 b1 a2 b2 c p1 q1 p2 q2 r:=by
 unfold tJ jZ
 rw[I7 hc hr,I7 hc hr,mn hc hr,mn hc hr]
theorem j8 (x y:Re):bR (y-x)= -bR (x-y):=by
 rw[←dz]
 exact congrArg bR (Re.ext fun k=>by simp only[bp,bT];grind)
theorem pS (x:Re):bR (x-x)=0:=by
 have h:=j8 x x
 omega
theorem Dj (hc:0≤c) (hr:0≤r):jZ p1 q1 p2 q2 r a1 b1 a2 b2 c= -jZ a1 b1 a2 b2 c p1 q1 p2 q2 r:=by
 unfold jZ
 rw[mn hc hr,mn hc hr,mn hr hc,mn hr hc,j8 (qu a1 b1 c),j8 (qu a2 b2 c)]
 by_cases h:bR (qu a1 b1 c-qu p1 q1 r)=0
 ·rw[h];simp
 ·rw[if_pos (by omega),if_pos h]
theorem D6 (hc:0≤c):jZ a1 b1 a2 b2 c a1 b1 a2 b2 c=0:=by
 unfold jZ
 rw[mn hc hc,mn hc hc,pS,pS];simp
end
theorem Ig (n:Int):xe (n*n)=true:=by
 have h:bP (n*n)=(n.natAbs:Int):=by
  have e:(n.natAbs:Int)*(n.natAbs:Int)=n*n:=by
   rw[←Int.natCast_mul,Int.natAbs_mul_self]
  refine pv ?_ (by omega) (by omega) ?_
  ·rw[←e];exact Int.mul_nonneg (by omega) (by omega)
  ·have:((n.natAbs:Int)+1)*((n.natAbs:Int)+1)=(n.natAbs:Int)*(n.natAbs:Int)+2*(n.natAbs:Int)+1:=by grind
   omega
 unfold xe
 rw[h,←Int.natCast_mul,Int.natAbs_mul_self]
 simp
theorem KZ (x:Rat):go (x*x)=true:=by
 have e:x*x=Rat.divInt (x.num*x.num) ((x.den:Int)*(x.den:Int)):=by
  conv=>lhs;rw[←Rat.num_divInt_den x]
  exact Rat.divInt_mul_divInt _ _
 have hd:=den_pos x
 have hg:Int.gcd (x.num*x.num) ((x.den:Int)*(x.den:Int))=1:=by
  have hr:Nat.Coprime x.num.natAbs x.den:=x.reduced
  show Nat.gcd (x.num*x.num).natAbs ((x.den:Int)*(x.den:Int)).natAbs=1
  rw[Int.natAbs_mul,Int.natAbs_mul,Int.natAbs_natCast]
  exact(hr.mul_left hr).mul_right (hr.mul_left hr)
 have hv:vQ (x.num*x.num) ((x.den:Int)*(x.den:Int))=true:=by
  unfold vQ
  rw[hg,decide_eq_true (Int.mul_pos hd hd)];rfl
 obtain⟨h1,h2⟩:=JJ hv
 rw[←e] at h1 h2
 unfold go
 rw[h1,h2,Ig,Ig];rfl
theorem F9 {a b c:Rat}(hc:0≤c) (hv:b≠0→0<c∧go c=false):s3 a b c=bR (dX a b c):=by
 rw[←fK hc]
 unfold s3 cm ll
 by_cases hb:b=0
 ·have h0:aV b 0=0:=lP.2 hb
  rw[if_pos (.inr h0),h0,Int.zero_mul,if_pos (.inl rfl)]
 ·obtain⟨hp,hs⟩:=hv hb
  have h1:aV c 0=1:=by unfold aV;rw[if_neg (by grind),if_pos hp]
  have h2:aV b 0≠0:=fun e=>hb (lP.1 e)
  rw[h1,Int.mul_one]
  by_cases h3:aV a 0=aV b 0
  ·rw[if_pos (.inl h3),if_pos (.inr h3)]
  ·have n1: ¬(aV a 0=aV b 0∨aV b 0=0):=by omega
   have n2: ¬(aV b 0=0∨aV a 0=aV b 0):=by omega
   rw[if_neg n1,if_neg n2]
   by_cases h4:aV a 0=0
   ·rw[if_pos h4,if_pos h4]
   ·rw[if_neg h4,if_neg h4]
    have hn:a*a≠b*b*c:=by
     intro e
     have e2:c=(a/b)*(a/b):=by
      have:a/b*b=a:=by grind
      grind
     rw[e2,KZ] at hs
     cases hs
    have a1:=dm a 0
    have b1:=dm b 0
    by_cases h5:0<a*a-b*b*c
    ·have:aV (a*a) (b*b*c)=1:=by unfold aV;rw[if_neg (by grind),if_pos (by grind)]
     rw[if_pos h5,this,Int.mul_one]
    ·have:aV (a*a) (b*b*c)= -1:=by unfold aV;rw[if_pos (by grind)]
     rw[if_neg h5,this];omega
theorem og (a b c:Rat):qu a b c=Re.of a+Re.of b*Re.rt c:=by
 unfold qu dX
 by_cases h:b=0
 ·subst h
  exact Re.ext fun k=>by simp only[bt,bK,cJ];grind
 ·rw[fS h]
def F8 (x y b1 b2 c:Rat):Rat:=x*x+y*y+(b1*b1+b2*b2)*c
def HH (x y b1 b2:Rat):Rat:=(x*b1+y*b2)+(x*b1+y*b2)
theorem Ia {x y b1 b2 c:Rat}(hv:sI b1 b2 c=true) (h:HH x y b1 b2≠0):0<c∧go c=false:=by
 have hb: ¬(b1=0∧b2=0):=by
  rintro⟨rfl,rfl⟩
  apply h;unfold HH;grind
 unfold sI at hv
 rw[if_neg hb,Bool.and_eq_true] at hv
 exact⟨of_decide_eq_true hv.1,by simpa using hv.2⟩
theorem SP {a b c:Rat}:a*a+b*b*cc b (zc b c) (zc b c)=a*a+b*b*c:=by
 by_cases h:b=0
 ·subst h;grind
 ·rw[oS h,fS h]
theorem TY {a b c:Rat}(hc:b≠0→c≠0):rB (a*b+b*a) (cc b (zc b c) (zc b c))=a*b+a*b:=by
 unfold rB
 split
 ·rename_i h
  by_cases hb:b=0
  ·subst hb;grind
  ·rw[oS hb,fS hb] at h
   rcases h with h|h
   ·grind
   ·exact absurd h (hc hb)
 ·grind
theorem T7 {a b c:Rat}(hc:b≠0→c≠0):rC (a*b+b*a) (cc b (zc b c) (zc b c))=zc (a*b+a*b) c:=by
 have e:a*b+b*a=a*b+a*b:=by grind
 rw[e]
 unfold rC
 by_cases hb:b=0
 ·subst hb
  rw[if_pos (.inl (by grind)),o8 (by grind)]
 ·rw[oS hb,fS hb]
  by_cases h:a*b+a*b=0
  ·rw[if_pos (.inl h),o8 h]
  ·rw[if_neg (fun e=>e.elim h (hc hb)),fS h]
theorem QX {B1 B2 c:Rat}: ¬G3 B1 (zc B1 c) B2 (zc B2 c):=by
 rintro⟨h1,h2,h3⟩
 rw[fS h1,fS h2] at h3
 exact h3 rfl
theorem VL {B1 B2 c:Rat}(hc:B1+B2≠0→c≠0):rB (B1+B2) (cc B1 (zc B1 c) (zc B2 c))=B1+B2:=by
 unfold rB
 split
 ·rename_i h
  by_cases hs:B1+B2=0
  ·exact hs.symm
  ·exfalso
   rcases h with h|h
   ·exact hs h
   ·by_cases h1:B1=0
    ·rw[tk h1] at h
     have h2:B2≠0:=fun e=>hs (by grind)
     rw[fS h2] at h
     exact hc hs h
    ·rw[oS h1,fS h1] at h
     exact hc hs h
 ·rfl
theorem UZ {B1 B2 c:Rat}(hc:B1+B2≠0→c≠0):rC (B1+B2) (cc B1 (zc B1 c) (zc B2 c))=zc (B1+B2) c:=by
 unfold rC
 by_cases hs:B1+B2=0
 ·rw[if_pos (.inl hs),o8 hs]
 ·have e:cc B1 (zc B1 c) (zc B2 c)=c:=by
   by_cases h1:B1=0
   ·rw[tk h1,fS (fun e=>hs (by grind))]
   ·rw[oS h1,fS h1]
  rw[e,if_neg (fun e=>e.elim hs (hc hs)),fS hs]
theorem qL (a v:Rat):a+ -v=a-v:=by grind
section
variable {P:Program}{f:FuncId}{ds rs:List D0}{x y z x' y' z':Rat}
theorem jr (h:Ok P f ds (.a (cR x++cR y++cR z)::rs)) (e1:x=x') (e2:y=y') (e3:z=z'):Ok P f ds (.a (cR x'++cR y'++cR z')::rs):=by subst e1 e2 e3;exact h
end
theorem TC (x y b1 b2 c:Rat):(x*x+b1*b1*c)+(y*y+b2*b2*c)=F8 x y b1 b2 c:=by unfold F8;grind
theorem KG (x y b1 b2:Rat):(x*b1+x*b1)+(y*b2+y*b2)=HH x y b1 b2:=by unfold HH;grind
theorem Uj {b1 b2 c:Rat}(h:sI b1 b2 c=true):(b1≠0→c≠0)∧(b2≠0→c≠0):=by
 have key: ¬(b1=0∧b2=0)→c≠0:=by
  intro hn e
  unfold sI at h
  rw[if_neg hn,Bool.and_eq_true] at h
  have:=of_decide_eq_true h.1
  rw[e] at this
  exact absurd this (by decide)
 exact⟨fun hb=>key (fun e=>hb e.1),fun hb=>key (fun e=>hb e.2)⟩
end Go.Proofs.YtkmdgigkbhmilaaGreat
