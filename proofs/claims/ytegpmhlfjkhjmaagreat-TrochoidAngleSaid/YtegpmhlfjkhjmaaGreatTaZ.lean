/-TrochoidAngle:the walk of the law. -/
import Derived.Test.YtegpmhlfjkhjmaaGreatTaY
namespace Go.Proofs.YtegpmhlfjkhjmaaGreat
open Go Go.RowKit
variable {β:Bool}{a1 a2 b1 b2 dx dy e f p q r s v0 v1 z:Int}{us:List CellD}{j k n:Nat}{c:Rat}
theorem Pd (h1: ¬aX c ((-1:Int):Rat)≤0) (h2: ¬aX c ((1:Int):Rat)>0):j6 c=true:=by
 have g2:c≤1:=wX.1 (Int.not_lt.1 h2)
 have g1: ¬c≤((-1:Int):Rat):=fun h=>h1 (wX.2 h)
 have e:((-1:Int):Rat)= -1:=rfl
 unfold j6
 rw[decide_eq_true g2,decide_eq_true (show-1≤c by grind)]
 rfl
theorem Cb {va:Bool}(h1:1≤j) (hm:(decide (1<j)&& !β)=false) (q1:β=true→va=true) (q2:j=1→va=true→β=true):(!va)=(decide (1<j+1)&& !β):=by
 have e:decide (1<j+1)=true:=decide_eq_true (by omega)
 rw[e]
 by_cases hj:j=1
 ·cases β<;>cases va<;>simp_all
 ·rw[decide_eq_true (show 1<j by omega)] at hm
  cases β<;>cases va<;>simp_all
theorem G0 (hm:(decide (1<j)&& !β)=true):true=(decide (1<j+1)&& !β):=by
 rw[di] at hm
 have:=of_decide_eq_true hm.1
 rw[decide_eq_true (show 1<j+1 by omega),hm.2];rfl
theorem Rx (hn:2≤n):(β !=(decide (1<n)&& !β))=true:=by
 rw[decide_eq_true (show 1<n by omega)]
 cases β<;>rfl
theorem Jx (he:e≠0) (hC:Ok Tryz.prog 30 [.c (.i .i64 p),.c (.i .i64 q)] [dR c]) (hR:Ok Tryz.prog 29 [.a (([.i .i64 a1]++[.i .i64 a2])),.a (([.i .i64 b1]++[.i .i64 b2])),.c (.i .i64 s)] [.c (.s n us),.c (.i .i64 e)]):Ok Tryz.prog 6 [.a ((([.i .i64 a1]++[.i .i64 a2])++([.i .i64 b1]++[.i .i64 b2])++[.i .i64 r]++[.i .i64 s]++[.i .i64 z]++[.i .i64 f])),.a (([.i .i64 p]++[.i .i64 q])),.a (([.i .i8 v0]++[.i .i8 v1]))] [.c (.b true)]:=by
 refine eo Tryz.func6 164 [.tmp 6] rfl<|ae<|ah<|ae<|ah ?_
 refine ac rfl (hR)<|ae<|cX 10 [9,999999] ?_
 refine aq (gW En rfl rfl (by decide) rfl) ?_
 refine aq (gW En rfl rfl (by decide) rfl) ?_
 refine aI rfl (hC) ?_
 refine DQ.mk<|gD (eQ bU rfl) rfl rfl rfl rfl<|dP ?_
 refine ae<|ae<|wq 50 rfl rfl<|cK (dg rfl (jf))<|ji 3<|cK (aJ (c:=true) (dG rfl) (by simp[he])) ?_
 refine Gm<|iC<|bt<|cz rfl<|ae<|ah<|ac rfl (jf)<|ba ?_
 exact ai (ak ag)
theorem Zk {w:Bool}(hl:us.length=n*2) (hJ:us.all VX=true) (hn:n≤1000000) (hn2:2≤n) (hv0: -128≤v0∧v0≤127) (hv1: -128≤v1∧v1≤127) (hc:Rz 3 c) (hC:Ok Tryz.prog 30 [.c (.i .i64 p),.c (.i .i64 q)] [dR c]) (hR:Ok Tryz.prog 29 [.a (([.i .i64 a1]++[.i .i64 a2])),.a (([.i .i64 b1]++[.i .i64 b2])),.c (.i .i64 s)] [.c (.s n us),.c (.i .i64 0)]) (hD:Ok Tryz.prog 34 [.a (([.i .i64 a1]++[.i .i64 a2])),.a (([.i .i64 b1]++[.i .i64 b2]))] [.a (([.i .i64 dx]++[.i .i64 dy])),.c (.b w)]) (hE:2≤n→n≤5→s≤r→1≤r→r≤f→f≤100000→j6 c=true→Ok Tryz.prog 35 [.c (.s n us),.c (.i .i64 r),.c (.i .i64 f),dR c] [.c (.b β)]) (hA:2≤n→n≤5→s≤r→1≤r→r≤f→f≤100000→j6 c=true→ ∀j:Nat,1≤j→j<n→ ∃(K K9:Ci) (D:List Ci) (va vy:Bool),Ok Tryz.prog 36 [.c (.s j (us.take (j*2))),.c (.i .i64 (r+f))] [.c (.s D.length (aW bT D))]∧Ok Tryz.prog 37 [.a (([.i .i64 (ci us (j*2))]++[.i .i64 (ci us (j*2+1))])),.a (([.i .i64 dx]++[.i .i64 dy])),.c (.i .i64 r),.c (.i .i64 f),.a (([.i .i64 0]++[.i .i64 1]))] [.a (bT K)]∧Ok Tryz.prog 37 [.a (([.i .i64 (ci us (j*2))]++[.i .i64 (ci us (j*2+1))])),.a (([.i .i64 dx]++[.i .i64 dy])),.c (.i .i64 r),.c (.i .i64 f),.a (([.i .i64 v0]++[.i .i64 v1]))] [.a (bT K9)]∧Ok Tryz.prog 15 [.a (bT K),.c (.s D.length (aW bT D)),dR c] [.c (.b va)]∧Ok Tryz.prog 15 [.a (bT K9),.c (.s D.length (aW bT D)),dR c] [.c (.b vy)]∧(β=true→va=true∧vy=true)∧(j=1→va=true→β=true)):Ok Tryz.prog 6 [.a ((([.i .i64 a1]++[.i .i64 a2])++([.i .i64 b1]++[.i .i64 b2])++[.i .i64 r]++[.i .i64 s]++[.i .i64 z]++[.i .i64 f])),.a (([.i .i64 p]++[.i .i64 q])),.a (([.i .i8 v0]++[.i .i8 v1]))] [.c (.b true)]:=by
 have zc:Rz 3 ((-1:Int):Rat):=iI (by decide) (by decide)
 have zd:Rz 3 ((1:Int):Rat):=iI (by decide) (by decide)
 refine eo Tryz.func6 164 [.tmp 6] rfl<|ae<|ah<|ae<|ah ?_
 refine ac rfl (hR)<|ae<|cX 10 [9,999999] ?_
 refine aq (gW En rfl rfl (by decide) rfl) ?_
 refine aq (gW En rfl rfl (by decide) rfl) ?_
 refine aI rfl (hC) ?_
 refine DQ.mk<|gD (eQ bU rfl) rfl rfl rfl rfl<|dP ?_
 refine ae<|ae<|cX 50 []<|aI rfl (jf)<|aq (bJ rfl)<|aq (bJ rfl) ?_
 refine D5 (bJ rfl) (fun c1 hb1=>?_)
 cases c1
 ·refine D5 (bJ rfl) (fun c2 hb2=>?_)
  cases c2
  ·refine D5 (bJ rfl) (fun c3 hb3=>?_)
   cases c3
   ·refine D5 (bJ rfl) (fun c4 hb4=>?_)
    cases c4
    ·refine D5 (bJ rfl) (fun c5 hb5=>?_)
     cases c5
     ·refine D5 (bJ rfl) (fun c6 hb6=>?_)
      cases c6
      ·refine aI rfl (dc (by omega) (by omega))<|aI rfl (zF (hc.m_) (zc.m_)) ?_
       refine D5 (bJ rfl) (fun c7 hb7=>?_)
       cases c7
       ·refine aI rfl (dc (by omega) (by omega))<|aI rfl (zF (hc.m_) (zd.m_)) ?_
        refine aP rfl (fun hc8=>?_) (fun hc8=>?_)
        ·refine ae<|ah<|ac rfl (jf)<|ba ?_
         exact ai (ak ag)
        ·have k1:=of_decide_eq_false hb1
         have k2:=of_decide_eq_false hb2
         have k3:=of_decide_eq_false hb3
         have k4:=of_decide_eq_false hb4
         have k5:=of_decide_eq_false hb5
         have k6:=of_decide_eq_false hb6
         have hcos:=Pd (of_decide_eq_false hb7) (of_decide_eq_false hc8)
         replace hE:=hE hn2 (by omega) (by omega) (by omega) (by omega) (by omega) hcos
         replace hA:=hA hn2 (by omega) (by omega) (by omega) (by omega) (by omega) hcos
         refine aA<|ae<|ah ?_
         refine ac rfl (hD)<|ae<|ah ?_
         refine ac rfl (hE)<|ae<|ah<|ae<|ae<|ah ?_
         refine aG<|bv (ι:={j:Nat // 1≤j∧j≤n}) (fun i=>⟨164,[(3,.p 3 0),(5,.p 5 0),(7,.v (.c (.s n us))),(9,.p 9 0),(10,.v (.c (.i .i64 f))),(11,.p 11 0),(13,.v (.c (.b β))),(14,.v (.c (.b ((decide (1<i.1)&& !β))))),(15,.v (.c (.i .i64 (i.1:Int))))],[(3,74,(([.i .i64 a1]++[.i .i64 a2])++([.i .i64 b1]++[.i .i64 b2])++[.i .i64 r]++[.i .i64 s]++[.i .i64 z]++[.i .i64 f])),(5,76,([.i .i8 v0]++[.i .i8 v1])),(9,38,cR c),(11,72,([.i .i64 dx]++[.i .i64 dy]))]⟩) (fun i=>n-i.1) ⟨1,ck _,by omega⟩ (ap (bo rfl) (bo rfl) rfl) ?_
         rintro⟨j,h1,h2⟩
         replace h1:1≤j:=h1
         replace h2:j≤n:=h2
         dsimp only
         refine ae<|ae<|ah ?_
         refine aP rfl (fun hc9=>?_) (fun hc9=>?_)
         ·have g1:j<n:=by have:=of_decide_eq_true hc9;omega
          obtain⟨K,K9,D,va,vy,hcl,hT1,hT2,hA1,hA2,q1,q2⟩:=hA j h1 g1
          refine aA<|ae<|aG<|ae<|cX 9 []<|aq (KB (n':=j) (us':=us.take (j*2)) (Bm (j:=(j:Int)) (n:=n) (xs:=us) (us:=us.take (j*2)) vU rfl rfl (by omega) (hl) (rfl) rfl) (by omega) (rfl)) ?_
          refine aq (bF (r+f) (aT (by omega) (by omega)) rfl)<|aI rfl (hcl)<|ae<|cX 14 []<|aq (bc (us:=[.i .i64 (ci us (j*2))]++[.i .i64 (ci us (j*2+1))]++us.drop (j*2+2)) vU rfl rfl (by omega) (hl) (gI hl hJ (by omega)) rfl) ?_
          refine aq (dM (us:=([.i .i64 (ci us (j*2))]++[.i .i64 (ci us (j*2+1))])) tR rfl rfl rfl rfl) ?_
          refine aq (Cr (us:=([.i .i64 0]++[.i .i64 1])) En aaO rfl rfl rfl) ?_
          refine aI rfl (hT1) ?_
          refine aI rfl (hA1)<|ae<|cX 20 [] ?_
          refine aq (bc (us:=[.i .i64 (ci us (j*2))]++[.i .i64 (ci us (j*2+1))]++us.drop (j*2+2)) vU rfl rfl (by omega) (hl) (gI hl hJ (by omega)) rfl) ?_
          refine aq (dM (us:=([.i .i64 (ci us (j*2))]++[.i .i64 (ci us (j*2+1))])) tR rfl rfl rfl rfl) ?_
          refine aq (gW abl rfl rfl (by decide) rfl) ?_
          refine aq (b6 (r:=v0) Xs Ec rfl (qO (by omega) (by omega)) rfl) ?_
          refine aq (gW abl rfl rfl (by decide) rfl) ?_
          refine aq (b6 (r:=v1) Xs Ec rfl (qO (by omega) (by omega)) rfl) ?_
          refine aq (Cr (us:=([.i .i64 v0]++[.i .i64 v1])) En aaO rfl rfl rfl) ?_
          refine aI rfl (hT2) ?_
          refine aI rfl (hA2)<|ae<|ae<|ah ?_
          refine lg (bJ rfl) (fun c10 hb10=>?_)
          cases c10
          ·refine DL.mk<|xq (tg rfl)<|fa ?_
           refine bh rfl<|aA<|ah ?_
           refine lg (bJ rfl) (fun c11 hb11=>?_)
           cases c11
           ·refine ah<|ar (dZ (by omega) rfl) ?_
            exact⟨⟨j+1,by omega,g1⟩,ap ⟨rfl,rfl,rfl,rfl,rfl,rfl,rfl,by first|exact congrArg (fun q=>some (DV.v (D0.c (CellD.b q)))) (G0 (by assumption))|exact congrArg (fun q=>some (DV.v (D0.c (CellD.b q)))) (Cb h1 (by assumption) (fun h=>(q1 h).1) q2),rfl,trivial⟩ (bo rfl) rfl,by show n-(j+1)<n-j;omega⟩
           ·refine ah<|ar (dZ (by omega) rfl) ?_
            exact⟨⟨j+1,by omega,g1⟩,ap ⟨rfl,rfl,rfl,rfl,rfl,rfl,rfl,by first|exact congrArg (fun q=>some (DV.v (D0.c (CellD.b q)))) (G0 (by assumption))|exact congrArg (fun q=>some (DV.v (D0.c (CellD.b q)))) (Cb h1 (by assumption) (fun h=>(q1 h).1) q2),rfl,trivial⟩ (bo rfl) rfl,by show n-(j+1)<n-j;omega⟩
          ·refine lg (bJ rfl) (fun c12 hb12=>?_)
           cases c12
           ·refine aP rfl (fun hc13=>?_) (fun hc13=>?_)
            ·have:=(q1 hb10).2;rw[this] at hc13;cases hc13
            ·refine aA<|ah ?_
             refine lg (bJ rfl) (fun c14 hb14=>?_)
             cases c14
             ·refine ah<|ar (dZ (by omega) rfl) ?_
              exact⟨⟨j+1,by omega,g1⟩,ap ⟨rfl,rfl,rfl,rfl,rfl,rfl,rfl,by first|exact congrArg (fun q=>some (DV.v (D0.c (CellD.b q)))) (G0 (by assumption))|exact congrArg (fun q=>some (DV.v (D0.c (CellD.b q)))) (Cb h1 (by assumption) (fun h=>(q1 h).1) q2),rfl,trivial⟩ (bo rfl) rfl,by show n-(j+1)<n-j;omega⟩
             ·refine ah<|ar (dZ (by omega) rfl) ?_
              exact⟨⟨j+1,by omega,g1⟩,ap ⟨rfl,rfl,rfl,rfl,rfl,rfl,rfl,by first|exact congrArg (fun q=>some (DV.v (D0.c (CellD.b q)))) (G0 (by assumption))|exact congrArg (fun q=>some (DV.v (D0.c (CellD.b q)))) (Cb h1 (by assumption) (fun h=>(q1 h).1) q2),rfl,trivial⟩ (bo rfl) rfl,by show n-(j+1)<n-j;omega⟩
           ·have:=(q1 hb10).1;rw[this] at hb12;cases hb12
         ·have hj:j=n:=by have:=of_decide_eq_false hc9;omega
          have hfin:(β !=(decide (1<j)&& !β))=true:=by rw[hj];exact Rx hn2
          refine bV<|ae<|bq<|bH 2<|aO (aJ (c:=true) (kG rfl rfl jQ rfl) hfin) ?_
          refine gi<|ba ?_
          exact ai (ak ag)
       ·refine cz rfl<|ae<|ah<|ac rfl (jf)<|ba ?_
        exact ai (ak ag)
      ·refine aq (bJ rfl)<|cz rfl<|ae<|ah<|ac rfl (jf)<|ba ?_
       exact ai (ak ag)
     ·refine aq (bJ rfl)<|aq (bJ rfl)<|cz rfl<|ae<|ah<|ac rfl (jf)<|ba ?_
      exact ai (ak ag)
    ·refine aq (bJ rfl)<|aq (bJ rfl)<|aq (bJ rfl)<|cz rfl<|ae<|ah<|ac rfl (jf)<|ba ?_
     exact ai (ak ag)
   ·refine aq (bJ rfl)<|aq (bJ rfl)<|aq (bJ rfl)<|aq (bJ rfl)<|cz rfl<|ae<|ah<|ac rfl (jf)<|ba ?_
    exact ai (ak ag)
  ·refine aq (bJ rfl)<|aq (bJ rfl)<|aq (bJ rfl)<|aq (bJ rfl)<|aq (bJ rfl)<|cz rfl<|ae<|ah<|ac rfl (jf)<|ba ?_
   exact ai (ak ag)
 ·refine aq (bJ rfl)<|aq (bJ rfl)<|aq (bJ rfl)<|aq (bJ rfl)<|aq (bJ rfl)<|aq (bJ rfl)<|cz rfl<|ae<|ah<|ac rfl (jf)<|ba ?_
  exact ai (ak ag)
theorem acu (h:G8 a1 a2 b1 b2=false):se a1 a2 b1 b2 r z=1:=by unfold se;rw[h];rfl
theorem OZ (hok:G8 a1 a2 b1 b2=true) (hr:0≤r) (h:Jz a1 a2 r=false∨Jz b1 b2 r=false∨fb z=true):se a1 a2 b1 b2 r z=11:=by
 unfold se
 rw[if_pos hok,if_pos]
 rw[LY hr,LY hr] at h
 rcases h with h|h|h
 ·rw[show pI a1 a2 r=true by simpa using h];rfl
 ·rw[show pI b1 b2 r=true by simpa using h];simp
 ·rw[h];simp
theorem Qo {px py:Int}(hd:Dir dx dy) (hx: -10000000≤px∧px≤10000000) (hy: -10000000≤py∧py≤10000000) (hr:1≤r) (hrf:r≤f) (hf:f≤100000) (hv0: -128≤v0∧v0≤127) (hv1: -128≤v1∧v1≤127):
 ∃a b:Int,(-128≤a∧a≤128)∧(-128≤b∧b≤128)∧((a:Int):Rat)*((a:Int):Rat)+((b:Int):Rat)*((b:Int):Rat)≠0∧Ok Tryz.prog 37 [.a ([.i .i64 px]++[.i .i64 py]),.a ([.i .i64 dx]++[.i .i64 dy]),.c (.i .i64 r),.c (.i .i64 f),.a ([.i .i64 v0]++[.i .i64 v1])] [.a (bT (yL px py dx dy r f a b))]:=by
 have d1: -1≤dx∧dx≤1:=by have:=hd.x;omega
 have d2: -1≤dy∧dy≤1:=by have:=hd.y;omega
 by_cases hz:v0=0∧v1=0
 ·obtain⟨rfl,rfl⟩:=hz
  exact⟨1,0,by omega,by omega,by decide+kernel,adG (by omega) (by omega) d1 d2 (by omega) (by omega)⟩
 ·have hn:((v0:Int):Rat)*((v0:Int):Rat)+((v1:Int):Rat)*((v1:Int):Rat)≠0:=by
   intro e
   rw[←dD,←dD,←gz] at e
   have e:=Rat.intCast_eq_zero_iff.1 e
   have h1:=Nc v0
   have h2:=Nc v1
   have g1:v0=0:=by have:v0*v0=0:=by omega
                    rcases pV.1 this with h|h<;>exact h
   have g2:v1=0:=by have:v1*v1=0:=by omega
                    rcases pV.1 this with h|h<;>exact h
   exact hz ⟨g1,g2⟩
  exact⟨v0,v1,by omega,by omega,hn,ack (by omega) (by omega) d1 d2 (by omega) (by omega) (by omega) (by omega) hn⟩
theorem Un {L m:Int}(hL:1≤L) (hd:Dir dx dy) (hs:1≤m) (hmL:m≤L) (hk:(k:Int)=(L-1)/m) (r1: -10000000≤a1∧a1≤10000000) (r2: -10000000≤a2∧a2≤10000000) (r3: -10000000≤a1+L*dx∧a1+L*dx≤10000000) (r4: -10000000≤a2+L*dy∧a2+L*dy≤10000000) (hc:Rz 3 c) (hcos:j6 c=true) (hr:1≤r) (hrf:r≤f) (hf:f≤100000) (hm:m≤r)
 (hv0: -128≤v0∧v0≤127) (hv1: -128≤v1∧v1≤127) (hk3:k≤3) {j:Nat}(h1:1≤j) (h2:j<k+1+1): ∃(K K9:Ci) (D:List Ci) (va vy:Bool),Ok Tryz.prog 36 [.c (.s j ((iN a1 a2 dx dy L m k).take (j*2))),.c (.i .i64 (r+f))] [.c (.s D.length (aW bT D))]∧Ok Tryz.prog 37 [.a (([.i .i64 (ci (iN a1 a2 dx dy L m k) (j*2))]++[.i .i64 (ci (iN a1 a2 dx dy L m k) (j*2+1))])),.a (([.i .i64 dx]++[.i .i64 dy])),.c (.i .i64 r),.c (.i .i64 f),.a (([.i .i64 0]++[.i .i64 1]))] [.a (bT K)]∧Ok Tryz.prog 37 [.a (([.i .i64 (ci (iN a1 a2 dx dy L m k) (j*2))]++[.i .i64 (ci (iN a1 a2 dx dy L m k) (j*2+1))])),.a (([.i .i64 dx]++[.i .i64 dy])),.c (.i .i64 r),.c (.i .i64 f),.a (([.i .i64 v0]++[.i .i64 v1]))] [.a (bT K9)]∧Ok Tryz.prog 15 [.a (bT K),.c (.s D.length (aW bT D)),dR c] [.c (.b va)]∧Ok Tryz.prog 15 [.a (bT K9),.c (.s D.length (aW bT D)),dR c] [.c (.b vy)]∧(D4 r f m c=true→va=true∧vy=true)∧(j=1→va=true→D4 r f m c=true):=by
 have hB:=QN (A6 hd hs hk r1 r2 r3 r4)
 have hJ:=GT (A6 hd hs hk r1 r2 r3 r4)
 obtain⟨st,s1,s2,s3,e1,e2⟩:=Ik (a1:=a1) (a2:=a2) (dx:=dx) (dy:=dy) hL hs hmL hk h1 (by omega)
 have hcl:=adV (n:=j) (us:=(iN a1 a2 dx dy L m k).take (j*2)) (r:=r+f) (by rw[gX,tZ];omega) (ON hJ _) (fun i=>by have:=Kf (n:=j*2) (by omega) hB i;omega) (by omega) (by omega)
 rw[NX] at hcl
 have rkD: ∀d∈tN (iN a1 a2 dx dy L m k) (r+f) j,RK d:=fun d hd=>by
  obtain⟨i,_,rfl⟩:=PV hd
  exact aay (hB _) (hB _) (by omega)
 have ll:(tN (iN a1 a2 dx dy L m k) (r+f) j).length≤4:=by rw[vp];omega
 have z01:((0:Int):Rat)*((0:Int):Rat)+((1:Int):Rat)*((1:Int):Rat)≠0:=by decide+kernel
 have hD:=VN (us:=iN a1 a2 dx dy L m k) (r:=r+f) (show j-1<j by omega)
 obtain⟨a,b,ha,hb,hn,hT2⟩:=Qo (px:=ci (iN a1 a2 dx dy L m k) (j*2)) (py:=ci (iN a1 a2 dx dy L m k) (j*2+1)) hd (hB _) (hB _) hr hrf hf hv0 hv1
 obtain⟨va,A1,A2,A3⟩:=Sb (QS (S:=f) z01 hd (hB (j*2)) (hB (j*2+1)) hr hrf hf (by omega) (by omega)) rkD ll hc
 obtain⟨vy,B1,B2,_⟩:=Sb (QS (S:=f) hn hd (hB (j*2)) (hB (j*2+1)) hr hrf hf ha hb) rkD ll hc
 have d1: -1≤dx∧dx≤1:=by have:=hd.x;omega
 have d2: -1≤dy∧dy≤1:=by have:=hd.y;omega
 have b1:=hB (j*2)
 have b2:=hB (j*2+1)
 refine⟨_,_,_,va,vy,hcl,ack (by omega) (by omega) d1 d2 (by omega) (by omega) (by omega) (by omega) z01,hT2,A1,B1,fun h=>?_,fun hj h=>?_⟩
 ·have ha2:=Iz hr (by omega) (show 0≤st by omega) s2 h
  have n1:=Iq (R:=r) (S:=f) hd e1 e2 z01 hr hrf (by omega) hcos ha2
  have n2:=Iq (R:=r) (S:=f) hd e1 e2 hn hr hrf (by omega) hcos ha2
  exact⟨A2 _ hD n1.1 hcos n1.2,B2 _ hD n2.1 hcos n2.2⟩
 ·have hst:=s3 hj
  subst hst
  obtain⟨f1,f2⟩:=TZ (R:=r) (S:=f) (c:=c) hd e1 e2 hr hrf s1 hm
  subst hj
  obtain⟨g1,g2⟩:=A3 _ rfl f1 h
  exact f2 g1 g2
theorem IM (_: -9223372036854775808≤s) (hs2:s≤9223372036854775807) (hp0: -9223372036854775808≤p) (hp1:p≤9223372036854775807) (hq0: -9223372036854775808≤q) (hq1:q≤9223372036854775807) (g0: -128≤v0) (g1:v0≤127) (g2: -128≤v1) (g3:v1≤127):
 Ok Tryz.prog 6 [.a (([.i .i64 a1]++[.i .i64 a2])++([.i .i64 b1]++[.i .i64 b2])++[.i .i64 r]++[.i .i64 s]++[.i .i64 z]++[.i .i64 f]),.a ([.i .i64 p]++[.i .i64 q]),.a ([.i .i8 v0]++[.i .i8 v1])] [.c (.b true)]:=by
 obtain⟨c,hc,hC⟩:=acX hp0 hp1 hq0 hq1
 by_cases hs:s≤0
 ·exact Jx (n:=0) (us:=[]) (by decide) hC (adg hs)
 replace hs:1≤s:=by omega
 cases hok:G8 a1 a2 b1 b2 with
 |false=>exact Jx (n:=0) (us:=[]) (by decide) hC (adf hs (acu hok))
 |true=>
 cases q1:Jz a1 a2 0 with
 |false=>exact Jx (n:=0) (us:=[]) (by decide) hC (XA hs (OZ hok (by omega) (.inl q1)))
 |true=>
 cases q2:Jz b1 b2 0 with
 |false=>exact Jx (n:=0) (us:=[]) (by decide) hC (XA hs (OZ hok (by omega) (.inr (.inl q2))))
 |true=>
 obtain⟨L,dx,dy,hL,hd,rfl,rfl⟩:=QK hok
 have h1:=(n5 _ _ _).1 q1
 have h2:=(n5 _ _ _).1 q2
 have r1: -10000000≤a1∧a1≤10000000:=by omega
 have r2: -10000000≤a2∧a2≤10000000:=by omega
 have r3: -10000000≤a1+L*dx∧a1+L*dx≤10000000:=by omega
 have r4: -10000000≤a2+L*dy∧a2+L*dy≤10000000:=by omega
 obtain⟨m,hm⟩: ∃m,min s L=m:=⟨_,rfl⟩
 have hm1:1≤m:=by omega
 have hmL:m≤L:=by omega
 have hq:=Or hL hm1
 obtain⟨k,hk⟩: ∃k:Nat,(k:Int)=(L-1)/m:=⟨((L-1)/m).toNat,Int.toNat_of_nonneg hq.1⟩
 by_cases hb:9999<(L-1)/m+1
 ·exact Jx (n:=0) (us:=[]) (by decide) hC (Y7 hL hd hs hm r1 r2 r3 r4 hb)
 ·have hJ:=GT (A6 hd hm1 hk r1 r2 r3 r4)
  refine Zk (β:=D4 r f m c) tZ hJ (by omega) (by omega) ⟨g0,g1⟩ ⟨g2,g3⟩ hc hC (ab7 hL hd hs hm hk r1 r2 r3 r4 (by omega)) (q8 BL (i9 hL hd.x) (i9 hL hd.y) (pK hL hd)) (fun _ _ k3 k4 k5 k6 hcos=>?_) (fun _ k2 k3 k4 k5 k6 hcos j h1 h2=>?_)
  ·obtain⟨_,_,_,e,_⟩:=zO (a1:=a1) (a2:=a2) hL hd hm1 hmL hk (show 1≤1 by omega) (by omega)
   have h:=JP (n:=k+1+1) tZ hJ (by omega) (hc.mono (by decide)) k4 k5 (by omega) hcos (by omega) e
   rw[Sc (fun i hi=>Yh hL hd hm1 hmL hk (show m≤r by omega) r1 r2 r3 r4 hi),L4 hL hd hm1 hmL hk _ (by omega) (by omega)] at h
   exact h
  ·exact Un hL hd hm1 hmL hk r1 r2 r3 r4 hc hcos k4 k5 k6 (by omega) ⟨g0,g1⟩ ⟨g2,g3⟩ (by omega) h1 h2
end Go.Proofs.YtegpmhlfjkhjmaaGreat
namespace Go.Proofs.YtegpmhlfjkhjmaaGreat
open Go.ChangeShapes Go.WideShapes Go.ChangeAt Go.RowKit
set_option maxRecDepth 100000 in
theorem Cy (os:Os) (started:os.Started) (H:Type) (enc:TypeId×Value→H):
 ReturnsInHanded {} Tryz.checked os 6 .any (Rows.trochoidAngleSpec.pre6 enc Tryz.prog Tryz.f6 Rows.trochoidAngleRow.domain false) (Rows.trochoidAngleSpec.post enc Tryz.prog Tryz.f6 false true false false):=by
 refine returnsInHanded_of_change (C:=Tryz.checked) own started (by kernel_rfl) Tryz.func6
  (ChangeSpec.witness6 (enc:=enc) (C:=Tryz.checked) false ⟨#[],#[.agg #[.int .i64 0,.int .i64 0,.int .i64 0,.int .i64 0,.int .i64 0,.int .i64 0,.int .i64 0,.int .i64 0],.agg #[.int .i64 0,.int .i64 0],.agg #[.int .i8 0,.int .i8 0]],[]⟩ 8 (by kernel_rfl) (by kernel_rfl) (by kernel_rfl) (by kernel_rfl)) ?_
 intro W base args ds gs before hval0 hW hcnd _
 have hval: ∀(j:Nat) t v,Tryz.f6.params[j]? =some t→args[j]? =some v→Value.okWide Tryz.prog W .any base t v:=hval0
 have hW':=hW
 obtain⟨p,q,hA0,hV,rfl,hfz,hnd⟩:=hW
 have hA:DataW.TrodAll enc Tryz.prog W 0 (fun _=>true) true Tryz.f6.params.toList args.toList ds p:=hA0
 rw[Tryz.params6] at hA hval
 obtain⟨v0,vs0,d0,ds0,p0,q0,hargs,rfl,rfl,h0,r0⟩:=trodAll_cons hA
 obtain⟨v1,vs1,d1,ds1,p1,q1,rfl,rfl,rfl,h1,r1⟩:=trodAll_cons r0
 obtain⟨v2,vs2,d2,ds2,p2,q2,rfl,rfl,rfl,h2,r2⟩:=trodAll_cons r1
 obtain⟨rfl,rfl,rfl⟩:=trodAll_nil r2
 obtain rfl:args= #[v0,v1,v2]:=by cases args;simp_all
 obtain⟨rfl,rfl⟩:=trodVars_none hV
 obtain⟨a0,rfl,_⟩:=okWide_struct Tryz.underlying74 (hval 0 74 v0 rfl rfl)
 have k0:=h0
 have lt0: ∀x∈p0,x.block<W.heap.size:=by obtain⟨m,hm⟩:=k0;exact DataW.trod_lt m _ _ _ hm
 obtain⟨a1,rfl⟩:=CX Tryz.underlying75 (hval 1 75 v1 rfl rfl)
 have k1:=h1
 have lt1: ∀x∈p1,x.block<W.heap.size:=by obtain⟨m,hm⟩:=k1;exact DataW.trod_lt m _ _ _ hm
 obtain⟨a2,rfl⟩:=CX Tryz.underlying76 (hval 2 76 v2 rfl rfl)
 have k2:=h2
 have lt2: ∀x∈p2,x.block<W.heap.size:=by obtain⟨m,hm⟩:=k2;exact DataW.trod_lt m _ _ _ hm
 obtain⟨y00,y01,y02,y03,y04,y05,y06,y07,g00,g01,hr0⟩:=aac (show DataW.trod enc Tryz.prog W 0 _ _ h0.choose 74 a0.toList=some _ from h0.choose_spec)
 obtain⟨x1,y1,g10,g11,g12,g13,hr1⟩:=aa3 (show DataW.trod enc Tryz.prog W 0 _ _ h1.choose 75 a1.toList=some _ from h1.choose_spec)
 obtain⟨x2,y2,g20,g21,g22,g23,hr2⟩:=abi (show DataW.trod enc Tryz.prog W 0 _ _ h2.choose 76 a2.toList=some _ from h2.choose_spec)
 clear hA0 hval0
 refine(YO (IM g00 g01 g10 g11 g12 g13 g20 g21 g22 g23) (tw ⟨a0,rfl,hr0⟩ (tw ⟨a1,rfl,hr1⟩ (tw ⟨a2,rfl,hr2⟩ RdL.nil)))).mono fun e W' ⟨he,bel⟩=>?_
 subst he
 exact⟨_,rfl,_,_,_,[],_,[],hW',trodAll_mk1 (shut_bool Tryz.underlying4 _),(trodAll_cons_mk (Below.trod FM (by kernel_rfl) (of_decide_eq_true (by kernel_rfl)) k0 bel lt0) (trodAll_cons_mk (Below.trod FM (by kernel_rfl) (of_decide_eq_true (by kernel_rfl)) k1 bel lt1) (trodAll_cons_mk (Below.trod FM (by kernel_rfl) (of_decide_eq_true (by kernel_rfl)) k2 bel lt2) trodAll_mk0))),rfl,bel.frame _,fun h=>by cases h⟩
theorem angle34_proved:Rows.TrochoidAngleSaid:=
 OpenClaim.holds_of_wide 6 Tryz.f6 rfl rfl rfl rfl rfl rfl rfl ⟨rfl,rfl,rfl,rfl,rfl⟩ rfl rfl rfl rfl rfl Kn Tryz.func6 JL
  (of_decide_eq_true (by kernel_rfl)) (by unfold Func.isWrapper;first|(rw[if_pos (by decide+kernel)];kernel_rfl)|(rw[if_neg (by decide+kernel)];exact⟨rfl,rfl⟩))
  (fun os started H enc _=>Cy os started H enc)
end Go.Proofs.YtegpmhlfjkhjmaaGreat
