/-The pieces of a curve:the reference. -/
import Derived.Test.YtkfgimjmgfoneaaGreatDoorVfO
namespace Go.Proofs.YtkfgimjmgfoneaaGreatDoor
open Go Go.RowKit
variable {w:Bool}{k:Ci}{c d:Cv}{l:Ln}{f p t:Pt}{a b:Rat}
theorem nn (hc:c.good) {L:List Pt}(hL: ∀p∈L,GP p) (lL:L.length≤9000) (hon: ∀p∈L,(c).on p=true) (h2S:2≤(bt c ([c.p,c.q]++L)).length):Ok Tryz.prog 99 [.a (ao c),.c (.s ((L).length) (aj al (L)))] [.c (.s ((dM c L).length) (aj ao (dM c L))),.c (.i .i64 0)]:=by
 have gp_:=dD hc
 have gq_:=eA hc
 have hL2: ∀p∈ [c.p,c.q]++L,GP p:=fun p hp=>by
  rcases gn.1 hp with h|h
  ·simp only[ek,tU,or_false] at h
   rcases h with h|h<;>subst h<;>assumption
  ·exact hL p h
 have lS:(bt c ([c.p,c.q]++L)).length≤9002:=by
  have:=nk (c:=c) (l:=[c.p,c.q]++L)
  rw[bN] at this
  exact iz this (by show 2+L.length≤9002;omega)
 refine eG Tryz.func99 56 [.tmp 4,.tmp 5] rfl<|ab<|bR<|jq<|ab<|ab<|bR<|jq<|aA<|aY (ι:={n:Nat // n≤L.length}) (fun i=>⟨56,[(1,.v (.c (.s ((L).length) (aj al (L))))),(2,.p 2 0),(6,.v (.c (.i .i64 (i.1:Int))))],[(2,86,ao c)]⟩) (fun i=>L.length-i.1) ⟨0,cY _⟩ (ak ⟨rfl,rfl,rfl,trivial⟩ ⟨rfl,trivial⟩ rfl) ?_
 rintro⟨n,h2⟩
 replace h2:n≤L.length:=h2
 show Dw _ _ ⟨56,[(1,.v (.c (.s ((L).length) (aj al (L))))),(2,.p 2 0),(6,.v (.c (.i .i64 (n:Int))))],[(2,86,ao c)]⟩ _
 refine ab<|ab<|bR<|jq ?_
 refine aB rfl (fun hc1=>?_) (fun hc1=>?_)
 ·have g1:n<L.length:=by have:=of_decide_eq_true hc1;omega
  refine az<|ab<|aA<|ab<|nj 7 rfl rfl<|bA (eM (ae _) aZ rfl)<|dO 2<|bA (cU dPt aD g1 ei rfl)<|bA (aJ (us:=al (L.getD n dPt)) bm rfl rfl rfl rfl) ?_
  refine bA (mg rfl (i9 (BI hc (GP.getD hL n)) (hon _ (aE g1))))<|wd<|dh<|bv<|bT rfl<|az<|bR<|fK 1<|b9 (ba (by omega) rfl)<|jq ?_
  exact⟨⟨n+1,g1⟩,ak ⟨rfl,rfl,rfl,trivial⟩ ⟨rfl,trivial⟩ rfl,by show L.length-(n+1)<L.length-n;omega⟩
 ·refine aW<|ab<|nj 10 rfl rfl<|bA (eM (ae _) aZ rfl)<|dO 1<|bA (aU (us:=al c.p) bm rfl rfl (gS _) rfl rfl) ?_
  refine dO 1<|bA (aU (us:=al c.q) bm rfl rfl (jD _) rfl rfl) ?_
  refine bA (iJ (us:=al c.p++al c.q) di rfl rfl rfl (by decide) (by decide) rfl) ?_
  refine dO 1<|bA (qE (n':=([c.p,c.q]++L).length) (us':=aj al ([c.p,c.q]++L)) (zn di rfl rfl rfl (ai aD _) (by decide) (by decide) (by omega) (go (by omega)) rfl) (by rw[bN];rfl) (by rw[ck];rfl)) ?_
  refine bA (mg rfl (Eg hc hL2 (by rw[bN];show 2+L.length≤10000;omega)))<|wd<|dh<|bv<|ab<|bR<|b9 (cg rfl) ?_
  refine bv<|ab<|ab<|bR<|jq<|aA ?_
  refine j7 (ι:={x9:Nat×Nat×List CellD // x9.1+2≤(bt c ([c.p,c.q]++L)).length∧x9.1+1≤x9.2.1∧x9.2.1≤maxLen∧x9.2.2.length=(x9.2.1-(x9.1+1))*66}) (fun i=>⟨56,[(2,.p 2 0),(7,.v (.c (.s (((bt c ([c.p,c.q]++L))).length) (aj al ((bt c ([c.p,c.q]++L))))))),(8,.o 54 (i.1.1+1) i.1.2.1),(9,.v (.c (.i .i64 (((i.1.1+2:Nat):Int)))))],[(2,86,ao c),(54,86,aj ao (iQ c ((bt c ([c.p,c.q]++L)).take (i.1.1+2)))++i.1.2.2)]⟩) (fun i=>(bt c ([c.p,c.q]++L)).length-i.1.1) ((bt c ([c.p,c.q]++L)).length+1) ?_ ?_
  ·refine ab<|ab<|bR<|fK 3<|b9 (sL (c:=true) (Pw rfl) (decide_eq_true (by omega))) ?_
   refine bv<|iB rfl<|az<|ab<|aA<|ab<|bR<|b9 (eM (ae _) aZ rfl)<|sX (pP CA rfl) rfl<|fV (bG aZ rfl rfl rfl (ae _) rfl rfl) ?_
   refine bv<|ab<|pC 11 [10,999999] cZ (by kernel_rfl) rfl rfl<|dO 2<|bA (i6 (r:=0) rfl rfl rfl rfl) ?_
   refine bA (aC (us:=al ((bt c ([c.p,c.q]++L)).getD 0 dPt)++aj al ((bt c ([c.p,c.q]++L)).drop (0+1))) ei rfl rfl (by omega) (ai aD _) (aQ aD (aK (by omega))) rfl) ?_
   refine bA (aJ (us:=al ((((bt c ([c.p,c.q]++L)).getD 0 dPt)))) bm rfl rfl rfl rfl) ?_
   refine dO 2<|bA (aC (us:=al ((bt c ([c.p,c.q]++L)).getD 1 dPt)++aj al ((bt c ([c.p,c.q]++L)).drop (1+1))) ei rfl rfl (by omega) (ai aD _) (aQ aD (aK (by omega))) rfl) ?_
   refine bA (aJ (us:=al ((((bt c ([c.p,c.q]++L)).getD 1 dPt)))) bm rfl rfl rfl rfl) ?_
   refine dO 1<|il (aV (us:=ao (c.setp ((((bt c ([c.p,c.q]++L)).getD 0 dPt))))) bm rfl rfl rfl rfl (by rw[ae];decide) (xS _ _) rfl) rfl rfl rfl rfl ?_
   refine nW<|te<|fK 1<|fV (aV (us:=ao (c.ends ((((bt c ([c.p,c.q]++L)).getD 0 dPt))) ((((bt c ([c.p,c.q]++L)).getD 1 dPt))))) bm rfl rfl rfl rfl (by rw[ae];decide) (xD _ _ _) rfl) ?_
   refine bv<|bR<|fK 1<|b9 (eM (ae _) aZ rfl)<|b9 (aS (n:=1) (us:=ao (c.ends ((((bt c ([c.p,c.q]++L)).getD 0 dPt))) ((((bt c ([c.p,c.q]++L)).getD 1 dPt))))) dS rfl (kz rfl (ae _)) (bB (ae _)) (by decide) (by decide) rfl) ?_
   refine gN (ys:=ao (c.ends ((((bt c ([c.p,c.q]++L)).getD 0 dPt))) ((((bt c ([c.p,c.q]++L)).getD 1 dPt))))) dS rfl rfl (bB (ae _)) (by decide) (by decide) (by decide) rfl rfl (fun cg2 rg2 hga2 hgb2 hgc2=>?_)
   refine jq<|bR<|fK 1<|b9 (i6 (r:=2) rfl rfl rfl rfl) ?_
   refine jq ?_
   exact⟨⟨⟨0,cg2,rg2⟩,by omega,by omega,hgb2,hgc2⟩,ak ⟨rfl,rfl,rfl,rfl,trivial⟩ ⟨rfl,by rw[sN (i:=0) _ (by omega),Ga,List.nil_append,dt];rfl,trivial⟩ rfl,by show(bt c ([c.p,c.q]++L)).length-0<(bt c ([c.p,c.q]++L)).length+1;omega⟩
  ·rintro⟨⟨n,cp,rs⟩,h3,h4,h5,h6⟩
   dsimp only at h3 h4 h5 h6
   show Dw _ _ ⟨56,[(2,.p 2 0),(7,.v (.c (.s (((bt c ([c.p,c.q]++L))).length) (aj al ((bt c ([c.p,c.q]++L))))))),(8,.o 54 (n+1) cp),(9,.v (.c (.i .i64 (((n+2:Nat):Int)))))],[(2,86,ao c),(54,86,aj ao (iQ c ((bt c ([c.p,c.q]++L)).take (n+2)))++rs)]⟩ _
   refine ab<|ab<|bR<|jq ?_
   refine aB rfl (fun hc3=>?_) (fun hc3=>?_)
   ·have g2:n+2<(bt c ([c.p,c.q]++L)).length:=by have:=of_decide_eq_true hc3;omega
    refine az<|ab<|aA<|ab<|bR<|b9 (eM (ae _) aZ rfl)<|sX (pP CA rfl) rfl<|fV (bG aZ rfl rfl rfl (ae _) rfl rfl) ?_
    refine bv<|ab<|pC 11 [10,999999] cZ (by kernel_rfl) rfl rfl<|dO 2<|bA (bQ (((n+1:Nat):Int)) ((bC (by omega) (by omega)).trans (congrArg some (by omega))) rfl)<|bA (aC (us:=al ((bt c ([c.p,c.q]++L)).getD (n+1) dPt)++aj al ((bt c ([c.p,c.q]++L)).drop ((n+1)+1))) ei rfl rfl (by omega) (ai aD _) (aQ aD (aK (by omega))) rfl) ?_
    refine bA (aJ (us:=al ((((bt c ([c.p,c.q]++L)).getD (n+1) dPt)))) bm rfl rfl rfl rfl) ?_
    refine dO 2<|bA (aC (us:=al ((bt c ([c.p,c.q]++L)).getD (n+2) dPt)++aj al ((bt c ([c.p,c.q]++L)).drop ((n+2)+1))) ei rfl rfl (by omega) (ai aD _) (aQ aD (aK (by omega))) rfl) ?_
    refine bA (aJ (us:=al ((((bt c ([c.p,c.q]++L)).getD (n+2) dPt)))) bm rfl rfl rfl rfl) ?_
    refine dO 1<|il (aV (us:=ao (c.setp ((((bt c ([c.p,c.q]++L)).getD (n+1) dPt))))) bm rfl rfl rfl rfl (by rw[ae];decide) (xS _ _) rfl) rfl rfl rfl rfl ?_
    refine nW<|te<|fK 1<|fV (aV (us:=ao (c.ends ((((bt c ([c.p,c.q]++L)).getD (n+1) dPt))) ((((bt c ([c.p,c.q]++L)).getD (n+2) dPt))))) bm rfl rfl rfl rfl (by rw[ae];decide) (xD _ _ _) rfl) ?_
    refine bv<|bR<|fK 1<|b9 (eM (ae _) aZ rfl)<|b9 (aS (n:=1) (us:=ao (c.ends ((((bt c ([c.p,c.q]++L)).getD (n+1) dPt))) ((((bt c ([c.p,c.q]++L)).getD (n+2) dPt))))) dS rfl (kz rfl (ae _)) (bB (ae _)) (by decide) (by decide) rfl) ?_
    refine kD (us:=aj ao (iQ c ((bt c ([c.p,c.q]++L)).take (n+2)))) (rest:=rs) (ys:=ao (c.ends ((((bt c ([c.p,c.q]++L)).getD (n+1) dPt))) ((((bt c ([c.p,c.q]++L)).getD (n+2) dPt))))) dS rfl rfl rfl (by rw[ai ae,g9,cX,de (by omega)];rfl) (by assumption) (bB (ae _)) (by decide) (by omega) (by assumption) (by omega) (go (by omega)) (.inl rfl) rfl (fun cg4 rg4 hga4 hgb4 hgc4=>?_)
    refine jq<|bR<|fK 1<|b9 (bQ (((n+1+2:Nat):Int)) ((aP (by omega) (by omega)).trans (congrArg some (by omega))) rfl)<|jq ?_
    exact⟨⟨⟨n+1,cg4,rg4⟩,by omega,by omega,hgb4,hgc4⟩,ak ⟨rfl,rfl,rfl,rfl,trivial⟩ ⟨rfl,by rw[sN (i:=n+1) _ (by omega),ck,dt];rfl,trivial⟩ rfl,by show(bt c ([c.p,c.q]++L)).length-(n+1)<(bt c ([c.p,c.q]++L)).length-n;omega⟩
   ·have g2:n+2=(bt c ([c.p,c.q]++L)).length:=by have:=of_decide_eq_false hc3;omega
    refine aW<|ab<|bR<|jq<|bI (t:=4) (m:=66) (us:=aj ao (iQ c ((bt c ([c.p,c.q]++L)).take (n+2)))) rfl rfl (ia (n:=n+1) (by rw[ai ae,g9,cX,de (by omega)];rfl) (by assumption) (by omega)) (by omega) (by assumption) (eg (by rw[ai ae,g9,cX,de (by omega)];rfl))<|bh ?_
    rw[show dM c L=iQ c ((bt c ([c.p,c.q]++L)).take (n+2)) from by rw[g2,tO];rfl,show(iQ c ((bt c ([c.p,c.q]++L)).take (n+2))).length=n+1 from by rw[g9,cX,de (by omega)];rfl]
    exact ag (am (am aa))
theorem Iw (hc:c.good):Ok Tryz.prog 135 [.a (ao c)] [.a (ao c.rev)]:=by
 cases c with
 |seg l f t=>exact HB hc.1 hc.2.1 hc.2.2
 |arc k w f t=>exact IX hc.1 hc.2.1 hc.2.2
theorem yj (hc:c.good) (hd:d.good):Ok Tryz.prog 95 [.a (ao c),.a (ao d)] [.c (.b (gJ c d))]:=by
 cases c with
 |seg l f t=>
  cases d with
  |seg m u v=>exact IL hc.1 hc.2.1 hc.2.2 hd.1 hd.2.1 hd.2.2
  |arc d w2 u v=>exact Hh hc.1 hc.2.1 hc.2.2 hd.1 hd.2.1 hd.2.2
 |arc k w f t=>
  cases d with
  |seg m u v=>exact Jt hc.1 hc.2.1 hc.2.2 hd.1 hd.2.1 hd.2.2
  |arc d w2 u v=>exact JL hc.1 hc.2.1 hc.2.2 hd.1 hd.2.1 hd.2.2
theorem OU (hc:c.good) (hd:d.good):Ok Tryz.prog 136 [.a (ao c),.a (ao d)] [.c (.s ((kv c d).length) (aj al (kv c d))),.c (.i .i64 (Ae c d))]:=by
 cases c with
 |seg l f t=>
  cases d with
  |seg m u v=>exact Lu hc.1 hc.2.1 hc.2.2 hd.1 hd.2.1 hd.2.2
  |arc d w2 u v=>exact K0 hc.1 hc.2.1 hc.2.2 hd.1 hd.2.1 hd.2.2
 |arc k w f t=>
  cases d with
  |seg m u v=>exact Lt hc.1 hc.2.1 hc.2.2 hd.1 hd.2.1 hd.2.2
  |arc d w2 u v=>exact KR hc.1 hc.2.1 hc.2.2 hd.1 hd.2.1 hd.2.2
theorem uP (hc:c.good) (hd:d.good):Ok Tryz.prog 98 [.a (ao c),.a (ao d)] [.c (.s (((br c d)).length) (aj al ((br c d)))),.c (.b (vU c d))]:=by
 have hM: ∀p∈(aN c d),GP p:=w9 hc hd
 have lM:(aN c d).length≤4:=vo
 have hML: ∀p∈(br c d),GP p:=BE hc hd
 have lML:(br c d).length≤4:=kU
 refine eG Tryz.func98 121 [.tmp 4,.tmp 5] rfl<|ab<|ah<|ab<|ah ?_
 refine ar (eM (ae _) aZ rfl) ?_
 refine ar (eM (ae _) aZ rfl) ?_
 refine ac rfl (yj hc hd)<|ab<|ah ?_
 refine ar (aU (us:=al c.p) bm rfl rfl (gS _) rfl rfl) ?_
 refine ar (aU (us:=al c.q) bm rfl rfl (jD _) rfl rfl) ?_
 refine ar (aU (us:=al d.p) bm rfl rfl (gS _) rfl rfl) ?_
 refine ar (aU (us:=al d.q) bm rfl rfl (jD _) rfl rfl) ?_
 refine ar (aS (n:=4) (us:=al c.p++al c.q++al d.p++al d.q) di rfl rfl rfl (by decide) (by decide) rfl) ?_
 refine dV (ι:=Unit) (fun i=>⟨121,[(2,.p 2 0),(3,.p 3 0),(6,.v (.c (.b (gJ c d)))),(7,.v (.c (.s (((aN c d)).length) (aj al ((aN c d))))))],[(2,86,ao c),(3,86,ao d)]⟩) ?_ ?_
 ·refine ab<|ah ?_
  refine aB rfl (fun hc1=>?_) (fun hc1=>?_)
  ·have m0:aN c d=kv c d:=JJ (by simpa using hc1)
   refine ah ?_
   refine ar (eM (ae _) aZ rfl) ?_
   refine ar (eM (ae _) aZ rfl) ?_
   refine ac rfl (OU hc hd) ?_
   exact⟨(),ak ⟨rfl,rfl,rfl,congrArg (fun q=>some (DV.v (.c (.s (List.length q) (aj al q))))) m0.symm,trivial⟩ ⟨rfl,rfl,trivial⟩ rfl⟩
  ·have m0:aN c d=[c.p,c.q,d.p,d.q]:=Hg (by simpa using hc1)
   refine az ?_
   exact⟨(),ak ⟨rfl,rfl,rfl,(congrArg (fun q=>some (DV.v (.c (.s 4 q)))) (RE _ _ _ _)).trans (congrArg (fun q=>some (DV.v (.c (.s (List.length q) (aj al q))))) m0.symm),trivial⟩ ⟨rfl,rfl,trivial⟩ rfl⟩
 ·rintro⟨⟩
  try dsimp only
  refine ab<|bR<|b9 (cg rfl) ?_
  refine bv ?_
  refine dV (ι:=Unit) (fun i=>⟨121,[(2,.p 2 0),(3,.p 3 0),(6,.v (.c (.b (gJ c d)))),(8,.v (.c (.s ((((aN c d).filter (cB c d))).length) (aj al (((aN c d).filter (cB c d)))))))],[(2,86,ao c),(3,86,ao d)]⟩) ?_ ?_
  ·refine ab<|ah<|aA ?_
   refine aY (ι:=Sum ({n:Nat // n≤(aN c d).length∧(((aN c d).take n).filter (cB c d))=[]}) ({x9:Nat×Nat×List CellD // x9.1≤(aN c d).length∧(((aN c d).take x9.1).filter (cB c d)).length≤x9.2.1∧x9.2.1≤maxLen∧x9.2.2.length=(x9.2.1-(((aN c d).take x9.1).filter (cB c d)).length)*20})) (fun i=>match i with| .inl i=>⟨121,[(2,.p 2 0),(3,.p 3 0),(6,.v (.c (.b (gJ c d)))),(7,.v (.c (.s (((aN c d)).length) (aj al ((aN c d)))))),(8,.z),(9,.v (.c (.i .i64 (i.1:Int))))],[(2,86,ao c),(3,86,ao d)]⟩| .inr i=>⟨121,[(2,.p 2 0),(3,.p 3 0),(6,.v (.c (.b (gJ c d)))),(7,.v (.c (.s (((aN c d)).length) (aj al ((aN c d)))))),(8,.o 58 ((((aN c d).take i.1.1).filter (cB c d)).length) i.1.2.1),(9,.v (.c (.i .i64 (i.1.1:Int))))],[(2,86,ao c),(3,86,ao d),(58,84,aj al (((aN c d).take i.1.1).filter (cB c d))++i.1.2.2)]⟩) (fun i=>match i with| .inl i=>(aN c d).length-i.1| .inr i=>(aN c d).length-i.1.1) (.inl ⟨0,cY _,rfl⟩) (ak ⟨rfl,rfl,rfl,rfl,rfl,rfl,trivial⟩ ⟨rfl,rfl,trivial⟩ rfl) ?_
   rintro(⟨n,h2,h3⟩|⟨⟨n,cp,rs⟩,h2,h3,h4,h5⟩)
   ·replace h2:n≤(aN c d).length:=h2
    replace h3:(((aN c d).take n).filter (cB c d))=[]:=h3
    dsimp only
    refine ab<|ab<|ah ?_
    refine aB rfl (fun hc2=>?_) (fun hc2=>?_)
    ·have g1:n<(aN c d).length:=by have:=of_decide_eq_true hc2;omega
     refine az<|ab<|aA<|ab<|dx 14 [] ?_
     refine aq (eM (ae _) aZ rfl) ?_
     refine aq (cU dPt aD g1 ei rfl) ?_
     refine aq (aJ (us:=al ((((aN c d).getD n dPt)))) bm rfl rfl rfl rfl) ?_
     refine aO rfl (BI hc (GP.getD hM n)) ?_
     refine pr (au rfl) (fun c3 hb3=>?_)
     cases c3
     ·have g2:(((aN c d).take (n+1)).filter (cB c d))=(((aN c d).take n).filter (cB c d)):=zg g1 (D8 hb3)
      refine bT rfl<|az<|ah<|ar (ba (by omega) rfl) ?_
      exact⟨.inl ⟨n+1,g1,by rw[g2];exact h3⟩,ak ⟨rfl,rfl,rfl,rfl,rfl,rfl,trivial⟩ ⟨rfl,rfl,trivial⟩ rfl,by show(aN c d).length-(n+1)<(aN c d).length-n;omega⟩
     ·refine aq (eM (ae _) aZ rfl)<|aq (cU dPt aD g1 ei rfl)<|aq (aJ (us:=al ((((aN c d).getD n dPt)))) bm rfl rfl rfl rfl) ?_
      refine aO rfl (BI hd (GP.getD hM n)) ?_
      refine aB rfl (fun hc4=>?_) (fun hc4=>?_)
      ·have g2:(((aN c d).take (n+1)).filter (cB c d))=(((aN c d).take n).filter (cB c d))++[((aN c d).getD n dPt)]:=G1 g1 (GA hb3 hc4)
       refine ah<|ar (cU dPt aD g1 ei rfl)<|ar (aJ (us:=al ((((aN c d).getD n dPt)))) bm rfl rfl rfl rfl) ?_
       refine ar (aS (n:=1) (us:=al ((((aN c d).getD n dPt)))) di rfl rfl rfl (by decide) (by decide) rfl) ?_
       refine DL.mk<|gN (ys:=al ((((aN c d).getD n dPt)))) di rfl rfl rfl (by decide) (by decide) (by decide) rfl rfl (fun cg5 rg5 hga5 hgb5 hgc5=>dC ?_)
       refine ah<|ar (ba (by omega) rfl) ?_
       exact⟨.inr ⟨⟨n+1,cg5,rg5⟩,g1,by show(((aN c d).take (n+1)).filter (cB c d)).length≤cg5;rw[g2,h3];exact hga5,hgb5,by show rg5.length=(cg5-(((aN c d).take (n+1)).filter (cB c d)).length)*20;rw[g2,h3];exact hgc5⟩,ak ⟨rfl,rfl,rfl,rfl,congrArg (fun q=>some (DV.o 58 q cg5)) (by rw[g2,h3];rfl),rfl,trivial⟩ ⟨rfl,rfl,congrArg (fun q=>some (84,q++rg5)) (by rw[g2,h3];exact(dt _).symm),trivial⟩ rfl,by show(aN c d).length-(n+1)<(aN c d).length-n;omega⟩
      ·have g2:(((aN c d).take (n+1)).filter (cB c d))=(((aN c d).take n).filter (cB c d)):=zg g1 (Em hc4)
       refine az<|ah<|ar (ba (by omega) rfl) ?_
       exact⟨.inl ⟨n+1,g1,by rw[g2];exact h3⟩,ak ⟨rfl,rfl,rfl,rfl,rfl,rfl,trivial⟩ ⟨rfl,rfl,trivial⟩ rfl,by show(aN c d).length-(n+1)<(aN c d).length-n;omega⟩
    ·have g1:(aN c d).length≤n:=by have:=of_decide_eq_false hc2;omega
     have m1:((aN c d).filter (cB c d))=[]:=by rw[←h3,fp g1]
     refine mH (t:=8) rfl<|aW ?_
     exact⟨(),ak ⟨rfl,rfl,rfl,congrArg (fun q=>some (DV.v (.c (.s (List.length q) (aj al q))))) m1.symm,trivial⟩ ⟨rfl,rfl,trivial⟩ rfl⟩
   ·dsimp only at h2 h3 h4 h5
    have h6:(((aN c d).take n).filter (cB c d)).length≤4:=iz (List.length_filter_le _ _) (by rw[cX];omega)
    dsimp only
    refine ab<|ab<|ah ?_
    refine aB rfl (fun hc6=>?_) (fun hc6=>?_)
    ·have g1:n<(aN c d).length:=by have:=of_decide_eq_true hc6;omega
     refine az<|ab<|aA<|ab<|dx 14 [] ?_
     refine aq (eM (ae _) aZ rfl) ?_
     refine aq (cU dPt aD g1 ei rfl) ?_
     refine aq (aJ (us:=al ((((aN c d).getD n dPt)))) bm rfl rfl rfl rfl) ?_
     refine aO rfl (BI hc (GP.getD hM n)) ?_
     refine pr (au rfl) (fun c7 hb7=>?_)
     cases c7
     ·have g2:(((aN c d).take (n+1)).filter (cB c d))=(((aN c d).take n).filter (cB c d)):=zg g1 (D8 hb7)
      refine bT rfl<|az<|ah<|ar (ba (by omega) rfl) ?_
      exact⟨.inr ⟨⟨n+1,cp,rs⟩,g1,by show(((aN c d).take (n+1)).filter (cB c d)).length≤cp;rw[g2];exact h3,h4,by show rs.length=(cp-(((aN c d).take (n+1)).filter (cB c d)).length)*20;rw[g2];exact h5⟩,ak ⟨rfl,rfl,rfl,rfl,congrArg (fun q=>some (DV.o 58 q cp)) (by rw[g2]),rfl,trivial⟩ ⟨rfl,rfl,congrArg (fun q=>some (84,q++rs)) (by rw[g2]),trivial⟩ rfl,by show(aN c d).length-(n+1)<(aN c d).length-n;omega⟩
     ·refine aq (eM (ae _) aZ rfl)<|aq (cU dPt aD g1 ei rfl)<|aq (aJ (us:=al ((((aN c d).getD n dPt)))) bm rfl rfl rfl rfl) ?_
      refine aO rfl (BI hd (GP.getD hM n)) ?_
      refine aB rfl (fun hc8=>?_) (fun hc8=>?_)
      ·have g2:(((aN c d).take (n+1)).filter (cB c d))=(((aN c d).take n).filter (cB c d))++[((aN c d).getD n dPt)]:=G1 g1 (GA hb7 hc8)
       refine ah<|ar (cU dPt aD g1 ei rfl)<|ar (aJ (us:=al ((((aN c d).getD n dPt)))) bm rfl rfl rfl rfl) ?_
       refine ar (aS (n:=1) (us:=al ((((aN c d).getD n dPt)))) di rfl rfl rfl (by decide) (by decide) rfl) ?_
       refine DL.mk<|kD (us:=aj al (((aN c d).take n).filter (cB c d))) (rest:=rs) (ys:=al ((((aN c d).getD n dPt)))) di rfl rfl rfl (ai aD _) (by assumption) rfl (by decide) (by omega) (by assumption) (by omega) (go (by omega)) (.inl rfl) rfl (fun cg9 rg9 hga9 hgb9 hgc9=>dC ?_)
       refine ah<|ar (ba (by omega) rfl) ?_
       exact⟨.inr ⟨⟨n+1,cg9,rg9⟩,g1,by show(((aN c d).take (n+1)).filter (cB c d)).length≤cg9;rw[g2,bN];exact hga9,hgb9,by show rg9.length=(cg9-(((aN c d).take (n+1)).filter (cB c d)).length)*20;rw[g2,bN];exact hgc9⟩,ak ⟨rfl,rfl,rfl,rfl,congrArg (fun q=>some (DV.o 58 q cg9)) (by rw[g2,bN];rfl),rfl,trivial⟩ ⟨rfl,rfl,congrArg (fun q=>some (84,q++rg9)) (by rw[g2,ck,dt]),trivial⟩ rfl,by show(aN c d).length-(n+1)<(aN c d).length-n;omega⟩
      ·have g2:(((aN c d).take (n+1)).filter (cB c d))=(((aN c d).take n).filter (cB c d)):=zg g1 (Em hc8)
       refine az<|ah<|ar (ba (by omega) rfl) ?_
       exact⟨.inr ⟨⟨n+1,cp,rs⟩,g1,by show(((aN c d).take (n+1)).filter (cB c d)).length≤cp;rw[g2];exact h3,h4,by show rs.length=(cp-(((aN c d).take (n+1)).filter (cB c d)).length)*20;rw[g2];exact h5⟩,ak ⟨rfl,rfl,rfl,rfl,congrArg (fun q=>some (DV.o 58 q cp)) (by rw[g2]),rfl,trivial⟩ ⟨rfl,rfl,congrArg (fun q=>some (84,q++rs)) (by rw[g2]),trivial⟩ rfl,by show(aN c d).length-(n+1)<(aN c d).length-n;omega⟩
    ·have g1:(aN c d).length≤n:=by have:=of_decide_eq_false hc6;omega
     have m1:((aN c d).filter (cB c d))=(((aN c d).take n).filter (cB c d)):=by rw[fp g1]
     refine bI (t:=8) (m:=20) (us:=aj al (((aN c d).take n).filter (cB c d))) rfl rfl (ia (n:=(((aN c d).take n).filter (cB c d)).length) (ai aD _) (by assumption) (by omega)) (by omega) (by assumption) (eg (ai aD _))<|aW ?_
     exact⟨(),ak ⟨rfl,rfl,rfl,congrArg (fun q=>some (DV.v (.c (.s (List.length q) (aj al q))))) m1.symm,trivial⟩ ⟨rfl,rfl,trivial⟩ rfl⟩
  ·rintro⟨⟩
   try dsimp only
   refine ab<|ah ?_
   refine ar (eM (ae _) aZ rfl) ?_
   refine ac rfl (Eg hc (fun p hp=>hM p (List.mem_filter.1 hp).1) (iz (List.length_filter_le _ _) (by omega)))<|ab<|ah ?_
   refine dV (ι:=Unit) (fun i=>⟨121,[(3,.p 3 0),(6,.v (.c (.b (gJ c d)))),(8,.v (.c (.s (((br c d)).length) (aj al ((br c d)))))),(10,.v (.c (.b false)))],[(3,86,ao (fS c d))]⟩) ?_ ?_
   ·refine ab<|dx 31 [] ?_
    refine aq (bW iX rfl rfl (mS _) rfl) ?_
    refine pr (au rfl) (fun c10 hb10=>?_)
    cases c10
    ·refine aq (au rfl)<|aq (au rfl) ?_
     refine aq (bW iX rfl rfl (mS _) rfl) ?_
     refine pr (au rfl) (fun c11 hb11=>?_)
     cases c11
     ·exact absurd hb11 (by rw[hb10];decide)
     ·refine aq (aU (us:=al c.p) bm rfl rfl (gS _) rfl rfl) ?_
      refine aq (aU (us:=al c.q) bm rfl rfl (jD _) rfl rfl) ?_
      refine aO rfl (kg (dD hc) (eA hc)) ?_
      refine aq (aU (us:=al d.p) bm rfl rfl (gS _) rfl rfl) ?_
      refine aq (aU (us:=al d.q) bm rfl rfl (jD _) rfl rfl) ?_
      refine aO rfl (kg (dD hd) (eA hd)) ?_
      refine aB rfl (fun hc12=>?_) (fun hc12=>?_)
      ·have m2:(fS c d)=d.rev:=Sp hb10 hc12
       refine ah ?_
       refine ar (eM (ae _) aZ rfl) ?_
       refine ac rfl (Iw hd) ?_
       refine om (bG aZ rfl rfl rfl (ae _) (ae _) rfl) ?_
       exact⟨(),ak ⟨rfl,rfl,rfl,rfl,trivial⟩ ⟨congrArg (fun q=>some (86,ao q)) m2.symm,trivial⟩ rfl⟩
      ·have m2:(fS c d)=d:=SZ hb10 hc12
       refine az ?_
       exact⟨(),ak ⟨rfl,rfl,rfl,rfl,trivial⟩ ⟨congrArg (fun q=>some (86,ao q)) m2.symm,trivial⟩ rfl⟩
    ·refine aq (bW iX rfl rfl (mS _) rfl) ?_
     refine pr (au rfl) (fun c13 hb13=>?_)
     cases c13
     ·refine aq (au rfl) ?_
      refine aq (bW iX rfl rfl (mS _) rfl) ?_
      refine pr (au rfl) (fun c14 hb14=>?_)
      cases c14
      ·have m2:(fS c d)=d:=Sy hb10 hb13
       refine bT rfl<|az ?_
       exact⟨(),ak ⟨rfl,rfl,rfl,rfl,trivial⟩ ⟨congrArg (fun q=>some (86,ao q)) m2.symm,trivial⟩ rfl⟩
      ·exact absurd hb14 (by rw[hb10];decide)
     ·refine aq (bW iX rfl rfl (rW _) rfl) ?_
      refine aq (bW iX rfl rfl (rW _) rfl) ?_
      refine aq (fL rfl rfl fi rfl) ?_
      refine pr (au rfl) (fun c15 hb15=>?_)
      cases c15
      ·refine aq (bW iX rfl rfl (mS _) rfl) ?_
       refine pr (au rfl) (fun c16 hb16=>?_)
       cases c16
       ·have m2:(fS c d)=d:=SM hb10 hb13 hb15
        refine bT rfl<|az ?_
        exact⟨(),ak ⟨rfl,rfl,rfl,rfl,trivial⟩ ⟨congrArg (fun q=>some (86,ao q)) m2.symm,trivial⟩ rfl⟩
       ·exact absurd hb16 (by rw[hb10];decide)
      ·have m2:(fS c d)=d.rev:=SI hb10 hb13 hb15
       refine DQ.mk<|kN (eB rfl)<|ez ?_
       refine iB rfl<|ah ?_
       refine ar (eM (ae _) aZ rfl) ?_
       refine ac rfl (Iw hd) ?_
       refine om (bG aZ rfl rfl rfl (ae _) (ae _) rfl) ?_
       exact⟨(),ak ⟨rfl,rfl,rfl,rfl,trivial⟩ ⟨congrArg (fun q=>some (86,ao q)) m2.symm,trivial⟩ rfl⟩
   ·rintro⟨⟩
    try dsimp only
    refine ab<|ab<|ah<|aA<|aY (ι:={r:Nat //(r=0∨r+1≤(br c d).length)∧(gJ c d=false→r=0)}) (fun i=>⟨121,[(3,.p 3 0),(6,.v (.c (.b (gJ c d)))),(8,.v (.c (.s (((br c d)).length) (aj al ((br c d)))))),(10,.v (.c (.b (FE (fS c d) (br c d) i.1)))),(11,.v (.c (.i .i64 (((i.1+1:Nat):Int)))))],[(3,86,ao (fS c d))]⟩) (fun i=>(br c d).length-i.1) ⟨0,.inl rfl,fun _=>rfl⟩ (ak ⟨rfl,rfl,rfl,rfl,rfl,trivial⟩ ⟨rfl,trivial⟩ rfl) ?_
    rintro⟨r,h2,h3⟩
    replace h2:r=0∨r+1≤(br c d).length:=h2
    replace h3:gJ c d=false→r=0:=h3
    dsimp only
    refine ab<|ab<|ah ?_
    refine dF (au rfl) (fun c17 hb17=>?_)
    cases c17
    ·have m3:vU c d=false:=L0 hb17
     refine bT rfl<|aW<|ab<|ah<|bh ?_
     rw[show vU c d=FE (fS c d) (br c d) r from by rw[m3,h3 hb17];rfl]
     exact ag (am (am aa))
    ·have m4:gJ c d=true:=hb17
     refine aB rfl (fun hc18=>?_) (fun hc18=>?_)
     ·have g3:r+1<(br c d).length:=by have:=of_decide_eq_true hc18;omega
      refine az<|ab<|aA<|dx 16 [] ?_
      refine pr (au rfl) (fun c19 hb19=>?_)
      cases c19
      ·have g4:FE (fS c d) (br c d) (r+1)=decide ((fS c d).ord ((br c d).getD r dPt) ((br c d).getD (r+1) dPt)<0):=Rx hb19
       refine aq (eM (ae _) aZ rfl)<|aq (bQ (((r:Nat):Int)) ((bC (by omega) (by omega)).trans (congrArg some (by omega))) rfl)<|aq (aC (us:=al ((br c d).getD r dPt)++aj al ((br c d).drop (r+1))) ei rfl rfl (by omega) (ai aD _) (aQ aD (aK (by omega))) rfl) ?_
       refine aq (aJ (us:=al ((((br c d).getD r dPt)))) bm rfl rfl rfl rfl) ?_
       refine aq (aC (us:=al ((br c d).getD (r+1) dPt)++aj al ((br c d).drop ((r+1)+1))) ei rfl rfl (by omega) (ai aD _) (aQ aD (aK (by omega))) rfl) ?_
       refine aq (aJ (us:=al ((((br c d).getD (r+1) dPt)))) bm rfl rfl rfl rfl) ?_
       refine aO rfl (I7 (CR hd) (GP.getD hML _) (GP.getD hML _))<|ah<|ar (bQ (((r+1+1:Nat):Int)) ((aP (by omega) (by omega)).trans (congrArg some (by omega))) rfl) ?_
       exact⟨⟨r+1,.inr (by omega),fun h=>absurd h (by rw[m4];decide)⟩,ak ⟨rfl,rfl,rfl,congrArg (fun q=>some (DV.v (.c (.b q)))) g4.symm,rfl,trivial⟩ ⟨rfl,trivial⟩ rfl,by show(br c d).length-(r+1)<(br c d).length-r;omega⟩
      ·have g4:FE (fS c d) (br c d) (r+1)=true:=Q2 hb19
       refine ah<|ar (bQ (((r+1+1:Nat):Int)) ((aP (by omega) (by omega)).trans (congrArg some (by omega))) rfl) ?_
       exact⟨⟨r+1,.inr (by omega),fun h=>absurd h (by rw[m4];decide)⟩,ak ⟨rfl,rfl,rfl,congrArg (fun q=>some (DV.v (.c (.b q)))) g4.symm,rfl,trivial⟩ ⟨rfl,trivial⟩ rfl,by show(br c d).length-(r+1)<(br c d).length-r;omega⟩
     ·have g3:(br c d).length≤r+1:=by have:=of_decide_eq_false hc18;omega
      refine aW<|ab<|ah<|bh ?_
      rw[L3 hb17 (by omega:(br c d).length-1=r)]
      exact ag (am (am aa))
theorem LU {c d:Rat}(ha:Rz 1 a) (hb:Rz 1 b) (hc:Rz 1 c) (hd:Rz 1 d) (hn:b-d=0∧c-a=0):Ok Tryz.prog 174 [.a ((cR a++cR b)),.a ((cR c++cR d))] [.a (kW),.c (.i .i64 6)]:=by
 refine bS Tryz.func174 rfl<|cS 12 [] ?_
 refine aO rfl (mP (bd hb) (bd hd)) ?_
 refine aO rfl (mP (bd hc) (bd ha)) ?_
 refine aq (aG (us:=(cR (b-d)++cR (c-a)++Ho)) LA G3 rfl rfl rfl) ?_
 refine ac rfl (bF) ?_
 refine dF (au rfl) (fun c1 hb1=>?_)
 cases c1
 ·exact absurd hb1 (by simp[gM.2 hn.1])
 ·refine ac rfl (bF) ?_
  refine cd rfl (fun hc2=>?_) (fun hc2=>?_)
  ·refine ar (aG (us:=kW) LA G3 rfl rfl rfl) ?_
   exact ag (bb ud rfl (am aa))
  ·exact absurd hc2 (by simp[gM.2 hn.2])
theorem P8 {c d:Rat}(ha:Rz 1 a) (hb:Rz 1 b) (hc:Rz 1 c) (hd:Rz 1 d) (hn: ¬(b-d=0∧c-a=0)):Ok Tryz.prog 174 [.a ((cR a++cR b)),.a ((cR c++cR d))] [.a ((cR (b-d)++cR (c-a)++cR ((b-d)*a+(c-a)*b))),.c (.i .i64 0)]:=by
 refine bS Tryz.func174 rfl<|cS 12 [] ?_
 refine aO rfl (mP (bd hb) (bd hd)) ?_
 refine aO rfl (mP (bd hc) (bd ha)) ?_
 refine aq (aG (us:=(cR (b-d)++cR (c-a)++Ho)) LA G3 rfl rfl rfl) ?_
 refine ac rfl (bF) ?_
 refine dF (au rfl) (fun c1 hb1=>?_)
 cases c1
 ·refine nE rfl<|cS 12 [] ?_
  refine aO rfl (dr (bd (jA hb hd)) (bd ha)) ?_
  refine aO rfl (dr (bd (jA hc ha)) (bd hb)) ?_
  refine aO rfl (mW (bd (bj (jA hb hd) ha)) (bd (bj (jA hc ha) hb))) ?_
  refine om (aV (us:=(cR (b-d)++cR (c-a)++cR (((b-d)*a)+((c-a)*b)))) bZ rfl rfl rfl rfl (dG rfl) rfl rfl) ?_
  exact ag (bb ud rfl (am aa))
 ·refine ac rfl (bF) ?_
  refine cd rfl (fun hc2=>?_) (fun hc2=>?_)
  ·exact absurd ⟨gM.1 (by simpa using hb1),gM.1 (by simpa using hc2)⟩ hn
  ·refine cS 12 [] ?_
   refine aO rfl (dr (bd (jA hb hd)) (bd ha)) ?_
   refine aO rfl (dr (bd (jA hc ha)) (bd hb)) ?_
   refine aO rfl (mW (bd (bj (jA hb hd) ha)) (bd (bj (jA hc ha) hb))) ?_
   refine om (aV (us:=(cR (b-d)++cR (c-a)++cR (((b-d)*a)+((c-a)*b)))) bZ rfl rfl rfl rfl (dG rfl) rfl rfl) ?_
   exact ag (bb ud rfl (am aa))
theorem En {c d:Rat}(ha:Rz 1 a) (hb:Rz 1 b) (hc:Rz 1 c) (hd:Rz 1 d) (hn:b-d=0∧c-a=0):Ok Tryz.prog 145 [.a ((cR a++cR b)),.a ((cR c++cR d))] [.a (([.b false]++kW++kW++[.b false]++PV++PV)),.c (.i .i64 6)]:=by
 refine eG Tryz.func145 23 [.cell 4 86,.tmp 5] rfl<|ab<|ah<|ab<|ah ?_
 refine ac rfl (LU ha hb hc hd hn)<|ab<|ab<|ah ?_
 refine iB rfl<|ab<|bR<|b9 (aG (us:=([.b false]++kW++kW++[.b false]++PV++PV)) Ms CA rfl rfl rfl) ?_
 refine jq<|bh ?_
 exact ag (kX (us:=([.b false]++kW++kW++[.b false]++PV++PV)) aZ rfl rfl (by kernel_rfl) (by kernel_rfl) (am aa))
theorem Nw {c d:Rat}(ha:Rz 1 a) (hb:Rz 1 b) (hc:Rz 1 c) (hd:Rz 1 d) (hn: ¬(b-d=0∧c-a=0)):Ok Tryz.prog 145 [.a ((cR a++cR b)),.a ((cR c++cR d))] [.a (([.b false]++dZ (O6 a b c d)++kW++[.b false]++al (rP a b)++al (rP c d))),.c (.i .i64 0)]:=by
 refine eG Tryz.func145 23 [.cell 4 86,.tmp 5] rfl<|ab<|ah<|ab<|ah ?_
 refine ac rfl (P8 ha hb hc hd hn)<|ab<|ab<|ah ?_
 refine bT rfl<|az<|ab<|nj 6 rfl rfl<|dO 2 ?_
 refine bA (mg rfl (rU))<|dO 1<|bA (mg rfl (rU))<|bA (aG (us:=([.b false]++(cR (b-d)++cR (c-a)++cR ((b-d)*a+(c-a)*b))++kW++[.b false]++(cR a++cR 0++cR b++cR 0++cR 0)++(cR c++cR 0++cR d++cR 0++cR 0))) Ms CA rfl rfl rfl) ?_
 refine nW<|dh<|jq<|bh ?_
 exact ag (kX (us:=([.b false]++(cR (b-d)++cR (c-a)++cR ((b-d)*a+(c-a)*b))++kW++[.b false]++(cR a++cR 0++cR b++cR 0++cR 0)++(cR c++cR 0++cR d++cR 0++cR 0))) aZ rfl rfl (by kernel_rfl) (by kernel_rfl) (am aa))
theorem ND (hk:GK k):Ok Tryz.prog 62 [.a (cr k)] [.a (al (kQ k)),.a (al (kC k))]:=by
 have o1:Rz 6000000 (1:Rat):=kP.m_
 refine bS Tryz.func62 rfl<|ac rfl (ya (eu (by decide) (by decide)) (show((1:Int):Rat)=1 from rfl))<|ac rfl (ya (eu (by decide) (by decide)) (show((0:Int):Rat)=0 from rfl))<|cS 19 [] ?_
 refine aO rfl (si o1) ?_
 refine aO rfl (EU (hk.x.m_) (kP.neg.m_) (hk.y.m_) (jV (by decide)) (hk.q.m_)) ?_
 refine aO rfl (EU (hk.x.m_) (kP.m_) (hk.y.m_) (jV (by decide)) (hk.q.m_)) ?_
 exact ag (bb bm rfl (bb bm rfl aa))
theorem Mo (hk:GK k):Ok Tryz.prog 36 [.a (cr k)] [.c (.s 2 (aj (Nj kW) (ju k)))]:=by
 refine eG Tryz.func36 19 [.tmp 2] rfl<|ab<|ah<|ab<|ah ?_
 refine ac rfl (ND hk)<|ab<|bR<|fK 3 ?_
 refine b9 (aG (us:=([.b true]++kW++cr k++[.b false]++al (kQ k)++al (kC k))) Ms CA rfl rfl rfl) ?_
 refine fK 3<|b9 (aG (us:=([.b true]++kW++cr k++[.b false]++al (kC k)++al (kQ k))) Ms CA rfl rfl rfl) ?_
 refine b9 (aS (n:=2) (us:=([.b true]++kW++cr k++[.b false]++al (kQ k)++al (kC k))++([.b true]++kW++cr k++[.b false]++al (kC k)++al (kQ k))) dS rfl (by kernel_rfl) (by kernel_rfl) (by decide) (by decide) rfl) ?_
 refine jq<|bh ?_
 exact ag (am aa)
theorem Gu (hk:GK k):Ok Tryz.prog 36 [.a (cr k)] [.c (.s ((ju k).length) (aj ao (ju k)))]:=(Mo hk).wks ((Ta rfl _ _ _ _).app ((Ta rfl _ _ _ _).app .nil))
theorem ye (hk:GK k) (hf:GP f) (ht:GP t) (hp:GP p):Ok Tryz.prog 134 [.a (([.b true]++pZ++cr k++[.b w]++al f++al t)),.a (al p)] [.c (.b ((Cv.arc k w f t).inner p))]:=by
 refine bS Tryz.func134 rfl ?_
 refine ar (jo aZ rfl) ?_
 refine ac rfl (MK hk hf ht hp) ?_
 refine dF (au rfl) (fun c1 hb1=>?_)
 cases c1
 ·refine ar (au rfl)<|ag ?_
  rw[R1 (c:=(Cv.arc k w f t)) (p:=p) hb1]
  exact am aa
 ·refine ar (dy (al f) bm rfl (by kernel_rfl)) ?_
  refine ac rfl (mn hf hp) ?_
  refine dF (au rfl) (fun c2 hb2=>?_)
  cases c2
  ·refine ag ?_
   rw[N4 (c:=(Cv.arc k w f t)) (p:=p) hb1 hb2]
   exact am aa
  ·refine ar (dy (al t) bm rfl (by kernel_rfl)) ?_
   refine ac rfl (mn ht hp)<|ag ?_
   rw[Od (c:=(Cv.arc k w f t)) (p:=p) hb1 hb2]
   exact am aa
theorem Tg {q:Pt}(hp:GP p) (hq:GP q):Ok Tryz.prog 217 [.a ((cR p.a1++cR p.b1++cR (zc p.b1 p.c))),.a ((cR q.a1++cR q.b1++cR (zc q.b1 q.c)))] [.c (.b (cx p q==0))]:=by
 refine bS Tryz.func217 rfl ?_
 refine ac rfl (SX hp hq) ?_
 exact ag (am aa)
theorem ER (_hl:GL l) (hf:GP f) (ht:GP t):Ok Tryz.prog 191 [.a (([.b false]++dZ l++kW++[.b false]++al f++al t))] [.c (.b ((Cv.seg l f t).vert))]:=by
 refine bS Tryz.func191 rfl<|cS 13 [] ?_
 refine aq (eL iX rfl) ?_
 refine aq (au rfl) ?_
 refine aq (dy (al f) bm rfl (by kernel_rfl)) ?_
 refine aO rfl (mK) ?_
 refine aq (dy (al t) bm rfl (by kernel_rfl)) ?_
 refine aO rfl (mK) ?_
 refine aO rfl (Tg hf ht) ?_
 exact ag (am aa)
theorem DR (_hk:GK k) (_hf:GP f) (_ht:GP t):Ok Tryz.prog 191 [.a (([.b true]++pZ++cr k++[.b w]++al f++al t))] [.c (.b ((Cv.arc k w f t).vert))]:=by
 refine bS Tryz.func191 rfl<|cS 13 [] ?_
 refine aq (eL iX rfl) ?_
 refine aq (au rfl) ?_
 exact ag (am aa)
theorem yK (hc:CvV c):Ok Tryz.prog 135 [.a (ao c)] [.a (ao c.rev)]:=by
 cases c with
 |seg l f t=>exact HB hc.g.1 hc.g.2.1 hc.g.2.2
 |arc k w f t=>exact IX hc.g.1 hc.g.2.1 hc.g.2.2
theorem LV {c:Rat}(ha:Rz 6000000 a) (hb:Rz 6000000 b):Ok Tryz.prog 196 [.a ((cR a++cR b++cR c))] [.a ((cR (-a)++cR (-b)++cR c))]:=by
 refine bS Tryz.func196 rfl<|cS 9 [] ?_
 refine aO rfl (dP (bd ha)) ?_
 refine aO rfl (dP (bd hb)) ?_
 refine aq (aG (us:=(cR (-a)++cR (-b)++cR c)) BO xr rfl rfl rfl) ?_
 exact ag (bb fR rfl aa)
theorem Gy:Ok Tryz.prog 220 [] [dR 1]:=by
 refine bS Tryz.func220 rfl<|ac rfl (ya (eu (by decide) (by decide)) (show((1:Int):Rat)=1 from rfl)) ?_
 exact ag (bb bZ rfl aa)
theorem JI {c:Rat}(ha:Rz 400000 a) (hb:Rz 400000 b) (hc:Rz 400000 c) (h1:s3 a b c≠0) (h2:a*a-b*b*c≠0):Ok Tryz.prog 194 [.a ((cR a++cR b++cR c))] [.a ((cR (a*yw a b c)++cR (rB (-(b*yw a b c)) c)++cR (rC (-(b*yw a b c)) c))),.c (.i .i64 0)]:=by
 have ka:Rz 6000000 a:=ha.m_
 have kb:Rz 6000000 b:=hb.m_
 have o1:Rz 6000000 (1:Rat):=kP.m_
 have n0:Rz 2000100 (a*a-b*b*c):=((ha.mul ha).sub ((hb.mul hb).mul hc)).m_
 have n1:Rz 2000400 (yw a b c):=(kP.div n0 h2).m_
 have n2:Rz 6000000 (yw a b c):=n1.m_
 have n3:Rz 6000000 (b*yw a b c):=(hb.mul n1).m_
 have n4:Rz 6000000 (a*a-b*b*c):=n0.m_
 refine bS Tryz.func194 rfl<|ac rfl (lJ (ha.m_) (hb.m_) (hc.m_)) ?_
 refine cd rfl (fun hc1=>?_) (fun hc1=>?_)
 ·exact absurd (by simpa using hc1) h1
 ·refine cS 10 [4,999999]<|aO rfl (Gy) ?_
  refine aO rfl (vH (ha.m_) (hb.m_) (hc.m_)) ?_
  refine aO rfl ((show Ok Tryz.prog 192 _ [dR (yw a b c),.c (.i .i64 0)] from we o1 n4 h2)) ?_
  refine DQ.mk<|kq (fI bZ rfl) rfl rfl rfl rfl<|ez ?_
  refine cS 12 [] ?_
  refine aO rfl (bV (by first|assumption|exact dX ha (by decide)) (by first|assumption|exact dX (by assumption) (by decide))) ?_
  refine aO rfl (bV (by first|assumption|exact dX hb (by decide)) (by first|assumption|exact dX (by assumption) (by decide))) ?_
  refine aO rfl (dP (by first|assumption|exact dX (bj hb (by assumption)) (by decide))) ?_
  refine aO rfl (kF) ?_
  exact ag (bb fR rfl (am aa))
theorem Pe (hl:GL l) (hf:GP f) (ht:GP t) (_hp:GP p) (hv:cx f t=0) (_h0:l.b=0):Ok Tryz.prog 163 [.a (([.b false]++dZ l++kW++[.b false]++al f++al t)),.a (al p)] [.a (([.i .i64 2]++kW))]:=by
 refine bS Tryz.func163 rfl<|ar (jo aZ rfl)<|ac rfl (ER hl hf ht) ?_
 refine cd rfl (fun hc1=>?_) (fun hc1=>?_)
 ·refine ar (aG (us:=([.i .i64 2]++kW)) Ac xF rfl rfl rfl) ?_
  refine om (fI oh rfl) ?_
  exact ag (bb oh rfl aa)
 ·exact absurd hc1 (by rw[show(Cv.seg l f t).vert=(cx f t==0) from rfl,hv];decide)
theorem Ov (hl:GL l) (hf:GP f) (ht:GP t) (_hp:GP p) (hv:cx f t≠0) (h0:l.b≠0):Ok Tryz.prog 163 [.a (([.b false]++dZ l++kW++[.b false]++al f++al t)),.a (al p)] [.a (([.i .i64 0]++(cR (-l.a/l.b)++cR 0++cR 0)))]:=by
 refine bS Tryz.func163 rfl<|ar (jo aZ rfl)<|ac rfl (ER hl hf ht) ?_
 refine cd rfl (fun hc1=>?_) (fun hc1=>?_)
 ·exact absurd (by simpa using(show(cx f t==0)=true from hc1)) hv
 ·refine ar (eL iX rfl)<|kG rfl<|cS 14 [5,999999] ?_
  refine aq (dy (cR l.a) bZ rfl (by kernel_rfl)) ?_
  refine aO rfl (dP (by first|assumption|exact hl.a.m_)) ?_
  refine aq (dy (cR l.b) bZ rfl (by kernel_rfl))<|aO rfl (we (hl.a.neg.m_) (hl.b.m_) h0) ?_
  refine DQ.mk<|kq (fI bZ rfl) rfl rfl rfl rfl<|ez ?_
  refine ac rfl (je)<|ar (aG (us:=([.i .i64 0]++(cR (-l.a/l.b)++cR 0++cR 0))) Ac xF rfl rfl rfl) ?_
  refine om (fI oh rfl) ?_
  exact ag (bb oh rfl aa)
theorem Oc (hk:GK k) (hf:GP f) (ht:GP t) (hp:GP p) (h0:lZ p k.y=0):Ok Tryz.prog 163 [.a (([.b true]++pZ++cr k++[.b w]++al f++al t)),.a (al p)] [.a (([.i .i64 (if w then 1 else-1)]++kW))]:=by
 obtain⟨d1,d2⟩:=N2 hk hp
 have hz1:Rz 78 (zc p.b1 p.c):=Rz.zc hp.c (by decide)
 have hz2:Rz 78 (zc p.b2 p.c):=Rz.zc hp.c (by decide)
 have kx:Rz 6000000 k.x:=hk.x.m_
 have ky:Rz 6000000 k.y:=hk.y.m_
 have zf:Rz 500000 (0:Rat):=jV (by decide)
 have j1:Rz 6000000 (p.a1-k.x):=d1.m_
 have j2:Rz 6000000 p.b1:=hp.b1.m_
 refine bS Tryz.func163 rfl<|ar (jo aZ rfl)<|ac rfl (DR hk hf ht)<|nE rfl<|ar (eL iX rfl)<|nE rfl<|cS 8 [] ?_
 refine aO rfl (mK) ?_
 refine aq (dy (cR k.x) bZ rfl (by kernel_rfl)) ?_
 refine aO rfl (dP (by first|assumption|exact hl.a.m_)) ?_
 refine aO rfl (nT (jf (hp.a1.m_) (hk.x.neg.m_)) (xb _ _) rfl rfl)<|cS 8 [] ?_
 refine aO rfl (sJ) ?_
 refine aq (dy (cR k.y) bZ rfl (by kernel_rfl)) ?_
 refine aO rfl (dP (by first|assumption|exact hl.a.m_)) ?_
 refine aO rfl (nT (jf (hp.a2.m_) (hk.y.neg.m_)) (xb _ _) rfl rfl)<|ac rfl (Ko (lJ (d2.m_) (hp.b2.m_) (hz2.m_)) (JP hp)) ?_
 refine cd rfl (fun hc1=>?_) (fun hc1=>?_)
 ·refine ar (eL iX rfl) ?_
  refine cd rfl (fun hc2=>?_) (fun hc2=>?_)
  ·refine ar (aG (us:=([.i .i64 1]++kW)) Ac xF rfl rfl rfl) ?_
   refine om (fI oh rfl)<|ag ?_
   rw[show(if w then 1 else-1:Int)=1 from if_pos hc2]
   exact bb oh rfl aa
  ·refine ar (aG (us:=([.i .i64 (-1)]++kW)) Ac xF rfl rfl rfl) ?_
   refine om (fI oh rfl)<|ag ?_
   rw[show(if w then 1 else-1:Int)= -1 from if_neg (by rw[hc2];decide)]
   exact bb oh rfl aa
 ·exact absurd hc1 (by rw[h0];decide)
theorem Pg (hk:GK k) (hf:GP f) (ht:GP t) (hp:GP p) (h0:lZ p k.y≠0):Ok Tryz.prog 163 [.a (([.b true]++pZ++cr k++[.b w]++al f++al t)),.a (al p)] [.a (([.i .i64 0]++(cR (Gk k p)++cR (pW k p)++cR (zc (pW k p) p.c))))]:=by
 obtain⟨d1,d2⟩:=N2 hk hp
 have hz1:Rz 78 (zc p.b1 p.c):=Rz.zc hp.c (by decide)
 have hz2:Rz 78 (zc p.b2 p.c):=Rz.zc hp.c (by decide)
 have kx:Rz 6000000 k.x:=hk.x.m_
 have ky:Rz 6000000 k.y:=hk.y.m_
 have zf:Rz 500000 (0:Rat):=jV (by decide)
 have j1:Rz 6000000 (p.a1-k.x):=d1.m_
 have j2:Rz 6000000 p.b1:=hp.b1.m_
 have hn:=Jk hp h0
 obtain⟨v1,v2⟩:=M6 hk hp h0
 have w1:Rz 500000 ((p.a2-k.y)*p5 k p):=(d2.mul v1).m_
 have w2:Rz 500000 (-p.b2*p5 k p):=(hp.b2.neg.mul v1).m_
 have w3:Rz 78 (zc (-p.b2*p5 k p) (zc p.b2 p.c)):=Rz.zc hz2 (by decide)
 refine bS Tryz.func163 rfl<|ar (jo aZ rfl)<|ac rfl (DR hk hf ht)<|nE rfl<|ar (eL iX rfl)<|nE rfl<|cS 8 [] ?_
 refine aO rfl (mK) ?_
 refine aq (dy (cR k.x) bZ rfl (by kernel_rfl)) ?_
 refine aO rfl (dP (by first|assumption|exact hl.a.m_)) ?_
 refine aO rfl (nT (jf (hp.a1.m_) (hk.x.neg.m_)) (xb _ _) rfl rfl)<|cS 8 [] ?_
 refine aO rfl (sJ) ?_
 refine aq (dy (cR k.y) bZ rfl (by kernel_rfl)) ?_
 refine aO rfl (dP (by first|assumption|exact hl.a.m_)) ?_
 refine aO rfl (nT (jf (hp.a2.m_) (hk.y.neg.m_)) (xb _ _) rfl rfl)<|ac rfl (Ko (lJ (d2.m_) (hp.b2.m_) (hz2.m_)) (JP hp)) ?_
 refine cd rfl (fun hc1=>?_) (fun hc1=>?_)
 ·exact absurd (by simpa using hc1) h0
 ·refine ac rfl (yq (y':= -p.b2*p5 k p) (z':=zc (-p.b2*p5 k p) (zc p.b2 p.c)) (JI (d2.m_) (hp.b2.m_) (hz2.m_) (by rw[JP hp];exact h0) hn) (show _=(p.a2-k.y)*p5 k p from rfl) (QV hp) (Rm hp))<|cS 10 [11,999999] ?_
  refine aO rfl (LV j1 j2) ?_
  refine aO rfl (yq (x':=Gk k p) (y':=pW k p) (z':=zc (pW k p) p.c) (xM (d1.neg.m_) (hp.b1.neg.m_) (hz1.m_) (w1.m_) (w2.m_) (w3.m_) O9) S2 (RR hp) (Sg hp)) ?_
  refine DQ.mk<|kq (fI fR rfl) rfl rfl rfl rfl<|ez ?_
  refine ar (aG (us:=([.i .i64 0]++(cR (Gk k p)++cR (pW k p)++cR (zc (pW k p) p.c)))) Ac xF rfl rfl rfl) ?_
  refine om (fI oh rfl) ?_
  exact ag (bb oh rfl aa)
theorem S9 (hc:CvV c) (hp:GP p):Ok Tryz.prog 163 [.a (ao c),.a (al p)] [.a (A9 (c.slp p))]:=by
 cases c with
 |seg l f t=>
  have hl:=hc.g.1
  have hf:=hc.g.2.1
  have ht:=hc.g.2.2
  show Ok _ _ _ [.a (A9 (if l.b=0 then Slp.vt else .vl (-l.a/l.b) 0 0))]
  by_cases h0:l.b=0
  ·rw[if_pos h0];exact Pe hl hf ht hp ((HO hl hf ht (by have:=hc.sp;simpa [Cv.supp,Cv.p] using this) (by have:=hc.sq;simpa [Cv.supp,Cv.q] using this) hc.ne).2 h0) h0
  ·rw[if_neg h0];exact Ov hl hf ht hp (fun e=>h0 ((HO hl hf ht (by have:=hc.sp;simpa [Cv.supp,Cv.p] using this) (by have:=hc.sq;simpa [Cv.supp,Cv.q] using this) hc.ne).1 e)) h0
 |arc k w f t=>
  have hk:=hc.g.1
  have hf:=hc.g.2.1
  have ht:=hc.g.2.2
  show Ok _ _ _ [.a (A9 (if lZ p k.y=0 then Slp.st (if w then 1 else-1) else .vl (Gk k p) (pW k p) (zc (pW k p) p.c)))]
  by_cases h0:lZ p k.y=0
  ·rw[if_pos h0];exact Oc hk hf ht hp h0
  ·rw[if_neg h0];exact Pg hk hf ht hp h0
theorem I2 (hc:c.good) (hd:d.good) (ac:c.isArc=true) (ad:d.isArc=true):Ok Tryz.prog 48 [.a c.qc,.a d.qc] [.c (.i .i64 (aM c.qq d.qq))]:=by
 cases c with
 |seg l f t=>cases ac
 |arc k w f t=>
  cases d with
  |seg l f t=>cases ad
  |arc k2 w2 f2 t2=>exact eF (hc.1.q.mono (by decide)) (hd.1.q.mono (by decide))
theorem S3:Ok Tryz.prog 197 [.a (ao c)] [.c (.i .i64 c.bnd)]:=by
 refine bS Tryz.func197 rfl ?_
 refine ar (bW iX rfl rfl (mS _) rfl) ?_
 refine cd rfl (fun hc1=>?_) (fun hc1=>?_)
 ·refine ag ?_
  rw[Ql hc1]
  exact am aa
 ·refine ar (bW iX rfl rfl (rW _) rfl) ?_
  refine cd rfl (fun hc2=>?_) (fun hc2=>?_)
  ·refine ag ?_
   rw[Oq hc1 hc2]
   exact am aa
  ·refine ag ?_
   rw[N5 hc1 hc2]
   exact am aa
theorem RM (hc:c.good) (hd:d.good):Ok Tryz.prog 164 [.a (ao c),.a (ao d)] [.c (.i .i64 (wZ c d))]:=by
 have b1:=Kc c
 have b2:=Kc d
 have hp:=kE (s:= -c.bnd) (t:=aM c.qq d.qq) (by omega) (fB _ _)
 refine bS Tryz.func164 rfl<|cS 6 [] ?_
 refine aq (eM (ae _) aZ rfl) ?_
 refine aO rfl (S3) ?_
 refine aq (eM (ae _) aZ rfl) ?_
 refine aO rfl (S3) ?_
 refine cd rfl (fun hc1=>?_) (fun hc1=>?_)
 ·refine cd rfl (fun hc2=>?_) (fun hc2=>?_)
  ·refine ag ?_
   rw[K7 hc2]
   exact am aa
  ·refine ag ?_
   rw[Mk hc2 (decide_eq_true (by have q1:=of_decide_eq_false hc2;have q2: ¬c.bnd=d.bnd:=(by simpa using hc1);omega))]
   exact am aa
 ·have q0:c.bnd=d.bnd:=by simpa using hc1
  refine cd rfl (fun hc3=>?_) (fun hc3=>?_)
  ·refine ag ?_
   rw[NX q0 (by simpa using hc3)]
   exact am aa
  ·have q1:c.bnd≠0:=by simpa using hc3
   refine ar (oN (r:= -c.bnd) rfl (DZ b1) rfl) ?_
   refine ar (aU (us:=c.qc) bZ rfl rfl (uI _) (yC _) rfl) ?_
   refine ar (aU (us:=d.qc) bZ rfl rfl (uI _) (yC _) rfl) ?_
   refine ac rfl (I2 hc hd (IT q1) (IT (q0▸q1)))<|ar (bQ ((-c.bnd)*(aM c.qq d.qq)) (eQ (by omega) (by omega)) rfl)<|ag ?_
   rw[Eb (decide_eq_false (by omega)) (decide_eq_false (by omega))]
   exact am aa
theorem Qe {u v z u2 v2 z2:Rat}(hz:VSz u v z) (hz2:VSz u2 v2 z2):Ok Tryz.prog 160 [.a ((cR u++cR v++cR z)),.a ((cR u2++cR v2++cR z2))] [.c (.i .i64 (mC (u-u2) v (-v2) 0 z z2))]:=by
 refine bS Tryz.func160 rfl ?_
 refine ac rfl (AK (hz.za.m_) (hz.zb.m_) (hz2.za.m_) (hz2.zb.m_)) ?_
 refine ac rfl (xu ((hz.za.sub hz2.za).m_) (hz.zb.m_) (hz2.zb.neg.m_) (jV (by decide)) (hz.zc.m_) (hz2.zc.m_)) ?_
 exact ag (am aa)
theorem Q7 {s t:Slp}(gs:SlG s) (gt:SlG t) (h:s.n=0∧t.n=0):Ok Tryz.prog 160 [.a s.cl,.a t.cl] [.c (.i .i64 (s.vcmp t))]:=by
 obtain⟨u,v,z,rfl⟩:=GE gs h.1
 obtain⟨u2,v2,z2,rfl⟩:=GE gt h.2
 have hz:=gs.sz _ _ _ rfl
 have hz2:=gt.sz _ _ _ rfl
 exact Qe hz hz2
theorem Tp (vc:CvV c) (vd:CvV d) {s t:Slp}(es:c.slp c.p=s) (et:d.slp d.p=t):Ok Tryz.prog 132 [.a (ao c),.a (ao d)] [.c (.i .i64 (wv c d)),.c (.i .i64 (F5 c d))]:=by
 have hc:=vc.g
 have hd:=vd.g
 have gs:SlG s:=es▸MO hc (dD hc)
 have gt:SlG t:=et▸MO hd (dD hd)
 have as_: ∀n,s=.st n→c.isArc=true:=es▸DJ
 have at_: ∀n,t=.st n→d.isArc=true:=et▸DJ
 refine bS Tryz.func132 rfl ?_
 refine ar (aU (us:=al c.p) bm rfl rfl (gS _) rfl rfl) ?_
 refine ar (aU (us:=al d.p) bm rfl rfl (gS _) rfl rfl) ?_
 refine ac rfl (mn (dD hc) (dD hd)) ?_
 refine cd rfl (fun hc1=>?_) (fun hc1=>?_)
 ·have y1:=P4 (c:=c) (d:=d) (by simpa using hc1)
  refine ag ?_
  rw[y1.1,y1.2]
  exact am (am aa)
 ·have r1:rk s (1)=s.n:=Q1 gs
  have r2:rk t (1)=t.n:=Q1 gt
  refine cS 10 [] ?_
  refine aq (eM (ae _) aZ rfl) ?_
  refine aq (aU (us:=al c.p) bm rfl rfl (gS _) rfl rfl) ?_
  refine aO rfl ((show Ok _ _ _ [.a (A9 s)] from es▸S9 vc (dD hc))) ?_
  refine aq (eM (ae _) aZ rfl) ?_
  refine aq (aU (us:=al d.p) bm rfl rfl (gS _) rfl rfl) ?_
  refine aO rfl ((show Ok _ _ _ [.a (A9 t)] from et▸S9 vd (dD hd)))<|om (bG oh rfl rfl rfl (zX _) rfl rfl) ?_
  refine om (bG oh rfl rfl rfl (zX _) rfl rfl) ?_
  refine ar (bW EI rfl rfl (qj _) rfl) ?_
  refine ar (bW EI rfl rfl (qj _) rfl) ?_
  refine cd rfl (fun hc2=>?_) (fun hc2=>?_)
  ·refine ar (bW EI rfl rfl (qj _) rfl) ?_
   refine ar (bW EI rfl rfl (qj _) rfl) ?_
   refine cd rfl (fun hc3=>?_) (fun hc3=>?_)
   ·have y1:=xp (c:=c) (d:=d) (by simpa using hc1) es et
    have z1:zK c d s t (1)= -1:=NW (by rw[r1,r2];exact hc3)
    refine ag ?_
    rw[y1.1,y1.2,z1]
    exact am (am aa)
   ·have y1:=xp (c:=c) (d:=d) (by simpa using hc1) es et
    have z1:zK c d s t (1)=1:=Py (by rw[r1,r2];exact hc3) (by rw[r1,r2];exact decide_eq_true (by have q1:=of_decide_eq_false hc3;have q2: ¬(s.n:Int)=t.n:=(by simpa using hc2);omega))
    refine ag ?_
    rw[y1.1,y1.2,z1]
    exact am (am aa)
  ·have q1:s.n=t.n:=by simpa using hc2
   have q2:decide (rk s (1)<rk t (1))=false:=by rw[r1,r2];exact decide_eq_false (by omega)
   have q3:decide (rk s (1)>rk t (1))=false:=by rw[r1,r2];exact decide_eq_false (by omega)
   refine ar (bW EI rfl rfl (qj _) rfl) ?_
   refine cd rfl (fun hc4=>?_) (fun hc4=>?_)
   ·have y1:=xp (c:=c) (d:=d) (by simpa using hc1) es et
    have z1:zK c d s t (1)=0:=LW gs gt (.inl rfl) q2 q3 hc4
    refine ag ?_
    rw[y1.1,y1.2,z1]
    exact am (am aa)
   ·refine ar (bW EI rfl rfl (qj _) rfl) ?_
    refine cd rfl (fun hc5=>?_) (fun hc5=>?_)
    ·have y2:=Ma (c:=c) (d:=d) gs gt (.inl rfl) q2 q3 hc4 hc5
     have qn:s.n=1∨s.n= -1:=y2.2.1.elim fun n e=>by have:=gs.st n e;subst e;exact this
     have hp2:=kE (s:=s.n) (t:=aM c.qq d.qq) (by omega) (fB _ _)
     refine cS 12 [] ?_
     refine aq (bW EI rfl rfl (qj _) rfl) ?_
     refine aq (aU (us:=c.qc) bZ rfl rfl (uI _) (yC _) rfl) ?_
     refine aq (aU (us:=d.qc) bZ rfl rfl (uI _) (yC _) rfl) ?_
     refine aO rfl (I2 hc hd (y2.2.1.elim as_) (y2.2.2.elim at_))<|aq (bQ (s.n*(aM c.qq d.qq)) (eQ (by omega) (by omega)) rfl) ?_
     have y1:=xp (c:=c) (d:=d) (by simpa using hc1) es et
     have z1:=y2.1
     refine ag ?_
     rw[y1.1,y1.2,z1]
     exact am (am aa)
    ·have y2:=LS (c:=c) (d:=d) gs gt (.inl rfl) q2 q3 hc4 hc5
     have qb:=LJ s t
     refine ar (aU (us:=s.cl) fR rfl rfl (HZ _) (H5 _) rfl) ?_
     refine ar (aU (us:=t.cl) fR rfl rfl (HZ _) (H5 _) rfl) ?_
     refine ac rfl (Q7 gs gt y2.1) ?_
     refine cd rfl (fun hc6=>?_) (fun hc6=>?_)
     ·have y1:=xp (c:=c) (d:=d) (by simpa using hc1) es et
      have z0: ¬s.vcmp t=0:=by simpa using hc6
      have z1:=y2.2
      refine ag ?_
      rw[if_neg z0,show(1)*s.vcmp t=s.vcmp t from by omega] at z1
      rw[y1.1,y1.2,z1]
      exact am (am aa)
     ·refine ar (eM (ae _) aZ rfl) ?_
      refine ar (eM (ae _) aZ rfl) ?_
      refine ac rfl (RM hc hd) ?_
      have y1:=xp (c:=c) (d:=d) (by simpa using hc1) es et
      have z0:s.vcmp t=0:=by simpa using hc6
      have z1:=y2.2
      refine ag ?_
      rw[if_pos z0] at z1
      rw[y1.1,y1.2,z1]
      exact am (am aa)
theorem S1 (vc:CvV c) (vd:CvV d):Ok Tryz.prog 132 [.a (ao c),.a (ao d)] [.c (.i .i64 (wv c d)),.c (.i .i64 (F5 c d))]:=Tp vc vd rfl rfl
theorem Hi (vc:CvV c) (vd:CvV d):Ok Tryz.prog 94 [.a (ao c),.a (ao d)] [.c (.i .i64 (dY c d))]:=by
 have hc:=vc.g
 have hd:=vd.g
 refine bS Tryz.func94 rfl ?_
 refine ar (aU (us:=al c.p) bm rfl rfl (gS _) rfl rfl) ?_
 refine ar (aU (us:=al d.p) bm rfl rfl (gS _) rfl rfl) ?_
 refine ac rfl (kg (dD hc) (dD hd)) ?_
 refine cd rfl (fun hc1=>?_) (fun hc1=>?_)
 ·refine ag ?_
  rw[OC hc1]
  exact am aa
 ·refine ar (eM (ae _) aZ rfl) ?_
  refine ar (eM (ae _) aZ rfl) ?_
  refine ac rfl (S1 vc vd) ?_
  refine cd rfl (fun hc2=>?_) (fun hc2=>?_)
  ·refine ag ?_
   rw[Lg hc1 hc2]
   exact am aa
  ·refine ar (aU (us:=al c.q) bm rfl rfl (jD _) rfl rfl) ?_
   refine ar (aU (us:=al d.q) bm rfl rfl (jD _) rfl rfl) ?_
   refine ac rfl (kg (eA hc) (eA hd))<|ag ?_
   rw[LY hc1 hc2]
   exact am aa
theorem QE (vc:CvV (Cv.seg l f t)):Ok Tryz.prog 97 [.a (([.b false]++dZ l++kW++[.b false]++al f++al t))] [.c (.s (((lT (Cv.seg l f t))).length) (aj ao ((lT (Cv.seg l f t)))))]:=by
 have lR:(aR (Cv.seg l f t)).length≤3:=wH
 have pR:0<(aR (Cv.seg l f t)).length:=oK vc
 refine eG Tryz.func97 85 [.tmp 2] rfl<|ab<|ah<|ab<|ah ?_
 refine ar (jo aZ rfl) ?_
 refine ar (aS (n:=1) (us:=([.b false]++dZ l++kW++[.b false]++al f++al t)) dS rfl rfl rfl (by decide) (by decide) rfl) ?_
 refine dV (ι:=Unit) (fun i=>⟨85,[(3,.v (.c (.s (((aR (Cv.seg l f t))).length) (aj ao ((aR (Cv.seg l f t)))))))],[]⟩) ?_ ?_
 ·refine ab<|ah ?_
  refine ar (eL iX rfl) ?_
  refine bT rfl<|az ?_
  exact⟨(),ak ⟨rfl,trivial⟩ trivial rfl⟩
 ·rintro⟨⟩
  try dsimp only
  refine ab<|bR<|b9 (cg rfl) ?_
  refine bv<|ab<|ab<|ah<|aA ?_
  refine j7 (ι:={x9:Nat×Nat×List CellD // 1≤x9.1∧x9.1≤(aR (Cv.seg l f t)).length∧x9.1≤x9.2.1∧x9.2.1≤maxLen∧x9.2.2.length=(x9.2.1-x9.1)*66}) (fun i=>⟨85,[(3,.v (.c (.s (((aR (Cv.seg l f t))).length) (aj ao ((aR (Cv.seg l f t))))))),(7,.o 83 i.1.1 i.1.2.1),(8,.v (.c (.i .i64 (i.1.1:Int))))],[(83,86,aj ao (dJ ((aR (Cv.seg l f t)).take i.1.1))++i.1.2.2)]⟩) (fun i=>(aR (Cv.seg l f t)).length-i.1.1) ((aR (Cv.seg l f t)).length) ?_ ?_
  ·refine ab<|ab<|ah ?_
   refine aB rfl (fun hc1=>?_) (fun hc1=>?_)
   ·have g1:0<(aR (Cv.seg l f t)).length:=oK vc
    have hX:CvV ((aR (Cv.seg l f t)).getD 0 aH):=pp vc _ (aE g1)
    refine az<|ab<|aA<|ab<|ah<|ar (cU aH ae g1 bY rfl)<|ar (i4 ae aZ rfl)<|om (bG aZ rfl rfl rfl (ae _) rfl rfl) ?_
    refine dV (ι:=Unit) (fun i=>⟨85,[(3,.v (.c (.s (((aR (Cv.seg l f t))).length) (aj ao ((aR (Cv.seg l f t))))))),(7,.z),(8,.v (.c (.i .i64 0))),(9,.p 9 0)],[(9,86,ao (((aR (Cv.seg l f t)).getD 0 aH).fwd))]⟩) ?_ ?_
    ·refine ab<|ah ?_
     refine ar (aU (us:=al (((aR (Cv.seg l f t)).getD 0 aH)).p) bm rfl rfl (gS _) rfl rfl) ?_
     refine ar (aU (us:=al (((aR (Cv.seg l f t)).getD 0 aH)).q) bm rfl rfl (jD _) rfl rfl) ?_
     refine ac rfl (kg (dD hX.g) (eA hX.g)) ?_
     refine aB rfl (fun hc2=>?_) (fun hc2=>?_)
     ·have m2:=D2 hc2
      refine ah ?_
      refine ar (eM (ae _) aZ rfl) ?_
      refine ac rfl (yK hX) ?_
      refine om (bG aZ rfl rfl rfl (ae _) (ae _) rfl) ?_
      exact⟨(),ak ⟨rfl,rfl,rfl,rfl,trivial⟩ ⟨congrArg (fun q=>some (86,ao q)) m2.symm,trivial⟩ rfl⟩
     ·have m2:=Ey hc2
      refine az ?_
      exact⟨(),ak ⟨rfl,rfl,rfl,rfl,trivial⟩ ⟨congrArg (fun q=>some (86,ao q)) m2.symm,trivial⟩ rfl⟩
    ·rintro⟨⟩
     try dsimp only
     refine ab<|ah<|ab<|aA ?_
     refine aY (ι:=Nat) (fun i=>match i with|_=>⟨85,[(3,.v (.c (.s (((aR (Cv.seg l f t))).length) (aj ao ((aR (Cv.seg l f t))))))),(7,.z),(8,.v (.c (.i .i64 0))),(9,.p 9 0),(10,.v (.c (.i .i64 0)))],[(9,86,ao (((aR (Cv.seg l f t)).getD 0 aH).fwd))]⟩) (fun i=>0-i) 0 (ak ⟨rfl,rfl,rfl,rfl,rfl,trivial⟩ ⟨rfl,trivial⟩ rfl) ?_
     intro i
     match i with
     |_=>
      show Dw _ _ ⟨85,[(3,.v (.c (.s (((aR (Cv.seg l f t))).length) (aj ao ((aR (Cv.seg l f t))))))),(7,.z),(8,.v (.c (.i .i64 0))),(9,.p 9 0),(10,.v (.c (.i .i64 0)))],[(9,86,ao (((aR (Cv.seg l f t)).getD 0 aH).fwd))]⟩ _
      refine ab<|ab<|dx 13 []<|aq (pJ bY rfl rfl) ?_
      refine aq (au rfl)<|bT rfl<|aW<|dx 9 []<|aq (tN bY rfl rfl rfl) ?_
      refine aq (eM (ae _) aZ rfl)<|aq (iJ (us:=ao ((aR (Cv.seg l f t)).getD 0 aH).fwd) dS rfl (kz rfl (ae _)) (bB (ae _)) (by decide) (by decide) rfl) ?_
      refine aq (rS bY rfl rfl rfl) ?_
      refine aq (rE dS rfl rfl (bB (ae _)) (by decide) (by decide) (by decide) (by decide) rfl) ?_
      refine DL.mk<|jB (q:=1) (ys:=ao ((aR (Cv.seg l f t)).getD 0 aH).fwd) (zs':=aj ao (dJ ((aR (Cv.seg l f t)).take 1))) dS rfl rfl (ae _) (by decide) (by decide) (by decide) rfl (by rw[Af g1];exact(dt _).symm) rfl (fun cg3 rg3 hga3 hgb3 hgc3=>dC ?_)
      refine ah<|ar (i6 (r:=1) rfl rfl rfl rfl) ?_
      exact⟨⟨⟨1,cg3,rg3⟩,by omega,by omega,by omega,hgb3,hgc3⟩,ak ⟨rfl,rfl,rfl,trivial⟩ ⟨rfl,trivial⟩ rfl,by show(aR (Cv.seg l f t)).length-1<(aR (Cv.seg l f t)).length;omega⟩
   ·exact(of_decide_eq_false hc1 (by omega)).elim
  ·rintro⟨⟨n,c,rs⟩,h1,h2,h3,h4,h5⟩
   dsimp only at h1 h2 h3 h4 h5
   dsimp only
   refine ab<|ab<|ah ?_
   refine aB rfl (fun hc4=>?_) (fun hc4=>?_)
   ·have g1:n<(aR (Cv.seg l f t)).length:=by have:=of_decide_eq_true hc4;omega
    have hX:CvV ((aR (Cv.seg l f t)).getD n aH):=pp vc _ (aE g1)
    have Olen:(dJ ((aR (Cv.seg l f t)).take n)).length=n:=by rw[dT,cX];omega
    have hO: ∀d∈(dJ ((aR (Cv.seg l f t)).take n)),CvV d:=fun d hd=>by
     obtain⟨x,hx,e⟩:=qU hd
     rw[e];exact Ah (pp vc x (tB hx))
    have h2c:n≤c:=h3
    refine az<|ab<|aA<|ab<|ah<|ar (cU aH ae g1 bY rfl)<|ar (i4 ae aZ rfl)<|om (bG aZ rfl rfl rfl (ae _) rfl rfl) ?_
    refine dV (ι:=Unit) (fun i=>⟨85,[(3,.v (.c (.s (((aR (Cv.seg l f t))).length) (aj ao ((aR (Cv.seg l f t))))))),(7,.o 83 n c),(8,.v (.c (.i .i64 (n:Int)))),(9,.p 9 0)],[(9,86,ao (((aR (Cv.seg l f t)).getD n aH).fwd)),(83,86,aj ao (dJ ((aR (Cv.seg l f t)).take n))++rs)]⟩) ?_ ?_
    ·refine ab<|ah ?_
     refine ar (aU (us:=al (((aR (Cv.seg l f t)).getD n aH)).p) bm rfl rfl (gS _) rfl rfl) ?_
     refine ar (aU (us:=al (((aR (Cv.seg l f t)).getD n aH)).q) bm rfl rfl (jD _) rfl rfl) ?_
     refine ac rfl (kg (dD hX.g) (eA hX.g)) ?_
     refine aB rfl (fun hc5=>?_) (fun hc5=>?_)
     ·have m2:=D2 hc5
      refine ah ?_
      refine ar (eM (ae _) aZ rfl) ?_
      refine ac rfl (yK hX) ?_
      refine om (bG aZ rfl rfl rfl (ae _) (ae _) rfl) ?_
      exact⟨(),ak ⟨rfl,rfl,rfl,rfl,trivial⟩ ⟨congrArg (fun q=>some (86,ao q)) m2.symm,rfl,trivial⟩ rfl⟩
     ·have m2:=Ey hc5
      refine az ?_
      exact⟨(),ak ⟨rfl,rfl,rfl,rfl,trivial⟩ ⟨congrArg (fun q=>some (86,ao q)) m2.symm,rfl,trivial⟩ rfl⟩
    ·rintro⟨⟩
     try dsimp only
     refine ab<|ah<|ab<|aA<|aY (ι:={j:Nat // j≤n∧ ∀r,r<j→dY ((dJ ((aR (Cv.seg l f t)).take n)).getD r aH) ((aR (Cv.seg l f t)).getD n aH).fwd≤0}) (fun i=>⟨85,[(3,.v (.c (.s (((aR (Cv.seg l f t))).length) (aj ao ((aR (Cv.seg l f t))))))),(7,.o 83 n c),(8,.v (.c (.i .i64 (n:Int)))),(9,.p 9 0),(10,.v (.c (.i .i64 (i.1:Int))))],[(9,86,ao (((aR (Cv.seg l f t)).getD n aH).fwd)),(83,86,aj ao (dJ ((aR (Cv.seg l f t)).take n))++rs)]⟩) (fun i=>n-i.1) ⟨0,cY _,fun r h=>absurd h (Nat.not_lt_zero r)⟩ (ak ⟨rfl,rfl,rfl,rfl,rfl,trivial⟩ ⟨rfl,rfl,trivial⟩ rfl) ?_
     rintro⟨j,h3j,h4j⟩
     replace h3j:j≤n:=h3j
     replace h4j: ∀r,r<j→dY ((dJ ((aR (Cv.seg l f t)).take n)).getD r aH) ((aR (Cv.seg l f t)).getD n aH).fwd≤0:=h4j
     dsimp only
     refine ab<|ab<|nj 13 rfl rfl<|dO 2<|bA (m8 bY rfl rfl) ?_
     refine dO 1 ?_
     refine EF (au rfl) (fun c6 hb6=>?_)
     cases c6
     ·have g2:n≤j:=by have:=of_decide_eq_false hb6;omega
      have hs:pa ((aR (Cv.seg l f t)).getD n aH).fwd (dJ ((aR (Cv.seg l f t)).take n))=j:=po _ (by rw[Olen];omega) h4j (.inl (by rw[Olen];omega))
      refine wd<|dh<|bv<|bT rfl<|aW<|dx 9 []<|aq (iU (q:=j) bY rfl rfl (by omega) rfl) ?_
      refine aq (eM (ae _) aZ rfl)<|aq (iJ (us:=ao ((aR (Cv.seg l f t)).getD n aH).fwd) dS rfl (kz rfl (ae _)) (bB (ae _)) (by decide) (by decide) rfl) ?_
      refine aq (jX (q:=j) bY rfl rfl (by omega) (by omega) rfl) ?_
      refine aq (mp (q:=n-j) (ys:=aj ao ((dJ ((aR (Cv.seg l f t)).take n)).drop j)) dS rfl rfl rfl (wI Olen h3j h2c) (vC Olen h3j h5 h2c) (by omega) (by omega) (bB (ae _)) (by rw[ai ae,dz,Olen]) (by decide) (by decide) (by omega) (go (by omega)) rfl) ?_
      refine DL.mk<|jj (n:=j) (c:=c) (q:=1+(n-j)) (us:=aj ao ((dJ ((aR (Cv.seg l f t)).take n)).take j)) (rest:=aj ao ((dJ ((aR (Cv.seg l f t)).take n)).drop j)++rs) (N':=n+1) (zs':=aj ao (dJ ((aR (Cv.seg l f t)).take (n+1)))) dS rfl rfl rfl (pT j) (by rw[ai ae,cX,Olen,de h3j]) (by rw[bN,ai ae,dz,Olen,h5];omega) (by rw[bN,ae,ai ae,dz,Olen];omega) (by decide) (by omega) (by assumption) (by omega) (go (by omega)) (.inl rfl) (by omega) (by rw[oX g1];exact pU hs) rfl (fun cg7 rg7 hga7 hgb7 hgc7=>dC ?_)
      refine ah<|ar (ba (by omega) rfl) ?_
      exact⟨⟨⟨n+1,cg7,rg7⟩,by omega,g1,by omega,hgb7,hgc7⟩,ak ⟨rfl,rfl,rfl,trivial⟩ ⟨rfl,trivial⟩ rfl,by show(aR (Cv.seg l f t)).length-(n+1)<(aR (Cv.seg l f t)).length-n;omega⟩
     ·have g2:j<n:=by have:=of_decide_eq_true hb6;omega
      refine dO 2<|bA (bn bY rfl rfl (by omega) rfl) ?_
      refine bA (aU (us:=ao ((dJ ((aR (Cv.seg l f t)).take n)).getD j aH)) aZ rfl rfl (Ng (by rw[Olen];omega)) (ae _) rfl) ?_
      refine bA (eM (ae _) aZ rfl)<|bA (mg rfl (Hi (hO _ (aE (by rw[Olen];omega))) (Ah hX)))<|wd<|dh<|bv ?_
      refine aB rfl (fun hc8=>?_) (fun hc8=>?_)
      ·have g3:dY ((dJ ((aR (Cv.seg l f t)).take n)).getD j aH) ((aR (Cv.seg l f t)).getD n aH).fwd≤0:=of_decide_eq_true hc8
       refine az<|aA<|ah<|ar (ba (by omega) rfl) ?_
       exact⟨⟨j+1,g2,fun r hr=>(fm.1 hr).elim (h4j r) (fun e=>by rw[e];exact g3)⟩,ak ⟨rfl,rfl,rfl,rfl,rfl,trivial⟩ ⟨rfl,rfl,trivial⟩ rfl,by show n-(j+1)<n-j;omega⟩
      ·have hs:pa ((aR (Cv.seg l f t)).getD n aH).fwd (dJ ((aR (Cv.seg l f t)).take n))=j:=po _ (by rw[Olen];omega) h4j (.inr (of_decide_eq_false hc8))
       refine aW<|dx 9 []<|aq (iU (q:=j) bY rfl rfl (by omega) rfl) ?_
       refine aq (eM (ae _) aZ rfl)<|aq (iJ (us:=ao ((aR (Cv.seg l f t)).getD n aH).fwd) dS rfl (kz rfl (ae _)) (bB (ae _)) (by decide) (by decide) rfl) ?_
       refine aq (jX (q:=j) bY rfl rfl (by omega) (by omega) rfl) ?_
       refine aq (mp (q:=n-j) (ys:=aj ao ((dJ ((aR (Cv.seg l f t)).take n)).drop j)) dS rfl rfl rfl (wI Olen h3j h2c) (vC Olen h3j h5 h2c) (by omega) (by omega) (bB (ae _)) (by rw[ai ae,dz,Olen]) (by decide) (by decide) (by omega) (go (by omega)) rfl) ?_
       refine DL.mk<|jj (n:=j) (c:=c) (q:=1+(n-j)) (us:=aj ao ((dJ ((aR (Cv.seg l f t)).take n)).take j)) (rest:=aj ao ((dJ ((aR (Cv.seg l f t)).take n)).drop j)++rs) (N':=n+1) (zs':=aj ao (dJ ((aR (Cv.seg l f t)).take (n+1)))) dS rfl rfl rfl (pT j) (by rw[ai ae,cX,Olen,de h3j]) (by rw[bN,ai ae,dz,Olen,h5];omega) (by rw[bN,ae,ai ae,dz,Olen];omega) (by decide) (by omega) (by assumption) (by omega) (go (by omega)) (.inl rfl) (by omega) (by rw[oX g1];exact pU hs) rfl (fun cg9 rg9 hga9 hgb9 hgc9=>dC ?_)
       refine ah<|ar (ba (by omega) rfl) ?_
       exact⟨⟨⟨n+1,cg9,rg9⟩,by omega,g1,by omega,hgb9,hgc9⟩,ak ⟨rfl,rfl,rfl,trivial⟩ ⟨rfl,trivial⟩ rfl,by show(aR (Cv.seg l f t)).length-(n+1)<(aR (Cv.seg l f t)).length-n;omega⟩
   ·have hp:n=(aR (Cv.seg l f t)).length:=by have:=of_decide_eq_false hc4;omega
    refine aW<|ab<|ah ?_
    refine bI (t:=2) (m:=66) (us:=aj ao (dJ ((aR (Cv.seg l f t)).take n))) rfl rfl (ia (n:=n) (by first|rfl|(rw[ai ae,dT,cX,de (by omega)])) (by assumption) (by omega)) (by omega) (by assumption) (eg (by first|rfl|(rw[ai ae,dT,cX,de (by omega)]))) ?_
    refine bh ?_
    rw[show lT (Cv.seg l f t)=(dJ ((aR (Cv.seg l f t)).take n)) from by rw[hp,tO];rfl,show(dJ ((aR (Cv.seg l f t)).take n)).length=n from by rw[dT,cX];omega]
    exact ag (am aa)
theorem RF (vc:CvV (Cv.arc k w f t)):Ok Tryz.prog 97 [.a (([.b true]++pZ++cr k++[.b w]++al f++al t))] [.c (.s (((lT (Cv.arc k w f t))).length) (aj ao ((lT (Cv.arc k w f t)))))]:=by
 have lR:(aR (Cv.arc k w f t)).length≤3:=wH
 have pR:0<(aR (Cv.arc k w f t)).length:=oK vc
 have hk:=vc.g.1
 have hf:=vc.g.2.1
 have ht:=vc.g.2.2
 have gL:=pk hk vc.pos
 have gR:=pz hk vc.pos
 refine eG Tryz.func97 85 [.tmp 2] rfl<|ab<|ah<|ab<|ah ?_
 refine ar (jo aZ rfl) ?_
 refine ar (aS (n:=1) (us:=([.b true]++pZ++cr k++[.b w]++al f++al t)) dS rfl rfl rfl (by decide) (by decide) rfl) ?_
 refine dV (ι:=Unit) (fun i=>⟨85,[(3,.v (.c (.s (((aR (Cv.arc k w f t))).length) (aj ao ((aR (Cv.arc k w f t)))))))],[]⟩) ?_ ?_
 ·refine ab<|ah ?_
  refine ar (eL iX rfl) ?_
  refine iB rfl<|ab<|ah ?_
  refine ar (dy (cr k) sf rfl (by kernel_rfl)) ?_
  refine ac rfl (ND hk) ?_
  refine ab<|bR<|b9 (cg rfl) ?_
  refine bv<|ab<|ab<|ah ?_
  refine ar (jo aZ rfl) ?_
  refine ac rfl (ye hk hf ht gL) ?_
  refine aB rfl (fun hc1=>?_) (fun hc1=>?_)
  ·refine ah ?_
   refine ar (aS (n:=1) (us:=al (kQ k)) di rfl rfl rfl (by decide) (by decide) rfl) ?_
   refine DL.mk<|gN (ys:=al (kQ k)) di rfl rfl rfl (by decide) (by decide) (by decide) rfl rfl (fun cg2 rg2 hga2 hgb2 hgc2=>dC ?_)
   refine ab<|ab<|ah ?_
   refine ar (jo aZ rfl) ?_
   refine ac rfl (ye hk hf ht gR) ?_
   refine aB rfl (fun hc3=>?_) (fun hc3=>?_)
   ·have e:iV (Cv.arc k w f t)=[kQ k,kC k]:=KX hc1 hc3
    have er:dM (Cv.arc k w f t) [kQ k,kC k]=(aR (Cv.arc k w f t)):=by unfold aR;rw[if_pos (show((Cv.arc k w f t)).isArc=true from rfl),e]
    refine ah ?_
    refine ar (aS (n:=1) (us:=al (kC k)) di rfl rfl rfl (by decide) (by decide) rfl) ?_
    refine DL.mk<|kD (us:=al (kQ k)) (rest:=rg2) (ys:=al (kC k)) di rfl rfl rfl (by first|rfl|(rw[ai ae,dT,cX,de (by omega)])) (by assumption) rfl (by decide) (by omega) (by assumption) (by omega) (go (by omega)) (.inr rfl) rfl (fun cg4 rg4 hga4 hgb4 hgc4=>dC ?_)
    refine bI (t:=6) (m:=20) (us:=al (kQ k)++(al (kC k))) rfl rfl (ia (n:=1+1) (by first|rfl|(rw[ai ae,dT,cX,de (by omega)])) (by assumption) (by omega)) (by omega) (by assumption) (eg (by first|rfl|(rw[ai ae,dT,cX,de (by omega)]))) ?_
    refine ah ?_
    refine ar (jo aZ rfl) ?_
    refine ac rfl (nn (c:=(Cv.arc k w f t)) (L:=[kQ k,kC k]) vc.g (fun p hp=>(fH vc p (by rw[e];exact hp)).1) (dG rfl) (fun p hp=>(fH vc p (by rw[e];exact hp)).2) (iK vc.ne)) ?_
    exact⟨(),ak ⟨congrArg (fun q=>some (DV.v (.c (.s (List.length q) (aj ao q))))) er,trivial⟩ trivial rfl⟩
   ·have e:iV (Cv.arc k w f t)=[kQ k]:=Mw hc1 hc3
    have er:dM (Cv.arc k w f t) [kQ k]=(aR (Cv.arc k w f t)):=by unfold aR;rw[if_pos (show((Cv.arc k w f t)).isArc=true from rfl),e]
    refine az ?_
    refine bI (t:=6) (m:=20) (us:=al (kQ k)) rfl rfl (ia (n:=1) (by first|rfl|(rw[ai ae,dT,cX,de (by omega)])) (by assumption) (by omega)) (by omega) (by assumption) (eg (by first|rfl|(rw[ai ae,dT,cX,de (by omega)]))) ?_
    refine ah ?_
    refine ar (jo aZ rfl) ?_
    refine ac rfl (nn (c:=(Cv.arc k w f t)) (L:=[kQ k]) vc.g (fun p hp=>(fH vc p (by rw[e];exact hp)).1) (dG rfl) (fun p hp=>(fH vc p (by rw[e];exact hp)).2) (iK vc.ne)) ?_
    exact⟨(),ak ⟨congrArg (fun q=>some (DV.v (.c (.s (List.length q) (aj ao q))))) er,trivial⟩ trivial rfl⟩
  ·refine az<|ab<|ab<|ah ?_
   refine ar (jo aZ rfl) ?_
   refine ac rfl (ye hk hf ht gR) ?_
   refine aB rfl (fun hc5=>?_) (fun hc5=>?_)
   ·have e:iV (Cv.arc k w f t)=[kC k]:=LD hc1 hc5
    have er:dM (Cv.arc k w f t) [kC k]=(aR (Cv.arc k w f t)):=by unfold aR;rw[if_pos (show((Cv.arc k w f t)).isArc=true from rfl),e]
    refine ah ?_
    refine ar (aS (n:=1) (us:=al (kC k)) di rfl rfl rfl (by decide) (by decide) rfl) ?_
    refine DL.mk<|gN (ys:=al (kC k)) di rfl rfl rfl (by decide) (by decide) (by decide) rfl rfl (fun cg6 rg6 hga6 hgb6 hgc6=>dC ?_)
    refine bI (t:=6) (m:=20) (us:=al (kC k)) rfl rfl (ia (n:=1) (by first|rfl|(rw[ai ae,dT,cX,de (by omega)])) (by assumption) (by omega)) (by omega) (by assumption) (eg (by first|rfl|(rw[ai ae,dT,cX,de (by omega)]))) ?_
    refine ah ?_
    refine ar (jo aZ rfl) ?_
    refine ac rfl (nn (c:=(Cv.arc k w f t)) (L:=[kC k]) vc.g (fun p hp=>(fH vc p (by rw[e];exact hp)).1) (dG rfl) (fun p hp=>(fH vc p (by rw[e];exact hp)).2) (iK vc.ne)) ?_
    exact⟨(),ak ⟨congrArg (fun q=>some (DV.v (.c (.s (List.length q) (aj ao q))))) er,trivial⟩ trivial rfl⟩
   ·have e:iV (Cv.arc k w f t)=[]:=MF hc1 hc5
    have er:dM (Cv.arc k w f t) []=(aR (Cv.arc k w f t)):=by unfold aR;rw[if_pos (show((Cv.arc k w f t)).isArc=true from rfl),e]
    refine az<|mH (t:=6) rfl<|ah ?_
    refine ar (jo aZ rfl) ?_
    refine ac rfl (nn (c:=(Cv.arc k w f t)) (L:=[]) vc.g (fun p hp=>(fH vc p (by rw[e];exact hp)).1) (dG rfl) (fun p hp=>(fH vc p (by rw[e];exact hp)).2) (iK vc.ne)) ?_
    exact⟨(),ak ⟨congrArg (fun q=>some (DV.v (.c (.s (List.length q) (aj ao q))))) er,trivial⟩ trivial rfl⟩
 ·rintro⟨⟩
  try dsimp only
  refine ab<|bR<|b9 (cg rfl) ?_
  refine bv<|ab<|ab<|ah<|aA ?_
  refine j7 (ι:={x9:Nat×Nat×List CellD // 1≤x9.1∧x9.1≤(aR (Cv.arc k w f t)).length∧x9.1≤x9.2.1∧x9.2.1≤maxLen∧x9.2.2.length=(x9.2.1-x9.1)*66}) (fun i=>⟨85,[(3,.v (.c (.s (((aR (Cv.arc k w f t))).length) (aj ao ((aR (Cv.arc k w f t))))))),(7,.o 83 i.1.1 i.1.2.1),(8,.v (.c (.i .i64 (i.1.1:Int))))],[(83,86,aj ao (dJ ((aR (Cv.arc k w f t)).take i.1.1))++i.1.2.2)]⟩) (fun i=>(aR (Cv.arc k w f t)).length-i.1.1) ((aR (Cv.arc k w f t)).length) ?_ ?_
  ·refine ab<|ab<|ah ?_
   refine aB rfl (fun hc7=>?_) (fun hc7=>?_)
   ·have g1:0<(aR (Cv.arc k w f t)).length:=oK vc
    have hX:CvV ((aR (Cv.arc k w f t)).getD 0 aH):=pp vc _ (aE g1)
    refine az<|ab<|aA<|ab<|ah<|ar (cU aH ae g1 bY rfl)<|ar (i4 ae aZ rfl)<|om (bG aZ rfl rfl rfl (ae _) rfl rfl) ?_
    refine dV (ι:=Unit) (fun i=>⟨85,[(3,.v (.c (.s (((aR (Cv.arc k w f t))).length) (aj ao ((aR (Cv.arc k w f t))))))),(7,.z),(8,.v (.c (.i .i64 0))),(9,.p 9 0)],[(9,86,ao (((aR (Cv.arc k w f t)).getD 0 aH).fwd))]⟩) ?_ ?_
    ·refine ab<|ah ?_
     refine ar (aU (us:=al (((aR (Cv.arc k w f t)).getD 0 aH)).p) bm rfl rfl (gS _) rfl rfl) ?_
     refine ar (aU (us:=al (((aR (Cv.arc k w f t)).getD 0 aH)).q) bm rfl rfl (jD _) rfl rfl) ?_
     refine ac rfl (kg (dD hX.g) (eA hX.g)) ?_
     refine aB rfl (fun hc8=>?_) (fun hc8=>?_)
     ·have m2:=D2 hc8
      refine ah ?_
      refine ar (eM (ae _) aZ rfl) ?_
      refine ac rfl (yK hX) ?_
      refine om (bG aZ rfl rfl rfl (ae _) (ae _) rfl) ?_
      exact⟨(),ak ⟨rfl,rfl,rfl,rfl,trivial⟩ ⟨congrArg (fun q=>some (86,ao q)) m2.symm,trivial⟩ rfl⟩
     ·have m2:=Ey hc8
      refine az ?_
      exact⟨(),ak ⟨rfl,rfl,rfl,rfl,trivial⟩ ⟨congrArg (fun q=>some (86,ao q)) m2.symm,trivial⟩ rfl⟩
    ·rintro⟨⟩
     try dsimp only
     refine ab<|ah<|ab<|aA ?_
     refine aY (ι:=Nat) (fun i=>match i with|_=>⟨85,[(3,.v (.c (.s (((aR (Cv.arc k w f t))).length) (aj ao ((aR (Cv.arc k w f t))))))),(7,.z),(8,.v (.c (.i .i64 0))),(9,.p 9 0),(10,.v (.c (.i .i64 0)))],[(9,86,ao (((aR (Cv.arc k w f t)).getD 0 aH).fwd))]⟩) (fun i=>0-i) 0 (ak ⟨rfl,rfl,rfl,rfl,rfl,trivial⟩ ⟨rfl,trivial⟩ rfl) ?_
     intro i
     match i with
     |_=>
      show Dw _ _ ⟨85,[(3,.v (.c (.s (((aR (Cv.arc k w f t))).length) (aj ao ((aR (Cv.arc k w f t))))))),(7,.z),(8,.v (.c (.i .i64 0))),(9,.p 9 0),(10,.v (.c (.i .i64 0)))],[(9,86,ao (((aR (Cv.arc k w f t)).getD 0 aH).fwd))]⟩ _
      refine ab<|ab<|dx 13 []<|aq (pJ bY rfl rfl) ?_
      refine aq (au rfl)<|bT rfl<|aW<|dx 9 []<|aq (tN bY rfl rfl rfl) ?_
      refine aq (eM (ae _) aZ rfl)<|aq (iJ (us:=ao ((aR (Cv.arc k w f t)).getD 0 aH).fwd) dS rfl (kz rfl (ae _)) (bB (ae _)) (by decide) (by decide) rfl) ?_
      refine aq (rS bY rfl rfl rfl) ?_
      refine aq (rE dS rfl rfl (bB (ae _)) (by decide) (by decide) (by decide) (by decide) rfl) ?_
      refine DL.mk<|jB (q:=1) (ys:=ao ((aR (Cv.arc k w f t)).getD 0 aH).fwd) (zs':=aj ao (dJ ((aR (Cv.arc k w f t)).take 1))) dS rfl rfl (ae _) (by decide) (by decide) (by decide) rfl (by rw[Af g1];exact(dt _).symm) rfl (fun cg9 rg9 hga9 hgb9 hgc9=>dC ?_)
      refine ah<|ar (i6 (r:=1) rfl rfl rfl rfl) ?_
      exact⟨⟨⟨1,cg9,rg9⟩,by omega,by omega,by omega,hgb9,hgc9⟩,ak ⟨rfl,rfl,rfl,trivial⟩ ⟨rfl,trivial⟩ rfl,by show(aR (Cv.arc k w f t)).length-1<(aR (Cv.arc k w f t)).length;omega⟩
   ·exact(of_decide_eq_false hc7 (by omega)).elim
  ·rintro⟨⟨n,c,rs⟩,h1,h2,h3,h4,h5⟩
   dsimp only at h1 h2 h3 h4 h5
   dsimp only
   refine ab<|ab<|ah ?_
   refine aB rfl (fun hc10=>?_) (fun hc10=>?_)
   ·have g1:n<(aR (Cv.arc k w f t)).length:=by have:=of_decide_eq_true hc10;omega
    have hX:CvV ((aR (Cv.arc k w f t)).getD n aH):=pp vc _ (aE g1)
    have Olen:(dJ ((aR (Cv.arc k w f t)).take n)).length=n:=by rw[dT,cX];omega
    have hO: ∀d∈(dJ ((aR (Cv.arc k w f t)).take n)),CvV d:=fun d hd=>by
     obtain⟨x,hx,e⟩:=qU hd
     rw[e];exact Ah (pp vc x (tB hx))
    have h2c:n≤c:=h3
    refine az<|ab<|aA<|ab<|ah<|ar (cU aH ae g1 bY rfl)<|ar (i4 ae aZ rfl)<|om (bG aZ rfl rfl rfl (ae _) rfl rfl) ?_
    refine dV (ι:=Unit) (fun i=>⟨85,[(3,.v (.c (.s (((aR (Cv.arc k w f t))).length) (aj ao ((aR (Cv.arc k w f t))))))),(7,.o 83 n c),(8,.v (.c (.i .i64 (n:Int)))),(9,.p 9 0)],[(9,86,ao (((aR (Cv.arc k w f t)).getD n aH).fwd)),(83,86,aj ao (dJ ((aR (Cv.arc k w f t)).take n))++rs)]⟩) ?_ ?_
    ·refine ab<|ah ?_
     refine ar (aU (us:=al (((aR (Cv.arc k w f t)).getD n aH)).p) bm rfl rfl (gS _) rfl rfl) ?_
     refine ar (aU (us:=al (((aR (Cv.arc k w f t)).getD n aH)).q) bm rfl rfl (jD _) rfl rfl) ?_
     refine ac rfl (kg (dD hX.g) (eA hX.g)) ?_
     refine aB rfl (fun hc11=>?_) (fun hc11=>?_)
     ·have m2:=D2 hc11
      refine ah ?_
      refine ar (eM (ae _) aZ rfl) ?_
      refine ac rfl (yK hX) ?_
      refine om (bG aZ rfl rfl rfl (ae _) (ae _) rfl) ?_
      exact⟨(),ak ⟨rfl,rfl,rfl,rfl,trivial⟩ ⟨congrArg (fun q=>some (86,ao q)) m2.symm,rfl,trivial⟩ rfl⟩
     ·have m2:=Ey hc11
      refine az ?_
      exact⟨(),ak ⟨rfl,rfl,rfl,rfl,trivial⟩ ⟨congrArg (fun q=>some (86,ao q)) m2.symm,rfl,trivial⟩ rfl⟩
    ·rintro⟨⟩
     try dsimp only
     refine ab<|ah<|ab<|aA<|aY (ι:={j:Nat // j≤n∧ ∀r,r<j→dY ((dJ ((aR (Cv.arc k w f t)).take n)).getD r aH) ((aR (Cv.arc k w f t)).getD n aH).fwd≤0}) (fun i=>⟨85,[(3,.v (.c (.s (((aR (Cv.arc k w f t))).length) (aj ao ((aR (Cv.arc k w f t))))))),(7,.o 83 n c),(8,.v (.c (.i .i64 (n:Int)))),(9,.p 9 0),(10,.v (.c (.i .i64 (i.1:Int))))],[(9,86,ao (((aR (Cv.arc k w f t)).getD n aH).fwd)),(83,86,aj ao (dJ ((aR (Cv.arc k w f t)).take n))++rs)]⟩) (fun i=>n-i.1) ⟨0,cY _,fun r h=>absurd h (Nat.not_lt_zero r)⟩ (ak ⟨rfl,rfl,rfl,rfl,rfl,trivial⟩ ⟨rfl,rfl,trivial⟩ rfl) ?_
     rintro⟨j,h3j,h4j⟩
     replace h3j:j≤n:=h3j
     replace h4j: ∀r,r<j→dY ((dJ ((aR (Cv.arc k w f t)).take n)).getD r aH) ((aR (Cv.arc k w f t)).getD n aH).fwd≤0:=h4j
     dsimp only
     refine ab<|ab<|nj 13 rfl rfl<|dO 2<|bA (m8 bY rfl rfl) ?_
     refine dO 1 ?_
     refine EF (au rfl) (fun c12 hb12=>?_)
     cases c12
     ·have g2:n≤j:=by have:=of_decide_eq_false hb12;omega
      have hs:pa ((aR (Cv.arc k w f t)).getD n aH).fwd (dJ ((aR (Cv.arc k w f t)).take n))=j:=po _ (by rw[Olen];omega) h4j (.inl (by rw[Olen];omega))
      refine wd<|dh<|bv<|bT rfl<|aW<|dx 9 []<|aq (iU (q:=j) bY rfl rfl (by omega) rfl) ?_
      refine aq (eM (ae _) aZ rfl)<|aq (iJ (us:=ao ((aR (Cv.arc k w f t)).getD n aH).fwd) dS rfl (kz rfl (ae _)) (bB (ae _)) (by decide) (by decide) rfl) ?_
      refine aq (jX (q:=j) bY rfl rfl (by omega) (by omega) rfl) ?_
      refine aq (mp (q:=n-j) (ys:=aj ao ((dJ ((aR (Cv.arc k w f t)).take n)).drop j)) dS rfl rfl rfl (wI Olen h3j h2c) (vC Olen h3j h5 h2c) (by omega) (by omega) (bB (ae _)) (by rw[ai ae,dz,Olen]) (by decide) (by decide) (by omega) (go (by omega)) rfl) ?_
      refine DL.mk<|jj (n:=j) (c:=c) (q:=1+(n-j)) (us:=aj ao ((dJ ((aR (Cv.arc k w f t)).take n)).take j)) (rest:=aj ao ((dJ ((aR (Cv.arc k w f t)).take n)).drop j)++rs) (N':=n+1) (zs':=aj ao (dJ ((aR (Cv.arc k w f t)).take (n+1)))) dS rfl rfl rfl (pT j) (by rw[ai ae,cX,Olen,de h3j]) (by rw[bN,ai ae,dz,Olen,h5];omega) (by rw[bN,ae,ai ae,dz,Olen];omega) (by decide) (by omega) (by assumption) (by omega) (go (by omega)) (.inl rfl) (by omega) (by rw[oX g1];exact pU hs) rfl (fun cg13 rg13 hga13 hgb13 hgc13=>dC ?_)
      refine ah<|ar (ba (by omega) rfl) ?_
      exact⟨⟨⟨n+1,cg13,rg13⟩,by omega,g1,by omega,hgb13,hgc13⟩,ak ⟨rfl,rfl,rfl,trivial⟩ ⟨rfl,trivial⟩ rfl,by show(aR (Cv.arc k w f t)).length-(n+1)<(aR (Cv.arc k w f t)).length-n;omega⟩
     ·have g2:j<n:=by have:=of_decide_eq_true hb12;omega
      refine dO 2<|bA (bn bY rfl rfl (by omega) rfl) ?_
      refine bA (aU (us:=ao ((dJ ((aR (Cv.arc k w f t)).take n)).getD j aH)) aZ rfl rfl (Ng (by rw[Olen];omega)) (ae _) rfl) ?_
      refine bA (eM (ae _) aZ rfl)<|bA (mg rfl (Hi (hO _ (aE (by rw[Olen];omega))) (Ah hX)))<|wd<|dh<|bv ?_
      refine aB rfl (fun hc14=>?_) (fun hc14=>?_)
      ·have g3:dY ((dJ ((aR (Cv.arc k w f t)).take n)).getD j aH) ((aR (Cv.arc k w f t)).getD n aH).fwd≤0:=of_decide_eq_true hc14
       refine az<|aA<|ah<|ar (ba (by omega) rfl) ?_
       exact⟨⟨j+1,g2,fun r hr=>(fm.1 hr).elim (h4j r) (fun e=>by rw[e];exact g3)⟩,ak ⟨rfl,rfl,rfl,rfl,rfl,trivial⟩ ⟨rfl,rfl,trivial⟩ rfl,by show n-(j+1)<n-j;omega⟩
      ·have hs:pa ((aR (Cv.arc k w f t)).getD n aH).fwd (dJ ((aR (Cv.arc k w f t)).take n))=j:=po _ (by rw[Olen];omega) h4j (.inr (of_decide_eq_false hc14))
       refine aW<|dx 9 []<|aq (iU (q:=j) bY rfl rfl (by omega) rfl) ?_
       refine aq (eM (ae _) aZ rfl)<|aq (iJ (us:=ao ((aR (Cv.arc k w f t)).getD n aH).fwd) dS rfl (kz rfl (ae _)) (bB (ae _)) (by decide) (by decide) rfl) ?_
       refine aq (jX (q:=j) bY rfl rfl (by omega) (by omega) rfl) ?_
       refine aq (mp (q:=n-j) (ys:=aj ao ((dJ ((aR (Cv.arc k w f t)).take n)).drop j)) dS rfl rfl rfl (wI Olen h3j h2c) (vC Olen h3j h5 h2c) (by omega) (by omega) (bB (ae _)) (by rw[ai ae,dz,Olen]) (by decide) (by decide) (by omega) (go (by omega)) rfl) ?_
       refine DL.mk<|jj (n:=j) (c:=c) (q:=1+(n-j)) (us:=aj ao ((dJ ((aR (Cv.arc k w f t)).take n)).take j)) (rest:=aj ao ((dJ ((aR (Cv.arc k w f t)).take n)).drop j)++rs) (N':=n+1) (zs':=aj ao (dJ ((aR (Cv.arc k w f t)).take (n+1)))) dS rfl rfl rfl (pT j) (by rw[ai ae,cX,Olen,de h3j]) (by rw[bN,ai ae,dz,Olen,h5];omega) (by rw[bN,ae,ai ae,dz,Olen];omega) (by decide) (by omega) (by assumption) (by omega) (go (by omega)) (.inl rfl) (by omega) (by rw[oX g1];exact pU hs) rfl (fun cg15 rg15 hga15 hgb15 hgc15=>dC ?_)
       refine ah<|ar (ba (by omega) rfl) ?_
       exact⟨⟨⟨n+1,cg15,rg15⟩,by omega,g1,by omega,hgb15,hgc15⟩,ak ⟨rfl,rfl,rfl,trivial⟩ ⟨rfl,trivial⟩ rfl,by show(aR (Cv.arc k w f t)).length-(n+1)<(aR (Cv.arc k w f t)).length-n;omega⟩
   ·have hp:n=(aR (Cv.arc k w f t)).length:=by have:=of_decide_eq_false hc10;omega
    refine aW<|ab<|ah ?_
    refine bI (t:=2) (m:=66) (us:=aj ao (dJ ((aR (Cv.arc k w f t)).take n))) rfl rfl (ia (n:=n) (by first|rfl|(rw[ai ae,dT,cX,de (by omega)])) (by assumption) (by omega)) (by omega) (by assumption) (eg (by first|rfl|(rw[ai ae,dT,cX,de (by omega)]))) ?_
    refine bh ?_
    rw[show lT (Cv.arc k w f t)=(dJ ((aR (Cv.arc k w f t)).take n)) from by rw[hp,tO];rfl,show(dJ ((aR (Cv.arc k w f t)).take n)).length=n from by rw[dT,cX];omega]
    exact ag (am aa)
theorem QD (vc:CvV c):Ok Tryz.prog 97 [.a (ao c)] [.c (.s (((lT c)).length) (aj ao ((lT c))))]:=by
 cases c with
 |seg l f t=>exact QE vc
 |arc k w f t=>exact RF vc
end Go.Proofs.YtkfgimjmgfoneaaGreatDoor
