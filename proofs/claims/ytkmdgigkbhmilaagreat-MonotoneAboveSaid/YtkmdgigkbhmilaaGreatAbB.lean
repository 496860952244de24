/-MonotoneAbove:the walk of the law. -/
import Derived.Test.YtkmdgigkbhmilaaGreatAbA
namespace Go.Proofs.YtkmdgigkbhmilaaGreat
open Go Go.RowKit
theorem Ju {X Y:List CellD}(lX:X.length=17) (lY:Y.length=17) (hA:Ok Tryz.prog 10 [] [.c (.b true)]) {L:List Cv}(lL:L.length≤12) (vL: ∀d∈L,CvV d) (hC:Ok Tryz.prog 12 [.a X,.a Y] [.c (.s ((L).length) (aI aB (L)))]) (hl:0<L.length) (mL: ∀d∈L,d.mono=true) {Z:List CellD}(lZ:Z.length=6) {p0:Pt}(hp0:GP p0) (hOf:Ok Tryz.prog 21 [.a Z] [.a (au p0)]):Ok Tryz.prog 4 [.a (X),.a (Y),.a (Z)] [.c (.b true)]:=by
 have hr0:([]:List CellD).length=(1-1)*20:=rfl
 have hm1:1≤maxLen:=by decide
 refine Ok.fn Tryz.func4 87 [.tmp 6] rfl<|aa<|ab<|ag<|aa<|aa<|ab<|ah (am rfl (hA))<|ag<|aP rfl<|ao<|aa<|ab<|ah (aA (us:=X) n8 rfl rfl (by rw[List.drop_zero];exact List.take_of_length_le (Nat.le_of_eq (lX))) (lX) rfl) ?_
 refine ah (aA (us:=Y) n8 rfl rfl (by rw[List.drop_zero];exact List.take_of_length_le (Nat.le_of_eq (lY))) (lY) rfl) ?_
 refine ah (am rfl (hC))<|ag<|aa<|ab<|ah (aA (us:=Z) Sk rfl rfl (by rw[List.drop_zero];exact List.take_of_length_le (Nat.le_of_eq (lZ))) (lZ) rfl) ?_
 refine ah (am rfl (hOf))<|jM (gg (us:=au p0) ft rfl rfl (by decide) (by decide) rfl) rfl ?_
 refine ag<|aa<|aa<|ab<|ag<|aJ ?_
 refine n6 (ι:={x9:Nat×Nat×List CellD // 1≤x9.1∧x9.1≤L.length∧1+2*x9.1≤x9.2.1∧x9.2.1≤maxLen∧x9.2.2.length=(x9.2.1-(1+2*x9.1))*20}) (fun i=>⟨87,[(7,.v (.c (.s ((L).length) (aI aB (L))))),(8,.o 39 (1+2*i.1.1) i.1.2.1),(27,.v (.c (.s ((L).length) (aI aB (L))))),(28,.v (.c (.i .i64 (L.length:Int)))),(29,.v (.c (.i .i64 (i.1.1:Int))))],[(39,46,aI au (lq L p0 i.1.1)++i.1.2.2)]⟩) (fun i=>L.length-i.1.1) (L.length+1) ?_ ?_
 ·refine aa<|ab<|ag<|aa ?_
  refine aw rfl (fun hc1=>?_) (fun hc1=>?_)
  ·refine ao<|aa<|aJ<|aa<|ab<|ah (aW (us:=aB (L.getD 0 bn)++aI aB (L.drop (0+1))) eu rfl rfl (by omega) (aG ak _) (bz ak (bi hl)) rfl) ?_
   refine ah (bb (us:=aB (L.getD 0 bn)) bd rfl (df _ _) (ak _) rfl) ?_
   refine aC (ai eo rfl) rfl<|bL (aZ bd rfl rfl rfl (ak _) rfl rfl) ?_
   refine ar<|ab<|al 2<|ah (aA (us:=au (L.getD 0 bn).p) bo rfl rfl (dW _) rfl rfl) ?_
   refine al 1<|ah (aA (us:=au (L.getD 0 bn).q) bo rfl rfl (dY _) rfl rfl) ?_
   refine ah (cC (n:=2) (us:=au (((L.getD 0 bn).p))++au (((L.getD 0 bn).q))) ft rfl rfl rfl (by decide) (by decide) rfl) ?_
   refine mQ (us:=au p0) (rest:=[]) (ys:=au (((L.getD 0 bn).p))++au (((L.getD 0 bn).q))) ft rfl rfl rfl (by first|rfl|(rw[aG aO,mh (by omega)])) (by assumption) rfl (by decide) (by omega) (by assumption) (by omega) (gP (by omega)) (.inr rfl) rfl (fun cg2 rg2 hga2 hgb2 hgc2=>?_)
   refine ag<|ab<|ah (aK (r:=1) rfl rfl rfl rfl) ?_
   refine ag ?_
   exact⟨⟨⟨1,cg2,rg2⟩,Nat.le_refl _,hl,hga2,hgb2,hgc2⟩,aM ⟨rfl,rfl,rfl,rfl,rfl,trivial⟩ ⟨congrArg (fun q=>some (46,q++rg2)) (LI hl),trivial⟩ rfl,by show L.length-1<L.length+1;omega⟩
  ·exact(of_decide_eq_false hc1 (by omega)).elim
 ·rintro⟨⟨n,c,rs⟩,h1,h2,h3,h4,h5⟩
  dsimp only at h1 h2 h3 h4 h5
  show Dw _ _ ⟨87,[(7,.v (.c (.s ((L).length) (aI aB (L))))),(8,.o 39 (1+2*n) c),(27,.v (.c (.s ((L).length) (aI aB (L))))),(28,.v (.c (.i .i64 (L.length:Int)))),(29,.v (.c (.i .i64 (n:Int))))],[(39,46,aI au (lq L p0 n)++rs)]⟩ _
  refine aa<|ab<|ag<|aa ?_
  refine aw rfl (fun hc3=>?_) (fun hc3=>?_)
  ·have g1:n<L.length:=by have:=of_decide_eq_true hc3;omega
   refine ao<|aa<|aJ<|aa<|ab<|ah (aW (us:=aB (L.getD n bn)++aI aB (L.drop (n+1))) eu rfl rfl (by omega) (aG ak _) (bz ak (bi g1)) rfl) ?_
   refine ah (bb (us:=aB (L.getD n bn)) bd rfl (df _ _) (ak _) rfl) ?_
   refine aC (ai eo rfl) rfl<|bL (aZ bd rfl rfl rfl (ak _) rfl rfl) ?_
   refine ar<|ab<|al 2<|ah (aA (us:=au (L.getD n bn).p) bo rfl rfl (dW _) rfl rfl) ?_
   refine al 1<|ah (aA (us:=au (L.getD n bn).q) bo rfl rfl (dY _) rfl rfl) ?_
   refine ah (cC (n:=2) (us:=au (((L.getD n bn).p))++au (((L.getD n bn).q))) ft rfl rfl rfl (by decide) (by decide) rfl) ?_
   refine mQ (us:=aI au (lq L p0 n)) (rest:=rs) (ys:=au (((L.getD n bn).p))++au (((L.getD n bn).q))) ft rfl rfl rfl (by first|rfl|(rw[aG aO,mh (by omega)])) (by assumption) rfl (by decide) (by omega) (by assumption) (by omega) (gP (by omega)) (.inl rfl) rfl (fun cg4 rg4 hga4 hgb4 hgc4=>?_)
   refine ag<|ab<|ah (aK (r:=((n+1:Nat):Int)) rfl rfl ((aQ (by omega) (by omega)).trans (congrArg some (by omega))) rfl) ?_
   refine ag ?_
   exact⟨⟨⟨n+1,cg4,rg4⟩,by omega,g1,by show 1+2*(n+1)≤cg4;omega,hgb4,by show rg4.length=(cg4-(1+2*(n+1)))*20;rw[hgc4];rfl⟩,aM ⟨rfl,congrArg (fun q=>some (DV.o 39 q cg4)) (show 1+2*n+2=1+2*(n+1) by omega),rfl,rfl,rfl,trivial⟩ ⟨congrArg (fun q=>some (46,q++rg4)) (BE g1),trivial⟩ rfl,by show L.length-(n+1)<L.length-n;omega⟩
  ·have hp:n=L.length:=by have:=of_decide_eq_false hc3;omega
   have h3e:1+2*L.length≤c:=hp▸h3
   have h5e:rs.length=(c-(1+2*L.length))*20:=hp▸h5
   refine Dw.weak (σ':=⟨87,[(7,.v (.c (.s ((L).length) (aI aB (L))))),(8,.o 39 (1+2*L.length) c)],[(39,46,aI au (lq L p0 L.length)++rs)]⟩) (aM ⟨rfl,congrArg (fun q=>some (DV.o 39 (1+2*q) c)) hp,trivial⟩ ⟨congrArg (fun q=>some (46,aI au (lq L p0 q)++rs)) hp,trivial⟩ rfl) ?_
   refine bj<|aa<|aa<|ab<|ag<|cV (t:=8) (m:=20) (us:=aI au (lq L p0 L.length)) rfl rfl (iY (n:=1+2*L.length) ((aG aO _).trans (by rw[mh (Nat.le_refl _)])) (by assumption) (by omega)) (by omega) (by assumption) (fX ((aG aO _).trans (by rw[mh (Nat.le_refl _)])))<|aJ<|bD (ι:={k:Nat // k≤L.length}) (fun i=>⟨87,[(7,.v (.c (.s ((L).length) (aI aB (L))))),(8,.v (.c (.s (1+2*L.length) (aI au (lq L p0 L.length))))),(41,.v (.c (.s ((L).length) (aI aB (L))))),(42,.v (.c (.i .i64 (L.length:Int)))),(43,.v (.c (.i .i64 (i.1:Int))))],[]⟩) (fun i=>L.length-i.1) ⟨0,Nat.zero_le _⟩ (aM ⟨rfl,rfl,rfl,rfl,rfl,trivial⟩ trivial rfl) ?_
   rintro⟨k,h6⟩
   replace h6:k≤L.length:=h6
   show Dw _ _ ⟨87,[(7,.v (.c (.s ((L).length) (aI aB (L))))),(8,.v (.c (.s (1+2*L.length) (aI au (lq L p0 L.length))))),(41,.v (.c (.s ((L).length) (aI aB (L))))),(42,.v (.c (.i .i64 (L.length:Int)))),(43,.v (.c (.i .i64 (k:Int))))],[]⟩ _
   refine aa<|ab<|ag<|aa ?_
   refine aw rfl (fun hc5=>?_) (fun hc5=>?_)
   ·have g2:k<L.length:=by have:=of_decide_eq_true hc5;omega
    have vc:=vL _ (b8 (d:=bn) g2)
    have mc:=mL _ (b8 (d:=bn) g2)
    refine ao<|aa<|aJ<|aa<|ab<|ah (aW (us:=aB (L.getD k bn)++aI aB (L.drop (k+1))) eu rfl rfl (by omega) (aG ak _) (bz ak (bi g2)) rfl) ?_
    refine ah (bb (us:=aB (L.getD k bn)) bd rfl (df _ _) (ak _) rfl) ?_
    refine aC (ai eo rfl) rfl<|bL (aZ bd rfl rfl rfl (ak _) rfl rfl) ?_
    refine ar<|aa<|ab<|ag<|aJ<|bD (ι:={j:Nat // j≤1+2*L.length}) (fun i=>⟨87,[(7,.v (.c (.s ((L).length) (aI aB (L))))),(8,.v (.c (.s (1+2*L.length) (aI au (lq L p0 L.length))))),(12,.p 12 0),(41,.v (.c (.s ((L).length) (aI aB (L))))),(42,.v (.c (.i .i64 (L.length:Int)))),(43,.v (.c (.i .i64 (k:Int)))),(47,.v (.c (.s (1+2*L.length) (aI au (lq L p0 L.length))))),(48,.v (.c (.i .i64 (((1+2*L.length:Nat):Int))))),(49,.v (.c (.i .i64 (i.1:Int))))],[(12,48,aB (L.getD k bn))]⟩) (fun i=>1+2*L.length-i.1) ⟨0,Nat.zero_le _⟩ (aM ⟨rfl,rfl,rfl,rfl,rfl,rfl,rfl,rfl,rfl,trivial⟩ ⟨rfl,trivial⟩ rfl) ?_
    rintro⟨j,h7⟩
    replace h7:j≤1+2*L.length:=h7
    show Dw _ _ ⟨87,[(7,.v (.c (.s ((L).length) (aI aB (L))))),(8,.v (.c (.s (1+2*L.length) (aI au (lq L p0 L.length))))),(12,.p 12 0),(41,.v (.c (.s ((L).length) (aI aB (L))))),(42,.v (.c (.i .i64 (L.length:Int)))),(43,.v (.c (.i .i64 (k:Int)))),(47,.v (.c (.s (1+2*L.length) (aI au (lq L p0 L.length))))),(48,.v (.c (.i .i64 (((1+2*L.length:Nat):Int))))),(49,.v (.c (.i .i64 (j:Int))))],[(12,48,aB (L.getD k bn))]⟩ _
    refine aa<|ab<|ag<|aa ?_
    refine aw rfl (fun hc6=>?_) (fun hc6=>?_)
    ·have g3:j<1+2*L.length:=by have:=of_decide_eq_true hc6;omega
     have hq:GP ((lq L p0 L.length).getD j dPt):=Qo hp0 vL _ (b8 (by rw[mh (Nat.le_refl _)];exact g3))
     refine ao<|aa<|aJ<|aa<|ab<|ah (aW (us:=au ((lq L p0 L.length).getD j dPt)++aI au ((lq L p0 L.length).drop (j+1))) ek rfl rfl (by omega) ((aG aO _).trans (by rw[mh (Nat.le_refl _)])) (bz aO (bi (by rw[mh (Nat.le_refl _)];exact g3))) rfl) ?_
     refine ah (bb (us:=au ((((lq L p0 L.length).getD j dPt)))) bo rfl (lp _ _) (aO _) rfl) ?_
     refine aC (ai fO rfl) rfl<|ag<|aa<|ab<|ah (aA (us:=aB (L.getD k bn)) bd rfl rfl (by rw[List.drop_zero];exact List.take_of_length_le (Nat.le_of_eq (ak _))) (ak _) rfl) ?_
     refine al 1<|ah (am rfl (I1 vc hq))<|ag<|aa<|ab<|ah (aA (us:=aB (L.getD k bn)) bd rfl rfl (by rw[List.drop_zero];exact List.take_of_length_le (Nat.le_of_eq (ak _))) (ak _) rfl) ?_
     refine al 1<|ah (am rfl (VD vc hq))<|ag<|aa<|ab<|al 2<|ah (bQ (c:=false) (iP rfl) (by simp)) ?_
     refine al 3<|ah (bQ (c:=false) (iP rfl) (by simp)) ?_
     refine al 4 ?_
     refine cg (bN rfl) (fun c7 hb7=>?_)
     cases c7
     ·refine ag<|aP rfl<|ao<|ab<|ah (aK (r:=((j+1:Nat):Int)) rfl rfl ((aQ (by omega) (by omega)).trans (congrArg some (by omega))) rfl) ?_
      refine ag ?_
      exact⟨⟨j+1,g3⟩,aM ⟨rfl,rfl,rfl,rfl,rfl,rfl,rfl,rfl,rfl,trivial⟩ ⟨rfl,trivial⟩ rfl,by show 1+2*L.length-(j+1)<1+2*L.length-j;omega⟩
     ·have o1:=PT hb7
      refine al 2<|ah (aA (us:=aB (L.getD k bn)) bd rfl rfl (by rw[List.drop_zero];exact List.take_of_length_le (Nat.le_of_eq (ak _))) (ak _) rfl) ?_
      refine al 1<|ah (am rfl (wv vc.g hq))<|ah (bQ (c:=false) (ff rfl rfl fp rfl) (by rw[RM vc mc hq o1];simp)) ?_
      refine ag<|aP rfl<|ao<|ab<|ah (aK (r:=((j+1:Nat):Int)) rfl rfl ((aQ (by omega) (by omega)).trans (congrArg some (by omega))) rfl) ?_
      refine ag ?_
      exact⟨⟨j+1,g3⟩,aM ⟨rfl,rfl,rfl,rfl,rfl,rfl,rfl,rfl,rfl,trivial⟩ ⟨rfl,trivial⟩ rfl,by show 1+2*L.length-(j+1)<1+2*L.length-j;omega⟩
    ·refine bj<|ab<|ah (aK (r:=((k+1:Nat):Int)) rfl rfl ((aQ (by omega) (by omega)).trans (congrArg some (by omega))) rfl) ?_
     refine ag ?_
     exact⟨⟨k+1,g2⟩,aM ⟨rfl,rfl,rfl,rfl,rfl,trivial⟩ trivial rfl,by show L.length-(k+1)<L.length-k;omega⟩
   ·refine bj<|aa<|ab<|ag<|an ?_
    exact aq (aE ae)
theorem Do {X Y:List CellD}(lX:X.length=17) (lY:Y.length=17) (hA:Ok Tryz.prog 10 [] [.c (.b true)]) (hC:Ok Tryz.prog 12 [.a X,.a Y] [.c (.s 0 [])]) {Z:List CellD}(lZ:Z.length=6) {p0:Pt}(_hp0:GP p0) (hOf:Ok Tryz.prog 21 [.a Z] [.a (au p0)]):Ok Tryz.prog 4 [.a (X),.a (Y),.a (Z)] [.c (.b true)]:=by
 have hr0:([]:List CellD).length=(1-1)*20:=rfl
 have hm1:1≤maxLen:=by decide
 refine Ok.fn Tryz.func4 87 [.tmp 6] rfl<|aa<|ab<|ag<|aa<|aa<|ab<|ah (am rfl (hA))<|ag<|aP rfl<|ao<|aa<|ab<|ah (aA (us:=X) n8 rfl rfl (by rw[List.drop_zero];exact List.take_of_length_le (Nat.le_of_eq (lX))) (lX) rfl) ?_
 refine ah (aA (us:=Y) n8 rfl rfl (by rw[List.drop_zero];exact List.take_of_length_le (Nat.le_of_eq (lY))) (lY) rfl) ?_
 refine ah (am rfl (hC))<|ag<|aa<|ab<|ah (aA (us:=Z) Sk rfl rfl (by rw[List.drop_zero];exact List.take_of_length_le (Nat.le_of_eq (lZ))) (lZ) rfl) ?_
 refine ah (am rfl (hOf))<|jM (gg (us:=au p0) ft rfl rfl (by decide) (by decide) rfl) rfl ?_
 refine ag<|aa<|aa<|ab<|ag<|aJ ?_
 refine bD (ι:=Nat) (fun i=>match i with|_=>⟨87,[(7,.v (.c (.s 0 []))),(28,.v (.c (.i .i64 0))),(29,.v (.c (.i .i64 0)))],[]⟩) (fun i=>0-i) 0 (aM ⟨rfl,rfl,rfl,trivial⟩ trivial rfl) ?_
 intro i
 match i with
 |_=>
  show Dw _ _ ⟨87,[(7,.v (.c (.s 0 []))),(28,.v (.c (.i .i64 0))),(29,.v (.c (.i .i64 0)))],[]⟩ _
  refine aa<|ab<|ag<|aa<|aP rfl<|bj<|aa<|aa<|ab<|ag<|aJ ?_
  refine bD (ι:=Nat) (fun i=>match i with|_=>⟨87,[(42,.v (.c (.i .i64 0))),(43,.v (.c (.i .i64 0)))],[]⟩) (fun i=>0-i) 0 (aM ⟨rfl,rfl,trivial⟩ trivial rfl) ?_
  intro i
  match i with
  |_=>
   show Dw _ _ ⟨87,[(42,.v (.c (.i .i64 0))),(43,.v (.c (.i .i64 0)))],[]⟩ _
   refine aa<|ab<|ag<|aa<|aP rfl<|bj<|aa<|ab<|ag<|an ?_
   exact aq (aE ae)
end Go.Proofs.YtkmdgigkbhmilaaGreat
namespace Go.Proofs.YtkmdgigkbhmilaaGreat
open Go.ChangeShapes Go.WideShapes Go.ChangeAt Go.RowKit
theorem Bm {K U A B C D E F K' U' A' B' C' D' E' F' N:Int}(w0:0≤K∧K≤255) (w1:0≤U∧U≤255) (w2: -128≤A∧A≤127) (w3: -128≤B∧B≤127) (w4: -128≤C∧C≤127) (w5: -128≤D∧D≤127) (w6: -128≤E∧E≤127) (w7: -128≤F∧F≤127) (w8:0≤K'∧K'≤255) (w9:0≤U'∧U'≤255) (w10: -128≤A'∧A'≤127) (w11: -128≤B'∧B'≤127) (w12: -128≤C'∧C'≤127) (w13: -128≤D'∧D'≤127) (w14: -128≤E'∧E'≤127) (w15: -128≤F'∧F'≤127) (w16:0≤N∧N≤255) {K2 U2 A2 B2 C2 D2 E2 F2 K'2 U'2 A'2 B'2 C'2 D'2 E'2 F'2 N2:Int}(v0:0≤K2∧K2≤255) (v1:0≤U2∧U2≤255) (v2: -128≤A2∧A2≤127) (v3: -128≤B2∧B2≤127) (v4: -128≤C2∧C2≤127) (v5: -128≤D2∧D2≤127) (v6: -128≤E2∧E2≤127) (v7: -128≤F2∧F2≤127) (v8:0≤K'2∧K'2≤255) (v9:0≤U'2∧U'2≤255) (v10: -128≤A'2∧A'2≤127) (v11: -128≤B'2∧B'2≤127) (v12: -128≤C'2∧C'2≤127) (v13: -128≤D'2∧D'2≤127) (v14: -128≤E'2∧E'2≤127) (v15: -128≤F'2∧F'2≤127) (v16:0≤N2∧N2≤255) {p:PlD}(wp:p.Wf):Ok Tryz.prog 4 [.a (([.i .u8 K]++[.i .u8 U]++[.i .i8 A]++[.i .i8 B]++[.i .i8 C]++[.i .i8 D]++[.i .i8 E]++[.i .i8 F])++([.i .u8 K']++[.i .u8 U']++[.i .i8 A']++[.i .i8 B']++[.i .i8 C']++[.i .i8 D']++[.i .i8 E']++[.i .i8 F'])++[.i .u8 N]),.a (([.i .u8 K2]++[.i .u8 U2]++[.i .i8 A2]++[.i .i8 B2]++[.i .i8 C2]++[.i .i8 D2]++[.i .i8 E2]++[.i .i8 F2])++([.i .u8 K'2]++[.i .u8 U'2]++[.i .i8 A'2]++[.i .i8 B'2]++[.i .i8 C'2]++[.i .i8 D'2]++[.i .i8 E'2]++[.i .i8 F'2])++[.i .u8 N2]),.a (VR p)] [.c (.b true)]:=by
 obtain⟨L,vL,mL,lL,hC⟩:=zx rfl rfl (kr w0 w1 w2 w3 w4 w5 w6 w7 w8 w9 w10 w11 w12 w13 w14 w15 w16) (kr v0 v1 v2 v3 v4 v5 v6 v7 v8 v9 v10 v11 v12 v13 v14 v15 v16)
 obtain⟨q,gq,hq⟩:=UR wp
 rcases Nat.eq_zero_or_pos L.length with h|h
 ·obtain rfl:=List.length_eq_zero_iff.1 h
  exact Do rfl rfl kh hC rfl gq hq
 ·exact Ju rfl rfl kh lL vL hC h mL rfl gq hq
set_option maxRecDepth 100000 in
theorem wT (os:Os) (started:os.Started) (H:Type) (enc:TypeId×Value→H):
 ReturnsInHanded {} Tryz.checked os 4 .any (Rows.monotoneAboveSpec.pre6 enc Tryz.prog Tryz.f4 Rows.monotoneAboveRow.domain false) (Rows.monotoneAboveSpec.post enc Tryz.prog Tryz.f4 false true false false):=by
 refine returnsInHanded_of_change (C:=Tryz.checked) own started (by kernel_rfl) Tryz.func4
  (ChangeSpec.witness6 (enc:=enc) (C:=Tryz.checked) false ⟨#[],#[.agg #[.int .u8 0,.int .u8 0,.int .i8 0,.int .i8 0,.int .i8 0,.int .i8 0,.int .i8 0,.int .i8 0,.int .u8 0,.int .u8 0,.int .i8 0,.int .i8 0,.int .i8 0,.int .i8 0,.int .i8 0,.int .i8 0,.int .u8 0],.agg #[.int .u8 0,.int .u8 0,.int .i8 0,.int .i8 0,.int .i8 0,.int .i8 0,.int .i8 0,.int .i8 0,.int .u8 0,.int .u8 0,.int .i8 0,.int .i8 0,.int .i8 0,.int .i8 0,.int .i8 0,.int .i8 0,.int .u8 0],.agg #[.int .i16 0,.int .i16 0,.int .i16 0,.int .i16 0,.int .u16 0,.int .u8 0]],[]⟩ 8 (by kernel_rfl) (by kernel_rfl) (by kernel_rfl) (by kernel_rfl)) ?_
 intro W base args ds gs before hval0 hW hcnd _
 have hval: ∀(j:Nat) t v,Tryz.f4.params[j]? =some t→args[j]? =some v→Value.okWide Tryz.prog W .any base t v:=hval0
 have hW':=hW
 obtain⟨p,q,hA0,hV,rfl,hfz,hnd⟩:=hW
 have hA:DataW.TrodAll enc Tryz.prog W 0 (fun _=>true) true Tryz.f4.params.toList args.toList ds p:=hA0
 rw[Tryz.params4] at hA hval
 obtain⟨v0,vs0,d0,ds0,p0,q0,hargs,rfl,rfl,h0,r0⟩:=trodAll_cons hA
 obtain⟨v1,vs1,d1,ds1,p1,q1,rfl,rfl,rfl,h1,r1⟩:=trodAll_cons r0
 obtain⟨v2,vs2,d2,ds2,p2,q2,rfl,rfl,rfl,h2,r2⟩:=trodAll_cons r1
 obtain⟨rfl,rfl,rfl⟩:=trodAll_nil r2
 obtain rfl:args= #[v0,v1,v2]:=by cases args;simp_all
 obtain⟨rfl,rfl⟩:=trodVars_none hV
 obtain⟨a0,rfl,_⟩:=okWide_struct Tryz.underlying26 (hval 0 26 v0 rfl rfl)
 have k0:=h0
 have lt0: ∀x∈p0,x.block<W.heap.size:=by obtain⟨m,hm⟩:=k0;exact DataW.trod_lt m _ _ _ hm
 obtain⟨a1,rfl,_⟩:=okWide_struct Tryz.underlying26 (hval 1 26 v1 rfl rfl)
 have k1:=h1
 have lt1: ∀x∈p1,x.block<W.heap.size:=by obtain⟨m,hm⟩:=k1;exact DataW.trod_lt m _ _ _ hm
 obtain⟨a2,rfl,_⟩:=okWide_struct Tryz.underlying62 (hval 2 62 v2 rfl rfl)
 have k2:=h2
 have lt2: ∀x∈p2,x.block<W.heap.size:=by obtain⟨m,hm⟩:=k2;exact DataW.trod_lt m _ _ _ hm
 obtain⟨y00,y01,y02,y03,y04,y05,y06,y07,y08,y09,y010,y011,y012,y013,y014,y015,y016,g00,g01,g02,g03,g04,g05,g06,g07,g08,g09,g010,g011,g012,g013,g014,g015,g016,hr0⟩:=jc (show DataW.trod enc Tryz.prog W 0 _ _ h0.choose 26 a0.toList=some _ from h0.choose_spec)
 obtain⟨y10,y11,y12,y13,y14,y15,y16,y17,y18,y19,y110,y111,y112,y113,y114,y115,y116,g10,g11,g12,g13,g14,g15,g16,g17,g18,g19,g110,g111,g112,g113,g114,g115,g116,hr1⟩:=jc (show DataW.trod enc Tryz.prog W 0 _ _ h1.choose 26 a1.toList=some _ from h1.choose_spec)
 obtain⟨e20,w20,hr2⟩:=Ka (show DataW.trod enc Tryz.prog W 0 _ _ h2.choose 62 a2.toList=some _ from h2.choose_spec)
 clear hA0 hval0
 refine(wF (Bm g00 g01 g02 g03 g04 g05 g06 g07 g08 g09 g010 g011 g012 g013 g014 g015 g016 g10 g11 g12 g13 g14 g15 g16 g17 g18 g19 g110 g111 g112 g113 g114 g115 g116 w20) (RdL.cons ⟨a0,rfl,hr0⟩ (RdL.cons ⟨a1,rfl,hr1⟩ (RdL.cons ⟨a2,rfl,hr2⟩ RdL.nil)))).mono fun e W' ⟨he,bel⟩=>?_
 subst he
 exact⟨_,rfl,_,_,_,[],_,[],hW',trodAll_mk1 (shut_bool Tryz.underlying4 _),(trodAll_cons_mk (Below.trod jq (by kernel_rfl) (of_decide_eq_true (by kernel_rfl)) k0 bel lt0) (trodAll_cons_mk (Below.trod jq (by kernel_rfl) (of_decide_eq_true (by kernel_rfl)) k1 bel lt1) (trodAll_cons_mk (Below.trod jq (by kernel_rfl) (of_decide_eq_true (by kernel_rfl)) k2 bel lt2) trodAll_mk0))),rfl,bel.frame _,fun h=>by cases h⟩
theorem above11_proved:Rows.MonotoneAboveSaid:=
 OpenClaim.holds_of_wide 4 Tryz.f4 rfl rfl rfl rfl rfl rfl rfl ⟨rfl,rfl,rfl,rfl,rfl⟩ rfl rfl rfl rfl rfl Dg Tryz.func4 Ez
  (of_decide_eq_true (by kernel_rfl)) (by unfold Func.isWrapper;first|(rw[if_pos (by decide+kernel)];kernel_rfl)|(rw[if_neg (by decide+kernel)];exact⟨rfl,rfl⟩))
  (fun os started H enc _=>wT os started H enc)
end Go.Proofs.YtkmdgigkbhmilaaGreat
