/-Monotone pieces:the reference. -/
import Derived.Test.YtkmdgigkbhmilaaGreatNbR
namespace Go.Proofs.YtkmdgigkbhmilaaGreat
open Go Go.RowKit
theorem Th {l:Ln}{f t:Pt}(vc:CvV (Cv.seg l f t)):Ok Tryz.prog 41 [.a (([.b false]++dV l++cS++[.b false]++au f++au t))] [.c (.s (((mi (Cv.seg l f t))).length) (aI aB ((mi (Cv.seg l f t)))))]:=by
 have lR:(bc (Cv.seg l f t)).length≤3:=vX
 have pR:0<(bc (Cv.seg l f t)).length:=pN vc
 refine Ok.fn Tryz.func41 85 [.tmp 2] rfl<|aa<|ab<|ag<|aa<|ab<|al 1<|ah (cC (n:=1) (us:=([.b false]++dV l++cS++[.b false]++au f++au t)) gA rfl rfl rfl (by decide) (by decide) rfl) ?_
 refine ag ?_
 refine gE (ι:=Unit) (fun i=>⟨85,[(3,.v (.c (.s (((bc (Cv.seg l f t))).length) (aI aB ((bc (Cv.seg l f t)))))))],[]⟩) ?_ ?_
 ·refine aa<|ab<|ag<|aP rfl<|ao ?_
  exact⟨(),aM ⟨rfl,trivial⟩ trivial rfl⟩
 ·rintro⟨⟩
  show Dw _ _ ⟨85,[(3,.v (.c (.s (((bc (Cv.seg l f t))).length) (aI aB ((bc (Cv.seg l f t)))))))],[]⟩ _
  refine aa<|ab<|ah (fF rfl) ?_
  refine ar<|aa<|aa<|ab<|ag<|aJ ?_
  refine n6 (ι:={x9:Nat×Nat×List CellD // 1≤x9.1∧x9.1≤(bc (Cv.seg l f t)).length∧x9.1≤x9.2.1∧x9.2.1≤maxLen∧x9.2.2.length=(x9.2.1-x9.1)*66}) (fun i=>⟨85,[(3,.v (.c (.s (((bc (Cv.seg l f t))).length) (aI aB ((bc (Cv.seg l f t))))))),(7,.o 83 i.1.1 i.1.2.1),(8,.v (.c (.i .i64 (i.1.1:Int))))],[(83,48,aI aB (ez ((bc (Cv.seg l f t)).take i.1.1))++i.1.2.2)]⟩) (fun i=>(bc (Cv.seg l f t)).length-i.1.1) ((bc (Cv.seg l f t)).length) ?_ ?_
  ·refine aa<|aa<|ab<|ag ?_
   refine aw rfl (fun hc1=>?_) (fun hc1=>?_)
   ·have g1:0<(bc (Cv.seg l f t)).length:=pN vc
    have hX:CvV ((bc (Cv.seg l f t)).getD 0 bn):=po vc _ (b8 g1)
    refine ao<|aa<|aJ<|aa<|ab<|al 2<|ah (aW (us:=aB ((bc (Cv.seg l f t)).getD 0 bn)++aI aB ((bc (Cv.seg l f t)).drop (0+1))) eu rfl rfl (by omega) (aG ak _) (bz ak (bi g1)) rfl) ?_
    refine ah (bb (us:=aB (((bc (Cv.seg l f t)).getD 0 bn))) bd rfl (df _ _) (ak _) rfl) ?_
    refine aC (ai eo rfl) rfl<|bL (aZ bd rfl rfl rfl (ak _) rfl rfl) ?_
    refine ar ?_
    refine gE (ι:=Unit) (fun i=>⟨85,[(3,.v (.c (.s (((bc (Cv.seg l f t))).length) (aI aB ((bc (Cv.seg l f t))))))),(7,.z),(8,.v (.c (.i .i64 0))),(9,.p 9 0)],[(9,48,aB (((bc (Cv.seg l f t)).getD 0 bn).fwd))]⟩) ?_ ?_
    ·refine aa<|ab<|al 1<|ah (aA (us:=au (((bc (Cv.seg l f t)).getD 0 bn)).p) bo rfl rfl (dW _) rfl rfl) ?_
     refine al 1<|ah (aA (us:=au (((bc (Cv.seg l f t)).getD 0 bn)).q) bo rfl rfl (dY _) rfl rfl) ?_
     refine ah (am rfl (kW (cn hX.g) (cH hX.g)))<|ag ?_
     refine aw rfl (fun hc2=>?_) (fun hc2=>?_)
     ·have m2:=xF hc2
      refine ab<|ah (aA (us:=aB (((bc (Cv.seg l f t)).getD 0 bn))) bd rfl rfl (by rw[List.drop_zero];exact List.take_of_length_le (Nat.le_of_eq (ak _))) (ak _) rfl) ?_
      refine ah (am rfl (zl hX))<|bL (aZ bd rfl rfl rfl (ak _) (ak _) rfl) ?_
      refine ar ?_
      exact⟨(),aM ⟨rfl,rfl,rfl,rfl,trivial⟩ ⟨congrArg (fun q=>some (48,aB q)) m2.symm,trivial⟩ rfl⟩
     ·have m2:=x8 hc2
      refine ao ?_
      exact⟨(),aM ⟨rfl,rfl,rfl,rfl,trivial⟩ ⟨congrArg (fun q=>some (48,aB q)) m2.symm,trivial⟩ rfl⟩
    ·rintro⟨⟩
     show Dw _ _ ⟨85,[(3,.v (.c (.s (((bc (Cv.seg l f t))).length) (aI aB ((bc (Cv.seg l f t))))))),(7,.z),(8,.v (.c (.i .i64 0))),(9,.p 9 0)],[(9,48,aB (((bc (Cv.seg l f t)).getD 0 bn).fwd))]⟩ _
     refine aa<|ab<|ag<|aa<|aJ ?_
     refine bD (ι:=Nat) (fun i=>match i with|_=>⟨85,[(3,.v (.c (.s (((bc (Cv.seg l f t))).length) (aI aB ((bc (Cv.seg l f t))))))),(7,.z),(8,.v (.c (.i .i64 0))),(9,.p 9 0),(10,.v (.c (.i .i64 0)))],[(9,48,aB (((bc (Cv.seg l f t)).getD 0 bn).fwd))]⟩) (fun i=>0-i) 0 (aM ⟨rfl,rfl,rfl,rfl,rfl,trivial⟩ ⟨rfl,trivial⟩ rfl) ?_
     intro i
     match i with
     |_=>
      show Dw _ _ ⟨85,[(3,.v (.c (.s (((bc (Cv.seg l f t))).length) (aI aB ((bc (Cv.seg l f t))))))),(7,.z),(8,.v (.c (.i .i64 0))),(9,.p 9 0),(10,.v (.c (.i .i64 0)))],[(9,48,aB (((bc (Cv.seg l f t)).getD 0 bn).fwd))]⟩ _
      refine aa<|aa<|aR 13 rfl rfl<|ap 2<|aj (xH eu rfl rfl) ?_
      refine bk<|az<|ar<|aP rfl<|bj<|aR 9 rfl rfl<|ap 2<|aj (tI eu rfl rfl rfl) ?_
      refine aj (aA (us:=aB (((bc (Cv.seg l f t)).getD 0 bn).fwd)) bd rfl rfl (by rw[List.drop_zero];exact List.take_of_length_le (Nat.le_of_eq (ak _))) (ak _) rfl) ?_
      refine aj (jB (us:=aB ((bc (Cv.seg l f t)).getD 0 bn).fwd) gA rfl (o7 rfl (ak _)) (dE (ak _)) (by decide) (by decide) rfl) ?_
      refine ap 2<|aj (rZ eu rfl rfl rfl) ?_
      refine aj (rN gA rfl rfl (dE (ak _)) (by decide) (by decide) (by decide) (by decide) rfl) ?_
      refine aY<|az ?_
      refine qm (q:=1) (ys:=aB ((bc (Cv.seg l f t)).getD 0 bn).fwd) (zs':=aI aB (ez ((bc (Cv.seg l f t)).take 1))) gA rfl rfl (ak _) (by decide) (by decide) (by decide) rfl (by rw[A9 g1];exact(iH _).symm) rfl (fun cg3 rg3 hga3 hgb3 hgc3=>?_)
      refine ag<|ab<|al 1<|ah (aK (r:=1) rfl rfl rfl rfl) ?_
      refine ag ?_
      exact⟨⟨⟨1,cg3,rg3⟩,by omega,by omega,by omega,hgb3,hgc3⟩,aM ⟨rfl,rfl,rfl,trivial⟩ ⟨rfl,trivial⟩ rfl,by show(bc (Cv.seg l f t)).length-1<(bc (Cv.seg l f t)).length;omega⟩
   ·exact(of_decide_eq_false hc1 (by omega)).elim
  ·rintro⟨⟨n,c,rs⟩,h1,h2,h3,h4,h5⟩
   dsimp only at h1 h2 h3 h4 h5
   show Dw _ _ ⟨85,[(3,.v (.c (.s (((bc (Cv.seg l f t))).length) (aI aB ((bc (Cv.seg l f t))))))),(7,.o 83 n c),(8,.v (.c (.i .i64 (n:Int))))],[(83,48,aI aB (ez ((bc (Cv.seg l f t)).take n))++rs)]⟩ _
   refine aa<|aa<|ab<|ag ?_
   refine aw rfl (fun hc4=>?_) (fun hc4=>?_)
   ·have g1:n<(bc (Cv.seg l f t)).length:=by have:=of_decide_eq_true hc4;omega
    have hX:CvV ((bc (Cv.seg l f t)).getD n bn):=po vc _ (b8 g1)
    have Olen:(ez ((bc (Cv.seg l f t)).take n)).length=n:=by rw[fj,List.length_take];omega
    have hO: ∀d∈(ez ((bc (Cv.seg l f t)).take n)),CvV d:=fun d hd=>by
     obtain⟨x,hx,e⟩:=sx hd
     rw[e];exact tS (po vc x (List.mem_of_mem_take hx))
    have h2c:n≤c:=h3
    refine ao<|aa<|aJ<|aa<|ab<|al 2<|ah (aW (us:=aB ((bc (Cv.seg l f t)).getD n bn)++aI aB ((bc (Cv.seg l f t)).drop (n+1))) eu rfl rfl (by omega) (aG ak _) (bz ak (bi g1)) rfl) ?_
    refine ah (bb (us:=aB (((bc (Cv.seg l f t)).getD n bn))) bd rfl (df _ _) (ak _) rfl) ?_
    refine aC (ai eo rfl) rfl<|bL (aZ bd rfl rfl rfl (ak _) rfl rfl) ?_
    refine ar ?_
    refine gE (ι:=Unit) (fun i=>⟨85,[(3,.v (.c (.s (((bc (Cv.seg l f t))).length) (aI aB ((bc (Cv.seg l f t))))))),(7,.o 83 n c),(8,.v (.c (.i .i64 (n:Int)))),(9,.p 9 0)],[(9,48,aB (((bc (Cv.seg l f t)).getD n bn).fwd)),(83,48,aI aB (ez ((bc (Cv.seg l f t)).take n))++rs)]⟩) ?_ ?_
    ·refine aa<|ab<|al 1<|ah (aA (us:=au (((bc (Cv.seg l f t)).getD n bn)).p) bo rfl rfl (dW _) rfl rfl) ?_
     refine al 1<|ah (aA (us:=au (((bc (Cv.seg l f t)).getD n bn)).q) bo rfl rfl (dY _) rfl rfl) ?_
     refine ah (am rfl (kW (cn hX.g) (cH hX.g)))<|ag ?_
     refine aw rfl (fun hc5=>?_) (fun hc5=>?_)
     ·have m2:=xF hc5
      refine ab<|ah (aA (us:=aB (((bc (Cv.seg l f t)).getD n bn))) bd rfl rfl (by rw[List.drop_zero];exact List.take_of_length_le (Nat.le_of_eq (ak _))) (ak _) rfl) ?_
      refine ah (am rfl (zl hX))<|bL (aZ bd rfl rfl rfl (ak _) (ak _) rfl) ?_
      refine ar ?_
      exact⟨(),aM ⟨rfl,rfl,rfl,rfl,trivial⟩ ⟨congrArg (fun q=>some (48,aB q)) m2.symm,rfl,trivial⟩ rfl⟩
     ·have m2:=x8 hc5
      refine ao ?_
      exact⟨(),aM ⟨rfl,rfl,rfl,rfl,trivial⟩ ⟨congrArg (fun q=>some (48,aB q)) m2.symm,rfl,trivial⟩ rfl⟩
    ·rintro⟨⟩
     show Dw _ _ ⟨85,[(3,.v (.c (.s (((bc (Cv.seg l f t))).length) (aI aB ((bc (Cv.seg l f t))))))),(7,.o 83 n c),(8,.v (.c (.i .i64 (n:Int)))),(9,.p 9 0)],[(9,48,aB (((bc (Cv.seg l f t)).getD n bn).fwd)),(83,48,aI aB (ez ((bc (Cv.seg l f t)).take n))++rs)]⟩ _
     refine aa<|ab<|ag<|aa<|aJ<|bD (ι:={j:Nat // j≤n∧ ∀r,r<j→dK ((ez ((bc (Cv.seg l f t)).take n)).getD r bn) ((bc (Cv.seg l f t)).getD n bn).fwd≤0}) (fun i=>⟨85,[(3,.v (.c (.s (((bc (Cv.seg l f t))).length) (aI aB ((bc (Cv.seg l f t))))))),(7,.o 83 n c),(8,.v (.c (.i .i64 (n:Int)))),(9,.p 9 0),(10,.v (.c (.i .i64 (i.1:Int))))],[(9,48,aB (((bc (Cv.seg l f t)).getD n bn).fwd)),(83,48,aI aB (ez ((bc (Cv.seg l f t)).take n))++rs)]⟩) (fun i=>n-i.1) ⟨0,Nat.zero_le _,fun r h=>absurd h (Nat.not_lt_zero r)⟩ (aM ⟨rfl,rfl,rfl,rfl,rfl,trivial⟩ ⟨rfl,rfl,trivial⟩ rfl) ?_
     rintro⟨j,h3j,h4j⟩
     replace h3j:j≤n:=h3j
     replace h4j: ∀r,r<j→dK ((ez ((bc (Cv.seg l f t)).take n)).getD r bn) ((bc (Cv.seg l f t)).getD n bn).fwd≤0:=h4j
     show Dw _ _ ⟨85,[(3,.v (.c (.s (((bc (Cv.seg l f t))).length) (aI aB ((bc (Cv.seg l f t))))))),(7,.o 83 n c),(8,.v (.c (.i .i64 (n:Int)))),(9,.p 9 0),(10,.v (.c (.i .i64 (j:Int))))],[(9,48,aB (((bc (Cv.seg l f t)).getD n bn).fwd)),(83,48,aI aB (ez ((bc (Cv.seg l f t)).take n))++rs)]⟩ _
     refine aa<|aa<|aR 13 rfl rfl<|ap 2<|aj (eZ eu rfl rfl) ?_
     refine ap 1 ?_
     refine fb (bN rfl) (fun c6 hb6=>?_)
     cases c6
     ·have g2:n≤j:=by have:=of_decide_eq_false hb6;omega
      have hs:nZ ((bc (Cv.seg l f t)).getD n bn).fwd (ez ((bc (Cv.seg l f t)).take n))=j:=pD _ (by rw[Olen];omega) h4j (.inl (by rw[Olen];omega))
      refine bk<|az<|ar<|aP rfl<|bj<|aR 9 rfl rfl<|ap 2<|aj (gV (q:=j) eu rfl rfl (by omega) rfl) ?_
      refine aj (aA (us:=aB (((bc (Cv.seg l f t)).getD n bn).fwd)) bd rfl rfl (by rw[List.drop_zero];exact List.take_of_length_le (Nat.le_of_eq (ak _))) (ak _) rfl) ?_
      refine aj (jB (us:=aB ((bc (Cv.seg l f t)).getD n bn).fwd) gA rfl (o7 rfl (ak _)) (dE (ak _)) (by decide) (by decide) rfl) ?_
      refine ap 2<|aj (iI (q:=j) eu rfl rfl (by omega) (by omega) rfl) ?_
      refine aj (ng (q:=n-j) (ys:=aI aB ((ez ((bc (Cv.seg l f t)).take n)).drop j)) gA rfl rfl rfl (AG Olen h3j h2c) (zQ Olen h3j h5 h2c) (by omega) (by omega) (dE (ak _)) (by rw[aG ak,List.length_drop,Olen]) (by decide) (by decide) (by omega) (gP (by omega)) rfl) ?_
      refine aY<|az ?_
      refine lW (n:=j) (c:=c) (q:=1+(n-j)) (us:=aI aB ((ez ((bc (Cv.seg l f t)).take n)).take j)) (rest:=aI aB ((ez ((bc (Cv.seg l f t)).take n)).drop j)++rs) (N':=n+1) (zs':=aI aB (ez ((bc (Cv.seg l f t)).take (n+1)))) gA rfl rfl rfl (sw j) (by rw[aG ak,List.length_take,Olen,Nat.min_eq_left h3j]) (by rw[List.length_append,aG ak,List.length_drop,Olen,h5];omega) (by rw[List.length_append,ak,aG ak,List.length_drop,Olen];omega) (by decide) (by omega) (by assumption) (by omega) (gP (by omega)) (.inl rfl) (by omega) (by rw[pi g1];exact p6 hs) rfl (fun cg7 rg7 hga7 hgb7 hgc7=>?_)
      refine ag<|ab<|al 1<|ah (aK (r:=((n+1:Nat):Int)) rfl rfl ((aQ (by omega) (by omega)).trans (congrArg some (by omega))) rfl) ?_
      refine ag ?_
      exact⟨⟨⟨n+1,cg7,rg7⟩,by omega,g1,by omega,hgb7,hgc7⟩,aM ⟨rfl,rfl,rfl,trivial⟩ ⟨rfl,trivial⟩ rfl,by show(bc (Cv.seg l f t)).length-(n+1)<(bc (Cv.seg l f t)).length-n;omega⟩
     ·have g2:j<n:=by have:=of_decide_eq_true hb6;omega
      refine ap 2<|aj (br eu rfl rfl (by omega) rfl) ?_
      refine aj (aA (us:=aB ((ez ((bc (Cv.seg l f t)).take n)).getD j bn)) bd rfl rfl (OF (by rw[Olen];omega)) (ak _) rfl) ?_
      refine aj (aA (us:=aB (((bc (Cv.seg l f t)).getD n bn).fwd)) bd rfl rfl (by rw[List.drop_zero];exact List.take_of_length_le (Nat.le_of_eq (ak _))) (ak _) rfl) ?_
      refine aj (am rfl (LY (hO _ (b8 (by rw[Olen];omega))) (tS hX)))<|bk<|az<|ar ?_
      refine aw rfl (fun hc8=>?_) (fun hc8=>?_)
      ·have g3:dK ((ez ((bc (Cv.seg l f t)).take n)).getD j bn) ((bc (Cv.seg l f t)).getD n bn).fwd≤0:=of_decide_eq_true hc8
       refine ao<|aJ<|ab<|al 1<|ah (aK (r:=((j+1:Nat):Int)) rfl rfl ((aQ (by omega) (by omega)).trans (congrArg some (by omega))) rfl) ?_
       refine ag ?_
       exact⟨⟨j+1,g2,fun r hr=>(Nat.lt_succ_iff_lt_or_eq.1 hr).elim (h4j r) (fun e=>by rw[e];exact g3)⟩,aM ⟨rfl,rfl,rfl,rfl,rfl,trivial⟩ ⟨rfl,rfl,trivial⟩ rfl,by show n-(j+1)<n-j;omega⟩
      ·have hs:nZ ((bc (Cv.seg l f t)).getD n bn).fwd (ez ((bc (Cv.seg l f t)).take n))=j:=pD _ (by rw[Olen];omega) h4j (.inr (of_decide_eq_false hc8))
       refine bj<|aR 9 rfl rfl<|ap 2<|aj (gV (q:=j) eu rfl rfl (by omega) rfl) ?_
       refine aj (aA (us:=aB (((bc (Cv.seg l f t)).getD n bn).fwd)) bd rfl rfl (by rw[List.drop_zero];exact List.take_of_length_le (Nat.le_of_eq (ak _))) (ak _) rfl) ?_
       refine aj (jB (us:=aB ((bc (Cv.seg l f t)).getD n bn).fwd) gA rfl (o7 rfl (ak _)) (dE (ak _)) (by decide) (by decide) rfl) ?_
       refine ap 2<|aj (iI (q:=j) eu rfl rfl (by omega) (by omega) rfl) ?_
       refine aj (ng (q:=n-j) (ys:=aI aB ((ez ((bc (Cv.seg l f t)).take n)).drop j)) gA rfl rfl rfl (AG Olen h3j h2c) (zQ Olen h3j h5 h2c) (by omega) (by omega) (dE (ak _)) (by rw[aG ak,List.length_drop,Olen]) (by decide) (by decide) (by omega) (gP (by omega)) rfl) ?_
       refine aY<|az ?_
       refine lW (n:=j) (c:=c) (q:=1+(n-j)) (us:=aI aB ((ez ((bc (Cv.seg l f t)).take n)).take j)) (rest:=aI aB ((ez ((bc (Cv.seg l f t)).take n)).drop j)++rs) (N':=n+1) (zs':=aI aB (ez ((bc (Cv.seg l f t)).take (n+1)))) gA rfl rfl rfl (sw j) (by rw[aG ak,List.length_take,Olen,Nat.min_eq_left h3j]) (by rw[List.length_append,aG ak,List.length_drop,Olen,h5];omega) (by rw[List.length_append,ak,aG ak,List.length_drop,Olen];omega) (by decide) (by omega) (by assumption) (by omega) (gP (by omega)) (.inl rfl) (by omega) (by rw[pi g1];exact p6 hs) rfl (fun cg9 rg9 hga9 hgb9 hgc9=>?_)
       refine ag<|ab<|al 1<|ah (aK (r:=((n+1:Nat):Int)) rfl rfl ((aQ (by omega) (by omega)).trans (congrArg some (by omega))) rfl) ?_
       refine ag ?_
       exact⟨⟨⟨n+1,cg9,rg9⟩,by omega,g1,by omega,hgb9,hgc9⟩,aM ⟨rfl,rfl,rfl,trivial⟩ ⟨rfl,trivial⟩ rfl,by show(bc (Cv.seg l f t)).length-(n+1)<(bc (Cv.seg l f t)).length-n;omega⟩
   ·have hp:n=(bc (Cv.seg l f t)).length:=by have:=of_decide_eq_false hc4;omega
    refine bj<|aa<|ab<|ag ?_
    refine cV (t:=2) (m:=66) (us:=aI aB (ez ((bc (Cv.seg l f t)).take n))) rfl rfl (iY (n:=n) (by first|rfl|(rw[aG ak,fj,List.length_take,Nat.min_eq_left (by omega)])) (by assumption) (by omega)) (by omega) (by assumption) (fX (by first|rfl|(rw[aG ak,fj,List.length_take,Nat.min_eq_left (by omega)]))) ?_
    refine an ?_
    rw[show mi (Cv.seg l f t)=(ez ((bc (Cv.seg l f t)).take n)) from by rw[hp,List.take_length];rfl,show(ez ((bc (Cv.seg l f t)).take n)).length=n from by rw[fj,List.length_take];omega]
    exact aq (aE ae)
theorem Si {k:Ci}{w:Bool}{f t:Pt}(vc:CvV (Cv.arc k w f t)):Ok Tryz.prog 41 [.a (([.b true]++cS++ca k++[.b w]++au f++au t))] [.c (.s (((mi (Cv.arc k w f t))).length) (aI aB ((mi (Cv.arc k w f t)))))]:=by
 have lR:(bc (Cv.arc k w f t)).length≤3:=vX
 have pR:0<(bc (Cv.arc k w f t)).length:=pN vc
 have hk:=vc.g.1
 have hf:=vc.g.2.1
 have ht:=vc.g.2.2
 have gL:=qY hk vc.pos
 have gR:=q6 hk vc.pos
 refine Ok.fn Tryz.func41 85 [.tmp 2] rfl<|aa<|ab<|ag<|aa<|ab<|al 1<|ah (cC (n:=1) (us:=([.b true]++cS++ca k++[.b w]++au f++au t)) gA rfl rfl rfl (by decide) (by decide) rfl) ?_
 refine ag ?_
 refine gE (ι:=Unit) (fun i=>⟨85,[(3,.v (.c (.s (((bc (Cv.arc k w f t))).length) (aI aB ((bc (Cv.arc k w f t)))))))],[]⟩) ?_ ?_
 ·refine aa<|ab<|ag<|bg rfl<|aa<|ab<|al 1<|ah (cD (ca k) mJ rfl (by kernel_rfl))<|ah (am rfl (Ps hk))<|al 3<|aC (ai fO rfl) rfl<|aC (ai fO rfl) rfl<|ag<|aa ?_
  refine ab<|ah (fF rfl) ?_
  refine ar<|aa<|aa<|ab<|al 2<|ah (am rfl (zT hk hf ht gL))<|ar ?_
  refine aw rfl (fun hc1=>?_) (fun hc1=>?_)
  ·--region 6
   refine ab<|al 2<|ah (cC (n:=1) (us:=au (jt k)) ft rfl rfl rfl (by decide) (by decide) rfl) ?_
   refine mm (ys:=au (jt k)) ft rfl rfl rfl (by decide) (by decide) (by decide) rfl rfl (fun cg2 rg2 hga2 hgb2 hgc2=>?_)
   refine ag<|aa<|aa<|ab<|al 2<|ah (am rfl (zT hk hf ht gR))<|ar ?_
   refine aw rfl (fun hc3=>?_) (fun hc3=>?_)
   ·have e:f8 (Cv.arc k w f t)=[jt k,i9 k]:=m7 hc1 hc3
    have er:eE (Cv.arc k w f t) [jt k,i9 k]=(bc (Cv.arc k w f t)):=by unfold bc;rw[if_pos (show((Cv.arc k w f t)).isArc=true from rfl),e]
    refine ab<|al 2<|ah (cC (n:=1) (us:=au (i9 k)) ft rfl rfl rfl (by decide) (by decide) rfl) ?_
    refine mQ (us:=au (jt k)) (rest:=rg2) (ys:=au (i9 k)) ft rfl rfl rfl (by first|rfl|(rw[aG ak,fj,List.length_take,Nat.min_eq_left (by omega)])) (by assumption) rfl (by decide) (by omega) (by assumption) (by omega) (gP (by omega)) (.inr rfl) rfl (fun cg4 rg4 hga4 hgb4 hgc4=>?_)
    refine ag ?_
    refine cV (t:=6) (m:=20) (us:=au (jt k)++(au (i9 k))) rfl rfl (iY (n:=1+1) (by first|rfl|(rw[aG ak,fj,List.length_take,Nat.min_eq_left (by omega)])) (by assumption) (by omega)) (by omega) (by assumption) (fX (by first|rfl|(rw[aG ak,fj,List.length_take,Nat.min_eq_left (by omega)]))) ?_
    refine ab<|al 2<|ah (am rfl (mr (c:=(Cv.arc k w f t)) (L:=[jt k,i9 k]) vc.g (fun p hp=>(en vc p (by rw[e];exact hp)).1) (Nat.le_of_ble_eq_true rfl) (fun p hp=>(en vc p (by rw[e];exact hp)).2) (iq vc.ne)))<|ag ?_
    exact⟨(),aM ⟨congrArg (fun q=>some (DV.v (.c (.s (List.length q) (aI aB q))))) er,trivial⟩ trivial rfl⟩
   ·have e:f8 (Cv.arc k w f t)=[jt k]:=nk hc1 hc3
    have er:eE (Cv.arc k w f t) [jt k]=(bc (Cv.arc k w f t)):=by unfold bc;rw[if_pos (show((Cv.arc k w f t)).isArc=true from rfl),e]
    refine ao ?_
    refine cV (t:=6) (m:=20) (us:=au (jt k)) rfl rfl (iY (n:=1) (by first|rfl|(rw[aG ak,fj,List.length_take,Nat.min_eq_left (by omega)])) (by assumption) (by omega)) (by omega) (by assumption) (fX (by first|rfl|(rw[aG ak,fj,List.length_take,Nat.min_eq_left (by omega)]))) ?_
    refine ab<|al 2<|ah (am rfl (mr (c:=(Cv.arc k w f t)) (L:=[jt k]) vc.g (fun p hp=>(en vc p (by rw[e];exact hp)).1) (Nat.le_of_ble_eq_true rfl) (fun p hp=>(en vc p (by rw[e];exact hp)).2) (iq vc.ne)))<|ag ?_
    exact⟨(),aM ⟨congrArg (fun q=>some (DV.v (.c (.s (List.length q) (aI aB q))))) er,trivial⟩ trivial rfl⟩
  ·refine ao<|aa<|aa<|ab<|al 2<|ah (am rfl (zT hk hf ht gR))<|ar ?_
   refine aw rfl (fun hc5=>?_) (fun hc5=>?_)
   ·have e:f8 (Cv.arc k w f t)=[i9 k]:=mZ hc1 hc5
    have er:eE (Cv.arc k w f t) [i9 k]=(bc (Cv.arc k w f t)):=by unfold bc;rw[if_pos (show((Cv.arc k w f t)).isArc=true from rfl),e]
    refine ab<|al 2<|ah (cC (n:=1) (us:=au (i9 k)) ft rfl rfl rfl (by decide) (by decide) rfl) ?_
    refine mm (ys:=au (i9 k)) ft rfl rfl rfl (by decide) (by decide) (by decide) rfl rfl (fun cg6 rg6 hga6 hgb6 hgc6=>?_)
    refine ag ?_
    refine cV (t:=6) (m:=20) (us:=au (i9 k)) rfl rfl (iY (n:=1) (by first|rfl|(rw[aG ak,fj,List.length_take,Nat.min_eq_left (by omega)])) (by assumption) (by omega)) (by omega) (by assumption) (fX (by first|rfl|(rw[aG ak,fj,List.length_take,Nat.min_eq_left (by omega)]))) ?_
    refine ab<|al 2<|ah (am rfl (mr (c:=(Cv.arc k w f t)) (L:=[i9 k]) vc.g (fun p hp=>(en vc p (by rw[e];exact hp)).1) (Nat.le_of_ble_eq_true rfl) (fun p hp=>(en vc p (by rw[e];exact hp)).2) (iq vc.ne)))<|ag ?_
    exact⟨(),aM ⟨congrArg (fun q=>some (DV.v (.c (.s (List.length q) (aI aB q))))) er,trivial⟩ trivial rfl⟩
   ·have e:f8 (Cv.arc k w f t)=[]:=nc hc1 hc5
    have er:eE (Cv.arc k w f t) []=(bc (Cv.arc k w f t)):=by unfold bc;rw[if_pos (show((Cv.arc k w f t)).isArc=true from rfl),e]
    refine ao<|DI (t:=6) rfl<|ab<|al 2<|ah (am rfl (mr (c:=(Cv.arc k w f t)) (L:=[]) vc.g (fun p hp=>(en vc p (by rw[e];exact hp)).1) (Nat.le_of_ble_eq_true rfl) (fun p hp=>(en vc p (by rw[e];exact hp)).2) (iq vc.ne)))<|ag ?_
    exact⟨(),aM ⟨congrArg (fun q=>some (DV.v (.c (.s (List.length q) (aI aB q))))) er,trivial⟩ trivial rfl⟩
 ·rintro⟨⟩
  show Dw _ _ ⟨85,[(3,.v (.c (.s (((bc (Cv.arc k w f t))).length) (aI aB ((bc (Cv.arc k w f t)))))))],[]⟩ _
  refine aa<|ab<|ah (fF rfl) ?_
  refine ar<|aa<|aa<|ab<|ag<|aJ ?_
  refine n6 (ι:={x9:Nat×Nat×List CellD // 1≤x9.1∧x9.1≤(bc (Cv.arc k w f t)).length∧x9.1≤x9.2.1∧x9.2.1≤maxLen∧x9.2.2.length=(x9.2.1-x9.1)*66}) (fun i=>⟨85,[(3,.v (.c (.s (((bc (Cv.arc k w f t))).length) (aI aB ((bc (Cv.arc k w f t))))))),(7,.o 83 i.1.1 i.1.2.1),(8,.v (.c (.i .i64 (i.1.1:Int))))],[(83,48,aI aB (ez ((bc (Cv.arc k w f t)).take i.1.1))++i.1.2.2)]⟩) (fun i=>(bc (Cv.arc k w f t)).length-i.1.1) ((bc (Cv.arc k w f t)).length) ?_ ?_
  ·refine aa<|aa<|ab<|ag ?_
   refine aw rfl (fun hc7=>?_) (fun hc7=>?_)
   ·have g1:0<(bc (Cv.arc k w f t)).length:=pN vc
    have hX:CvV ((bc (Cv.arc k w f t)).getD 0 bn):=po vc _ (b8 g1)
    refine ao<|aa<|aJ<|aa<|ab<|al 2<|ah (aW (us:=aB ((bc (Cv.arc k w f t)).getD 0 bn)++aI aB ((bc (Cv.arc k w f t)).drop (0+1))) eu rfl rfl (by omega) (aG ak _) (bz ak (bi g1)) rfl) ?_
    refine ah (bb (us:=aB (((bc (Cv.arc k w f t)).getD 0 bn))) bd rfl (df _ _) (ak _) rfl) ?_
    refine aC (ai eo rfl) rfl<|bL (aZ bd rfl rfl rfl (ak _) rfl rfl) ?_
    refine ar ?_
    refine gE (ι:=Unit) (fun i=>⟨85,[(3,.v (.c (.s (((bc (Cv.arc k w f t))).length) (aI aB ((bc (Cv.arc k w f t))))))),(7,.z),(8,.v (.c (.i .i64 0))),(9,.p 9 0)],[(9,48,aB (((bc (Cv.arc k w f t)).getD 0 bn).fwd))]⟩) ?_ ?_
    ·refine aa<|ab<|al 1<|ah (aA (us:=au (((bc (Cv.arc k w f t)).getD 0 bn)).p) bo rfl rfl (dW _) rfl rfl) ?_
     refine al 1<|ah (aA (us:=au (((bc (Cv.arc k w f t)).getD 0 bn)).q) bo rfl rfl (dY _) rfl rfl) ?_
     refine ah (am rfl (kW (cn hX.g) (cH hX.g)))<|ag ?_
     refine aw rfl (fun hc8=>?_) (fun hc8=>?_)
     ·have m2:=xF hc8
      refine ab<|ah (aA (us:=aB (((bc (Cv.arc k w f t)).getD 0 bn))) bd rfl rfl (by rw[List.drop_zero];exact List.take_of_length_le (Nat.le_of_eq (ak _))) (ak _) rfl) ?_
      refine ah (am rfl (zl hX))<|bL (aZ bd rfl rfl rfl (ak _) (ak _) rfl) ?_
      refine ar ?_
      exact⟨(),aM ⟨rfl,rfl,rfl,rfl,trivial⟩ ⟨congrArg (fun q=>some (48,aB q)) m2.symm,trivial⟩ rfl⟩
     ·have m2:=x8 hc8
      refine ao ?_
      exact⟨(),aM ⟨rfl,rfl,rfl,rfl,trivial⟩ ⟨congrArg (fun q=>some (48,aB q)) m2.symm,trivial⟩ rfl⟩
    ·rintro⟨⟩
     show Dw _ _ ⟨85,[(3,.v (.c (.s (((bc (Cv.arc k w f t))).length) (aI aB ((bc (Cv.arc k w f t))))))),(7,.z),(8,.v (.c (.i .i64 0))),(9,.p 9 0)],[(9,48,aB (((bc (Cv.arc k w f t)).getD 0 bn).fwd))]⟩ _
     refine aa<|ab<|ag<|aa<|aJ ?_
     refine bD (ι:=Nat) (fun i=>match i with|_=>⟨85,[(3,.v (.c (.s (((bc (Cv.arc k w f t))).length) (aI aB ((bc (Cv.arc k w f t))))))),(7,.z),(8,.v (.c (.i .i64 0))),(9,.p 9 0),(10,.v (.c (.i .i64 0)))],[(9,48,aB (((bc (Cv.arc k w f t)).getD 0 bn).fwd))]⟩) (fun i=>0-i) 0 (aM ⟨rfl,rfl,rfl,rfl,rfl,trivial⟩ ⟨rfl,trivial⟩ rfl) ?_
     intro i
     match i with
     |_=>
      show Dw _ _ ⟨85,[(3,.v (.c (.s (((bc (Cv.arc k w f t))).length) (aI aB ((bc (Cv.arc k w f t))))))),(7,.z),(8,.v (.c (.i .i64 0))),(9,.p 9 0),(10,.v (.c (.i .i64 0)))],[(9,48,aB (((bc (Cv.arc k w f t)).getD 0 bn).fwd))]⟩ _
      refine aa<|aa<|aR 13 rfl rfl<|ap 2<|aj (xH eu rfl rfl) ?_
      refine bk<|az<|ar<|aP rfl<|bj<|aR 9 rfl rfl<|ap 2<|aj (tI eu rfl rfl rfl) ?_
      refine aj (aA (us:=aB (((bc (Cv.arc k w f t)).getD 0 bn).fwd)) bd rfl rfl (by rw[List.drop_zero];exact List.take_of_length_le (Nat.le_of_eq (ak _))) (ak _) rfl) ?_
      refine aj (jB (us:=aB ((bc (Cv.arc k w f t)).getD 0 bn).fwd) gA rfl (o7 rfl (ak _)) (dE (ak _)) (by decide) (by decide) rfl) ?_
      refine ap 2<|aj (rZ eu rfl rfl rfl) ?_
      refine aj (rN gA rfl rfl (dE (ak _)) (by decide) (by decide) (by decide) (by decide) rfl) ?_
      refine aY<|az ?_
      refine qm (q:=1) (ys:=aB ((bc (Cv.arc k w f t)).getD 0 bn).fwd) (zs':=aI aB (ez ((bc (Cv.arc k w f t)).take 1))) gA rfl rfl (ak _) (by decide) (by decide) (by decide) rfl (by rw[A9 g1];exact(iH _).symm) rfl (fun cg9 rg9 hga9 hgb9 hgc9=>?_)
      refine ag<|ab<|al 1<|ah (aK (r:=1) rfl rfl rfl rfl) ?_
      refine ag ?_
      exact⟨⟨⟨1,cg9,rg9⟩,by omega,by omega,by omega,hgb9,hgc9⟩,aM ⟨rfl,rfl,rfl,trivial⟩ ⟨rfl,trivial⟩ rfl,by show(bc (Cv.arc k w f t)).length-1<(bc (Cv.arc k w f t)).length;omega⟩
   ·exact(of_decide_eq_false hc7 (by omega)).elim
  ·rintro⟨⟨n,c,rs⟩,h1,h2,h3,h4,h5⟩
   dsimp only at h1 h2 h3 h4 h5
   show Dw _ _ ⟨85,[(3,.v (.c (.s (((bc (Cv.arc k w f t))).length) (aI aB ((bc (Cv.arc k w f t))))))),(7,.o 83 n c),(8,.v (.c (.i .i64 (n:Int))))],[(83,48,aI aB (ez ((bc (Cv.arc k w f t)).take n))++rs)]⟩ _
   refine aa<|aa<|ab<|ag ?_
   refine aw rfl (fun hc10=>?_) (fun hc10=>?_)
   ·have g1:n<(bc (Cv.arc k w f t)).length:=by have:=of_decide_eq_true hc10;omega
    have hX:CvV ((bc (Cv.arc k w f t)).getD n bn):=po vc _ (b8 g1)
    have Olen:(ez ((bc (Cv.arc k w f t)).take n)).length=n:=by rw[fj,List.length_take];omega
    have hO: ∀d∈(ez ((bc (Cv.arc k w f t)).take n)),CvV d:=fun d hd=>by
     obtain⟨x,hx,e⟩:=sx hd
     rw[e];exact tS (po vc x (List.mem_of_mem_take hx))
    have h2c:n≤c:=h3
    refine ao<|aa<|aJ<|aa<|ab<|al 2<|ah (aW (us:=aB ((bc (Cv.arc k w f t)).getD n bn)++aI aB ((bc (Cv.arc k w f t)).drop (n+1))) eu rfl rfl (by omega) (aG ak _) (bz ak (bi g1)) rfl) ?_
    refine ah (bb (us:=aB (((bc (Cv.arc k w f t)).getD n bn))) bd rfl (df _ _) (ak _) rfl) ?_
    refine aC (ai eo rfl) rfl<|bL (aZ bd rfl rfl rfl (ak _) rfl rfl) ?_
    refine ar ?_
    refine gE (ι:=Unit) (fun i=>⟨85,[(3,.v (.c (.s (((bc (Cv.arc k w f t))).length) (aI aB ((bc (Cv.arc k w f t))))))),(7,.o 83 n c),(8,.v (.c (.i .i64 (n:Int)))),(9,.p 9 0)],[(9,48,aB (((bc (Cv.arc k w f t)).getD n bn).fwd)),(83,48,aI aB (ez ((bc (Cv.arc k w f t)).take n))++rs)]⟩) ?_ ?_
    ·refine aa<|ab<|al 1<|ah (aA (us:=au (((bc (Cv.arc k w f t)).getD n bn)).p) bo rfl rfl (dW _) rfl rfl) ?_
     refine al 1<|ah (aA (us:=au (((bc (Cv.arc k w f t)).getD n bn)).q) bo rfl rfl (dY _) rfl rfl) ?_
     refine ah (am rfl (kW (cn hX.g) (cH hX.g)))<|ag ?_
     refine aw rfl (fun hc11=>?_) (fun hc11=>?_)
     ·have m2:=xF hc11
      refine ab<|ah (aA (us:=aB (((bc (Cv.arc k w f t)).getD n bn))) bd rfl rfl (by rw[List.drop_zero];exact List.take_of_length_le (Nat.le_of_eq (ak _))) (ak _) rfl) ?_
      refine ah (am rfl (zl hX))<|bL (aZ bd rfl rfl rfl (ak _) (ak _) rfl) ?_
      refine ar ?_
      exact⟨(),aM ⟨rfl,rfl,rfl,rfl,trivial⟩ ⟨congrArg (fun q=>some (48,aB q)) m2.symm,rfl,trivial⟩ rfl⟩
     ·have m2:=x8 hc11
      refine ao ?_
      exact⟨(),aM ⟨rfl,rfl,rfl,rfl,trivial⟩ ⟨congrArg (fun q=>some (48,aB q)) m2.symm,rfl,trivial⟩ rfl⟩
    ·rintro⟨⟩
     show Dw _ _ ⟨85,[(3,.v (.c (.s (((bc (Cv.arc k w f t))).length) (aI aB ((bc (Cv.arc k w f t))))))),(7,.o 83 n c),(8,.v (.c (.i .i64 (n:Int)))),(9,.p 9 0)],[(9,48,aB (((bc (Cv.arc k w f t)).getD n bn).fwd)),(83,48,aI aB (ez ((bc (Cv.arc k w f t)).take n))++rs)]⟩ _
     refine aa<|ab<|ag<|aa<|aJ<|bD (ι:={j:Nat // j≤n∧ ∀r,r<j→dK ((ez ((bc (Cv.arc k w f t)).take n)).getD r bn) ((bc (Cv.arc k w f t)).getD n bn).fwd≤0}) (fun i=>⟨85,[(3,.v (.c (.s (((bc (Cv.arc k w f t))).length) (aI aB ((bc (Cv.arc k w f t))))))),(7,.o 83 n c),(8,.v (.c (.i .i64 (n:Int)))),(9,.p 9 0),(10,.v (.c (.i .i64 (i.1:Int))))],[(9,48,aB (((bc (Cv.arc k w f t)).getD n bn).fwd)),(83,48,aI aB (ez ((bc (Cv.arc k w f t)).take n))++rs)]⟩) (fun i=>n-i.1) ⟨0,Nat.zero_le _,fun r h=>absurd h (Nat.not_lt_zero r)⟩ (aM ⟨rfl,rfl,rfl,rfl,rfl,trivial⟩ ⟨rfl,rfl,trivial⟩ rfl) ?_
     rintro⟨j,h3j,h4j⟩
     replace h3j:j≤n:=h3j
     replace h4j: ∀r,r<j→dK ((ez ((bc (Cv.arc k w f t)).take n)).getD r bn) ((bc (Cv.arc k w f t)).getD n bn).fwd≤0:=h4j
     show Dw _ _ ⟨85,[(3,.v (.c (.s (((bc (Cv.arc k w f t))).length) (aI aB ((bc (Cv.arc k w f t))))))),(7,.o 83 n c),(8,.v (.c (.i .i64 (n:Int)))),(9,.p 9 0),(10,.v (.c (.i .i64 (j:Int))))],[(9,48,aB (((bc (Cv.arc k w f t)).getD n bn).fwd)),(83,48,aI aB (ez ((bc (Cv.arc k w f t)).take n))++rs)]⟩ _
     refine aa<|aa<|aR 13 rfl rfl<|ap 2<|aj (eZ eu rfl rfl) ?_
     refine ap 1 ?_
     refine fb (bN rfl) (fun c12 hb12=>?_)
     cases c12
     ·have g2:n≤j:=by have:=of_decide_eq_false hb12;omega
      have hs:nZ ((bc (Cv.arc k w f t)).getD n bn).fwd (ez ((bc (Cv.arc k w f t)).take n))=j:=pD _ (by rw[Olen];omega) h4j (.inl (by rw[Olen];omega))
      refine bk<|az<|ar<|aP rfl<|bj<|aR 9 rfl rfl<|ap 2<|aj (gV (q:=j) eu rfl rfl (by omega) rfl) ?_
      refine aj (aA (us:=aB (((bc (Cv.arc k w f t)).getD n bn).fwd)) bd rfl rfl (by rw[List.drop_zero];exact List.take_of_length_le (Nat.le_of_eq (ak _))) (ak _) rfl) ?_
      refine aj (jB (us:=aB ((bc (Cv.arc k w f t)).getD n bn).fwd) gA rfl (o7 rfl (ak _)) (dE (ak _)) (by decide) (by decide) rfl) ?_
      refine ap 2<|aj (iI (q:=j) eu rfl rfl (by omega) (by omega) rfl) ?_
      refine aj (ng (q:=n-j) (ys:=aI aB ((ez ((bc (Cv.arc k w f t)).take n)).drop j)) gA rfl rfl rfl (AG Olen h3j h2c) (zQ Olen h3j h5 h2c) (by omega) (by omega) (dE (ak _)) (by rw[aG ak,List.length_drop,Olen]) (by decide) (by decide) (by omega) (gP (by omega)) rfl) ?_
      refine aY<|az ?_
      refine lW (n:=j) (c:=c) (q:=1+(n-j)) (us:=aI aB ((ez ((bc (Cv.arc k w f t)).take n)).take j)) (rest:=aI aB ((ez ((bc (Cv.arc k w f t)).take n)).drop j)++rs) (N':=n+1) (zs':=aI aB (ez ((bc (Cv.arc k w f t)).take (n+1)))) gA rfl rfl rfl (sw j) (by rw[aG ak,List.length_take,Olen,Nat.min_eq_left h3j]) (by rw[List.length_append,aG ak,List.length_drop,Olen,h5];omega) (by rw[List.length_append,ak,aG ak,List.length_drop,Olen];omega) (by decide) (by omega) (by assumption) (by omega) (gP (by omega)) (.inl rfl) (by omega) (by rw[pi g1];exact p6 hs) rfl (fun cg13 rg13 hga13 hgb13 hgc13=>?_)
      refine ag<|ab<|al 1<|ah (aK (r:=((n+1:Nat):Int)) rfl rfl ((aQ (by omega) (by omega)).trans (congrArg some (by omega))) rfl) ?_
      refine ag ?_
      exact⟨⟨⟨n+1,cg13,rg13⟩,by omega,g1,by omega,hgb13,hgc13⟩,aM ⟨rfl,rfl,rfl,trivial⟩ ⟨rfl,trivial⟩ rfl,by show(bc (Cv.arc k w f t)).length-(n+1)<(bc (Cv.arc k w f t)).length-n;omega⟩
     ·have g2:j<n:=by have:=of_decide_eq_true hb12;omega
      refine ap 2<|aj (br eu rfl rfl (by omega) rfl) ?_
      refine aj (aA (us:=aB ((ez ((bc (Cv.arc k w f t)).take n)).getD j bn)) bd rfl rfl (OF (by rw[Olen];omega)) (ak _) rfl) ?_
      refine aj (aA (us:=aB (((bc (Cv.arc k w f t)).getD n bn).fwd)) bd rfl rfl (by rw[List.drop_zero];exact List.take_of_length_le (Nat.le_of_eq (ak _))) (ak _) rfl) ?_
      refine aj (am rfl (LY (hO _ (b8 (by rw[Olen];omega))) (tS hX)))<|bk<|az<|ar ?_
      refine aw rfl (fun hc14=>?_) (fun hc14=>?_)
      ·have g3:dK ((ez ((bc (Cv.arc k w f t)).take n)).getD j bn) ((bc (Cv.arc k w f t)).getD n bn).fwd≤0:=of_decide_eq_true hc14
       refine ao<|aJ<|ab<|al 1<|ah (aK (r:=((j+1:Nat):Int)) rfl rfl ((aQ (by omega) (by omega)).trans (congrArg some (by omega))) rfl) ?_
       refine ag ?_
       exact⟨⟨j+1,g2,fun r hr=>(Nat.lt_succ_iff_lt_or_eq.1 hr).elim (h4j r) (fun e=>by rw[e];exact g3)⟩,aM ⟨rfl,rfl,rfl,rfl,rfl,trivial⟩ ⟨rfl,rfl,trivial⟩ rfl,by show n-(j+1)<n-j;omega⟩
      ·have hs:nZ ((bc (Cv.arc k w f t)).getD n bn).fwd (ez ((bc (Cv.arc k w f t)).take n))=j:=pD _ (by rw[Olen];omega) h4j (.inr (of_decide_eq_false hc14))
       refine bj<|aR 9 rfl rfl<|ap 2<|aj (gV (q:=j) eu rfl rfl (by omega) rfl) ?_
       refine aj (aA (us:=aB (((bc (Cv.arc k w f t)).getD n bn).fwd)) bd rfl rfl (by rw[List.drop_zero];exact List.take_of_length_le (Nat.le_of_eq (ak _))) (ak _) rfl) ?_
       refine aj (jB (us:=aB ((bc (Cv.arc k w f t)).getD n bn).fwd) gA rfl (o7 rfl (ak _)) (dE (ak _)) (by decide) (by decide) rfl) ?_
       refine ap 2<|aj (iI (q:=j) eu rfl rfl (by omega) (by omega) rfl) ?_
       refine aj (ng (q:=n-j) (ys:=aI aB ((ez ((bc (Cv.arc k w f t)).take n)).drop j)) gA rfl rfl rfl (AG Olen h3j h2c) (zQ Olen h3j h5 h2c) (by omega) (by omega) (dE (ak _)) (by rw[aG ak,List.length_drop,Olen]) (by decide) (by decide) (by omega) (gP (by omega)) rfl) ?_
       refine aY<|az ?_
       refine lW (n:=j) (c:=c) (q:=1+(n-j)) (us:=aI aB ((ez ((bc (Cv.arc k w f t)).take n)).take j)) (rest:=aI aB ((ez ((bc (Cv.arc k w f t)).take n)).drop j)++rs) (N':=n+1) (zs':=aI aB (ez ((bc (Cv.arc k w f t)).take (n+1)))) gA rfl rfl rfl (sw j) (by rw[aG ak,List.length_take,Olen,Nat.min_eq_left h3j]) (by rw[List.length_append,aG ak,List.length_drop,Olen,h5];omega) (by rw[List.length_append,ak,aG ak,List.length_drop,Olen];omega) (by decide) (by omega) (by assumption) (by omega) (gP (by omega)) (.inl rfl) (by omega) (by rw[pi g1];exact p6 hs) rfl (fun cg15 rg15 hga15 hgb15 hgc15=>?_)
       refine ag<|ab<|al 1<|ah (aK (r:=((n+1:Nat):Int)) rfl rfl ((aQ (by omega) (by omega)).trans (congrArg some (by omega))) rfl) ?_
       refine ag ?_
       exact⟨⟨⟨n+1,cg15,rg15⟩,by omega,g1,by omega,hgb15,hgc15⟩,aM ⟨rfl,rfl,rfl,trivial⟩ ⟨rfl,trivial⟩ rfl,by show(bc (Cv.arc k w f t)).length-(n+1)<(bc (Cv.arc k w f t)).length-n;omega⟩
   ·have hp:n=(bc (Cv.arc k w f t)).length:=by have:=of_decide_eq_false hc10;omega
    refine bj<|aa<|ab<|ag ?_
    refine cV (t:=2) (m:=66) (us:=aI aB (ez ((bc (Cv.arc k w f t)).take n))) rfl rfl (iY (n:=n) (by first|rfl|(rw[aG ak,fj,List.length_take,Nat.min_eq_left (by omega)])) (by assumption) (by omega)) (by omega) (by assumption) (fX (by first|rfl|(rw[aG ak,fj,List.length_take,Nat.min_eq_left (by omega)]))) ?_
    refine an ?_
    rw[show mi (Cv.arc k w f t)=(ez ((bc (Cv.arc k w f t)).take n)) from by rw[hp,List.take_length];rfl,show(ez ((bc (Cv.arc k w f t)).take n)).length=n from by rw[fj,List.length_take];omega]
    exact aq (aE ae)
theorem TP {c:Cv}(vc:CvV c):Ok Tryz.prog 41 [.a (aB c)] [.c (.s (((mi c)).length) (aI aB ((mi c))))]:=by
 cases c with
 |seg l f t=>exact Th vc
 |arc k w f t=>exact Si vc
def BK (a d b:Fin 4) (n1 n2 n3:Int):Int:=vJ (GA (uK d) (uK a) n1) (GA (uK b) (uK a) n2) (GA (uK d) (uK b) n3)
def VT (q a b:Fin 4) (s:Int) (m:Int):Bool:=decide (BK a q b (if a=q then 0 else s) m (if b=q then 0 else s)≤0)&&(a !=q&&b !=q)
set_option maxRecDepth 100000 in
theorem CM: ∀(a b:Fin 4) (m:Fin 3),o5 b a (i3 m)=true→(a==b&&i3 m==0)=false→VT 2 a b (-1) (i3 m)=false→VT 0 a b 1 (i3 m)=false→
 ((a=2∨a=3)∧(b=3∨b=0)∧i3 m=1)∨((a=0∨a=1)∧(b=1∨b=2)∧i3 m= -1):=by decide+kernel
set_option maxRecDepth 100000 in
theorem NE: ∀(a b d:Fin 4) (i l:Fin 3),(a=2∨a=3)→(b=3∨b=0)→o5 d a (i3 i)=true→o5 d b (i3 l)=true→C3 (i3 i) 1 (i3 l)=true→
 (BK a d b (i3 i) 1 (i3 l)≤0↔d≠1∧0≤i3 i∧i3 l≤0):=by decide+kernel
set_option maxRecDepth 100000 in
theorem NA: ∀(a b d:Fin 4) (i l:Fin 3),(a=0∨a=1)→(b=1∨b=2)→o5 d a (i3 i)=true→o5 d b (i3 l)=true→C3 (i3 i) (-1) (i3 l)=true→
 (BK a d b (i3 i) (-1) (i3 l)≤0↔d≠3∧i3 i≤0∧0≤i3 l):=by decide+kernel
theorem qv (k:Ci) (s p e:Pt):xb k s p e=BK (kd k s) (kd k p) (kd k e) (cx p s) (cx e s) (cx p e):=by
 unfold xb mk BK
 rw[pK,pK,pK]
theorem qo {a c:Rat}:cm a 0 c=aV a 0:=by
 unfold cm ll
 rw[eG,Int.zero_mul,if_pos (.inl rfl)]
theorem Gj {b c:Rat}(hc:0<c):cm 0 b c=aV b 0:=by
 have h1:aV c 0=1:=by unfold aV;rw[if_neg (by grind),if_pos hc]
 unfold cm ll
 rw[eG,h1,Int.mul_one]
 by_cases h:aV b 0=0
 ·rw[if_pos (.inl h),h]
 ·rw[if_neg (fun g=>g.elim h (fun e=>h e.symm)),if_pos rfl]
theorem PF {k:Ci}(s:Rat) (h0:0<k.q):fT (fv k.x s k.y 0 k.q) k.y=0∧lH (fv k.x s k.y 0 k.q) k.x=aV (if go k.q then s*rt k.q else s) 0:=by
 cases hq:go k.q with
 |true=>
  have e:fv k.x s k.y 0 k.q=rP (k.x+s*rt k.q) (k.y+0*rt k.q):=by unfold fv;rw[hq];rfl
  rw[e,if_pos rfl]
  refine⟨?_,?_⟩
  ·show cm (k.y+0*rt k.q-k.y) 0 _=0
   rw[qo,show k.y+0*rt k.q-k.y=0 from by grind,eG]
  ·show cm (k.x+s*rt k.q-k.x) 0 _=_
   rw[qo,show k.x+s*rt k.q-k.x=s*rt k.q from by grind]
 |false=>
  have e:fv k.x s k.y 0 k.q=⟨k.x,s,k.y,0,k.q⟩:=by unfold fv;rw[hq];rfl
  rw[e,if_neg (by decide)]
  refine⟨?_,?_⟩
  ·show cm (k.y-k.y) 0 _=0
   rw[qo,show k.y-k.y=0 from by grind,eG]
  ·show cm (k.x-k.x) s (zc s k.q)=_
   rw[show k.x-k.x=0 from by grind]
   by_cases hs:s=0
   ·rw[hs,qo]
   ·rw[fS hs,Gj h0]
theorem xE (c:Rat):0≤rt c:=by
 have n1:=ep c.num
 have n2:=ep (c.den:Int)
 unfold rt
 exact Rat.divInt_nonneg n1 n2
theorem Qr {p q:Pt}(h:cx p q≠0):cP p q=cx p q:=if_pos h
theorem EG {q:Rat}(h0:0<q) (hs:go q=true):0<rt q:=by
 have h1:=xE q
 have h2:=O6 h0 hs
 grind
theorem IG {k:Ci}(h0:0<k.q):fT (jt k) k.y=0∧lH (jt k) k.x<0:=by
 obtain⟨a,b⟩:=PF (k:=k) (-1) h0
 refine⟨a,?_⟩
 show lH (fv k.x (-1) k.y 0 k.q) k.x<0
 rw[b]
 cases hq:go k.q with
 |true=>have:=EG h0 hq;rw[if_pos rfl];unfold aV;rw[if_pos (by grind)];decide
 |false=>rw[if_neg (by decide)];decide+kernel
theorem HP {k:Ci}(h0:0<k.q):fT (i9 k) k.y=0∧0<lH (i9 k) k.x:=by
 obtain⟨a,b⟩:=PF (k:=k) 1 h0
 refine⟨a,?_⟩
 show 0<lH (fv k.x 1 k.y 0 k.q) k.x
 rw[b]
 cases hq:go k.q with
 |true=>have:=EG h0 hq;rw[if_pos rfl];unfold aV;rw[if_neg (by grind),if_pos (by grind)];decide
 |false=>rw[if_neg (by decide)];decide+kernel
section
variable {k:Ci}(hk:GK k) (h0:0<k.q)
include hk h0
theorem wS:OnK k (jt k):=⟨qY hk h0,Ar hk h0⟩
theorem vF:OnK k (i9 k):=⟨q6 hk h0,zw hk h0⟩
omit hk in
theorem Ea:kd k (jt k)=2:=by
 obtain⟨a,b⟩:=IG h0
 unfold kd;rw[if_neg (by omega),if_pos a,if_neg (by omega)]
omit hk in
theorem Ev:kd k (i9 k)=0:=by
 obtain⟨a,b⟩:=HP h0
 unfold kd;rw[if_neg (by omega),if_pos a,if_pos (by omega)]
theorem wL {p:Pt}(hp:OnK k p):cx (jt k) p=if kd k p=2 then 0 else-1:=by
 have h:=jn h0 (wS hk h0) hp
 rw[Ea h0] at h
 unfold o5 at h
 rw[if_neg (by decide),if_pos rfl] at h
 exact beq_iff_eq.1 h
theorem vT {p:Pt}(hp:OnK k p):cx (i9 k) p=if kd k p=0 then 0 else 1:=by
 have h:=jn h0 (vF hk h0) hp
 rw[Ev h0] at h
 unfold o5 at h
 rw[if_pos rfl] at h
 exact beq_iff_eq.1 h
omit hk in
theorem Fy {w:Bool}{f t x:Pt}(of:OnK k f) (ot:OnK k t) (ox:OnK k x) (q:Fin 4) (hq: ∀y,OnK k y→cP y x=0→kd k y=q) (hi:(Cv.arc k w f t).inner x=false):
 (decide (xb k (if w then t else f) x (if w then f else t)≤0)&&(kd k f !=q&&kd k t !=q))=false:=by
 have hon:(Cv.arc k w f t).on x=decide (xb k (if w then t else f) x (if w then f else t)≤0):=by
  rw[yy (cb.2 ox.2)]
  cases w with
  |true=>exact AU h0 of ot ox
  |false=>exact wN of.1 ot.1 ox.1
 unfold Cv.inner at hi
 rw[hon] at hi
 cases h:decide (xb k (if w then t else f) x (if w then f else t)≤0) with
 |false=>rfl
 |true=>
  rw[h,Bool.true_and] at hi
  rw[Bool.true_and]
  rcases Bool.and_eq_false_iff.1 hi with g|g
  ·have:cP f x=0:=by simpa [Cv.p] using g
   rw[hq f of this,bne_self_eq_false,Bool.false_and]
  ·have:cP t x=0:=by simpa [Cv.q] using g
   rw[hq t ot this,bne_self_eq_false,Bool.and_false]
theorem Od {y:Pt}(oy:OnK k y) (h:cP y (jt k)=0):kd k y=2:=by
 have h1:=wL hk h0 oy
 have h2:=(gC.1 h).1
 have h3:=fe (b9 (qY hk h0)) (ck oy)
 by_cases e:kd k y=2
 ·exact e
 ·rw[if_neg e] at h1;omega
theorem MD {y:Pt}(oy:OnK k y) (h:cP y (i9 k)=0):kd k y=0:=by
 have h1:=vT hk h0 oy
 have h2:=(gC.1 h).1
 have h3:=fe (b9 (q6 hk h0)) (ck oy)
 by_cases e:kd k y=0
 ·exact e
 ·rw[if_neg e] at h1;omega
omit hk in
theorem At {p q:Pt}(op:OnK k p) (oq:OnK k q) (hd:kd k p=kd k q) (hx:cx p q=0):cP p q=0:=by
 refine gC.2 ⟨hx,?_⟩
 have cp:=ck op
 have cq:=ck oq
 rw[iQ cp cq] at hx
 rw[tZ cp cq]
 have hp:=pq op
 have hq:=pq oq
 have hY:bR ((pY p-Re.of k.y)-(pY q-Re.of k.y))=bR (pY p-pY q):=congrArg bR (Re.ext fun n=>by simp only[bp];grind)
 rw[←hY]
 have sp:=lT cp k.y
 have sq:=lT cq k.y
 have xp:=kQ cp k.x
 have xq:=kQ cq k.x
 generalize hP:pY p-Re.of k.y=P at*
 generalize hQ:pY q-Re.of k.y=Q at*
 have e:(P-Q)*(P+Q)=(tq k p-tq k q)+ -((pX p-pX q)*((pX p-Re.of k.x)+(pX q-Re.of k.x))):=by
  rw[←hP,←hQ]
  exact Re.ext fun n=>by unfold tq;simp only[bt,bp,bK,cJ,bT];grind
 have h1:bR ((P-Q)*(P+Q))=0:=by
  rw[e,dy _ (by rw[dz,cj,hx,Int.zero_mul];rfl),show tq k p-tq k q=tq k p+ -tq k q from Re.ext fun n=>by simp only[bt,bp,bT]<;>grind,dy _ (by rw[dz,hq];rfl),hp]
 rw[cj] at h1
 rcases Int.mul_eq_zero.1 h1 with g|g
 ·exact g
 ·have hs:bR P=bR Q:=by
   rw[←sp,←sq]
   rcases kK h0 op with⟨a,b,_⟩|⟨a,b⟩|⟨a,b,_⟩|⟨a,b⟩<;>rcases kK h0 oq with⟨a',b',_⟩|⟨a',b'⟩|⟨a',b',_⟩|⟨a',b'⟩<;>rw[a,a'] at hd<;>first|exact absurd hd (by decide)|skip
   all_goals have b1:=fq (p.a2-k.y) p.b2 (zc p.b2 p.c);have b2:=fq (q.a2-k.y) q.b2 (zc q.b2 q.c);unfold fT at b b'⊢;omega
  have e2:bR P= -bR Q:=by
   rw[show P=(P+Q)+ -Q from Re.ext fun n=>by simp only[bt,bT]<;>grind,gN g,dz]
  have e3:bR P=0:=by omega
  have e4:bR Q=0:=by omega
  rw[show P-Q=P+ -Q from Re.ext fun n=>by simp only[bt,bp,bT]<;>grind,dy _ (by rw[dz,e4];rfl),e3]
theorem tw {w:Bool}{f t:Pt}(of:OnK k f) (ot:OnK k t) (hm:(Cv.arc k w f t).mono=true):
 if w then(kd k t=0∨kd k t=1)∧(kd k f=1∨kd k f=2)∧cx f t= -1 else(kd k f=2∨kd k f=3)∧(kd k t=3∨kd k t=0)∧cx t f=1:=by
 have hm:(!decide (cP f t≥0)&&(!(Cv.arc k w f t).inner (jt k)&& !(Cv.arc k w f t).inner (i9 k)))=true:=hm
 rw[Bool.and_eq_true,Bool.and_eq_true] at hm
 obtain⟨m1,m2,m3⟩:=hm
 have hlt:cP f t<0:=by simpa using m1
 have hL:(Cv.arc k w f t).inner (jt k)=false:=by simpa using m2
 have hR:(Cv.arc k w f t).inner (i9 k)=false:=by simpa using m3
 have iL:=Fy h0 of ot (wS hk h0) 2 (fun y oy h=>Od hk h0 oy h) hL
 have iR:=Fy h0 of ot (vF hk h0) 0 (fun y oy h=>MD hk h0 oy h) hR
 have ha:=fe (ck of) (ck ot)
 have hx:cx f t≤0:=by
  by_cases h:cx f t≤0
  ·exact h
  ·have:cP f t=cx f t:=Qr (by omega)
   omega
 cases w with
 |false=>
  simp only[Bool.false_eq_true,if_false] at iL iR⊢
  rw[qv,Ea h0,wL hk h0 of,wL hk h0 ot] at iL
  rw[qv,Ev h0,vT hk h0 of,vT hk h0 ot] at iR
  obtain⟨m,em⟩:=fP (fC t f)
  rw[em] at iL iR
  have hc:=jn h0 ot of
  rw[em] at hc
  have hn:(kd k f==kd k t&&i3 m==0)=false:=by
   rw[←em]
   cases h:(kd k f==kd k t&&cx t f==0) with
   |false=>rfl
   |true=>
    rw[Bool.and_eq_true] at h
    have:=At h0 of ot (beq_iff_eq.1 h.1) (by have:=beq_iff_eq.1 h.2;omega)
    omega
  rcases CM (kd k f) (kd k t) m hc hn iL iR with⟨p,q,r⟩|⟨p,q,r⟩
  ·exact⟨p,q,by omega⟩
  ·omega
 |true=>
  simp only[if_true] at iL iR⊢
  rw[qv,Ea h0,wL hk h0 of,wL hk h0 ot] at iL
  rw[qv,Ev h0,vT hk h0 of,vT hk h0 ot] at iR
  obtain⟨m,em⟩:=fP (fC f t)
  rw[em] at iL iR
  have hc:=jn h0 of ot
  rw[em] at hc
  have hn:(kd k t==kd k f&&i3 m==0)=false:=by
   rw[←em]
   cases h:(kd k t==kd k f&&cx f t==0) with
   |false=>rfl
   |true=>
    rw[Bool.and_eq_true] at h
    have:=At h0 of ot (beq_iff_eq.1 h.1).symm (by have:=beq_iff_eq.1 h.2;omega)
    omega
  rw[Bool.and_comm (kd k f !=2)] at iL
  rw[Bool.and_comm (kd k f !=0)] at iR
  rcases CM (kd k t) (kd k f) m hc hn iL iR with⟨p,q,r⟩|⟨p,q,r⟩
  ·omega
  ·exact⟨p,q,by omega⟩
end
def sQ (uf up uq:Bool) (n1 n2 m:Int):Int:=Di (Cp up uf n1) (Cp uq uf n2) (Cp up uq m)
def RA (a b c:Int):Bool:=(!(decide (a≤0)&&decide (b≤0))||decide (c≤0))&&(!(decide (a<0)&&decide (b≤0))||decide (c<0))&&(!(decide (a≤0)&&decide (b<0))||decide (c<0))
set_option maxRecDepth 1000000 in
theorem RH: ∀(uf up uq ur:Bool) (i j l:Fin 3) (a:Fin 3),C3 (i3 i) (i3 j) (i3 a)=true→ ∀b:Fin 3,C3 (i3 j) (i3 l) (i3 b)=true→ ∀c:Fin 3,C3 (i3 i) (i3 l) (i3 c)=true→
 C3 (i3 a) (-(i3 b)) (i3 c)=true→RA (sQ uf up uq (i3 i) (i3 j) (i3 a)) (sQ uf uq ur (i3 j) (i3 l) (i3 b)) (sQ uf up ur (i3 i) (i3 l) (i3 c))=true:=by decide+kernel
theorem IA: ∀(uf up uq:Bool) (i j a:Fin 3),C3 (i3 i) (i3 j) (i3 a)=true→sQ uf uq up (i3 j) (i3 i) (-(i3 a))= -sQ uf up uq (i3 i) (i3 j) (i3 a):=by decide+kernel
set_option maxRecDepth 1000000 in
theorem MZ: ∀(uf up uq ux:Bool) (i j l:Fin 3) (a:Fin 3),C3 (i3 l) (i3 i) (i3 a)=true→ ∀b:Fin 3,C3 (i3 j) (i3 i) (i3 b)=true→ ∀c:Fin 3,C3 (i3 l) (i3 j) (i3 c)=true→
 C3 (i3 a) (i3 b) (i3 c)=true→sQ uf up uq (i3 i) (i3 j) (-(i3 b))<0→sQ up up ux 0 (i3 a) (-(i3 a))≤0→sQ up ux uq (i3 a) (i3 b) (i3 c)≤0→(ux==up&&i3 a==0)=false→(ux==uq&&i3 c==0)=false→
 sQ uf up ux (i3 i) (i3 l) (-(i3 a))<0∧sQ uf ux uq (i3 l) (i3 j) (i3 c)<0:=by decide+kernel
theorem ie (k:Ci) (f p q:Pt):qE k f p q=sQ (ji k f) (ji k p) (ji k q) (cx p f) (cx q f) (cx p q):=rfl
section
variable {k:Ci}{f p q r x:Pt}(hf:0≤f.c) (hp:0≤p.c) (hq:0≤q.c)
include hf hp hq
theorem Ks:qE k f q p= -qE k f p q:=by
 rw[ie,ie,fe hp hq]
 have h:=jS hf hp hq
 obtain⟨i,hi⟩:=fP (fC p f)
 obtain⟨j,hj⟩:=fP (fC q f)
 obtain⟨a,ha⟩:=fP (fC p q)
 rw[hi,hj,ha] at h⊢
 exact IA _ _ _ i j a h
variable (hr:0≤r.c)
include hr
theorem QE:RA (qE k f p q) (qE k f q r) (qE k f p r)=true:=by
 rw[ie,ie,ie]
 have h1:=jS hf hp hq
 have h2:=jS hf hq hr
 have h3:=jS hf hp hr
 have h4:=jS hq hp hr
 rw[fe hq hr] at h4
 obtain⟨i,hi⟩:=fP (fC p f)
 obtain⟨j,hj⟩:=fP (fC q f)
 obtain⟨l,hl⟩:=fP (fC r f)
 obtain⟨a,ha⟩:=fP (fC p q)
 obtain⟨b,hb⟩:=fP (fC q r)
 obtain⟨c,hc⟩:=fP (fC p r)
 rw[hi,hj,ha] at h1
 rw[hj,hl,hb] at h2
 rw[hi,hl,hc] at h3
 rw[ha,hb,hc] at h4
 rw[hi,hj,hl,ha,hb,hc]
 exact RH _ _ _ _ i j l a h1 b h2 c h3 h4
end
theorem Mm: ∀(uf ux:Bool) (a:Fin 3),sQ uf uf ux 0 (i3 a) (-(i3 a))≤0:=by decide+kernel
theorem Nu {k:Ci}{f x:Pt}(hf:0≤f.c) (hx:0≤x.c):qE k f f x≤0:=by
 rw[ie,uc hf,fe hx hf]
 obtain⟨a,ha⟩:=fP (fC x f)
 rw[ha]
 exact Mm _ _ a
theorem LH: ∀(uf up uq:Bool) (i j a:Fin 3),C3 (i3 i) (i3 j) (i3 a)=true→sQ uf up uq (i3 i) (i3 j) (i3 a)=0→(up==uq&&i3 a==0)=true:=by decide+kernel
theorem vn {k:Ci}{p q:Pt}(h0:0<k.q) (op:OnK k p) (oq:OnK k q) (h:(ji k p==ji k q&&cx p q==0)=true):cP p q=0:=by
 rw[Bool.and_eq_true] at h
 have hu:=beq_iff_eq.1 h.1
 have hx:=beq_iff_eq.1 h.2
 refine At h0 op oq ?_ hx
 have hc:=jn h0 op oq
 rw[pK,pK] at hu
 rw[hx] at hc
 revert hu hc
 generalize kd k p=a
 generalize kd k q=b
 revert a b
 decide
theorem JY {k:Ci}{f p q:Pt}(h0:0<k.q) (hf:0≤f.c) (op:OnK k p) (oq:OnK k q) (h:qE k f p q=0):cP p q=0:=by
 have h1:=jS hf (ck op) (ck oq)
 rw[ie] at h
 obtain⟨i,hi⟩:=fP (fC p f)
 obtain⟨j,hj⟩:=fP (fC q f)
 obtain⟨a,ha⟩:=fP (fC p q)
 rw[hi,hj,ha] at h1 h
 exact vn h0 op oq (by rw[ha];exact LH _ _ _ i j a h1 h)
theorem Oq {k:Ci}{f p q x:Pt}(h0:0<k.q) (of:OnK k f) (op:OnK k p) (oq:OnK k q) (ox:OnK k x) (h1:qE k f p q<0) (h2:qE k p p x≤0) (h3:qE k p x q≤0) (n1:cP x p≠0) (n2:cP x q≠0):
 qE k f p x<0∧qE k f x q<0:=by
 have cf:=ck of
 have cp:=ck op
 have cq:=ck oq
 have cx':=ck ox
 have t1:=jS cf cx' cp
 have t2:=jS cf cq cp
 have t3:=jS cf cx' cq
 have t4:=jS cp cx' cq
 have e1:(ji k x==ji k p&&cx x p==0)=false:=by
  cases h:(ji k x==ji k p&&cx x p==0) with
  |false=>rfl
  |true=>exact absurd (vn h0 ox op h) n1
 have e2:(ji k x==ji k q&&cx x q==0)=false:=by
  cases h:(ji k x==ji k q&&cx x q==0) with
  |false=>rfl
  |true=>exact absurd (vn h0 ox oq h) n2
 rw[ie,fe cq cp] at h1
 rw[ie,uc cp,fe cx' cp] at h2
 rw[ie] at h3
 rw[ie,ie,fe cx' cp]
 obtain⟨i,hi⟩:=fP (fC p f)
 obtain⟨j,hj⟩:=fP (fC q f)
 obtain⟨l,hl⟩:=fP (fC x f)
 obtain⟨a,ha⟩:=fP (fC x p)
 obtain⟨b,hb⟩:=fP (fC q p)
 obtain⟨c,hc⟩:=fP (fC x q)
 rw[hl,hi,ha] at t1
 rw[hj,hi,hb] at t2
 rw[hl,hj,hc] at t3
 rw[ha,hb,hc] at t4
 rw[hi,hj,hb] at h1
 rw[ha] at h2 e1
 rw[ha,hb,hc] at h3
 rw[hc] at e2
 rw[hi,hj,hl,ha,hc]
 exact MZ _ _ _ _ i j l a t1 b t2 c t3 t4 h1 h2 h3 e1 e2
def Ci.by (k:Ci) (w:Bool):Ci:=if w then k.mir else k
def Pt.by (p:Pt) (w:Bool):Pt:=if w then p.flip else p
theorem OnK.by {k:Ci}{p:Pt}(w:Bool) (h:OnK k p):OnK (k.by w) (p.by w):=by
 cases w with
 |true=>exact h.flip
 |false=>exact h
theorem SB {k:Ci}(w:Bool) (h:0<k.q):0<(k.by w).q:=by cases w<;>exact h
theorem J8 {p q:Pt}(w:Bool) (hp:0≤p.c) (hq:0≤q.c):cP (p.by w) (q.by w)=0↔cP p q=0:=by
 cases w with
 |false=>exact Iff.rfl
 |true=>
  show cP p.flip q.flip=0↔_
  rw[gC,gC,nd hp hq]
  exact⟨fun h=>⟨by omega,h.2⟩,fun h=>⟨by omega,h.2⟩⟩
theorem nt (k:Ci) (w:Bool) (f t p q:Pt):(Cv.arc k w f t).ord p q=qE (k.by w) (f.by w) (p.by w) (q.by w):=by cases w<;>rfl
section
variable {k:Ci}{w:Bool}{f t:Pt}(h0:0<k.q) (of:OnK k f)
include of
variable {p q r:Pt}(op:OnK k p) (oq:OnK k q)
include op oq
theorem nQ:(Cv.arc k w f t).ord q p= -(Cv.arc k w f t).ord p q:=by
 rw[nt,nt]
 exact Ks (ck (of.by w)) (ck (op.by w)) (ck (oq.by w))
theorem vY (or_:OnK k r):RA ((Cv.arc k w f t).ord p q) ((Cv.arc k w f t).ord q r) ((Cv.arc k w f t).ord p r)=true:=by
 rw[nt,nt,nt]
 exact QE (ck (of.by w)) (ck (op.by w)) (ck (oq.by w)) (ck (or_.by w))
include h0
theorem HU (h:(Cv.arc k w f t).ord p q=0):cP p q=0:=by
 rw[nt] at h
 exact(J8 w (ck op) (ck oq)).1 (JY (SB w h0) (ck (of.by w)) (op.by w) (oq.by w) h)
end
theorem FN {k:Ci}{w:Bool}{f t p:Pt}(of:OnK k f) (op:OnK k p):(Cv.arc k w f t).ord f p≤0:=by
 rw[nt];exact Nu (ck (of.by w)) (ck (op.by w))
theorem Kk {a b c:Int}(h:RA a b c=true) (h1:a<0) (h2:b≤0):c<0:=by
 unfold RA at h
 rw[decide_eq_true h1,decide_eq_true h2,Bool.and_eq_true,Bool.and_eq_true] at h
 simpa using h.1.2
theorem Jc {a b c:Int}(h:RA a b c=true) (h1:a≤0) (h2:b<0):c<0:=by
 unfold RA at h
 rw[decide_eq_true h1,decide_eq_true h2,Bool.and_eq_true,Bool.and_eq_true] at h
 simpa using h.2
section
variable {k:Ci}{w:Bool}{f t:Pt}(h0:0<k.q) (of:OnK k f)
include h0 of
theorem Bp {x:Pt}(ox:OnK k x): ∀ {S:List Pt},(∀y∈S,OnK k y)→S.Pairwise (fun p q=>(Cv.arc k w f t).ord p q<0)→(gp (.arc k w f t) S x).Pairwise (fun p q=>(Cv.arc k w f t).ord p q<0)
 |[],_,_=>by rw[BB];exact List.pairwise_singleton _ _
 |o::l,hS,hp=>by
  have oo:=hS o (by simp)
  have hl: ∀y∈l,OnK k y:=fun y hy=>hS y (by simp[hy])
  obtain⟨h1,h2⟩:=List.pairwise_cons.1 hp
  by_cases h:(Cv.arc k w f t).ord o x<0
  ·rw[uL h]
   refine List.pairwise_cons.2 ⟨fun y hy=>?_,Bp ox hl h2⟩
   rcases rr hy with g|g
   ·exact h1 y g
   ·rw[g];exact h
  ·rw[uE h]
   split
   ·exact hp
   ·rename_i hn
    have ha:=nQ (w:=w) (t:=t) of oo ox
    have hz:(Cv.arc k w f t).ord o x≠0:=fun e=>hn (HU h0 of oo ox e)
    refine List.pairwise_cons.2 ⟨fun y hy=>?_,hp⟩
    rcases List.mem_cons.1 hy with g|g
    ·rw[g];omega
    ·exact Kk (vY of ox oo (hl y g)) (by omega) (Int.le_of_lt (h1 y g))
omit h0 of in
theorem AK {c:Cv}{x:Pt}(hx:0≤x.c): ∀ {S:List Pt},(∀y∈S,y∈gp c S x)∧ ∃y∈gp c S x,cP y x=0
 |[]=>by rw[BB];exact⟨fun y hy=>(by cases hy),x,by simp,Fs hx⟩
 |o::l=>by
  by_cases h:c.ord o x<0
  ·rw[uL h]
   obtain⟨h1,y,h2,h3⟩:=AK (c:=c) hx (S:=l)
   refine⟨fun z hz=>?_,y,List.mem_cons_of_mem _ h2,h3⟩
   rcases List.mem_cons.1 hz with g|g
   ·rw[g];simp
   ·exact List.mem_cons_of_mem _ (h1 z g)
  ·rw[uE h]
   split
   ·rename_i e;exact⟨fun z hz=>hz,o,by simp,e⟩
   ·exact⟨fun z hz=>List.mem_cons_of_mem _ hz,x,by simp,Fs hx⟩
theorem Cf: ∀(L:List Pt) {S:List Pt},(∀y∈L,OnK k y)→(∀y∈S,OnK k y)→S.Pairwise (fun p q=>(Cv.arc k w f t).ord p q<0)→
 (L.foldl (gp (.arc k w f t)) S).Pairwise (fun p q=>(Cv.arc k w f t).ord p q<0)∧(∀y∈S,y∈L.foldl (gp (.arc k w f t)) S)∧ ∀y∈L,∃z∈L.foldl (gp (.arc k w f t)) S,cP z y=0
 |[],S,_,_,hp=>⟨hp,fun y hy=>hy,fun y hy=>by cases hy⟩
 |x::L,S,hL,hS,hp=>by
  have ox:=hL x (by simp)
  have hS2: ∀y∈gp (.arc k w f t) S x,OnK k y:=fun y hy=>(rr hy).elim (hS y) (fun e=>e▸ox)
  obtain⟨h1,h2,h3⟩:=Cf L (S:=gp (.arc k w f t) S x) (fun y hy=>hL y (by simp[hy])) hS2 (Bp h0 of ox hS hp)
  obtain⟨g1,y,g2,g3⟩:=AK (c:=.arc k w f t) (x:=x) (ck ox) (S:=S)
  rw[List.foldl_cons]
  refine⟨h1,fun z hz=>h2 z (g1 z hz),fun z hz=>?_⟩
  rcases List.mem_cons.1 hz with e|e
  ·rw[e];exact⟨y,h2 y g2,g3⟩
  ·exact h3 z e
theorem HA {L:List Pt}(hL: ∀y∈L,OnK k y):(cr (.arc k w f t) L).Pairwise (fun p q=>(Cv.arc k w f t).ord p q<0)∧ ∀y∈L,∃z∈cr (.arc k w f t) L,cP z y=0:=by
 obtain⟨h1,_,h3⟩:=Cf (w:=w) (t:=t) h0 of L (S:=[]) hL (fun y hy=>by cases hy) .nil
 exact⟨h1,h3⟩
end
theorem pB {c:Cv}: ∀ {S:List Pt}{d:Cv},d∈gT c S→ ∃A p q B,S=A++p::q::B∧d=c.ends p q
 |[],d,h=>by cases h
 |[x],d,h=>by cases h
 |x::y::l,d,h=>by
  have h:d∈c.ends x y::gT c (y::l):=h
  rcases List.mem_cons.1 h with h|h
  ·exact⟨[],x,y,l,rfl,h⟩
  ·obtain⟨A,p,q,B,e,hd⟩:=pB h
   exact⟨x::A,p,q,B,by rw[e];rfl,hd⟩
theorem yA {k:Ci}{w:Bool}{p q x:Pt}(h0:0<k.q) (op:OnK k p) (oq:OnK k q) (ox:OnK k x):(Cv.arc k (!w) q p).inner x=(Cv.arc k w p q).inner x:=by
 have e:(Cv.arc k (!w) q p).on x=(Cv.arc k w p q).on x:=by
  rw[yy (cb.2 ox.2),yy (cb.2 ox.2)]
  cases w with
  |true=>
   have h1:=wN (k:=k) oq.1 op.1 ox.1
   have h2:=AU h0 op oq ox
   exact h1.trans h2.symm
  |false=>
   have h1:=AU h0 oq op ox
   have h2:=wN (k:=k) op.1 oq.1 ox.1
   exact h1.trans h2.symm
 show((Cv.arc k (!w) q p).on x&&(!(cP q x==0)&& !(cP p x==0)))=((Cv.arc k w p q).on x&&(!(cP p x==0)&& !(cP q x==0)))
 rw[e,Bool.and_comm (!(cP q x==0))]
theorem Gg {c:Cv}(vc:CvV c): ∀d∈bc c,d.fwd.mono=true:=by
 intro d hd
 have vd:=po vc d hd
 cases c with
 |seg l f t=>
  have hd:d∈ [Cv.seg l f t]:=hd
  cases List.mem_singleton.1 hd
  have hn:cP f t≠0:=vc.ne
  have ha:=fQ (b9 vc.g.2.1) (b9 vc.g.2.2)
  unfold Cv.fwd
  split
  ·rename_i e
   have e:cP f t>0:=of_decide_eq_true e
   show(!decide (cP t f≥0))=true
   rw[decide_eq_false (by omega)];rfl
  ·rename_i e
   have e: ¬cP f t>0:=fun g=>e (decide_eq_true g)
   show(!decide (cP f t≥0))=true
   rw[decide_eq_false (by omega)];rfl
 |arc k w f t=>
  have h0:0<k.q:=vc.pos
  have hk:=vc.g.1
  have of:OnK k f:=⟨vc.g.2.1,cb.1 vc.sp⟩
  have ot:OnK k t:=⟨vc.g.2.2,cb.1 vc.sq⟩
  have hd:d∈gT (.arc k w f t) (cr (.arc k w f t) ([f,t]++f8 (.arc k w f t))):=by
   unfold bc at hd;rw[if_pos (show(Cv.arc k w f t).isArc=true from rfl)] at hd;exact hd
  have hL: ∀y∈ [f,t]++f8 (.arc k w f t),OnK k y:=fun y hy=>by
   rcases List.mem_append.1 hy with h|h
   ·simp only[List.mem_cons,List.not_mem_nil,or_false] at h
    rcases h with h|h<;>rw[h]<;>assumption
   ·exact⟨(en vc y h).1,cb.1 (p9 (en vc y h).2)⟩
  have hT: ∀y∈ [f,t]++f8 (.arc k w f t),(Cv.arc k w f t).ord y t≤0:=fun y hy=>by
   rcases List.mem_append.1 hy with h|h
   ·simp only[List.mem_cons,List.not_mem_nil,or_false] at h
    rcases h with h|h
    ·rw[h];exact FN of ot
    ·rw[h];have:=nQ (w:=w) (t:=t) of ot ot;omega
   ·have:=(en vc y h).2
    unfold Cv.on at this
    rw[Bool.and_eq_true] at this
    exact of_decide_eq_true this.2
  obtain⟨hs,hin⟩:=HA (w:=w) (t:=t) h0 of hL
  obtain⟨A,p,q,B,eS,rfl⟩:=pB hd
  have hmem: ∀y∈A++p::q::B,y∈ [f,t]++f8 (.arc k w f t):=fun y hy=>j7 (by rw[eS];exact hy)
  have op:OnK k p:=hL p (hmem p (by simp))
  have oq:OnK k q:=hL q (hmem q (by simp))
  rw[eS] at hs hin
  obtain⟨hA,hpq,hAB⟩:=List.pairwise_append.1 hs
  obtain⟨hp1,hq1⟩:=List.pairwise_cons.1 hpq
  have hlt:(Cv.arc k w f t).ord p q<0:=hp1 q (by simp)
  have hne:cP p q≠0:=AC vc.g op.1 oq.1 hlt
  have ha:=fQ (ck op) (ck oq)
  have key: ∀x,OnK k x→(x=jt k∨x=i9 k)→(Cv.arc k w p q).inner x=false:=fun x ox hx=>by
   cases hi:(Cv.arc k w p q).inner x with
   |false=>rfl
   |true=>
    exfalso
    unfold Cv.inner at hi
    rw[Bool.and_eq_true,Bool.and_eq_true] at hi
    obtain⟨i1,i2,i3⟩:=hi
    have n1:cP p x≠0:=by simpa [Cv.p] using i2
    have n2:cP q x≠0:=by simpa [Cv.q] using i3
    unfold Cv.on at i1
    rw[Bool.and_eq_true,Bool.and_eq_true] at i1
    have b1:(Cv.arc k w p q).ord p x≤0:=of_decide_eq_true i1.1.2
    have b2:(Cv.arc k w p q).ord x q≤0:=of_decide_eq_true i1.2
    rw[nt] at b1 b2
    have hl2:=hlt
    rw[nt] at hl2
    have a1:=fQ (ck op) (ck ox)
    have a2:=fQ (ck oq) (ck ox)
    obtain⟨r1,r2⟩:=Oq (SB w h0) (of.by w) (op.by w) (oq.by w) (ox.by w) hl2 b1 b2 (fun e=>n1 (by have:=(J8 w (ck ox) (ck op)).1 e;omega)) (fun e=>n2 (by have:=(J8 w (ck ox) (ck oq)).1 e;omega))
    rw[←nt (t:=t)] at r1 r2
    have xt:(Cv.arc k w f t).ord x t<0:=Kk (vY of ox oq ot) r2 (hT q (hmem q (by simp)))
    have fx:(Cv.arc k w f t).ord f x<0:=Jc (vY of of op ox) (FN of op) r1
    have hin2:(Cv.arc k w f t).inner x=true:=by
     unfold Cv.inner
     rw[yy (cb.2 ox.2)]
     show(decide ((Cv.arc k w f t).ord f x≤0)&&decide ((Cv.arc k w f t).ord x t≤0)&&(!(cP f x==0)&& !(cP t x==0)))=true
     have m1:cP f x≠0:=AC vc.g of.1 ox.1 fx
     have m2:cP x t≠0:=AC vc.g ox.1 ot.1 xt
     have m3:=fQ (ck ox) (ck ot)
     rw[decide_eq_true (Int.le_of_lt fx),decide_eq_true (Int.le_of_lt xt)]
     simp only[Bool.and_self,Bool.true_and,Bool.and_eq_true,Bool.not_eq_true',beq_eq_false_iff_ne,ne_eq]
     exact⟨m1,by omega⟩
    have hcut:x∈f8 (.arc k w f t):=by
     show x∈(if _ then[jt k] else[])++(if _ then[i9 k] else[])
     rcases hx with e|e
     ·rw[←e,hin2];simp
     ·refine List.mem_append.2 (.inr ?_)
      rw[←e,hin2];simp
    obtain⟨y,hy,ey⟩:=hin x (List.mem_append.2 (.inr hcut))
    have oy:OnK k y:=hL y (hmem y hy)
    have zy:(Cv.arc k w f t).ord y x=0:=Bf (ck oy) (ck ox) ey vc.g
    have ay:=nQ (w:=w) (t:=t) of oy ox
    have apx:=nQ (w:=w) (t:=t) of op ox
    have aqx:=nQ (w:=w) (t:=t) of ox oq
    rcases List.mem_append.1 hy with g|g
    ·have l1:(Cv.arc k w f t).ord y p<0:=hAB y g p (by simp)
     have:=Jc (vY (w:=w) (t:=t) of ox oy op) (by omega) l1
     omega
    ·rcases List.mem_cons.1 g with g|g
     ·have:=nQ (w:=w) (t:=t) of op op
      rw[g] at zy
      omega
     ·rcases List.mem_cons.1 g with g|g
      ·rw[g] at zy
       omega
      ·have l1:(Cv.arc k w f t).ord q y<0:=(List.pairwise_cons.1 hq1).1 y g
       have:=Kk (vY (w:=w) (t:=t) of oq oy ox) l1 (by omega)
       omega
  have kL:=key _ (wS hk h0) (.inl rfl)
  have kR:=key _ (vF hk h0) (.inr rfl)
  show(Cv.fwd (.arc k w p q)).mono=true
  unfold Cv.fwd
  split
  ·rename_i e
   have e:cP p q>0:=of_decide_eq_true e
   show(!decide (cP q p≥0)&&(!(Cv.arc k (!w) q p).inner (jt k)&& !(Cv.arc k (!w) q p).inner (i9 k)))=true
   rw[yA h0 op oq (wS hk h0),yA h0 op oq (vF hk h0),kL,kR,decide_eq_false (by omega)];rfl
  ·rename_i e
   have e: ¬cP p q>0:=fun g=>e (decide_eq_true g)
   show(!decide (cP p q≥0)&&(!(Cv.arc k w p q).inner (jt k)&& !(Cv.arc k w p q).inner (i9 k)))=true
   rw[kL,kR,decide_eq_false (by omega)];rfl
theorem Gh {c:Cv}(vc:CvV c): ∀d∈mi c,d.mono=true:=fun d hd=>by
 obtain⟨x,hx,e⟩:=sx hd
 rw[e];exact Gg vc x hx
def dA (a b:Cv):List Cv:=eE a (cT a b)++eE b (cT b a)
def iC (l:List Cv):List Cv:=l.flatMap mi
def qX (a b:Cv):List Cv:=(iC (dA a b)).take 12
theorem uH {a c:Cv}: ∀p∈cT a c,a.on p=true:=fun p hp=>by
 have h1:=(List.mem_filter.1 (j7 hp)).2
 unfold dC at h1
 exact(Bool.and_eq_true _ _▸h1).1
theorem yL {a b:Cv}(va:CvV a) (vb:CvV b): ∀d∈dA a b,CvV d:=fun d hd=>by
 rcases List.mem_append.1 hd with h|h
 ·exact uu va (nM va.g vb.g) (fun p hp=>p9 (uH p hp)) d h
 ·exact uu vb (nM vb.g va.g) (fun p hp=>p9 (uH p hp)) d h
theorem D9 {c:Cv}{l:List Pt}:(eE c l).length≤l.length+1:=by
 have h1:=fZ c (cr c ([c.p,c.q]++l))
 have h2:=nC (c:=c) (l:=[c.p,c.q]++l)
 rw[List.length_append] at h2
 unfold eE
 rw[h1]
 simp at h2⊢;omega
theorem uX {c:Cv}{l:List Pt}(h:cP c.p c.q≠0):0<(eE c l).length:=by
 unfold eE
 rw[fZ]
 have:=iq (c:=c) (l:=l) h
 omega
theorem Ay {a b:Cv}:(eE a (cT a b)).length≤5:=Nat.le_trans D9 (Nat.succ_le_succ jI)
theorem L2 {a b:Cv}:(dA a b).length≤10:=by
 have h1:=Ay (a:=a) (b:=b)
 have h2:=Ay (a:=b) (b:=a)
 unfold dA
 rw[List.length_append];omega
theorem Lx {a b:Cv}(va:CvV a):0<(dA a b).length:=by
 unfold dA
 rw[List.length_append]
 have:=uX (c:=a) (l:=cT a b) va.ne
 omega
theorem sC {l:List Cv}{n:Nat}(h:n<l.length):iC (l.take (n+1))=iC (l.take n)++mi (l.getD n bn):=by
 unfold iC
 rw[jN (d:=bn) h,List.flatMap_append]
 congr 1
 simp
theorem rx {l:List Cv}(h:0<l.length):iC (l.take 1)=mi (l.getD 0 bn):=by
 rw[sC h,List.take_zero];rfl
theorem BT: ∀ {l:List Cv},(iC l).length≤3*l.length
 |[]=>Nat.le_refl _
 |d::l=>by
  have h1:=BT (l:=l)
  have h2:=rJ (c:=d)
  unfold iC at*
  rw[List.flatMap_cons,List.length_append]
  show _≤3*(l.length+1)
  omega
theorem Ib {c:Cv}(h:CvV c):0<(mi c).length:=by unfold mi;rw[fj];exact pN h
theorem AV {a b:Cv}:(qX a b).length≤12:=by unfold qX;rw[List.length_take];omega
theorem AR {a b:Cv}{d:Cv}(h:d∈qX a b): ∃c∈dA a b,d∈mi c:=by
 obtain⟨c,h1,h2⟩:=List.mem_flatMap.1 (List.mem_of_mem_take h)
 exact⟨c,h1,h2⟩
theorem Kt {a b:Cv}(va:CvV a) (vb:CvV b): ∀d∈qX a b,CvV d:=fun d hd=>by
 obtain⟨c,h1,h2⟩:=AR hd
 exact Qc (yL va vb c h1) d h2
theorem R5 {a b:Cv}(va:CvV a) (vb:CvV b): ∀d∈qX a b,d.mono=true:=fun d hd=>by
 obtain⟨c,h1,h2⟩:=AR hd
 exact Gh (yL va vb c h1) d h2
theorem QU {a b:Cv}(h:(iC (dA a b)).length≤12):qX a b=iC (dA a b):=List.take_of_length_le h
theorem HQ (c d:Cv): -1≤i6 c d∧i6 c d≤1:=by
 unfold i6
 have h1:=th c
 have h2:=ei (s:= -c.bnd) (t:=aV c.qq d.qq) (by omega) (dm _ _)
 split
 ·decide
 ·split
  ·decide
  ·exact h2
theorem Lh {c d:Cv}{s t:Slp}{side:Int}(gs:SlG s) (hs:side=1∨side= -1): -1≤o6 c d s t side∧o6 c d s t side≤1:=by
 have h1:=HQ c d
 have h2:=uI s t
 unfold o6
 split
 ·decide
 ·split
  ·decide
  ·cases s with
   |vt=>exact⟨(by decide:(-1:Int)≤0),(by decide:(0:Int)≤1)⟩
   |st n=>exact ei (by rcases gs.st n rfl with e|e<;>omega) (dm _ _)
   |vl a b e=>
    show-1≤(if _ then _ else _)∧(if _ then _ else _)≤(1:Int)
    split
    ·exact h1
    ·exact ei (by omega) h2
theorem E8 {c:Cv}(vc:CvV c) (d:Cv): -1≤jl c d∧jl c d≤1:=by
 unfold jl
 split
 ·exact Lh (kE vc.g (cn vc.g)) (.inl rfl)
 ·decide
theorem x4 {P:Program}{ops:Array Oper}{os:List Oper}{K:St→Prop}{N:Nat}{tm:List (Nat×DV)}{bx:List (Nat×TypeId×List CellD)}{t:Nat}{x y:Operand}{U e:TypeId}{ty:TypeId}{pos:String}{af:Array Edge}{g:Option (Nat×Bool)}{q m by_:Nat}{us ys zs zs':List CellD}
 (hU:pc P U=some (e,m,by_,zs)) (hx:di (fun s=>aT s tm) x=some (.f 0 us)) (hy:di (fun s=>aT s tm) y=some (.v (.c (.s q ys)))) (hys:ys.length=q*m) (hq:0<q)
 (hbytes:q*by_≤140737488355328) (h63:q≤maxLen) (hd:aT t bx=none) (hz:ys=zs')
 (hg:gd ops ⟨some t,.call ⟨.builtin .append,#[x,y],#[U,U]⟩,ty,pos,af,g⟩ (fun s=>aT s tm)=some true)
 (hk: ∀c' rest',q≤c'→c'≤maxLen→rest'.length=(c'-q)*m→dl P ops os ⟨N,(t,.o t q c')::tm,(t,e,zs'++rest')::bx⟩ K):
 dl P ops (⟨some t,.call ⟨.builtin .append,#[x,y],#[U,U]⟩,ty,pos,af,g⟩::os) ⟨N,tm,bx⟩ K:=by
 subst hz
 exact .inr ⟨_,wO hU hx hy hys hq hbytes h63 hd hg,fun σ' ⟨c',rest',h1,h2,h3,e⟩=>by subst e;exact hk c' rest' h1 h2 h3⟩
theorem KE {X Y:List CellD}(lX:X.length=17) (lY:Y.length=17) (hO1:Ok Tryz.prog 36 [.a X] [.a (([.b false]++cS++cS++[.b false]++ob++ob)),.c (.b false)]) (hO2:Ok Tryz.prog 36 [.a Y] [.a (([.b false]++cS++cS++[.b false]++ob++ob)),.c (.b false)]):Ok Tryz.prog 12 [.a (X),.a (Y)] [.c (.s 0 [])]:=by
 refine Ok.fn Tryz.func12 81 [.tmp 4] rfl<|aa<|ab<|ag<|aa<|ab<|ag<|aa<|ab<|ah (aA (us:=X) n8 rfl rfl (by rw[List.drop_zero];exact List.take_of_length_le (Nat.le_of_eq (lX))) (lX) rfl) ?_
 refine ah (am rfl (hO1))<|al 3<|aC (ai eo rfl) rfl<|ag<|aa<|ab<|ah (aA (us:=Y) n8 rfl rfl (by rw[List.drop_zero];exact List.take_of_length_le (Nat.le_of_eq (lY))) (lY) rfl) ?_
 refine ah (am rfl (hO2))<|al 3<|aC (ai eo rfl) rfl<|ag<|aa<|aa<|ab<|ag<|bg rfl<|aa<|ab<|ag<|an ?_
 exact aq (aE ae)
theorem Jg {X Y:List CellD}(lX:X.length=17) (lY:Y.length=17) {b:Cv}(hO1:Ok Tryz.prog 36 [.a X] [.a (([.b false]++cS++cS++[.b false]++ob++ob)),.c (.b false)]) (hO2:Ok Tryz.prog 36 [.a Y] [.a (aB b),.c (.b true)]):Ok Tryz.prog 12 [.a (X),.a (Y)] [.c (.s 0 [])]:=by
 refine Ok.fn Tryz.func12 81 [.tmp 4] rfl<|aa<|ab<|ag<|aa<|ab<|ag<|aa<|ab<|ah (aA (us:=X) n8 rfl rfl (by rw[List.drop_zero];exact List.take_of_length_le (Nat.le_of_eq (lX))) (lX) rfl) ?_
 refine ah (am rfl (hO1))<|al 3<|aC (ai eo rfl) rfl<|ag<|aa<|ab<|ah (aA (us:=Y) n8 rfl rfl (by rw[List.drop_zero];exact List.take_of_length_le (Nat.le_of_eq (lY))) (lY) rfl) ?_
 refine ah (am rfl (hO2))<|al 3<|aC (ai eo rfl) rfl<|bL (aZ bd rfl rfl rfl (ak _) rfl rfl) ?_
 refine ag<|aa<|aa<|ab<|ag<|bg rfl<|aa<|ab<|ag<|an ?_
 exact aq (aE ae)
theorem ID {X Y:List CellD}(lX:X.length=17) (lY:Y.length=17) {a:Cv}(hO1:Ok Tryz.prog 36 [.a X] [.a (aB a),.c (.b true)]) (hO2:Ok Tryz.prog 36 [.a Y] [.a (([.b false]++cS++cS++[.b false]++ob++ob)),.c (.b false)]):Ok Tryz.prog 12 [.a (X),.a (Y)] [.c (.s 0 [])]:=by
 refine Ok.fn Tryz.func12 81 [.tmp 4] rfl<|aa<|ab<|ag<|aa<|ab<|ag<|aa<|ab<|ah (aA (us:=X) n8 rfl rfl (by rw[List.drop_zero];exact List.take_of_length_le (Nat.le_of_eq (lX))) (lX) rfl) ?_
 refine ah (am rfl (hO1))<|al 3<|aC (ai eo rfl) rfl<|bL (aZ bd rfl rfl rfl (ak _) rfl rfl) ?_
 refine ag<|aa<|ab<|ah (aA (us:=Y) n8 rfl rfl (by rw[List.drop_zero];exact List.take_of_length_le (Nat.le_of_eq (lY))) (lY) rfl) ?_
 refine ah (am rfl (hO2))<|al 3<|aC (ai eo rfl) rfl<|ag<|aa<|aa<|ab<|ag<|bg rfl<|aa<|ab<|ag<|an ?_
 exact aq (aE ae)
theorem I5 {X Y:List CellD}(lX:X.length=17) (lY:Y.length=17) {a b:Cv}(va:CvV a) (vb:CvV b) (hO1:Ok Tryz.prog 36 [.a X] [.a (aB a),.c (.b true)]) (hO2:Ok Tryz.prog 36 [.a Y] [.a (aB b),.c (.b true)]):Ok Tryz.prog 12 [.a (X),.a (Y)] [.c (.s (((qX a b)).length) (aI aB ((qX a b))))]:=by
 have l1:=Ay (a:=a) (b:=b)
 have l2:=Ay (a:=b) (b:=a)
 have l3:=L2 (a:=a) (b:=b)
 have l4:=Lx (b:=b) va
 have l5:(dA a b).length=(eE a (cT a b)).length+(eE b (cT b a)).length:=by unfold dA;rw[List.length_append]
 refine Ok.fn Tryz.func12 81 [.tmp 4] rfl<|aa<|ab<|ag<|aa<|ab<|ah (fF rfl) ?_
 refine ar<|aa<|ab<|ah (aA (us:=X) n8 rfl rfl (by rw[List.drop_zero];exact List.take_of_length_le (Nat.le_of_eq (lX))) (lX) rfl) ?_
 refine ah (am rfl (hO1))<|al 3<|aC (ai eo rfl) rfl<|bL (aZ bd rfl rfl rfl (ak _) rfl rfl) ?_
 refine ag<|aa<|ab<|ah (aA (us:=Y) n8 rfl rfl (by rw[List.drop_zero];exact List.take_of_length_le (Nat.le_of_eq (lY))) (lY) rfl) ?_
 refine ah (am rfl (hO2))<|al 3<|aC (ai eo rfl) rfl<|bL (aZ bd rfl rfl rfl (ak _) rfl rfl) ?_
 refine ag<|aa<|aa<|ab<|ag<|aP rfl<|ao<|aa<|ab<|ah (aA (us:=aB a) bd rfl rfl (by rw[List.drop_zero];exact List.take_of_length_le (Nat.le_of_eq (ak _))) (ak _) rfl) ?_
 refine ah (aA (us:=aB b) bd rfl rfl (by rw[List.drop_zero];exact List.take_of_length_le (Nat.le_of_eq (ak _))) (ak _) rfl) ?_
 refine ah (am rfl (uj va.g vb.g))<|ag<|aa<|ab<|ah (aA (us:=aB b) bd rfl rfl (by rw[List.drop_zero];exact List.take_of_length_le (Nat.le_of_eq (ak _))) (ak _) rfl) ?_
 refine ah (aA (us:=aB a) bd rfl rfl (by rw[List.drop_zero];exact List.take_of_length_le (Nat.le_of_eq (ak _))) (ak _) rfl) ?_
 refine ah (am rfl (uj vb.g va.g))<|ag<|aa<|ab<|ah (aA (us:=aB a) bd rfl rfl (by rw[List.drop_zero];exact List.take_of_length_le (Nat.le_of_eq (ak _))) (ak _) rfl) ?_
 refine al 1<|ah (am rfl (mr (c:=a) (L:=cT a b) va.g (nM va.g vb.g) (Nat.le_trans jI (by decide)) uH (iq va.ne)))<|ag<|aa<|ab<|ah (aA (us:=aB b) bd rfl rfl (by rw[List.drop_zero];exact List.take_of_length_le (Nat.le_of_eq (ak _))) (ak _) rfl) ?_
 refine al 1<|ah (am rfl (mr (c:=b) (L:=cT b a) vb.g (nM vb.g va.g) (Nat.le_trans jI (by decide)) uH (iq vb.ne)))<|ag<|aa<|aa<|ab<|ah (jx gA rfl) ?_
 refine al 1 ?_
 refine x4 (q:=(eE a (cT a b)).length) (ys:=aI aB (eE a (cT a b))) (zs':=aI aB (eE a (cT a b))) gA rfl rfl (aG ak _) (uX va.ne) (by omega) (gP (by omega)) rfl (rfl) rfl (fun cg1 rg1 hga1 hgb1 hgc1=>?_)
 refine al 1 ?_
 refine lW (n:=(eE a (cT a b)).length) (c:=cg1) (q:=(eE b (cT b a)).length) (us:=aI aB (eE a (cT a b))) (rest:=rg1) (N':=(dA a b).length) (zs':=aI aB (dA a b)) gA rfl rfl rfl (rfl) (aG ak _) (by assumption) (aG ak _) (by decide) (by omega) (by assumption) (by omega) (gP (by omega)) (.inr rfl) (by unfold dA;rw[List.length_append]) (by unfold dA;rw[fA]) rfl (fun cg2 rg2 hga2 hgb2 hgc2=>?_)
 refine ah (eZ eu rfl rfl) ?_
 refine ag<|cV (t:=64) (m:=66) (us:=aI aB (dA a b)) rfl rfl (iY (n:=(dA a b).length) (aG ak _) (by assumption) (by omega)) (by omega) (by assumption) (fX (aG ak _))<|aJ ?_
 refine n6 (ι:={x9:Nat×Nat×List CellD // 1≤x9.1∧x9.1≤(dA a b).length∧(iC ((dA a b).take x9.1)).length≤x9.2.1∧x9.2.1≤maxLen∧x9.2.2.length=(x9.2.1-(iC ((dA a b).take x9.1)).length)*66}) (fun i=>⟨81,[(5,.o 73 ((iC ((dA a b).take i.1.1)).length) i.1.2.1),(64,.v (.c (.s (((dA a b)).length) (aI aB ((dA a b)))))),(65,.v (.c (.i .i64 (((dA a b).length:Int))))),(66,.v (.c (.i .i64 (i.1.1:Int))))],[(73,48,aI aB (iC ((dA a b).take i.1.1))++i.1.2.2)]⟩) (fun i=>(dA a b).length-i.1.1) ((dA a b).length) ?_ ?_
 ·refine aa<|ab<|ag<|aa ?_
  refine aw rfl (fun hc3=>?_) (fun hc3=>?_)
  ·have hX:CvV ((dA a b).getD 0 bn):=yL va vb _ (b8 l4)
   refine ao<|aa<|aJ<|aa<|ab<|ah (aW (us:=aB ((dA a b).getD 0 bn)++aI aB ((dA a b).drop (0+1))) eu rfl rfl (by omega) (aG ak _) (bz ak (bi l4)) rfl) ?_
   refine ah (bb (us:=aB (((dA a b).getD 0 bn))) bd rfl (df _ _) (ak _) rfl) ?_
   refine aC (ai eo rfl) rfl<|bL (aZ bd rfl rfl rfl (ak _) rfl rfl) ?_
   refine ar<|ab<|al 1<|ah (aA (us:=aB (((dA a b).getD 0 bn))) bd rfl rfl (by rw[List.drop_zero];exact List.take_of_length_le (Nat.le_of_eq (ak _))) (ak _) rfl) ?_
   refine ah (am rfl (TP hX)) ?_
   refine qm (q:=(mi ((dA a b).getD 0 bn)).length) (ys:=aI aB ((mi ((dA a b).getD 0 bn)))) (zs':=aI aB (mi ((dA a b).getD 0 bn))) gA rfl rfl (aG ak _) (Ib hX) (by have:=rJ (c:=((dA a b).getD 0 bn));omega) (gP (by have:=rJ (c:=((dA a b).getD 0 bn));omega)) rfl (rfl) rfl (fun cg4 rg4 hga4 hgb4 hgc4=>?_)
   refine ag<|ab<|ah (aK (r:=1) rfl rfl rfl rfl) ?_
   refine ag ?_
   exact⟨⟨⟨1,cg4,rg4⟩,Nat.le_refl _,l4,by show(iC ((dA a b).take 1)).length≤cg4;rw[rx l4];exact hga4,hgb4,by show rg4.length=(cg4-(iC ((dA a b).take 1)).length)*66;rw[rx l4];exact hgc4⟩,aM ⟨congrArg (fun q=>some (DV.o 73 (List.length q) cg4)) ((rx l4).symm),rfl,rfl,rfl,trivial⟩ ⟨congrArg (fun q=>some (48,aI aB q++rg4)) (rx l4).symm,trivial⟩ rfl,by show(dA a b).length-1<(dA a b).length;omega⟩
  ·exact(of_decide_eq_false hc3 (by omega)).elim
 ·rintro⟨⟨n,c,rs⟩,h1,h2,h3,h4,h5⟩
  dsimp only at h1 h2 h3 h4 h5
  have l6:(iC ((dA a b).take n)).length≤30:=by have:=BT (l:=(dA a b).take n);rw[List.length_take] at this;omega
  show Dw _ _ ⟨81,[(5,.o 73 ((iC ((dA a b).take n)).length) c),(64,.v (.c (.s (((dA a b)).length) (aI aB ((dA a b)))))),(65,.v (.c (.i .i64 (((dA a b).length:Int))))),(66,.v (.c (.i .i64 (n:Int))))],[(73,48,aI aB (iC ((dA a b).take n))++rs)]⟩ _
  refine aa<|ab<|ag<|aa ?_
  refine aw rfl (fun hc5=>?_) (fun hc5=>?_)
  ·have g1:n<(dA a b).length:=by have:=of_decide_eq_true hc5;omega
   have hX:CvV ((dA a b).getD n bn):=yL va vb _ (b8 g1)
   have l7:=rJ (c:=((dA a b).getD n bn))
   have l8:(iC ((dA a b).take (n+1))).length=(iC ((dA a b).take n)).length+(mi ((dA a b).getD n bn)).length:=by rw[sC g1,List.length_append]
   refine ao<|aa<|aJ<|aa<|ab<|ah (aW (us:=aB ((dA a b).getD n bn)++aI aB ((dA a b).drop (n+1))) eu rfl rfl (by omega) (aG ak _) (bz ak (bi g1)) rfl) ?_
   refine ah (bb (us:=aB (((dA a b).getD n bn))) bd rfl (df _ _) (ak _) rfl) ?_
   refine aC (ai eo rfl) rfl<|bL (aZ bd rfl rfl rfl (ak _) rfl rfl) ?_
   refine ar<|ab<|al 1<|ah (aA (us:=aB (((dA a b).getD n bn))) bd rfl rfl (by rw[List.drop_zero];exact List.take_of_length_le (Nat.le_of_eq (ak _))) (ak _) rfl) ?_
   refine ah (am rfl (TP hX)) ?_
   refine lW (n:=(iC ((dA a b).take n)).length) (c:=c) (q:=((mi ((dA a b).getD n bn))).length) (us:=aI aB (iC ((dA a b).take n))) (rest:=rs) (N':=(iC ((dA a b).take (n+1))).length) (zs':=aI aB (iC ((dA a b).take (n+1)))) gA rfl rfl rfl (rfl) (aG ak _) (h5) (aG ak _) (by decide) (by omega) (by assumption) (by omega) (gP (by omega)) (.inl rfl) (by rw[sC g1,List.length_append]) (by rw[sC g1,fA]) rfl (fun cg6 rg6 hga6 hgb6 hgc6=>?_)
   refine ag<|ab<|ah (aK (r:=((n+1:Nat):Int)) rfl rfl ((aQ (by omega) (by omega)).trans (congrArg some (by omega))) rfl) ?_
   refine ag ?_
   exact⟨⟨⟨n+1,cg6,rg6⟩,by omega,g1,hga6,hgb6,hgc6⟩,aM ⟨rfl,rfl,rfl,rfl,trivial⟩ ⟨rfl,trivial⟩ rfl,by show(dA a b).length-(n+1)<(dA a b).length-n;omega⟩
  ·have hp:n=(dA a b).length:=by have:=of_decide_eq_false hc5;omega
   have e9:(iC ((dA a b).take n))=iC (dA a b):=by rw[hp,List.take_length]
   refine bj<|aa<|aa<|ab<|al 1<|ah (eZ eu rfl rfl) ?_
   refine ag ?_
   refine aw rfl (fun hc7=>?_) (fun hc7=>?_)
   ·have g3:12<(iC ((dA a b).take n)).length:=by have:=of_decide_eq_true hc7;omega
    refine aa<|cV (t:=5) (m:=66) (us:=aI aB (iC ((dA a b).take n))) rfl rfl (iY (n:=(iC ((dA a b).take n)).length) (aG ak _) (by assumption) (by omega)) (by omega) (by assumption) (fX (aG ak _))<|ab<|al 1<|ah (oX (n':=(qX a b).length) (us':=aI aB (qX a b)) (jF (j:=12) (n:=(iC ((dA a b).take n)).length) (xs:=aI aB (iC ((dA a b).take n))) (us:=aI aB ((iC ((dA a b).take n)).take 12)) eu rfl rfl (by omega) (aG ak _) (lK ak _ _) rfl) (by unfold qX;rw[List.length_take,←e9];omega) (by unfold qX;rw[e9])) ?_
    refine ag<|an ?_
    exact aq (aE ae)
   ·have g3:(iC ((dA a b).take n)).length≤12:=by have:=of_decide_eq_false hc7;omega
    refine ao<|aa<|ab<|ag<|cV (t:=4) (m:=66) (us:=aI aB (iC ((dA a b).take n))) rfl rfl (iY (n:=(iC ((dA a b).take n)).length) (aG ak _) (by assumption) (by omega)) (by omega) (by assumption) (fX (aG ak _))<|an ?_
    rw[show qX a b=(iC ((dA a b).take n)) from by rw[e9];exact QU (by rw[←e9];exact g3)]
    exact aq (aE ae)
def IZ (X:List CellD):Prop:=Ok Tryz.prog 36 [.a X] [.a (([.b false]++cS++cS++[.b false]++ob++ob)),.c (.b false)]∨ ∃c,CvV c∧Ok Tryz.prog 36 [.a X] [.a (aB c),.c (.b true)]
theorem kr {K U A B C D E F K' U' A' B' C' D' E' F' N:Int}(w0:0≤K∧K≤255) (w1:0≤U∧U≤255) (w2: -128≤A∧A≤127) (w3: -128≤B∧B≤127) (w4: -128≤C∧C≤127) (w5: -128≤D∧D≤127) (w6: -128≤E∧E≤127) (w7: -128≤F∧F≤127) (w8:0≤K'∧K'≤255) (w9:0≤U'∧U'≤255) (w10: -128≤A'∧A'≤127) (w11: -128≤B'∧B'≤127) (w12: -128≤C'∧C'≤127) (w13: -128≤D'∧D'≤127) (w14: -128≤E'∧E'≤127) (w15: -128≤F'∧F'≤127) (w16:0≤N∧N≤255):IZ ((([.i .u8 K]++[.i .u8 U]++[.i .i8 A]++[.i .i8 B]++[.i .i8 C]++[.i .i8 D]++[.i .i8 E]++[.i .i8 F])++([.i .u8 K']++[.i .u8 U']++[.i .i8 A']++[.i .i8 B']++[.i .i8 C']++[.i .i8 D']++[.i .i8 E']++[.i .i8 F'])++[.i .u8 N])):=by
 have hO1:=Ta w0 w1 w2 w3 w4 w5 w6 w7
 have hO2:=Ta w8 w9 w10 w11 w12 w13 w14 w15
 by_cases h0:pA K U A B C D E F=[]
 ·exact .inl (Dh w16 hO1 hO2 h0)
 ·have hp:0<(pA K U A B C D E F).length:=List.length_pos_iff.2 h0
  have hg:=vh (K:=K) w1.1 w2 w3 w4 w5 w6 w7
  have hB: ∀d∈pA K' U' A' B' C' D' E' F',d.good:=fun d hd=>(vh (K:=K') w9.1 w10 w11 w12 w13 w14 w15 d hd).g
  have hg0:=hg _ (b8 (d:=bn) hp)
  have hv0:=FQ (K:=K) w1.1 w2 w3 w4 w5 w6 w7 _ (b8 (d:=bn) hp)
  have hpos:=BP (A0:=pA K U A B C D E F) (Bl:=pA K' U' A' B' C' D' E' F') hg0.ne
  exact .inr ⟨_,Q6 hv0 hB _ (b8 (Nat.mod_lt _ hpos)),Ir w16 hO1 hO2 hg0 hp hB NN⟩
theorem LX {X Y:List CellD}(lX:X.length=17) (lY:Y.length=17) (hX:IZ X) (hY:IZ Y): ∃L:List Cv,(∀d∈L,CvV d)∧L.length≤12∧Ok Tryz.prog 12 [.a X,.a Y] [.c (.s ((L).length) (aI aB (L)))]:=by
 rcases hX with h1|⟨a,va,h1⟩<;>rcases hY with h2|⟨b,vb,h2⟩
 ·exact⟨[],fun d hd=>(by cases hd),Nat.zero_le _,KE lX lY h1 h2⟩
 ·exact⟨[],fun d hd=>(by cases hd),Nat.zero_le _,Jg lX lY h1 h2⟩
 ·exact⟨[],fun d hd=>(by cases hd),Nat.zero_le _,ID lX lY h1 h2⟩
 ·exact⟨qX a b,Kt va vb,AV,I5 lX lY va vb h1 h2⟩
theorem zx {X Y:List CellD}(lX:X.length=17) (lY:Y.length=17) (hX:IZ X) (hY:IZ Y): ∃L:List Cv,(∀d∈L,CvV d)∧(∀d∈L,d.mono=true)∧L.length≤12∧Ok Tryz.prog 12 [.a X,.a Y] [.c (.s ((L).length) (aI aB (L)))]:=by
 rcases hX with h1|⟨a,va,h1⟩<;>rcases hY with h2|⟨b,vb,h2⟩
 ·exact⟨[],fun d hd=>(by cases hd),fun d hd=>(by cases hd),Nat.zero_le _,KE lX lY h1 h2⟩
 ·exact⟨[],fun d hd=>(by cases hd),fun d hd=>(by cases hd),Nat.zero_le _,Jg lX lY h1 h2⟩
 ·exact⟨[],fun d hd=>(by cases hd),fun d hd=>(by cases hd),Nat.zero_le _,ID lX lY h1 h2⟩
 ·exact⟨qX a b,Kt va vb,R5 va vb,AV,I5 lX lY va vb h1 h2⟩
end Go.Proofs.YtkmdgigkbhmilaaGreat
