/-Monotone pieces:the reference. -/
import Derived.Test.YtkmdgigkbhmilaaGreatBeP
namespace Go.Proofs.YtkmdgigkbhmilaaGreat
open Go Go.RowKit
variable {w:Bool}{k:Ci}{a b c d:Cv}{X Y:List CellD}{L l:List Pt}{N n:Nat}{f p q t x y:Pt}{U e ty:TypeId}
theorem tP:type_of% @List.pairwise_cons:=@List.pairwise_cons
theorem abf {l:Ln}(vc:CvV (Cv.seg l f t)):Ok Tryz.prog 41 [.a (([.b false]++fm l++dA++[.b false]++aj f++aj t))] [.c (.s (((oG (Cv.seg l f t))).length) (aI ap ((oG (Cv.seg l f t)))))]:=by
 have lR:(bk (Cv.seg l f t)).length≤3:=Bu
 have pR:0<(bk (Cv.seg l f t)).length:=uS vc
 refine fD Tryz.func41 85 [.tmp 2] rfl ?_
 refine aa ?_
 refine ah ?_
 refine aa ?_
 refine ah ?_
 refine ar (gC aY rfl) ?_
 refine ar (cV (n:=1) (us:=([.b false]++fm l++dA++[.b false]++aj f++aj t)) ja rfl rfl rfl (by decide) (by decide) rfl) ?_
 refine jd (ι:=Unit) (fun i=>⟨85,[(3,.v (.c (.s (((bk (Cv.seg l f t))).length) (aI ap ((bk (Cv.seg l f t)))))))],[]⟩) ?_ ?_
 ·refine aa ?_
  refine ah ?_
  refine ar (bW jb rfl) ?_
  refine ba rfl ?_
  refine aJ ?_
  exact⟨(),aB ⟨rfl,trivial⟩ trivial rfl⟩
 ·rintro⟨⟩
  show Dw _ _ ⟨85,[(3,.v (.c (.s (((bk (Cv.seg l f t))).length) (aI ap ((bk (Cv.seg l f t)))))))],[]⟩ _
  refine aa<|bo<|a7 (gV rfl) ?_
  refine bj<|aa<|aa<|ah<|aT ?_
  refine uX (ι:={x9:Nat×Nat×List CellD // 1≤x9.1∧x9.1≤(bk (Cv.seg l f t)).length∧x9.1≤x9.2.1∧x9.2.1≤maxLen∧x9.2.2.length=(x9.2.1-x9.1)*66}) (fun i=>⟨85,[(3,.v (.c (.s (((bk (Cv.seg l f t))).length) (aI ap ((bk (Cv.seg l f t))))))),(7,.o 83 i.1.1 i.1.2.1),(8,.v (.c (.i .i64 (i.1.1:Int))))],[(83,48,aI ap (fC ((bk (Cv.seg l f t)).take i.1.1))++i.1.2.2)]⟩) (fun i=>(bk (Cv.seg l f t)).length-i.1.1) ((bk (Cv.seg l f t)).length) ?_ ?_
  ·refine aa<|aa<|ah ?_
   refine aX rfl (fun hc1=>?_) (fun hc1=>?_)
   ·have g1:0<(bk (Cv.seg l f t)).length:=uS vc
    have hX:CvV ((bk (Cv.seg l f t)).getD 0 bV):=s7 vc _ (cz g1)
    refine aJ<|aa<|aT<|aa<|ah<|ar (mR bV ag g1 gz rfl)<|ar (oV ag aY rfl)<|jF (bn aY rfl rfl rfl (ag _) rfl rfl) ?_
    refine jd (ι:=Unit) (fun i=>⟨85,[(3,.v (.c (.s (((bk (Cv.seg l f t))).length) (aI ap ((bk (Cv.seg l f t))))))),(7,.z),(8,.v (.c (.i .i64 0))),(9,.p 9 0)],[(9,48,ap (((bk (Cv.seg l f t)).getD 0 bV).fwd))]⟩) ?_ ?_
    ·refine aa ?_
     refine ah ?_
     refine ar (aV (us:=aj (((bk (Cv.seg l f t)).getD 0 bV)).p) bv rfl rfl (fl _) rfl rfl) ?_
     refine ar (aV (us:=aj (((bk (Cv.seg l f t)).getD 0 bV)).q) bv rfl rfl (f5 _) rfl rfl) ?_
     refine ac rfl (oz (cn hX.g) (dy hX.g)) ?_
     refine aX rfl (fun hc2=>?_) (fun hc2=>?_)
     ·have m2:=DD hc2
      refine ah ?_
      refine ar (cD (ag _) aY rfl) ?_
      refine ac rfl (Ez hX) ?_
      refine jF (bn aY rfl rfl rfl (ag _) (ag _) rfl) ?_
      exact⟨(),aB ⟨rfl,rfl,rfl,rfl,trivial⟩ ⟨congrArg (fun q=>some (48,ap q)) m2.symm,trivial⟩ rfl⟩
     ·have m2:=DK hc2
      refine aJ ?_
      exact⟨(),aB ⟨rfl,rfl,rfl,rfl,trivial⟩ ⟨congrArg (fun q=>some (48,ap q)) m2.symm,trivial⟩ rfl⟩
    ·rintro⟨⟩
     show Dw _ _ ⟨85,[(3,.v (.c (.s (((bk (Cv.seg l f t))).length) (aI ap ((bk (Cv.seg l f t))))))),(7,.z),(8,.v (.c (.i .i64 0))),(9,.p 9 0)],[(9,48,ap (((bk (Cv.seg l f t)).getD 0 bV).fwd))]⟩ _
     refine aa<|ah<|aa<|aT ?_
     refine bF (ι:=Nat) (fun i=>match i with|_=>⟨85,[(3,.v (.c (.s (((bk (Cv.seg l f t))).length) (aI ap ((bk (Cv.seg l f t))))))),(7,.z),(8,.v (.c (.i .i64 0))),(9,.p 9 0),(10,.v (.c (.i .i64 0)))],[(9,48,ap (((bk (Cv.seg l f t)).getD 0 bV).fwd))]⟩) (fun i=>0-i) 0 (aB ⟨rfl,rfl,rfl,rfl,rfl,trivial⟩ ⟨rfl,trivial⟩ rfl) ?_
     intro i
     match i with
     |_=>
      show Dw _ _ ⟨85,[(3,.v (.c (.s (((bk (Cv.seg l f t))).length) (aI ap ((bk (Cv.seg l f t))))))),(7,.z),(8,.v (.c (.i .i64 0))),(9,.p 9 0),(10,.v (.c (.i .i64 0)))],[(9,48,ap (((bk (Cv.seg l f t)).getD 0 bV).fwd))]⟩ _
      refine aa<|aa<|di 13 []<|aq (Ec gz rfl rfl) ?_
      refine aq (bp rfl)<|ba rfl<|bG<|di 9 []<|aq (Am gz rfl rfl rfl) ?_
      refine aq (cD (ag _) aY rfl)<|aq (mr (us:=ap ((bk (Cv.seg l f t)).getD 0 bV).fwd) ja rfl (tM rfl (ag _)) (dX (ag _)) (by decide) (by decide) rfl) ?_
      refine aq (yf gz rfl rfl rfl) ?_
      refine aq (x6 ja rfl rfl (dX (ag _)) (by decide) (by decide) (by decide) (by decide) rfl) ?_
      refine DL.mk ?_
      refine wd (q:=1) (ys:=ap ((bk (Cv.seg l f t)).getD 0 bV).fwd) (zs':=aI ap (fC ((bk (Cv.seg l f t)).take 1))) ja rfl rfl (ag _) (by decide) (by decide) (by decide) rfl (by rw[HU g1];exact(lU _).symm) rfl (fun cg3 rg3 hga3 hgb3 hgc3=>fE ?_)
      refine ah<|ar (gI (r:=1) rfl rfl rfl rfl) ?_
      exact⟨⟨⟨1,cg3,rg3⟩,by omega,by omega,by omega,hgb3,hgc3⟩,aB ⟨rfl,rfl,rfl,trivial⟩ ⟨rfl,trivial⟩ rfl,by show(bk (Cv.seg l f t)).length-1<(bk (Cv.seg l f t)).length;omega⟩
   ·exact(of_decide_eq_false hc1 (by omega)).elim
  ·rintro⟨⟨n,c,rs⟩,h1,h2,h3,h4,h5⟩
   dsimp only at h1 h2 h3 h4 h5
   show Dw _ _ ⟨85,[(3,.v (.c (.s (((bk (Cv.seg l f t))).length) (aI ap ((bk (Cv.seg l f t))))))),(7,.o 83 n c),(8,.v (.c (.i .i64 (n:Int))))],[(83,48,aI ap (fC ((bk (Cv.seg l f t)).take n))++rs)]⟩ _
   refine aa<|aa<|ah ?_
   refine aX rfl (fun hc4=>?_) (fun hc4=>?_)
   ·have g1:n<(bk (Cv.seg l f t)).length:=by have:=of_decide_eq_true hc4;omega
    have hX:CvV ((bk (Cv.seg l f t)).getD n bV):=s7 vc _ (cz g1)
    have Olen:(fC ((bk (Cv.seg l f t)).take n)).length=n:=by rw[gi,fQ];omega
    have hO: ∀d∈(fC ((bk (Cv.seg l f t)).take n)),CvV d:=fun d hd=>by
     obtain⟨x,hx,e⟩:=u7 hd
     rw[e];exact Ah (s7 vc x (u9 hx))
    have h2c:n≤c:=h3
    refine aJ<|aa<|aT<|aa<|ah<|ar (mR bV ag g1 gz rfl)<|ar (oV ag aY rfl)<|jF (bn aY rfl rfl rfl (ag _) rfl rfl) ?_
    refine jd (ι:=Unit) (fun i=>⟨85,[(3,.v (.c (.s (((bk (Cv.seg l f t))).length) (aI ap ((bk (Cv.seg l f t))))))),(7,.o 83 n c),(8,.v (.c (.i .i64 (n:Int)))),(9,.p 9 0)],[(9,48,ap (((bk (Cv.seg l f t)).getD n bV).fwd)),(83,48,aI ap (fC ((bk (Cv.seg l f t)).take n))++rs)]⟩) ?_ ?_
    ·refine aa ?_
     refine ah ?_
     refine ar (aV (us:=aj (((bk (Cv.seg l f t)).getD n bV)).p) bv rfl rfl (fl _) rfl rfl) ?_
     refine ar (aV (us:=aj (((bk (Cv.seg l f t)).getD n bV)).q) bv rfl rfl (f5 _) rfl rfl) ?_
     refine ac rfl (oz (cn hX.g) (dy hX.g)) ?_
     refine aX rfl (fun hc5=>?_) (fun hc5=>?_)
     ·have m2:=DD hc5
      refine ah ?_
      refine ar (cD (ag _) aY rfl) ?_
      refine ac rfl (Ez hX) ?_
      refine jF (bn aY rfl rfl rfl (ag _) (ag _) rfl) ?_
      exact⟨(),aB ⟨rfl,rfl,rfl,rfl,trivial⟩ ⟨congrArg (fun q=>some (48,ap q)) m2.symm,rfl,trivial⟩ rfl⟩
     ·have m2:=DK hc5
      refine aJ ?_
      exact⟨(),aB ⟨rfl,rfl,rfl,rfl,trivial⟩ ⟨congrArg (fun q=>some (48,ap q)) m2.symm,rfl,trivial⟩ rfl⟩
    ·rintro⟨⟩
     show Dw _ _ ⟨85,[(3,.v (.c (.s (((bk (Cv.seg l f t))).length) (aI ap ((bk (Cv.seg l f t))))))),(7,.o 83 n c),(8,.v (.c (.i .i64 (n:Int)))),(9,.p 9 0)],[(9,48,ap (((bk (Cv.seg l f t)).getD n bV).fwd)),(83,48,aI ap (fC ((bk (Cv.seg l f t)).take n))++rs)]⟩ _
     refine aa<|ah<|aa<|aT<|bF (ι:={j:Nat // j≤n∧ ∀r,r<j→gB ((fC ((bk (Cv.seg l f t)).take n)).getD r bV) ((bk (Cv.seg l f t)).getD n bV).fwd≤0}) (fun i=>⟨85,[(3,.v (.c (.s (((bk (Cv.seg l f t))).length) (aI ap ((bk (Cv.seg l f t))))))),(7,.o 83 n c),(8,.v (.c (.i .i64 (n:Int)))),(9,.p 9 0),(10,.v (.c (.i .i64 (i.1:Int))))],[(9,48,ap (((bk (Cv.seg l f t)).getD n bV).fwd)),(83,48,aI ap (fC ((bk (Cv.seg l f t)).take n))++rs)]⟩) (fun i=>n-i.1) ⟨0,iH _,fun r h=>absurd h (Nat.not_lt_zero r)⟩ (aB ⟨rfl,rfl,rfl,rfl,rfl,trivial⟩ ⟨rfl,rfl,trivial⟩ rfl) ?_
     rintro⟨j,h3j,h4j⟩
     replace h3j:j≤n:=h3j
     replace h4j: ∀r,r<j→gB ((fC ((bk (Cv.seg l f t)).take n)).getD r bV) ((bk (Cv.seg l f t)).getD n bV).fwd≤0:=h4j
     show Dw _ _ ⟨85,[(3,.v (.c (.s (((bk (Cv.seg l f t))).length) (aI ap ((bk (Cv.seg l f t))))))),(7,.o 83 n c),(8,.v (.c (.i .i64 (n:Int)))),(9,.p 9 0),(10,.v (.c (.i .i64 (j:Int))))],[(9,48,ap (((bk (Cv.seg l f t)).getD n bV).fwd)),(83,48,aI ap (fC ((bk (Cv.seg l f t)).take n))++rs)]⟩ _
     refine aa<|aa<|lq 13 rfl rfl<|dU 2<|bH (f6 gz rfl rfl) ?_
     refine dU 1 ?_
     refine HC (bp rfl) (fun c6 hb6=>?_)
     cases c6
     ·have g2:n≤j:=by have:=of_decide_eq_false hb6;omega
      have hs:ue ((bk (Cv.seg l f t)).getD n bV).fwd (fC ((bk (Cv.seg l f t)).take n))=j:=vx _ (by rw[Olen];omega) h4j (.inl (by rw[Olen];omega))
      refine yQ<|dz<|bj<|ba rfl<|bG<|di 9 []<|aq (jq (q:=j) gz rfl rfl (by omega) rfl) ?_
      refine aq (cD (ag _) aY rfl)<|aq (mr (us:=ap ((bk (Cv.seg l f t)).getD n bV).fwd) ja rfl (tM rfl (ag _)) (dX (ag _)) (by decide) (by decide) rfl) ?_
      refine aq (kJ (q:=j) gz rfl rfl (by omega) (by omega) rfl) ?_
      refine aq (qr (q:=n-j) (ys:=aI ap ((fC ((bk (Cv.seg l f t)).take n)).drop j)) ja rfl rfl rfl (Fn Olen h3j h2c) (Fd Olen h3j h5 h2c) (by omega) (by omega) (dX (ag _)) (by rw[aG ag,fP,Olen]) (by decide) (by decide) (by omega) (jA (by omega)) rfl) ?_
      refine DL.mk ?_
      refine pG (n:=j) (c:=c) (q:=1+(n-j)) (us:=aI ap ((fC ((bk (Cv.seg l f t)).take n)).take j)) (rest:=aI ap ((fC ((bk (Cv.seg l f t)).take n)).drop j)++rs) (N':=n+1) (zs':=aI ap (fC ((bk (Cv.seg l f t)).take (n+1)))) ja rfl rfl rfl (xV j) (by rw[aG ag,fQ,Olen,fT h3j]) (by rw[fp,aG ag,fP,Olen,h5];omega) (by rw[fp,ag,aG ag,fP,Olen];omega) (by decide) (by omega) (by assumption) (by omega) (jA (by omega)) (.inl rfl) (by omega) (by rw[vF g1];exact vK hs) rfl (fun cg7 rg7 hga7 hgb7 hgc7=>fE ?_)
      refine ah<|ar (fB (by omega) rfl) ?_
      exact⟨⟨⟨n+1,cg7,rg7⟩,by omega,g1,by omega,hgb7,hgc7⟩,aB ⟨rfl,rfl,rfl,trivial⟩ ⟨rfl,trivial⟩ rfl,by show(bk (Cv.seg l f t)).length-(n+1)<(bk (Cv.seg l f t)).length-n;omega⟩
     ·have g2:j<n:=by have:=of_decide_eq_true hb6;omega
      refine dU 2<|bH (bq gz rfl rfl (by omega) rfl) ?_
      refine bH (aV (us:=ap ((fC ((bk (Cv.seg l f t)).take n)).getD j bV)) aY rfl rfl (VJ (by rw[Olen];omega)) (ag _) rfl) ?_
      refine bH (cD (ag _) aY rfl) ?_
      refine bH (dt rfl (Vf (hO _ (cz (by rw[Olen];omega))) (Ah hX)))<|yQ<|dz<|bj ?_
      refine aX rfl (fun hc8=>?_) (fun hc8=>?_)
      ·have g3:gB ((fC ((bk (Cv.seg l f t)).take n)).getD j bV) ((bk (Cv.seg l f t)).getD n bV).fwd≤0:=of_decide_eq_true hc8
       refine aJ<|aT<|ah<|ar (fB (by omega) rfl) ?_
       exact⟨⟨j+1,g2,fun r hr=>(Nat.lt_succ_iff_lt_or_eq.1 hr).elim (h4j r) (fun e=>by rw[e];exact g3)⟩,aB ⟨rfl,rfl,rfl,rfl,rfl,trivial⟩ ⟨rfl,rfl,trivial⟩ rfl,by show n-(j+1)<n-j;omega⟩
      ·have hs:ue ((bk (Cv.seg l f t)).getD n bV).fwd (fC ((bk (Cv.seg l f t)).take n))=j:=vx _ (by rw[Olen];omega) h4j (.inr (of_decide_eq_false hc8))
       refine bG<|di 9 []<|aq (jq (q:=j) gz rfl rfl (by omega) rfl) ?_
       refine aq (cD (ag _) aY rfl)<|aq (mr (us:=ap ((bk (Cv.seg l f t)).getD n bV).fwd) ja rfl (tM rfl (ag _)) (dX (ag _)) (by decide) (by decide) rfl) ?_
       refine aq (kJ (q:=j) gz rfl rfl (by omega) (by omega) rfl) ?_
       refine aq (qr (q:=n-j) (ys:=aI ap ((fC ((bk (Cv.seg l f t)).take n)).drop j)) ja rfl rfl rfl (Fn Olen h3j h2c) (Fd Olen h3j h5 h2c) (by omega) (by omega) (dX (ag _)) (by rw[aG ag,fP,Olen]) (by decide) (by decide) (by omega) (jA (by omega)) rfl) ?_
       refine DL.mk ?_
       refine pG (n:=j) (c:=c) (q:=1+(n-j)) (us:=aI ap ((fC ((bk (Cv.seg l f t)).take n)).take j)) (rest:=aI ap ((fC ((bk (Cv.seg l f t)).take n)).drop j)++rs) (N':=n+1) (zs':=aI ap (fC ((bk (Cv.seg l f t)).take (n+1)))) ja rfl rfl rfl (xV j) (by rw[aG ag,fQ,Olen,fT h3j]) (by rw[fp,aG ag,fP,Olen,h5];omega) (by rw[fp,ag,aG ag,fP,Olen];omega) (by decide) (by omega) (by assumption) (by omega) (jA (by omega)) (.inl rfl) (by omega) (by rw[vF g1];exact vK hs) rfl (fun cg9 rg9 hga9 hgb9 hgc9=>fE ?_)
       refine ah<|ar (fB (by omega) rfl) ?_
       exact⟨⟨⟨n+1,cg9,rg9⟩,by omega,g1,by omega,hgb9,hgc9⟩,aB ⟨rfl,rfl,rfl,trivial⟩ ⟨rfl,trivial⟩ rfl,by show(bk (Cv.seg l f t)).length-(n+1)<(bk (Cv.seg l f t)).length-n;omega⟩
   ·have hp:n=(bk (Cv.seg l f t)).length:=by have:=of_decide_eq_false hc4;omega
    refine bG<|aa<|ah ?_
    refine dj (t:=2) (m:=66) (us:=aI ap (fC ((bk (Cv.seg l f t)).take n))) rfl rfl (lE (n:=n) (by first|rfl|(rw[aG ag,gi,fQ,fT (by omega)])) (by assumption) (by omega)) (by omega) (by assumption) (iX (by first|rfl|(rw[aG ag,gi,fQ,fT (by omega)]))) ?_
    refine bb ?_
    rw[show oG (Cv.seg l f t)=(fC ((bk (Cv.seg l f t)).take n)) from by rw[hp,tI];rfl,show(fC ((bk (Cv.seg l f t)).take n)).length=n from by rw[gi,fQ];omega]
    exact ai (al ae)
theorem Zy (vc:CvV (Cv.arc k w f t)):Ok Tryz.prog 41 [.a (([.b true]++dA++cg k++[.b w]++aj f++aj t))] [.c (.s (((oG (Cv.arc k w f t))).length) (aI ap ((oG (Cv.arc k w f t)))))]:=by
 have lR:(bk (Cv.arc k w f t)).length≤3:=Bu
 have pR:0<(bk (Cv.arc k w f t)).length:=uS vc
 have hk:=vc.g.1
 have hf:=vc.g.2.1
 have ht:=vc.g.2.2
 have gL:=xf hk vc.pos
 have gR:=xq hk vc.pos
 refine fD Tryz.func41 85 [.tmp 2] rfl ?_
 refine aa ?_
 refine ah ?_
 refine aa ?_
 refine ah ?_
 refine ar (gC aY rfl) ?_
 refine ar (cV (n:=1) (us:=([.b true]++dA++cg k++[.b w]++aj f++aj t)) ja rfl rfl rfl (by decide) (by decide) rfl) ?_
 refine jd (ι:=Unit) (fun i=>⟨85,[(3,.v (.c (.s (((bk (Cv.arc k w f t))).length) (aI ap ((bk (Cv.arc k w f t)))))))],[]⟩) ?_ ?_
 ·refine aa ?_
  refine ah ?_
  refine ar (bW jb rfl) ?_
  refine cO rfl ?_
  refine aa ?_
  refine ah ?_
  refine ar (dx (cg k) rg rfl (by kernel_rfl)) ?_
  refine ac rfl (Ve hk) ?_
  refine aa ?_
  refine bo ?_
  refine a7 (gV rfl) ?_
  refine bj ?_
  refine aa ?_
  refine aa ?_
  refine ah ?_
  refine ar (gC aY rfl) ?_
  refine ac rfl (E6 hk hf ht gL) ?_
  refine aX rfl (fun hc1=>?_) (fun hc1=>?_)
  ·refine ah ?_
   refine ar (cV (n:=1) (us:=aj (mh k)) iC rfl rfl rfl (by decide) (by decide) rfl) ?_
   refine DL.mk<|pK (ys:=aj (mh k)) iC rfl rfl rfl (by decide) (by decide) (by decide) rfl rfl (fun cg2 rg2 hga2 hgb2 hgc2=>fE ?_)
   refine aa ?_
   refine aa ?_
   refine ah ?_
   refine ar (gC aY rfl) ?_
   refine ac rfl (E6 hk hf ht gR) ?_
   refine aX rfl (fun hc3=>?_) (fun hc3=>?_)
   ·have e:iP (Cv.arc k w f t)=[mh k,ln k]:=qY hc1 hc3
    have er:fk (Cv.arc k w f t) [mh k,ln k]=(bk (Cv.arc k w f t)):=by unfold bk;rw[if_pos (show((Cv.arc k w f t)).isArc=true from rfl),e]
    refine ah ?_
    refine ar (cV (n:=1) (us:=aj (ln k)) iC rfl rfl rfl (by decide) (by decide) rfl) ?_
    refine DL.mk<|vX (us:=aj (mh k)) (rest:=rg2) (ys:=aj (ln k)) iC rfl rfl rfl (by first|rfl|(rw[aG ag,gi,fQ,fT (by omega)])) (by assumption) rfl (by decide) (by omega) (by assumption) (by omega) (jA (by omega)) (.inr rfl) rfl (fun cg4 rg4 hga4 hgb4 hgc4=>fE ?_)
    refine dj (t:=6) (m:=20) (us:=aj (mh k)++(aj (ln k))) rfl rfl (lE (n:=1+1) (by first|rfl|(rw[aG ag,gi,fQ,fT (by omega)])) (by assumption) (by omega)) (by omega) (by assumption) (iX (by first|rfl|(rw[aG ag,gi,fQ,fT (by omega)]))) ?_
    refine ah ?_
    refine ar (gC aY rfl) ?_
    refine ac rfl (pI (c:=(Cv.arc k w f t)) (L:=[mh k,ln k]) vc.g (fun p hp=>(fg vc p (by rw[e];exact hp)).1) (dV rfl) (fun p hp=>(fg vc p (by rw[e];exact hp)).2) (jO vc.ne)) ?_
    exact⟨(),aB ⟨congrArg (fun q=>some (DV.v (.c (.s (List.length q) (aI ap q))))) er,trivial⟩ trivial rfl⟩
   ·have e:iP (Cv.arc k w f t)=[mh k]:=qG hc1 hc3
    have er:fk (Cv.arc k w f t) [mh k]=(bk (Cv.arc k w f t)):=by unfold bk;rw[if_pos (show((Cv.arc k w f t)).isArc=true from rfl),e]
    refine aJ ?_
    refine dj (t:=6) (m:=20) (us:=aj (mh k)) rfl rfl (lE (n:=1) (by first|rfl|(rw[aG ag,gi,fQ,fT (by omega)])) (by assumption) (by omega)) (by omega) (by assumption) (iX (by first|rfl|(rw[aG ag,gi,fQ,fT (by omega)]))) ?_
    refine ah ?_
    refine ar (gC aY rfl) ?_
    refine ac rfl (pI (c:=(Cv.arc k w f t)) (L:=[mh k]) vc.g (fun p hp=>(fg vc p (by rw[e];exact hp)).1) (dV rfl) (fun p hp=>(fg vc p (by rw[e];exact hp)).2) (jO vc.ne)) ?_
    exact⟨(),aB ⟨congrArg (fun q=>some (DV.v (.c (.s (List.length q) (aI ap q))))) er,trivial⟩ trivial rfl⟩
  ·refine aJ ?_
   refine aa ?_
   refine aa ?_
   refine ah ?_
   refine ar (gC aY rfl) ?_
   refine ac rfl (E6 hk hf ht gR) ?_
   refine aX rfl (fun hc5=>?_) (fun hc5=>?_)
   ·have e:iP (Cv.arc k w f t)=[ln k]:=qF hc1 hc5
    have er:fk (Cv.arc k w f t) [ln k]=(bk (Cv.arc k w f t)):=by unfold bk;rw[if_pos (show((Cv.arc k w f t)).isArc=true from rfl),e]
    refine ah ?_
    refine ar (cV (n:=1) (us:=aj (ln k)) iC rfl rfl rfl (by decide) (by decide) rfl) ?_
    refine DL.mk<|pK (ys:=aj (ln k)) iC rfl rfl rfl (by decide) (by decide) (by decide) rfl rfl (fun cg6 rg6 hga6 hgb6 hgc6=>fE ?_)
    refine dj (t:=6) (m:=20) (us:=aj (ln k)) rfl rfl (lE (n:=1) (by first|rfl|(rw[aG ag,gi,fQ,fT (by omega)])) (by assumption) (by omega)) (by omega) (by assumption) (iX (by first|rfl|(rw[aG ag,gi,fQ,fT (by omega)]))) ?_
    refine ah ?_
    refine ar (gC aY rfl) ?_
    refine ac rfl (pI (c:=(Cv.arc k w f t)) (L:=[ln k]) vc.g (fun p hp=>(fg vc p (by rw[e];exact hp)).1) (dV rfl) (fun p hp=>(fg vc p (by rw[e];exact hp)).2) (jO vc.ne)) ?_
    exact⟨(),aB ⟨congrArg (fun q=>some (DV.v (.c (.s (List.length q) (aI ap q))))) er,trivial⟩ trivial rfl⟩
   ·have e:iP (Cv.arc k w f t)=[]:=qS hc1 hc5
    have er:fk (Cv.arc k w f t) []=(bk (Cv.arc k w f t)):=by unfold bk;rw[if_pos (show((Cv.arc k w f t)).isArc=true from rfl),e]
    refine aJ ?_
    refine JQ (t:=6) rfl ?_
    refine ah ?_
    refine ar (gC aY rfl) ?_
    refine ac rfl (pI (c:=(Cv.arc k w f t)) (L:=[]) vc.g (fun p hp=>(fg vc p (by rw[e];exact hp)).1) (dV rfl) (fun p hp=>(fg vc p (by rw[e];exact hp)).2) (jO vc.ne)) ?_
    exact⟨(),aB ⟨congrArg (fun q=>some (DV.v (.c (.s (List.length q) (aI ap q))))) er,trivial⟩ trivial rfl⟩
 ·rintro⟨⟩
  show Dw _ _ ⟨85,[(3,.v (.c (.s (((bk (Cv.arc k w f t))).length) (aI ap ((bk (Cv.arc k w f t)))))))],[]⟩ _
  refine aa<|bo<|a7 (gV rfl) ?_
  refine bj<|aa<|aa<|ah<|aT ?_
  refine uX (ι:={x9:Nat×Nat×List CellD // 1≤x9.1∧x9.1≤(bk (Cv.arc k w f t)).length∧x9.1≤x9.2.1∧x9.2.1≤maxLen∧x9.2.2.length=(x9.2.1-x9.1)*66}) (fun i=>⟨85,[(3,.v (.c (.s (((bk (Cv.arc k w f t))).length) (aI ap ((bk (Cv.arc k w f t))))))),(7,.o 83 i.1.1 i.1.2.1),(8,.v (.c (.i .i64 (i.1.1:Int))))],[(83,48,aI ap (fC ((bk (Cv.arc k w f t)).take i.1.1))++i.1.2.2)]⟩) (fun i=>(bk (Cv.arc k w f t)).length-i.1.1) ((bk (Cv.arc k w f t)).length) ?_ ?_
  ·refine aa<|aa<|ah ?_
   refine aX rfl (fun hc7=>?_) (fun hc7=>?_)
   ·have g1:0<(bk (Cv.arc k w f t)).length:=uS vc
    have hX:CvV ((bk (Cv.arc k w f t)).getD 0 bV):=s7 vc _ (cz g1)
    refine aJ<|aa<|aT<|aa<|ah<|ar (mR bV ag g1 gz rfl)<|ar (oV ag aY rfl)<|jF (bn aY rfl rfl rfl (ag _) rfl rfl) ?_
    refine jd (ι:=Unit) (fun i=>⟨85,[(3,.v (.c (.s (((bk (Cv.arc k w f t))).length) (aI ap ((bk (Cv.arc k w f t))))))),(7,.z),(8,.v (.c (.i .i64 0))),(9,.p 9 0)],[(9,48,ap (((bk (Cv.arc k w f t)).getD 0 bV).fwd))]⟩) ?_ ?_
    ·refine aa ?_
     refine ah ?_
     refine ar (aV (us:=aj (((bk (Cv.arc k w f t)).getD 0 bV)).p) bv rfl rfl (fl _) rfl rfl) ?_
     refine ar (aV (us:=aj (((bk (Cv.arc k w f t)).getD 0 bV)).q) bv rfl rfl (f5 _) rfl rfl) ?_
     refine ac rfl (oz (cn hX.g) (dy hX.g)) ?_
     refine aX rfl (fun hc8=>?_) (fun hc8=>?_)
     ·have m2:=DD hc8
      refine ah ?_
      refine ar (cD (ag _) aY rfl) ?_
      refine ac rfl (Ez hX) ?_
      refine jF (bn aY rfl rfl rfl (ag _) (ag _) rfl) ?_
      exact⟨(),aB ⟨rfl,rfl,rfl,rfl,trivial⟩ ⟨congrArg (fun q=>some (48,ap q)) m2.symm,trivial⟩ rfl⟩
     ·have m2:=DK hc8
      refine aJ ?_
      exact⟨(),aB ⟨rfl,rfl,rfl,rfl,trivial⟩ ⟨congrArg (fun q=>some (48,ap q)) m2.symm,trivial⟩ rfl⟩
    ·rintro⟨⟩
     show Dw _ _ ⟨85,[(3,.v (.c (.s (((bk (Cv.arc k w f t))).length) (aI ap ((bk (Cv.arc k w f t))))))),(7,.z),(8,.v (.c (.i .i64 0))),(9,.p 9 0)],[(9,48,ap (((bk (Cv.arc k w f t)).getD 0 bV).fwd))]⟩ _
     refine aa<|ah<|aa<|aT ?_
     refine bF (ι:=Nat) (fun i=>match i with|_=>⟨85,[(3,.v (.c (.s (((bk (Cv.arc k w f t))).length) (aI ap ((bk (Cv.arc k w f t))))))),(7,.z),(8,.v (.c (.i .i64 0))),(9,.p 9 0),(10,.v (.c (.i .i64 0)))],[(9,48,ap (((bk (Cv.arc k w f t)).getD 0 bV).fwd))]⟩) (fun i=>0-i) 0 (aB ⟨rfl,rfl,rfl,rfl,rfl,trivial⟩ ⟨rfl,trivial⟩ rfl) ?_
     intro i
     match i with
     |_=>
      show Dw _ _ ⟨85,[(3,.v (.c (.s (((bk (Cv.arc k w f t))).length) (aI ap ((bk (Cv.arc k w f t))))))),(7,.z),(8,.v (.c (.i .i64 0))),(9,.p 9 0),(10,.v (.c (.i .i64 0)))],[(9,48,ap (((bk (Cv.arc k w f t)).getD 0 bV).fwd))]⟩ _
      refine aa<|aa<|di 13 []<|aq (Ec gz rfl rfl) ?_
      refine aq (bp rfl)<|ba rfl<|bG<|di 9 []<|aq (Am gz rfl rfl rfl) ?_
      refine aq (cD (ag _) aY rfl)<|aq (mr (us:=ap ((bk (Cv.arc k w f t)).getD 0 bV).fwd) ja rfl (tM rfl (ag _)) (dX (ag _)) (by decide) (by decide) rfl) ?_
      refine aq (yf gz rfl rfl rfl) ?_
      refine aq (x6 ja rfl rfl (dX (ag _)) (by decide) (by decide) (by decide) (by decide) rfl) ?_
      refine DL.mk ?_
      refine wd (q:=1) (ys:=ap ((bk (Cv.arc k w f t)).getD 0 bV).fwd) (zs':=aI ap (fC ((bk (Cv.arc k w f t)).take 1))) ja rfl rfl (ag _) (by decide) (by decide) (by decide) rfl (by rw[HU g1];exact(lU _).symm) rfl (fun cg9 rg9 hga9 hgb9 hgc9=>fE ?_)
      refine ah<|ar (gI (r:=1) rfl rfl rfl rfl) ?_
      exact⟨⟨⟨1,cg9,rg9⟩,by omega,by omega,by omega,hgb9,hgc9⟩,aB ⟨rfl,rfl,rfl,trivial⟩ ⟨rfl,trivial⟩ rfl,by show(bk (Cv.arc k w f t)).length-1<(bk (Cv.arc k w f t)).length;omega⟩
   ·exact(of_decide_eq_false hc7 (by omega)).elim
  ·rintro⟨⟨n,c,rs⟩,h1,h2,h3,h4,h5⟩
   dsimp only at h1 h2 h3 h4 h5
   show Dw _ _ ⟨85,[(3,.v (.c (.s (((bk (Cv.arc k w f t))).length) (aI ap ((bk (Cv.arc k w f t))))))),(7,.o 83 n c),(8,.v (.c (.i .i64 (n:Int))))],[(83,48,aI ap (fC ((bk (Cv.arc k w f t)).take n))++rs)]⟩ _
   refine aa<|aa<|ah ?_
   refine aX rfl (fun hc10=>?_) (fun hc10=>?_)
   ·have g1:n<(bk (Cv.arc k w f t)).length:=by have:=of_decide_eq_true hc10;omega
    have hX:CvV ((bk (Cv.arc k w f t)).getD n bV):=s7 vc _ (cz g1)
    have Olen:(fC ((bk (Cv.arc k w f t)).take n)).length=n:=by rw[gi,fQ];omega
    have hO: ∀d∈(fC ((bk (Cv.arc k w f t)).take n)),CvV d:=fun d hd=>by
     obtain⟨x,hx,e⟩:=u7 hd
     rw[e];exact Ah (s7 vc x (u9 hx))
    have h2c:n≤c:=h3
    refine aJ<|aa<|aT<|aa<|ah<|ar (mR bV ag g1 gz rfl)<|ar (oV ag aY rfl)<|jF (bn aY rfl rfl rfl (ag _) rfl rfl) ?_
    refine jd (ι:=Unit) (fun i=>⟨85,[(3,.v (.c (.s (((bk (Cv.arc k w f t))).length) (aI ap ((bk (Cv.arc k w f t))))))),(7,.o 83 n c),(8,.v (.c (.i .i64 (n:Int)))),(9,.p 9 0)],[(9,48,ap (((bk (Cv.arc k w f t)).getD n bV).fwd)),(83,48,aI ap (fC ((bk (Cv.arc k w f t)).take n))++rs)]⟩) ?_ ?_
    ·refine aa ?_
     refine ah ?_
     refine ar (aV (us:=aj (((bk (Cv.arc k w f t)).getD n bV)).p) bv rfl rfl (fl _) rfl rfl) ?_
     refine ar (aV (us:=aj (((bk (Cv.arc k w f t)).getD n bV)).q) bv rfl rfl (f5 _) rfl rfl) ?_
     refine ac rfl (oz (cn hX.g) (dy hX.g)) ?_
     refine aX rfl (fun hc11=>?_) (fun hc11=>?_)
     ·have m2:=DD hc11
      refine ah ?_
      refine ar (cD (ag _) aY rfl) ?_
      refine ac rfl (Ez hX) ?_
      refine jF (bn aY rfl rfl rfl (ag _) (ag _) rfl) ?_
      exact⟨(),aB ⟨rfl,rfl,rfl,rfl,trivial⟩ ⟨congrArg (fun q=>some (48,ap q)) m2.symm,rfl,trivial⟩ rfl⟩
     ·have m2:=DK hc11
      refine aJ ?_
      exact⟨(),aB ⟨rfl,rfl,rfl,rfl,trivial⟩ ⟨congrArg (fun q=>some (48,ap q)) m2.symm,rfl,trivial⟩ rfl⟩
    ·rintro⟨⟩
     show Dw _ _ ⟨85,[(3,.v (.c (.s (((bk (Cv.arc k w f t))).length) (aI ap ((bk (Cv.arc k w f t))))))),(7,.o 83 n c),(8,.v (.c (.i .i64 (n:Int)))),(9,.p 9 0)],[(9,48,ap (((bk (Cv.arc k w f t)).getD n bV).fwd)),(83,48,aI ap (fC ((bk (Cv.arc k w f t)).take n))++rs)]⟩ _
     refine aa<|ah<|aa<|aT<|bF (ι:={j:Nat // j≤n∧ ∀r,r<j→gB ((fC ((bk (Cv.arc k w f t)).take n)).getD r bV) ((bk (Cv.arc k w f t)).getD n bV).fwd≤0}) (fun i=>⟨85,[(3,.v (.c (.s (((bk (Cv.arc k w f t))).length) (aI ap ((bk (Cv.arc k w f t))))))),(7,.o 83 n c),(8,.v (.c (.i .i64 (n:Int)))),(9,.p 9 0),(10,.v (.c (.i .i64 (i.1:Int))))],[(9,48,ap (((bk (Cv.arc k w f t)).getD n bV).fwd)),(83,48,aI ap (fC ((bk (Cv.arc k w f t)).take n))++rs)]⟩) (fun i=>n-i.1) ⟨0,iH _,fun r h=>absurd h (Nat.not_lt_zero r)⟩ (aB ⟨rfl,rfl,rfl,rfl,rfl,trivial⟩ ⟨rfl,rfl,trivial⟩ rfl) ?_
     rintro⟨j,h3j,h4j⟩
     replace h3j:j≤n:=h3j
     replace h4j: ∀r,r<j→gB ((fC ((bk (Cv.arc k w f t)).take n)).getD r bV) ((bk (Cv.arc k w f t)).getD n bV).fwd≤0:=h4j
     show Dw _ _ ⟨85,[(3,.v (.c (.s (((bk (Cv.arc k w f t))).length) (aI ap ((bk (Cv.arc k w f t))))))),(7,.o 83 n c),(8,.v (.c (.i .i64 (n:Int)))),(9,.p 9 0),(10,.v (.c (.i .i64 (j:Int))))],[(9,48,ap (((bk (Cv.arc k w f t)).getD n bV).fwd)),(83,48,aI ap (fC ((bk (Cv.arc k w f t)).take n))++rs)]⟩ _
     refine aa<|aa<|lq 13 rfl rfl<|dU 2<|bH (f6 gz rfl rfl) ?_
     refine dU 1 ?_
     refine HC (bp rfl) (fun c12 hb12=>?_)
     cases c12
     ·have g2:n≤j:=by have:=of_decide_eq_false hb12;omega
      have hs:ue ((bk (Cv.arc k w f t)).getD n bV).fwd (fC ((bk (Cv.arc k w f t)).take n))=j:=vx _ (by rw[Olen];omega) h4j (.inl (by rw[Olen];omega))
      refine yQ<|dz<|bj<|ba rfl<|bG<|di 9 []<|aq (jq (q:=j) gz rfl rfl (by omega) rfl) ?_
      refine aq (cD (ag _) aY rfl)<|aq (mr (us:=ap ((bk (Cv.arc k w f t)).getD n bV).fwd) ja rfl (tM rfl (ag _)) (dX (ag _)) (by decide) (by decide) rfl) ?_
      refine aq (kJ (q:=j) gz rfl rfl (by omega) (by omega) rfl) ?_
      refine aq (qr (q:=n-j) (ys:=aI ap ((fC ((bk (Cv.arc k w f t)).take n)).drop j)) ja rfl rfl rfl (Fn Olen h3j h2c) (Fd Olen h3j h5 h2c) (by omega) (by omega) (dX (ag _)) (by rw[aG ag,fP,Olen]) (by decide) (by decide) (by omega) (jA (by omega)) rfl) ?_
      refine DL.mk ?_
      refine pG (n:=j) (c:=c) (q:=1+(n-j)) (us:=aI ap ((fC ((bk (Cv.arc k w f t)).take n)).take j)) (rest:=aI ap ((fC ((bk (Cv.arc k w f t)).take n)).drop j)++rs) (N':=n+1) (zs':=aI ap (fC ((bk (Cv.arc k w f t)).take (n+1)))) ja rfl rfl rfl (xV j) (by rw[aG ag,fQ,Olen,fT h3j]) (by rw[fp,aG ag,fP,Olen,h5];omega) (by rw[fp,ag,aG ag,fP,Olen];omega) (by decide) (by omega) (by assumption) (by omega) (jA (by omega)) (.inl rfl) (by omega) (by rw[vF g1];exact vK hs) rfl (fun cg13 rg13 hga13 hgb13 hgc13=>fE ?_)
      refine ah<|ar (fB (by omega) rfl) ?_
      exact⟨⟨⟨n+1,cg13,rg13⟩,by omega,g1,by omega,hgb13,hgc13⟩,aB ⟨rfl,rfl,rfl,trivial⟩ ⟨rfl,trivial⟩ rfl,by show(bk (Cv.arc k w f t)).length-(n+1)<(bk (Cv.arc k w f t)).length-n;omega⟩
     ·have g2:j<n:=by have:=of_decide_eq_true hb12;omega
      refine dU 2<|bH (bq gz rfl rfl (by omega) rfl) ?_
      refine bH (aV (us:=ap ((fC ((bk (Cv.arc k w f t)).take n)).getD j bV)) aY rfl rfl (VJ (by rw[Olen];omega)) (ag _) rfl) ?_
      refine bH (cD (ag _) aY rfl) ?_
      refine bH (dt rfl (Vf (hO _ (cz (by rw[Olen];omega))) (Ah hX)))<|yQ<|dz<|bj ?_
      refine aX rfl (fun hc14=>?_) (fun hc14=>?_)
      ·have g3:gB ((fC ((bk (Cv.arc k w f t)).take n)).getD j bV) ((bk (Cv.arc k w f t)).getD n bV).fwd≤0:=of_decide_eq_true hc14
       refine aJ<|aT<|ah<|ar (fB (by omega) rfl) ?_
       exact⟨⟨j+1,g2,fun r hr=>(Nat.lt_succ_iff_lt_or_eq.1 hr).elim (h4j r) (fun e=>by rw[e];exact g3)⟩,aB ⟨rfl,rfl,rfl,rfl,rfl,trivial⟩ ⟨rfl,rfl,trivial⟩ rfl,by show n-(j+1)<n-j;omega⟩
      ·have hs:ue ((bk (Cv.arc k w f t)).getD n bV).fwd (fC ((bk (Cv.arc k w f t)).take n))=j:=vx _ (by rw[Olen];omega) h4j (.inr (of_decide_eq_false hc14))
       refine bG<|di 9 []<|aq (jq (q:=j) gz rfl rfl (by omega) rfl) ?_
       refine aq (cD (ag _) aY rfl)<|aq (mr (us:=ap ((bk (Cv.arc k w f t)).getD n bV).fwd) ja rfl (tM rfl (ag _)) (dX (ag _)) (by decide) (by decide) rfl) ?_
       refine aq (kJ (q:=j) gz rfl rfl (by omega) (by omega) rfl) ?_
       refine aq (qr (q:=n-j) (ys:=aI ap ((fC ((bk (Cv.arc k w f t)).take n)).drop j)) ja rfl rfl rfl (Fn Olen h3j h2c) (Fd Olen h3j h5 h2c) (by omega) (by omega) (dX (ag _)) (by rw[aG ag,fP,Olen]) (by decide) (by decide) (by omega) (jA (by omega)) rfl) ?_
       refine DL.mk ?_
       refine pG (n:=j) (c:=c) (q:=1+(n-j)) (us:=aI ap ((fC ((bk (Cv.arc k w f t)).take n)).take j)) (rest:=aI ap ((fC ((bk (Cv.arc k w f t)).take n)).drop j)++rs) (N':=n+1) (zs':=aI ap (fC ((bk (Cv.arc k w f t)).take (n+1)))) ja rfl rfl rfl (xV j) (by rw[aG ag,fQ,Olen,fT h3j]) (by rw[fp,aG ag,fP,Olen,h5];omega) (by rw[fp,ag,aG ag,fP,Olen];omega) (by decide) (by omega) (by assumption) (by omega) (jA (by omega)) (.inl rfl) (by omega) (by rw[vF g1];exact vK hs) rfl (fun cg15 rg15 hga15 hgb15 hgc15=>fE ?_)
       refine ah<|ar (fB (by omega) rfl) ?_
       exact⟨⟨⟨n+1,cg15,rg15⟩,by omega,g1,by omega,hgb15,hgc15⟩,aB ⟨rfl,rfl,rfl,trivial⟩ ⟨rfl,trivial⟩ rfl,by show(bk (Cv.arc k w f t)).length-(n+1)<(bk (Cv.arc k w f t)).length-n;omega⟩
   ·have hp:n=(bk (Cv.arc k w f t)).length:=by have:=of_decide_eq_false hc10;omega
    refine bG<|aa<|ah ?_
    refine dj (t:=2) (m:=66) (us:=aI ap (fC ((bk (Cv.arc k w f t)).take n))) rfl rfl (lE (n:=n) (by first|rfl|(rw[aG ag,gi,fQ,fT (by omega)])) (by assumption) (by omega)) (by omega) (by assumption) (iX (by first|rfl|(rw[aG ag,gi,fQ,fT (by omega)]))) ?_
    refine bb ?_
    rw[show oG (Cv.arc k w f t)=(fC ((bk (Cv.arc k w f t)).take n)) from by rw[hp,tI];rfl,show(fC ((bk (Cv.arc k w f t)).take n)).length=n from by rw[gi,fQ];omega]
    exact ai (al ae)
theorem Zs (vc:CvV c):Ok Tryz.prog 41 [.a (ap c)] [.c (.s (((oG c)).length) (aI ap ((oG c))))]:=by
 cases c with
 |seg l f t=>exact abf vc
 |arc k w f t=>exact Zy vc
def Gx (a d b:Fin 4) (n1 n2 n3:Int):Int:=Ck (M9 (uK d) (uK a) n1) (M9 (uK b) (uK a) n2) (M9 (uK d) (uK b) n3)
def exF (q a b:Fin 4) (s:Int) (m:Int):Bool:=decide (Gx a q b (if a=q then 0 else s) m (if b=q then 0 else s)≤0)&&(a !=q&&b !=q)
set_option maxRecDepth 100000 in
theorem HH: ∀(a b:Fin 4) (m:Fin 3),tV b a (i3 m)=true→(a==b&&i3 m==0)=false→exF 2 a b (-1) (i3 m)=false→exF 0 a b 1 (i3 m)=false→
 ((a=2∨a=3)∧(b=3∨b=0)∧i3 m=1)∨((a=0∨a=1)∧(b=1∨b=2)∧i3 m= -1):=by decide+kernel
set_option maxRecDepth 100000 in
theorem ST: ∀(a b d:Fin 4) (i l:Fin 3),(a=2∨a=3)→(b=3∨b=0)→tV d a (i3 i)=true→tV d b (i3 l)=true→IE (i3 i) 1 (i3 l)=true→
 (Gx a d b (i3 i) 1 (i3 l)≤0↔d≠1∧0≤i3 i∧i3 l≤0):=by decide+kernel
set_option maxRecDepth 100000 in
theorem UM: ∀(a b d:Fin 4) (i l:Fin 3),(a=0∨a=1)→(b=1∨b=2)→tV d a (i3 i)=true→tV d b (i3 l)=true→IE (i3 i) (-1) (i3 l)=true→
 (Gx a d b (i3 i) (-1) (i3 l)≤0↔d≠3∧i3 i≤0∧0≤i3 l):=by decide+kernel
theorem wq (k:Ci) (s p e:Pt):Cn k s p e=Gx (kd k s) (kd k p) (kd k e) (cx p s) (cx e s) (cx p e):=by
 unfold Cn pF Gx
 rw[vg,vg,vg]
theorem vT {a c:Rat}:bi a 0 c=aR a 0:=by
 unfold bi pj
 rw[gF,nu,if_pos (.inl rfl)]
theorem Ny {b c:Rat}(hc:0<c):bi 0 b c=aR b 0:=by
 have h1:aR c 0=1:=by unfold aR;rw[if_neg (by grind),if_pos hc]
 unfold bi pj
 rw[gF,h1,Int.mul_one]
 grind
theorem Vc (s:Rat) (h0:0<k.q):jL (fW k.x s k.y 0 k.q) k.y=0∧lp (fW k.x s k.y 0 k.q) k.x=aR (if jp k.q then s*rt k.q else s) 0:=by
 cases hq:jp k.q with
 |true=>
  have e:fW k.x s k.y 0 k.q=rP (k.x+s*rt k.q) (k.y+0*rt k.q):=by unfold fW;rw[hq];rfl
  rw[e,if_pos rfl]
  refine⟨?_,?_⟩
  ·show bi (k.y+0*rt k.q-k.y) 0 _=0
   rw[vT,show k.y+0*rt k.q-k.y=0 from by grind,gF]
  ·show bi (k.x+s*rt k.q-k.x) 0 _=_
   rw[vT,show k.x+s*rt k.q-k.x=s*rt k.q from by grind]
 |false=>
  have e:fW k.x s k.y 0 k.q=⟨k.x,s,k.y,0,k.q⟩:=by unfold fW;rw[hq];rfl
  rw[e,if_neg (by decide)]
  refine⟨?_,?_⟩
  ·show bi (k.y-k.y) 0 _=0
   rw[vT,show k.y-k.y=0 from by grind,gF]
  ·show bi (k.x-k.x) s (zc s k.q)=_
   rw[show k.x-k.x=0 from by grind]
   by_cases hs:s=0
   ·rw[hs,vT]
   ·rw[iD hs,Ny h0]
theorem Ab (c:Rat):0≤rt c:=by
 have n1:=fv c.num
 have n2:=fv (c.den:Int)
 exact Rat.divInt_nonneg n1 n2
theorem MX (h:cx p q≠0):cP p q=cx p q:=if_pos h
theorem Lm {q:Rat}(h0:0<q) (hs:jp q=true):0<rt q:=by
 have h1:=Ab q
 have h2:=UV h0 hs
 grind
theorem Rh (h0:0<k.q):jL (mh k) k.y=0∧lp (mh k) k.x<0:=by
 obtain⟨a,b⟩:=Vc (k:=k) (-1) h0
 refine⟨a,?_⟩
 show lp (fW k.x (-1) k.y 0 k.q) k.x<0
 rw[b]
 cases hq:jp k.q with
 |true=>have:=Lm h0 hq;rw[if_pos rfl];unfold aR;rw[if_pos (by grind)];decide
 |false=>rw[if_neg (by decide)];decide+kernel
theorem Pr (h0:0<k.q):jL (ln k) k.y=0∧0<lp (ln k) k.x:=by
 obtain⟨a,b⟩:=Vc (k:=k) 1 h0
 refine⟨a,?_⟩
 show 0<lp (fW k.x 1 k.y 0 k.q) k.x
 rw[b]
 cases hq:jp k.q with
 |true=>have:=Lm h0 hq;rw[if_pos rfl];unfold aR;rw[if_neg (by grind),if_pos (by grind)];decide
 |false=>rw[if_neg (by decide)];decide+kernel
section
variable {k:Ci}(hk:GK k) (h0:0<k.q)
include hk h0
theorem Cy:OnK k (mh k):=⟨xf hk h0,F3 hk h0⟩
theorem BL:OnK k (ln k):=⟨xq hk h0,E1 hk h0⟩
omit hk in
theorem JZ:kd k (mh k)=2:=by
 obtain⟨a,b⟩:=Rh h0
 unfold kd;rw[if_neg (by omega),if_pos a,if_neg (by omega)]
omit hk in
theorem JR:kd k (ln k)=0:=by
 obtain⟨a,b⟩:=Pr h0
 unfold kd;rw[if_neg (by omega),if_pos a,if_pos (by omega)]
theorem BP (hp:OnK k p):cx (mh k) p=if kd k p=2 then 0 else-1:=by
 have h:=lW h0 (Cy hk h0) hp
 rw[JZ h0] at h
 unfold tV at h
 grind
theorem Bi (hp:OnK k p):cx (ln k) p=if kd k p=0 then 0 else 1:=by
 have h:=lW h0 (BL hk h0) hp
 rw[JR h0] at h
 unfold tV at h
 grind
omit hk in
theorem K7 (of:OnK k f) (ot:OnK k t) (ox:OnK k x) (q:Fin 4) (hq: ∀y,OnK k y→cP y x=0→kd k y=q) (hi:(Cv.arc k w f t).inner x=false):
 (decide (Cn k (if w then t else f) x (if w then f else t)≤0)&&(kd k f !=q&&kd k t !=q))=false:=by
 have hon:(Cv.arc k w f t).on x=decide (Cn k (if w then t else f) x (if w then f else t)≤0):=by
  rw[CH (bD.2 ox.2)]
  cases w with
  |true=>exact HS h0 of ot ox
  |false=>exact BK of.1 ot.1 ox.1
 unfold Cv.inner at hi
 rw[hon] at hi
 cases h:decide (Cn k (if w then t else f) x (if w then f else t)≤0) with
 |false=>rfl
 |true=>
  rw[h,jH] at hi
  rw[jH]
  rcases Bool.and_eq_false_iff.1 hi with g|g
  ·have:cP f x=0:=by simpa [Cv.p] using g
   rw[hq f of this,bne_self_eq_false,rW]
  ·have:cP t x=0:=by simpa [Cv.q] using g
   rw[hq t ot this,bne_self_eq_false,pB]
theorem UO (oy:OnK k y) (h:cP y (mh k)=0):kd k y=2:=by
 have h1:=BP hk h0 oy
 have h2:=(iM.1 h).1
 have h3:=iz (bz (xf hk h0)) (b8 oy)
 grind
theorem SR (oy:OnK k y) (h:cP y (ln k)=0):kd k y=0:=by
 have h1:=Bi hk h0 oy
 have h2:=(iM.1 h).1
 have h3:=iz (bz (xq hk h0)) (b8 oy)
 grind
omit hk in
theorem FB (op:OnK k p) (oq:OnK k q) (hd:kd k p=kd k q) (hx:cx p q=0):cP p q=0:=by
 refine iM.2 ⟨hx,?_⟩
 have cp:=b8 op
 have cq:=b8 oq
 rw[jP cp cq] at hx
 rw[EX cp cq]
 have hp:=ow op
 have hq:=ow oq
 have hY:aw ((pY p-Re.of k.y)-(pY q-Re.of k.y))=aw (pY p-pY q):=congrArg aw (aS fun n=>by simp only[ak];grind)
 rw[←hY]
 have sp:=AA cp k.y
 have sq:=AA cq k.y
 generalize hP:pY p-Re.of k.y=P at*
 generalize hQ:pY q-Re.of k.y=Q at*
 have e:(P-Q)*(P+Q)=(ri k p-ri k q)+ -((pX p-pX q)*((pX p-Re.of k.x)+(pX q-Re.of k.x))):=by
  rw[←hP,←hQ]
  exact aS fun n=>by unfold ri;simp only[ao,ak,am,aE,aD];grind
 have h1:aw ((P-Q)*(P+Q))=0:=by
  rw[e,dP _ (by rw[br,aQ,hx,nu];rfl),show ri k p-ri k q=ri k p+ -ri k q from aS fun n=>by simp only[ao,ak,aD]<;>grind,dP _ (by rw[br,hq];rfl),hp]
 rw[aQ] at h1
 rcases tS.1 h1 with g|g
 ·exact g
 ·have hs:aw P=aw Q:=by
   rw[←sp,←sq]
   rcases uv h0 op with⟨a,b,_⟩|⟨a,b⟩|⟨a,b,_⟩|⟨a,b⟩<;>rcases uv h0 oq with⟨a',b',_⟩|⟨a',b'⟩|⟨a',b',_⟩|⟨a',b'⟩<;>rw[a,a'] at hd<;>first|exact absurd hd (by decide)|skip
   all_goals have b1:=iE (p.a2-k.y) p.b2 (zc p.b2 p.c);have b2:=iE (q.a2-k.y) q.b2 (zc q.b2 q.c);unfold jL at b b'⊢;omega
  have e2:aw P= -aw Q:=by
   rw[show P=(P+Q)+ -Q from aS fun n=>by simp only[ao,aD]<;>grind,jG g,br]
  have e3:aw P=0:=by omega
  have e4:aw Q=0:=by omega
  rw[show P-Q=P+ -Q from aS fun n=>by simp only[ao,ak,aD]<;>grind,dP _ (by rw[br,e4];rfl),e3]
theorem wx (of:OnK k f) (ot:OnK k t) (hm:(Cv.arc k w f t).mono=true):
 if w then(kd k t=0∨kd k t=1)∧(kd k f=1∨kd k f=2)∧cx f t= -1 else(kd k f=2∨kd k f=3)∧(kd k t=3∨kd k t=0)∧cx t f=1:=by
 have hm:(!decide (cP f t≥0)&&(!(Cv.arc k w f t).inner (mh k)&& !(Cv.arc k w f t).inner (ln k)))=true:=hm
 have hlt:cP f t<0:=by grind
 have hL:(Cv.arc k w f t).inner (mh k)=false:=by grind
 have hR:(Cv.arc k w f t).inner (ln k)=false:=by grind
 have iL:=K7 h0 of ot (Cy hk h0) 2 (fun y oy h=>UO hk h0 oy h) hL
 have iR:=K7 h0 of ot (BL hk h0) 0 (fun y oy h=>SR hk h0 oy h) hR
 have ha:=iz (b8 of) (b8 ot)
 have hx:cx f t≤0:=by
  by_cases h:cx f t≤0
  ·exact h
  ·have:cP f t=cx f t:=MX (by omega)
   omega
 cases w with
 |false=>
  simp only[Bool.false_eq_true,if_false] at iL iR⊢
  rw[wq,JZ h0,BP hk h0 of,BP hk h0 ot] at iL
  rw[wq,JR h0,Bi hk h0 of,Bi hk h0 ot] at iR
  obtain⟨m,em⟩:=il (gS t f)
  rw[em] at iL iR
  have hc:=lW h0 ot of
  rw[em] at hc
  have hn:(kd k f==kd k t&&i3 m==0)=false:=by
   rw[←em]
   cases h:(kd k f==kd k t&&cx t f==0) with
   |false=>rfl
   |true=>
    rw[dT] at h
    have:=FB h0 of ot (beq_iff_eq.1 h.1) (by have:=beq_iff_eq.1 h.2;omega)
    omega
  rcases HH (kd k f) (kd k t) m hc hn iL iR with⟨p,q,r⟩|⟨p,q,r⟩
  ·grind
  grind
 |true=>
  simp only[if_true] at iL iR⊢
  rw[wq,JZ h0,BP hk h0 of,BP hk h0 ot] at iL
  rw[wq,JR h0,Bi hk h0 of,Bi hk h0 ot] at iR
  obtain⟨m,em⟩:=il (gS f t)
  rw[em] at iL iR
  have hc:=lW h0 of ot
  rw[em] at hc
  have hn:(kd k t==kd k f&&i3 m==0)=false:=by
   rw[←em]
   cases h:(kd k t==kd k f&&cx f t==0) with
   |false=>rfl
   |true=>
    rw[dT] at h
    have:=FB h0 of ot (beq_iff_eq.1 h.1).symm (by have:=beq_iff_eq.1 h.2;omega)
    omega
  rw[Bool.and_comm (kd k f !=2)] at iL
  rw[Bool.and_comm (kd k f !=0)] at iR
  rcases HH (kd k t) (kd k f) m hc hn iL iR with⟨p,q,r⟩|⟨p,q,r⟩
  ·omega
  grind
end
def zS (uf up uq:Bool) (n1 n2 m:Int):Int:=J2 (Hp up uf n1) (Hp uq uf n2) (Hp up uq m)
def M7 (a b c:Int):Bool:=(!(decide (a≤0)&&decide (b≤0))||decide (c≤0))&&(!(decide (a<0)&&decide (b≤0))||decide (c<0))&&(!(decide (a≤0)&&decide (b<0))||decide (c<0))
set_option maxRecDepth 1000000 in
theorem WG: ∀(uf up uq ur:Bool) (i j l:Fin 3) (a:Fin 3),IE (i3 i) (i3 j) (i3 a)=true→ ∀b:Fin 3,IE (i3 j) (i3 l) (i3 b)=true→ ∀c:Fin 3,IE (i3 i) (i3 l) (i3 c)=true→
 IE (i3 a) (-(i3 b)) (i3 c)=true→M7 (zS uf up uq (i3 i) (i3 j) (i3 a)) (zS uf uq ur (i3 j) (i3 l) (i3 b)) (zS uf up ur (i3 i) (i3 l) (i3 c))=true:=by decide+kernel
theorem Oe: ∀(uf up uq:Bool) (i j a:Fin 3),IE (i3 i) (i3 j) (i3 a)=true→zS uf uq up (i3 j) (i3 i) (-(i3 a))= -zS uf up uq (i3 i) (i3 j) (i3 a):=by decide+kernel
set_option maxRecDepth 1000000 in
theorem T5: ∀(uf up uq ux:Bool) (i j l:Fin 3) (a:Fin 3),IE (i3 l) (i3 i) (i3 a)=true→ ∀b:Fin 3,IE (i3 j) (i3 i) (i3 b)=true→ ∀c:Fin 3,IE (i3 l) (i3 j) (i3 c)=true→
 IE (i3 a) (i3 b) (i3 c)=true→zS uf up uq (i3 i) (i3 j) (-(i3 b))<0→zS up up ux 0 (i3 a) (-(i3 a))≤0→zS up ux uq (i3 a) (i3 b) (i3 c)≤0→(ux==up&&i3 a==0)=false→(ux==uq&&i3 c==0)=false→
 zS uf up ux (i3 i) (i3 l) (-(i3 a))<0∧zS uf ux uq (i3 l) (i3 j) (i3 c)<0:=by decide+kernel
theorem jN (k:Ci) (f p q:Pt):wy k f p q=zS (nj k f) (nj k p) (nj k q) (cx p f) (cx q f) (cx p q):=rfl
section
variable {k:Ci}{f p q r x:Pt}(hf:0≤f.c) (hp:0≤p.c) (hq:0≤q.c)
include hf hp hq
theorem QI:wy k f q p= -wy k f p q:=by
 rw[jN,jN,iz hp hq]
 have h:=m9 hf hp hq
 obtain⟨i,hi⟩:=il (gS p f)
 obtain⟨j,hj⟩:=il (gS q f)
 obtain⟨a,ha⟩:=il (gS p q)
 rw[hi,hj,ha] at h⊢
 exact Oe _ _ _ i j a h
variable (hr:0≤r.c)
include hr
theorem XI:M7 (wy k f p q) (wy k f q r) (wy k f p r)=true:=by
 rw[jN,jN,jN]
 have h1:=m9 hf hp hq
 have h2:=m9 hf hq hr
 have h3:=m9 hf hp hr
 have h4:=m9 hq hp hr
 rw[iz hq hr] at h4
 obtain⟨i,hi⟩:=il (gS p f)
 obtain⟨j,hj⟩:=il (gS q f)
 obtain⟨l,hl⟩:=il (gS r f)
 obtain⟨a,ha⟩:=il (gS p q)
 obtain⟨b,hb⟩:=il (gS q r)
 obtain⟨c,hc⟩:=il (gS p r)
 rw[hi,hj,ha] at h1
 rw[hj,hl,hb] at h2
 rw[hi,hl,hc] at h3
 rw[ha,hb,hc] at h4
 rw[hi,hj,hl,ha,hb,hc]
 exact WG _ _ _ _ i j l a h1 b h2 c h3 h4
end
theorem Uv: ∀(uf ux:Bool) (a:Fin 3),zS uf uf ux 0 (i3 a) (-(i3 a))≤0:=by decide+kernel
theorem Tx (hf:0≤f.c) (hx:0≤x.c):wy k f f x≤0:=by
 rw[jN,we hf,iz hx hf]
 obtain⟨a,ha⟩:=il (gS x f)
 rw[ha]
 exact Uv _ _ a
theorem PL: ∀(uf up uq:Bool) (i j a:Fin 3),IE (i3 i) (i3 j) (i3 a)=true→zS uf up uq (i3 i) (i3 j) (i3 a)=0→(up==uq&&i3 a==0)=true:=by decide+kernel
theorem CG (h0:0<k.q) (op:OnK k p) (oq:OnK k q) (h:(nj k p==nj k q&&cx p q==0)=true):cP p q=0:=by
 rw[dT] at h
 have hu:=beq_iff_eq.1 h.1
 have hx:=beq_iff_eq.1 h.2
 refine FB h0 op oq ?_ hx
 have hc:=lW h0 op oq
 rw[vg,vg] at hu
 rw[hx] at hc
 revert hu hc
 generalize kd k p=a
 generalize kd k q=b
 revert a b
 decide
theorem QL (h0:0<k.q) (hf:0≤f.c) (op:OnK k p) (oq:OnK k q) (h:wy k f p q=0):cP p q=0:=by
 have h1:=m9 hf (b8 op) (b8 oq)
 rw[jN] at h
 obtain⟨i,hi⟩:=il (gS p f)
 obtain⟨j,hj⟩:=il (gS q f)
 obtain⟨a,ha⟩:=il (gS p q)
 rw[hi,hj,ha] at h1 h
 exact CG h0 op oq (by rw[ha];exact PL _ _ _ i j a h1 h)
theorem Kj (h0:0<k.q) (of:OnK k f) (op:OnK k p) (oq:OnK k q) (ox:OnK k x) (h1:wy k f p q<0) (h2:wy k p p x≤0) (h3:wy k p x q≤0) (n1:cP x p≠0) (n2:cP x q≠0):
 wy k f p x<0∧wy k f x q<0:=by
 have cf:=b8 of
 have cp:=b8 op
 have cq:=b8 oq
 have cx':=b8 ox
 have t1:=m9 cf cx' cp
 have t2:=m9 cf cq cp
 have t3:=m9 cf cx' cq
 have t4:=m9 cp cx' cq
 have e1:(nj k x==nj k p&&cx x p==0)=false:=by
  cases h:(nj k x==nj k p&&cx x p==0) with
  |false=>rfl
  |true=>exact absurd (CG h0 ox op h) n1
 have e2:(nj k x==nj k q&&cx x q==0)=false:=by
  cases h:(nj k x==nj k q&&cx x q==0) with
  |false=>rfl
  |true=>exact absurd (CG h0 ox oq h) n2
 rw[jN,iz cq cp] at h1
 rw[jN,we cp,iz cx' cp] at h2
 rw[jN] at h3
 rw[jN,jN,iz cx' cp]
 obtain⟨i,hi⟩:=il (gS p f)
 obtain⟨j,hj⟩:=il (gS q f)
 obtain⟨l,hl⟩:=il (gS x f)
 obtain⟨a,ha⟩:=il (gS x p)
 obtain⟨b,hb⟩:=il (gS q p)
 obtain⟨c,hc⟩:=il (gS x q)
 rw[hl,hi,ha] at t1
 rw[hj,hi,hb] at t2
 rw[hl,hj,hc] at t3
 rw[ha,hb,hc] at t4
 rw[hi,hj,hb] at h1
 rw[ha] at h2 e1
 rw[ha,hb,hc] at h3
 rw[hc] at e2
 rw[hi,hj,hl,ha,hc]
 exact T5 _ _ _ _ i j l a t1 b t2 c t3 t4 h1 h2 h3 e1 e2
def Ci.by (k:Ci) (w:Bool):Ci:=if w then k.mir else k
def Pt.by (p:Pt) (w:Bool):Pt:=if w then p.flip else p
theorem OnK.by (w:Bool) (h:OnK k p):OnK (k.by w) (p.by w):=by
 cases w with
 |true=>exact h.flip
 |false=>exact h
theorem YH (w:Bool) (h:0<k.q):0<(k.by w).q:=by cases w<;>exact h
theorem GQ (w:Bool) (hp:0≤p.c) (hq:0≤q.c):cP (p.by w) (q.by w)=0↔cP p q=0:=by
 cases w with
 |false=>exact Iff.rfl
 |true=>
  show cP p.flip q.flip=0↔_
  rw[iM,iM,qQ hp hq]
  exact⟨fun h=>⟨by omega,h.2⟩,fun h=>⟨by omega,h.2⟩⟩
theorem nw (k:Ci) (w:Bool) (f t p q:Pt):(Cv.arc k w f t).ord p q=wy (k.by w) (f.by w) (p.by w) (q.by w):=by cases w<;>rfl
section
variable {k:Ci}{w:Bool}{f t:Pt}(h0:0<k.q) (of:OnK k f)
include of
variable {p q r:Pt}(op:OnK k p) (oq:OnK k q)
include op oq
theorem pA:(Cv.arc k w f t).ord q p= -(Cv.arc k w f t).ord p q:=by
 rw[nw,nw]
 exact QI (b8 (of.by w)) (b8 (op.by w)) (b8 (oq.by w))
theorem zT (or_:OnK k r):M7 ((Cv.arc k w f t).ord p q) ((Cv.arc k w f t).ord q r) ((Cv.arc k w f t).ord p r)=true:=by
 rw[nw,nw,nw]
 exact XI (b8 (of.by w)) (b8 (op.by w)) (b8 (oq.by w)) (b8 (or_.by w))
include h0
theorem G0 (h:(Cv.arc k w f t).ord p q=0):cP p q=0:=by
 rw[nw] at h
 exact(GQ w (b8 op) (b8 oq)).1 (QL (YH w h0) (b8 (of.by w)) (op.by w) (oq.by w) h)
end
theorem FU (of:OnK k f) (op:OnK k p):(Cv.arc k w f t).ord f p≤0:=by
 rw[nw];exact Tx (b8 (of.by w)) (b8 (op.by w))
theorem DT {a b c:Int}(h:M7 a b c=true) (h1:a<0) (h2:b≤0):c<0:=by
 unfold M7 at h
 grind
theorem VS {a b c:Int}(h:M7 a b c=true) (h1:a≤0) (h2:b≤0):c≤0:=by
 unfold M7 at h
 grind
theorem CR {a b c:Int}(h:M7 a b c=true) (h1:a≤0) (h2:b<0):c<0:=by
 unfold M7 at h
 grind
section
variable {k:Ci}{w:Bool}{f t:Pt}(h0:0<k.q) (of:OnK k f)
include h0 of
theorem Gz (ox:OnK k x): ∀ {S:List Pt},(∀y∈S,OnK k y)→S.Pairwise (fun p q=>(Cv.arc k w f t).ord p q<0)→(gg (.arc k w f t) S x).Pairwise (fun p q=>(Cv.arc k w f t).ord p q<0)
 |[],_,_=>by rw[Bp];exact List.pairwise_singleton _ _
 |o::l,hS,hp=>by
  have oo:=hS o (by simp)
  have hl: ∀y∈l,OnK k y:=fun y hy=>hS y (by simp[hy])
  obtain⟨h1,h2⟩:=tP.1 hp
  by_cases h:(Cv.arc k w f t).ord o x<0
  ·rw[yz h]
   refine tP.2 ⟨fun y hy=>?_,Gz ox hl h2⟩
   rcases rH hy with g|g
   ·exact h1 y g
   ·rw[g];exact h
  ·rw[yl h]
   split
   ·exact hp
   ·rename_i hn
    have ha:=pA (w:=w) (t:=t) of oo ox
    have hz:(Cv.arc k w f t).ord o x≠0:=fun e=>hn (G0 h0 of oo ox e)
    refine tP.2 ⟨fun y hy=>?_,hp⟩
    rcases gD.1 hy with g|g
    ·rw[g];omega
    ·exact DT (zT of ox oo (hl y g)) (by omega) (q5 (h1 y g))
omit h0 of in
theorem xX (hx:0≤x.c): ∀ {S:List Pt},(∀y∈S,y∈gg c S x)∧ ∃y∈gg c S x,cP y x=0
 |[]=>by rw[Bp];exact⟨fun y hy=>(by cases hy),x,by simp,Ko hx⟩
 |o::l=>by
  by_cases h:c.ord o x<0
  ·rw[yz h]
   obtain⟨h1,y,h2,h3⟩:=xX hx (S:=l)
   refine⟨fun z hz=>?_,y,iY _ h2,h3⟩
   rcases gD.1 hz with g|g
   ·rw[g];simp
   ·exact iY _ (h1 z g)
  ·rw[yl h]
   split
   ·rename_i e;exact⟨fun z hz=>hz,o,by simp,e⟩
   ·exact⟨fun z hz=>iY _ hz,x,by simp,Ko hx⟩
theorem G8: ∀(L:List Pt) {S:List Pt},(∀y∈L,OnK k y)→(∀y∈S,OnK k y)→S.Pairwise (fun p q=>(Cv.arc k w f t).ord p q<0)→
 (L.foldl (gg (.arc k w f t)) S).Pairwise (fun p q=>(Cv.arc k w f t).ord p q<0)∧(∀y∈S,y∈L.foldl (gg (.arc k w f t)) S)∧ ∀y∈L,∃z∈L.foldl (gg (.arc k w f t)) S,cP z y=0
 |[],S,_,_,hp=>⟨hp,fun y hy=>hy,fun y hy=>by cases hy⟩
 |x::L,S,hL,hS,hp=>by
  have ox:=hL x (by simp)
  have hS2: ∀y∈gg (.arc k w f t) S x,OnK k y:=fun y hy=>(rH hy).elim (hS y) (fun e=>e▸ox)
  obtain⟨h1,h2,h3⟩:=G8 L (S:=gg (.arc k w f t) S x) (fun y hy=>hL y (by simp[hy])) hS2 (Gz h0 of ox hS hp)
  obtain⟨g1,y,g2,g3⟩:=xX (c:=.arc k w f t) (x:=x) (b8 ox) (S:=S)
  rw[uU]
  refine⟨h1,fun z hz=>h2 z (g1 z hz),fun z hz=>?_⟩
  rcases gD.1 hz with e|e
  ·rw[e];exact⟨y,h2 y g2,g3⟩
  ·exact h3 z e
theorem Mu (hL: ∀y∈L,OnK k y):(cE (.arc k w f t) L).Pairwise (fun p q=>(Cv.arc k w f t).ord p q<0)∧ ∀y∈L,∃z∈cE (.arc k w f t) L,cP z y=0:=by
 obtain⟨h1,_,h3⟩:=G8 (w:=w) (t:=t) h0 of L (S:=[]) hL (fun y hy=>by cases hy) .nil
 exact⟨h1,h3⟩
end
theorem qB: ∀ {S:List Pt}{d:Cv},d∈i9 c S→ ∃A p q B,S=A++p::q::B∧d=c.ends p q
 |[],d,h=>by cases h
 |[x],d,h=>by cases h
 |x::y::l,d,h=>by
  have h:d∈c.ends x y::i9 c (y::l):=h
  rcases gD.1 h with h|h
  ·exact⟨[],x,y,l,rfl,h⟩
  ·obtain⟨A,p,q,B,e,hd⟩:=qB h
   exact⟨x::A,p,q,B,by rw[e];rfl,hd⟩
theorem zF (h0:0<k.q) (op:OnK k p) (oq:OnK k q) (ox:OnK k x):(Cv.arc k (!w) q p).inner x=(Cv.arc k w p q).inner x:=by
 have e:(Cv.arc k (!w) q p).on x=(Cv.arc k w p q).on x:=by
  rw[CH (bD.2 ox.2),CH (bD.2 ox.2)]
  cases w with
  |true=>
   have h1:=BK (k:=k) oq.1 op.1 ox.1
   have h2:=HS h0 op oq ox
   exact h1.trans h2.symm
  |false=>
   have h1:=HS h0 oq op ox
   have h2:=BK (k:=k) op.1 oq.1 ox.1
   exact h1.trans h2.symm
 show((Cv.arc k (!w) q p).on x&&(!(cP q x==0)&& !(cP p x==0)))=((Cv.arc k w p q).on x&&(!(cP p x==0)&& !(cP q x==0)))
 grind
theorem Mv (vc:CvV c): ∀d∈bk c,d.fwd.mono=true:=by
 intro d hd
 have vd:=s7 vc d hd
 cases c with
 |seg l f t=>
  have hd:d∈ [Cv.seg l f t]:=hd
  cases kw.1 hd
  have hn:cP f t≠0:=vc.ne
  have ha:=eo (bz vc.g.2.1) (bz vc.g.2.2)
  unfold Cv.fwd
  split
  ·rename_i e
   have e:cP f t>0:=of_decide_eq_true e
   show(!decide (cP t f≥0))=true
   rw[decide_eq_false (by omega)];rfl
  ·rename_i e
   have e: ¬cP f t>0:=fun g=>e (decide_eq_true g)
   show(!decide (cP f t≥0))=true
   rw[decide_eq_false (by omega)];rfl
 |arc k w f t=>
  have h0:0<k.q:=vc.pos
  have hk:=vc.g.1
  have of:OnK k f:=⟨vc.g.2.1,bD.1 vc.sp⟩
  have ot:OnK k t:=⟨vc.g.2.2,bD.1 vc.sq⟩
  have hd:d∈i9 (.arc k w f t) (cE (.arc k w f t) ([f,t]++iP (.arc k w f t))):=by
   unfold bk at hd;rw[if_pos (show(Cv.arc k w f t).isArc=true from rfl)] at hd;exact hd
  have hL: ∀y∈ [f,t]++iP (.arc k w f t),OnK k y:=fun y hy=>by
   rcases lj.1 hy with h|h
   ·simp only[gD,zK,or_false] at h
    rcases h with h|h<;>rw[h]<;>assumption
   ·exact⟨(fg vc y h).1,bD.1 (o5 (fg vc y h).2)⟩
  have hT: ∀y∈ [f,t]++iP (.arc k w f t),(Cv.arc k w f t).ord y t≤0:=fun y hy=>by
   rcases lj.1 hy with h|h
   ·simp only[gD,zK,or_false] at h
    rcases h with h|h
    ·rw[h];exact FU of ot
    ·rw[h];have:=pA (w:=w) (t:=t) of ot ot;omega
   ·have:=(fg vc y h).2
    unfold Cv.on at this
    rw[dT] at this
    exact of_decide_eq_true this.2
  obtain⟨hs,hin⟩:=Mu (w:=w) (t:=t) h0 of hL
  obtain⟨A,p,q,B,eS,rfl⟩:=qB hd
  have hmem: ∀y∈A++p::q::B,y∈ [f,t]++iP (.arc k w f t):=fun y hy=>my (by rw[eS];exact hy)
  have op:OnK k p:=hL p (hmem p (by simp))
  have oq:OnK k q:=hL q (hmem q (by simp))
  rw[eS] at hs hin
  obtain⟨hA,hpq,hAB⟩:=List.pairwise_append.1 hs
  obtain⟨hp1,hq1⟩:=tP.1 hpq
  have hlt:(Cv.arc k w f t).ord p q<0:=hp1 q (by simp)
  have hne:cP p q≠0:=uM vc.g op.1 oq.1 hlt
  have ha:=eo (b8 op) (b8 oq)
  have key: ∀x,OnK k x→(x=mh k∨x=ln k)→(Cv.arc k w p q).inner x=false:=fun x ox hx=>by
   cases hi:(Cv.arc k w p q).inner x with
   |false=>rfl
   |true=>
    exfalso
    unfold Cv.inner at hi
    rw[dT,dT] at hi
    obtain⟨i1,i2,i3⟩:=hi
    have n1:cP p x≠0:=by simpa [Cv.p] using i2
    have n2:cP q x≠0:=by simpa [Cv.q] using i3
    unfold Cv.on at i1
    rw[dT,dT] at i1
    have b1:(Cv.arc k w p q).ord p x≤0:=of_decide_eq_true i1.1.2
    have b2:(Cv.arc k w p q).ord x q≤0:=of_decide_eq_true i1.2
    rw[nw] at b1 b2
    have hl2:=hlt
    rw[nw] at hl2
    have a1:=eo (b8 op) (b8 ox)
    have a2:=eo (b8 oq) (b8 ox)
    obtain⟨r1,r2⟩:=Kj (YH w h0) (of.by w) (op.by w) (oq.by w) (ox.by w) hl2 b1 b2 (fun e=>n1 (by have:=(GQ w (b8 ox) (b8 op)).1 e;omega)) (fun e=>n2 (by have:=(GQ w (b8 ox) (b8 oq)).1 e;omega))
    rw[←nw (t:=t)] at r1 r2
    have xt:(Cv.arc k w f t).ord x t<0:=DT (zT of ox oq ot) r2 (hT q (hmem q (by simp)))
    have fx:(Cv.arc k w f t).ord f x<0:=CR (zT of of op ox) (FU of op) r1
    have hin2:(Cv.arc k w f t).inner x=true:=by
     unfold Cv.inner
     rw[CH (bD.2 ox.2)]
     show(decide ((Cv.arc k w f t).ord f x≤0)&&decide ((Cv.arc k w f t).ord x t≤0)&&(!(cP f x==0)&& !(cP t x==0)))=true
     have m1:cP f x≠0:=uM vc.g of.1 ox.1 fx
     have m2:cP x t≠0:=uM vc.g ox.1 ot.1 xt
     have m3:=eo (b8 ox) (b8 ot)
     rw[decide_eq_true (q5 fx),decide_eq_true (q5 xt)]
     simp only[Bool.and_self,jH,dT,sJ,beq_eq_false_iff_ne,ne_eq]
     exact⟨m1,by omega⟩
    have hcut:x∈iP (.arc k w f t):=by
     show x∈(if _ then[mh k] else[])++(if _ then[ln k] else[])
     rcases hx with e|e
     ·rw[←e,hin2];simp
     ·refine lj.2 (.inr ?_)
      rw[←e,hin2];simp
    obtain⟨y,hy,ey⟩:=hin x (lj.2 (.inr hcut))
    have oy:OnK k y:=hL y (hmem y hy)
    have zy:(Cv.arc k w f t).ord y x=0:=yT (b8 oy) (b8 ox) ey vc.g
    have ay:=pA (w:=w) (t:=t) of oy ox
    have apx:=pA (w:=w) (t:=t) of op ox
    have aqx:=pA (w:=w) (t:=t) of ox oq
    rcases lj.1 hy with g|g
    ·have l1:(Cv.arc k w f t).ord y p<0:=hAB y g p (by simp)
     have:=CR (zT (w:=w) (t:=t) of ox oy op) (by omega) l1
     omega
    ·rcases gD.1 g with g|g
     ·have:=pA (w:=w) (t:=t) of op op
      rw[g] at zy
      omega
     ·rcases gD.1 g with g|g
      ·rw[g] at zy
       omega
      ·have l1:(Cv.arc k w f t).ord q y<0:=(tP.1 hq1).1 y g
       have:=DT (zT (w:=w) (t:=t) of oq oy ox) l1 (by omega)
       omega
  have kL:=key _ (Cy hk h0) (.inl rfl)
  have kR:=key _ (BL hk h0) (.inr rfl)
  unfold Cv.fwd
  split
  ·rename_i e
   have e:cP p q>0:=of_decide_eq_true e
   show(!decide (cP q p≥0)&&(!(Cv.arc k (!w) q p).inner (mh k)&& !(Cv.arc k (!w) q p).inner (ln k)))=true
   rw[zF h0 op oq (Cy hk h0),zF h0 op oq (BL hk h0),kL,kR,decide_eq_false (by omega)];rfl
  ·rename_i e
   have e: ¬cP p q>0:=fun g=>e (decide_eq_true g)
   show(!decide (cP p q≥0)&&(!(Cv.arc k w p q).inner (mh k)&& !(Cv.arc k w p q).inner (ln k)))=true
   grind
theorem Aa (vc:CvV c): ∀d∈oG c,d.mono=true:=fun d hd=>by
 obtain⟨x,hx,e⟩:=u7 hd
 rw[e];exact Mv vc x hx
def d9 (a b:Cv):List Cv:=fk a (cG a b)++fk b (cG b a)
def jn (l:List Cv):List Cv:=l.flatMap oG
def t6 (a b:Cv):List Cv:=(jn (d9 a b)).take 12
theorem yh: ∀p∈cG a c,a.on p=true:=fun p hp=>by
 have h1:=(zi.1 (my hp)).2
 unfold dM at h1
 exact(dT _ _▸h1).1
theorem zU (va:CvV a) (vb:CvV b): ∀d∈d9 a b,CvV d:=fun d hd=>by
 rcases lj.1 hd with h|h
 ·exact yK va (pv va.g vb.g) (fun p hp=>o5 (yh p hp)) d h
 ·exact yK vb (pv vb.g va.g) (fun p hp=>o5 (yh p hp)) d h
theorem Jc:(fk c l).length≤l.length+1:=by
 have h1:=iF c (cE c ([c.p,c.q]++l))
 have h2:=rS (c:=c) (l:=[c.p,c.q]++l)
 unfold fk
 grind
theorem Cw (h:cP c.p c.q≠0):0<(fk c l).length:=by
 unfold fk
 rw[iF]
 have:=jO (c:=c) (l:=l) h
 omega
theorem FX:(fk a (cG a b)).length≤5:=nn Jc (Nat.succ_le_succ mv)
theorem PS:(d9 a b).length≤10:=by
 have h1:=FX (a:=a) (b:=b)
 have h2:=FX (a:=b) (b:=a)
 unfold d9
 grind
theorem Pu (va:CvV a):0<(d9 a b).length:=by
 unfold d9
 rw[fp]
 have:=Cw (c:=a) (l:=cG a b) va.ne
 omega
theorem xP {l:List Cv}(h:n<l.length):jn (l.take (n+1))=jn (l.take n)++oG (l.getD n bV):=by
 unfold jn
 rw[oh (d:=bV) h,List.flatMap_append]
 grind
theorem yd {l:List Cv}(h:0<l.length):jn (l.take 1)=oG (l.getD 0 bV):=by
 rw[xP h,List.take_zero];rfl
theorem GC: ∀ {l:List Cv},(jn l).length≤3*l.length
 |[]=>cK _
 |d::l=>by
  have h1:=GC (l:=l)
  have h2:=yo (c:=d)
  unfold jn at*
  rw[List.flatMap_cons,fp]
  show _≤3*(l.length+1)
  omega
theorem On (h:CvV c):0<(oG c).length:=by unfold oG;rw[gi];exact uS h
theorem Ql:(t6 a b).length≤12:=by unfold t6;rw[fQ];omega
theorem Gm (h:d∈t6 a b): ∃c∈d9 a b,d∈oG c:=by
 obtain⟨c,h1,h2⟩:=List.mem_flatMap.1 (u9 h)
 grind
theorem sv (va:CvV a) (vb:CvV b): ∀d∈t6 a b,CvV d:=fun d hd=>by
 obtain⟨c,h1,h2⟩:=Gm hd
 exact IL (zU va vb c h1) d h2
theorem Fp (va:CvV a) (vb:CvV b): ∀d∈t6 a b,d.mono=true:=fun d hd=>by
 obtain⟨c,h1,h2⟩:=Gm hd
 exact Aa (zU va vb c h1) d h2
theorem XQ (h:(jn (d9 a b)).length≤12):t6 a b=jn (d9 a b):=iB h
theorem Dm {P:Program}{ops:Array Oper}{os:List Oper}{K:St→Prop}{tm:List (Nat×DV)}{bx:List (Nat×TypeId×List CellD)}{t:Nat}{x y:Operand}{pos:String}{af:Array Edge}{g:Option (Nat×Bool)}{q m by_:Nat}{us ys zs zs':List CellD}
 (hU:ua P U=some (e,m,by_,zs)) (hx:dc (fun s=>aM s tm) x=some (.f 0 us)) (hy:dc (fun s=>aM s tm) y=some (.v (.c (.s q ys)))) (hys:ys.length=q*m) (hq:0<q)
 (hbytes:q*by_≤140737488355328) (h63:q≤maxLen) (hd:aM t bx=none) (hz:ys=zs')
 (hg:gd ops ⟨some t,.call ⟨.builtin .append,#[x,y],#[U,U]⟩,ty,pos,af,g⟩ (fun s=>aM s tm)=some true)
 (hk: ∀c' rest',q≤c'→c'≤maxLen→rest'.length=(c'-q)*m→dl P ops os ⟨N,(t,.o t q c')::tm,(t,e,zs'++rest')::bx⟩ K):
 dl P ops (⟨some t,.call ⟨.builtin .append,#[x,y],#[U,U]⟩,ty,pos,af,g⟩::os) ⟨N,tm,bx⟩ K:=by
 subst hz
 exact .inr ⟨_,Bv hU hx hy hys hq hbytes h63 hd hg,fun σ' ⟨c',rest',h1,h2,h3,e⟩=>by subst e;exact hk c' rest' h1 h2 h3⟩
theorem Wx (lX:X.length=17) (lY:Y.length=17) (hO1:Ok Tryz.prog 36 [.a X] [.a (([.b false]++dA++dA++[.b false]++r8++r8)),.c (.b false)]) (hO2:Ok Tryz.prog 36 [.a Y] [.a (([.b false]++dA++dA++[.b false]++r8++r8)),.c (.b false)]):Ok Tryz.prog 12 [.a (X),.a (Y)] [.c (.s 0 [])]:=by
 refine bU Tryz.func12 rfl ?_
 refine ar (cD (lX) C4 rfl) ?_
 refine ac rfl (hO1) ?_
 refine jF (dZ aY rfl)<|ar (cD (lY) C4 rfl)<|ac rfl (hO2) ?_
 refine jF (dZ aY rfl)<|ar (bp rfl)<|oC rfl ?_
 exact ai (al ae)
theorem W3 (lX:X.length=17) (lY:Y.length=17) (hO1:Ok Tryz.prog 36 [.a X] [.a (([.b false]++dA++dA++[.b false]++r8++r8)),.c (.b false)]) (hO2:Ok Tryz.prog 36 [.a Y] [.a (ap b),.c (.b true)]):Ok Tryz.prog 12 [.a (X),.a (Y)] [.c (.s 0 [])]:=by
 refine bU Tryz.func12 rfl ?_
 refine ar (cD (lX) C4 rfl) ?_
 refine ac rfl (hO1) ?_
 refine jF (dZ aY rfl)<|ar (cD (lY) C4 rfl)<|ac rfl (hO2) ?_
 refine jF (bn aY rfl rfl rfl (ag _) rfl rfl) ?_
 refine ar (bp rfl)<|oC rfl ?_
 exact ai (al ae)
theorem WT (lX:X.length=17) (lY:Y.length=17) (hO1:Ok Tryz.prog 36 [.a X] [.a (ap a),.c (.b true)]) (hO2:Ok Tryz.prog 36 [.a Y] [.a (([.b false]++dA++dA++[.b false]++r8++r8)),.c (.b false)]):Ok Tryz.prog 12 [.a (X),.a (Y)] [.c (.s 0 [])]:=by
 refine bU Tryz.func12 rfl ?_
 refine ar (cD (lX) C4 rfl) ?_
 refine ac rfl (hO1) ?_
 refine jF (bn aY rfl rfl rfl (ag _) rfl rfl) ?_
 refine ar (cD (lY) C4 rfl)<|ac rfl (hO2) ?_
 refine jF (dZ aY rfl)<|ar (bp rfl)<|oC rfl ?_
 exact ai (al ae)
theorem Xu (lX:X.length=17) (lY:Y.length=17) (va:CvV a) (vb:CvV b) (hO1:Ok Tryz.prog 36 [.a X] [.a (ap a),.c (.b true)]) (hO2:Ok Tryz.prog 36 [.a Y] [.a (ap b),.c (.b true)]):Ok Tryz.prog 12 [.a (X),.a (Y)] [.c (.s (((t6 a b)).length) (aI ap ((t6 a b))))]:=by
 have l1:=FX (a:=a) (b:=b)
 have l2:=FX (a:=b) (b:=a)
 have l3:=PS (a:=a) (b:=b)
 have l4:=Pu (b:=b) va
 have l5:(d9 a b).length=(fk a (cG a b)).length+(fk b (cG b a)).length:=by unfold d9;rw[fp]
 refine fD Tryz.func12 81 [.tmp 4] rfl<|aa<|ah<|aa<|bo<|a7 (gV rfl) ?_
 refine bj ?_
 refine aa ?_
 refine ah ?_
 refine ar (cD (lX) C4 rfl) ?_
 refine ac rfl (hO1) ?_
 refine jF (bn aY rfl rfl rfl (ag _) rfl rfl) ?_
 refine aa ?_
 refine ah ?_
 refine ar (cD (lY) C4 rfl) ?_
 refine ac rfl (hO2) ?_
 refine jF (bn aY rfl rfl rfl (ag _) rfl rfl) ?_
 refine aa ?_
 refine aa ?_
 refine ah ?_
 refine ar (bp rfl) ?_
 refine ba rfl ?_
 refine aJ ?_
 refine aa ?_
 refine ah ?_
 refine ar (cD (ag _) aY rfl) ?_
 refine ar (cD (ag _) aY rfl) ?_
 refine ac rfl (Be va.g vb.g) ?_
 refine aa ?_
 refine ah ?_
 refine ar (cD (ag _) aY rfl) ?_
 refine ar (cD (ag _) aY rfl) ?_
 refine ac rfl (Be vb.g va.g) ?_
 refine aa ?_
 refine ah ?_
 refine ar (cD (ag _) aY rfl) ?_
 refine ac rfl (pI (c:=a) (L:=cG a b) va.g (pv va.g vb.g) (nn mv (by decide)) yh (jO va.ne)) ?_
 refine aa ?_
 refine ah ?_
 refine ar (cD (ag _) aY rfl) ?_
 refine ac rfl (pI (c:=b) (L:=cG b a) vb.g (pv vb.g va.g) (nn mv (by decide)) yh (jO vb.ne)) ?_
 refine aa ?_
 refine aa ?_
 refine ah ?_
 refine ar (mm ja rfl) ?_
 refine DL.mk<|Dm (q:=(fk a (cG a b)).length) (ys:=aI ap (fk a (cG a b))) (zs':=aI ap (fk a (cG a b))) ja rfl rfl (aG ag _) (Cw va.ne) (by omega) (jA (by omega)) rfl (rfl) rfl (fun cg1 rg1 hga1 hgb1 hgc1=>fE ?_)
 refine DL.mk<|pG (n:=(fk a (cG a b)).length) (c:=cg1) (q:=(fk b (cG b a)).length) (us:=aI ap (fk a (cG a b))) (rest:=rg1) (N':=(d9 a b).length) (zs':=aI ap (d9 a b)) ja rfl rfl rfl (rfl) (aG ag _) (by assumption) (aG ag _) (by decide) (by omega) (by assumption) (by omega) (jA (by omega)) (.inr rfl) (by unfold d9;rw[fp]) (by unfold d9;rw[io]) rfl (fun cg2 rg2 hga2 hgb2 hgc2=>fE ?_)
 refine ar (f6 gz rfl rfl) ?_
 refine dj (t:=64) (m:=66) (us:=aI ap (d9 a b)) rfl rfl (lE (n:=(d9 a b).length) (aG ag _) (by assumption) (by omega)) (by omega) (by assumption) (iX (aG ag _))<|aT ?_
 refine uX (ι:={x9:Nat×Nat×List CellD // 1≤x9.1∧x9.1≤(d9 a b).length∧(jn ((d9 a b).take x9.1)).length≤x9.2.1∧x9.2.1≤maxLen∧x9.2.2.length=(x9.2.1-(jn ((d9 a b).take x9.1)).length)*66}) (fun i=>⟨81,[(5,.o 73 ((jn ((d9 a b).take i.1.1)).length) i.1.2.1),(64,.v (.c (.s (((d9 a b)).length) (aI ap ((d9 a b)))))),(65,.v (.c (.i .i64 (((d9 a b).length:Int))))),(66,.v (.c (.i .i64 (i.1.1:Int))))],[(73,48,aI ap (jn ((d9 a b).take i.1.1))++i.1.2.2)]⟩) (fun i=>(d9 a b).length-i.1.1) ((d9 a b).length) ?_ ?_
 ·refine aa<|ah<|aa ?_
  refine aX rfl (fun hc3=>?_) (fun hc3=>?_)
  ·have hX:CvV ((d9 a b).getD 0 bV):=zU va vb _ (cz l4)
   refine aJ<|aa<|aT<|aa<|ah<|ar (mR bV ag l4 gz rfl)<|ar (oV ag aY rfl)<|jF (bn aY rfl rfl rfl (ag _) rfl rfl) ?_
   refine ah ?_
   refine ar (cD (ag _) aY rfl) ?_
   refine ac rfl (Zs hX) ?_
   refine DL.mk<|wd (q:=(oG ((d9 a b).getD 0 bV)).length) (ys:=aI ap ((oG ((d9 a b).getD 0 bV)))) (zs':=aI ap (oG ((d9 a b).getD 0 bV))) ja rfl rfl (aG ag _) (On hX) (by have:=yo (c:=((d9 a b).getD 0 bV));omega) (jA (by have:=yo (c:=((d9 a b).getD 0 bV));omega)) rfl (rfl) rfl (fun cg4 rg4 hga4 hgb4 hgc4=>fE ?_)
   refine ah<|ar (gI (r:=1) rfl rfl rfl rfl) ?_
   exact⟨⟨⟨1,cg4,rg4⟩,cK _,l4,by show(jn ((d9 a b).take 1)).length≤cg4;rw[yd l4];exact hga4,hgb4,by show rg4.length=(cg4-(jn ((d9 a b).take 1)).length)*66;rw[yd l4];exact hgc4⟩,aB ⟨congrArg (fun q=>some (DV.o 73 (List.length q) cg4)) ((yd l4).symm),rfl,rfl,rfl,trivial⟩ ⟨congrArg (fun q=>some (48,aI ap q++rg4)) (yd l4).symm,trivial⟩ rfl,by show(d9 a b).length-1<(d9 a b).length;omega⟩
  ·exact(of_decide_eq_false hc3 (by omega)).elim
 ·rintro⟨⟨n,c,rs⟩,h1,h2,h3,h4,h5⟩
  dsimp only at h1 h2 h3 h4 h5
  have l6:(jn ((d9 a b).take n)).length≤30:=by have:=GC (l:=(d9 a b).take n);rw[fQ] at this;omega
  show Dw _ _ ⟨81,[(5,.o 73 ((jn ((d9 a b).take n)).length) c),(64,.v (.c (.s (((d9 a b)).length) (aI ap ((d9 a b)))))),(65,.v (.c (.i .i64 (((d9 a b).length:Int))))),(66,.v (.c (.i .i64 (n:Int))))],[(73,48,aI ap (jn ((d9 a b).take n))++rs)]⟩ _
  refine aa<|ah<|aa ?_
  refine aX rfl (fun hc5=>?_) (fun hc5=>?_)
  ·have g1:n<(d9 a b).length:=by have:=of_decide_eq_true hc5;omega
   have hX:CvV ((d9 a b).getD n bV):=zU va vb _ (cz g1)
   have l7:=yo (c:=((d9 a b).getD n bV))
   have l8:(jn ((d9 a b).take (n+1))).length=(jn ((d9 a b).take n)).length+(oG ((d9 a b).getD n bV)).length:=by rw[xP g1,fp]
   refine aJ<|aa<|aT<|aa<|ah<|ar (mR bV ag g1 gz rfl)<|ar (oV ag aY rfl)<|jF (bn aY rfl rfl rfl (ag _) rfl rfl) ?_
   refine ah ?_
   refine ar (cD (ag _) aY rfl) ?_
   refine ac rfl (Zs hX) ?_
   refine DL.mk ?_
   refine pG (n:=(jn ((d9 a b).take n)).length) (c:=c) (q:=((oG ((d9 a b).getD n bV))).length) (us:=aI ap (jn ((d9 a b).take n))) (rest:=rs) (N':=(jn ((d9 a b).take (n+1))).length) (zs':=aI ap (jn ((d9 a b).take (n+1)))) ja rfl rfl rfl (rfl) (aG ag _) (h5) (aG ag _) (by decide) (by omega) (by assumption) (by omega) (jA (by omega)) (.inl rfl) (by rw[xP g1,fp]) (by rw[xP g1,io]) rfl (fun cg6 rg6 hga6 hgb6 hgc6=>fE ?_)
   refine ah<|ar (fB (by omega) rfl) ?_
   exact⟨⟨⟨n+1,cg6,rg6⟩,by omega,g1,hga6,hgb6,hgc6⟩,aB ⟨rfl,rfl,rfl,rfl,trivial⟩ ⟨rfl,trivial⟩ rfl,by show(d9 a b).length-(n+1)<(d9 a b).length-n;omega⟩
  ·have hp:n=(d9 a b).length:=by have:=of_decide_eq_false hc5;omega
   have e9:(jn ((d9 a b).take n))=jn (d9 a b):=by rw[hp,tI]
   refine bG<|aa<|aa<|ah<|ar (f6 gz rfl rfl) ?_
   refine aX rfl (fun hc7=>?_) (fun hc7=>?_)
   ·have g3:12<(jn ((d9 a b).take n)).length:=by have:=of_decide_eq_true hc7;omega
    refine aa<|dj (t:=5) (m:=66) (us:=aI ap (jn ((d9 a b).take n))) rfl rfl (lE (n:=(jn ((d9 a b).take n)).length) (aG ag _) (by assumption) (by omega)) (by omega) (by assumption) (iX (aG ag _))<|ah<|ar (sN (n':=(t6 a b).length) (us':=aI ap (t6 a b)) (mx (j:=12) (n:=(jn ((d9 a b).take n)).length) (xs:=aI ap (jn ((d9 a b).take n))) (us:=aI ap ((jn ((d9 a b).take n)).take 12)) gz rfl rfl (by omega) (aG ag _) (o8 ag _ _) rfl) (by unfold t6;rw[fQ,←e9];omega) (by unfold t6;rw[e9])) ?_
    refine bb ?_
    exact ai (al ae)
   ·have g3:(jn ((d9 a b).take n)).length≤12:=by have:=of_decide_eq_false hc7;omega
    refine aJ<|aa<|ah<|dj (t:=4) (m:=66) (us:=aI ap (jn ((d9 a b).take n))) rfl rfl (lE (n:=(jn ((d9 a b).take n)).length) (aG ag _) (by assumption) (by omega)) (by omega) (by assumption) (iX (aG ag _))<|bb ?_
    rw[show t6 a b=(jn ((d9 a b).take n)) from by rw[e9];exact XQ (by rw[←e9];exact g3)]
    exact ai (al ae)
theorem EH (vc:CvV (.arc k w f t)) (hm:(Cv.arc k w f t).mono=true) (op:OnK k p):
 (Cv.arc k w f t).on p=true↔kd k p≠(if w then 3 else 1)∧cx f p≤0∧cx p t≤0:=by
 have h0:0<k.q:=vc.pos
 have hk:=vc.g.1
 have of:OnK k f:=⟨vc.g.2.1,bD.1 vc.sp⟩
 have ot:OnK k t:=⟨vc.g.2.2,bD.1 vc.sq⟩
 have hh:=wx hk h0 of ot hm
 have af:=iz (b8 of) (b8 op)
 have cf:=lW h0 op of
 have ct:=lW h0 op ot
 rw[CH (bD.2 op.2)]
 show(decide ((Cv.arc k w f t).ord f p≤0)&&decide ((Cv.arc k w f t).ord p t≤0))=true↔_
 cases w with
 |false=>
  rw[BK of.1 ot.1 op.1,decide_eq_true_iff,wq]
  have h3:=m9 (b8 of) (b8 op) (b8 ot)
  obtain⟨a1,a2,a3⟩:=hh
  obtain⟨i,hi⟩:=il (gS p f)
  obtain⟨l,hl⟩:=il (gS p t)
  rw[a3] at h3⊢
  rw[hi] at h3 cf⊢
  rw[hl] at h3 ct⊢
  rw[ST _ _ _ i l a1 a2 cf ct h3,if_neg (by decide)]
  constructor
  ·grind
  grind
 |true=>
  rw[HS h0 of ot op,decide_eq_true_iff,wq]
  have h3:=m9 (b8 ot) (b8 op) (b8 of)
  obtain⟨a1,a2,a3⟩:=hh
  obtain⟨i,hi⟩:=il (gS p t)
  obtain⟨l,hl⟩:=il (gS p f)
  rw[a3] at h3⊢
  rw[hi] at h3 ct⊢
  rw[hl] at h3 cf⊢
  rw[UM _ _ _ i l a1 a2 ct cf h3,if_pos rfl]
  constructor
  ·grind
  grind
def Cv.over (c:Cv) (p:Pt):Bool:=decide (cx c.p p≤0)&&decide (cx p c.q≤0)
def Ft (c:Cv) (p:Pt):Int:=if c.vert then(if cy p c.q>0 then 1 else if cy p c.p<0 then-1 else 0) else
 match c with
 | .seg l _ _=>j6 l p*aR l.b 0
 | .arc k w _ _=>if w then(if jL p k.y<0 then-1 else-qd k p) else if jL p k.y>0 then 1 else qd k p
def ov (c:Cv) (p:Pt):Int:=if c.over p then Ft c p else 0
def oE (c:Cv) (p:Pt):Int:=if c.over p then 0 else 1
theorem L6 {l:Ln}(h:cP f t<0):(Cv.seg l f t).ord p q=cP p q:=by
 show(if decide (cP f t>0)=true then-cP p q else cP p q)=_
 grind
def T3 (a b c:Int):Prop:=(a≤0→b≤0→c≤0)∧(a<0→b≤0→c<0)∧(a≤0→b<0→c<0)
theorem VB (x y z:Re):T3 (aw (x-y)) (aw (y-z)) (aw (x-z)):=by
 have e:x-z=(x-y)+(y-z):=aS fun n=>by simp only[ao,ak]<;>grind
 rw[e]
 generalize x-y=X
 generalize y-z=Y
 have h1:=aU X
 have h2:=aU Y
 unfold T3
 by_cases a:aw X=0
 ·rw[jG a];omega
 ·by_cases b:aw Y=0
  ·rw[dP _ b];omega
  ·by_cases c:aw X=aw Y
   ·rw[iJ c];omega
   grind
theorem xT (x y:Rat):aR x y=aw (Re.of x-Re.of y):=by
 rw[←lI,←cj]
 exact congrArg aw (aS fun n=>by simp only[ak,aE];grind)
section
variable {p q r:Pt}(hp:0≤p.c) (hq:0≤q.c) (hr:0≤r.c)
include hp hq hr
theorem VK:T3 (cP p q) (cP q r) (cP p r):=by
 have h1:T3 (cx p q) (cx q r) (cx p r):=by rw[jP hp hq,jP hq hr,jP hp hr];exact VB _ _ _
 have h2:T3 (cy p q) (cy q r) (cy p r):=by rw[EX hp hq,EX hq hr,EX hp hr];exact VB _ _ _
 have e: ∀(a b:Pt),cP a b=if cx a b≠0 then cx a b else cy a b:=fun _ _=>rfl
 unfold T3 at*
 grind
end
end Go.Proofs.YtkmdgigkbhmilaaGreat
