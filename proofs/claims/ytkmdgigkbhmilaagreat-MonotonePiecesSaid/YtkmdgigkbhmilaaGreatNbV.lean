/-Monotone pieces:the program. -/
import Derived.Test.YtkmdgigkbhmilaaGreatNbU
namespace Go.Proofs.YtkmdgigkbhmilaaGreat
open Go Go.RowKit
theorem Ut {L:List Cv}{c9:Nat}{rs:List CellD}(hn1:1≤L.length) (hn:L.length≤12) (hG: ∀x∈L,CvV x):OkS Tryz.prog 253 48 L.length c9 (aI aB L++rs) (aI aB (bH bn dK L)++rs) [.c (.i .i64 0),.c (.i .i64 (L.length:Int)),.c (.f 26)]:=by
 refine OkS.of (K:=100000) (by kernel_rfl) Tryz.func253 rfl rfl rfl rfl ?_
 rw[show Tryz.f253.ntmps=53 from rfl]
 refine aa<|ab<|al 1<|ah (aK (r:=1) rfl rfl rfl rfl) ?_
 refine ag<|aJ<|bD (ι:={p:Nat // 1≤p∧p≤L.length}) (fun i=>⟨53,[(0,.o 100000 L.length c9),(1,.v (.c (.i .i64 0))),(2,.v (.c (.i .i64 (L.length:Int)))),(3,.v (.c (.f 26))),(8,.v (.c (.i .i64 (i.1:Int))))],[(100000,48,aI aB (Iy bn dK L i.1)++rs)]⟩) (fun i=>L.length-i.1) ⟨1,Nat.le_refl _,hn1⟩ (aM ⟨rfl,rfl,rfl,rfl,rfl,trivial⟩ ⟨congrArg (fun q=>some (48,aI aB q++rs)) ((EI L).symm),trivial⟩ rfl) ?_
 rintro⟨p,h1,h2⟩
 replace h1:1≤p:=h1
 replace h2:p≤L.length:=h2
 show Dw _ _ ⟨53,[(0,.o 100000 L.length c9),(1,.v (.c (.i .i64 0))),(2,.v (.c (.i .i64 (L.length:Int)))),(3,.v (.c (.f 26))),(8,.v (.c (.i .i64 (p:Int))))],[(100000,48,aI aB (Iy bn dK L p)++rs)]⟩ _
 refine aa<|aa<|ab<|ag ?_
 refine aw rfl (fun hc1=>?_) (fun hc1=>?_)
 ·have g1:p<L.length:=by have:=of_decide_eq_true hc1;omega
  have hOl:(bH bn dK (L.take p)).length=p:=by rw[dr,List.length_take,Nat.min_eq_left h2]
  refine ao<|aa<|aJ<|aa<|ab<|ag<|aJ<|bD (ι:={j:Nat // j≤p∧pk bn dK (L.getD p bn) (bH bn dK (L.take p)) p=pk bn dK (L.getD p bn) (bH bn dK (L.take p)) j}) (fun i=>⟨53,[(0,.o 100000 L.length c9),(1,.v (.c (.i .i64 0))),(2,.v (.c (.i .i64 (L.length:Int)))),(3,.v (.c (.f 26))),(8,.v (.c (.i .i64 (p:Int)))),(9,.v (.c (.i .i64 (i.1:Int))))],[(100000,48,aI aB (rm (bH bn dK (L.take p)) (L.drop (p+1)) (L.getD p bn) i.1)++rs)]⟩) (fun i=>i.1) ⟨p,Nat.le_refl _,rfl⟩ (aM ⟨rfl,rfl,rfl,rfl,rfl,rfl,trivial⟩ ⟨congrArg (fun q=>some (48,aI aB q++rs)) (FU g1),trivial⟩ rfl) ?_
  rintro⟨j,h3,h4⟩
  replace h3:j≤p:=h3
  replace h4:pk bn dK (L.getD p bn) (bH bn dK (L.take p)) p=pk bn dK (L.getD p bn) (bH bn dK (L.take p)) j:=h4
  show Dw _ _ ⟨53,[(0,.o 100000 L.length c9),(1,.v (.c (.i .i64 0))),(2,.v (.c (.i .i64 (L.length:Int)))),(3,.v (.c (.f 26))),(8,.v (.c (.i .i64 (p:Int)))),(9,.v (.c (.i .i64 (j:Int))))],[(100000,48,aI aB (rm (bH bn dK (L.take p)) (L.drop (p+1)) (L.getD p bn) j)++rs)]⟩ _
  refine aa<|aa<|aR 17 rfl rfl<|ap 3 ?_
  refine fb (bN rfl) (fun c2 hb2=>?_)
  cases c2
  ·have g2:j=0:=by have:=of_decide_eq_false hb2;omega
   refine bk<|az<|ar<|aP rfl<|bj<|ab<|al 1<|ah (aK (r:=((p+1:Nat):Int)) rfl rfl ((aQ (by omega) (by omega)).trans (congrArg some (by omega))) rfl) ?_
   refine ag ?_
   exact⟨⟨p+1,by omega,g1⟩,aM ⟨rfl,rfl,rfl,rfl,rfl,trivial⟩ ⟨congrArg (fun q=>some (48,aI aB q++rs)) (rS g1 (h4.trans (AE (.inl g2)))),trivial⟩ rfl,by show L.length-(p+1)<L.length-p;omega⟩
  ·have g2:0<j:=by have:=of_decide_eq_true hb2;omega
   have hjl:j≤(bH bn dK (L.take p)).length:=by rw[hOl];exact h3
   refine ap 3<|aj (br eu rfl rfl (by omega) rfl) ?_
   refine aj (aA (us:=aB (L.getD p bn)) bd rfl rfl ((kv (e:=bn) (O:=(rm (bH bn dK (L.take p)) (L.drop (p+1)) (L.getD p bn) j)) ak (by rw[gf hjl,hOl,List.length_drop];omega)).trans (congrArg aB (Aw hjl))) (ak _) rfl) ?_
   refine ap 2<|aj (aK (r:=((j-1:Nat):Int)) rfl rfl ((bV (by omega) (by omega)).trans (congrArg some (by omega))) rfl) ?_
   refine aj (br eu rfl rfl (by omega) rfl) ?_
   refine aj (aA (us:=aB ((bH bn dK (L.take p)).getD (j-1) bn)) bd rfl rfl ((kv (e:=bn) (O:=(rm (bH bn dK (L.take p)) (L.drop (p+1)) (L.getD p bn) j)) ak (by rw[gf hjl,hOl,List.length_drop];omega)).trans (congrArg aB (zH g2 hjl))) (ak _) rfl) ?_
   refine aj (am rfl (Bv (hG _ (b8 g1)) (hG _ (List.mem_of_mem_take ((jG _).mem_iff.1 (b8 (show j-1<(bH bn dK (L.take p)).length by rw[hOl];omega)))))))<|bk<|az<|ar ?_
   refine aw rfl (fun hc3=>?_) (fun hc3=>?_)
   ·have g3:dK (L.getD p bn) ((bH bn dK (L.take p)).getD (j-1) bn)<0:=of_decide_eq_true hc3
    refine ao<|aa<|aJ<|bZ 16 [100000,999999] aU (by kernel_rfl) rfl rfl<|ap 4<|aj (aK (r:=((j-1:Nat):Int)) rfl rfl ((bV (by omega) (by omega)).trans (congrArg some (by omega))) rfl) ?_
    refine ap 2<|aj (aK (r:=((j-1:Nat):Int)) rfl rfl ((bV (by omega) (by omega)).trans (congrArg some (by omega))) rfl) ?_
    refine aj (br eu rfl rfl (by omega) rfl) ?_
    refine tF (by kernel_rfl) (aA (us:=aB ((bH bn dK (L.take p)).getD (j-1) bn)) bd rfl rfl ((kv (e:=bn) (O:=(rm (bH bn dK (L.take p)) (L.drop (p+1)) (L.getD p bn) j)) ak (by rw[gf hjl,hOl,List.length_drop];omega)).trans (congrArg aB (zH g2 hjl))) (ak _) rfl) ?_
    refine ap 2<|aj (br eu rfl rfl (by omega) rfl) ?_
    refine tF (by kernel_rfl) (aA (us:=aB (L.getD p bn)) bd rfl rfl ((kv (e:=bn) (O:=(rm (bH bn dK (L.take p)) (L.drop (p+1)) (L.getD p bn) j)) ak (by rw[gf hjl,hOl,List.length_drop];omega)).trans (congrArg aB (Aw hjl))) (ak _) rfl) ?_
    refine aj (br eu rfl rfl (by omega) rfl) ?_
    refine gw (bm (us:=aI aB ((rm (bH bn dK (L.take p)) (L.drop (p+1)) (L.getD p bn) j).set j ((bH bn dK (L.take p)).getD (j-1) bn))++rs) bd rfl rfl rfl (ak _) (by rw[List.length_append,aG ak,gf hjl,hOl,List.length_drop];omega) (qw ak (by rw[gf hjl,hOl,List.length_drop];omega) _) rfl) rfl rfl rfl rfl ?_
    refine aY<|bl<|ah (br eu rfl rfl (by omega) rfl) ?_
    refine bL (bm (us:=aI aB (((rm (bH bn dK (L.take p)) (L.drop (p+1)) (L.getD p bn) j).set j ((bH bn dK (L.take p)).getD (j-1) bn)).set (j-1) (L.getD p bn))++rs) bd rfl rfl rfl (ak _) (by rw[List.length_append,aG ak,List.length_set,gf hjl,hOl,List.length_drop];omega) (qw ak (by rw[List.length_set,gf hjl,hOl,List.length_drop];omega) _) rfl) ?_
    refine ar<|ab<|al 1<|ah (aK (r:=((j-1:Nat):Int)) rfl rfl ((bV (by omega) (by omega)).trans (congrArg some (by omega))) rfl) ?_
    refine ag ?_
    exact⟨⟨j-1,by omega,h4.trans (Iw g2 g3)⟩,aM ⟨rfl,rfl,rfl,rfl,rfl,rfl,trivial⟩ ⟨congrArg (fun q=>some (48,aI aB q++rs)) (JI g2 hjl),trivial⟩ rfl,by show j-1<j;omega⟩
   ·have g3: ¬dK (L.getD p bn) ((bH bn dK (L.take p)).getD (j-1) bn)<0:=of_decide_eq_false hc3
    refine bj<|ab<|al 1<|ah (aK (r:=((p+1:Nat):Int)) rfl rfl ((aQ (by omega) (by omega)).trans (congrArg some (by omega))) rfl) ?_
    refine ag ?_
    exact⟨⟨p+1,by omega,g1⟩,aM ⟨rfl,rfl,rfl,rfl,rfl,trivial⟩ ⟨congrArg (fun q=>some (48,aI aB q++rs)) (rS g1 (h4.trans (AE (.inr g3)))),trivial⟩ rfl,by show L.length-(p+1)<L.length-p;omega⟩
 ·have hp:p=L.length:=by have:=of_decide_eq_false hc1;omega
  refine bj ?_
  exact⟨.inl rfl,congrArg (fun q=>some (48,aI aB q++rs)) (by rw[hp,FE])⟩
theorem TX {L:List Cv}{c9:Nat}{rs:List CellD}(hn1:1≤L.length) (hn:L.length≤12) (hG: ∀x∈L,CvV x):OkS Tryz.prog 185 48 L.length c9 (aI aB L++rs) (aI aB (bH bn dK L)++rs) [.c (.i .i64 (L.length:Int)),.c (.f 26)]:=by
 refine OkS.of (K:=100000) (by kernel_rfl) Tryz.func185 rfl rfl rfl rfl ?_
 rw[show Tryz.f185.ntmps=63 from rfl]
 refine aa<|ab<|ag<|aa<|ab<|ag<|aa<|aJ ?_
 refine bD (ι:=Nat) (fun i=>match i with|_=>⟨63,[(0,.o 100000 L.length c9),(1,.v (.c (.i .i64 (L.length:Int)))),(2,.v (.c (.f 26))),(6,.v (.c (.i .i64 20))),(7,.v (.c (.i .i64 0))),(8,.v (.c (.i .i64 20)))],[(100000,48,aI aB L++rs)]⟩) (fun i=>0-i) 0 (aM ⟨rfl,rfl,rfl,rfl,rfl,rfl,trivial⟩ ⟨rfl,trivial⟩ rfl) ?_
 intro i
 match i with
 |_=>
  show Dw _ _ ⟨63,[(0,.o 100000 L.length c9),(1,.v (.c (.i .i64 (L.length:Int)))),(2,.v (.c (.f 26))),(6,.v (.c (.i .i64 20))),(7,.v (.c (.i .i64 0))),(8,.v (.c (.i .i64 20)))],[(100000,48,aI aB L++rs)]⟩ _
  refine aa<|aa<|ab<|al 2<|ah (bQ (c:=false) (iP rfl) (decide_eq_false (by omega))) ?_
  refine ar<|aP rfl<|bj<|aa<|ab<|al 4<|pp (j5 rfl rfl rfl rfl rfl (Ut hn1 hn hG) rfl) ?_
  refine ar<|aJ ?_
  refine bD (ι:=Nat) (fun i=>match i with|_=>⟨63,[(0,.o 100000 L.length c9),(1,.v (.c (.i .i64 (L.length:Int)))),(2,.v (.c (.f 26))),(6,.v (.c (.i .i64 20))),(7,.v (.c (.i .i64 0))),(8,.v (.c (.i .i64 20)))],[(100000,48,aI aB (bH bn dK L)++rs)]⟩) (fun i=>0-i) 0 (aM ⟨rfl,rfl,rfl,rfl,rfl,rfl,trivial⟩ ⟨rfl,trivial⟩ rfl) ?_
  intro i
  match i with
  |_=>
   show Dw _ _ ⟨63,[(0,.o 100000 L.length c9),(1,.v (.c (.i .i64 (L.length:Int)))),(2,.v (.c (.f 26))),(6,.v (.c (.i .i64 20))),(7,.v (.c (.i .i64 0))),(8,.v (.c (.i .i64 20)))],[(100000,48,aI aB (bH bn dK L)++rs)]⟩ _
   refine aa<|aa<|ab<|al 2<|ah (bQ (c:=false) (iP rfl) (decide_eq_false (by omega))) ?_
   refine ar<|aP rfl<|bj ?_
   exact⟨.inl rfl,rfl⟩
theorem O7 {L:List Cv}{c9:Nat}{rs:List CellD}(hn1:1≤L.length) (hn:L.length≤12) (hG: ∀x∈L,CvV x):OkS Tryz.prog 105 48 L.length c9 (aI aB L++rs) (aI aB (bH bn dK L)++rs) [.c (.f 26)]:=by
 refine OkS.of (K:=100000) (by kernel_rfl) Tryz.func105 rfl rfl rfl rfl ?_
 rw[show Tryz.f105.ntmps=9 from rfl]
 refine ab<|al 2<|ah (eZ eu rfl rfl) ?_
 refine al 1<|pp (j5 rfl rfl rfl rfl rfl (TX hn1 hn hG) rfl) ?_
 refine ar ?_
 exact⟨.inl rfl,rfl⟩
theorem II {c:Cv}(vc:CvV c):Ok Tryz.prog 104 [.a (aB c)] [.a (aB c.rev)]:=by
 cases c with
 |seg l f t=>exact Qs vc.g.1 vc.g.2.1 vc.g.2.2
 |arc k w f t=>exact Lm vc.g.1 vc.g.2.1 vc.g.2.2
theorem UJ {l:Ln}{f t:Pt}(vc:CvV (Cv.seg l f t)):Ok Tryz.prog 37 [.a (([.b false]++dV l++cS++[.b false]++au f++au t))] [.c (.s (((oG (Cv.seg l f t))).length) (aI aB ((oG (Cv.seg l f t)))))]:=by
 have lR:(cG (Cv.seg l f t)).length≤3:=CQ
 have pR:0<(cG (Cv.seg l f t)).length:=BH
 have vR: ∀d∈(cG (Cv.seg l f t)),CvV d:=D3 vc
 have vM: ∀d∈((cG (Cv.seg l f t)).map Cv.fwd),CvV d:=fun d hd=>by
  obtain⟨x,hx,rfl⟩:=List.mem_map.1 hd
  exact tS (vR x hx)
 have lM:((cG (Cv.seg l f t)).map Cv.fwd).length=(cG (Cv.seg l f t)).length:=List.length_map ..
 refine Ok.fn Tryz.func37 57 [.tmp 2] rfl<|aa<|ab<|ag<|aa<|ab<|al 1<|jM (gg (us:=([.b false]++dV l++cS++[.b false]++au f++au t)) gA rfl rfl (by decide) (by decide) rfl) rfl ?_
 refine ag ?_
 refine gE (ι:={x9:Nat×List CellD //(cG (Cv.seg l f t)).length≤x9.1∧x9.1≤maxLen∧x9.2.length=(x9.1-(cG (Cv.seg l f t)).length)*66}) (fun i=>⟨57,[(3,.o 12 ((cG (Cv.seg l f t)).length) i.1.1)],[(12,48,aI aB (cG (Cv.seg l f t))++i.1.2)]⟩) ?_ ?_
 ·refine aa<|ab<|ag<|aP rfl<|ao ?_
  exact⟨⟨⟨1,[]⟩,Nat.le_refl _,by decide,rfl⟩,aM ⟨rfl,trivial⟩ ⟨rfl,trivial⟩ rfl⟩
 ·rintro⟨⟨c9,rs⟩,h1,h2,h3⟩
  dsimp only at h1 h2 h3
  show Dw _ _ ⟨57,[(3,.o 12 ((cG (Cv.seg l f t)).length) c9)],[(12,48,aI aB (cG (Cv.seg l f t))++rs)]⟩ _
  refine aa<|aa<|ab<|al 1<|ah (eZ eu rfl rfl) ?_
  refine ag<|aJ<|bD (ι:={n:Nat // n≤(cG (Cv.seg l f t)).length}) (fun i=>⟨57,[(3,.o 12 ((cG (Cv.seg l f t)).length) c9),(35,.o 12 ((cG (Cv.seg l f t)).length) c9),(36,.v (.c (.i .i64 (((cG (Cv.seg l f t)).length:Int))))),(37,.v (.c (.i .i64 (i.1:Int))))],[(12,48,aI aB (xo (cG (Cv.seg l f t)) i.1)++rs)]⟩) (fun i=>(cG (Cv.seg l f t)).length-i.1) ⟨0,Nat.zero_le _⟩ (aM ⟨rfl,rfl,rfl,rfl,trivial⟩ ⟨congrArg (fun q=>some (48,aI aB q++rs)) (O3.symm),trivial⟩ rfl) ?_
  rintro⟨n,h4⟩
  replace h4:n≤(cG (Cv.seg l f t)).length:=h4
  show Dw _ _ ⟨57,[(3,.o 12 ((cG (Cv.seg l f t)).length) c9),(35,.o 12 ((cG (Cv.seg l f t)).length) c9),(36,.v (.c (.i .i64 (((cG (Cv.seg l f t)).length:Int))))),(37,.v (.c (.i .i64 (n:Int))))],[(12,48,aI aB (xo (cG (Cv.seg l f t)) n)++rs)]⟩ _
  refine aa<|ab<|ag<|aa ?_
  refine aw rfl (fun hc1=>?_) (fun hc1=>?_)
  ·have g1:n<(cG (Cv.seg l f t)).length:=by have:=of_decide_eq_true hc1;omega
   have hX:CvV ((cG (Cv.seg l f t)).getD n bn):=vR _ (b8 g1)
   refine ao<|aa<|aJ<|aa<|ab<|al 1<|ah (br eu rfl rfl (by omega) rfl) ?_
   refine ah (aA (us:=aB ((cG (Cv.seg l f t)).getD n bn)) bd rfl rfl ((kv (e:=bn) (O:=(xo (cG (Cv.seg l f t)) n)) ak (by rw[mY h4];exact g1)).trans (congrArg aB (DB g1))) (ak _) rfl) ?_
   refine aC (ai eo rfl) rfl<|al 1<|bL (aZ bd rfl rfl rfl (ak _) rfl rfl) ?_
   refine ar<|aa<|ab<|al 1<|ah (aA (us:=au (((cG (Cv.seg l f t)).getD n bn)).p) bo rfl rfl (dW _) rfl rfl) ?_
   refine al 1<|ah (aA (us:=au (((cG (Cv.seg l f t)).getD n bn)).q) bo rfl rfl (dY _) rfl rfl) ?_
   refine ah (am rfl (yS (cn hX.g) (cH hX.g)))<|ag ?_
   refine aw rfl (fun hc2=>?_) (fun hc2=>?_)
   ·have m2:=xF hc2
    refine ab<|al 2<|ah (aA (us:=aB (((cG (Cv.seg l f t)).getD n bn))) bd rfl rfl (by rw[List.drop_zero];exact List.take_of_length_le (Nat.le_of_eq (ak _))) (ak _) rfl) ?_
    refine ah (am rfl ((show Ok _ _ [.a (aB ((cG (Cv.seg l f t)).getD n bn))] [.a (aB ((cG (Cv.seg l f t)).getD n bn).rev)] from II hX)))<|ah (br eu rfl rfl (by omega) rfl) ?_
    refine bL (bm (us:=aI aB ((xo (cG (Cv.seg l f t)) n).set n ((cG (Cv.seg l f t)).getD n bn).rev)++rs) bd rfl rfl rfl (ak _) (by rw[List.length_append,aG ak,mY h4];omega) (qw ak (by rw[mY h4];exact g1) _) rfl) ?_
    refine ar<|ab<|ah (aK (r:=((n+1:Nat):Int)) rfl rfl ((aQ (by omega) (by omega)).trans (congrArg some (by omega))) rfl) ?_
    refine ag ?_
    exact⟨⟨n+1,g1⟩,aM ⟨rfl,rfl,rfl,rfl,trivial⟩ ⟨congrArg (fun q=>some (48,aI aB q++rs)) (by rw[←Ae g1,m2]),trivial⟩ rfl,by show(cG (Cv.seg l f t)).length-(n+1)<(cG (Cv.seg l f t)).length-n;omega⟩
   ·have m2:=x8 hc2
    refine ao<|ab<|ah (aK (r:=((n+1:Nat):Int)) rfl rfl ((aQ (by omega) (by omega)).trans (congrArg some (by omega))) rfl) ?_
    refine ag ?_
    exact⟨⟨n+1,g1⟩,aM ⟨rfl,rfl,rfl,rfl,trivial⟩ ⟨congrArg (fun q=>some (48,aI aB q++rs)) (CR g1 m2),trivial⟩ rfl,by show(cG (Cv.seg l f t)).length-(n+1)<(cG (Cv.seg l f t)).length-n;omega⟩
  ·have hp:n=(cG (Cv.seg l f t)).length:=by have:=of_decide_eq_false hc1;omega
   have h3m:rs.length=(c9-((cG (Cv.seg l f t)).map Cv.fwd).length)*66:=by rw[lM];exact h3
   refine Dw.weak (σ':=⟨57,[(3,.o 12 (((cG (Cv.seg l f t)).map Cv.fwd).length) c9)],[(12,48,aI aB ((cG (Cv.seg l f t)).map Cv.fwd)++rs)]⟩) (aM ⟨congrArg (fun q=>some (DV.o 12 q c9)) lM.symm,trivial⟩ ⟨congrArg (fun q=>some (48,aI aB q++rs)) (by rw[hp,F7]),trivial⟩ rfl) ?_
   refine bj<|aa<|ab<|al 1<|pp (j5 rfl rfl rfl rfl rfl (O7 (L:=((cG (Cv.seg l f t)).map Cv.fwd)) (by omega) (by omega) vM) rfl) ?_
   refine ar<|aa<|ab<|ag ?_
   refine cV (t:=2) (m:=66) (us:=aI aB (oG (Cv.seg l f t))) rfl rfl (iY (n:=((cG (Cv.seg l f t)).map Cv.fwd).length) (by first|exact(aG ak _).trans (congrArg (· *66) (dr _))|rfl) (by assumption) (by omega)) (by omega) (by assumption) (fX (by first|exact(aG ak _).trans (congrArg (· *66) (dr _))|rfl)) ?_
   refine an ?_
   rw[show(oG (Cv.seg l f t)).length=((cG (Cv.seg l f t)).map Cv.fwd).length from dr _]
   exact aq (aE ae)
theorem Ur {k:Ci}{w:Bool}{f t:Pt}(vc:CvV (Cv.arc k w f t)):Ok Tryz.prog 37 [.a (([.b true]++cS++ca k++[.b w]++au f++au t))] [.c (.s (((oG (Cv.arc k w f t))).length) (aI aB ((oG (Cv.arc k w f t)))))]:=by
 have lR:(cG (Cv.arc k w f t)).length≤3:=CQ
 have pR:0<(cG (Cv.arc k w f t)).length:=BH
 have vR: ∀d∈(cG (Cv.arc k w f t)),CvV d:=D3 vc
 have vM: ∀d∈((cG (Cv.arc k w f t)).map Cv.fwd),CvV d:=fun d hd=>by
  obtain⟨x,hx,rfl⟩:=List.mem_map.1 hd
  exact tS (vR x hx)
 have lM:((cG (Cv.arc k w f t)).map Cv.fwd).length=(cG (Cv.arc k w f t)).length:=List.length_map ..
 have hk:=vc.g.1
 have hf:=vc.g.2.1
 have ht:=vc.g.2.2
 have gL:=qY hk vc.pos
 have gR:=q6 hk vc.pos
 have z1:Jo.length=(2-1)*20:=rfl
 have z2:(Jo++Jo).length=(2-0)*20:=rfl
 have hm2:2≤maxLen:=by decide
 refine Ok.fn Tryz.func37 57 [.tmp 2] rfl<|aa<|ab<|ag<|aa<|ab<|al 1<|jM (gg (us:=([.b true]++cS++ca k++[.b w]++au f++au t)) gA rfl rfl (by decide) (by decide) rfl) rfl ?_
 refine ag ?_
 refine gE (ι:={x9:Nat×List CellD //(cG (Cv.arc k w f t)).length≤x9.1∧x9.1≤maxLen∧x9.2.length=(x9.1-(cG (Cv.arc k w f t)).length)*66}) (fun i=>⟨57,[(3,.o 29 ((cG (Cv.arc k w f t)).length) i.1.1)],[(29,48,aI aB (cG (Cv.arc k w f t))++i.1.2)]⟩) ?_ ?_
 ·refine aa<|ab<|ag<|bg rfl<|aa ?_
  rcases Bool.eq_false_or_eq_true ((Cv.arc k w f t).inner (jt k)) with ea|ea
  ·--region 3
   refine ab<|al 1<|ah (cD (ca k) mJ rfl (by kernel_rfl))<|ah (am rfl (Pm hk vc.pos))<|al 3<|aC (ai fO rfl) rfl<|aC (ai fO rfl) rfl<|ag<|aa ?_
   rcases Bool.eq_false_or_eq_true ((Cv.arc k w f t).inner (i9 k)) with eb|eb
   ·--region 4
    refine jD (t:=1) (k:=1) rfl rfl<|ab<|al 2<|jM (gg (us:=au (jt k)++au (i9 k)) ft rfl rfl (by decide) (by decide) rfl) rfl ?_
    refine ah (kU (us:=[.p (([.b true]++cS++ca k++[.b w]++au f++au t))]) rfl rfl) ?_
    refine sv rfl rfl rfl rfl rfl (SX (c:=(Cv.arc k w f t)) vc rfl gL gR ea eb) rfl<|ag<|aa<|cV (t:=6) (m:=20) (us:=au (jt k)++au (i9 k)) rfl rfl rfl (by decide) (by decide) rfl<|ab<|ah (iN (us:=([.b true]++cS++ca k++[.b w]++au f++au t)) bd rfl rfl rfl rfl) ?_
    refine al 1 ?_
    refine pV rfl rfl (MH (c:=(Cv.arc k w f t)) (L:=[jt k,i9 k]) vc rfl (fun p h=>(en vc p ((m7 ea eb).symm▸h)).1) (Nat.le_of_ble_eq_true rfl) ((m7 ea eb)▸pG vc) (fun p h=>nH p ((m7 ea eb).symm▸h))) rfl rfl (fun cg1 rg1 hga1 hgb1 hgc1=>?_)
    refine al 1<|ah (rR rfl rfl) ?_
    refine ah (r8 rfl rfl rfl) ?_
    refine ag<|aa<|ab<|ag<|bg rfl<|ab<|ag ?_
    exact⟨⟨⟨cg1,rg1⟩,by show(cG (Cv.arc k w f t)).length≤cg1;rw[(eB (c:=(Cv.arc k w f t)) rfl).trans (congrArg (fun q=>jU (Cv.arc k w f t) (bH dPt (ci (Cv.arc k w f t)) q)) (m7 ea eb))];exact hga1,hgb1,by show rg1.length=(cg1-(cG (Cv.arc k w f t)).length)*66;rw[(eB (c:=(Cv.arc k w f t)) rfl).trans (congrArg (fun q=>jU (Cv.arc k w f t) (bH dPt (ci (Cv.arc k w f t)) q)) (m7 ea eb))];exact hgc1⟩,aM ⟨congrArg (fun q=>some (DV.o 29 (List.length q) cg1)) ((eB (c:=(Cv.arc k w f t)) rfl).trans (congrArg (fun q=>jU (Cv.arc k w f t) (bH dPt (ci (Cv.arc k w f t)) q)) (m7 ea eb))).symm,trivial⟩ ⟨congrArg (fun q=>some (48,aI aB q++rg1)) ((eB (c:=(Cv.arc k w f t)) rfl).trans (congrArg (fun q=>jU (Cv.arc k w f t) (bH dPt (ci (Cv.arc k w f t)) q)) (m7 ea eb))).symm,trivial⟩ rfl⟩
   ·--region 4
    refine jD (t:=1) (k:=1) rfl rfl<|ab<|al 2<|jM (gg (us:=au (jt k)++au (i9 k)) ft rfl rfl (by decide) (by decide) rfl) rfl ?_
    refine ah (kU (us:=[.p (([.b true]++cS++ca k++[.b w]++au f++au t))]) rfl rfl) ?_
    refine sv rfl rfl rfl rfl rfl (Sr (c:=(Cv.arc k w f t)) vc rfl gL gR ea eb) rfl<|ag<|aa ?_
    refine cV (t:=6) (m:=20) (us:=au (jt k)) rfl rfl (iY (n:=1) (by first|exact(aG ak _).trans (congrArg (· *66) (dr _))|rfl) (by assumption) (by omega)) (by omega) (by assumption) (fX (by first|exact(aG ak _).trans (congrArg (· *66) (dr _))|rfl)) ?_
    refine ab<|ah (iN (us:=([.b true]++cS++ca k++[.b w]++au f++au t)) bd rfl rfl rfl rfl) ?_
    refine al 1 ?_
    refine pV rfl rfl (MH (c:=(Cv.arc k w f t)) (L:=[jt k]) vc rfl (fun p h=>(en vc p ((nk ea eb).symm▸h)).1) (Nat.le_of_ble_eq_true rfl) ((nk ea eb)▸pG vc) (fun p h=>nH p ((nk ea eb).symm▸h))) rfl rfl (fun cg2 rg2 hga2 hgb2 hgc2=>?_)
    refine al 1<|ah (rR rfl rfl) ?_
    refine ah (r8 rfl rfl rfl) ?_
    refine ag<|aa<|ab<|ag<|bg rfl<|ab<|ag ?_
    exact⟨⟨⟨cg2,rg2⟩,by show(cG (Cv.arc k w f t)).length≤cg2;rw[(eB (c:=(Cv.arc k w f t)) rfl).trans (congrArg (fun q=>jU (Cv.arc k w f t) (bH dPt (ci (Cv.arc k w f t)) q)) (nk ea eb))];exact hga2,hgb2,by show rg2.length=(cg2-(cG (Cv.arc k w f t)).length)*66;rw[(eB (c:=(Cv.arc k w f t)) rfl).trans (congrArg (fun q=>jU (Cv.arc k w f t) (bH dPt (ci (Cv.arc k w f t)) q)) (nk ea eb))];exact hgc2⟩,aM ⟨congrArg (fun q=>some (DV.o 29 (List.length q) cg2)) ((eB (c:=(Cv.arc k w f t)) rfl).trans (congrArg (fun q=>jU (Cv.arc k w f t) (bH dPt (ci (Cv.arc k w f t)) q)) (nk ea eb))).symm,trivial⟩ ⟨congrArg (fun q=>some (48,aI aB q++rg2)) ((eB (c:=(Cv.arc k w f t)) rfl).trans (congrArg (fun q=>jU (Cv.arc k w f t) (bH dPt (ci (Cv.arc k w f t)) q)) (nk ea eb))).symm,trivial⟩ rfl⟩
  ·--region 3
   refine ab<|al 1<|ah (cD (ca k) mJ rfl (by kernel_rfl))<|ah (am rfl (Pm hk vc.pos))<|al 3<|aC (ai fO rfl) rfl<|aC (ai fO rfl) rfl<|ag<|aa ?_
   rcases Bool.eq_false_or_eq_true ((Cv.arc k w f t).inner (i9 k)) with eb|eb
   ·--region 4
    refine jD (t:=1) (k:=1) rfl rfl<|ab<|al 2<|jM (gg (us:=au (jt k)++au (i9 k)) ft rfl rfl (by decide) (by decide) rfl) rfl ?_
    refine ah (kU (us:=[.p (([.b true]++cS++ca k++[.b w]++au f++au t))]) rfl rfl) ?_
    refine sv rfl rfl rfl rfl rfl (S9 (c:=(Cv.arc k w f t)) vc rfl gL gR ea eb) rfl<|ag<|aa ?_
    refine cV (t:=6) (m:=20) (us:=au (i9 k)) rfl rfl (iY (n:=1) (by first|exact(aG ak _).trans (congrArg (· *66) (dr _))|rfl) (by assumption) (by omega)) (by omega) (by assumption) (fX (by first|exact(aG ak _).trans (congrArg (· *66) (dr _))|rfl)) ?_
    refine ab<|ah (iN (us:=([.b true]++cS++ca k++[.b w]++au f++au t)) bd rfl rfl rfl rfl) ?_
    refine al 1 ?_
    refine pV rfl rfl (MH (c:=(Cv.arc k w f t)) (L:=[i9 k]) vc rfl (fun p h=>(en vc p ((mZ ea eb).symm▸h)).1) (Nat.le_of_ble_eq_true rfl) ((mZ ea eb)▸pG vc) (fun p h=>nH p ((mZ ea eb).symm▸h))) rfl rfl (fun cg3 rg3 hga3 hgb3 hgc3=>?_)
    refine al 1<|ah (rR rfl rfl) ?_
    refine ah (r8 rfl rfl rfl) ?_
    refine ag<|aa<|ab<|ag<|bg rfl<|ab<|ag ?_
    exact⟨⟨⟨cg3,rg3⟩,by show(cG (Cv.arc k w f t)).length≤cg3;rw[(eB (c:=(Cv.arc k w f t)) rfl).trans (congrArg (fun q=>jU (Cv.arc k w f t) (bH dPt (ci (Cv.arc k w f t)) q)) (mZ ea eb))];exact hga3,hgb3,by show rg3.length=(cg3-(cG (Cv.arc k w f t)).length)*66;rw[(eB (c:=(Cv.arc k w f t)) rfl).trans (congrArg (fun q=>jU (Cv.arc k w f t) (bH dPt (ci (Cv.arc k w f t)) q)) (mZ ea eb))];exact hgc3⟩,aM ⟨congrArg (fun q=>some (DV.o 29 (List.length q) cg3)) ((eB (c:=(Cv.arc k w f t)) rfl).trans (congrArg (fun q=>jU (Cv.arc k w f t) (bH dPt (ci (Cv.arc k w f t)) q)) (mZ ea eb))).symm,trivial⟩ ⟨congrArg (fun q=>some (48,aI aB q++rg3)) ((eB (c:=(Cv.arc k w f t)) rfl).trans (congrArg (fun q=>jU (Cv.arc k w f t) (bH dPt (ci (Cv.arc k w f t)) q)) (mZ ea eb))).symm,trivial⟩ rfl⟩
   ·--region 4
    refine jD (t:=1) (k:=1) rfl rfl<|ab<|al 2<|jM (gg (us:=au (jt k)++au (i9 k)) ft rfl rfl (by decide) (by decide) rfl) rfl ?_
    refine ah (kU (us:=[.p (([.b true]++cS++ca k++[.b w]++au f++au t))]) rfl rfl) ?_
    refine sv rfl rfl rfl rfl rfl (SJ (c:=(Cv.arc k w f t)) vc rfl gL gR ea eb) rfl<|ag<|aa ?_
    refine cV (t:=6) (m:=20) (us:=([]:List CellD)) rfl rfl (iY (n:=0) (by first|exact(aG ak _).trans (congrArg (· *66) (dr _))|rfl) (by assumption) (by omega)) (by omega) (by assumption) (fX (by first|exact(aG ak _).trans (congrArg (· *66) (dr _))|rfl)) ?_
    refine ab<|ah (iN (us:=([.b true]++cS++ca k++[.b w]++au f++au t)) bd rfl rfl rfl rfl) ?_
    refine al 1 ?_
    refine pV rfl rfl (MH (c:=(Cv.arc k w f t)) (L:=[]) vc rfl (fun p h=>(en vc p ((nc ea eb).symm▸h)).1) (Nat.le_of_ble_eq_true rfl) ((nc ea eb)▸pG vc) (fun p h=>nH p ((nc ea eb).symm▸h))) rfl rfl (fun cg4 rg4 hga4 hgb4 hgc4=>?_)
    refine al 1<|ah (rR rfl rfl) ?_
    refine ah (r8 rfl rfl rfl) ?_
    refine ag<|aa<|ab<|ag<|bg rfl<|ab<|ag ?_
    exact⟨⟨⟨cg4,rg4⟩,by show(cG (Cv.arc k w f t)).length≤cg4;rw[(eB (c:=(Cv.arc k w f t)) rfl).trans (congrArg (fun q=>jU (Cv.arc k w f t) (bH dPt (ci (Cv.arc k w f t)) q)) (nc ea eb))];exact hga4,hgb4,by show rg4.length=(cg4-(cG (Cv.arc k w f t)).length)*66;rw[(eB (c:=(Cv.arc k w f t)) rfl).trans (congrArg (fun q=>jU (Cv.arc k w f t) (bH dPt (ci (Cv.arc k w f t)) q)) (nc ea eb))];exact hgc4⟩,aM ⟨congrArg (fun q=>some (DV.o 29 (List.length q) cg4)) ((eB (c:=(Cv.arc k w f t)) rfl).trans (congrArg (fun q=>jU (Cv.arc k w f t) (bH dPt (ci (Cv.arc k w f t)) q)) (nc ea eb))).symm,trivial⟩ ⟨congrArg (fun q=>some (48,aI aB q++rg4)) ((eB (c:=(Cv.arc k w f t)) rfl).trans (congrArg (fun q=>jU (Cv.arc k w f t) (bH dPt (ci (Cv.arc k w f t)) q)) (nc ea eb))).symm,trivial⟩ rfl⟩
 ·rintro⟨⟨c9,rs⟩,h1,h2,h3⟩
  dsimp only at h1 h2 h3
  show Dw _ _ ⟨57,[(3,.o 29 ((cG (Cv.arc k w f t)).length) c9)],[(29,48,aI aB (cG (Cv.arc k w f t))++rs)]⟩ _
  refine aa<|aa<|ab<|al 1<|ah (eZ eu rfl rfl) ?_
  refine ag<|aJ<|bD (ι:={n:Nat // n≤(cG (Cv.arc k w f t)).length}) (fun i=>⟨57,[(3,.o 29 ((cG (Cv.arc k w f t)).length) c9),(35,.o 29 ((cG (Cv.arc k w f t)).length) c9),(36,.v (.c (.i .i64 (((cG (Cv.arc k w f t)).length:Int))))),(37,.v (.c (.i .i64 (i.1:Int))))],[(29,48,aI aB (xo (cG (Cv.arc k w f t)) i.1)++rs)]⟩) (fun i=>(cG (Cv.arc k w f t)).length-i.1) ⟨0,Nat.zero_le _⟩ (aM ⟨rfl,rfl,rfl,rfl,trivial⟩ ⟨congrArg (fun q=>some (48,aI aB q++rs)) (O3.symm),trivial⟩ rfl) ?_
  rintro⟨n,h4⟩
  replace h4:n≤(cG (Cv.arc k w f t)).length:=h4
  show Dw _ _ ⟨57,[(3,.o 29 ((cG (Cv.arc k w f t)).length) c9),(35,.o 29 ((cG (Cv.arc k w f t)).length) c9),(36,.v (.c (.i .i64 (((cG (Cv.arc k w f t)).length:Int))))),(37,.v (.c (.i .i64 (n:Int))))],[(29,48,aI aB (xo (cG (Cv.arc k w f t)) n)++rs)]⟩ _
  refine aa<|ab<|ag<|aa ?_
  refine aw rfl (fun hc5=>?_) (fun hc5=>?_)
  ·have g1:n<(cG (Cv.arc k w f t)).length:=by have:=of_decide_eq_true hc5;omega
   have hX:CvV ((cG (Cv.arc k w f t)).getD n bn):=vR _ (b8 g1)
   refine ao<|aa<|aJ<|aa<|ab<|al 1<|ah (br eu rfl rfl (by omega) rfl) ?_
   refine ah (aA (us:=aB ((cG (Cv.arc k w f t)).getD n bn)) bd rfl rfl ((kv (e:=bn) (O:=(xo (cG (Cv.arc k w f t)) n)) ak (by rw[mY h4];exact g1)).trans (congrArg aB (DB g1))) (ak _) rfl) ?_
   refine aC (ai eo rfl) rfl<|al 1<|bL (aZ bd rfl rfl rfl (ak _) rfl rfl) ?_
   refine ar<|aa<|ab<|al 1<|ah (aA (us:=au (((cG (Cv.arc k w f t)).getD n bn)).p) bo rfl rfl (dW _) rfl rfl) ?_
   refine al 1<|ah (aA (us:=au (((cG (Cv.arc k w f t)).getD n bn)).q) bo rfl rfl (dY _) rfl rfl) ?_
   refine ah (am rfl (yS (cn hX.g) (cH hX.g)))<|ag ?_
   refine aw rfl (fun hc6=>?_) (fun hc6=>?_)
   ·have m2:=xF hc6
    refine ab<|al 2<|ah (aA (us:=aB (((cG (Cv.arc k w f t)).getD n bn))) bd rfl rfl (by rw[List.drop_zero];exact List.take_of_length_le (Nat.le_of_eq (ak _))) (ak _) rfl) ?_
    refine ah (am rfl ((show Ok _ _ [.a (aB ((cG (Cv.arc k w f t)).getD n bn))] [.a (aB ((cG (Cv.arc k w f t)).getD n bn).rev)] from II hX)))<|ah (br eu rfl rfl (by omega) rfl) ?_
    refine bL (bm (us:=aI aB ((xo (cG (Cv.arc k w f t)) n).set n ((cG (Cv.arc k w f t)).getD n bn).rev)++rs) bd rfl rfl rfl (ak _) (by rw[List.length_append,aG ak,mY h4];omega) (qw ak (by rw[mY h4];exact g1) _) rfl) ?_
    refine ar<|ab<|ah (aK (r:=((n+1:Nat):Int)) rfl rfl ((aQ (by omega) (by omega)).trans (congrArg some (by omega))) rfl) ?_
    refine ag ?_
    exact⟨⟨n+1,g1⟩,aM ⟨rfl,rfl,rfl,rfl,trivial⟩ ⟨congrArg (fun q=>some (48,aI aB q++rs)) (by rw[←Ae g1,m2]),trivial⟩ rfl,by show(cG (Cv.arc k w f t)).length-(n+1)<(cG (Cv.arc k w f t)).length-n;omega⟩
   ·have m2:=x8 hc6
    refine ao<|ab<|ah (aK (r:=((n+1:Nat):Int)) rfl rfl ((aQ (by omega) (by omega)).trans (congrArg some (by omega))) rfl) ?_
    refine ag ?_
    exact⟨⟨n+1,g1⟩,aM ⟨rfl,rfl,rfl,rfl,trivial⟩ ⟨congrArg (fun q=>some (48,aI aB q++rs)) (CR g1 m2),trivial⟩ rfl,by show(cG (Cv.arc k w f t)).length-(n+1)<(cG (Cv.arc k w f t)).length-n;omega⟩
  ·have hp:n=(cG (Cv.arc k w f t)).length:=by have:=of_decide_eq_false hc5;omega
   have h3m:rs.length=(c9-((cG (Cv.arc k w f t)).map Cv.fwd).length)*66:=by rw[lM];exact h3
   refine Dw.weak (σ':=⟨57,[(3,.o 29 (((cG (Cv.arc k w f t)).map Cv.fwd).length) c9)],[(29,48,aI aB ((cG (Cv.arc k w f t)).map Cv.fwd)++rs)]⟩) (aM ⟨congrArg (fun q=>some (DV.o 29 q c9)) lM.symm,trivial⟩ ⟨congrArg (fun q=>some (48,aI aB q++rs)) (by rw[hp,F7]),trivial⟩ rfl) ?_
   refine bj<|aa<|ab<|al 1<|pp (j5 rfl rfl rfl rfl rfl (O7 (L:=((cG (Cv.arc k w f t)).map Cv.fwd)) (by omega) (by omega) vM) rfl) ?_
   refine ar<|aa<|ab<|ag ?_
   refine cV (t:=2) (m:=66) (us:=aI aB (oG (Cv.arc k w f t))) rfl rfl (iY (n:=((cG (Cv.arc k w f t)).map Cv.fwd).length) (by first|exact(aG ak _).trans (congrArg (· *66) (dr _))|rfl) (by assumption) (by omega)) (by omega) (by assumption) (fX (by first|exact(aG ak _).trans (congrArg (· *66) (dr _))|rfl)) ?_
   refine an ?_
   rw[show(oG (Cv.arc k w f t)).length=((cG (Cv.arc k w f t)).map Cv.fwd).length from dr _]
   exact aq (aE ae)
theorem Vd {c:Cv}(vc:CvV c):Ok Tryz.prog 37 [.a (aB c)] [.c (.s (((oG c)).length) (aI aB ((oG c))))]:=by
 cases c with
 |seg l f t=>exact UJ vc
 |arc k w f t=>exact Ur vc
def tc:Cv:=Dm ((-5:Int):Rat) ((0:Int):Rat) ((0:Int):Rat) ((-5:Int):Rat) ((5:Int):Rat) ((0:Int):Rat)
def t5:Cv:=Dm ((3:Int):Rat) ((4:Int):Rat) ((-5:Int):Rat) ((0:Int):Rat) ((3:Int):Rat) ((-4:Int):Rat)
def xi:Cv:=LN ((-5:Int):Rat) ((0:Int):Rat) ((0:Int):Rat) ((0:Int):Rat)
def DF:Cv:=(oG t5).getD 0 bn
def Eg:Cv:=(oG t5).getD 1 bn
theorem xd {n:Int}(h: -100≤n) (h':n≤100):Rz 1 ((n:Int):Rat):=Rz.int (lm (by omega) (by omega)) (by decide)
theorem DA:CvV tc:=by
 have e:pA 1 0 (-5) 0 0 (-5) 5 0=[tc]:=by
  show(if lj (qD (-5) (uD 0)) (qD 0 (uD 0)) (qD 0 (uD 0)) (qD (-5) (uD 0)) (qD 5 (uD 0)) (qD 0 (uD 0))=0 then[] else[Dm (qD (-5) (uD 0)) (qD 0 (uD 0)) (qD 0 (uD 0)) (qD (-5) (uD 0)) (qD 5 (uD 0)) (qD 0 (uD 0))])=_
  rw[show qD (-5) (uD 0)=((-5:Int):Rat) from by decide+kernel,show qD 0 (uD 0)=((0:Int):Rat) from by decide+kernel,show qD 5 (uD 0)=((5:Int):Rat) from by decide+kernel,if_neg (by decide+kernel)];rfl
 exact FQ (K:=1) (U:=0) (A:= -5) (B:=0) (C:=0) (D:= -5) (E:=5) (F:=0) (by decide) (by decide) (by decide) (by decide) (by decide) (by decide) (by decide) tc (by rw[e];exact List.mem_singleton.2 rfl)
theorem Es:CvV t5:=by
 have e:pA 1 0 3 4 (-5) 0 3 (-4)=[t5]:=by
  show(if lj (qD 3 (uD 0)) (qD 4 (uD 0)) (qD (-5) (uD 0)) (qD 0 (uD 0)) (qD 3 (uD 0)) (qD (-4) (uD 0))=0 then[] else[Dm (qD 3 (uD 0)) (qD 4 (uD 0)) (qD (-5) (uD 0)) (qD 0 (uD 0)) (qD 3 (uD 0)) (qD (-4) (uD 0))])=_
  rw[show qD 3 (uD 0)=((3:Int):Rat) from by decide+kernel,show qD 4 (uD 0)=((4:Int):Rat) from by decide+kernel,show qD (-5) (uD 0)=((-5:Int):Rat) from by decide+kernel,show qD 0 (uD 0)=((0:Int):Rat) from by decide+kernel,show qD (-4) (uD 0)=((-4:Int):Rat) from by decide+kernel,if_neg (by decide+kernel)];rfl
 exact FQ (K:=1) (U:=0) (A:=3) (B:=4) (C:= -5) (D:=0) (E:=3) (F:= -4) (by decide) (by decide) (by decide) (by decide) (by decide) (by decide) (by decide) t5 (by rw[e];exact List.mem_singleton.2 rfl)
theorem Lo:CvV xi:=by
 have e:pA 0 0 (-5) 0 0 0 0 0=[xi]:=by
  show(if qD 0 (uD 0)-qD 0 (uD 0)=0∧qD 0 (uD 0)-qD (-5) (uD 0)=0 then[] else[LN (qD (-5) (uD 0)) (qD 0 (uD 0)) (qD 0 (uD 0)) (qD 0 (uD 0))])=_
  rw[show qD (-5) (uD 0)=((-5:Int):Rat) from by decide+kernel,show qD 0 (uD 0)=((0:Int):Rat) from by decide+kernel,if_neg (by decide+kernel)];rfl
 exact FQ (K:=0) (U:=0) (A:= -5) (B:=0) (C:=0) (D:=0) (E:=0) (F:=0) (by decide) (by decide) (by decide) (by decide) (by decide) (by decide) (by decide) xi (by rw[e];exact List.mem_singleton.2 rfl)
theorem Np:rV tc ((3:Int):Rat)=true:=by decide+kernel
theorem PN:C0 tc ((3:Int):Rat)=cR ((-4:Int):Rat)++cR 0++cR 0:=by
 show C0 (.arc _ _ _ _) _=_
 rw[Fr (by decide+kernel)]
 exact congrArg (fun q=>cR q++cR 0++cR 0) (by decide+kernel)
theorem SM:fB tc (rP ((0:Int):Rat) ((0:Int):Rat))=1∧fD tc (rP ((0:Int):Rat) ((0:Int):Rat))=0:=by decide+kernel
theorem UG:fB tc (rP ((0:Int):Rat) ((-6:Int):Rat))= -1∧fD tc (rP ((0:Int):Rat) ((-6:Int):Rat))=0:=by decide+kernel
theorem iF:(oG t5).length=2:=by decide+kernel
theorem KH:DF.cw=false∧Eg.cw=true:=by decide+kernel
theorem Uv:jl Eg xi=1∧sT Eg xi=0:=by decide+kernel
theorem Sx:jl DF xi= -1∧sT DF xi=0:=by decide+kernel
theorem P8:CvV DF:=Iz Es _ (b8 (by rw[iF];decide))
theorem Qz:CvV Eg:=Iz Es _ (b8 (by rw[iF];decide))
theorem VG {p:Pt}(hp:GP p) {x:Rat}(hx:Rz 400 x):Ok Tryz.prog 76 [.a ((cR p.a1++cR p.b1++cR (zc p.b1 p.c))),.a ((cR x++cR 0++cR 0))] [.c (.i .i64 (lH p x))]:=
 i5 (km (hp.a1.mono (by decide)) (hp.b1.mono (by decide)) (Rz.zc (hp.c.mono (by decide)) (by decide)) (hx.mono (by decide)) (Rz.zero (by decide)) (Rz.zero (by decide)) ((hp.a1.sub hx).mono (by decide)) (fW (b9 hp)) Rat.le_refl) (uU (fW (b9 hp)))
theorem Vq {p:Pt}(hp:GP p) {x:Rat}(hx:Rz 400 x):Ok Tryz.prog 76 [.a ((cR x++cR 0++cR 0)),.a ((cR p.a1++cR p.b1++cR (zc p.b1 p.c)))] [.c (.i .i64 (-lH p x))]:=
 i5 (km (hx.mono (by decide)) (Rz.zero (by decide)) (Rz.zero (by decide)) (hp.a1.mono (by decide)) (hp.b1.mono (by decide)) (Rz.zc (hp.c.mono (by decide)) (by decide)) ((hx.sub hp.a1).mono (by decide)) Rat.le_refl (fW (b9 hp))) (by
  rw[jH Rat.le_refl (fW (b9 hp)),kQ (b9 hp),←dz]
  exact congrArg bR (Re.ext fun n=>by unfold pX qu dX;simp only[bt,bp,bK,cJ,bT];grind))
theorem H7 {c:Cv}(hc:c.good) {p:Pt}(hp:GP p):Ok Tryz.prog 52 [.a (aB c),.a ((cR p.a1++cR p.b1++cR (zc p.b1 p.c)))] [.c (.b (c.over p))]:=by
 refine Ok.fn Tryz.func52 19 [.tmp 4] rfl<|aa<|ab<|ag<|aa<|aR 15 rfl rfl<|ap 1<|aj (aA (us:=au c.p) bo rfl rfl (dW _) rfl rfl) ?_
 refine aj (am rfl (jw))<|ap 1<|aj (am rfl (Vg (cn hc) hp))<|ap 1 ?_
 refine fb (bN rfl) (fun c1 hb1=>?_)
 cases c1
 ·refine bk<|az<|ar<|an ?_
  rw[show c.over p=false from by unfold Cv.over;rw[hb1];rfl]
  exact aq (aE ae)
 ·refine ap 2<|aj (aA (us:=au c.q) bo rfl rfl (dY _) rfl rfl) ?_
  refine aj (am rfl (jw))<|aj (am rfl (Vg hp (cH hc)))<|bk<|az<|ar<|an ?_
  rw[show c.over p=decide (cx p c.q≤0) from by unfold Cv.over;rw[hb1];rfl]
  exact aq (aE ae)
theorem rW {c:Cv}(hc:c.good) {x:Rat}(hx:Rz 400 x):Ok Tryz.prog 52 [.a (aB c),.a ((cR x++cR 0++cR 0))] [.c (.b (iV c x))]:=by
 refine Ok.fn Tryz.func52 19 [.tmp 4] rfl<|aa<|ab<|ag<|aa<|aR 15 rfl rfl<|ap 1<|aj (aA (us:=au c.p) bo rfl rfl (dW _) rfl rfl) ?_
 refine aj (am rfl (jw))<|ap 1<|aj (am rfl (VG (cn hc) hx))<|ap 1 ?_
 refine fb (bN rfl) (fun c1 hb1=>?_)
 cases c1
 ·refine bk<|az<|ar<|an ?_
  rw[show iV c x=false from by unfold iV;rw[hb1];rfl]
  exact aq (aE ae)
 ·refine ap 2<|aj (aA (us:=au c.q) bo rfl rfl (dY _) rfl rfl) ?_
  refine aj (am rfl (jw))<|aj (am rfl (Vq (cH hc) hx))<|bk<|az<|ar<|an ?_
  rw[show iV c x=decide (-lH c.q x≤0) from by unfold iV;rw[hb1];rfl]
  exact aq (aE ae)
theorem Ri {l:Ln}{f t:Pt}(vc:CvV (Cv.seg l f t)) {p:Pt}(hp:GP p):Ok Tryz.prog 22 [.a (([.b false]++dV l++cS++[.b false]++au f++au t)),.a (au p)] [.c (.i .i64 (fB (Cv.seg l f t) p)),.c (.i .i64 (fD (Cv.seg l f t) p))]:=by
 have hl:=vc.g.1
 have hf:=vc.g.2.1
 have ht:=vc.g.2.2
 have hgd:((Cv.seg l f t)).good:=vc.g
 have b1:=EM l p
 have hpr:=ei b1 (dm l.b 0)
 refine Ok.fn Tryz.func22 71 [.tmp 4,.tmp 5] rfl<|aa<|ab<|ag<|aa<|aJ<|aa<|aR 6 rfl rfl<|ap 2<|aj (am rfl (jw))<|aj (am rfl (H7 (c:=(Cv.seg l f t)) vc.g hp))<|bk<|az<|ar ?_
 refine aw rfl (fun hc1=>?_) (fun hc1=>?_)
 ·refine aa<|ab<|ag<|an ?_
  have o1: ¬((Cv.seg l f t)).over p=true:=by simpa using hc1
  rw[show fB (Cv.seg l f t) p=0 from by unfold fB;rw[if_neg o1],show fD (Cv.seg l f t) p=1 from by unfold fD;rw[if_neg o1]]
  exact aq (aE (aE ae))
 ·refine aa<|ab<|al 1<|ah (am rfl (yT hl hf ht))<|ag ?_
  refine aw rfl (fun hc2=>?_) (fun hc2=>?_)
  ·refine aa<|aa<|aR 7 rfl rfl<|ap 1<|aj (am rfl (nw))<|ap 1<|aj (cD (au t) bo rfl (by kernel_rfl))<|aj (am rfl (nw))<|aj (am rfl (VV hp ht))<|bk<|az<|ar ?_
   refine aw rfl (fun hc3=>?_) (fun hc3=>?_)
   ·refine aa<|ab<|ag<|an ?_
    have o1:((Cv.seg l f t)).over p=true:=by simpa using hc1
    have v1:((Cv.seg l f t)).vert=true:=hc2
    rw[show fB (Cv.seg l f t) p=1 from by unfold fB mI;rw[if_pos o1,if_pos v1];exact if_pos (of_decide_eq_true hc3),show fD (Cv.seg l f t) p=0 from by unfold fD;rw[if_pos o1]]
    exact aq (aE (aE ae))
   ·refine ao<|aa<|aa<|aR 7 rfl rfl<|ap 1<|aj (am rfl (nw))<|ap 1<|aj (cD (au f) bo rfl (by kernel_rfl))<|aj (am rfl (nw))<|aj (am rfl (VV hp hf))<|bk<|az<|ar ?_
    refine aw rfl (fun hc4=>?_) (fun hc4=>?_)
    ·refine aa<|ab<|ag<|an ?_
     have o1:((Cv.seg l f t)).over p=true:=by simpa using hc1
     have v1:((Cv.seg l f t)).vert=true:=hc2
     rw[show fB (Cv.seg l f t) p= -1 from by unfold fB mI;rw[if_pos o1,if_pos v1];exact(if_neg (of_decide_eq_false hc3)).trans (if_pos (of_decide_eq_true hc4)),show fD (Cv.seg l f t) p=0 from by unfold fD;rw[if_pos o1]]
     exact aq (aE (aE ae))
    ·refine ao<|aa<|ab<|ag<|an ?_
     have o1:((Cv.seg l f t)).over p=true:=by simpa using hc1
     have v1:((Cv.seg l f t)).vert=true:=hc2
     rw[show fB (Cv.seg l f t) p=0 from by unfold fB mI;rw[if_pos o1,if_pos v1];exact(if_neg (of_decide_eq_false hc3)).trans (if_neg (of_decide_eq_false hc4)),show fD (Cv.seg l f t) p=0 from by unfold fD;rw[if_pos o1]]
     exact aq (aE (aE ae))
  ·refine aa<|ab<|ag<|bg rfl<|aa<|aR 11 rfl rfl<|ap 1<|aj (cD (dV l) sZ rfl (by kernel_rfl))<|ap 1<|aj (am rfl (PZ hl hp))<|ap 2<|aj (cD (cR l.b) aD rfl (by kernel_rfl))<|aj (am rfl (dh))<|aj (aK (r:=(d9 l p)*(aV l.b 0)) rfl rfl (dg (by omega) (by omega)) rfl) ?_
   refine bk<|az<|ar<|an ?_
   have o1:((Cv.seg l f t)).over p=true:=by simpa using hc1
   have v1: ¬((Cv.seg l f t)).vert=true:=by rw[hc2];decide
   rw[show fB (Cv.seg l f t) p=d9 l p*aV l.b 0 from by unfold fB mI;rw[if_pos o1,if_neg v1],show fD (Cv.seg l f t) p=0 from by unfold fD;rw[if_pos o1]]
   exact aq (aE (aE ae))
theorem PY {k:Ci}{w:Bool}{f t:Pt}(vc:CvV (Cv.arc k w f t)) {p:Pt}(hp:GP p):Ok Tryz.prog 22 [.a (([.b true]++cS++ca k++[.b w]++au f++au t)),.a (au p)] [.c (.i .i64 (fB (Cv.arc k w f t) p)),.c (.i .i64 (fD (Cv.arc k w f t) p))]:=by
 have hk:=vc.g.1
 have hf:=vc.g.2.1
 have ht:=vc.g.2.2
 have hgd:((Cv.arc k w f t)).good:=vc.g
 have b1:=zY k p
 refine Ok.fn Tryz.func22 71 [.tmp 4,.tmp 5] rfl<|aa<|ab<|ag<|aa<|aJ<|aa<|aR 6 rfl rfl<|ap 2<|aj (am rfl (jw))<|aj (am rfl (H7 (c:=(Cv.arc k w f t)) vc.g hp))<|bk<|az<|ar ?_
 refine aw rfl (fun hc1=>?_) (fun hc1=>?_)
 ·refine aa<|ab<|ag<|an ?_
  have o1: ¬((Cv.arc k w f t)).over p=true:=by simpa using hc1
  rw[show fB (Cv.arc k w f t) p=0 from by unfold fB;rw[if_neg o1],show fD (Cv.arc k w f t) p=1 from by unfold fD;rw[if_neg o1]]
  exact aq (aE (aE ae))
 ·refine aa<|ab<|al 1<|ah (am rfl ((show Ok _ _ _ [.c (.b false)] from uG hk hf ht)))<|ag<|aP rfl<|aa<|ab<|ag<|aP rfl<|ao<|aa<|aR 7 rfl rfl<|ap 1 ?_
  refine aj (am rfl (nw))<|ap 2<|aj (cD (cR k.y) aD rfl (by kernel_rfl))<|aj (am rfl (VX hp (hk.y.m_)))<|bk<|az<|ar<|aa<|aJ<|aa<|ab<|al 2 ?_
  refine cg (bN rfl) (fun c2 hb2=>?_)
  cases c2
  ·refine ag<|aP rfl<|aa<|ab<|ag ?_
   refine aw rfl (fun hc3=>?_) (fun hc3=>?_)
   ·exact absurd hb2 (by rw[hc3];decide)
   ·refine aa<|ab<|ag ?_
    refine aw rfl (fun hc4=>?_) (fun hc4=>?_)
    ·refine aa<|ab<|ag<|an ?_
     have o1:((Cv.arc k w f t)).over p=true:=by simpa using hc1
     rw[show fB (Cv.arc k w f t) p=1 from by unfold fB mI;rw[if_pos o1,if_neg (show ¬((Cv.arc k w f t)).vert=true from Bool.false_ne_true)];exact(if_neg (show ¬w=true from by rw[hb2];decide)).trans (if_pos (of_decide_eq_true hc4)),show fD (Cv.arc k w f t) p=0 from by unfold fD;rw[if_pos o1]]
     exact aq (aE (aE ae))
    ·refine ao<|aa<|ab<|al 1<|ah (cD (ca k) mJ rfl (by kernel_rfl))<|al 1<|ah (am rfl (I3 hk hp))<|ag<|an ?_
     have o1:((Cv.arc k w f t)).over p=true:=by simpa using hc1
     rw[show fB (Cv.arc k w f t) p=iu k p from by unfold fB mI;rw[if_pos o1,if_neg (show ¬((Cv.arc k w f t)).vert=true from Bool.false_ne_true)];exact(if_neg (show ¬w=true from by rw[hb2];decide)).trans (if_neg (of_decide_eq_false hc4)),show fD (Cv.arc k w f t) p=0 from by unfold fD;rw[if_pos o1]]
     exact aq (aE (aE ae))
  ·refine ag ?_
   refine aw rfl (fun hc5=>?_) (fun hc5=>?_)
   ·refine aa<|ab<|ag<|an ?_
    have o1:((Cv.arc k w f t)).over p=true:=by simpa using hc1
    rw[show fB (Cv.arc k w f t) p= -1 from by unfold fB mI;rw[if_pos o1,if_neg (show ¬((Cv.arc k w f t)).vert=true from Bool.false_ne_true)];exact(if_pos (show w=true from hb2)).trans (if_pos (of_decide_eq_true hc5)),show fD (Cv.arc k w f t) p=0 from by unfold fD;rw[if_pos o1]]
    exact aq (aE (aE ae))
   ·refine aa<|ab<|ag ?_
    refine aw rfl (fun hc6=>?_) (fun hc6=>?_)
    ·refine aa<|ab<|al 1<|ah (cD (ca k) mJ rfl (by kernel_rfl))<|al 1<|ah (am rfl (I3 hk hp))<|ah (dD (r:= -iu k p) rfl (mN b1) rfl) ?_
     refine ag<|an ?_
     have o1:((Cv.arc k w f t)).over p=true:=by simpa using hc1
     rw[show fB (Cv.arc k w f t) p= -iu k p from by unfold fB mI;rw[if_pos o1,if_neg (show ¬((Cv.arc k w f t)).vert=true from Bool.false_ne_true)];exact(if_pos (show w=true from hb2)).trans (if_neg (of_decide_eq_false hc5)),show fD (Cv.arc k w f t) p=0 from by unfold fD;rw[if_pos o1]]
     exact aq (aE (aE ae))
    ·exact absurd hb2 (by rw[hc6];decide)
theorem I1 {c:Cv}(vc:CvV c) {p:Pt}(hp:GP p):Ok Tryz.prog 22 [.a (aB c),.a (au p)] [.c (.i .i64 (fB c p)),.c (.i .i64 (fD c p))]:=by
 cases c with
 |seg l f t=>exact Ri vc hp
 |arc k w f t=>exact PY vc hp
theorem Ql {l:Ln}{f t:Pt}(vc:CvV (Cv.seg l f t)) {x:Rat}(hx:Rz 2 x) (hb:rV (Cv.seg l f t) x=false):Ok Tryz.prog 13 [.a (([.b false]++dV l++cS++[.b false]++au f++au t)),dR x] [.a (cS),.c (.i .i64 1)]:=by
 have hf:=vc.g.2.1
 have ht:=vc.g.2.2
 have hl:=vc.g.1
 have hB:=hb
 rw[jm] at hB
 refine Ok.fn Tryz.func13 64 [.cell 4 49,.tmp 5] rfl<|aa<|ab<|al 2<|aC (ai de rfl) rfl<|ag<|aa<|aa<|aR 9 rfl rfl<|ap 1<|aj (am rfl (yT hl hf ht)) ?_
 refine fb (bN rfl) (fun c1 hb1=>?_)
 cases c1
 ·refine ap 2<|aj (am rfl (dM))<|aj (am rfl (rW (c:=(Cv.seg l f t)) vc.g (hx.m_)))<|bk<|az<|ar ?_
  refine aw rfl (fun hc2=>?_) (fun hc2=>?_)
  ·refine aa<|ab<|ah (aN (us:=cS) lQ de rfl rfl rfl) ?_
   refine ag<|an ?_
   exact aq (a7 dx rfl (aE ae))
  ·exact absurd hB (by rw[show(Cv.seg l f t).vert=false from hb1,show iV (Cv.seg l f t) x=true from by simpa using hc2];decide)
 ·refine bk<|az<|ar<|bg rfl<|aa<|ab<|ah (aN (us:=cS) lQ de rfl rfl rfl) ?_
  refine ag<|an ?_
  exact aq (a7 dx rfl (aE ae))
theorem PP {l:Ln}{f t:Pt}(vc:CvV (Cv.seg l f t)) {x:Rat}(hx:Rz 2 x) (hb:rV (Cv.seg l f t) x=true):Ok Tryz.prog 13 [.a (([.b false]++dV l++cS++[.b false]++au f++au t)),dR x] [.a ((cR ((l.c-l.a*x)/l.b)++cR 0++cR 0)),.c (.i .i64 0)]:=by
 have hf:=vc.g.2.1
 have ht:=vc.g.2.2
 have hl:=vc.g.1
 have hB:=hb
 rw[jm] at hB
 refine Ok.fn Tryz.func13 64 [.cell 4 49,.tmp 5] rfl<|aa<|ab<|al 2<|aC (ai de rfl) rfl<|ag<|aa<|aa<|aR 9 rfl rfl<|ap 1<|aj (am rfl (yT hl hf ht)) ?_
 refine fb (bN rfl) (fun c1 hb1=>?_)
 cases c1
 ·refine ap 2<|aj (am rfl (dM))<|aj (am rfl (rW (c:=(Cv.seg l f t)) vc.g (hx.m_)))<|bk<|az<|ar ?_
  refine aw rfl (fun hc2=>?_) (fun hc2=>?_)
  ·exact absurd hB (by rw[show iV (Cv.seg l f t) x=false from by simpa using hc2,Bool.and_false];decide)
  ·have hv:cx f t≠0:=fun e=>absurd (show(Cv.seg l f t).vert=false from hb1) (by show ¬(cx f t==0)=false;rw[e];decide)
   have hb0:l.b≠0:=fun e=>hv ((oK hl hf ht (by have:=vc.sp;simpa [Cv.supp,Cv.p] using this) (by have:=vc.sq;simpa [Cv.supp,Cv.q] using this) vc.ne).2 e)
   refine ao<|aa<|aa<|ab<|ag<|bg rfl<|aa<|bZ 19 [6,999999] aU (by kernel_rfl) rfl rfl<|ap 2<|aj (cD (cR l.c) aD rfl (by kernel_rfl))<|ap 2<|aj (cD (cR l.a) aD rfl (by kernel_rfl))<|ap 1<|aj (am rfl (dd (aX (hl.a)) (aX hx))) ?_
   refine aj (am rfl (fE (aX (hl.c)) (aX (Rz.mul (hl.a) hx))))<|ap 2<|aj (cD (cR l.b) aD rfl (by kernel_rfl))<|aj (am rfl (vp ((hl.c.sub (hl.a.mul hx)).m_) (hl.b.m_) hb0))<|ap 3<|ba (ai bJ rfl) rfl<|gz (fG aD rfl) rfl rfl rfl rfl<|bk<|bG<|ar<|aa<|ab<|al 1<|ah (am rfl (dM)) ?_
   refine ag<|an ?_
   exact aq (a7 dx rfl (aE ae))
 ·exact absurd hB (by rw[show(Cv.seg l f t).vert=true from hb1];exact Bool.false_ne_true)
theorem Rj {k:Ci}{w:Bool}{f t:Pt}(vc:CvV (Cv.arc k w f t)) {x:Rat}(hx:Rz 2 x) (hb:rV (Cv.arc k w f t) x=false):Ok Tryz.prog 13 [.a (([.b true]++cS++ca k++[.b w]++au f++au t)),dR x] [.a (cS),.c (.i .i64 1)]:=by
 have hf:=vc.g.2.1
 have ht:=vc.g.2.2
 have hk:=vc.g.1
 have hB:=hb
 rw[jm] at hB
 refine Ok.fn Tryz.func13 64 [.cell 4 49,.tmp 5] rfl<|aa<|ab<|al 2<|aC (ai de rfl) rfl<|ag<|aa<|aa<|aR 9 rfl rfl<|ap 1<|aj (am rfl ((show Ok _ _ _ [.c (.b false)] from uG hk hf ht)))<|ap 3<|aj (am rfl (dM))<|aj (am rfl (rW (c:=(Cv.arc k w f t)) vc.g (hx.m_))) ?_
 refine bk<|az<|ar ?_
 refine aw rfl (fun hc1=>?_) (fun hc1=>?_)
 ·refine aa<|ab<|ah (aN (us:=cS) lQ de rfl rfl rfl) ?_
  refine ag<|an ?_
  exact aq (a7 dx rfl (aE ae))
 ·exact absurd hB (by rw[show(Cv.arc k w f t).vert=false from rfl,show iV (Cv.arc k w f t) x=true from by simpa using hc1];decide)
theorem ME {k:Ci}{w:Bool}{f t:Pt}(vc:CvV (Cv.arc k w f t)) {x:Rat}(hx:Rz 2 x) (hb:rV (Cv.arc k w f t) x=true) (hs:go (gB k x)=true):Ok Tryz.prog 13 [.a (([.b true]++cS++ca k++[.b w]++au f++au t)),dR x] [.a ((cR (k.y+sW w*rt (gB k x))++cR 0++cR 0)),.c (.i .i64 0)]:=by
 have hf:=vc.g.2.1
 have ht:=vc.g.2.2
 have hk:=vc.g.1
 have hB:=hb
 rw[jm] at hB
 have ofk:OnK k f:=⟨hf,cb.1 vc.sp⟩
 have otk:OnK k t:=⟨ht,cb.1 vc.sq⟩
 have hm0: ¬gB k x<0:=by
  have hb2:=hb
  unfold rV at hb2
  rw[Bool.and_eq_true,Bool.and_eq_true] at hb2
  have:=ti ofk otk (of_decide_eq_true hb2.2.1) (of_decide_eq_true hb2.2.2)
  grind
 refine Ok.fn Tryz.func13 64 [.cell 4 49,.tmp 5] rfl<|aa<|ab<|al 2<|aC (ai de rfl) rfl<|ag<|aa<|aa<|aR 9 rfl rfl<|ap 1<|aj (am rfl ((show Ok _ _ _ [.c (.b false)] from uG hk hf ht)))<|ap 3<|aj (am rfl (dM))<|aj (am rfl (rW (c:=(Cv.arc k w f t)) vc.g (hx.m_))) ?_
 refine bk<|az<|ar ?_
 refine aw rfl (fun hc1=>?_) (fun hc1=>?_)
 ·exact absurd hB (by rw[show iV (Cv.arc k w f t) x=false from by simpa using hc1,Bool.and_false];decide)
 ·refine ao<|aa<|aa<|ab<|ag<|aP rfl<|ao<|aa<|ab<|al 3<|ah (cD (cR k.x) aD rfl (by kernel_rfl))<|ah (am rfl (fE (aX hx) (aX (hk.x))))<|aC (ai bJ rfl) rfl<|ag ?_
  refine aa<|ab<|ag<|aa<|aa<|ab<|ag ?_
  refine aw rfl (fun hc2=>?_) (fun hc2=>?_)
  ·have e9:((1:Int):Rat)=sW w:=Ny hc2
   refine ab<|ag<|aa<|aR 15 rfl rfl<|ap 2<|aj (cD (cR k.y) aD rfl (by kernel_rfl))<|ap 1<|aj (am rfl (dt (iM (by decide) (by decide)) e9))<|ap 2<|aj (cD (cR k.q) aD rfl (by kernel_rfl))<|ap 2<|aj (am rfl (dd (aX (Rz.sub hx (hk.x))) (aX (Rz.sub hx (hk.x)))))<|aj (am rfl (fE (aX (hk.q)) (aX (Rz.mul (Rz.sub hx (hk.x)) (Rz.sub hx (hk.x))))))<|aj (am rfl (qd (c:=gB k x) (hk.y.m_) ((rT w).m_) ((oC hk hx).m_) hm0 hs)) ?_
   refine bk<|az<|ag<|an ?_
   exact aq (a7 dx rfl (aE ae))
  ·have e9:((-1:Int):Rat)=sW w:=MI hc2
   refine ao<|aa<|aR 15 rfl rfl<|ap 2<|aj (cD (cR k.y) aD rfl (by kernel_rfl))<|ap 1<|aj (am rfl (dt (iM (by decide) (by decide)) e9))<|ap 2<|aj (cD (cR k.q) aD rfl (by kernel_rfl))<|ap 2<|aj (am rfl (dd (aX (Rz.sub hx (hk.x))) (aX (Rz.sub hx (hk.x)))))<|aj (am rfl (fE (aX (hk.q)) (aX (Rz.mul (Rz.sub hx (hk.x)) (Rz.sub hx (hk.x))))))<|aj (am rfl (qd (c:=gB k x) (hk.y.m_) ((rT w).m_) ((oC hk hx).m_) hm0 hs))<|bk ?_
   refine az<|ag<|an ?_
   exact aq (a7 dx rfl (aE ae))
theorem NL {k:Ci}{w:Bool}{f t:Pt}(vc:CvV (Cv.arc k w f t)) {x:Rat}(hx:Rz 2 x) (hb:rV (Cv.arc k w f t) x=true) (hs:go (gB k x)=false):Ok Tryz.prog 13 [.a (([.b true]++cS++ca k++[.b w]++au f++au t)),dR x] [.a ((cR k.y++cR (sW w)++cR (zc (sW w) (gB k x)))),.c (.i .i64 0)]:=by
 have hf:=vc.g.2.1
 have ht:=vc.g.2.2
 have hk:=vc.g.1
 have hB:=hb
 rw[jm] at hB
 have ofk:OnK k f:=⟨hf,cb.1 vc.sp⟩
 have otk:OnK k t:=⟨ht,cb.1 vc.sq⟩
 have hm0: ¬gB k x<0:=by
  have hb2:=hb
  unfold rV at hb2
  rw[Bool.and_eq_true,Bool.and_eq_true] at hb2
  have:=ti ofk otk (of_decide_eq_true hb2.2.1) (of_decide_eq_true hb2.2.2)
  grind
 refine Ok.fn Tryz.func13 64 [.cell 4 49,.tmp 5] rfl<|aa<|ab<|al 2<|aC (ai de rfl) rfl<|ag<|aa<|aa<|aR 9 rfl rfl<|ap 1<|aj (am rfl ((show Ok _ _ _ [.c (.b false)] from uG hk hf ht)))<|ap 3<|aj (am rfl (dM))<|aj (am rfl (rW (c:=(Cv.arc k w f t)) vc.g (hx.m_))) ?_
 refine bk<|az<|ar ?_
 refine aw rfl (fun hc1=>?_) (fun hc1=>?_)
 ·exact absurd hB (by rw[show iV (Cv.arc k w f t) x=false from by simpa using hc1,Bool.and_false];decide)
 ·refine ao<|aa<|aa<|ab<|ag<|aP rfl<|ao<|aa<|ab<|al 3<|ah (cD (cR k.x) aD rfl (by kernel_rfl))<|ah (am rfl (fE (aX hx) (aX (hk.x))))<|aC (ai bJ rfl) rfl<|ag ?_
  refine aa<|ab<|ag<|aa<|aa<|ab<|ag ?_
  refine aw rfl (fun hc2=>?_) (fun hc2=>?_)
  ·have e9:((1:Int):Rat)=sW w:=Ny hc2
   refine ab<|ag<|aa<|aR 15 rfl rfl<|ap 2<|aj (cD (cR k.y) aD rfl (by kernel_rfl))<|ap 1<|aj (am rfl (dt (iM (by decide) (by decide)) e9))<|ap 2<|aj (cD (cR k.q) aD rfl (by kernel_rfl))<|ap 2<|aj (am rfl (dd (aX (Rz.sub hx (hk.x))) (aX (Rz.sub hx (hk.x)))))<|aj (am rfl (fE (aX (hk.q)) (aX (Rz.mul (Rz.sub hx (hk.x)) (Rz.sub hx (hk.x))))))<|aj (am rfl (qi (c:=gB k x) (hk.y.m_) ((rT w).m_) ((oC hk hx).m_) hm0 hs)) ?_
   refine bk<|az<|ag<|an ?_
   exact aq (a7 dx rfl (aE ae))
  ·have e9:((-1:Int):Rat)=sW w:=MI hc2
   refine ao<|aa<|aR 15 rfl rfl<|ap 2<|aj (cD (cR k.y) aD rfl (by kernel_rfl))<|ap 1<|aj (am rfl (dt (iM (by decide) (by decide)) e9))<|ap 2<|aj (cD (cR k.q) aD rfl (by kernel_rfl))<|ap 2<|aj (am rfl (dd (aX (Rz.sub hx (hk.x))) (aX (Rz.sub hx (hk.x)))))<|aj (am rfl (fE (aX (hk.q)) (aX (Rz.mul (Rz.sub hx (hk.x)) (Rz.sub hx (hk.x))))))<|aj (am rfl (qi (c:=gB k x) (hk.y.m_) ((rT w).m_) ((oC hk hx).m_) hm0 hs))<|bk ?_
   refine az<|ag<|an ?_
   exact aq (a7 dx rfl (aE ae))
theorem Ek {c:Cv}(vc:CvV c) {x:Rat}(hx:Rz 2 x):Ok Tryz.prog 13 [.a (aB c),dR x] (if rV c x then[.a (C0 c x),.c (.i .i64 0)] else[.a cS,.c (.i .i64 1)]):=by
 cases hb:rV c x with
 |false=>
  rw[if_neg (by decide)]
  cases c with
  |seg l f t=>exact Ql vc hx hb
  |arc k w f t=>exact Rj vc hx hb
 |true=>
  rw[if_pos rfl]
  cases c with
  |seg l f t=>exact PP vc hx hb
  |arc k w f t=>
   cases hs:go (gB k x) with
   |true=>rw[Fr hs];exact ME vc hx hb hs
   |false=>rw[HZ hs];exact NL vc hx hb hs
theorem kw {x y:Int}(x0: -9223372036854775808≤x) (x1:x≤9223372036854775807) (y0: -9223372036854775808≤y) (y1:y≤9223372036854775807):Ok Tryz.prog 44 [.c (.i .i64 x),.c (.i .i64 y)] [.a ((cR (((x:Int):Rat))++cR (((y:Int):Rat))))]:=by
 refine Ok.fn Tryz.func44 8 [.cell 4 37] rfl<|aa<|ab<|aC (ai il rfl) rfl<|ar<|aa<|ab<|al 2<|ah (am rfl (I8 x0 x1 y0 y1))<|ag<|an ?_
 exact aq (a7 MB rfl ae)
theorem Qm {n:Int}(n0: -9223372036854775808≤n) (n1:n≤9223372036854775807):Ok Tryz.prog 48 [.c (.i .i64 n)] [.a ((cR (((n:Int):Rat))++cR 0++cR 0))]:=by
 refine Ok.fn Tryz.func48 6 [.cell 2 49] rfl<|aa<|ab<|aC (ai de rfl) rfl<|ar<|aa<|ab<|al 1<|ah (am rfl (gM n0 n1))<|ah (am rfl (dP))<|ag<|an ?_
 exact aq (a7 dx rfl ae)
theorem kh:Ok Tryz.prog 10 [] [.c (.b true)]:=by
 refine Ok.fn Tryz.func10 140 [.tmp 0] rfl<|aa<|ab<|ag<|aa<|ab<|ah (am rfl (kw (by decide) (by decide) (by decide) (by decide)))<|ah (am rfl (kw (by decide) (by decide) (by decide) (by decide)))<|ah (am rfl (kw (by decide) (by decide) (by decide) (by decide)))<|ah (am rfl ((show Ok _ _ _ [.a (aB tc),.c (.i .i64 0)] from LP (xd (by decide) (by decide)) (xd (by decide) (by decide)) (xd (by decide) (by decide)) (xd (by decide) (by decide)) (xd (by decide) (by decide)) (xd (by decide) (by decide)) (by decide+kernel))))<|al 3<|aC (ai eo rfl) rfl<|bL (aZ bd rfl rfl rfl (ak _) rfl rfl) ?_
 refine ag<|aa<|ab<|ah (am rfl (kw (by decide) (by decide) (by decide) (by decide)))<|ah (am rfl (kw (by decide) (by decide) (by decide) (by decide)))<|ah (am rfl (kw (by decide) (by decide) (by decide) (by decide)))<|ah (am rfl ((show Ok _ _ _ [.a (aB t5),.c (.i .i64 0)] from LP (xd (by decide) (by decide)) (xd (by decide) (by decide)) (xd (by decide) (by decide)) (xd (by decide) (by decide)) (xd (by decide) (by decide)) (xd (by decide) (by decide)) (by decide+kernel))))<|al 3<|aC (ai eo rfl) rfl<|bL (aZ bd rfl rfl rfl (ak _) rfl rfl) ?_
 refine ag<|aa<|ab<|ah (am rfl (kw (by decide) (by decide) (by decide) (by decide)))<|ah (am rfl (kw (by decide) (by decide) (by decide) (by decide)))<|ah (am rfl ((show Ok _ _ _ [.a (aB xi),.c (.i .i64 0)] from EH (xd (by decide) (by decide)) (xd (by decide) (by decide)) (xd (by decide) (by decide)) (xd (by decide) (by decide)) (by decide+kernel))))<|al 3<|aC (ai eo rfl) rfl<|bL (aZ bd rfl rfl rfl (ak _) rfl rfl) ?_
 refine ag<|aa<|aa<|ab<|ag<|aP rfl<|ao<|aa<|bZ 9 [7,999999] aU (by kernel_rfl) rfl rfl<|aj (aA (us:=aB tc) bd rfl rfl (by rw[List.drop_zero];exact List.take_of_length_le (Nat.le_of_eq (ak _))) (ak _) rfl) ?_
 refine aj (am rfl (gM (by decide) (by decide))) ?_
 refine aj (am rfl ((by have h9:=Ek DA ((xd (n:=3) (by decide) (by decide)).m_);rw[if_pos Np,PN] at h9;exact h9))) ?_
 refine ap 3 ?_
 refine ba (ai de rfl) rfl ?_
 refine gz (fG dx rfl) rfl rfl rfl rfl ?_
 refine bk ?_
 refine bG ?_
 refine ar ?_
 refine aa ?_
 refine aR 9 rfl rfl ?_
 refine aj (aA (us:=aB tc) bd rfl rfl (by rw[List.drop_zero];exact List.take_of_length_le (Nat.le_of_eq (ak _))) (ak _) rfl) ?_
 refine aj (am rfl (kw (by decide) (by decide) (by decide) (by decide)))<|aj (am rfl ((show Ok _ _ _ [.a (au (rP ((0:Int):Rat) ((0:Int):Rat)))] from ln)))<|aj (am rfl ((by have h9:=I1 DA (xV (xd (n:=0) (by decide) (by decide)) (xd (n:=0) (by decide) (by decide)));rw[SM.1,SM.2] at h9;exact h9))) ?_
 refine bk<|az<|ar<|aa<|aR 9 rfl rfl<|aj (aA (us:=aB tc) bd rfl rfl (by rw[List.drop_zero];exact List.take_of_length_le (Nat.le_of_eq (ak _))) (ak _) rfl) ?_
 refine aj (am rfl (kw (by decide) (by decide) (by decide) (by decide)))<|aj (am rfl ((show Ok _ _ _ [.a (au (rP ((0:Int):Rat) ((-6:Int):Rat)))] from ln)))<|aj (am rfl ((by have h9:=I1 DA (xV (xd (n:=0) (by decide) (by decide)) (xd (n:= -6) (by decide) (by decide)));rw[UG.1,UG.2] at h9;exact h9))) ?_
 refine bk<|az<|ar<|aa<|ab<|ah (aA (us:=aB t5) bd rfl rfl (by rw[List.drop_zero];exact List.take_of_length_le (Nat.le_of_eq (ak _))) (ak _) rfl) ?_
 refine ah (am rfl (Vd Es))<|ag<|aa<|aa<|aR 42 rfl rfl<|ap 12<|aj (am rfl (Qm (n:= -4) (by decide) (by decide)))<|aj (am rfl (gQ (c:=true) (G6 ((xd (n:= -4) (by decide) (by decide)).m_) (Rz.zero (by decide)) (Rz.zero (by decide)) ((xd (n:= -4) (by decide) (by decide)).m_) (Rz.zero (by decide)) (Rz.zero (by decide))) (by decide+kernel)))<|ap 13<|aj (bQ (c:=false) (iP rfl) (by rw[iF];rfl)) ?_
 refine ap 3<|aj (aW (us:=aB DF++aI aB ((oG t5).drop (0+1))) eu rfl rfl (⟨by decide,by rw[iF];decide⟩) (aG ak _) (bz ak (bi (by rw[iF];decide))) rfl) ?_
 refine aj (wD LG rfl rfl rfl) ?_
 refine aj (bQ (c:=false) (cU xf rfl (Ba _ _) rfl) KH.1) ?_
 refine ap 3<|aj (aW (us:=aB Eg++aI aB ((oG t5).drop (1+1))) eu rfl rfl (⟨by decide,by rw[iF];decide⟩) (aG ak _) (bz ak (bi (by rw[iF];decide))) rfl) ?_
 refine aj (wD LG rfl rfl rfl) ?_
 refine aj (bQ (c:=true) (cU xf rfl (Ba _ _) rfl) KH.2) ?_
 refine bk<|az<|ar<|aP rfl<|ao<|aa<|aR 10 rfl rfl<|ap 1<|aj (aW (us:=aB Eg++aI aB ((oG t5).drop (1+1))) eu rfl rfl (⟨by decide,by rw[iF];decide⟩) (aG ak _) (bz ak (bi (by rw[iF];decide))) rfl) ?_
 refine aj (bb (us:=aB Eg) bd rfl (df _ _) (ak _) rfl) ?_
 refine aj (aA (us:=aB xi) bd rfl rfl (by rw[List.drop_zero];exact List.take_of_length_le (Nat.le_of_eq (ak _))) (ak _) rfl) ?_
 refine aj (am rfl ((by have h9:=Jv Qz Lo;rw[Uv.1,Uv.2] at h9;exact h9))) ?_
 refine bk<|az<|ar<|aa<|aR 10 rfl rfl<|ap 1<|aj (aW (us:=aB DF++aI aB ((oG t5).drop (0+1))) eu rfl rfl (⟨by decide,by rw[iF];decide⟩) (aG ak _) (bz ak (bi (by rw[iF];decide))) rfl) ?_
 refine aj (bb (us:=aB DF) bd rfl (df _ _) (ak _) rfl) ?_
 refine aj (aA (us:=aB xi) bd rfl rfl (by rw[List.drop_zero];exact List.take_of_length_le (Nat.le_of_eq (ak _))) (ak _) rfl) ?_
 refine aj (am rfl ((by have h9:=Jv P8 Lo;rw[Sx.1,Sx.2] at h9;exact h9))) ?_
 refine bk<|az<|ar<|aa<|ab<|ag<|an ?_
 exact aq (aE ae)
theorem Sz.one1 {x:Int}(h: -1000000000<x) (h':x<1000000000):Sz 1 x:=by
 have e:pw 1=1000000000:=by decide+kernel
 exact⟨by omega,by omega⟩
end Go.Proofs.YtkmdgigkbhmilaaGreat
