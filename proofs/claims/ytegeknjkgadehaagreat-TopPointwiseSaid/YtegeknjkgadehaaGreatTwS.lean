/-Monotone pieces:the reference. -/
import Derived.Test.YtegeknjkgadehaaGreatTwR
namespace Go.Proofs.YtegeknjkgadehaaGreat
open Go Go.RowKit
variable {w:Bool}{k:Ci}{c:Cv}{L:List Cv}{l:Ln}{i n:Nat}{f p q t:Pt}{v:Rat×Rat}
theorem adV (vc:CvV (Cv.seg l f t)):Ok Tryz.prog 160 [.a (([.b false]++eJ l++mG++[.b false]++ai f++ai t))] [.c (.s (((oI (Cv.seg l f t))).length) (am an ((oI (Cv.seg l f t)))))]:=by
 have lR:(bi (Cv.seg l f t)).length<=3:=BE;have pR:0<(bi (Cv.seg l f t)).length:=ue vc;refine fg Tryz.func160 85 [.tmp 2] rfl<|ab<|ag<|ab<|ag ?_;refine ar (jF bg rfl) ?_;refine ar (br (n:=1) (us:=([.b false]++eJ l++mG++[.b false]++ai f++ai t)) eF rfl rfl rfl (by decide) (by decide) rfl) ?_;refine iq (ι:=Unit) (fun i=>⟨85,[(3,.v (.c (.s (((bi (Cv.seg l f t))).length) (am an ((bi (Cv.seg l f t)))))))],[]⟩) ?_ ?_
 ·refine ab<|ag ?_;refine ar (dL jY rfl) ?_;refine cT rfl<|au ?_;exact⟨(),al ⟨rfl,trivial⟩ trivial rfl⟩
 ·rintro⟨⟩;try dsimp only
  refine ab<|cB<|cV (dj rfl) ?_;refine ce<|ab<|ab<|ag<|aw ?_;refine m8 (ι:={J:Nat×Nat×List CellD // 1<=J.1/\J.1<=(bi (Cv.seg l f t)).length/\J.1<=J.2.1/\J.2.1<=maxLen/\J.2.2.length=(J.2.1-J.1)*66}) (fun i=>⟨85,[(3,.v (.c (.s (((bi (Cv.seg l f t))).length) (am an ((bi (Cv.seg l f t))))))),(7,.o 83 i.1.1 i.1.2.1),(8,.v (.c (.i .i64 (i.1.1:Int))))],[(83,53,am an (fm ((bi (Cv.seg l f t)).take i.1.1))++i.1.2.2)]⟩) (fun i=>(bi (Cv.seg l f t)).length-i.1.1) ((bi (Cv.seg l f t)).length) ?_ ?_
  ·refine ab<|ab<|ag ?_;refine aA rfl (fun a5=>?_) (fun a5=>?_)
   ·have E:0<(bi (Cv.seg l f t)).length:=ue vc;have I:CvV ((bi (Cv.seg l f t)).getD 0 aK):=tF vc _ (aY E);refine au<|ab<|aw<|ab<|ag<|ar (eI aK ae E dr rfl)<|ar (kz ae bg rfl)<|n8 (bQ bg rfl rfl rfl (ae _) rfl rfl) ?_;refine iq (ι:=Unit) (fun i=>⟨85,[(3,.v (.c (.s (((bi (Cv.seg l f t))).length) (am an ((bi (Cv.seg l f t))))))),(7,.z),(8,.v (.c (.i .i64 0))),(9,.p 9 0)],[(9,53,an (((bi (Cv.seg l f t)).getD 0 aK).fwd))]⟩) ?_ ?_
    ·refine ab<|ag ?_;refine ar (bb (us:=ai (((bi (Cv.seg l f t)).getD 0 aK)).p) bo rfl rfl (ja _) rfl rfl) ?_;refine ar (bb (us:=ai (((bi (Cv.seg l f t)).getD 0 aK)).q) bo rfl rfl (jL _) rfl rfl) ?_;refine ac rfl (nH (fj I.g) (gA I.g)) ?_;refine aA rfl (fun N=>?_) (fun N=>?_)
     ·have R:=L6 N;refine ag ?_;refine ar (eG (ae _) bg rfl) ?_;refine ac rfl (Gq I) ?_;refine n8 (bQ bg rfl rfl rfl (ae _) (ae _) rfl) ?_;exact⟨(),al ⟨rfl,rfl,rfl,rfl,trivial⟩ ⟨congrArg (fun q=>some (53,an q)) R.symm,trivial⟩ rfl⟩
     ·have R:=MP N;refine au ?_;exact⟨(),al ⟨rfl,rfl,rfl,rfl,trivial⟩ ⟨congrArg (fun q=>some (53,an q)) R.symm,trivial⟩ rfl⟩
    ·rintro⟨⟩;try dsimp only
     refine ab<|ag<|ab<|aw ?_;refine bF (ι:=Nat) (fun i=>match i with|_=>⟨85,[(3,.v (.c (.s (((bi (Cv.seg l f t))).length) (am an ((bi (Cv.seg l f t))))))),(7,.z),(8,.v (.c (.i .i64 0))),(9,.p 9 0),(10,.v (.c (.i .i64 0)))],[(9,53,an (((bi (Cv.seg l f t)).getD 0 aK).fwd))]⟩) (fun i=>0-i) 0 (al ⟨rfl,rfl,rfl,rfl,rfl,trivial⟩ ⟨rfl,trivial⟩ rfl) ?_;intro i;match i with
     |_=>
      show Dw _ _ ⟨85,[(3,.v (.c (.s (((bi (Cv.seg l f t))).length) (am an ((bi (Cv.seg l f t))))))),(7,.z),(8,.v (.c (.i .i64 0))),(9,.p 9 0),(10,.v (.c (.i .i64 0)))],[(9,53,an (((bi (Cv.seg l f t)).getD 0 aK).fwd))]⟩ _;refine ab<|ab<|fk 13 []<|aq (u3 dr rfl rfl) ?_;refine aq (aQ rfl)<|cT rfl<|bn<|fk 9 []<|aq (zG dr rfl rfl rfl) ?_;refine aq (eG (ae _) bg rfl)<|aq (kT (us:=an ((bi (Cv.seg l f t)).getD 0 aK).fwd) eF rfl (mC rfl (ae _)) (b7 (ae _)) (by decide) (by decide) rfl) ?_;refine aq (xk dr rfl rfl rfl) ?_;refine aq (yg eF rfl rfl (b7 (ae _)) (by decide) (by decide) (by decide) (by decide) rfl) ?_;refine DL.mk<|mV (q:=1) (ys:=an ((bi (Cv.seg l f t)).getD 0 aK).fwd) (zs':=am an (fm ((bi (Cv.seg l f t)).take 1))) eF rfl rfl (ae _) (by decide) (by decide) (by decide) rfl (by rw[HR E];exact(ez _).symm) rfl (fun b1 b2 c0 a6 a1=>fa ?_);refine ag<|ar (mg (r:=1) rfl rfl rfl rfl) ?_;exact⟨⟨⟨1,b1,b2⟩,by omega,by omega,by omega,a6,a1⟩,al ⟨rfl,rfl,rfl,trivial⟩ ⟨rfl,trivial⟩ rfl,by show(bi (Cv.seg l f t)).length-1<(bi (Cv.seg l f t)).length;omega⟩
   ·exact(of_decide_eq_false a5 (by omega)).elim
  ·rintro⟨⟨n,c,rs⟩,h1,h2,h3,h4,h5⟩;dsimp only at h1 h2 h3 h4 h5;dsimp only;refine ab<|ab<|ag ?_;refine aA rfl (fun U=>?_) (fun U=>?_)
   ·have E:n<(bi (Cv.seg l f t)).length:=by have:=of_decide_eq_true U;omega
    have I:CvV ((bi (Cv.seg l f t)).getD n aK):=tF vc _ (aY E);have u:(fm ((bi (Cv.seg l f t)).take n)).length=n:=by rw[fy,eu];omega
    have hO: ∀d∈(fm ((bi (Cv.seg l f t)).take n)),CvV d:=fun d hd=>by obtain⟨x,hx,e⟩:=xv hd;rw[e];exact I0 (tF vc x (wn hx))
    have H:n<=c:=h3;refine au<|ab<|aw<|ab<|ag<|ar (eI aK ae E dr rfl)<|ar (kz ae bg rfl)<|n8 (bQ bg rfl rfl rfl (ae _) rfl rfl) ?_;refine iq (ι:=Unit) (fun i=>⟨85,[(3,.v (.c (.s (((bi (Cv.seg l f t))).length) (am an ((bi (Cv.seg l f t))))))),(7,.o 83 n c),(8,.v (.c (.i .i64 (n:Int)))),(9,.p 9 0)],[(9,53,an (((bi (Cv.seg l f t)).getD n aK).fwd)),(83,53,am an (fm ((bi (Cv.seg l f t)).take n))++rs)]⟩) ?_ ?_
    ·refine ab<|ag ?_;refine ar (bb (us:=ai (((bi (Cv.seg l f t)).getD n aK)).p) bo rfl rfl (ja _) rfl rfl) ?_;refine ar (bb (us:=ai (((bi (Cv.seg l f t)).getD n aK)).q) bo rfl rfl (jL _) rfl rfl) ?_;refine ac rfl (nH (fj I.g) (gA I.g)) ?_;refine aA rfl (fun W=>?_) (fun W=>?_)
     ·have R:=L6 W;refine ag ?_;refine ar (eG (ae _) bg rfl) ?_;refine ac rfl (Gq I) ?_;refine n8 (bQ bg rfl rfl rfl (ae _) (ae _) rfl) ?_;exact⟨(),al ⟨rfl,rfl,rfl,rfl,trivial⟩ ⟨congrArg (fun q=>some (53,an q)) R.symm,rfl,trivial⟩ rfl⟩
     ·have R:=MP W;refine au ?_;exact⟨(),al ⟨rfl,rfl,rfl,rfl,trivial⟩ ⟨congrArg (fun q=>some (53,an q)) R.symm,rfl,trivial⟩ rfl⟩
    ·rintro⟨⟩;try dsimp only
     refine ab<|ag<|ab<|aw<|bF (ι:={j:Nat // j<=n/\ ∀r,r<j->fL ((fm ((bi (Cv.seg l f t)).take n)).getD r aK) ((bi (Cv.seg l f t)).getD n aK).fwd<=0}) (fun i=>⟨85,[(3,.v (.c (.s (((bi (Cv.seg l f t))).length) (am an ((bi (Cv.seg l f t))))))),(7,.o 83 n c),(8,.v (.c (.i .i64 (n:Int)))),(9,.p 9 0),(10,.v (.c (.i .i64 (i.1:Int))))],[(9,53,an (((bi (Cv.seg l f t)).getD n aK).fwd)),(83,53,am an (fm ((bi (Cv.seg l f t)).take n))++rs)]⟩) (fun i=>n-i.1) ⟨0,eo _,fun r h=>absurd h (Nat.not_lt_zero r)⟩ (al ⟨rfl,rfl,rfl,rfl,rfl,trivial⟩ ⟨rfl,rfl,trivial⟩ rfl) ?_;rintro⟨j,y,D⟩;replace y:j<=n:=y;replace D: ∀r,r<j->fL ((fm ((bi (Cv.seg l f t)).take n)).getD r aK) ((bi (Cv.seg l f t)).getD n aK).fwd<=0:=D;dsimp only;refine ab<|ab<|nP 13 rfl rfl<|dU 2<|bG (mW dr rfl rfl) ?_;refine dU 1 ?_;refine Ma (aQ rfl) (fun c6 a2=>?_);cases c6
     ·have g2:n<=j:=by have:=of_decide_eq_false a2;omega
      have hs:uG ((bi (Cv.seg l f t)).getD n aK).fwd (fm ((bi (Cv.seg l f t)).take n))=j:=t7 _ (by rw[u];omega) D (.inl (by rw[u];omega));refine Cl<|dE<|ce<|cT rfl<|bn<|fk 9 []<|aq (kZ (q:=j) dr rfl rfl (by omega) rfl) ?_;refine aq (eG (ae _) bg rfl)<|aq (kT (us:=an ((bi (Cv.seg l f t)).getD n aK).fwd) eF rfl (mC rfl (ae _)) (b7 (ae _)) (by decide) (by decide) rfl) ?_;refine aq (nE (q:=j) dr rfl rfl (by omega) (by omega) rfl) ?_;refine aq (pA (q:=n-j) (ys:=am an ((fm ((bi (Cv.seg l f t)).take n)).drop j)) eF rfl rfl rfl (BH u y H) (Cb u y h5 H) (by omega) (by omega) (b7 (ae _)) (by rw[ak ae,eP,u]) (by decide) (by decide) (by omega) (jn (by omega)) rfl) ?_;refine DL.mk<|lU (n:=j) (c:=c) (q:=1+(n-j)) (us:=am an ((fm ((bi (Cv.seg l f t)).take n)).take j)) (rest:=am an ((fm ((bi (Cv.seg l f t)).take n)).drop j)++rs) (N':=n+1) (zs':=am an (fm ((bi (Cv.seg l f t)).take (n+1)))) eF rfl rfl rfl (uP j) (by rw[ak ae,eu,u,dK y]) (by rw[dc,ak ae,eP,u,h5];omega) (by rw[dc,ae,ak ae,eP,u];omega) (by decide) (by omega) (by assumption) (by omega) (jn (by omega)) (.inl rfl) (by omega) (by rw[tu E];exact vk hs) rfl (fun b0 b4 b8 a3 a9=>fa ?_);refine ag<|ar (bu (by omega) rfl) ?_;exact⟨⟨⟨n+1,b0,b4⟩,by omega,E,by omega,a3,a9⟩,al ⟨rfl,rfl,rfl,trivial⟩ ⟨rfl,trivial⟩ rfl,by show(bi (Cv.seg l f t)).length-(n+1)<(bi (Cv.seg l f t)).length-n;omega⟩
     ·have g2:j<n:=by have:=of_decide_eq_true a2;omega
      refine dU 2<|bG (bO dr rfl rfl (by omega) rfl) ?_;refine bG (bb (us:=an ((fm ((bi (Cv.seg l f t)).take n)).getD j aK)) bg rfl rfl (Y6 (by rw[u];omega)) (ae _) rfl) ?_;refine bG (eG (ae _) bg rfl)<|bG (j9 rfl (TR (hO _ (aY (by rw[u];omega))) (I0 I)))<|Cl<|dE<|ce ?_;refine aA rfl (fun K=>?_) (fun K=>?_)
      ·have g3:fL ((fm ((bi (Cv.seg l f t)).take n)).getD j aK) ((bi (Cv.seg l f t)).getD n aK).fwd<=0:=of_decide_eq_true K;refine au<|aw<|ag<|ar (bu (by omega) rfl) ?_;exact⟨⟨j+1,g2,fun r hr=>(lH.1 hr).elim (D r) (fun e=>by rw[e];exact g3)⟩,al ⟨rfl,rfl,rfl,rfl,rfl,trivial⟩ ⟨rfl,rfl,trivial⟩ rfl,by show n-(j+1)<n-j;omega⟩
      ·have hs:uG ((bi (Cv.seg l f t)).getD n aK).fwd (fm ((bi (Cv.seg l f t)).take n))=j:=t7 _ (by rw[u];omega) D (.inr (of_decide_eq_false K));refine bn<|fk 9 []<|aq (kZ (q:=j) dr rfl rfl (by omega) rfl) ?_;refine aq (eG (ae _) bg rfl)<|aq (kT (us:=an ((bi (Cv.seg l f t)).getD n aK).fwd) eF rfl (mC rfl (ae _)) (b7 (ae _)) (by decide) (by decide) rfl) ?_;refine aq (nE (q:=j) dr rfl rfl (by omega) (by omega) rfl) ?_;refine aq (pA (q:=n-j) (ys:=am an ((fm ((bi (Cv.seg l f t)).take n)).drop j)) eF rfl rfl rfl (BH u y H) (Cb u y h5 H) (by omega) (by omega) (b7 (ae _)) (by rw[ak ae,eP,u]) (by decide) (by decide) (by omega) (jn (by omega)) rfl) ?_;refine DL.mk<|lU (n:=j) (c:=c) (q:=1+(n-j)) (us:=am an ((fm ((bi (Cv.seg l f t)).take n)).take j)) (rest:=am an ((fm ((bi (Cv.seg l f t)).take n)).drop j)++rs) (N':=n+1) (zs':=am an (fm ((bi (Cv.seg l f t)).take (n+1)))) eF rfl rfl rfl (uP j) (by rw[ak ae,eu,u,dK y]) (by rw[dc,ak ae,eP,u,h5];omega) (by rw[dc,ae,ak ae,eP,u];omega) (by decide) (by omega) (by assumption) (by omega) (jn (by omega)) (.inl rfl) (by omega) (by rw[tu E];exact vk hs) rfl (fun b5 b3 b6 a4 a0=>fa ?_);refine ag<|ar (bu (by omega) rfl) ?_;exact⟨⟨⟨n+1,b5,b3⟩,by omega,E,by omega,a4,a0⟩,al ⟨rfl,rfl,rfl,trivial⟩ ⟨rfl,trivial⟩ rfl,by show(bi (Cv.seg l f t)).length-(n+1)<(bi (Cv.seg l f t)).length-n;omega⟩
   ·have hp:n=(bi (Cv.seg l f t)).length:=by have:=of_decide_eq_false U;omega
    refine bn<|ab<|ag ?_;refine cD (t:=2) (m:=66) (us:=am an (fm ((bi (Cv.seg l f t)).take n))) rfl rfl (kn (n:=n) (by first|rfl|(rw[ak ae,fy,eu,dK (by omega)])) (by assumption) (by omega)) (by omega) (by assumption) (gh (by first|rfl|(rw[ak ae,fy,eu,dK (by omega)]))) ?_;refine bc ?_;rw[show oI (Cv.seg l f t)=(fm ((bi (Cv.seg l f t)).take n)) from by rw[hp,ud];rfl,show(fm ((bi (Cv.seg l f t)).take n)).length=n from by rw[fy,eu];omega];exact ah (aj aa)
theorem afe (y:CvV (Cv.arc k w f t)):Ok Tryz.prog 160 [.a (([.b true]++qx++dy k++[.b w]++ai f++ai t))] [.c (.s (((oI (Cv.arc k w f t))).length) (am an ((oI (Cv.arc k w f t)))))]:=by
 have lR:(bi (Cv.arc k w f t)).length<=3:=BE;have pR:0<(bi (Cv.arc k w f t)).length:=ue y;have hk:=y.g.1;have hf:=y.g.2.1;have ht:=y.g.2.2;have gL:=tN hk y.pos;have gR:=t5 hk y.pos;refine fg Tryz.func160 85 [.tmp 2] rfl<|ab<|ag<|ab<|ag ?_;refine ar (jF bg rfl) ?_;refine ar (br (n:=1) (us:=([.b true]++qx++dy k++[.b w]++ai f++ai t)) eF rfl rfl rfl (by decide) (by decide) rfl) ?_;refine iq (ι:=Unit) (fun i=>⟨85,[(3,.v (.c (.s (((bi (Cv.arc k w f t))).length) (am an ((bi (Cv.arc k w f t)))))))],[]⟩) ?_ ?_
 ·refine ab<|ag ?_;refine ar (dL jY rfl) ?_;refine gO rfl<|ab<|ag ?_;refine ar (dh (dy k) zg rfl (by kernel_rfl)) ?_;refine ac rfl (YZ hk) ?_;refine ab<|cB<|cV (dj rfl) ?_;refine ce<|ab<|ab<|ag ?_;refine ar (jF bg rfl) ?_;refine ac rfl (Gc hk hf ht gL) ?_;refine aA rfl (fun N=>?_) (fun N=>?_)
  ·refine ag ?_;refine ar (br (n:=1) (us:=ai (ov k)) jg rfl rfl rfl (by decide) (by decide) rfl) ?_;refine DL.mk<|kq (ys:=ai (ov k)) jg rfl rfl rfl (by decide) (by decide) (by decide) rfl rfl (fun e4 c6 e1 d2 e2=>fa ?_);refine ab<|ab<|ag ?_;refine ar (jF bg rfl) ?_;refine ac rfl (Gc hk hf ht gR) ?_;refine aA rfl (fun a2=>?_) (fun a2=>?_)
   ·have e:lk (Cv.arc k w f t)=[ov k,nZ k]:=Wx N a2;have er:fz (Cv.arc k w f t) [ov k,nZ k]=(bi (Cv.arc k w f t)):=by unfold bi;rw[if_pos (show((Cv.arc k w f t)).isArc=true from rfl),e]
    refine ag ?_;refine ar (br (n:=1) (us:=ai (nZ k)) jg rfl rfl rfl (by decide) (by decide) rfl) ?_;refine DL.mk<|ou (us:=ai (ov k)) (rest:=c6) (ys:=ai (nZ k)) jg rfl rfl rfl (by first|rfl|(rw[ak ae,fy,eu,dK (by omega)])) (by assumption) rfl (by decide) (by omega) (by assumption) (by omega) (jn (by omega)) (.inr rfl) rfl (fun e5 e6 c7 d3 c9=>fa ?_);refine cD (t:=6) (m:=20) (us:=ai (ov k)++(ai (nZ k))) rfl rfl (kn (n:=1+1) (by first|rfl|(rw[ak ae,fy,eu,dK (by omega)])) (by assumption) (by omega)) (by omega) (by assumption) (gh (by first|rfl|(rw[ak ae,fy,eu,dK (by omega)]))) ?_;refine ag ?_;refine ar (jF bg rfl) ?_;refine ac rfl (rh (c:=(Cv.arc k w f t)) (L:=[ov k,nZ k]) y.g (fun p E=>(iu y p (by rw[e];exact E)).1) (eQ rfl) (fun p E=>(iu y p (by rw[e];exact E)).2) (kY y.ne)) ?_;exact⟨(),al ⟨congrArg (fun q=>some (DV.v (.c (.s (List.length q) (am an q))))) er,trivial⟩ trivial rfl⟩
   ·have e:lk (Cv.arc k w f t)=[ov k]:=Wy N a2;have er:fz (Cv.arc k w f t) [ov k]=(bi (Cv.arc k w f t)):=by unfold bi;rw[if_pos (show((Cv.arc k w f t)).isArc=true from rfl),e]
    refine au ?_;refine cD (t:=6) (m:=20) (us:=ai (ov k)) rfl rfl (kn (n:=1) (by first|rfl|(rw[ak ae,fy,eu,dK (by omega)])) (by assumption) (by omega)) (by omega) (by assumption) (gh (by first|rfl|(rw[ak ae,fy,eu,dK (by omega)]))) ?_;refine ag ?_;refine ar (jF bg rfl) ?_;refine ac rfl (rh (c:=(Cv.arc k w f t)) (L:=[ov k]) y.g (fun p E=>(iu y p (by rw[e];exact E)).1) (eQ rfl) (fun p E=>(iu y p (by rw[e];exact E)).2) (kY y.ne)) ?_;exact⟨(),al ⟨congrArg (fun q=>some (DV.v (.c (.s (List.length q) (am an q))))) er,trivial⟩ trivial rfl⟩
  ·refine au<|ab<|ab<|ag ?_;refine ar (jF bg rfl) ?_;refine ac rfl (Gc hk hf ht gR) ?_;refine aA rfl (fun a3=>?_) (fun a3=>?_)
   ·have e:lk (Cv.arc k w f t)=[nZ k]:=Xo N a3;have er:fz (Cv.arc k w f t) [nZ k]=(bi (Cv.arc k w f t)):=by unfold bi;rw[if_pos (show((Cv.arc k w f t)).isArc=true from rfl),e]
    refine ag ?_;refine ar (br (n:=1) (us:=ai (nZ k)) jg rfl rfl rfl (by decide) (by decide) rfl) ?_;refine DL.mk<|kq (ys:=ai (nZ k)) jg rfl rfl rfl (by decide) (by decide) (by decide) rfl rfl (fun e3 e8 c8 d0 d1=>fa ?_);refine cD (t:=6) (m:=20) (us:=ai (nZ k)) rfl rfl (kn (n:=1) (by first|rfl|(rw[ak ae,fy,eu,dK (by omega)])) (by assumption) (by omega)) (by omega) (by assumption) (gh (by first|rfl|(rw[ak ae,fy,eu,dK (by omega)]))) ?_;refine ag ?_;refine ar (jF bg rfl) ?_;refine ac rfl (rh (c:=(Cv.arc k w f t)) (L:=[nZ k]) y.g (fun p E=>(iu y p (by rw[e];exact E)).1) (eQ rfl) (fun p E=>(iu y p (by rw[e];exact E)).2) (kY y.ne)) ?_;exact⟨(),al ⟨congrArg (fun q=>some (DV.v (.c (.s (List.length q) (am an q))))) er,trivial⟩ trivial rfl⟩
   ·have e:lk (Cv.arc k w f t)=[]:=XL N a3;have er:fz (Cv.arc k w f t) []=(bi (Cv.arc k w f t)):=by unfold bi;rw[if_pos (show((Cv.arc k w f t)).isArc=true from rfl),e]
    refine au<|qm (t:=6) rfl<|ag ?_;refine ar (jF bg rfl) ?_;refine ac rfl (rh (c:=(Cv.arc k w f t)) (L:=[]) y.g (fun p E=>(iu y p (by rw[e];exact E)).1) (eQ rfl) (fun p E=>(iu y p (by rw[e];exact E)).2) (kY y.ne)) ?_;exact⟨(),al ⟨congrArg (fun q=>some (DV.v (.c (.s (List.length q) (am an q))))) er,trivial⟩ trivial rfl⟩
 ·rintro⟨⟩;try dsimp only
  refine ab<|cB<|cV (dj rfl) ?_;refine ce<|ab<|ab<|ag<|aw ?_;refine m8 (ι:={x9:Nat×Nat×List CellD // 1<=x9.1/\x9.1<=(bi (Cv.arc k w f t)).length/\x9.1<=x9.2.1/\x9.2.1<=maxLen/\x9.2.2.length=(x9.2.1-x9.1)*66}) (fun i=>⟨85,[(3,.v (.c (.s (((bi (Cv.arc k w f t))).length) (am an ((bi (Cv.arc k w f t))))))),(7,.o 83 i.1.1 i.1.2.1),(8,.v (.c (.i .i64 (i.1.1:Int))))],[(83,53,am an (fm ((bi (Cv.arc k w f t)).take i.1.1))++i.1.2.2)]⟩) (fun i=>(bi (Cv.arc k w f t)).length-i.1.1) ((bi (Cv.arc k w f t)).length) ?_ ?_
  ·refine ab<|ab<|ag ?_;refine aA rfl (fun b4=>?_) (fun b4=>?_)
   ·have R:0<(bi (Cv.arc k w f t)).length:=ue y;have W:CvV ((bi (Cv.arc k w f t)).getD 0 aK):=tF y _ (aY R);refine au<|ab<|aw<|ab<|ag<|ar (eI aK ae R dr rfl)<|ar (kz ae bg rfl)<|n8 (bQ bg rfl rfl rfl (ae _) rfl rfl) ?_;refine iq (ι:=Unit) (fun i=>⟨85,[(3,.v (.c (.s (((bi (Cv.arc k w f t))).length) (am an ((bi (Cv.arc k w f t))))))),(7,.z),(8,.v (.c (.i .i64 0))),(9,.p 9 0)],[(9,53,an (((bi (Cv.arc k w f t)).getD 0 aK).fwd))]⟩) ?_ ?_
    ·refine ab<|ag ?_;refine ar (bb (us:=ai (((bi (Cv.arc k w f t)).getD 0 aK)).p) bo rfl rfl (ja _) rfl rfl) ?_;refine ar (bb (us:=ai (((bi (Cv.arc k w f t)).getD 0 aK)).q) bo rfl rfl (jL _) rfl rfl) ?_;refine ac rfl (nH (fj W.g) (gA W.g)) ?_;refine aA rfl (fun a1=>?_) (fun a1=>?_)
     ·have m2:=L6 a1;refine ag ?_;refine ar (eG (ae _) bg rfl) ?_;refine ac rfl (Gq W) ?_;refine n8 (bQ bg rfl rfl rfl (ae _) (ae _) rfl) ?_;exact⟨(),al ⟨rfl,rfl,rfl,rfl,trivial⟩ ⟨congrArg (fun q=>some (53,an q)) m2.symm,trivial⟩ rfl⟩
     ·have m2:=MP a1;refine au ?_;exact⟨(),al ⟨rfl,rfl,rfl,rfl,trivial⟩ ⟨congrArg (fun q=>some (53,an q)) m2.symm,trivial⟩ rfl⟩
    ·rintro⟨⟩;try dsimp only
     refine ab<|ag<|ab<|aw ?_;refine bF (ι:=Nat) (fun i=>match i with|_=>⟨85,[(3,.v (.c (.s (((bi (Cv.arc k w f t))).length) (am an ((bi (Cv.arc k w f t))))))),(7,.z),(8,.v (.c (.i .i64 0))),(9,.p 9 0),(10,.v (.c (.i .i64 0)))],[(9,53,an (((bi (Cv.arc k w f t)).getD 0 aK).fwd))]⟩) (fun i=>0-i) 0 (al ⟨rfl,rfl,rfl,rfl,rfl,trivial⟩ ⟨rfl,trivial⟩ rfl) ?_;intro i;match i with
     |_=>
      show Dw _ _ ⟨85,[(3,.v (.c (.s (((bi (Cv.arc k w f t))).length) (am an ((bi (Cv.arc k w f t))))))),(7,.z),(8,.v (.c (.i .i64 0))),(9,.p 9 0),(10,.v (.c (.i .i64 0)))],[(9,53,an (((bi (Cv.arc k w f t)).getD 0 aK).fwd))]⟩ _;refine ab<|ab<|fk 13 []<|aq (u3 dr rfl rfl) ?_;refine aq (aQ rfl)<|cT rfl<|bn<|fk 9 []<|aq (zG dr rfl rfl rfl) ?_;refine aq (eG (ae _) bg rfl)<|aq (kT (us:=an ((bi (Cv.arc k w f t)).getD 0 aK).fwd) eF rfl (mC rfl (ae _)) (b7 (ae _)) (by decide) (by decide) rfl) ?_;refine aq (xk dr rfl rfl rfl) ?_;refine aq (yg eF rfl rfl (b7 (ae _)) (by decide) (by decide) (by decide) (by decide) rfl) ?_;refine DL.mk<|mV (q:=1) (ys:=an ((bi (Cv.arc k w f t)).getD 0 aK).fwd) (zs':=am an (fm ((bi (Cv.arc k w f t)).take 1))) eF rfl rfl (ae _) (by decide) (by decide) (by decide) rfl (by rw[HR R];exact(ez _).symm) rfl (fun c5 b8 d4 b6 b3=>fa ?_);refine ag<|ar (mg (r:=1) rfl rfl rfl rfl) ?_;exact⟨⟨⟨1,c5,b8⟩,by omega,by omega,by omega,b6,b3⟩,al ⟨rfl,rfl,rfl,trivial⟩ ⟨rfl,trivial⟩ rfl,by show(bi (Cv.arc k w f t)).length-1<(bi (Cv.arc k w f t)).length;omega⟩
   ·exact(of_decide_eq_false b4 (by omega)).elim
  ·rintro⟨⟨n,c,rs⟩,h1,h2,h3,h4,h5⟩;dsimp only at h1 h2 h3 h4 h5;dsimp only;refine ab<|ab<|ag ?_;refine aA rfl (fun I=>?_) (fun I=>?_)
   ·have R:n<(bi (Cv.arc k w f t)).length:=by have:=of_decide_eq_true I;omega
    have W:CvV ((bi (Cv.arc k w f t)).getD n aK):=tF y _ (aY R);have u:(fm ((bi (Cv.arc k w f t)).take n)).length=n:=by rw[fy,eu];omega
    have hO: ∀d∈(fm ((bi (Cv.arc k w f t)).take n)),CvV d:=fun d hd=>by obtain⟨x,hx,e⟩:=xv hd;rw[e];exact I0 (tF y x (wn hx))
    have U:n<=c:=h3;refine au<|ab<|aw<|ab<|ag<|ar (eI aK ae R dr rfl)<|ar (kz ae bg rfl)<|n8 (bQ bg rfl rfl rfl (ae _) rfl rfl) ?_;refine iq (ι:=Unit) (fun i=>⟨85,[(3,.v (.c (.s (((bi (Cv.arc k w f t))).length) (am an ((bi (Cv.arc k w f t))))))),(7,.o 83 n c),(8,.v (.c (.i .i64 (n:Int)))),(9,.p 9 0)],[(9,53,an (((bi (Cv.arc k w f t)).getD n aK).fwd)),(83,53,am an (fm ((bi (Cv.arc k w f t)).take n))++rs)]⟩) ?_ ?_
    ·refine ab<|ag ?_;refine ar (bb (us:=ai (((bi (Cv.arc k w f t)).getD n aK)).p) bo rfl rfl (ja _) rfl rfl) ?_;refine ar (bb (us:=ai (((bi (Cv.arc k w f t)).getD n aK)).q) bo rfl rfl (jL _) rfl rfl) ?_;refine ac rfl (nH (fj W.g) (gA W.g)) ?_;refine aA rfl (fun H=>?_) (fun H=>?_)
     ·have m2:=L6 H;refine ag ?_;refine ar (eG (ae _) bg rfl) ?_;refine ac rfl (Gq W) ?_;refine n8 (bQ bg rfl rfl rfl (ae _) (ae _) rfl) ?_;exact⟨(),al ⟨rfl,rfl,rfl,rfl,trivial⟩ ⟨congrArg (fun q=>some (53,an q)) m2.symm,rfl,trivial⟩ rfl⟩
     ·have m2:=MP H;refine au ?_;exact⟨(),al ⟨rfl,rfl,rfl,rfl,trivial⟩ ⟨congrArg (fun q=>some (53,an q)) m2.symm,rfl,trivial⟩ rfl⟩
    ·rintro⟨⟩;try dsimp only
     refine ab<|ag<|ab<|aw<|bF (ι:={j:Nat // j<=n/\ ∀r,r<j->fL ((fm ((bi (Cv.arc k w f t)).take n)).getD r aK) ((bi (Cv.arc k w f t)).getD n aK).fwd<=0}) (fun i=>⟨85,[(3,.v (.c (.s (((bi (Cv.arc k w f t))).length) (am an ((bi (Cv.arc k w f t))))))),(7,.o 83 n c),(8,.v (.c (.i .i64 (n:Int)))),(9,.p 9 0),(10,.v (.c (.i .i64 (i.1:Int))))],[(9,53,an (((bi (Cv.arc k w f t)).getD n aK).fwd)),(83,53,am an (fm ((bi (Cv.arc k w f t)).take n))++rs)]⟩) (fun i=>n-i.1) ⟨0,eo _,fun r h=>absurd h (Nat.not_lt_zero r)⟩ (al ⟨rfl,rfl,rfl,rfl,rfl,trivial⟩ ⟨rfl,rfl,trivial⟩ rfl) ?_;rintro⟨j,D,J⟩;replace D:j<=n:=D;replace J: ∀r,r<j->fL ((fm ((bi (Cv.arc k w f t)).take n)).getD r aK) ((bi (Cv.arc k w f t)).getD n aK).fwd<=0:=J;dsimp only;refine ab<|ab<|nP 13 rfl rfl<|dU 2<|bG (mW dr rfl rfl) ?_;refine dU 1 ?_;refine Ma (aQ rfl) (fun c1 a0=>?_);cases c1
     ·have g2:n<=j:=by have:=of_decide_eq_false a0;omega
      have hs:uG ((bi (Cv.arc k w f t)).getD n aK).fwd (fm ((bi (Cv.arc k w f t)).take n))=j:=t7 _ (by rw[u];omega) J (.inl (by rw[u];omega));refine Cl<|dE<|ce<|cT rfl<|bn<|fk 9 []<|aq (kZ (q:=j) dr rfl rfl (by omega) rfl) ?_;refine aq (eG (ae _) bg rfl)<|aq (kT (us:=an ((bi (Cv.arc k w f t)).getD n aK).fwd) eF rfl (mC rfl (ae _)) (b7 (ae _)) (by decide) (by decide) rfl) ?_;refine aq (nE (q:=j) dr rfl rfl (by omega) (by omega) rfl) ?_;refine aq (pA (q:=n-j) (ys:=am an ((fm ((bi (Cv.arc k w f t)).take n)).drop j)) eF rfl rfl rfl (BH u D U) (Cb u D h5 U) (by omega) (by omega) (b7 (ae _)) (by rw[ak ae,eP,u]) (by decide) (by decide) (by omega) (jn (by omega)) rfl) ?_;refine DL.mk<|lU (n:=j) (c:=c) (q:=1+(n-j)) (us:=am an ((fm ((bi (Cv.arc k w f t)).take n)).take j)) (rest:=am an ((fm ((bi (Cv.arc k w f t)).take n)).drop j)++rs) (N':=n+1) (zs':=am an (fm ((bi (Cv.arc k w f t)).take (n+1)))) eF rfl rfl rfl (uP j) (by rw[ak ae,eu,u,dK D]) (by rw[dc,ak ae,eP,u,h5];omega) (by rw[dc,ae,ak ae,eP,u];omega) (by decide) (by omega) (by assumption) (by omega) (jn (by omega)) (.inl rfl) (by omega) (by rw[tu R];exact vk hs) rfl (fun b1 b0 c0 a6 a9=>fa ?_);refine ag<|ar (bu (by omega) rfl) ?_;exact⟨⟨⟨n+1,b1,b0⟩,by omega,R,by omega,a6,a9⟩,al ⟨rfl,rfl,rfl,trivial⟩ ⟨rfl,trivial⟩ rfl,by show(bi (Cv.arc k w f t)).length-(n+1)<(bi (Cv.arc k w f t)).length-n;omega⟩
     ·have g2:j<n:=by have:=of_decide_eq_true a0;omega
      refine dU 2<|bG (bO dr rfl rfl (by omega) rfl) ?_;refine bG (bb (us:=an ((fm ((bi (Cv.arc k w f t)).take n)).getD j aK)) bg rfl rfl (Y6 (by rw[u];omega)) (ae _) rfl) ?_;refine bG (eG (ae _) bg rfl)<|bG (j9 rfl (TR (hO _ (aY (by rw[u];omega))) (I0 W)))<|Cl<|dE<|ce ?_;refine aA rfl (fun K=>?_) (fun K=>?_)
      ·have g3:fL ((fm ((bi (Cv.arc k w f t)).take n)).getD j aK) ((bi (Cv.arc k w f t)).getD n aK).fwd<=0:=of_decide_eq_true K;refine au<|aw<|ag<|ar (bu (by omega) rfl) ?_;exact⟨⟨j+1,g2,fun r hr=>(lH.1 hr).elim (J r) (fun e=>by rw[e];exact g3)⟩,al ⟨rfl,rfl,rfl,rfl,rfl,trivial⟩ ⟨rfl,rfl,trivial⟩ rfl,by show n-(j+1)<n-j;omega⟩
      ·have hs:uG ((bi (Cv.arc k w f t)).getD n aK).fwd (fm ((bi (Cv.arc k w f t)).take n))=j:=t7 _ (by rw[u];omega) J (.inr (of_decide_eq_false K));refine bn<|fk 9 []<|aq (kZ (q:=j) dr rfl rfl (by omega) rfl) ?_;refine aq (eG (ae _) bg rfl)<|aq (kT (us:=an ((bi (Cv.arc k w f t)).getD n aK).fwd) eF rfl (mC rfl (ae _)) (b7 (ae _)) (by decide) (by decide) rfl) ?_;refine aq (nE (q:=j) dr rfl rfl (by omega) (by omega) rfl) ?_;refine aq (pA (q:=n-j) (ys:=am an ((fm ((bi (Cv.arc k w f t)).take n)).drop j)) eF rfl rfl rfl (BH u D U) (Cb u D h5 U) (by omega) (by omega) (b7 (ae _)) (by rw[ak ae,eP,u]) (by decide) (by decide) (by omega) (jn (by omega)) rfl) ?_;refine DL.mk<|lU (n:=j) (c:=c) (q:=1+(n-j)) (us:=am an ((fm ((bi (Cv.arc k w f t)).take n)).take j)) (rest:=am an ((fm ((bi (Cv.arc k w f t)).take n)).drop j)++rs) (N':=n+1) (zs':=am an (fm ((bi (Cv.arc k w f t)).take (n+1)))) eF rfl rfl rfl (uP j) (by rw[ak ae,eu,u,dK D]) (by rw[dc,ak ae,eP,u,h5];omega) (by rw[dc,ae,ak ae,eP,u];omega) (by decide) (by omega) (by assumption) (by omega) (jn (by omega)) (.inl rfl) (by omega) (by rw[tu R];exact vk hs) rfl (fun b2 b5 c3 a4 a5=>fa ?_);refine ag<|ar (bu (by omega) rfl) ?_;exact⟨⟨⟨n+1,b2,b5⟩,by omega,R,by omega,a4,a5⟩,al ⟨rfl,rfl,rfl,trivial⟩ ⟨rfl,trivial⟩ rfl,by show(bi (Cv.arc k w f t)).length-(n+1)<(bi (Cv.arc k w f t)).length-n;omega⟩
   ·have E:n=(bi (Cv.arc k w f t)).length:=by have:=of_decide_eq_false I;omega
    refine bn<|ab<|ag ?_;refine cD (t:=2) (m:=66) (us:=am an (fm ((bi (Cv.arc k w f t)).take n))) rfl rfl (kn (n:=n) (by first|rfl|(rw[ak ae,fy,eu,dK (by omega)])) (by assumption) (by omega)) (by omega) (by assumption) (gh (by first|rfl|(rw[ak ae,fy,eu,dK (by omega)]))) ?_;refine bc ?_;rw[show oI (Cv.arc k w f t)=(fm ((bi (Cv.arc k w f t)).take n)) from by rw[E,ud];rfl,show(fm ((bi (Cv.arc k w f t)).take n)).length=n from by rw[fy,eu];omega];exact ah (aj aa)
theorem adx (g:CvV c):Ok Tryz.prog 160 [.a (an c)] [.c (.s (((oI c)).length) (am an ((oI c))))]:=by
 cases c with
 |seg l f t=>exact adV g
 |arc k w f t=>exact afe g
theorem adb {d:Cv}(x:c.good) (u:d.good):Ok Tryz.prog 159 [.a (an c),.a (an d)] [.c (.b (Uq c d))]:=by
 refine cj Tryz.func159 rfl ?_;refine ar (eG (ae _) bg rfl) ?_;refine ar (eG (ae _) bg rfl) ?_;refine ac rfl (Gi x u) ?_;refine jC (aQ rfl) (fun D g=>?_);cases D
 ·refine ar (aQ rfl)<|ar (aQ rfl)<|ah ?_;rw[show Uq c d=false from by unfold Uq;rw[g];rfl];exact aj aa
 ·refine ar (cK jY rfl rfl (wY _) rfl) ?_;refine ar (cK jY rfl rfl (wY _) rfl) ?_;refine ar (xy rfl rfl f5 rfl) ?_;refine jC (aQ rfl) (fun c2 h=>?_);cases c2
  ·refine ar (aQ rfl)<|ah ?_;rw[show Uq c d=false from by unfold Uq;rw[g,h];rfl];exact aj aa
  ·refine ar (bb (us:=ai c.p) bo rfl rfl (ja _) rfl rfl) ?_;refine ar (bb (us:=ai d.p) bo rfl rfl (ja _) rfl rfl) ?_;refine ac rfl (pO (fj x) (fj u)) ?_;refine jC (aQ rfl) (fun y j=>?_);cases y
   ·refine ah ?_;rw[show Uq c d=false from by unfold Uq;rw[g,h,j];rfl];exact aj aa
   ·refine ar (bb (us:=ai c.q) bo rfl rfl (jL _) rfl rfl) ?_;refine ar (bb (us:=ai d.q) bo rfl rfl (jL _) rfl rfl) ?_;refine ac rfl (pO (gA x) (gA u))<|ah ?_;rw[show Uq c d=(cP c.q d.q==0) from by unfold Uq;rw[g,h,j];rfl];exact aj aa
structure GKb (k:Ci):Prop where
 x:Rz 100 k.x
 y:Rz 100 k.y
 q:Rz 2 k.q
structure GLb (l:Ln):Prop where
 a:Rz 4 l.a
 b:Rz 4 l.b
 c:Rz 100 l.c
theorem GK.kb (h:GK k):GKb k:=⟨h.x.mono (by decide),h.y.mono (by decide),h.q⟩
theorem GL.lb (h:GL l):GLb l:=⟨h.a,h.b,h.c.mono (by decide)⟩
def Cv.gdB:Cv->Prop
 | .seg l p q=>GLb l/\GB p/\GB q
 | .arc k _ p q=>GKb k/\GB p/\GB q
theorem Cv.good.gdB (h:c.good):c.gdB:=by
 cases c with
 |seg l p q=>exact⟨h.1.lb,h.2.1.gb,h.2.2.gb⟩
 |arc k w p q=>exact⟨h.1.kb,h.2.1.gb,h.2.2.gb⟩
theorem Ta (h:c.gdB):GB c.p:=by cases c<;>exact h.2.1
theorem Mp (h:c.gdB):GB c.q:=by cases c<;>exact h.2.2
def vh (v:Rat×Rat) (p:Pt):Pt:=⟨p.a1+v.1,p.b1,p.a2+v.2,p.b2,p.c⟩
def shK (v:Rat×Rat) (k:Ci):Ci:=⟨k.x+v.1,k.y+v.2,k.q⟩
def shL (v:Rat×Rat) (l:Ln):Ln:=⟨l.a,l.b,l.c+(l.a*v.1+l.b*v.2)⟩
def sY (v:Rat×Rat):Cv->Cv
 | .seg l p q=>.seg (shL v l) (vh v p) (vh v q)
 | .arc k w p q=>.arc (shK v k) w (vh v p) (vh v q)
section
variable {v:Rat×Rat}{p q:Pt}{c:Cv}
theorem Yq:(sY v c).p=vh v c.p:=by cases c<;>rfl
theorem PN:(sY v c).q=vh v c.q:=by cases c<;>rfl
theorem Bv (a b t:Rat):a+t-(b+t)=a-b:=by grind
theorem Nh:cx (vh v p) (vh v q)=cx p q:=by show km (p.a1+v.1-(q.a1+v.1)) _ _ _ _ _=_;rw[Bv];rfl
theorem Yo:cy (vh v p) (vh v q)=cy p q:=by show km (p.a2+v.2-(q.a2+v.2)) _ _ _ _ _=_;rw[Bv];rfl
theorem Li:(sY v c).vert=c.vert:=by
 cases c with
 |seg l p q=>show(cx _ _==0)=_;rw[Nh];rfl
 |arc=>rfl
theorem MB:(sY v c).over (vh v p)=c.over p:=by unfold Cv.over;rw[Yq,PN,Nh,Nh]
theorem abu:mA (vh v p) (shK v k).y=mA p k.y:=by show bU (p.a2+v.2-(k.y+v.2)) _ _=_;rw[Bv];rfl
theorem aaV:j7 (shK v k) (vh v p)=j7 k p:=by have h:(vh v p).a1-(shK v k).x=p.a1-k.x:=Bv _ _ _;have g:(vh v p).a2-(shK v k).y=p.a2-k.y:=Bv _ _ _;unfold j7 KU Dc;rw[h,g];rfl
theorem V6:jz (shL v l) (vh v p)=jz l p:=by
 have h:vA (shL v l) (vh v p)=vA l p:=by show l.a*(p.a1+v.1)+l.b*(p.a2+v.2)-(l.c+(l.a*v.1+l.b*v.2))=l.a*p.a1+l.b*p.a2-l.c;grind
 unfold jz;rw[h];rfl
theorem VI:yp (sY v c) (vh v p)=yp c p:=by
 unfold yp;rw[Li,Yq,PN,Yo,Yo];cases c with
 |seg l f t=>show(if _ then _ else jz _ _*aJ l.b 0)=_;rw[V6]
 |arc k w f t=>show(if _ then _ else if w then(if mA _ _<0 then-1 else-j7 _ _) else if mA _ _>0 then 1 else j7 _ _)=_;rw[abu,aaV]
theorem MU:ii (sY v c) (vh v p)=ii c p:=by unfold ii;rw[MB,VI]
theorem L2:iK (sY v c) (vh v p)=iK c p:=by unfold iK;rw[MB]
end
def GW (c:Cv) (p:Pt):Bool:=iK c p==0&&ii c p==0
def jX (c:Cv) (p:Pt):Bool:=iK c p==0&&(ii c p==1&&(!c.vert&&decide (cx p c.q<0)))
def nt (L:List Cv) (p:Pt):Nat->Nat
 |0=>0
 |n+1=>nt L p n+(if jX (L.getD n aK) p then 1 else 0)
def Un (L:List Cv) (p:Pt):Bool:=(List.range L.length).any fun i=>GW (L.getD i aK) p
def jI (L:List Cv) (p:Pt):Int:=if Un L p then 0 else if nt L p L.length%2=1 then 1 else-1
theorem R3:GW (sY v c) (vh v p)=GW c p:=by unfold GW;rw[L2,MU]
theorem VB:jX (sY v c) (vh v p)=jX c p:=by unfold jX;rw[L2,MU,Li,PN,Nh]
theorem CZ (h:i<L.length):(L.map (sY v)).getD i aK=sY v (L.getD i aK):=by rw[List.getD,List.getD,lu,dY h];rfl
theorem LK {v:Rat×Rat}{L:List Cv}{p:Pt}: ∀n,n<=L.length->nt (L.map (sY v)) (vh v p) n=nt L p n
 |0,_=>rfl
 |n+1,h=>by show nt _ _ n+_=nt L p n+_;rw[LK n (by omega),CZ (by omega),VB]
theorem Ap:jI (L.map (sY v)) (vh v p)=jI L p:=by
 have g:Un (L.map (sY v)) (vh v p)=Un L p:=by
  unfold Un;rw[sV,Bool.eq_iff_iff,vC,vC];constructor<;>rintro⟨i,hi,h⟩<;>refine⟨i,hi,?_⟩<;>have hl:=iC.1 hi;·rw[CZ hl,R3] at h;exact h
  ·rw[CZ hl,R3];exact h
 unfold jI;rw[g,sV,LK _ (bd _)]
theorem X7 (hi:i<L.length) (h:GW (L.getD i aK) p=true):Un L p=true:=by unfold Un;rw[vC];exact⟨i,iC.2 hi,h⟩
theorem aeK (h: ∀i,i<L.length->GW (L.getD i aK) p=false):Un L p=false:=by unfold Un;rw[List.any_eq_false];intro i hi;rw[h i (iC.1 hi)];decide
theorem xM (L:List Cv) (p:Pt): ∀n,nt L p n<=n
 |0=>bd _
 |n+1=>by have:=xM L p n;show nt L p n+(if _ then _ else _)<=_;split<;>omega
theorem ZX (u:0<=c.p.c) (x:0<=p.c) (h:iK c p=0): ¬cx p c.p<0:=by
 have j:c.over p=true:=by
  cases g:c.over p with
  |true=>rfl
  |false=>unfold iK at h;rw[g] at h;cases h
 unfold Cv.over at j;rw[de] at j;have y:=of_decide_eq_true j.1;rw[qu u x,CV] at y;rw[qu x u];omega
def ovR (c:Cv) (p:Pt):Int:=if c.vert then 0 else if cx p c.q>=0 then 0 else if cx p c.p<0 then 0 else ii c p
def ovE (c:Cv) (p:Pt):Bool:=if c.vert then false else if cx p c.q>=0 then false else if cx p c.p<0 then false else iK c p==0
theorem UN (c:Cv) (p:Pt): -1<=ii c p/\ii c p<=1:=by
 unfold ii;split
 ·unfold yp;split
  ·split;·omega
   ·split<;>omega
  ·cases c with
   |seg l f t=>have:=gY (M2 l p) (dF l.b 0);exact⟨this.1,this.2⟩
   |arc k w f t=>
    have:=Gp k p;show-1<=(if w then(if mA p k.y<0 then-1 else-j7 k p) else if mA p k.y>0 then 1 else j7 k p)/\(if w then(if mA p k.y<0 then-1 else-j7 k p) else if mA p k.y>0 then 1 else j7 k p)<=1;split<;>split<;>omega
 ·omega
theorem aaD (j:0<=c.p.c) (u:0<=p.c):jX c p=(ovE c p&&decide (ovR c p>0)):=by
 have y:=UN c p;unfold ovE ovR jX;cases x:c.vert with
 |true=>simp
 |false=>
  by_cases g:cx p c.q>=0;·simp[g,show ¬cx p c.q<0 by omega]
  ·by_cases h:cx p c.p<0
   ·have:(iK c p==0)=false:=by rw[beq_eq_false_iff_ne];exact fun e=>ZX j u e h
    simp[g,h,this]
   ·simp[g,h,show cx p c.q<0 by omega];congr 1;rw[Bool.eq_iff_iff];simp;omega
def GF (L:List Cv) (p:Pt):Nat->Bool
 |0=>false
 |n+1=>GF L p n||GW (L.getD n aK) p
theorem Ly {L:List Cv}{p:Pt}: ∀n,GF L p n=false↔ ∀i,i<n->GW (L.getD i aK) p=false
 |0=>⟨fun _ i h=>absurd h (Nat.not_lt_zero i),fun _=>rfl⟩
 |n+1=>by show(GF L p n||GW (L.getD n aK) p)=false↔_;rw[Bool.or_eq_false_iff,Ly n];exact⟨fun h i hi=>(lH.1 hi).elim (h.1 i) fun e=>by rw[e];exact h.2,fun h=>⟨fun i hi=>h i (by omega),h n (by omega)⟩⟩
theorem Rn:Un L p=GF L p L.length:=by
 cases h:GF L p L.length with
 |false=>exact aeK ((Ly _).1 h)
 |true=>
  cases g:Un L p with
  |true=>rfl
  |false=>
   rw[(Ly _).2 fun i hi=>?_] at h;·cases h
   ·cases e:GW (L.getD i aK) p with
    |false=>rfl
    |true=>rw[X7 hi e] at g;cases g
theorem MS (h:GF L p L.length=true):jI L p=0:=if_pos (Rn.trans h)
theorem LW (h:GF L p L.length=false) (g:nt L p L.length%2=1):jI L p=1:=(if_neg (by rw[Rn,h];decide)).trans (if_pos g)
theorem HD (h:GF L p L.length=false) (g: ¬nt L p L.length%2=1):jI L p= -1:=(if_neg (by rw[Rn,h];decide)).trans (if_neg g)
theorem M6 (h:jX (L.getD n aK) p=true):nt L p (n+1)=nt L p n+1:=by show nt L p n+(if _ then 1 else 0)=_;rw[if_pos h]
theorem sR (h:jX (L.getD n aK) p=false):nt L p (n+1)=nt L p n:=by show nt L p n+(if _ then 1 else 0)=_;rw[if_neg (by rw[h];decide)];rfl
theorem tX (g:GP p) (j:Rz 2 v.1) (h:Rz 2 v.2):GB (vh v p):=⟨(g.a1.add j).mono (by decide),g.b1.mono (by decide),(g.a2.add h).mono (by decide),g.b2.mono (by decide),g.c.mono (by decide),g.v⟩
theorem Lf (g:c.good) (h:Rz 2 v.1) (j:Rz 2 v.2):(sY v c).gdB:=by
 cases c with
 |seg l p q=>exact⟨⟨g.1.a,g.1.b,(g.1.c.add ((g.1.a.mul h).add (g.1.b.mul j))).mono (by decide)⟩,tX g.2.1 h j,tX g.2.2 h j⟩
 |arc k w p q=>exact⟨⟨(g.1.x.add h).mono (by decide),(g.1.y.add j).mono (by decide),g.1.q⟩,tX g.2.1 h j,tX g.2.2 h j⟩
theorem VH (h:n<L.length):((L.take (n+1)).map (sY v))=(L.take n).map (sY v)++[sY v (L.getD n aK)]:=by rw[List.take_add_one,dY h,zw];show _++[sY v L[n]]=_;congr 2;rw[List.getD,dY h];rfl
theorem Tv {s:List Fm}(h:(bP s).2=true):(bP s).1.length<=100000:=by
 unfold bP at h⊢;split at h
 ·rename_i g;rw[if_pos g];have:=of_decide_eq_true (Bool.and_eq_true_iff.1 h).2;exact fw this (by decide)
 ·cases h
def OV (v:Rat×Rat) (L:List Cv) (n:Nat):List Cv:=(L.take n).map (sY v)
theorem Ax (h:n<=L.length):(OV v L n).length=n:=by unfold OV;rw[sV,eu];omega
theorem Xy:OV v L L.length=L.map (sY v):=by unfold OV;rw[ud]
theorem Zt (h:n<L.length):OV v L (n+1)=OV v L n++[sY v (L.getD n aK)]:=VH h
theorem Dq (h:GB p):0<=p.c:=vF h.v
theorem MH (g:GKb k) (h:GB p):Rz 40200 (p.a1-k.x)/\Rz 40200 (p.a2-k.y):=⟨(h.a1.sub g.x).mono (by decide),(h.a2.sub g.y).mono (by decide)⟩
theorem Wr (u:GKb k) (g:GB p):Rz 500000 (JS (p.a1-k.x) (p.a2-k.y) p.b1 p.b2 p.c):=by obtain⟨j,h⟩:=MH u g;exact((((j.mul j).add (h.mul h)).add (((g.b1.mul g.b1).add (g.b2.mul g.b2)).mul g.c))).mono (by decide)
theorem Vn (g:GKb k) (h:GB p):Rz 500010 (KU k p):=((Wr g h).add g.q.neg).mono (by decide)
theorem WN (u:GKb k) (g:GB p):Rz 500000 (Dc k p):=by obtain⟨j,h⟩:=MH u g;exact(((j.mul g.b1).add (h.mul g.b2)).add ((j.mul g.b1).add (h.mul g.b2))).mono (by decide)
theorem aaJ (hl:GLb l) (g:GB p):Rz 200000 (vA l p):=(((hl.a.mul g.a1).add (hl.b.mul g.a2)).sub hl.c).mono (by decide)
theorem ZN (hl:GLb l) (g:GB p):Rz 200000 (vB l p):=((hl.a.mul g.b1).add (hl.b.mul g.b2)).mono (by decide)
theorem OP (h:GB p) (g:GB q):Ok Tryz.prog 12 [.a ((cR p.a1++cR p.b1++cR (zc p.b1 p.c))),.a ((cR q.a1++cR q.b1++cR (zc q.b1 q.c)))] [.c (.i .i64 (cx p q))]:=u7 (h.a1.mono (by decide)) (h.b1.mono (by decide)) (jh (h.c.mono (by decide)) (by decide)) (g.a1.mono (by decide)) (g.b1.mono (by decide)) (jh (g.c.mono (by decide)) (by decide)) ((h.a1.sub g.a1).mono (by decide)) (nO (Dq h)) (nO (Dq g))
theorem agH (h:GB p) (g:GB q):Ok Tryz.prog 41 [.a ((cR p.a1++cR p.b1++cR (zc p.b1 p.c))),.a ((cR q.a1++cR q.b1++cR (zc q.b1 q.c)))] [.c (.b (cx p q==0))]:=K3 (h.a1.mono (by decide)) (h.b1.mono (by decide)) (jh (h.c.mono (by decide)) (by decide)) (g.a1.mono (by decide)) (g.b1.mono (by decide)) (jh (g.c.mono (by decide)) (by decide)) ((h.a1.sub g.a1).mono (by decide)) (nO (Dq h)) (nO (Dq g))
theorem adr (h:GB p) (g:GB q):Ok Tryz.prog 12 [.a ((cR p.a2++cR p.b2++cR (zc p.b2 p.c))),.a ((cR q.a2++cR q.b2++cR (zc q.b2 q.c)))] [.c (.i .i64 (cy p q))]:=u7 (h.a2.mono (by decide)) (h.b2.mono (by decide)) (jh (h.c.mono (by decide)) (by decide)) (g.a2.mono (by decide)) (g.b2.mono (by decide)) (jh (g.c.mono (by decide)) (by decide)) ((h.a2.sub g.a2).mono (by decide)) (nO (Dq h)) (nO (Dq g))
theorem af8 (g:GB p) {v:Rat}(h:Rz 100 v):Ok Tryz.prog 39 [.a ((cR p.a2++cR p.b2++cR (zc p.b2 p.c))),dR v] [.c (.i .i64 (mA p v))]:=CS (I7 (g.a2.mono (by decide)) (g.b2.mono (by decide)) (jh (g.c.mono (by decide)) (by decide)) (h.mono (by decide)) ((g.a2.sub h).mono (by decide)) (nO (Dq g))) (UX (nO (Dq g)))
theorem M8 (j:c.gdB) (h:GB p):Ok Tryz.prog 35 [.a (an c),.a ((cR p.a1++cR p.b1++cR (zc p.b1 p.c)))] [.c (.b (c.over p))]:=by
 refine cj Tryz.func35 rfl<|cE 15 [] ?_;refine aq (bb (us:=ai c.p) bo rfl rfl (ja _) rfl rfl) ?_;refine aG rfl (mK) ?_;refine aG rfl (OP (Ta j) h) ?_;refine sL (aQ rfl) (fun u g=>?_);cases u
 ·refine ah ?_;rw[show c.over p=false from by unfold Cv.over;rw[g];rfl];exact aj aa
 ·refine aq (bb (us:=ai c.q) bo rfl rfl (jL _) rfl rfl) ?_;refine aG rfl (mK)<|aG rfl (OP h (Mp j))<|ah ?_;rw[show c.over p=decide (cx p c.q<=0) from by unfold Cv.over;rw[g];rfl];exact aj aa
theorem G0 (g:GB f) (h:GB t):Ok Tryz.prog 11 [.a (([.b false]++eJ l++mG++[.b false]++ai f++ai t))] [.c (.b ((Cv.seg l f t).vert))]:=by refine cj Tryz.func11 rfl<|cE 13 [] ?_;refine aq (dL jY rfl) ?_;refine aq (aQ rfl) ?_;refine aq (dh (ai f) bo rfl (by kernel_rfl)) ?_;refine aG rfl (mK) ?_;refine aq (dh (ai t) bo rfl (by kernel_rfl)) ?_;refine aG rfl (mK) ?_;refine aG rfl (agH g h) ?_;exact ah (aj aa)
theorem Hi:Ok Tryz.prog 11 [.a (([.b true]++qx++dy k++[.b w]++ai f++ai t))] [.c (.b ((Cv.arc k w f t).vert))]:=by refine cj Tryz.func11 rfl<|cE 13 [] ?_;refine aq (dL jY rfl) ?_;refine aq (aQ rfl) ?_;exact ah (aj aa)
theorem Ps (U:GKb k) (N:GB p):Ok Tryz.prog 107 [.a (dy k),.a (ai p)] [.c (.i .i64 (YY k p)),.c (.b (Y8 k p))]:=by
 refine cj Tryz.func107 rfl ?_;refine ac rfl (RJ (N.a1.m_) (N.b1.m_) (N.c.m_) (U.x.m_)) ?_;refine ac rfl (RJ (N.a2.m_) (N.b2.m_) (N.c.m_) (U.y.m_)) ?_;refine ac rfl (ga (U.q.m_)) ?_;refine jC (aQ rfl) (fun c1 j=>?_);cases c1
 ·refine jC (aQ rfl) (fun c2 D=>?_);cases c2
  ·refine cU rfl (fun H=>?_) (fun H=>?_)
   ·have R:Uk k p=false:=by unfold Uk;rw[show Jy p.a1 p.b1 p.c k.x=true from df j,show Jy p.a2 p.b2 p.c k.y=true from df D,show gV k.q=false from gy H];rfl
    have u:K9 k p=false:=by unfold K9;rw[R];rfl
    have h:Jw k p=false:=by unfold Jw;rw[u];rfl
    have g:Db k p=false:=by unfold Db;rw[h];rfl
    refine ah ?_;rw[(pt g).1,(pt g).2];exact aj (aj aa)
   ·have W:Uk k p=true:=by unfold Uk;rw[show Jy p.a1 p.b1 p.c k.x=true from df j,show Jy p.a2 p.b2 p.c k.y=true from df D,show gV k.q=true from df H];rfl
    refine ac rfl (sF (Gm _ _ _ _) (Gr _ _ _ _) (Gm _ _ _ _) (Gr _ _ _ _))<|ac rfl (sF (Gm _ _ _ _) (Gr _ _ _ _) (Gm _ _ _ _) (Gr _ _ _ _)) ?_;refine jC (aQ rfl) (fun c4 K=>?_);cases c4
    ·refine cU rfl (fun E=>?_) (fun E=>?_)
     ·have u:K9 k p=false:=by unfold K9;rw[W,show Xx k p=true from df K,show aa2 k p=false from gy E];rfl
      have h:Jw k p=false:=by unfold Jw;rw[u];rfl
      have g:Db k p=false:=by unfold Db;rw[h];rfl
      refine ah ?_;rw[(pt g).1,(pt g).2];exact aj (aj aa)
     ·have n2:K9 k p=true:=by unfold K9;rw[W,show Xx k p=true from df K,show aa2 k p=true from df E];rfl
      refine ac rfl (pZ M4.1 M4.2 Lz.1 Lz.2) ?_;refine cU rfl (fun I=>?_) (fun I=>?_)
      ·have h:Jw k p=false:=by unfold Jw;rw[n2,show smK k p=false from gy I];rfl
       have g:Db k p=false:=by unfold Db;rw[h];rfl
       refine ah ?_;rw[(pt g).1,(pt g).2];exact aj (aj aa)
      ·have n3:Jw k p=true:=by unfold Jw;rw[n2,show smK k p=true from df I];rfl
       refine cE 10 [15,999999] ?_;refine aG rfl (Fz (pN _) (pD _)) ?_;refine aG rfl (pZ SO.1 SO.2 (Bd.neg (pD _)) (Bd.neg (pN _))) ?_;refine DQ.mk<|kI (fJ mz rfl) rfl rfl rfl rfl<|ek ?_;refine cU rfl (fun J=>?_) (fun J=>?_)
       ·have g:Db k p=false:=by unfold Db;rw[n3,show rsK k p=false from gy J];rfl
        refine ah ?_;rw[(pt g).1,(pt g).2];exact aj (aj aa)
       ·have n4:Db k p=true:=by unfold Db;rw[n3,show rsK k p=true from df J];rfl
        refine ac rfl (Cx)<|ah ?_;rw[(JW n4).1,(JW n4).2];exact aj (aj aa)
    ·refine vr rfl ?_;have u:K9 k p=false:=by unfold K9;rw[W,show Xx k p=false from gy K];rfl
     have h:Jw k p=false:=by unfold Jw;rw[u];rfl
     have g:Db k p=false:=by unfold Db;rw[h];rfl
     refine ah ?_;rw[(pt g).1,(pt g).2];exact aj (aj aa)
  ·refine vr rfl ?_;have R:Uk k p=false:=by unfold Uk;rw[show Jy p.a1 p.b1 p.c k.x=true from df j,show Jy p.a2 p.b2 p.c k.y=false from gy D];rfl
   have u:K9 k p=false:=by unfold K9;rw[R];rfl
   have h:Jw k p=false:=by unfold Jw;rw[u];rfl
   have g:Db k p=false:=by unfold Db;rw[h];rfl
   refine ah ?_;rw[(pt g).1,(pt g).2];exact aj (aj aa)
 ·refine ar (aQ rfl)<|vr rfl ?_;have R:Uk k p=false:=by unfold Uk;rw[show Jy p.a1 p.b1 p.c k.x=false from gy j];rfl
  have u:K9 k p=false:=by unfold K9;rw[R];rfl
  have h:Jw k p=false:=by unfold Jw;rw[u];rfl
  have g:Db k p=false:=by unfold Db;rw[h];rfl
  refine ah ?_;rw[(pt g).1,(pt g).2];exact aj (aj aa)
theorem P5 (h:GKb k) (g:GB p):Ok Tryz.prog 40 [.a (dy k),.a (ai p)] [.c (.i .i64 (j7 k p))]:=by
 have J:=Gp k p;have D:=gK (KU k p) (Dc k p) p.c;have H:=aet (k:=k) g.v;have E:=Vn h g;have I:=WN h g;refine cj Tryz.func40 rfl ?_;refine ac rfl (Ps h g) ?_;refine cU rfl (fun j=>?_) (fun j=>?_)
 ·have u:=acI g.v j;refine ar (fQ (r:= -YY k p) rfl (by rw[Int.zero_sub];exact jQ (by omega) (by omega)) rfl) ?_;refine ah ?_;rw[<-u];exact aj aa
 ·refine cE 12 [] ?_;refine aG rfl (wV (aU (g.a1)) (aU (h.x))) ?_;refine aG rfl (wV (aU (g.a2)) (aU (h.y)))<|cE 8 [9,10,999999] ?_;refine DQ.mk<|kI (fJ bV rfl) rfl rfl rfl rfl<|ek ?_;refine DQ.mk<|kI (fJ bV rfl) rfl rfl rfl rfl<|ek ?_;refine cE 19 [] ?_;refine aG rfl (gS (aU (dz (g.a1) (h.x))) (aU (dz (g.a1) (h.x)))) ?_;refine aG rfl (gS (aU (dz (g.a2) (h.y))) (aU (dz (g.a2) (h.y)))) ?_;refine aG rfl (pd (aU (aW (dz (g.a1) (h.x)) (dz (g.a1) (h.x)))) (aU (aW (dz (g.a2) (h.y)) (dz (g.a2) (h.y))))) ?_;refine aG rfl (gS (aU (g.b1)) (aU (g.b1))) ?_;refine aG rfl (gS (aU (g.b2)) (aU (g.b2))) ?_;refine aG rfl (pd (aU (aW (g.b1) (g.b1))) (aU (aW (g.b2) (g.b2)))) ?_;refine aG rfl (gS (aU (g.c)) (aU (ia (aW (g.b1) (g.b1)) (aW (g.b2) (g.b2))))) ?_;refine aG rfl (pd (aU (ia (aW (dz (g.a1) (h.x)) (dz (g.a1) (h.x))) (aW (dz (g.a2) (h.y)) (dz (g.a2) (h.y))))) (aU (aW (g.c) (ia (aW (g.b1) (g.b1)) (aW (g.b2) (g.b2))))))<|cE 8 [] ?_;refine aG rfl (gS (aU (dz (g.a1) (h.x))) (aU (g.b1))) ?_;refine aG rfl (gS (aU (dz (g.a2) (h.y))) (aU (g.b2))) ?_;refine aG rfl (pd (aU (aW (dz (g.a1) (h.x)) (g.b1))) (aU (aW (dz (g.a2) (h.y)) (g.b2))))<|cE 12 [] ?_;refine aG rfl (wV (aU (ia (ia (aW (dz (g.a1) (h.x)) (dz (g.a1) (h.x))) (aW (dz (g.a2) (h.y)) (dz (g.a2) (h.y)))) (aW (g.c) (ia (aW (g.b1) (g.b1)) (aW (g.b2) (g.b2)))))) (aU (h.q))) ?_;refine aG rfl (pd (aU (ia (aW (dz (g.a1) (h.x)) (g.b1)) (aW (dz (g.a2) (h.y)) (g.b2)))) (aU (ia (aW (dz (g.a1) (h.x)) (g.b1)) (aW (dz (g.a2) (h.y)) (g.b2))))) ?_;refine aG rfl (CS (c:=bU (KU k p) (Dc k p) p.c) (Sd (by rw[Rv];exact E.m_) (I.m_) (g.c.m_)) (by rw[Rv];rfl))<|aq (fQ (r:= -bU (KU k p) (Dc k p) p.c) rfl (EI D) rfl) ?_;refine ah ?_;rw[<-H];exact aj aa
theorem aaI (hl:GLb l) (E:GB p):Ok Tryz.prog 100 [.a (eJ l),.a (ai p)] [.c (.i .i64 (lqS l p)),.c (.b (lqK l p))]:=by
 refine fg Tryz.func100 88 [.tmp 4,.tmp 5] rfl<|ab<|ag<|ab<|ag ?_;refine ar (az (us:=(cR p.a1++cR p.b1++cR p.c)) Cu Aj rfl rfl rfl) ?_;refine ac rfl (oU (E.a1.m_) (E.b1.m_) (E.c.m_))<|ab<|ag ?_;refine ac rfl (Ri (hl.a.m_)) ?_;refine ab<|ag ?_;refine ar (az (us:=(cR p.a2++cR p.b2++cR p.c)) Cu Aj rfl rfl rfl) ?_;refine ac rfl (oU (E.a2.m_) (E.b2.m_) (E.c.m_))<|ab<|ag ?_;refine ac rfl (Ri (hl.b.m_)) ?_;refine ab<|ag ?_;refine ac rfl (ga (hl.c.m_)) ?_;refine ab<|ab<|ag ?_;refine jC (aQ rfl) (fun N h=>?_);cases N
 ·refine jC (aQ rfl) (fun c2 u=>?_);cases c2
  ·refine aA rfl (fun y=>?_) (fun y=>?_)
   ·refine ab<|ag<|bc ?_;have H:Ul l p=false:=by unfold Ul;rw[show JA l.a p.a1 p.b1 p.c=true from df h,show JA l.b p.a2 p.b2 p.c=true from df u,show gV l.c=false from gy y];rfl
    have D:OX l p=false:=by unfold OX;rw[H];rfl
    have g:G8 l p=false:=by unfold G8;rw[D];rfl
    rw[(vD g).1,(vD g).2];exact ah (aj (aj aa))
   ·have I:Ul l p=true:=by unfold Ul;rw[show JA l.a p.a1 p.b1 p.c=true from df h,show JA l.b p.a2 p.b2 p.c=true from df u,show gV l.c=true from df y];rfl
    refine au<|ab<|ag ?_;refine ac rfl (pZ (R9 _ _ _ _) (PR _ _ _ _) (R9 _ _ _ _) (PR _ _ _ _))<|ab<|ab<|ag ?_;refine aA rfl (fun j=>?_) (fun j=>?_)
    ·refine ab<|ag<|bc ?_;have D:OX l p=false:=by unfold OX;rw[I,show lsK l p=false from gy j];rfl
     have g:G8 l p=false:=by unfold G8;rw[D];rfl
     rw[(vD g).1,(vD g).2];exact ah (aj (aj aa))
    ·have J:OX l p=true:=by unfold OX;rw[I,show lsK l p=true from df j];rfl
     refine au<|ab<|ab<|rW 8 [12,999999] dV (by kernel_rfl) rfl rfl<|D5 (by kernel_rfl) (jF mz rfl)<|dU 1<|bG (j9 rfl (Fz (pN _) (pD _)))<|bG (j9 rfl (pZ Su.1 Su.2 (Bd.neg (pD _)) (Bd.neg (pN _))))<|dU 3<|kJ (fJ mz rfl) rfl rfl rfl rfl<|mP<|ve<|jA<|ab ?_;refine ag ?_;refine aA rfl (fun x=>?_) (fun x=>?_)
     ·refine ab<|ag<|bc ?_;have g:G8 l p=false:=by unfold G8;rw[J,show lrK l p=false from gy x];rfl
      rw[(vD g).1,(vD g).2];exact ah (aj (aj aa))
     ·have K:G8 l p=true:=by unfold G8;rw[J,show lrK l p=true from df x];rfl
      refine au<|ab<|ag ?_;refine ac rfl (Cx)<|bc ?_;rw[(JX K).1,(JX K).2];exact ah (aj (aj aa))
  ·refine gO rfl<|ab<|ag<|bc ?_;have H:Ul l p=false:=by unfold Ul;rw[show JA l.a p.a1 p.b1 p.c=true from df h,show JA l.b p.a2 p.b2 p.c=false from gy u];rfl
   have D:OX l p=false:=by unfold OX;rw[H];rfl
   have g:G8 l p=false:=by unfold G8;rw[D];rfl
   rw[(vD g).1,(vD g).2];exact ah (aj (aj aa))
 ·refine ar (aQ rfl)<|gO rfl<|ab<|ag<|bc ?_;have H:Ul l p=false:=by unfold Ul;rw[show JA l.a p.a1 p.b1 p.c=false from gy h];rfl
  have D:OX l p=false:=by unfold OX;rw[H];rfl
  have g:G8 l p=false:=by unfold G8;rw[D];rfl
  rw[(vD g).1,(vD g).2];exact ah (aj (aj aa))
theorem Wl (hl:GLb l) (g:GB p):Ok Tryz.prog 37 [.a (eJ l),.a (ai p)] [.c (.i .i64 (jz l p))]:=by
 have x:=aal (l:=l) g.v;have u:=aaJ hl g;have y:=ZN hl g;refine cj Tryz.func37 rfl ?_;refine ac rfl (aaI hl g) ?_;refine cU rfl (fun h=>?_) (fun h=>?_)
 ·have j:=UK g.v h;refine ah ?_;rw[<-j];exact aj aa
 ·refine cE 29 [] ?_;refine aG rfl (gS (aU (hl.a)) (aU (g.a1))) ?_;refine aG rfl (gS (aU (hl.b)) (aU (g.a2))) ?_;refine aG rfl (pd (aU (aW (hl.a) (g.a1))) (aU (aW (hl.b) (g.a2)))) ?_;refine aG rfl (wV (aU (ia (aW (hl.a) (g.a1)) (aW (hl.b) (g.a2)))) (aU (hl.c))) ?_;refine aG rfl (gS (aU (hl.a)) (aU (g.b1))) ?_;refine aG rfl (gS (aU (hl.b)) (aU (g.b2))) ?_;refine aG rfl (pd (aU (aW (hl.a) (g.b1))) (aU (aW (hl.b) (g.b2)))) ?_;refine aG rfl ((show Ok Tryz.prog 101 _ [.c (.i .i64 (bU (vA l p) (vB l p) p.c))] from Sd (u.m_) (y.m_) (g.c.m_)))<|ah ?_;rw[<-x];exact aj aa
theorem Us (D:(Cv.seg l f t).gdB) (y:GB p):Ok Tryz.prog 10 [.a (([.b false]++eJ l++mG++[.b false]++ai f++ai t)),.a (ai p)] [.c (.i .i64 (ii (Cv.seg l f t) p)),.c (.i .i64 (iK (Cv.seg l f t) p))]:=by
 have hl:=D.1;have E:=D.2.1;have H:=D.2.2;have J:=M2 l p;have I:=gY J (dF l.b 0);refine cj Tryz.func10 rfl<|cE 6 [] ?_;refine aq (jF bg rfl) ?_;refine aG rfl (mK) ?_;refine aG rfl (M8 (c:=(Cv.seg l f t)) D y) ?_;refine cU rfl (fun g=>?_) (fun g=>?_)
 ·have o1: ¬((Cv.seg l f t)).over p=true:=by simpa using g
  refine ah ?_;rw[show ii (Cv.seg l f t) p=0 from by unfold ii;rw[if_neg o1],show iK (Cv.seg l f t) p=1 from by unfold iK;rw[if_neg o1]];exact aj (aj aa)
 ·refine ar (jF bg rfl)<|ac rfl (G0 E H) ?_;refine cU rfl (fun h=>?_) (fun h=>?_)
  ·refine cE 7 [] ?_;refine aG rfl (Ca) ?_;refine aq (dh (ai t) bo rfl (by kernel_rfl)) ?_;refine aG rfl (Ca) ?_;refine aG rfl (adr y H) ?_;refine cU rfl (fun j=>?_) (fun j=>?_)
   ·have o1:((Cv.seg l f t)).over p=true:=by simpa using g
    have x:((Cv.seg l f t)).vert=true:=h;refine ah ?_;rw[show ii (Cv.seg l f t) p=1 from by unfold ii yp;rw[if_pos o1,if_pos x];exact if_pos (of_decide_eq_true j),show iK (Cv.seg l f t) p=0 from by unfold iK;rw[if_pos o1]];exact aj (aj aa)
   ·refine cE 7 [] ?_;refine aG rfl (Ca) ?_;refine aq (dh (ai f) bo rfl (by kernel_rfl)) ?_;refine aG rfl (Ca) ?_;refine aG rfl (adr y E) ?_;refine cU rfl (fun u=>?_) (fun u=>?_)
    ·have o1:((Cv.seg l f t)).over p=true:=by simpa using g
     have x:((Cv.seg l f t)).vert=true:=h;refine ah ?_;rw[show ii (Cv.seg l f t) p= -1 from by unfold ii yp;rw[if_pos o1,if_pos x];exact(if_neg (of_decide_eq_false j)).trans (if_pos (of_decide_eq_true u)),show iK (Cv.seg l f t) p=0 from by unfold iK;rw[if_pos o1]];exact aj (aj aa)
    ·have o1:((Cv.seg l f t)).over p=true:=by simpa using g
     have x:((Cv.seg l f t)).vert=true:=h;refine ah ?_;rw[show ii (Cv.seg l f t) p=0 from by unfold ii yp;rw[if_pos o1,if_pos x];exact(if_neg (of_decide_eq_false j)).trans (if_neg (of_decide_eq_false u)),show iK (Cv.seg l f t) p=0 from by unfold iK;rw[if_pos o1]];exact aj (aj aa)
  ·refine ar (dL jY rfl)<|vr rfl<|cE 11 [] ?_;refine aq (dh (eJ l) zq rfl (by kernel_rfl)) ?_;refine aG rfl (Wl hl y) ?_;refine aq (dh (cR l.b) bV rfl (by kernel_rfl)) ?_;refine aG rfl (d7) ?_;refine aq (b9 ((jz l p)*(aJ l.b 0)) (d9 (by omega) (by omega)) rfl) ?_;have o1:((Cv.seg l f t)).over p=true:=by simpa using g
   have x: ¬((Cv.seg l f t)).vert=true:=by rw[h];decide
   refine ah ?_;rw[show ii (Cv.seg l f t) p=jz l p*aJ l.b 0 from by unfold ii yp;rw[if_pos o1,if_neg x],show iK (Cv.seg l f t) p=0 from by unfold iK;rw[if_pos o1]];exact aj (aj aa)
theorem US (H:(Cv.arc k w f t).gdB) (E:GB p):Ok Tryz.prog 10 [.a (([.b true]++qx++dy k++[.b w]++ai f++ai t)),.a (ai p)] [.c (.i .i64 (ii (Cv.arc k w f t) p)),.c (.i .i64 (iK (Cv.arc k w f t) p))]:=by
 have I:=H.1;have K:=H.2.1;have N:=H.2.2;have J:=Gp k p;refine cj Tryz.func10 rfl<|cE 6 [] ?_;refine aq (jF bg rfl) ?_;refine aG rfl (mK) ?_;refine aG rfl (M8 (c:=(Cv.arc k w f t)) H E) ?_;refine cU rfl (fun g=>?_) (fun g=>?_)
 ·have o1: ¬((Cv.arc k w f t)).over p=true:=by simpa using g
  refine ah ?_;rw[show ii (Cv.arc k w f t) p=0 from by unfold ii;rw[if_neg o1],show iK (Cv.arc k w f t) p=1 from by unfold iK;rw[if_neg o1]];exact aj (aj aa)
 ·refine ar (jF bg rfl)<|ac rfl ((show Ok _ _ _ [.c (.b false)] from Hi))<|nM rfl ?_;refine ar (dL jY rfl) ?_;refine nM rfl<|cE 7 [] ?_;refine aG rfl (Ca) ?_;refine aq (dh (cR k.y) bV rfl (by kernel_rfl)) ?_;refine aG rfl (af8 E I.y) ?_;refine ar (dL jY rfl) ?_;refine jC (aQ rfl) (fun c2 h=>?_);cases c2
  ·refine nM rfl ?_;refine ar (dL jY rfl) ?_;refine cU rfl (fun D=>?_) (fun D=>?_);·exact absurd h (by rw[D];decide)
   ·refine cU rfl (fun j=>?_) (fun j=>?_)
    ·have o1:((Cv.arc k w f t)).over p=true:=by simpa using g
     refine ah ?_;rw[show ii (Cv.arc k w f t) p=1 from by unfold ii yp;rw[if_pos o1,if_neg (show ¬((Cv.arc k w f t)).vert=true from Bool.false_ne_true)];exact(if_neg (show ¬w=true from by rw[h];decide)).trans (if_pos (of_decide_eq_true j)),show iK (Cv.arc k w f t) p=0 from by unfold iK;rw[if_pos o1]];exact aj (aj aa)
    ·refine ar (dh (dy k) zg rfl (by kernel_rfl)) ?_;refine ac rfl (P5 I E) ?_;have o1:((Cv.arc k w f t)).over p=true:=by simpa using g
     refine ah ?_;rw[show ii (Cv.arc k w f t) p=j7 k p from by unfold ii yp;rw[if_pos o1,if_neg (show ¬((Cv.arc k w f t)).vert=true from Bool.false_ne_true)];exact(if_neg (show ¬w=true from by rw[h];decide)).trans (if_neg (of_decide_eq_false j)),show iK (Cv.arc k w f t) p=0 from by unfold iK;rw[if_pos o1]];exact aj (aj aa)
  ·refine cU rfl (fun u=>?_) (fun u=>?_)
   ·have o1:((Cv.arc k w f t)).over p=true:=by simpa using g
    refine ah ?_;rw[show ii (Cv.arc k w f t) p= -1 from by unfold ii yp;rw[if_pos o1,if_neg (show ¬((Cv.arc k w f t)).vert=true from Bool.false_ne_true)];exact(if_pos (show w=true from h)).trans (if_pos (of_decide_eq_true u)),show iK (Cv.arc k w f t) p=0 from by unfold iK;rw[if_pos o1]];exact aj (aj aa)
   ·refine ar (dL jY rfl) ?_;refine cU rfl (fun x=>?_) (fun x=>?_)
    ·refine ar (dh (dy k) zg rfl (by kernel_rfl)) ?_;refine ac rfl (P5 I E) ?_;refine ar (fQ (r:= -j7 k p) rfl (EI J) rfl) ?_;have o1:((Cv.arc k w f t)).over p=true:=by simpa using g
     refine ah ?_;rw[show ii (Cv.arc k w f t) p= -j7 k p from by unfold ii yp;rw[if_pos o1,if_neg (show ¬((Cv.arc k w f t)).vert=true from Bool.false_ne_true)];exact(if_pos (show w=true from h)).trans (if_neg (of_decide_eq_false u)),show iK (Cv.arc k w f t) p=0 from by unfold iK;rw[if_pos o1]];exact aj (aj aa)
    ·exact absurd h (by rw[x];decide)
theorem KF (h:c.gdB) (g:GB p):Ok Tryz.prog 10 [.a (an c),.a (ai p)] [.c (.i .i64 (ii c p)),.c (.i .i64 (iK c p))]:=by
 cases c with
 |seg l f t=>exact Us h g
 |arc k w f t=>exact US h g
theorem GE (g:c.gdB):Ok Tryz.prog 11 [.a (an c)] [.c (.b c.vert)]:=by
 cases c with
 |seg l f t=>exact G0 g.2.1 g.2.2
 |arc k w f t=>exact Hi
theorem ad3 (u:c.gdB) (x:GB p):Ok Tryz.prog 34 [.a (an c),.a ((cR p.a1++cR p.b1++cR (zc p.b1 p.c))),.a (ai p)] [.c (.i .i64 (ovR c p)),.c (.b (ovE c p))]:=by
 refine cj Tryz.func34 rfl<|cE 18 [] ?_;refine aq (eG (ae _) bg rfl) ?_;refine aG rfl (GE u) ?_;refine sL (aQ rfl) (fun y g=>?_);cases y
 ·refine aq (bb (us:=ai c.q) bo rfl rfl (jL _) rfl rfl) ?_;refine aG rfl (mK)<|aG rfl (OP x (Mp u)) ?_;refine sL (aQ rfl) (fun c2 h=>?_);cases c2
  ·refine aq (bb (us:=ai c.p) bo rfl rfl (ja _) rfl rfl) ?_;refine aG rfl (mK)<|aG rfl (OP x (Ta u)) ?_;refine cU rfl (fun j=>?_) (fun j=>?_)
   ·refine ah ?_;rw[show ovR c p=0 from(if_neg (show ¬c.vert=true from by rw[g];decide)).trans ((if_neg (of_decide_eq_false h)).trans (if_pos (of_decide_eq_true j))),show ovE c p=false from(if_neg (show ¬c.vert=true from by rw[g];decide)).trans ((if_neg (of_decide_eq_false h)).trans (if_pos (of_decide_eq_true j)))];exact aj (aj aa)
   ·refine ar (eG (ae _) bg rfl) ?_;refine ac rfl (KF u x)<|ah ?_;rw[show ovR c p=ii c p from(if_neg (show ¬c.vert=true from by rw[g];decide)).trans ((if_neg (of_decide_eq_false h)).trans (if_neg (of_decide_eq_false j))),show ovE c p=(iK c p==0) from(if_neg (show ¬c.vert=true from by rw[g];decide)).trans ((if_neg (of_decide_eq_false h)).trans (if_neg (of_decide_eq_false j)))];exact aj (aj aa)
  ·refine vr rfl<|ah ?_;rw[show ovR c p=0 from(if_neg (show ¬c.vert=true from by rw[g];decide)).trans (if_pos (of_decide_eq_true h)),show ovE c p=false from(if_neg (show ¬c.vert=true from by rw[g];decide)).trans (if_pos (of_decide_eq_true h))];exact aj (aj aa)
 ·refine aq (aQ rfl)<|vr rfl<|ah ?_;rw[show ovR c p=0 from(if_pos g),show ovE c p=false from(if_pos g)];exact aj (aj aa)
theorem Cp (hL: ∀c∈L,c.gdB) (lL:L.length<=100000) (hp:GB p):Ok Tryz.prog 9 [.a (([.s ((L).length) (am an (L))])),.a (ai p)] [.c (.i .i64 (jI L p))]:=by
 refine cj Tryz.func9 rfl ?_;refine ac rfl (mK) ?_;refine DW.mk<|bF (ι:={n:Nat // n<=L.length/\ ∀i,i<n->GW (L.getD i aK) p=false}) (fun i=>⟨52,[(2,.p 2 0),(3,.p 3 0),(5,.p 5 0),(6,.v (.c (.i .i64 (nt L p i.1:Int)))),(16,.v (.c (.s ((L).length) (am an (L))))),(17,.v (.c (.i .i64 (L.length:Int)))),(18,.v (.c (.i .i64 (i.1:Int))))],[(2,32,([.s ((L).length) (am an (L))])),(3,42,ai p),(5,59,(cR p.a1++cR p.b1++cR (zc p.b1 p.c)))]⟩) (fun i=>L.length-i.1) ⟨0,eo _,fun i hi=>absurd hi (by omega)⟩ (al ⟨rfl,rfl,rfl,rfl,rfl,rfl,rfl,trivial⟩ ⟨rfl,rfl,rfl,trivial⟩ rfl) ?_;rintro⟨n,R,h⟩;replace R:n<=L.length:=R;replace h: ∀i,i<n->GW (L.getD i aK) p=false:=h;dsimp only;refine sh ?_;refine cU rfl (fun I=>?_) (fun I=>?_)
 ·have j:n<L.length:=by have:=of_decide_eq_true I;omega
  have W:=hL _ (aY (d:=aK) j);have N:=aaD (Dq (Ta W)) (Dq hp);have b8:=xM L p n;refine ar (eI aK ae j dr rfl)<|ar (kz ae bg rfl)<|n8 (bQ bg rfl rfl rfl (ae _) rfl rfl) ?_;refine ar (eG (ae _) bg rfl) ?_;refine ac rfl (KF W hp) ?_;refine jC (aQ rfl) (fun c2 y=>?_);cases c2
  ·have J:GW (L.getD n aK) p=false:=by unfold GW;rw[y];rfl
   refine nM rfl<|ar (eG (ae _) bg rfl) ?_;refine ac rfl (ad3 W hp) ?_;refine jC (aQ rfl) (fun c3 E=>?_);cases c3
   ·have g:jX (L.getD n aK) p=false:=N.trans (by rw[E];rfl);refine nM rfl<|ar (bu (by omega) rfl) ?_;exact⟨⟨n+1,j,fun i hi=>(lH.1 hi).elim (h i) fun e=>by rw[e];exact J⟩,al ⟨rfl,rfl,rfl,congrArg (fun q:Nat=>some (DV.v (.c (.i .i64 (q:Int))))) (sR g).symm,rfl,rfl,rfl,trivial⟩ ⟨rfl,rfl,rfl,trivial⟩ rfl,by show L.length-(n+1)<L.length-n;omega⟩
   ·refine cU rfl (fun x=>?_) (fun x=>?_)
    ·have g:jX (L.getD n aK) p=true:=N.trans (by rw[E,x];rfl);refine ar (b9 (((nt L p n+1:Nat):Int)) ((aT (by omega) (by omega)).trans (congrArg some (by omega))) rfl)<|ar (bu (by omega) rfl) ?_;exact⟨⟨n+1,j,fun i hi=>(lH.1 hi).elim (h i) fun e=>by rw[e];exact J⟩,al ⟨rfl,rfl,rfl,congrArg (fun q:Nat=>some (DV.v (.c (.i .i64 (q:Int))))) (M6 g).symm,rfl,rfl,rfl,trivial⟩ ⟨rfl,rfl,rfl,trivial⟩ rfl,by show L.length-(n+1)<L.length-n;omega⟩
    ·have g:jX (L.getD n aK) p=false:=N.trans (by rw[E,x];rfl);refine ar (bu (by omega) rfl) ?_;exact⟨⟨n+1,j,fun i hi=>(lH.1 hi).elim (h i) fun e=>by rw[e];exact J⟩,al ⟨rfl,rfl,rfl,congrArg (fun q:Nat=>some (DV.v (.c (.i .i64 (q:Int))))) (sR g).symm,rfl,rfl,rfl,trivial⟩ ⟨rfl,rfl,rfl,trivial⟩ rfl,by show L.length-(n+1)<L.length-n;omega⟩
  ·refine cU rfl (fun D=>?_) (fun D=>?_)
   ·have e0:jI L p=0:=if_pos (X7 j (by unfold GW;rw[y,show(ii (L.getD n aK) p==0)=true from D];rfl));refine ah ?_;rw[e0];exact aj aa
   ·have J:GW (L.getD n aK) p=false:=by unfold GW;rw[y,D];rfl
    refine ar (eG (ae _) bg rfl) ?_;refine ac rfl (ad3 W hp) ?_;refine jC (aQ rfl) (fun c6 H=>?_);cases c6
    ·have g:jX (L.getD n aK) p=false:=N.trans (by rw[H];rfl);refine nM rfl<|ar (bu (by omega) rfl) ?_;exact⟨⟨n+1,j,fun i hi=>(lH.1 hi).elim (h i) fun e=>by rw[e];exact J⟩,al ⟨rfl,rfl,rfl,congrArg (fun q:Nat=>some (DV.v (.c (.i .i64 (q:Int))))) (sR g).symm,rfl,rfl,rfl,trivial⟩ ⟨rfl,rfl,rfl,trivial⟩ rfl,by show L.length-(n+1)<L.length-n;omega⟩
    ·refine cU rfl (fun K=>?_) (fun K=>?_)
     ·have g:jX (L.getD n aK) p=true:=N.trans (by rw[H,K];rfl);refine ar (b9 (((nt L p n+1:Nat):Int)) ((aT (by omega) (by omega)).trans (congrArg some (by omega))) rfl)<|ar (bu (by omega) rfl) ?_;exact⟨⟨n+1,j,fun i hi=>(lH.1 hi).elim (h i) fun e=>by rw[e];exact J⟩,al ⟨rfl,rfl,rfl,congrArg (fun q:Nat=>some (DV.v (.c (.i .i64 (q:Int))))) (M6 g).symm,rfl,rfl,rfl,trivial⟩ ⟨rfl,rfl,rfl,trivial⟩ rfl,by show L.length-(n+1)<L.length-n;omega⟩
     ·have g:jX (L.getD n aK) p=false:=N.trans (by rw[H,K];rfl);refine ar (bu (by omega) rfl) ?_;exact⟨⟨n+1,j,fun i hi=>(lH.1 hi).elim (h i) fun e=>by rw[e];exact J⟩,al ⟨rfl,rfl,rfl,congrArg (fun q:Nat=>some (DV.v (.c (.i .i64 (q:Int))))) (sR g).symm,rfl,rfl,rfl,trivial⟩ ⟨rfl,rfl,rfl,trivial⟩ rfl,by show L.length-(n+1)<L.length-n;omega⟩
 ·have hq:n=L.length:=by have:=of_decide_eq_false I;omega
  have U:GF L p L.length=false:=(Ly _).2 fun i hi=>h i (by omega);have b8:=xM L p n;refine ar (fR (r:=(nt L p n:Int)%2) rfl rfl (by omega) (lI (by omega)) rfl) ?_;refine cU rfl (fun u=>?_) (fun u=>?_)
  ·have e0:jI L p=1:=LW U (by have:=beq_iff_eq.1 u;rw[hq] at this;omega);refine ah ?_;rw[e0];exact aj aa
  ·have e0:jI L p= -1:=HD U (by have:=beq_eq_false_iff_ne.1 u;rw[hq] at this;omega);refine ah ?_;rw[e0];exact aj aa
def arB (P:Program) (U:TypeId):Option (Nat×Nat):=
 match P.underlying U with
 |some (.array n e)=>(P.info? e).map fun i=>(n,i.size)
 |_=>none
end Go.Proofs.YtegeknjkgadehaaGreat
