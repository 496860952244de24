/-Monotone pieces:the program. -/
import Derived.Test.YtegeknjkgadehaaGreatTqS
namespace Go.Proofs.YtegeknjkgadehaaGreat
open Go Go.RowKit
variable {w:Bool}{c:Cv}{A A2 B B2 C D x:Int}{rs:List CellD}{L:List Cv}{l:Ln}{c9 k:Nat}{f p t:Pt}{b b2:Rat}
theorem afF (a4:1<=L.length) (hn:L.length<=12) (hG: ∀x∈L,CvV x):OkS Tryz.prog 228 53 L.length c9 (aD aC L++rs) (aD aC (aT db jc L)++rs) [.c (.i .i64 0),.c (.i .i64 (L.length:Int)),.c (.f 68)]:=by
 refine OkS.of (K:=100000) (by kernel_rfl) Tryz.func228 rfl rfl rfl rfl ?_;rw[show Tryz.f228.ntmps=53 from rfl];refine ab<|ag<|ar (tO rfl rfl rfl rfl) ?_;refine aM<|bK (ι:={p:Nat // 1<=p/\p<=L.length}) (fun i=>⟨53,[(0,.o 100000 L.length c9),(1,.v (.c (.i .i64 0))),(2,.v (.c (.i .i64 (L.length:Int)))),(3,.v (.c (.f 68))),(8,.v (.c (.i .i64 (i.1:Int))))],[(100000,53,aD aC (VR db jc L i.1)++rs)]⟩) (fun i=>L.length-i.1) ⟨1,bk _,a4⟩ (au (bt rfl) ⟨congrArg (fun q=>some (53,aD aC q++rs)) ((Nx L).symm),trivial⟩ rfl) ?_;rintro⟨p,h1,h2⟩;dsimp only;refine ab<|ab<|ag ?_;refine aJ rfl (fun V=>?_) (fun V=>?_)
 .have g1:p<L.length:=by have:=of_decide_eq_true V;omega
  have J:(aT db jc (L.take p)).length=p:=by rw[fi,fF,jh h2]
  refine aA<|ab<|aM<|ab<|ag<|aM<|bK (ι:={j:Nat // j<=p/\oL db jc (L.getD p db) (aT db jc (L.take p)) p=oL db jc (L.getD p db) (aT db jc (L.take p)) j}) (fun i=>⟨53,[(0,.o 100000 L.length c9),(1,.v (.c (.i .i64 0))),(2,.v (.c (.i .i64 (L.length:Int)))),(3,.v (.c (.f 68))),(8,.v (.c (.i .i64 (p:Int)))),(9,.v (.c (.i .i64 (i.1:Int))))],[(100000,53,aD aC (Am (aT db jc (L.take p)) (L.drop (p+1)) (L.getD p db) i.1)++rs)]⟩) (fun i=>i.1) ⟨p,bk _,rfl⟩ (au (bt rfl) ⟨congrArg (fun q=>some (53,aD aC q++rs)) (M8 g1),trivial⟩ rfl) ?_;rintro⟨j,h3,h4⟩;dsimp only;refine ab<|ab<|ou 17 rfl rfl<|eJ 3 ?_;refine Ud (aY rfl) (fun c2 a3=>?_);cases c2
  .have W:j=0:=by have:=of_decide_eq_false a3;omega
   refine Eb<|eP<|bO<|ck rfl<|bH<|ag<|ar (eg (by omega) rfl) ?_;exact⟨⟨p+1,by omega,g1⟩,au (bt rfl) ⟨congrArg (fun q=>some (53,aD aC q++rs)) (yf g1 (h4.trans (GD (.inl W)))),trivial⟩ rfl,by show L.length-(p+1)<L.length-p;omega⟩
  .have W:0<j:=by have:=of_decide_eq_true a3;omega
   have I:j<=(aT db jc (L.take p)).length:=by rw[J];exact h3
   refine eJ 3<|bp (a8 pW rfl rfl (by omega) rfl) ?_;refine bp (aR ba rfl rfl ((iQ (e:=db) ai (by rw[iz I,J,jD];omega)).trans (congrArg aC (Gn I))) (ai _) rfl) ?_;refine eJ 2<|bp (ca (((j-1:Nat):Int)) ((bq (by omega) (by omega)).trans (congrArg some (by omega))) rfl)<|bp (a8 pW rfl rfl (by omega) rfl) ?_;refine bp (aR (us:=aC ((aT db jc (L.take p)).getD (j-1) db)) ba rfl rfl ((iQ ai (by rw[iz I,J,jD];omega)).trans (congrArg aC (FQ W I))) (ai _) rfl) ?_;refine bp (iW rfl (aes (hG _ (dG g1)) (hG _ (List.mem_of_mem_take ((iu _).mem_iff.1 (dG (show j-1<(aT db jc (L.take p)).length by rw[J];omega)))))))<|Eb<|eP<|bO ?_;refine aJ rfl (fun R=>?_) (fun R=>?_)
   .have g3:jc (L.getD p db) ((aT db jc (L.take p)).getD (j-1) db)<0:=of_decide_eq_true R;refine aA<|ab<|aM<|qo 16 [100000,999999] d9 (by kernel_rfl) rfl rfl<|eJ 4<|bp (ca (((j-1:Nat):Int)) ((bq (by omega) (by omega)).trans (congrArg some (by omega))) rfl)<|eJ 2<|bp (ca (((j-1:Nat):Int)) ((bq (by omega) (by omega)).trans (congrArg some (by omega))) rfl)<|bp (a8 pW rfl rfl (by omega) rfl) ?_;refine AM (by kernel_rfl) (aR (us:=aC ((aT db jc (L.take p)).getD (j-1) db)) ba rfl rfl ((iQ ai (by rw[iz I,J,jD];omega)).trans (congrArg aC (FQ W I))) (ai _) rfl) ?_;refine eJ 2<|bp (a8 pW rfl rfl (by omega) rfl) ?_;refine AM (by kernel_rfl) (aR ba rfl rfl ((iQ (e:=db) ai (by rw[iz I,J,jD];omega)).trans (congrArg aC (Gn I))) (ai _) rfl) ?_;refine bp (a8 pW rfl rfl (by omega) rfl) ?_;refine ig (aV ba rfl rfl rfl (ai _) (by rw[dB,aK ai,iz I,J,jD];omega) (qW ai (by rw[iz I,J,jD];omega) _) rfl) rfl rfl rfl rfl ?_;refine mD<|sA<|bj (a8 pW rfl rfl (by omega) rfl) ?_;refine gS (aV ba rfl rfl rfl (ai _) (by rw[dB,aK ai,wX,iz I,J,jD];omega) (qW ai (by rw[wX,iz I,J,jD];omega) _) rfl) ?_;refine bO<|ag<|ar (ca (((j-1:Nat):Int)) ((bq (by omega) (by omega)).trans (congrArg some (by omega))) rfl) ?_;exact⟨⟨j-1,by omega,h4.trans (TH W g3)⟩,au (bt rfl) ⟨congrArg (fun q=>some (53,aD aC q++rs)) (UD W I),trivial⟩ rfl,by show j-1<j;omega⟩
   .have g3: ¬jc (L.getD p db) ((aT db jc (L.take p)).getD (j-1) db)<0:=of_decide_eq_false R;refine bH<|ag<|ar (eg (by omega) rfl) ?_;exact⟨⟨p+1,by omega,g1⟩,au (bt rfl) ⟨congrArg (fun q=>some (53,aD aC q++rs)) (yf g1 (h4.trans (GD (.inr g3)))),trivial⟩ rfl,by show L.length-(p+1)<L.length-p;omega⟩
 .have hp:p=L.length:=by have:=of_decide_eq_false V;omega
  apply bH;exact⟨.inl rfl,congrArg (fun q=>some (53,aD aC q++rs)) (by rw[hp,Ot])⟩
theorem afp (j:1<=L.length) (I:L.length<=12) (J: ∀x∈L,CvV x):OkS Tryz.prog 148 53 L.length c9 (aD aC L++rs) (aD aC (aT db jc L)++rs) [.c (.i .i64 (L.length:Int)),.c (.f 68)]:=by
 refine OkS.of (K:=100000) (by kernel_rfl) Tryz.func148 rfl rfl rfl rfl ?_;rw[show Tryz.f148.ntmps=63 from rfl];refine ab<|ag<|ab<|ag<|ab<|aM ?_;refine bK (ι:=Nat) (fun i=>match i with|_=>⟨63,[(0,.o 100000 L.length c9),(1,.v (.c (.i .i64 (L.length:Int)))),(2,.v (.c (.f 68))),(6,.v (.c (.i .i64 20))),(7,.v (.c (.i .i64 0))),(8,.v (.c (.i .i64 20)))],[(100000,53,aD aC L++rs)]⟩) (fun i=>0-i) 0 (au (bt rfl) ⟨rfl,trivial⟩ rfl) ?_;intro i;match i with
 |_=>
  refine ab<|ab<|bN<|cZ 2<|bj (dM (sx rfl) (decide_eq_false (by omega))) ?_;refine bO<|ck rfl<|bH<|ab<|ag ?_;refine DL.mk<|uy (nj rfl rfl rfl rfl rfl (afF j I J) rfl)<|iJ ?_;apply aM;refine bK (ι:=Nat) (fun i=>match i with|_=>⟨63,[(0,.o 100000 L.length c9),(1,.v (.c (.i .i64 (L.length:Int)))),(2,.v (.c (.f 68))),(6,.v (.c (.i .i64 20))),(7,.v (.c (.i .i64 0))),(8,.v (.c (.i .i64 20)))],[(100000,53,aD aC (aT db jc L)++rs)]⟩) (fun i=>0-i) 0 (au (bt rfl) ⟨rfl,trivial⟩ rfl) ?_;intro i;match i with
  |_=>refine ab<|ab<|bN<|cZ 2<|bj (dM (sx rfl) (decide_eq_false (by omega))) ?_;refine bO<|ck rfl<|bH ?_;exact⟨.inl rfl,rfl⟩
theorem Za (j:1<=L.length) (J:L.length<=12) (I: ∀x∈L,CvV x):OkS Tryz.prog 67 53 L.length c9 (aD aC L++rs) (aD aC (aT db jc L)++rs) [.c (.f 68)]:=by refine OkS.of (K:=100000) (by kernel_rfl) Tryz.func67 rfl rfl rfl rfl ?_;rw[show Tryz.f67.ntmps=9 from rfl];refine ag<|ar (ko pW rfl rfl) ?_;refine DL.mk<|uy (nj rfl rfl rfl rfl rfl (afp j J I) rfl)<|iJ ?_;exact⟨.inl rfl,rfl⟩
theorem TI (j:CvV c):cq 66 [.a (aC c)] [.a (aC c.rev)]:=by
 cases c with
 |seg l f t=>exact ada j.g.1 j.g.2.1 j.g.2.2
 |arc k w f t=>exact Ux j.g.1 j.g.2.1 j.g.2.2
theorem afa (vc:CvV (Cv.seg l f t)):cq 18 [.a (([.b false]++dh l++g9++[.b false]++ah f++ah t))] [.c (.s (((dC (Cv.seg l f t))).length) (aD aC ((dC (Cv.seg l f t)))))]:=by
 have lR:(dc (Cv.seg l f t)).length<=3:=DE;have pR:0<(dc (Cv.seg l f t)).length:=Jl;have vR: ∀d∈(dc (Cv.seg l f t)),CvV d:=Ac vc;have vM: ∀d∈((dc (Cv.seg l f t)).map Cv.fwd),CvV d:=fun d hd=>by obtain⟨x,hx,rfl⟩:=nZ.1 hd;exact Ua (vR x hx)
 have lM:((dc (Cv.seg l f t)).map Cv.fwd).length=(dc (Cv.seg l f t)).length:=List.length_map ..;refine dP Tryz.func18 57 [.tmp 2] rfl<|ab<|ag<|ab<|ag ?_;refine ar (lW ba rfl) ?_;refine DL.mk<|qL (kO vx rfl rfl (by decide) (by decide) rfl) rfl<|iJ ?_;refine mB (ι:={V:Nat×List CellD //(dc (Cv.seg l f t)).length<=V.1/\V.1<=maxLen/\V.2.length=(V.1-(dc (Cv.seg l f t)).length)*66}) (fun i=>⟨57,[(3,.o 12 ((dc (Cv.seg l f t)).length) i.1.1)],[(12,53,aD aC (dc (Cv.seg l f t))++i.1.2)]⟩) ?_ ?_
 .refine ab<|ag ?_;refine ar (bg gC rfl) ?_;refine ck rfl<|aA ?_;exact⟨⟨⟨1,[]⟩,bk _,by decide,rfl⟩,au ⟨rfl,trivial⟩ ⟨rfl,trivial⟩ rfl⟩
 .rintro⟨⟨c9,rs⟩,h1,h2,h3⟩;refine ab<|ab<|ag<|ar (ko pW rfl rfl) ?_;refine aM<|bK (ι:={n:Nat // n<=(dc (Cv.seg l f t)).length}) (fun i=>⟨57,[(3,.o 12 ((dc (Cv.seg l f t)).length) c9),(35,.o 12 ((dc (Cv.seg l f t)).length) c9),(36,.v (.c (.i .i64 (((dc (Cv.seg l f t)).length:Int))))),(37,.v (.c (.i .i64 (i.1:Int))))],[(12,53,aD aC (FR (dc (Cv.seg l f t)) i.1)++rs)]⟩) (fun i=>(dc (Cv.seg l f t)).length-i.1) ⟨0,iB _⟩ (au (bt rfl) ⟨congrArg (fun q=>some (53,aD aC q++rs)) Zz.symm,trivial⟩ rfl) ?_;rintro⟨n,R⟩;dsimp only;refine ab<|ag<|ab ?_;refine aJ rfl (fun I=>?_) (fun I=>?_)
  .have j:n<(dc (Cv.seg l f t)).length:=by have:=of_decide_eq_true I;omega
   have W:CvV ((dc (Cv.seg l f t)).getD n db):=vR _ (dG j);refine aA<|ab<|aM<|ab<|bN<|cZ 1<|bj (a8 pW rfl rfl (by omega) rfl) ?_;refine bj (aR ba rfl rfl ((iQ ai (by rw[qR R];exact j)).trans (congrArg aC (KJ j))) (ai _) rfl) ?_;refine ro (lI Ba rfl) rfl<|cZ 1<|gS (ce ba rfl rfl rfl (ai _) rfl rfl) ?_;refine bO<|ab<|ag ?_;refine ar (aR bb rfl rfl (gz _) rfl rfl) ?_;refine ar (aR bb rfl rfl (ju _) rfl rfl) ?_;refine ac rfl (sR (ew W.g) (f5 W.g)) ?_;refine aJ rfl (fun J=>?_) (fun J=>?_)
   .have m2:=M6 J;refine bN<|cZ 2<|bj (eY (ai _) ba rfl)<|bj (iW rfl ((show Ok _ _ [.a (aC ((dc (Cv.seg l f t)).getD n db))] [.a (aC ((dc (Cv.seg l f t)).getD n db).rev)] from TI W)))<|bj (a8 pW rfl rfl (by omega) rfl) ?_;refine gS (aV (us:=aD aC ((FR (dc (Cv.seg l f t)) n).set n ((dc (Cv.seg l f t)).getD n db).rev)++rs) ba rfl rfl rfl (ai _) (by rw[dB,aK ai,qR R];omega) (qW ai (by rw[qR R];exact j) _) rfl) ?_;refine bO<|ag<|ar (eg (by omega) rfl) ?_;exact⟨⟨n+1,j⟩,au (bt rfl) ⟨congrArg (fun q=>some (53,aD aC q++rs)) (by rw[<-Hi j,m2]),trivial⟩ rfl,by show(dc (Cv.seg l f t)).length-(n+1)<(dc (Cv.seg l f t)).length-n;omega⟩
   .have m2:=Oa J;refine aA<|ag<|ar (eg (by omega) rfl) ?_;exact⟨⟨n+1,j⟩,au (bt rfl) ⟨congrArg (fun q=>some (53,aD aC q++rs)) (Jq j m2),trivial⟩ rfl,by show(dc (Cv.seg l f t)).length-(n+1)<(dc (Cv.seg l f t)).length-n;omega⟩
  .have hp:n=(dc (Cv.seg l f t)).length:=by have:=of_decide_eq_false I;omega
   have a3:rs.length=(c9-((dc (Cv.seg l f t)).map Cv.fwd).length)*66:=by rw[lM];exact h3
   refine pG (σ':=⟨57,[(3,.o 12 (((dc (Cv.seg l f t)).map Cv.fwd).length) c9)],[(12,53,aD aC ((dc (Cv.seg l f t)).map Cv.fwd)++rs)]⟩) (au ⟨congrArg (fun q=>some (DV.o 12 q c9)) lM.symm,trivial⟩ ⟨congrArg (fun q=>some (53,aD aC q++rs)) (by rw[hp,Mg]),trivial⟩ rfl) ?_;refine bH<|ab<|ag ?_;refine DL.mk<|uy (nj rfl rfl rfl rfl rfl (Za (by omega) (by omega) vM) rfl)<|iJ ?_;refine ab<|ag ?_;refine fa (t:=2) rfl rfl (qX (by first|exact(aK ai _).trans (congrArg (· *66) (fi _))|rfl) ‹_› (by omega)) (by omega) ‹_› (mC (by first|exact(aK ai _).trans (congrArg (· *66) (fi _))|rfl)) ?_;apply aU;rw[show(dC (Cv.seg l f t)).length=((dc (Cv.seg l f t)).map Cv.fwd).length from fi _];exact ae (aj aa)
theorem agd {k:Ci}(j:CvV (Cv.arc k w f t)):cq 18 [.a (([.b true]++lp++bG k++[.b w]++ah f++ah t))] [.c (.s (((dC (Cv.arc k w f t))).length) (aD aC ((dC (Cv.arc k w f t)))))]:=by
 have lR:(dc (Cv.arc k w f t)).length<=3:=DE;have pR:0<(dc (Cv.arc k w f t)).length:=Jl;have vR: ∀d∈(dc (Cv.arc k w f t)),CvV d:=Ac j;have vM: ∀d∈((dc (Cv.arc k w f t)).map Cv.fwd),CvV d:=fun d hd=>by obtain⟨x,hx,rfl⟩:=nZ.1 hd;exact Ua (vR x hx)
 have lM:((dc (Cv.arc k w f t)).map Cv.fwd).length=(dc (Cv.arc k w f t)).length:=List.length_map ..;have hk:=j.g.1;have hf:=j.g.2.1;have ht:=j.g.2.2;have gL:=At hk j.pos;have gR:=Af hk j.pos;have b3:2<=maxLen:=by decide
 have hE: ∀p∈ [se k,sv k],GP p:=fun p V=>by simp only[dt,rD,or_false] at V;rcases V with rfl|rfl<;>assumption
 have lC:=Fd (Cv.arc k w f t);have hC:=fw j;refine dP Tryz.func18 57 [.tmp 2] rfl<|ab<|ag<|ab<|ag ?_;refine ar (lW ba rfl) ?_;refine DL.mk<|qL (kO (us:=([.b true]++lp++bG k++[.b w]++ah f++ah t)) vx rfl rfl (by decide) (by decide) rfl) rfl<|iJ ?_;refine mB (ι:={x9:Nat×List CellD //(dc (Cv.arc k w f t)).length<=x9.1/\x9.1<=maxLen/\x9.2.length=(x9.1-(dc (Cv.arc k w f t)).length)*66}) (fun i=>⟨57,[(3,.o 29 ((dc (Cv.arc k w f t)).length) i.1.1)],[(29,53,aD aC (dc (Cv.arc k w f t))++i.1.2)]⟩) ?_ ?_
 .refine ab<|ag ?_;refine ar (bg gC rfl) ?_;refine fp rfl<|ab<|ag ?_;refine ar (df (bG k) n9 rfl (by kernel_rfl)) ?_;refine ac rfl (agy hk j.pos) ?_;refine ab<|jH (t:=1) (k:=1) rfl rfl<|bN<|cZ 2 ?_;refine qL (kO (us:=aD ah [se k,sv k]) iw rfl (by kernel_rfl) (by decide) (by decide) rfl) rfl ?_;refine bj (nH (us:=[.p (([.b true]++lp++bG k++[.b w]++ah f++ah t))]) rfl rfl) ?_;refine Co rfl rfl rfl rfl rfl ((by have h9:=dlG (f9:=63) (us9:=[.p (aC (Cv.arc k w f t))]) (K:=(Cv.arc k w f t).inner) (L:=[se k,sv k]) (c9:=2) (rs:=[]) (fun p V=>ahF j V) hE (fU rfl) (bk _) b3;rw[VW] at h9;exact h9)) rfl ?_;refine gm<|ab ?_;refine fa (t:=6) rfl rfl (qX (by first|exact(aK ai _).trans (congrArg (· *66) (fi _))|exact aK ao _) (by first|assumption|(simp only[dB,BP,uh,List.length_nil];omega)) (by omega)) (by omega) ‹_› (mC (by first|exact(aK ai _).trans (congrArg (· *66) (fi _))|exact aK ao _)) ?_;refine bN<|bj (fg ba rfl rfl rfl rfl) ?_;refine cZ 1 ?_;refine xE rfl rfl ((by have h9:=afw j (fun p h=>(hC p h).1) (by omega) (fun p h=>(hC p h).2);rw[UC j,<-ug rfl] at h9;exact h9)) rfl rfl (fun a6 a9 a4 a3 a5=>?_);refine cZ 1<|bj (Iw rfl rfl) ?_;refine bj (IL rfl rfl rfl) ?_;refine gm<|ab<|ag<|fp rfl<|ag ?_;exact⟨⟨⟨a6,a9⟩,a4,a3,a5⟩,au ⟨rfl,trivial⟩ ⟨rfl,trivial⟩ rfl⟩
 .rintro⟨⟨c9,rs⟩,h1,h2,h3⟩;dsimp only at h1 h2 h3;dsimp only;refine ab<|ab<|ag<|ar (ko pW rfl rfl) ?_;refine aM<|bK (ι:={n:Nat // n<=(dc (Cv.arc k w f t)).length}) (fun i=>⟨57,[(3,.o 29 ((dc (Cv.arc k w f t)).length) c9),(35,.o 29 ((dc (Cv.arc k w f t)).length) c9),(36,.v (.c (.i .i64 (((dc (Cv.arc k w f t)).length:Int))))),(37,.v (.c (.i .i64 (i.1:Int))))],[(29,53,aD aC (FR (dc (Cv.arc k w f t)) i.1)++rs)]⟩) (fun i=>(dc (Cv.arc k w f t)).length-i.1) ⟨0,iB _⟩ (au (bt rfl) ⟨congrArg (fun q=>some (53,aD aC q++rs)) (Zz.symm),trivial⟩ rfl) ?_;rintro⟨n,W⟩;replace W:n<=(dc (Cv.arc k w f t)).length:=W;dsimp only;refine ab<|ag<|ab ?_;refine aJ rfl (fun R=>?_) (fun R=>?_)
  .have I:n<(dc (Cv.arc k w f t)).length:=by have:=of_decide_eq_true R;omega
   have hX:CvV ((dc (Cv.arc k w f t)).getD n db):=vR _ (dG I);refine aA<|ab<|aM<|ab<|bN<|cZ 1<|bj (a8 pW rfl rfl (by omega) rfl) ?_;refine bj (aR ba rfl rfl ((iQ ai (by rw[qR W];exact I)).trans (congrArg aC (KJ I))) (ai _) rfl) ?_;refine ro (lI Ba rfl) rfl<|cZ 1<|gS (ce ba rfl rfl rfl (ai _) rfl rfl) ?_;refine bO<|ab<|ag ?_;refine ar (aR bb rfl rfl (gz _) rfl rfl) ?_;refine ar (aR bb rfl rfl (ju _) rfl rfl) ?_;refine ac rfl (sR (ew hX.g) (f5 hX.g)) ?_;refine aJ rfl (fun J=>?_) (fun J=>?_)
   .have m2:=M6 J;refine bN<|cZ 2<|bj (eY (ai _) ba rfl)<|bj (iW rfl ((show Ok _ _ [.a (aC ((dc (Cv.arc k w f t)).getD n db))] [.a (aC ((dc (Cv.arc k w f t)).getD n db).rev)] from TI hX)))<|bj (a8 pW rfl rfl (by omega) rfl) ?_;refine gS (aV (us:=aD aC ((FR (dc (Cv.arc k w f t)) n).set n ((dc (Cv.arc k w f t)).getD n db).rev)++rs) ba rfl rfl rfl (ai _) (by rw[dB,aK ai,qR W];omega) (qW ai (by rw[qR W];exact I) _) rfl) ?_;refine bO<|ag<|ar (eg (by omega) rfl) ?_;exact⟨⟨n+1,I⟩,au (bt rfl) ⟨congrArg (fun q=>some (53,aD aC q++rs)) (by rw[<-Hi I,m2]),trivial⟩ rfl,by show(dc (Cv.arc k w f t)).length-(n+1)<(dc (Cv.arc k w f t)).length-n;omega⟩
   .have m2:=Oa J;refine aA<|ag<|ar (eg (by omega) rfl) ?_;exact⟨⟨n+1,I⟩,au (bt rfl) ⟨congrArg (fun q=>some (53,aD aC q++rs)) (Jq I m2),trivial⟩ rfl,by show(dc (Cv.arc k w f t)).length-(n+1)<(dc (Cv.arc k w f t)).length-n;omega⟩
  .have V:n=(dc (Cv.arc k w f t)).length:=by have:=of_decide_eq_false R;omega
   have b4:rs.length=(c9-((dc (Cv.arc k w f t)).map Cv.fwd).length)*66:=by rw[lM];exact h3
   refine pG (σ':=⟨57,[(3,.o 29 (((dc (Cv.arc k w f t)).map Cv.fwd).length) c9)],[(29,53,aD aC ((dc (Cv.arc k w f t)).map Cv.fwd)++rs)]⟩) (au ⟨congrArg (fun q=>some (DV.o 29 q c9)) lM.symm,trivial⟩ ⟨congrArg (fun q=>some (53,aD aC q++rs)) (by rw[V,Mg]),trivial⟩ rfl) ?_;refine bH<|ab<|ag ?_;refine DL.mk<|uy (nj rfl rfl rfl rfl rfl (Za (by omega) (by omega) vM) rfl)<|iJ ?_;refine ab<|ag ?_;refine fa (t:=2) rfl rfl (qX (by first|exact(aK ai _).trans (congrArg (· *66) (fi _))|exact aK ao _) (by first|assumption|(simp only[dB,BP,uh,List.length_nil];omega)) (by omega)) (by omega) ‹_› (mC (by first|exact(aK ai _).trans (congrArg (· *66) (fi _))|exact aK ao _)) ?_;refine aU ?_;rw[show(dC (Cv.arc k w f t)).length=((dc (Cv.arc k w f t)).map Cv.fwd).length from fi _];exact ae (aj aa)
theorem ahs (j:CvV c):cq 18 [.a (aC c)] [.c (.s (((dC c)).length) (aD aC ((dC c))))]:=by
 cases c with
 |seg l f t=>exact afa j
 |arc k w f t=>exact agd j
theorem QN (_h0:0<=C) (_hs:jy (C:Rat)=true):rt (C:Rat)=Rat.divInt (bm C) 1:=by unfold rt;rw[Rat.num_intCast,Rat.den_intCast];rw[show bm ((1:Nat):Int)=1 from qk (by decide) (by decide) (by decide) (by decide)]
theorem OS (h0:0<=C) (h1:C<=65535):0<=bm C/\bm C<=255:=by have a:=fB C;have b:=tI h0;refine⟨a,?_⟩;apply kU;intro j;have:256*256<=bm C*bm C:=qJ (by omega) (by omega) (by decide) a;omega
theorem Mz {n r:Int}(_j:0<n):Rat.divInt A n+Rat.divInt B n*Rat.divInt r 1=Rat.divInt (A+B*r) n:=by rw[Rat.divInt_mul_divInt,Int.mul_one,uc,uc,uc,sN];grind
theorem Rz.rC {c:Rat}(h:Rz k c) (j:1<=k):Rz k (rC b c):=by
 unfold Go.Proofs.YtegeknjkgadehaaGreat.rC;split;·exact iH j
 .exact h
theorem aik {c:Rat}: ¬MT (rB b c) (rC b c) (rB b2 c) (rC b2 c):=by
 rintro⟨h1,j,I⟩;unfold rB at h1 j;unfold rC at I;split at h1;·exact h1 rfl
 .split at j;·exact j rfl
  .rename_i J R;rw[if_neg J,if_neg R] at I;exact I rfl
theorem V0 (lA: -32768<=A) (uA:A<=32767) (lB: -32768<=B) (uB:B<=32767) (a4: -32768<=A2) (a5:A2<=32767) (a3: -32768<=B2) (a9:B2<=32767) (J:0<=C) (uC:C<=65535) (lD:0<=D) (uD:D<=255) (hs:jy ((C:Int):Rat)=true):cq 7 [.a (([.i .i16 A]++[.i .i16 B]++[.i .i16 A2]++[.i .i16 B2]++[.i .u16 C]++[.i .u8 D]))] [.a ((cR (Rat.divInt (A+B*bm C) (D+1))++cR 0++cR (Rat.divInt (A2+B2*bm C) (D+1))++cR 0++cR 0))]:=by have kA:Rz 50 (Rat.divInt A (D+1)):=Rz.of (e8 (by decide) (by omega) (by omega)) (e8 (by decide) (by omega) (by omega)) (by omega);have W:Rz 50 (Rat.divInt B (D+1)):=Rz.of (e8 (by decide) (by omega) (by omega)) (e8 (by decide) (by omega) (by omega)) (by omega);have I:Rz 50 (Rat.divInt A2 (D+1)):=Rz.of (e8 (by decide) (by omega) (by omega)) (e8 (by decide) (by omega) (by omega)) (by omega);have V:Rz 50 (Rat.divInt B2 (D+1)):=Rz.of (e8 (by decide) (by omega) (by omega)) (e8 (by decide) (by omega) (by omega)) (by omega);have R:Rz 50 ((C:Int):Rat):=Rz.int (e8 (by decide) (by omega) (by omega)) (by decide);have j: ¬((C:Int):Rat)<0:=Rat.not_lt.2 (zg.2 J);have a6:Rz 300 ((C:Int):Rat):=R.m_;have k0:Rz 300 (0:Rat):=iH (by decide);refine bE Tryz.func7 rfl<|ar (bg wl rfl)<|ar (bi Wy p9 rfl (lq (by omega) (by omega)) rfl) ?_;refine ar (ca (D+1) (bc (by omega) (by omega)) rfl)<|ar (bg agb rfl)<|ar (bi ZP p9 rfl (lq (by omega) (by omega)) rfl) ?_;refine ac rfl ((show cq 30 [.c (.i .i64 C)] [dR ((C:Int):Rat)] from rL (by omega) (by omega)))<|cm 18 [5,999999] ?_;refine aq (bg JR rfl) ?_;refine aq (bi A8 p9 rfl (lq (by omega) (by omega)) rfl) ?_;refine aw rfl (mF (by omega) (by omega) (by omega) (by omega) (by omega)) ?_;refine aq (bg JR rfl) ?_;refine aq (bi A8 p9 rfl (lq (by omega) (by omega)) rfl) ?_;refine aw rfl (mF (by omega) (by omega) (by omega) (by omega) (by omega)) ?_;refine aw rfl (qT (EO kA W R j hs) ((congrArg (fun q=>Rat.divInt A (D+1)+Rat.divInt B (D+1)*q) (QN J hs)).trans (Mz (by omega))) rfl rfl) ?_;refine DQ.mk<|kZ (ff gT rfl) rfl rfl rfl rfl<|dY ?_;refine cm 18 [7,999999] ?_;refine aq (bg JR rfl) ?_;refine aq (bi A8 p9 rfl (lq (by omega) (by omega)) rfl) ?_;refine aw rfl (mF (by omega) (by omega) (by omega) (by omega) (by omega)) ?_;refine aq (bg JR rfl) ?_;refine aq (bi A8 p9 rfl (lq (by omega) (by omega)) rfl) ?_;refine aw rfl (mF (by omega) (by omega) (by omega) (by omega) (by omega)) ?_;refine aw rfl (qT (EO I V R j hs) ((congrArg (fun q=>Rat.divInt A2 (D+1)+Rat.divInt B2 (D+1)*q) (QN J hs)).trans (Mz (by omega))) rfl rfl) ?_;refine DQ.mk<|kZ (ff gT rfl) rfl rfl rfl rfl<|dY ?_;refine ac rfl (L1 (EW k0 k0 (fun h=>h.1 rfl)) rfl rfl rfl rfl (Jk rfl rfl)) ?_;exact ae (aN bb rfl aa)
theorem VM (lA: -32768<=A) (uA:A<=32767) (lB: -32768<=B) (uB:B<=32767) (a4: -32768<=A2) (a5:A2<=32767) (a3: -32768<=B2) (a6:B2<=32767) (lC:0<=C) (uC:C<=65535) (lD:0<=D) (uD:D<=255) (hs:jy ((C:Int):Rat)=false):cq 7 [.a (([.i .i16 A]++[.i .i16 B]++[.i .i16 A2]++[.i .i16 B2]++[.i .u16 C]++[.i .u8 D]))] [.a ((cR (Rat.divInt A (D+1))++cR (rB (Rat.divInt B (D+1)) ((C:Int):Rat))++cR (Rat.divInt A2 (D+1))++cR (rB (Rat.divInt B2 (D+1)) ((C:Int):Rat))++cR (zcp (rB (Rat.divInt B (D+1)) ((C:Int):Rat)) (rB (Rat.divInt B2 (D+1)) ((C:Int):Rat)) (cc (rB (Rat.divInt B (D+1)) ((C:Int):Rat)) (rC (Rat.divInt B (D+1)) ((C:Int):Rat)) (rC (Rat.divInt B2 (D+1)) ((C:Int):Rat))))))]:=by have kA:Rz 50 (Rat.divInt A (D+1)):=Rz.of (e8 (by decide) (by omega) (by omega)) (e8 (by decide) (by omega) (by omega)) (by omega);have W:Rz 50 (Rat.divInt B (D+1)):=Rz.of (e8 (by decide) (by omega) (by omega)) (e8 (by decide) (by omega) (by omega)) (by omega);have J:Rz 50 (Rat.divInt A2 (D+1)):=Rz.of (e8 (by decide) (by omega) (by omega)) (e8 (by decide) (by omega) (by omega)) (by omega);have V:Rz 50 (Rat.divInt B2 (D+1)):=Rz.of (e8 (by decide) (by omega) (by omega)) (e8 (by decide) (by omega) (by omega)) (by omega);have R:Rz 50 ((C:Int):Rat):=Rz.int (e8 (by decide) (by omega) (by omega)) (by decide);have j: ¬((C:Int):Rat)<0:=Rat.not_lt.2 (zg.2 lC);have I:Rz 300 ((C:Int):Rat):=R.m_;have k0:Rz 300 (0:Rat):=iH (by decide);refine bE Tryz.func7 rfl<|ar (bg wl rfl)<|ar (bi Wy p9 rfl (lq (by omega) (by omega)) rfl) ?_;refine ar (ca (D+1) (bc (by omega) (by omega)) rfl)<|ar (bg agb rfl)<|ar (bi ZP p9 rfl (lq (by omega) (by omega)) rfl) ?_;refine ac rfl ((show cq 30 [.c (.i .i64 C)] [dR ((C:Int):Rat)] from rL (by omega) (by omega)))<|cm 18 [5,999999] ?_;refine aq (bg JR rfl) ?_;refine aq (bi A8 p9 rfl (lq (by omega) (by omega)) rfl) ?_;refine aw rfl (mF (by omega) (by omega) (by omega) (by omega) (by omega)) ?_;refine aq (bg JR rfl) ?_;refine aq (bi A8 p9 rfl (lq (by omega) (by omega)) rfl) ?_;refine aw rfl (mF (by omega) (by omega) (by omega) (by omega) (by omega)) ?_;refine aw rfl (ET kA W R j hs) ?_;refine DQ.mk<|kZ (ff gT rfl) rfl rfl rfl rfl<|dY ?_;refine cm 18 [7,999999] ?_;refine aq (bg JR rfl) ?_;refine aq (bi A8 p9 rfl (lq (by omega) (by omega)) rfl) ?_;refine aw rfl (mF (by omega) (by omega) (by omega) (by omega) (by omega)) ?_;refine aq (bg JR rfl) ?_;refine aq (bi A8 p9 rfl (lq (by omega) (by omega)) rfl) ?_;refine aw rfl (mF (by omega) (by omega) (by omega) (by omega) (by omega)) ?_;refine aw rfl (ET J V R j hs) ?_;refine DQ.mk<|kZ (ff gT rfl) rfl rfl rfl rfl<|dY ?_;refine ac rfl (EW (Rz.rC I (by decide)) (Rz.rC I (by decide)) aik) ?_;exact ae (aN bb rfl aa)
structure PlD where
 a:Int
 b:Int
 a2:Int
 b2:Int
 c:Int
 d:Int
structure PlD.Wf (p:PlD):Prop where
 a0: -32768<=p.a
 a1:p.a<=32767
 b0: -32768<=p.b
 b1:p.b<=32767
 e0: -32768<=p.a2
 e1:p.a2<=32767
 f0: -32768<=p.b2
 f1:p.b2<=32767
 c0:0<=p.c
 c1:p.c<=65535
 d0:0<=p.d
 d1:p.d<=255
def cPl (p:PlD):List CellD:=[.i .i16 p.a]++[.i .i16 p.b]++[.i .i16 p.a2]++[.i .i16 p.b2]++[.i .u16 p.c]++[.i .u8 p.d]
theorem Rz.rB {c:Rat}(h:Rz k b) (j:1<=k):Rz k (rB b c):=by
 unfold Go.Proofs.YtegeknjkgadehaaGreat.rB;split;·exact iH j
 .exact h
theorem Sz.one1 (h: -1000000000<x) (j:x<1000000000):Sz 1 x:=by
 have e:pw 1=1000000000:=by decide+kernel
 exact⟨by omega,by omega⟩
theorem acR {b1 C:Rat}(hC:0<C) (hs:jy C=false):xm (rB b1 C) (rB b2 C) (zcp (rB b1 C) (rB b2 C) (cc (rB b1 C) (rC b1 C) (rC b2 C)))=true:=by
 have I:C≠0:=fun e=>by rw[e] at hC;exact Rat.lt_irrefl hC
 have e: ∀b,rB b C=b:=fun b=>by
  unfold rB;by_cases h:b=0;·rw[if_pos (.inl h),h]
  .rw[if_neg (fun g=>g.elim h I)]
 have J: ∀b,b≠0->rC b C=C:=fun b h=>by unfold rC;rw[if_neg (fun g=>g.elim h I)]
 rw[e,e];by_cases h1:b1=0
 .rw[Bj h1];by_cases j:b2=0;·rw[Jk h1 j];unfold xm;rw[if_pos ⟨h1,j⟩];exact decide_eq_true rfl
  .rw[LW j,J _ j];unfold xm;rw[if_neg (fun g=>j g.2),hs,decide_eq_true hC];rfl
 .rw[sS h1,Lo h1,J _ h1];unfold xm;rw[if_neg (fun g=>h1 g.1),hs,decide_eq_true hC];rfl
theorem aib {p:PlD}(w:p.Wf): ∃q:Pt,GP q/\cq 7 [.a (cPl p)] [.a (ah q)]:=by
 obtain⟨w1,w2,w3,w4,w5,w6,W,V,c0,c1,w9,I⟩:=w;obtain⟨s0,s1⟩:=OS c0 c1;have j: ∀x:Int,-100000000<=x->x<=100000000->Rz 1 (Rat.divInt x (p.d+1)):=fun x h h'=>Rz.of (Sz.one1 (by omega) (by omega)) (Sz.one1 (by omega) (by omega)) (by omega);have hm: ∀x:Int,-32768<=x->x<=32767-> -10000000<=x*bm p.c/\x*bm p.c<=10000000:=by
  intro x h h';have h1:x*bm p.c<=32767*255:=by
   rcases kI x 0 with hx|hx
   .have:=mp (show 0<= -x by omega) s0;have e: -x*bm p.c= -(x*bm p.c):=Int.neg_mul _ _;omega
   .exact qJ (by omega) (by omega) s0 (by omega)
  have h2: -x*bm p.c<=32768*255:=by
   rcases kI 0 x with hx|hx
   .have:=mp (show 0<=x by omega) s0;have e: -x*bm p.c= -(x*bm p.c):=Int.neg_mul _ _;omega
   .exact qJ (by omega) (by omega) s0 (by omega)
  have e: -x*bm p.c= -(x*bm p.c):=Int.neg_mul _ _;omega
 have ha:=hm p.b w3 w4;have hb:=hm p.b2 W V;have rc:Rz 1 ((p.c:Int):Rat):=Rz.int (Sz.one1 (by omega) (by omega)) (by decide);have a3:(0:Rat)<=((p.c:Int):Rat):=zg.2 c0;cases hs:jy ((p.c:Int):Rat) with
 |true=>have J:=j (p.a+p.b*bm p.c) (by omega) (by omega);have R:=j (p.a2+p.b2*bm p.c) (by omega) (by omega);exact⟨⟨Rat.divInt (p.a+p.b*bm p.c) (p.d+1),0,Rat.divInt (p.a2+p.b2*bm p.c) (p.d+1),0,0⟩,⟨J.mono (by decide),iH (by decide),R.mono (by decide),iH (by decide),iH (by decide),fun _=>⟨J.mono (by decide),R.mono (by decide)⟩,(by unfold xm;rw[if_pos ⟨rfl,rfl⟩];exact decide_eq_true rfl)⟩,V0 w1 w2 w3 w4 w5 w6 W V c0 c1 w9 I hs⟩
 |false=>
  have k3:=j p.a (by omega) (by omega);have k4:=j p.a2 (by omega) (by omega);have hC:0<((p.c:Int):Rat):=by
   by_cases h:((p.c:Int):Rat)=0;·rw[h,Td] at hs;cases hs
   .exact Rat.lt_of_le_of_ne a3 (fun g=>h g.symm)
  exact⟨⟨Rat.divInt p.a (p.d+1),rB (Rat.divInt p.b (p.d+1)) ((p.c:Int):Rat),Rat.divInt p.a2 (p.d+1),rB (Rat.divInt p.b2 (p.d+1)) ((p.c:Int):Rat),_⟩,
   ⟨k3.mono (by decide),Rz.rB ((j p.b (by omega) (by omega)).mono (by decide)) (by decide),k4.mono (by decide),Rz.rB ((j p.b2 (by omega) (by omega)).mono (by decide)) (by decide),Rz.zcp (Rz.cc (Rz.rC (rc.mono (by decide)) (by decide)) (Rz.rC (rc.mono (by decide)) (by decide))) (by decide),fun _=>⟨k3.mono (by decide),k4.mono (by decide)⟩,acR hC hs⟩,VM w1 w2 w3 w4 w5 w6 W V c0 c1 w9 I hs⟩
theorem Uh (J:c.good) (I:GP p):cq 35 [.a (aC c),.a ((cR p.a1++cR p.b1++cR (zc p.b1 p.c)))] [.c (.b (c.over p))]:=by
 refine bE Tryz.func35 rfl<|cm 15 [] ?_;refine aq (aR bb rfl rfl (gz _) rfl rfl) ?_;refine aw rfl nn ?_;refine aw rfl (xCX (ew J) I) ?_;refine zQ (aY rfl) (fun c1 j=>?_);cases c1
 .apply ae;rw[show c.over p=false from by unfold Cv.over;rw[j];rfl];exact aj aa
 .refine aq (aR bb rfl rfl (ju _) rfl rfl) ?_;refine aw rfl (nn)<|aw rfl (xCX I (f5 J))<|ae ?_;rw[show c.over p=decide (cx p c.q<=0) from by unfold Cv.over;rw[j];rfl];exact aj aa
theorem abG (V:CvV (Cv.seg l f t)) (W:GP p):cq 10 [.a (([.b false]++dh l++g9++[.b false]++ah f++ah t)),.a (ah p)] [.c (.i .i64 (nJ (Cv.seg l f t) p)),.c (.i .i64 (mR (Cv.seg l f t) p))]:=by
 have hl:=V.g.1;have hf:=V.g.2.1;have ht:=V.g.2.2;have a3:((Cv.seg l f t)).good:=V.g;have a4:=go (WT l p) (dH l.b 0);refine bE Tryz.func10 rfl<|cm 6 [] ?_;refine aq (lW ba rfl) ?_;refine aw rfl nn ?_;refine aw rfl (Uh V.g W) ?_;refine dg rfl (fun j=>?_) (fun j=>?_)
 .have o1: ¬((Cv.seg l f t)).over p=true:=by simpa using j
  apply ae;rw[show nJ (Cv.seg l f t) p=0 from by unfold nJ;rw[if_neg o1],show mR (Cv.seg l f t) p=1 from by unfold mR;rw[if_neg o1]];exact aj (aj aa)
 .refine ar (lW ba rfl)<|ac rfl (WL hl hf ht) ?_;refine dg rfl (fun I=>?_) (fun I=>?_)
  .apply cm 7 [];refine aw rfl rf ?_;refine aq (df (ah t) bb rfl (by kernel_rfl)) ?_;refine aw rfl rf ?_;refine aw rfl (xCY W ht) ?_;refine dg rfl (fun J=>?_) (fun J=>?_)
   .have o1:((Cv.seg l f t)).over p=true:=by simpa using j
    have v1:((Cv.seg l f t)).vert=true:=I;apply ae;rw[show nJ (Cv.seg l f t) p=1 from by unfold nJ A9;rw[if_pos o1,if_pos v1];exact if_pos (of_decide_eq_true J),show mR (Cv.seg l f t) p=0 from by unfold mR;rw[if_pos o1]];exact aj (aj aa)
   .apply cm 7 [];refine aw rfl rf ?_;refine aq (df (ah f) bb rfl (by kernel_rfl)) ?_;refine aw rfl rf ?_;refine aw rfl (xCY W hf) ?_;refine dg rfl (fun R=>?_) (fun R=>?_)
    .have o1:((Cv.seg l f t)).over p=true:=by simpa using j
     have v1:((Cv.seg l f t)).vert=true:=I;apply ae;rw[show nJ (Cv.seg l f t) p= -1 from by unfold nJ A9;rw[if_pos o1,if_pos v1];exact(if_neg (of_decide_eq_false J)).trans (if_pos (of_decide_eq_true R)),show mR (Cv.seg l f t) p=0 from by unfold mR;rw[if_pos o1]];exact aj (aj aa)
    .have o1:((Cv.seg l f t)).over p=true:=by simpa using j
     have v1:((Cv.seg l f t)).vert=true:=I;apply ae;rw[show nJ (Cv.seg l f t) p=0 from by unfold nJ A9;rw[if_pos o1,if_pos v1];exact(if_neg (of_decide_eq_false J)).trans (if_neg (of_decide_eq_false R)),show mR (Cv.seg l f t) p=0 from by unfold mR;rw[if_pos o1]];exact aj (aj aa)
  .refine ar (bg gC rfl)<|n7 rfl<|cm 11 [] ?_;refine aq (df (dh l) rG rfl (by kernel_rfl)) ?_;refine aw rfl (SZ hl W) ?_;refine aq (df (cR l.b) br rfl (by kernel_rfl)) ?_;refine aw rfl bU ?_;refine aq (ca ((gf l p)*(aG l.b 0)) (dz (by omega) (by omega)) rfl) ?_;have o1:((Cv.seg l f t)).over p=true:=by simpa using j
   have v1: ¬((Cv.seg l f t)).vert=true:=by rw[I];decide
   apply ae;rw[show nJ (Cv.seg l f t) p=gf l p*aG l.b 0 from by unfold nJ A9;rw[if_pos o1,if_neg v1],show mR (Cv.seg l f t) p=0 from by unfold mR;rw[if_pos o1]];exact aj (aj aa)
theorem acZ {k:Ci}(W:CvV (Cv.arc k w f t)) (hp:GP p):cq 10 [.a (([.b true]++lp++bG k++[.b w]++ah f++ah t)),.a (ah p)] [.c (.i .i64 (nJ (Cv.arc k w f t) p)),.c (.i .i64 (mR (Cv.arc k w f t) p))]:=by
 have hk:=W.g.1;have a4:((Cv.arc k w f t)).good:=W.g;refine bE Tryz.func10 rfl<|cm 6 [] ?_;refine aq (lW ba rfl) ?_;refine aw rfl nn ?_;refine aw rfl (Uh W.g hp) ?_;refine dg rfl (fun I=>?_) (fun I=>?_)
 .have o1: ¬((Cv.arc k w f t)).over p=true:=by simpa using I
  apply ae;rw[show nJ (Cv.arc k w f t) p=0 from by unfold nJ;rw[if_neg o1],show mR (Cv.arc k w f t) p=1 from by unfold mR;rw[if_neg o1]];exact aj (aj aa)
 .refine ar (lW ba rfl)<|ac rfl ((show Ok _ _ _ [.c (.b false)] from VG hk W.g.2.1 W.g.2.2))<|mL rfl ?_;refine ar (bg gC rfl) ?_;refine mL rfl<|cm 7 [] ?_;refine aw rfl rf ?_;refine aq (df (cR k.y) br rfl (by kernel_rfl)) ?_;refine aw rfl (xRY hp hk.y.m_) ?_;refine ar (bg gC rfl) ?_;refine iN (aY rfl) (fun c2 j=>?_);cases c2
  .apply mL rfl;refine ar (bg gC rfl) ?_;refine dg rfl (fun V=>?_) (fun V=>?_);·exact absurd j (by rw[V];decide)
   .refine dg rfl (fun J=>?_) (fun J=>?_)
    .have o1:((Cv.arc k w f t)).over p=true:=by simpa using I
     apply ae;rw[show nJ (Cv.arc k w f t) p=1 from by unfold nJ A9;rw[if_pos o1,if_neg (show ¬((Cv.arc k w f t)).vert=true from Bool.false_ne_true)];exact(if_neg (show ¬w=true from by rw[j];decide)).trans (if_pos (of_decide_eq_true J)),show mR (Cv.arc k w f t) p=0 from by unfold mR;rw[if_pos o1]];exact aj (aj aa)
    .refine ar (df (bG k) n9 rfl (by kernel_rfl)) ?_;refine ac rfl (Sp hk hp) ?_;have o1:((Cv.arc k w f t)).over p=true:=by simpa using I
     apply ae;rw[show nJ (Cv.arc k w f t) p=kq k p from by unfold nJ A9;rw[if_pos o1,if_neg (show ¬((Cv.arc k w f t)).vert=true from Bool.false_ne_true)];exact(if_neg (show ¬w=true from by rw[j];decide)).trans (if_neg (of_decide_eq_false J)),show mR (Cv.arc k w f t) p=0 from by unfold mR;rw[if_pos o1]];exact aj (aj aa)
  .refine dg rfl (fun R=>?_) (fun R=>?_)
   .have o1:((Cv.arc k w f t)).over p=true:=by simpa using I
    apply ae;rw[show nJ (Cv.arc k w f t) p= -1 from by unfold nJ A9;rw[if_pos o1,if_neg (show ¬((Cv.arc k w f t)).vert=true from Bool.false_ne_true)];exact(if_pos (show w=true from j)).trans (if_pos (of_decide_eq_true R)),show mR (Cv.arc k w f t) p=0 from by unfold mR;rw[if_pos o1]];exact aj (aj aa)
   .refine ar (bg gC rfl) ?_;refine dg rfl (fun a3=>?_) (fun a3=>?_)
    .refine ar (df (bG k) n9 rfl (by kernel_rfl)) ?_;refine ac rfl (Sp hk hp) ?_;refine ar (fG rfl (AU (N8 k p)) rfl) ?_;have o1:((Cv.arc k w f t)).over p=true:=by simpa using I
     apply ae;rw[show nJ (Cv.arc k w f t) p= -kq k p from by unfold nJ A9;rw[if_pos o1,if_neg (show ¬((Cv.arc k w f t)).vert=true from Bool.false_ne_true)];exact(if_pos (show w=true from j)).trans (if_neg (of_decide_eq_false R)),show mR (Cv.arc k w f t) p=0 from by unfold mR;rw[if_pos o1]];exact aj (aj aa)
    .exact absurd j (by rw[a3];decide)
theorem aer (I:CvV c) (j:GP p):cq 10 [.a (aC c),.a (ah p)] [.c (.i .i64 (nJ c p)),.c (.i .i64 (mR c p))]:=by
 cases c with
 |seg l f t=>exact abG I j
 |arc k w f t=>exact acZ I j
end Go.Proofs.YtegeknjkgadehaaGreat
