/-Plain:a line that separates two points of a half of a circle:one of the points where it meets the circle lies between them,on that half. -/
import Derived.Test.YtegeknjkgadehaaGreatTqO
namespace Go.Proofs.YtegeknjkgadehaaGreat
open Go Go.RowKit
variable {w:Bool}{k:Ci}{c:Cv}{rs:List CellD}{L T:List Pt}{l:Ln}{j:Nat}{e f p q t x y:Pt}
theorem xl:type_of% @Nat.le_of_lt:=@Nat.le_of_lt
theorem wX:type_of% @List.length_set:=@List.length_set
theorem Dy:type_of% @List.Pairwise.imp_of_mem:=@List.Pairwise.imp_of_mem
section
variable {α:Type}(e:α) (C:α->α->Int)
def oL (x:α) (out:List α):Nat->Nat
 |0=>0
 |k+1=>if C x (out.getD k e)<0 then oL x out k else k+1
def Di (out:List α) (x:α):List α:=out.take (oL e C x out out.length)++x::out.drop (oL e C x out out.length)
def aT (L:List α):List α:=L.foldl (Di e C) []
def Am (out eD:List α) (x:α) (j:Nat):List α:=out.take j++x::(out.drop j++eD)
def VR (L:List α) (p:Nat):List α:=aT e C (L.take p)++L.drop p
variable {e C}
theorem M3 (x:α) (out:List α): ∀k,oL e C x out k<=k
 |0=>bk _
 |k+1=>by
  show(if _ then oL e C x out k else k+1)<=k+1;split;·have:=M3 x out k;omega
  .exact bk _
theorem TH {x:α}{out:List α}(h0:0<j) (h:C x (out.getD (j-1) e)<0):oL e C x out j=oL e C x out (j-1):=by
 match j,h0 with
 |j+1,_=>exact if_pos h
theorem GD {x:α}{out:List α}(h:j=0\/ ¬C x (out.getD (j-1) e)<0):oL e C x out j=j:=by
 match j with
 |0=>rfl
 |j+1=>
  rcases h with h|h;·omega
  .exact if_neg h
theorem Md {x:α}{out:List α}: ∀ {k r:Nat},oL e C x out k<=r->r<k->C x (out.getD r e)<0
 |0,r,_,h=>by omega
 |k+1,r,h1,h2=>by
  unfold oL at h1;split at h1
  .rename_i g;rcases nT r k with h|h;·exact Md h1 h
   .rw[show r=k from by omega];exact g
  .omega
theorem NT {x:α}{out:List α}: ∀ {k:Nat},0<oL e C x out k-> ¬C x (out.getD (oL e C x out k-1) e)<0
 |0,h=>absurd h (Nat.lt_irrefl 0)
 |k+1,h=>by
  unfold oL at h⊢;by_cases g:C x (out.getD k e)<0;·rw[if_pos g] at h⊢;exact NT h
  .rw[if_neg g] at h⊢;exact g
theorem Rn (out:List α) (x:α):(Di e C out x).length=out.length+1:=by unfold Di;grind
theorem EN: ∀(L O:List α),(L.foldl (Di e C) O).length=O.length+L.length
 |[],O=>rfl
 |x::L,O=>by rw[re,EN L,Rn,uh];omega
theorem fi (L:List α):(aT e C L).length=L.length:=by unfold aT;rw[EN];simp
theorem TR {L:List α}{p:Nat}(h:p<L.length):aT e C (L.take (p+1))=Di e C (aT e C (L.take p)) (L.getD p e):=by unfold aT;rw[i7 h,List.foldl_append];rfl
theorem Nx (L:List α):VR e C L 1=L:=by
 cases L with
 |nil=>rfl
 |cons x L=>rfl
theorem Ot (L:List α):VR e C L L.length=aT e C L:=by unfold VR;simp
theorem M8 {L:List α}{p:Nat}(h:p<L.length):VR e C L p=Am (aT e C (L.take p)) (L.drop (p+1)) (L.getD p e) p:=by
 have hl:(aT e C (L.take p)).length=p:=by rw[fi,fF,jh (xl h)]
 unfold VR Am;rw[show(aT e C (L.take p)).take p=aT e C (L.take p) from dS (kE hl),show(aT e C (L.take p)).drop p=[] from qM (kE hl),qZ,ov h,List.getD,gI h];rfl
theorem yf {L:List α}{p:Nat}(h:p<L.length) (A:oL e C (L.getD p e) (aT e C (L.take p)) p=j):Am (aT e C (L.take p)) (L.drop (p+1)) (L.getD p e) j=VR e C L (p+1):=by
 have hl:(aT e C (L.take p)).length=p:=by rw[fi,fF,jh (xl h)]
 unfold VR Am;rw[TR h];unfold Di;grind
section
variable {out eD:List α}{x:α}{j:Nat}
theorem iz (A:j<=out.length):(Am out eD x j).length=out.length+1+eD.length:=by unfold Am;grind
theorem Gn (A:j<=out.length):(Am out eD x j).getD j e=x:=by unfold Am;grind
theorem FQ (h0:0<j) (A:j<=out.length):(Am out eD x j).getD (j-1) e=out.getD (j-1) e:=by unfold Am;grind
theorem UD (h0:0<j) (D:j<=out.length):((Am out eD x j).set j (out.getD (j-1) e)).set (j-1) x=Am out eD x (j-1):=by
 obtain⟨k,rfl⟩: ∃k,j=k+1:=⟨j-1,by omega⟩;have I:k<out.length:=by omega
 rw[Nat.add_sub_cancel];apply List.ext_getElem?;intro q;rw[List.getElem?_set,List.getElem?_set,wX,iz D];have A:(out.take k).length=k:=by grind
 unfold Am;by_cases e1:k=q;·grind
 grind
end
theorem EL (out:List α) (x:α):(Di e C out x).Perm (x::out):=by exact List.perm_middle.trans (by rw[zE])
theorem CG: ∀(L O:List α),(L.foldl (Di e C) O).Perm (O++L)
 |[],O=>by simp
 |x::L,O=>by rw[re];exact(CG L _).trans (((EL O x).append_right L).trans List.perm_middle.symm)
theorem iu (L:List α):(aT e C L).Perm L:=CG L []
theorem RW {G:α->Prop}(A: ∀x y,G x->G y->C y x= -C x y) (tr: ∀x y z,G x->G y->G z->C x y<=0->C y z<=0->C x z<=0) {out:List α}{x:α}(hx:G x) (I: ∀y∈out,G y) (h:out.Pairwise fun a b=>C a b<=0):(Di e C out x).Pairwise fun a b=>C a b<=0:=by
 have hp:=M3 (e:=e) (C:=C) x out out.length
 have up: ∀r,oL e C x out out.length<=r->r<out.length->C x (out.getD r e)<0:=fun r=>Md
 have dn:=NT (e:=e) (C:=C) (x:=x) (out:=out) (k:=out.length)
 unfold Di
 generalize oL e C x out out.length=j at hp up dn
 have h2:=h
 rw[<-zE j out] at h2
 obtain⟨h3,h4,h5⟩:=uX.1 h2
 have J: ∀y∈out.drop j,C x y<=0:=fun y V=>by obtain⟨r,W,rfl⟩:=List.mem_iff_getElem.1 V;rw[jD] at W;have:=up (j+r) (by omega) (by omega);rw[List.getD,gI (by omega)] at this;rw[List.getElem_drop];have t2:C x (out[j+r]'(by omega))<0:=this;omega
 have hlt: ∀y∈out.take j,C y x<=0:=fun y V=>by
  obtain⟨r,W,rfl⟩:=List.mem_iff_getElem.1 V;rw[fF] at W;have hj:0<j:=by omega
  have hl:(out.take j).length=j:=by rw[fF];omega
  have g:=dn hj;have hm:j-1<out.length:=by omega
  rw[List.getD,gI hm] at g;have g2: ¬C x out[j-1]<0:=g;have g3:=A x out[j-1] hx (I _ (uW hm));rw[List.getElem_take];have D:r<out.length:=by omega
  rcases nT r (j-1) with hlt|a3
  .have g4:C out[r] out[j-1]<=0:=(List.pairwise_iff_getElem.1 h) r (j-1) D hm hlt;exact tr _ _ _ (I _ (uW D)) (I _ (uW hm)) hx g4 (by omega)
  .have:r=j-1:=by omega
   subst this;omega
 refine uX.2 ⟨h3,nI.2 ⟨J,h4⟩,fun a ha b hb=>?_⟩
 rcases dt.1 hb with rfl|hb
 .exact hlt a ha
 .exact h5 a ha b hb
theorem Fn {G:α->Prop}(A: ∀x y,G x->G y->C y x= -C x y) (tr: ∀x y z,G x->G y->G z->C x y<=0->C y z<=0->C x z<=0): ∀(L:List α) {O:List α},(∀y∈L,G y)->(∀y∈O,G y)->(O.Pairwise fun a b=>C a b<=0)-> (L.foldl (Di e C) O).Pairwise fun a b=>C a b<=0
 |[],O,_,_,h=>h
 |x::L,O,hL,hO,h=>by
  rw[re];refine Fn A tr L (fun y D=>hL y (fv _ D)) (fun y D=>?_) (RW A tr (hL x fC) hO h);rcases dt.1 ((EL O x).mem_iff.1 D) with rfl|D;·exact hL y fC
  .exact hO y D
variable {enc:α->List CellD}{m:Nat}
theorem iQ (h: ∀x,(enc x).length=m) {O:List α}(A:j<O.length):((aD enc O++rs).drop (j*m)).take m=enc (O.getD j e):=by have hl:=aK h O;have D:(j+1)*m<=O.length*m:=nD _ A;rw[mS] at D;rw[xa (by omega),nE h (kg (d:=e) A),oE,<-h (O.getD j e)];grind
theorem qW (h: ∀x,(enc x).length=m) {O:List α}(A:j<O.length) (x:α):(aD enc O++rs).take (j*m)++enc x++(aD enc O++rs).drop (j*m+m)=aD enc (O.set j x)++rs:=by
 have D:(j+1)*m<=(aD enc O).length:=by rw[aK h O];exact nD _ A
 have h1:j*m<=(aD enc O).length:=by grind
 rw[show j*m+m=(j+1)*m from by rw[mS,Nat.one_mul],wt h1,xa D,nh h,o4 h,List.set_eq_take_append_cons_drop,if_pos A,iZ];show _=aD enc (O.take j)++(enc x++aD enc (O.drop (j+1)))++rs;grind
end
def a7:Cv->Pt->Pt->Int
 | .seg _ f t,p,q=>cP p q*cP t f
 | .arc k w f t,p,q=>if w then-vo k t p q else vo k f p q
def rA (c:Cv) (S:List Pt):List Cv:=ia c (c.p::(S++[c.q]))
def dc (c:Cv):List Cv:=if c.isArc then rA c (aT dPt (a7 c) (dx c)) else[c]
def dC (c:Cv):List Cv:=aT db jc ((dc c).map Cv.fwd)
def zQ5:List CellD:=H6++H6++H6++H6++H6
theorem CD (c:Cv) (S:List Pt):(rA c S).length=S.length+1:=by unfold rA;rw[lN,uh,dB];simp
theorem xi (c:Cv): ∀(l:List Pt) (a x:Pt),ia c (a::(l++[x]))=ia c (a::l)++[c.ends ((a::l).getD l.length dPt) x]
 |[],a,x=>rfl
 |b::l,a,x=>by show c.ends a b::ia c (b::(l++[x]))=c.ends a b::ia c (b::l)++_;rw[xi c l b x];rfl
theorem Ew (c:Cv) (q:Pt):(aC c).take 46++ah q++(aC c).drop (46+20)=aC (c.ends c.p q):=by cases c<;>rfl
theorem OC (c:Cv):c.ends c.p c.q=c:=by cases c<;>rfl
theorem Fu (c:Cv) (x q P:Pt):(c.ends x q).ends (c.ends x q).p P=c.ends x P:=by cases c<;>rfl
theorem EB (c:Cv) (x q P:Pt):(c.ends x q).setp P=c.ends P q:=by cases c<;>rfl
theorem Jh (h:c.inner p=true):c.on p=true:=by unfold Cv.inner at h;rw[di] at h;exact h.1
theorem po (D:c.good) (A:GP p) (h:c.inner p=true):cP p c.p≠0/\cP p c.q≠0:=by unfold Cv.inner at h;have h1:=ez (cD (ew D)) (cD A);have I:=ez (cD (f5 D)) (cD A);grind
theorem abn {C:Pt->Pt->Int}(D: ∀p∈L,GP p) (h:L.Pairwise fun a b=>cP a b≠0): ∀i,i+1<(aT e C L).length->cP ((aT e C L).getD (i+1) dPt) ((aT e C L).getD i dPt)≠0:=fun i hi=>by
 have I:=iu (e:=e) (C:=C) L;have A: ∀p∈aT e C L,GP p:=fun p h=>D p (I.mem_iff.1 h);have J:(aT e C L).Pairwise fun a b=>cP a b≠0:=by
  have V:L.Pairwise fun a b=>cP a b≠0/\GP a/\GP b:=by refine Dy (fun{a b} ha W g=>⟨g,D a ha,D b W⟩) h
  exact (I.symm.pairwise V (fun{a b} g=>⟨fun e=>g.1 (by rw[ez (cD g.2.2) (cD g.2.1),e];rfl),g.2.2,g.2.1⟩)).imp fun g=>g.1
 have g1:(aT e C L).getD (i+1) dPt=(aT e C L)[i+1]:=by grind
 have g2:(aT e C L).getD i dPt=(aT e C L)[i]:=by grind
 rw[g1,g2];exact fun e=>((List.pairwise_iff_getElem.1 J) i (i+1) (by omega) hi (by omega)) (by rw[ez (cD (A _ (uW hi))) (cD (A _ (uW _))),e];rfl)
def FR (R:List Cv) (n:Nat):List Cv:=(R.take n).map Cv.fwd++R.drop n
section
variable {R:List Cv}{n:Nat}
theorem qR (h:n<=R.length):(FR R n).length=R.length:=by unfold FR;rw[dB,List.length_map,fF,jD];omega
theorem KJ (h:n<R.length):(FR R n).getD n db=R.getD n db:=by unfold FR;grind
theorem Hi (h:n<R.length):(FR R n).set n (R.getD n db).fwd=FR R (n+1):=by
 unfold FR;have hl:((R.take n).map Cv.fwd).length=n:=by grind
 rw[List.set_append_right _ _ (by omega),hl,vk,i7 h,zO,oE,ov h];rfl
theorem Jq (h:n<R.length) (e:(R.getD n db).fwd=R.getD n db):FR R n=FR R (n+1):=by
 rw[<-Hi h,e];apply List.ext_getElem?;intro j;rw[List.getElem?_set];split
 .rename_i g;subst g;rw[if_pos (by rw[qR (xl h)];exact h),<-KJ h,kg (by rw[qR (xl h)];exact h)]
 .rfl
theorem Mg:FR R R.length=R.map Cv.fwd:=by unfold FR;simp
theorem Zz:FR R 0=R:=by unfold FR;simp
end
theorem ug (h:c.isArc=true):dc c=rA c (aT dPt (a7 c) (dx c)):=by unfold dc;rw[if_pos h]
theorem vz (h:c.isArc=false):dc c=[c]:=by unfold dc;rw[if_neg (by rw[h];decide)]
theorem aga (A:GK k) (h0:0<k.q):cP (se k) (sv k)≠0:=fun e=>by
 have h1:=(jP.1 e).1;have D:=QE h0;rcases Ha (CK A h0) (CW A h0) D.1 D.2 with⟨_,b,_⟩|⟨_,b⟩;·have:=(Vg h0).2;omega
 .omega
theorem v6: ∀p∈dx c,c.inner p=true:=fun p A=>by
 cases c with
 |seg l f t=>cases A
 |arc k w f t=>
  rcases lh.1 A with A|A
  .split at A;·rename_i e;cases gZ.1 A;exact e
   .cases A
  .split at A;·rename_i e;cases gZ.1 A;exact e
   .cases A
theorem yz (vc:CvV c):(dx c).Pairwise fun a b=>cP a b≠0:=by
 cases c with
 |seg l f t=>exact List.Pairwise.nil
 |arc k w f t=>show((if _ then[se k] else[])++(if _ then[sv k] else[])).Pairwise _;split<;>split<;>simp[aga vc.g.1 vc.pos]
theorem Ac (vc:CvV c): ∀d∈dc c,CvV d:=fun d W=>by
 cases ha:c.isArc with
 |false=>rw[vz ha] at W;rw[gZ.1 W];exact vc
 |true=>
  rw[ug ha] at W;have hp:=iu (e:=dPt) (C:=a7 c) (dx c);have I: ∀p∈aT dPt (a7 c) (dx c),GP p/\c.inner p=true:=fun p h=>⟨(fw vc p (hp.mem_iff.1 h)).1,v6 p (hp.mem_iff.1 h)⟩;have a3:(aT dPt (a7 c) (dx c)).Pairwise fun a b=>cP a b≠0:=by have h3:(dx c).Pairwise fun a b=>cP a b≠0/\GP a/\GP b:=Dy (fun{a b} ha hb g=>⟨g,(fw vc a ha).1,(fw vc b hb).1⟩) (yz vc);exact (hp.symm.pairwise h3 (fun{a b} g=>⟨fun e=>g.1 (by rw[ez (cD g.2.2) (cD g.2.1),e];rfl),g.2.2,g.2.1⟩)).imp fun g=>g.1
  generalize aT dPt (a7 c) (dx c)=S at W I a3;have J: ∀x∈c.p::(S++[c.q]),GP x/\c.supp x=true:=fun x D=>by
   rcases dt.1 D with rfl|D;·exact⟨ew vc.g,vc.sp⟩
   .rcases lh.1 D with D|D;·exact⟨(I x D).1,oN (Jh (I x D).2)⟩
    .rw[gZ.1 D];exact⟨f5 vc.g,vc.sq⟩
  have all:(c.p::(S++[c.q])).Pairwise fun a b=>cP a b≠0:=by
   refine nI.2 ⟨fun x D=>?_,uX.2 ⟨a3,List.pairwise_singleton _ _,fun x D y hy=>?_⟩⟩
   .rcases lh.1 D with D|D
    .have:=(po vc.g (I x D).1 (I x D).2).1;exact fun e=>this (by rw[ez (cD (ew vc.g)) (cD (I x D).1),e];rfl)
    .rw[gZ.1 D];exact vc.ne
   .rw[gZ.1 hy];exact(po vc.g (I x D).1 (I x D).2).2
  obtain⟨A,p,q,B,e,rfl⟩:=lK W;have a4:=J p (by rw[e];simp);have V:=J q (by rw[e];simp);have a5:cP p q≠0:=by rw[e] at all;exact(nI.1 (uX.1 all).2.1).1 q (by simp)
  cases c with
  |seg l f t=>cases ha
  |arc k w f t=>exact⟨zF vc.g a4.1 V.1,vc.pos,a4.2,V.2,a5⟩
theorem Jl:0<(dc c).length:=by
 cases A:c.isArc with
 |false=>rw[vz A];exact Nat.zero_lt_one
 |true=>rw[ug A,CD];omega
theorem DE:(dc c).length<=3:=by
 cases A:c.isArc with
 |false=>rw[vz A];exact fU rfl
 |true=>rw[ug A,CD,fi];have:=Fd c;omega
theorem sh (c:Cv):(dC c).Perm ((dc c).map Cv.fwd):=iu _
theorem acp (vc:CvV c): ∀d∈dC c,CvV d:=fun d D=>by obtain⟨x,A,rfl⟩:=nZ.1 ((sh c).mem_iff.1 D);exact Ua (Ac vc x A)
def pA (D A:Fin 4) (i:Int):Bool:=ow A D i&& !(uK A==uK D&&i==0)
def pB (I D A:Fin 4) (i j d:Int):Bool:=ow A I j&&(ow A D d&&(BI j i d&&cwP I A D j i d))
def pC (A D:Fin 4) (j l d e g:Int):Bool:=ow A D g&&(BI j l g&&BI d e g)
theorem O1: ∀(J I:Fin 4) (i:Fin 3),pA J I (i3 i)=true-> ∀(A:Fin 4) (j d:Fin 3),pB J I A (i3 i) (i3 j) (i3 d)=true-> ∀(D:Fin 4) (l e:Fin 3),pB J I D (i3 i) (i3 l) (i3 e)=true-> ∀g:Fin 3,pC A D (i3 j) (i3 l) (i3 d) (i3 e) (i3 g)=true-> GU (Dh (uF A) (uF J) (-(i3 j))) (Dh (uF D) (uF J) (-(i3 l))) (Dh (uF A) (uF D) (-(i3 g)))= -uZ (Bm (uK A) (uK I) (i3 d)) (Bm (uK D) (uK I) (i3 e)) (Bm (uK A) (uK D) (i3 g)):=by decide+kernel
theorem ac3 (h0:0<k.q) (of:OnK k f) (ot:OnK k t) (ox:OnK k x) (W:OnK k y) (a3:cP f t≠0) (J:(Cv.arc k true f t).on x=true) (I:(Cv.arc k true f t).on y=true):(Cv.arc k true f t).ord x y= -vo k t x y:=by
 have V:=bJ of;have ct:=bJ ot;have D:=bJ ox;have A:=bJ W;rw[uz (bW.2 ox.2)] at J;rw[uz (bW.2 W.2)] at I;have J:(decide ((Cv.arc k true f t).ord f x<=0)&&decide ((Cv.arc k true f t).ord x t<=0))=true:=J;have I:(decide ((Cv.arc k true f t).ord f y<=0)&&decide ((Cv.arc k true f t).ord y t<=0))=true:=I;rw[yd h0 of ot ox] at J;rw[yd h0 of ot W] at I;have t1:=gO V D ct;have t2:=gO V A ct;have t3:=gO V D A;have t4:=gO ct D A;have m1:=gh h0 ot of;have m2:=gh h0 ox of;have m3:=gh h0 ox ot;have m4:=gh h0 W of;have m5:=gh h0 W ot;have m6:=gh h0 ox W;have hn:(uK (kd k t)==uK (kd k f)&&cx t f==0)=false:=by
  rw[<-jt,<-jt];cases h:(kv k t==kv k f&&cx t f==0) with
  |false=>rfl
  |true=>exact absurd (yG h0 ot of h) (fun e=>a3 (by rw[ez ct V,e];rfl))
 have e1:vo k t x f=uZ (Bm (uK (kd k x)) (uK (kd k t)) (cx x t)) (Bm (uK (kd k f)) (uK (kd k t)) (-cx t f)) (Bm (uK (kd k x)) (uK (kd k f)) (cx x f)):=by unfold vo nG;rw[jt,jt,jt,gw ct V]
 have e2:vo k t y f=uZ (Bm (uK (kd k y)) (uK (kd k t)) (cx y t)) (Bm (uK (kd k f)) (uK (kd k t)) (-cx t f)) (Bm (uK (kd k y)) (uK (kd k f)) (cx y f)):=by unfold vo nG;rw[jt,jt,jt,gw ct V]
 rw[e1] at J;rw[e2] at I;show tG k.mir f.flip x.flip y.flip=_;rw[rN,fA,fA,fA,mj D V,mj A V,mj D A,rT h0 of,rT h0 ox,rT h0 W];unfold vo nG;rw[jt,jt,jt];obtain⟨i,hi⟩:=eo (dO t f);obtain⟨j,hj⟩:=eo (dO x f);obtain⟨l,hl⟩:=eo (dO y f);obtain⟨d,hd⟩:=eo (dO x t);obtain⟨e,he⟩:=eo (dO y t);obtain⟨g,hg⟩:=eo (dO x y);rw[hi] at t1 t2 m1 hn J I;rw[hj] at t1 t3 m2 J⊢;rw[hl] at t2 t3 m4 I⊢;rw[hd] at t1 t4 m3 J⊢;rw[he] at t2 t4 m5 I⊢;rw[hg] at t3 t4 m6⊢;exact O1 _ _ i (by unfold pA;rw[m1,hn];rfl) _ j d (by unfold pB cwP;rw[m2,m3,t1,J];rfl) _ l e (by unfold pB cwP;rw[m4,m5,t2,I];rfl) g (by unfold pC;rw[m6,t3,t4];rfl)
theorem HQ (A:GP x) (h:(Cv.arc k w f t).on x=true):OnK k x:=⟨A,bW.1 (oN h)⟩
theorem HN (vc:CvV c) (V:c.isArc=true) (J:GP x) (I:GP y) (A:c.on x=true) (D:c.on y=true):a7 c x y=c.ord x y:=by
 cases c with
 |seg l f t=>cases V
 |arc k w f t=>
  cases w with
  |true=>exact(ac3 vc.pos ⟨vc.g.2.1,bW.1 vc.sp⟩ ⟨vc.g.2.2,bW.1 vc.sq⟩ (HQ J A) (HQ I D) vc.ne A D).symm
  |false=>exact(VS vc.g.2.1 J I).symm
theorem JE {α:Type}{r:α->α->Prop}: ∀ {A B:List α},(∀a∈A,∀b∈A,r a b-> ¬r b a)->A.Perm B->A.Pairwise r->B.Pairwise r->A=B
 |[],B,_,h,_,_=>h.nil_eq
 |a::A,[],_,h,_,_=>absurd h.length_eq (by simp)
 |a::A,b::B,hs9,h,hA,hB=>by
  have D:a=b:=by apply kU;intro J;have h1:a∈B:=(dt.1 (h.mem_iff.1 fC)).resolve_left J;have I:b∈A:=(dt.1 (h.mem_iff.2 fC)).resolve_left (Ne.symm J);exact hs9 a fC b (fv _ I) ((nI.1 hA).1 b I) ((nI.1 hB).1 a h1)
  subst D;rw[JE (fun x V y W=>hs9 x (fv _ V) y (fv _ W)) h.cons_inv (nI.1 hA).2 (nI.1 hB).2]
section
variable {k:Ci}{w:Bool}{f t:Pt}(vc:CvV (.arc k w f t))
include vc
theorem yw:OnK k f/\OnK k t:=⟨⟨vc.g.2.1,bW.1 vc.sp⟩,⟨vc.g.2.2,bW.1 vc.sq⟩⟩
theorem FZ (D:OnK k x) (I:OnK k y) (h:(Cv.arc k w f t).ord x y<=0) (A:cP x y≠0):(Cv.arc k w f t).ord x y<0:=by have:(Cv.arc k w f t).ord x y≠0:=fun e=>A (Kk vc.pos (yw vc).1 D I e);omega
theorem BT:(f::(aT dPt (a7 (.arc k w f t)) (dx (.arc k w f t))++[t])).Pairwise (fun p q=>(Cv.arc k w f t).ord p q<0)/\ ∀p∈f::(aT dPt (a7 (.arc k w f t)) (dx (.arc k w f t))++[t]),OnK k p:=by
 have of:=(yw vc).1;have ot:=(yw vc).2;have hp:=iu (e:=dPt) (C:=a7 (.arc k w f t)) (dx (.arc k w f t));have I: ∀p∈dx (.arc k w f t),OnK k p/\(Cv.arc k w f t).inner p=true:=fun p h=>⟨HQ (fw vc p h).1 (fw vc p h).2,v6 p h⟩;have V: ∀p∈aT dPt (a7 (.arc k w f t)) (dx (.arc k w f t)),OnK k p/\(Cv.arc k w f t).inner p=true:=by grind
 have J: ∀x∈dx (.arc k w f t),∀y∈dx (.arc k w f t),a7 (.arc k w f t) x y=(Cv.arc k w f t).ord x y:=fun x A y D=>HN vc rfl (I x A).1.1 (I y D).1.1 (fw vc x A).2 (fw vc y D).2;have hs:=Fn (e:=dPt) (C:=a7 (.arc k w f t)) (G:=fun p=>p∈dx (.arc k w f t)) (fun x y A D=>by
  rw[J x A y D,J y D x A];exact gU of (I x A).1 (I y D).1) (fun x y z A D hz h1 h2=>by
  rw[J x A y D] at h1;rw[J y D z hz] at h2;rw[J x A z hz];exact Nh (sL of (I x A).1 (I y D).1 (I z hz).1) h1 h2) (dx (.arc k w f t)) (O:=[]) (fun y D=>D) (fun y D=>by cases D) .nil
 have a3:(aT dPt (a7 (.arc k w f t)) (dx (.arc k w f t))).Pairwise fun a b=>cP a b≠0:=by have h3:(dx (.arc k w f t)).Pairwise fun a b=>cP a b≠0/\GP a/\GP b:=Dy (fun{a b} ha W g=>⟨g,(fw vc a ha).1,(fw vc b W).1⟩) (yz vc);have h4:=hp.symm.pairwise h3 (fun{a b} g=>⟨fun e=>g.1 (by rw[ez (cD g.2.2) (cD g.2.1),e];rfl),g.2.2,g.2.1⟩);exact h4.imp fun g=>g.1
 have hlt:(aT dPt (a7 (.arc k w f t)) (dx (.arc k w f t))).Pairwise fun p q=>(Cv.arc k w f t).ord p q<0:=
  Dy (fun{a b} ha W g=>FZ vc (V a ha).1 (V b W).1 (by rw[<-J a (hp.mem_iff.1 ha) b (hp.mem_iff.1 W)];exact g.1) g.2) (hs.and a3)
 have a4: ∀x,(Cv.arc k w f t).on x=true->OnK k x->(Cv.arc k w f t).ord x t<=0:=fun x A ox=>by rw[uz (bW.2 ox.2),di] at A;exact of_decide_eq_true A.2
 refine⟨List.pairwise_cons.2 ⟨fun x A=>?_,uX.2 ⟨hlt,List.pairwise_singleton _ _,fun x A y D=>?_⟩⟩,fun x A=>?_⟩
 .rcases lh.1 A with A|A;·exact FZ vc of (V x A).1 (qK of (V x A).1) (fun e=>(po vc.g (V x A).1.1 (V x A).2).1 (by show cP x f=0;rw[ez (bJ of) (bJ (V x A).1),e];rfl))
  .rw[gZ.1 A];exact FZ vc of ot (qK of ot) vc.ne
 .rw[gZ.1 D];exact FZ vc (V x A).1 ot (a4 x (Jh (V x A).2) (V x A).1) (po vc.g (V x A).1.1 (V x A).2).2
 grind
theorem abP (A:T.Perm (f::(aT dPt (a7 (.arc k w f t)) (dx (.arc k w f t))++[t]))) (J:T.Pairwise fun p q=>(Cv.arc k w f t).ord p q<0):T=f::(aT dPt (a7 (.arc k w f t)) (dx (.arc k w f t))++[t]):=by obtain⟨h1,D⟩:=BT vc;refine JE (fun a I b V g W=>?_) A J h1;have:=gU (w:=w) (t:=t) (yw vc).1 (D a (A.mem_iff.1 I)) (D b (A.mem_iff.1 V));omega
end
theorem Mt: ∀ {L:List Pt},(∀a∈L,∀b∈L,cP a b=0->cP b a=0)->L.Pairwise (fun a b=>cP a b≠0)-> ∀a∈L,∀b∈L,cP a b=0->a=b
 |[],_,_,_,h,_,_,_=>by cases h
 |x::L,hs,h,a,J,b,I,e=>by
  obtain⟨h1,V⟩:=nI.1 h;rcases dt.1 J with rfl|D
  .rcases dt.1 I with rfl|A;·rfl
   .exact absurd e (h1 b A)
  .rcases dt.1 I with rfl|A;·exact absurd (hs a J b I e) (h1 a D)
   .exact Mt (fun a J b I=>hs a (fv _ J) b (fv _ I)) V a D b A e
theorem Y1 (vc:CvV c):dc c=Q9 c:=by
 cases c with
 |seg l f t=>rfl
 |arc k w f t=>
  have of:=(yw vc).1;obtain⟨h1,h2⟩:=BT vc;have J:(f::(aT dPt (a7 (.arc k w f t)) (dx (.arc k w f t))++[t])).Perm ([f,t]++dx (.arc k w f t)):=List.Perm.cons f (List.perm_append_comm.trans (List.Perm.cons t (iu (e:=dPt) (C:=a7 (.arc k w f t)) (dx (.arc k w f t)))));have A: ∀y∈ [f,t]++dx (.arc k w f t),OnK k y:=by grind
  obtain⟨g1,g2⟩:=Fx vc.pos of A;have V: ∀x,OnK k x-> ¬(Cv.arc k w f t).ord x x<0:=fun x ox h=>by have:=gU (w:=w) (t:=t) of ox ox;omega
  have D: ∀p∈dx (.arc k w f t),OnK k p/\(Cv.arc k w f t).inner p=true:=fun p h=>⟨HQ (fw vc p h).1 (fw vc p h).2,v6 p h⟩;have pw:([f,t]++dx (.arc k w f t)).Pairwise fun a b=>cP a b≠0:=by
   refine nI.2 ⟨fun x I=>?_,nI.2 ⟨fun x I=>?_,yz vc⟩⟩
   .rcases dt.1 I with rfl|I;·exact vc.ne
    .exact fun e=>(po vc.g (D x I).1.1 (D x I).2).1 (by show cP x f=0;rw[ez (bJ of) (bJ (D x I).1),e];rfl)
   .exact fun e=>(po vc.g (D x I).1.1 (D x I).2).2 (by show cP x t=0;rw[ez (bJ ((yw vc).2)) (bJ (D x I).1),e];rfl)
  have nd: ∀ {L:List Pt},(∀y∈L,OnK k y)->L.Pairwise (fun p q=>(Cv.arc k w f t).ord p q<0)->L.Nodup:=fun ho hs=>Dy (fun{a b} ha _ a3 e=>by subst e;exact V a (ho a ha) a3) hs;have hm: ∀z∈cj (.arc k w f t) ([f,t]++dx (.arc k w f t)),z∈ [f,t]++dx (.arc k w f t):=fun z W=>nk W;have a4:=abP vc ((List.perm_ext_iff_of_nodup (nd (fun y hy=>A y (hm y hy)) g1) (nd h2 h1)).2 fun z=>⟨fun W=>J.mem_iff.2 (hm z W),fun W=>by obtain⟨y,hy,e⟩:=g2 z (J.mem_iff.1 W);rw[<-(Mt (fun a ha b hb e=>by rw[ez (bJ (A a ha)) (bJ (A b hb)),e];rfl) pw) y (hm y hy) z (J.mem_iff.1 W) e];exact hy⟩) g1
  show ia (.arc k w f t) (f::(aT dPt (a7 (.arc k w f t)) (dx (.arc k w f t))++[t]))=ia (.arc k w f t) (cj (.arc k w f t) ([f,t]++dx (.arc k w f t)));grind
theorem NC (vc:CvV (.arc k w f t)) (hm:(Cv.arc k w f t).mono=true) (op:OnK k p):(Cv.arc k w f t).on p=true↔kd k p≠(if w then 3 else 1)/\cx f p<=0/\cx p t<=0:=by
 have h0:0<k.q:=vc.pos
 have of:OnK k f:=⟨vc.g.2.1,bW.1 vc.sp⟩
 have D:OnK k t:=⟨vc.g.2.2,bW.1 vc.sq⟩
 have W:=PB vc.g.1 h0 of D hm
 have af:=gw (bJ of) (bJ op)
 have J:=gh h0 op of
 have I:=gh h0 op D
 rw[uz (bW.2 op.2)]
 show(decide ((Cv.arc k w f t).ord f p<=0)&&decide ((Cv.arc k w f t).ord p t<=0))=true↔_
 cases w with
 |false=>
  rw[xb of.1 D.1 op.1,decide_eq_true_iff,vP]
  have A:=gO (bJ of) (bJ op) (bJ D)
  obtain⟨a1,a2,V⟩:=W
  obtain⟨i,hi⟩:=eo (dO p f)
  obtain⟨l,hl⟩:=eo (dO p t)
  rw[V] at A⊢
  rw[hi] at A J⊢
  rw[hl] at A I⊢
  rw[VK _ _ _ i l a1 a2 J I A,if_neg (by decide)]
  constructor
  .grind
  grind
 |true=>
  rw[yd h0 of D op,decide_eq_true_iff,vP]
  have A:=gO (bJ D) (bJ op) (bJ of)
  obtain⟨a1,a2,V⟩:=W
  obtain⟨i,hi⟩:=eo (dO p t)
  obtain⟨l,hl⟩:=eo (dO p f)
  rw[V] at A⊢
  rw[hi] at A I⊢
  rw[hl] at A J⊢
  rw[Xq _ _ _ i l a1 a2 I J A,if_pos rfl]
  constructor
  .grind
  grind
def Cv.over (c:Cv) (p:Pt):Bool:=decide (cx c.p p<=0)&&decide (cx p c.q<=0)
def A9 (c:Cv) (p:Pt):Int:=if c.vert then(if cy p c.q>0 then 1 else if cy p c.p<0 then-1 else 0) else match c with
 | .seg l _ _=>gf l p*aG l.b 0
 | .arc k w _ _=>if w then(if mh p k.y<0 then-1 else-kq k p) else if mh p k.y>0 then 1 else kq k p
def nJ (c:Cv) (p:Pt):Int:=if c.over p then A9 c p else 0
def mR (c:Cv) (p:Pt):Int:=if c.over p then 0 else 1
theorem Ij (A:GP p) (D:GP q) (h1:gf l p=0):gf l q=bz (Re.of l.a*(pX q-pX p)+Re.of l.b*(pY q-pY p)):=by
 rw[y9 A] at h1;rw[y9 D];have e:Ef l q=(Re.of l.a*(pX q-pX p)+Re.of l.b*(pY q-pY p))+Ef l p:=fj fun n=>by unfold Ef;simp only[bF,bo,bV,dy];grind
 rw[e,dE _ h1]
theorem Tv (A:GP p) (D:GP q) (h1:gf l p=0) (J:gf l q=0) (V:l.b≠0) (I:cx q p=0):cy q p=0:=by
 have h:=Ij A D h1;rw[J] at h;rw[ng (cD D) (cD A)] at I;rw[F1 (cD D) (cD A)];rw[nO (by rw[cU,I,uR]),cU,fZ] at h;rcases sD.1 h.symm with g|g;·exact absurd (fY.1 g) V
 .exact g
theorem Qh (A:GP p) (D:GP q):cy q p= -cy p q:=by rw[F1 (cD A) (cD D),F1 (cD D) (cD A),AD]
theorem HZ (h:cx p q=0):cP p q=cy p q:=if_neg (fun g=>g h)
theorem ZM (h:cP p q<=0):cx p q<=0:=by
 by_cases g:cx p q=0;·omega
 .rw[Xg g] at h;exact h
theorem H3 (h:cP f t<0):(Cv.seg l f t).ord p q=cP p q:=by show(if decide (cP f t>0)=true then-cP p q else cP p q)=_;grind
theorem adz (vc:CvV c) (hm:c.mono=true) (A:GP p) (ho:c.over p=true):A9 c p=0↔c.on p=true:=by
 unfold Cv.over at ho;rw[di] at ho;have o1:=of_decide_eq_true ho.1;have o2:=of_decide_eq_true ho.2;cases c with
 |seg l f t=>
  have D:=vc.g.2.1;have V:=vc.g.2.2;have sf:gf l f=0:=by have:=vc.sp;simpa [Cv.supp,Cv.p] using this
  have st:gf l t=0:=by have:=vc.sq;simpa [Cv.supp,Cv.q] using this
  have o1:cx f p<=0:=o1;have o2:cx p t<=0:=o2;have hlt:cP f t<0:=by have hm:(!decide (cP f t>=0))=true:=hm;simpa using hm
  have W:=aaU vc.g.1 D V sf st (by omega);have a4:(Cv.seg l f t).on p=((gf l p==0)&&decide (cP f p<=0)&&decide (cP p t<=0)):=by show((gf l p==0)&&decide ((Cv.seg l f t).ord f p<=0)&&decide ((Cv.seg l f t).ord p t<=0))=_;rw[H3 hlt,H3 hlt]
  rw[a4];unfold A9;show(if (cx f t==0)=true then(if cy p t>0 then(1:Int) else if cy p f<0 then-1 else 0) else gf l p*aG l.b 0)=0↔_;have af:=gw (cD D) (cD A);have ay:=Qh D A;by_cases I:cx f t=0
  .rw[if_pos (by rw[I];rfl)];have hx:cx f p=0:=by
    rw[ng (cD D) (cD V)] at I;rw[ng (cD A) (cD V)] at o2;rw[ng (cD D) (cD A)] at o1⊢;have e:pX p-pX t= -(pX f-pX p)+(pX f-pX t):=fj fun n=>by simp only[bF,bo,cr];grind
    rw[e,dE _ I,fq] at o2;omega
   have a5:cx p t=0:=by
    rw[ng (cD D) (cD V)] at I;rw[ng (cD D) (cD A)] at hx;rw[ng (cD A) (cD V)];have e:pX p-pX t= -(pX f-pX p)+(pX f-pX t):=fj fun n=>by simp only[bF,bo,cr];grind
    rw[e,dE _ I,fq,hx];rfl
   have hs:gf l p=0:=by
    rw[Ij D A sf,W.1 I,dE _ (by rw[cU,fZ,jI,nQ]),cU];rw[ng (cD D) (cD A)] at hx;have e:bz (pX p-pX f)=0:=by rw[AD,hx];rfl
    rw[e,uR]
   rw[hs,HZ hx,HZ a5];simp only[beq_self_eq_true,ii,di,decide_eq_true_eq];constructor
   .intro h;split at h;·omega
    .split at h;·omega
     .exact⟨by omega,by omega⟩
   .intro h;rw[if_neg (by omega),if_neg (by omega)]
  .rw[if_neg (by simpa using I)];have hb:l.b≠0:=fun e=>I (W.2 e);have hc:aG l.b 0≠0:=fun e=>hb (fY.1 e);simp only[di,beq_iff_eq,decide_eq_true_eq];constructor
   .intro h;have hs:gf l p=0:=(sD.1 h).resolve_right hc;refine⟨⟨hs,?_⟩,?_⟩
    .by_cases g:cx f p=0
     .have:=Tv A D hs sf hb g;rw[HZ g];omega
     .rw[Xg g];exact o1
    .by_cases g:cx p t=0
     .have:=Tv V A st hs hb g;rw[HZ g];omega
     .rw[Xg g];exact o2
   .intro h;rw[h.1.1,nQ]
 |arc k w f t=>
  have h0:0<k.q:=vc.pos;have D:=vc.g.2.1;have o1:cx f p<=0:=o1;have o2:cx p t<=0:=o2;have a3:kq k p≠0->(Cv.arc k w f t).on p=false:=fun h=>by unfold Cv.on;rw[show(Cv.arc k w f t).supp p=(kq k p==0) from rfl,show(kq k p==0)=false from by simpa using h];rfl
  have J:kq k p=0->((Cv.arc k w f t).on p=true↔kd k p≠(if w then 3 else 1)):=fun h=>by rw[NC vc hm ⟨A,h⟩];exact⟨fun h=>h.1,fun h=>⟨h,o1,o2⟩⟩
  have h3:kq k p=0->(kd k p=3↔mh p k.y<0):=fun h=>by
   rcases rO h0 ⟨A,h⟩ with⟨a,b,_⟩|⟨a,b⟩|⟨a,b,_⟩|⟨a,b⟩<;>rw[a];·exact⟨fun h=>absurd h (by decide),fun h=>by omega⟩
   .exact⟨fun h=>absurd h (by decide),fun h=>by omega⟩
   .exact⟨fun h=>absurd h (by decide),fun h=>by omega⟩
   .exact⟨fun _=>b,fun _=>rfl⟩
  have h1:kq k p=0->(kd k p=1↔mh p k.y>0):=fun h=>by
   rcases rO h0 ⟨A,h⟩ with⟨a,b,_⟩|⟨a,b⟩|⟨a,b,_⟩|⟨a,b⟩<;>rw[a];·exact⟨fun h=>absurd h (by decide),fun h=>by omega⟩
   .exact⟨fun _=>b,fun _=>rfl⟩
   .exact⟨fun h=>absurd h (by decide),fun h=>by omega⟩
   .exact⟨fun h=>absurd h (by decide),fun h=>by omega⟩
  unfold A9;show(if false=true then(if cy p t>0 then(1:Int) else if cy p f<0 then-1 else 0) else if w=true then(if mh p k.y<0 then-1 else-kq k p) else if mh p k.y>0 then 1 else kq k p)=0↔_;rw[if_neg (by decide)];by_cases hs:kq k p=0
  .rw[J hs];cases w with
   |true=>
    rw[if_pos rfl,if_pos rfl,ne_eq,h3 hs];split;·rename_i g;exact⟨fun h=>absurd h (by decide),fun h=>absurd g h⟩
    .rename_i g;exact⟨fun _=>g,fun _=>by rw[hs];rfl⟩
   |false=>
    rw[if_neg (show ¬false=true by decide),if_neg (show ¬false=true by decide),ne_eq,h1 hs];split;·rename_i g;exact⟨fun h=>absurd h (by decide),fun h=>absurd g h⟩
    .rename_i g;exact⟨fun _=>g,fun _=>hs⟩
  .rw[a3 hs];refine⟨fun h=>?_,fun h=>by cases h⟩;exfalso;split at h
   .split at h;·omega
    .omega
   .split at h;·omega
    .exact hs h
theorem Td:jy 0=true:=by decide+kernel
end Go.Proofs.YtegeknjkgadehaaGreat
