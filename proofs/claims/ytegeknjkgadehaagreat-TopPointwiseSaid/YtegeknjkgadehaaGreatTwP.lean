/-Plain:what the reference makes of curves that are filled:their pieces,those that occur an odd number of times,joined,sorted;all are curves that run forward. -/
import Derived.Test.YtegeknjkgadehaaGreatTwO
namespace Go.Proofs.YtegeknjkgadehaaGreat
open Go Go.RowKit
variable {k:Ci}{c d:Cv}{L O:List Cv}{f i j n:Nat}
theorem tM:type_of% @DataW.trod_int:=@DataW.trod_int
theorem tz:type_of% @List.drop_take:=@List.drop_take
theorem GM (c:Cv) (r:List CellD):((an c++r).drop 25)[0]? =some (.b c.cw):=by cases c<;>rfl
theorem Bu (c:Cv) (r:List CellD):((an c++r).drop 26).take 20=ai c.p:=by cases c<;>rfl
theorem oV (c:Cv) (r:List CellD):((an c++r).drop 46).take 20=ai c.q:=by cases c<;>rfl
structure Fw (c:Cv):Prop where
 v:CvV c
 lt:cP c.p c.q<0
set_option maxRecDepth 1000000 in
theorem V5: ∀(a p q:Fin 4) (i j m:Fin 3),(a=2\/a=3)->p≠1->q≠1->0<=i3 i->0<=i3 j->mB p a (i3 i)=true->mB q a (i3 j)=true->mB p q (i3 m)=true->
 v6 (uK a) (uK p) (uK q) (i3 i) (i3 j) (i3 m)<0->i3 m= -1:=by decide+kernel
set_option maxRecDepth 1000000 in
theorem VL: ∀(a p q:Fin 4) (i j m:Fin 3),(a=1\/a=2)->p≠3->q≠3->0<=i3 i->0<=i3 j->mB p a (i3 i)=true->mB q a (i3 j)=true->mB p q (i3 m)=true->
 v6 (uF a) (uF p) (uF q) (-(i3 i)) (-(i3 j)) (-(i3 m))<0->i3 m= -1:=by decide+kernel
theorem WT {w:Bool}{f t p q:Pt}(I:CvV (.arc k w f t)) (U:(Cv.arc k w f t).mono=true) (D:OnK k p) (u:OnK k q) (hp:(Cv.arc k w f t).on p=true) (hq:(Cv.arc k w f t).on q=true)
 (h:(Cv.arc k w f t).ord p q<0):cP p q<0:=by
 have E:0<k.q:=I.pos
 have of:=(Xq I).1
 have ot:=(Xq I).2
 have J:=Ei I.g.1 E of ot U
 obtain⟨N,p2,_⟩:=(MQ I U D).1 hp
 obtain⟨q1,q2,_⟩:=(MQ I U u).1 hq
 have ap:=io (bZ of) (bZ D)
 have aq:=io (bZ of) (bZ u)
 have c1:=iH E D of
 have c2:=iH E u of
 have W:=iH E D u
 obtain⟨i,hi⟩:=fG (fA p f)
 obtain⟨j,R⟩:=fG (fA q f)
 obtain⟨m,K⟩:=fG (fA p q)
 rw[hi] at c1
 rw[R] at c2
 rw[K] at W
 suffices e:cx p q= -1 by rw[ael (by omega)];omega
 rw[K]
 cases w with
 |false=>
  rw[nI] at h
  have h:tU k f p q<0:=h
  rw[g9,oT,oT,oT,hi,R,K] at h
  simp only[Bool.false_eq_true,if_false] at J N q1
  exact V5 _ _ _ i j m J.1 N q1 (by omega) (by omega) c1 c2 W h
 |true=>
  rw[nI] at h
  have h:tU k.mir f.flip p.flip q.flip<0:=h
  rw[g9,qF E of,qF E D,qF E u,mr (bZ D) (bZ of),mr (bZ u) (bZ of),mr (bZ D) (bZ u),hi,R,K] at h
  simp only[if_true] at J N q1
  exact VL _ _ _ i j m J.2.1 N q1 (by omega) (by omega) c1 c2 W h
theorem W1 (h:c.mono=true):cP c.p c.q<0:=by
 cases c with
 |seg l f t=>have h:(!decide (cP f t>=0))=true:=h;show cP f t<0;grind
 |arc k w f t=>have h:(!decide (cP f t>=0)&&(!(Cv.arc k w f t).inner (ov k)&& !(Cv.arc k w f t).inner (nZ k)))=true:=h;show cP f t<0;grind
theorem Sg (D:CvV c) (hm:c.mono=true) {L:List Pt}(hL: ∀y∈L,GP y/\c.on y=true) (R:d∈fz c L):Fw d:=by
 have vd:=My D (fun p I=>(hL p I).1) (fun p I=>AD (hL p I).2) d R;refine⟨vd,?_⟩;have K:=W1 hm;cases c with
 |seg l f t=>
  have K:cP f t<0:=K;have U:=D.g.2.1;have gt:=D.g.2.2;have ff:(Cv.seg l f t).ord f f<=0:=by have:=Is (l:=l) (f:=f) (t:=t) U U;omega
  have ft:(Cv.seg l f t).ord f t<=0:=by rw[IF];split<;>omega
  obtain⟨p,q,I,hq,rfl,u,a3⟩:=SB (c:=.seg l f t) (G:=fun p=>GP p/\(Cv.seg l f t).ord f p<=0) (fun p h=>gG h.1) (fun p q h g=>Is h.1 g.1) (fun p q r I hq hr=>ZQ I.1 hq.1 hr.1) (fun p q h g e=>by rw[IF] at e;split at e<;>omega) D (fun p h=>h.1) ⟨U,ff⟩ ⟨gt,ft⟩
   (fun y E=>⟨⟨(hL y E).1,(Kx.1 (hL y E).2).2.1⟩,(hL y E).2⟩) (fun y h=>h.2) R
  rw[IF,if_neg (by omega)] at u;exact u
 |arc k w f t=>
  have h0:0<k.q:=D.pos;have of:=(Xq D).1;have J:=(Xq D).2;have N:=fun(p q:Pt) (h:OnK k p/\(Cv.arc k w f t).on p=true) (g:OnK k q/\(Cv.arc k w f t).on q=true)=>ny (w:=w) (t:=t) of h.1 g.1;have zz: ∀ {x:Pt},OnK k x->(Cv.arc k w f t).ord x x<=0:=fun{x} ox=>by have:=ny (w:=w) (t:=t) of ox ox;omega
  have W:(Cv.arc k w f t).on f=true:=Kx.2 ⟨eC.2 of.2,zz of,xK of J⟩;have a0:(Cv.arc k w f t).on t=true:=Kx.2 ⟨eC.2 J.2,xK of J,zz J⟩
  obtain⟨p,q,op,oq,rfl,u,a3⟩:=SB (c:=.arc k w f t) (G:=fun p=>OnK k p/\(Cv.arc k w f t).on p=true) (fun p h=>bZ h.1) N (fun p q r h g e=>yU of h.1 g.1 e.1) (fun p q h g e=>Iv h0 of h.1 g.1 e) D (fun p h=>h.1.1) ⟨of,W⟩ ⟨J,a0⟩
   (fun y E=>⟨⟨ab8 (hL y E).1 (hL y E).2,(hL y E).2⟩,(hL y E).2⟩) (fun y h=>xK of h.1) R
  exact WT D hm op.1 oq.1 op.2 oq.2 u
theorem Ot (U:c.good) (gd:d.good) (h:jy c d=true) {p:Pt}(K:GP p) (g:d.supp p=true):c.supp p=true:=by
 cases c with
 |seg l f t=>
  cases d with
  |seg m u v=>
   have h:(wE (l.a*m.b) (l.b*m.a)&&wE (l.a*m.c) (l.c*m.a)&&wE (l.b*m.c) (l.c*m.b))=true:=h;simp only[de] at h;have I:=Eo h.1.1;have E:=Eo h.1.2;have D:=Eo h.2;have g:(jz m p==0)=true:=g;rw[Cz K,beq_iff_eq] at g;show(jz l p==0)=true;rw[Cz K,beq_iff_eq];have N:m.a*m.a+m.b*m.b≠0:=gd.1.n;have R:bz (Re.of m.a*Dh l p)=0:=by rw[show Re.of m.a*Dh l p=Re.of l.a*Dh m p from ee fun n=>by unfold Dh;simp only[bN,bt,bW,db];grind];exact Yy _ g
   have kb:bz (Re.of m.b*Dh l p)=0:=by rw[show Re.of m.b*Dh l p=Re.of l.b*Dh m p from ee fun n=>by unfold Dh;simp only[bN,bt,bW,db];grind];exact Yy _ g
   by_cases J:m.a=0
   ·refine X9 kb ?_;rw[gI];exact fun e=>N (by rw[J,jE.1 e];decide+kernel)
   ·exact X9 R (by rw[gI];exact fun e=>J (jE.1 e))
  |arc d w2 u v=>cases h
 |arc k w f t=>
  cases d with
  |seg m u v=>cases h
  |arc d w2 u v=>
   have h:(wE k.x d.x&&wE k.y d.y&&wE k.q d.q)=true:=h;simp only[de] at h;have e:k=d:=by have I:=Eo h.1.1;have E:=Eo h.1.2;have D:=Eo h.2;cases k;cases d;dsimp only at I E D;rw[I,E,D]
   subst e;exact g
def qp (L:List Cv):Nat->List Cv
 |0=>[]
 |n+1=>qp L n++oI (L.getD n aK)
def bk (L:List Cv):List Cv:=qp L L.length
def bJ (A:List Cv) (i:Nat):Nat->List Pt
 |0=>[]
 |k+1=>if k=i then bJ A i k else bJ A i k++bY (A.getD i aK) (A.getD k aK)
def mS (A:List Cv):Nat->List Cv
 |0=>[]
 |n+1=>mS A n++fz (A.getD n aK) (bJ A n A.length)
def vo (L:List Cv):List Cv:=mS (bk L) (bk L).length
section
variable {L:List Cv}(hL: ∀d∈L,CvV d)
theorem Ce: ∀n,(qp L n).length<=3*n
 |0=>bd _
 |n+1=>by have:=Ce n;have:=CK (c:=L.getD n aK);show(qp L n++oI _).length<=_;rw[dc];omega
include hL in
theorem RO: ∀n,n<=L.length-> ∀d∈qp L n,CvV d/\d.mono=true
 |0,_,d,h=>by cases h
 |n+1,hn,d,h=>by
  rcases iN.1 (show d∈qp L n++oI _ from h) with h|h;·exact RO n (by omega) d h
  ·have g:=hL _ (aY (d:=aK) hn);exact⟨Z8 g d h,Of g d h⟩
include hL in
theorem Yp: ∀d∈bk L,CvV d/\d.mono=true:=RO hL _ (bd _)
end
section
variable {A:List Cv}(hA: ∀d∈A,CvV d/\d.mono=true)
theorem qY {i:Nat}: ∀k,(bJ A i k).length<=4*k
 |0=>bd _
 |k+1=>by
  have:=qY (i:=i) k;have:=oE (a:=A.getD i aK) (c:=A.getD k aK);show(if k=i then bJ A i k else bJ A i k++bY _ _).length<=_;split;·omega
  ·rw[dc];omega
include hA in
theorem ss {i:Nat}(hi:i<A.length): ∀k,k<=A.length-> ∀p∈bJ A i k,GP p/\(A.getD i aK).on p=true
 |0,_,p,h=>by cases h
 |k+1,hk,p,h=>by
  have h:p∈if k=i then bJ A i k else bJ A i k++bY _ _:=h;split at h;·exact ss hi k (by omega) p h
  ·rcases iN.1 h with h|h;·exact ss hi k (by omega) p h
   ·exact⟨G6 (hA _ (aY (d:=aK) hi)).1.g (hA _ (aY (d:=aK) hk)).1.g p h,W5 p h⟩
theorem Bt (hl:A.length<=1200): ∀n,n<=A.length->(mS A n).length<=n*4801
 |0,_=>bd _
 |n+1,hn=>by have g:=Bt hl n (by omega);have D:=wD (c:=A.getD n aK) (l:=bJ A n A.length);have u:=qY (A:=A) (i:=n) A.length;show(mS A n++fz _ _).length<=_;rw[dc];omega
include hA in
theorem Nf: ∀n,n<=A.length-> ∀d∈mS A n,Fw d
 |0,_,d,h=>by cases h
 |n+1,hn,d,h=>by
  rcases iN.1 (show d∈mS A n++fz _ _ from h) with h|h;·exact Nf n (by omega) d h
  ·obtain⟨v,m⟩:=hA _ (aY (d:=aK) hn);exact Sg v m (ss hA hn _ (bd _)) h
end
theorem MF (hL: ∀d∈L,CvV d): ∀d∈vo L,Fw d:=Nf (Yp hL) _ (bd _)
theorem Lx (h:L.length<=400):(bk L).length<=1200:=by have:=Ce (L:=L) L.length;unfold bk;omega
theorem Qt (h:L.length<=400):(vo L).length<=6000000:=by have g:=Lx h;have:=Bt g _ (bd _);unfold vo;omega
def zZ (O:List Cv) (x:Cv):Nat->Int
 |0=> -1
 |k+1=>if Uq (O.getD k aK) x then(k:Int) else zZ O x k
def E1 (O:List Cv) (x:Cv):List Cv:=if zZ O x O.length<0 then O++[x] else O.take (zZ O x O.length).toNat++O.drop ((zZ O x O.length).toNat+1)
def gE (L:List Cv):Nat->List Cv
 |0=>[]
 |n+1=>E1 (gE L n) (L.getD n aK)
def An (L:List Cv):List Cv:=gE L L.length
theorem IS (O:List Cv) (x:Cv): ∀k,-1<=zZ O x k/\zZ O x k<k
 |0=>⟨Int.le_refl _,by show(-1:Int)<((0:Nat):Int);omega⟩
 |k+1=>by have:=IS O x k;show-1<=(if _ then _ else _)/\(if _ then _ else _)<_;split<;>omega
theorem RF (O:List Cv) (x:Cv):(E1 O x).length<=O.length+1:=by
 unfold E1;split;·simp
 ·rw[dc,eu,eP];omega
theorem Pb {x:Cv}(h:d∈E1 O x):d∈O\/d=x:=by
 unfold E1 at h;split at h;·simpa using h
 ·rcases iN.1 h with h|h;·exact .inl (wn h)
  ·exact .inl (List.mem_of_mem_drop h)
theorem BA (L:List Cv): ∀n,(gE L n).length<=n
 |0=>bd _
 |n+1=>fw (RF _ _) (Nat.succ_le_succ (BA L n))
theorem xa {L:List Cv}: ∀ {n:Nat}{d:Cv},n<=L.length->d∈gE L n->d∈L
 |0,_,_,h=>by cases h
 |n+1,d,hn,h=>by
  rcases Pb h with h|h;·exact xa (by omega) h
  ·rw[h];exact aY hn
def kH (L:List Cv) (p:Pt):Nat->Nat
 |0=>0
 |k+1=>kH L p k+(if cP (L.getD k aK).p p=0 then 1 else 0)+(if cP (L.getD k aK).q p=0 then 1 else 0)
def GC (L:List Cv) (p:Pt):Nat->Int
 |0=> -1
 |k+1=>if cP (L.getD k aK).p p=0 then(k:Int) else GC L p k
def qN (L:List Cv) (i:Nat):Pt:=(L.getD i aK).q
def AS (L:List Cv) (i:Nat):Int:=GC L (qN L i) L.length
def lv (L:List Cv) (i:Nat):Bool:=kH L (qN L i) L.length==2&&(decide (0<=AS L i)&&(jy (L.getD i aK) (L.getD (AS L i).toNat aK)&&(L.getD i aK).cw==(L.getD (AS L i).toNat aK).cw))
def dX (L:List Cv) (i j:Nat):Nat->List Cv
 |0=>[]
 |k+1=>if k≠i/\k≠j then dX L i j k++[L.getD k aK] else dX L i j k
def s7 (L:List Cv) (i:Nat):Cv:=(L.getD i aK).ends (L.getD i aK).p (L.getD (AS L i).toNat aK).q
def vJ (L:List Cv) (i:Nat):List Cv:=dX L i (AS L i).toNat L.length++[s7 L i]
def rL:Nat->List Cv->List Cv
 |0,L=>L
 |f+1,L=>match (List.range L.length).find? (lv L) with
  |none=>L
  |some i=>rL f (vJ L i)
theorem AL (L:List Cv) (p:Pt): ∀k,kH L p k<=2*k
 |0=>bd _
 |k+1=>by have:=AL L p k;show kH L p k+(if _ then 1 else 0)+(if _ then 1 else 0)<=_;split<;>split<;>omega
theorem wK (L:List Cv) (p:Pt): ∀k,-1<=GC L p k/\GC L p k<k/\(0<=GC L p k->cP (L.getD (GC L p k).toNat aK).p p=0)
 |0=>⟨Int.le_refl _,by show(-1:Int)<((0:Nat):Int);omega,fun h=>absurd h (by show ¬(0:Int)<= -1;omega)⟩
 |k+1=>by
  have:=wK L p k;unfold GC;split;·rename_i h;exact⟨by omega,by omega,fun _=>h⟩
  ·exact⟨this.1,by omega,this.2.2⟩
theorem yV {L:List Cv}{i j:Nat}: ∀ {n:Nat}{d:Cv},n<=L.length->d∈dX L i j n->d∈L
 |0,_,_,h=>by cases h
 |n+1,d,hn,h=>by
  have h:d∈if n≠i/\n≠j then dX L i j n++[L.getD n aK] else dX L i j n:=h;split at h
  ·rcases iN.1 h with h|h;·exact yV (by omega) h
   ·rw[nT.1 h];exact aY hn
  ·exact yV (by omega) h
theorem t6 (L:List Cv) (i j:Nat): ∀n,(dX L i j n).length<=n
 |0=>bd _
 |n+1=>by
  have:=t6 L i j n;show(if _ then dX L i j n++[_] else dX L i j n).length<=_;split;·simp;omega
  ·omega
theorem El (L:List Cv) {i j:Nat}(g:i≠j): ∀n,(dX L i j n).length+((if i<n then 1 else 0)+(if j<n then 1 else 0))=n
 |0=>by simp[dX]
 |n+1=>by
  have:=El L g n;show(if _ then dX L i j n++[_] else dX L i j n).length+_=_;by_cases u:n=i;·rw[if_neg (by omega)];grind
  ·by_cases D:n=j;·rw[if_neg (by omega)];grind
   ·rw[if_pos ⟨u,D⟩,dc,List.length_singleton];grind
section
variable {L:List Cv}{i:Nat}
theorem lh:lv L i=true↔kH L (qN L i) L.length=2/\0<=AS L i/\jy (L.getD i aK) (L.getD (AS L i).toNat aK)=true/\(L.getD i aK).cw=(L.getD (AS L i).toNat aK).cw:=by unfold lv;simp only[de,beq_iff_eq,decide_eq_true_eq]
theorem QP (L:List Cv) (i:Nat): -1<=AS L i/\AS L i<L.length:=⟨(wK L (qN L i) L.length).1,(wK L (qN L i) L.length).2.1⟩
theorem KL (h:0<=AS L i):(AS L i).toNat<L.length:=by have:=QP L i;omega
variable (hL: ∀d∈L,Fw d) (hi:i<L.length) (h:lv L i=true)
include hL hi h
theorem Xi:i≠(AS L i).toNat:=fun e=>by obtain⟨_,u,_⟩:=lh.1 h;have g:=(wK L (qN L i) L.length).2.2 u;have g:cP (L.getD (AS L i).toNat aK).p (qN L i)=0:=g;rw[<-e] at g;have:=(hL _ (aY (d:=aK) hi)).lt;have:cP (L.getD i aK).p (L.getD i aK).q<0:=this;have g:cP (L.getD i aK).p (L.getD i aK).q=0:=g;omega
theorem Ee:(vJ L i).length+1=L.length:=by have u:=El L (Xi hL hi h) L.length;have g:=KL (lh.1 h).2.1;unfold vJ;rw[if_pos hi,if_pos g] at u;rw[dc,List.length_singleton];omega
theorem Vc:Fw (s7 L i):=by
 obtain⟨_,J,R,_⟩:=lh.1 h;have N:=KL J;have u:=hL _ (aY (d:=aK) hi);have D:=hL _ (aY (d:=aK) N);have U:cP (L.getD (AS L i).toNat aK).p (L.getD i aK).q=0:=(wK L (qN L i) L.length).2.2 J;have K:=fj u.v.g;have gq:=gA u.v.g;have I:=fj D.v.g;have E:=gA D.v.g;have lt:cP (L.getD i aK).p (L.getD (AS L i).toNat aK).q<0:=by have t1:=Mv (gG K) (gG gq) (gG E);have t2:=Mv (gG gq) (gG I) (gG E);have a1:=jv (gG I) (gG gq);have l1:=u.lt;have l2:=D.lt;unfold T3 at t1 t2;omega
 refine⟨⟨DE u.v.g K E,Il u.v.pos _ _,?_,?_,?_⟩,?_⟩;·unfold s7;rw[BQ,u6];exact u.v.sp
 ·unfold s7;rw[CJ,u6];exact Ot u.v.g D.v.g R E D.v.sq
 ·unfold s7;rw[BQ,CJ];omega
 ·unfold s7;rw[BQ,CJ];exact lt
theorem GU: ∀d∈vJ L i,Fw d:=fun d g=>by
 rcases iN.1 g with g|g;·exact hL d (yV (bd _) g)
 ·rw[nT.1 g];exact Vc hL hi h
end
theorem UO (h: ∀i,i<L.length->lv L i=false):(List.range L.length).find? (lv L)=none:=by rw[List.find?_eq_none];intro i hi;rw[h i (iC.1 hi)];decide
theorem V4 (hi:i<L.length) (h:lv L i=true) (g: ∀j,j<i->lv L j=false):(List.range L.length).find? (lv L)=some i:=by rw[List.find?_range_eq_some];exact⟨h,iC.2 hi,fun j u=>by rw[g j u];rfl⟩
theorem M7 (h: ∀i,i<L.length->lv L i=false):rL f L=L:=by
 cases f with
 |zero=>rfl
 |succ f=>unfold rL;rw[UO h]
theorem Mf (hi:i<L.length) (h:lv L i=true) (g: ∀j,j<i->lv L j=false):rL (f+1) L=rL f (vJ L i):=by rw[rL,V4 hi h g]
theorem FT: ∀ {f:Nat}{L:List Cv},(∀d∈L,Fw d)->(∀d∈rL f L,Fw d)/\(rL f L).length<=L.length
 |0,_,h=>⟨h,bd _⟩
 |f+1,L,h=>by
  unfold rL;split;·exact⟨h,bd _⟩
  ·rename_i i e;rw[List.find?_range_eq_some] at e;obtain⟨u,g,_⟩:=e;have g:=iC.1 g;obtain⟨D,E⟩:=FT (f:=f) (GU h g u);exact⟨D,by have:=Ee h g u;omega⟩
def Be (L:List Cv) (i:Nat):List Pt:=[(L.getD i aK).p,(L.getD i aK).q]
def ln (L:List Cv) (i j:Nat):Pt:=(Be L i).getD j dPt
def CU (L:List Cv):Bool:=(List.range L.length).any fun i=>(List.range 2).any fun j=>kH L (ln L i j) L.length%2==1
theorem abJ (hi:i<L.length) (g:j<2) (h:kH L (ln L i j) L.length%2=1):CU L=true:=by unfold CU;rw[vC];refine⟨i,iC.2 hi,?_⟩;rw[vC];exact⟨j,iC.2 g,by rw[h];rfl⟩
theorem ab3 (h: ∀i,i<L.length-> ∀j,j<2-> ¬kH L (ln L i j) L.length%2=1):CU L=false:=by unfold CU;rw[List.any_eq_false];intro i hi;rw[Bool.not_eq_true,List.any_eq_false];intro j g;have:=h i (iC.1 hi) j (iC.1 g);simp[this]
theorem TP {a b:Pt}:ai a++ai b=am ai [a,b]:=by show _=ai a++(ai b++[]);rw[pI]
theorem ZY (h:(L.getD i aK).good) (g:j<2):GP (ln L i j):=by
 match j,g with
 |0,_=>exact fj h
 |1,_=>exact gA h
def WL (L:List Cv):List Cv:=rL L.length L
def Bp (L:List Cv):List Cv:=ij aK fL (WL (An (vo L)))
def pk (L:List Cv):List Cv×Int:=if 400<L.length then([],3) else if CU L then([],8) else if 400<(Bp L).length then([],3) else(Bp L,0)
theorem Lj (hL: ∀d∈L,CvV d): ∀d∈Bp L,Fw d:=fun d g=>
 (FT (fun d g=>MF hL d (xa (bd _) g))).1 d ((EG _).mem_iff.1 g)
theorem MG (hL: ∀d∈L,CvV d):(∀d∈(pk L).1,CvV d)/\(pk L).1.length<=400:=by
 unfold pk;split;·exact⟨(fun d h=>nomatch h),eo _⟩
 ·split;·exact⟨(fun d h=>nomatch h),eo _⟩
  ·split;·exact⟨(fun d h=>nomatch h),eo _⟩
   ·exact⟨fun d h=>(Lj hL d h).v,by show(Bp L).length<=400;omega⟩
theorem aah (h:400<L.length):pk L=([],3):=if_pos h
theorem aau (h: ¬400<L.length) (g:CU L=true):pk L=([],8):=by unfold pk;rw[if_neg h,if_pos g]
theorem aaH (h: ¬400<L.length) (g:CU L=false) (e:400<(Bp L).length):pk L=([],3):=by unfold pk;rw[if_neg h,if_neg (by rw[g];decide),if_pos e]
theorem abw (h: ¬400<L.length) (g:CU L=false) (e: ¬400<(Bp L).length):pk L=(Bp L,0):=by unfold pk;rw[if_neg h,if_neg (by rw[g];decide),if_neg e]
theorem adW (L:List Cv):L=Oy aK fL L 0:=by unfold Oy ij;simp
theorem afp (g:GK k) (u:0<k.q): ∀c∈DM k,CvV c:=fun c D=>by
 rcases dO.1 D with e|e;·subst e;exact⟨⟨g,tN g u,t5 g u⟩,u,eC.2 (GD g u),eC.2 (E0 g u),Yn g u⟩
 ·rw[nT] at e;subst e;refine⟨⟨g,t5 g u,tN g u⟩,u,eC.2 (E0 g u),eC.2 (GD g u),fun e=>Yn g u ?_⟩;have:=jv (gG (t5 g u)) (gG (tN g u));have e:cP (nZ k) (ov k)=0:=e;omega
structure Fm where
 k:Int
 u:Int
 a:Int
 b:Int
 c:Int
 d:Int
 cs:List (Int×Int)
def yl:Int×Int:=(0,0)
def mw:Fm:=⟨0,0,0,0,0,0,[]⟩
def cH:Rat×Rat:=(0,0)
def tO (q:Int×Int):List CellD:=[.i .i8 q.1,.i .i8 q.2]
def pm (f:Fm):List CellD:=[.i .u8 f.k,.i .u8 f.u,.i .i8 f.a,.i .i8 f.b,.i .i8 f.c,.i .i8 f.d,.s f.cs.length (am tO f.cs)]
def my (v:Rat×Rat):List CellD:=cR v.1++cR v.2
theorem mi (q:Int×Int):(tO q).length=2:=rfl
theorem gn (f:Fm):(pm f).length=7:=rfl
theorem dm (v:Rat×Rat):(my v).length=8:=rfl
theorem Fe (f:Fm) (r:List CellD):(pm f++r).take 7=pm f:=by rw[<-gn f];exact List.take_left
theorem pJ (v:Rat×Rat) (r:List CellD):(my v++r).take 8=my v:=by rw[<-dm v];exact List.take_left
def KW (x:Int):Prop:= -128<=x/\x<=127
structure FmB (f:Fm):Prop where
 k:0<=f.k/\f.k<=255
 u:0<=f.u/\f.u<=255
 a:KW f.a
 b:KW f.b
 c:KW f.c
 d:KW f.d
 cs: ∀q∈f.cs,KW q.1/\KW q.2
def Rz1 (v:Rat×Rat):Prop:=Rz 1 v.1/\Rz 1 v.2
def oC (x y u:Int):Rat×Rat:=(qD x (uD u),qD y (uD u))
theorem yv {x y u:Int}(D:KW x) (E:KW y) (g:0<=u):Rz1 (oC x y u):=⟨Yd D (SU g),Yd E (SU g)⟩
def Ut (a b:Rat×Rat):Prop:=a.2-b.2=0/\b.1-a.1=0
instance (a b:Rat×Rat):Decidable (Ut a b):=inferInstanceAs (Decidable (_/\_))
def j8 (a b:Rat×Rat):List Cv:=if Ut a b then[] else[oc a.1 a.2 b.1 b.2]
def dk (V:List (Rat×Rat)):Nat->List Cv
 |0=>[]
 |n+1=>dk V n++j8 (V.getD n cH) (V.getD ((n+1)%V.length) cH)
def yY (V:List (Rat×Rat)):List Cv:=dk V V.length
theorem aa7 {a b c d:Rat}(J:Rz 1 a) (u:Rz 1 b) (I:Rz 1 c) (g:Rz 1 d) (h: ¬(b-d=0/\c-a=0)):CvV (oc a b c d):=by
 have D:GP (rP a b):=ZB J u;have E:GP (rP c d):=ZB I g;refine⟨⟨WR J u I g h,D,E⟩,trivial,?_,?_,fun e=>h ?_⟩
 ·show(jz _ (rP _ _)==0)=true;rw[LA D rfl];rfl
 ·show(jz _ (rP _ _)==0)=true;rw[LA E (aad _ _ _ _)];rfl
 ·obtain⟨N,K⟩:=aaU e;grind
theorem aaX {a b:Rat×Rat}(D:Rz1 a) (u:Rz1 b): ∀c∈j8 a b,CvV c:=fun c g=>by
 unfold j8 at g;split at g;·cases g
 ·rename_i h;rw[nT.1 g];exact aa7 D.1 D.2 u.1 u.2 h
theorem Th (a b:Rat×Rat):(j8 a b).length<=1:=by unfold j8;split<;>simp
theorem tD (V:List (Rat×Rat)): ∀n,(dk V n).length<=n
 |0=>bd _
 |n+1=>by have:=tD V n;have:=Th (V.getD n cH) (V.getD ((n+1)%V.length) cH);show(dk V n++j8 _ _).length<=_;rw[dc];omega
theorem J0 {V:List (Rat×Rat)}(g: ∀v∈V,Rz1 v): ∀n,n<=V.length-> ∀c∈dk V n,CvV c
 |0,_,c,h=>by cases h
 |n+1,hn,c,h=>by
  rcases iN.1 (show c∈dk V n++j8 _ _ from h) with h|h;·exact J0 g n (by omega) c h
  ·exact aaX (g _ (aY (d:=cH) hn)) (g _ (aY (d:=cH) (Nat.mod_lt _ (by omega)))) c h
def rK (f:Fm) (n:Nat):List (Rat×Rat):=(f.cs.take n).map fun q=>oC q.1 q.2 f.u
def Ip (f:Fm):List (Rat×Rat):=[oC f.a f.b f.u,((oC f.c f.d f.u).1,(oC f.a f.b f.u).2),oC f.c f.d f.u,((oC f.a f.b f.u).1,(oC f.c f.d f.u).2)]
def OO (f:Fm):Ci:=⟨(oC f.a f.b f.u).1,(oC f.a f.b f.u).2,(oC f.c f.d f.u).1⟩
def jS (f:Fm):List Cv:=if f.k%3=0 then yY (Ip f) else if f.k%3=1 then(if 0<(OO f).q then DM (OO f) else[]) else yY (rK f f.cs.length)
theorem tk {f:Fm}(h:n<f.cs.length):rK f (n+1)=rK f n++[oC (f.cs.getD n yl).1 (f.cs.getD n yl).2 f.u]:=by unfold rK;rw[uc (d:=yl) h,zw];rfl
theorem q8 {f:Fm}(h:n<=f.cs.length):(rK f n).length=n:=by unfold rK;rw[sV,eu];omega
section
variable {f:Fm}(hf:FmB f)
include hf
theorem ML: ∀v∈rK f n,Rz1 v:=fun v g=>by obtain⟨q,D,rfl⟩:=nC.1 g;obtain⟨E,I⟩:=hf.cs q (wn D);exact yv E I hf.u.1
theorem MR: ∀v∈Ip f,Rz1 v:=fun v g=>by
 have D:=yv hf.a hf.b hf.u.1;have E:=yv hf.c hf.d hf.u.1;unfold Ip at g;simp only[dO,tH,or_false] at g;rcases g with e|e|e|e<;>subst e;·exact D
 ·exact⟨E.1,D.2⟩
 ·exact E
 ·exact⟨D.1,E.2⟩
theorem LF:GK (OO f):=⟨(yv hf.a hf.b hf.u.1).1,(yv hf.a hf.b hf.u.1).2,(yv hf.c hf.d hf.u.1).1.mono (by decide)⟩
theorem abd: ∀c∈jS f,CvV c:=fun c g=>by
 unfold jS at g;split at g;·exact J0 (MR hf) _ (bd _) c g
 ·split at g
  ·split at g;·rename_i u;exact afp (LF hf) u c g
   ·cases g
  ·exact J0 (ML hf) _ (bd _) c g
omit hf in
theorem B9 (h:f.cs.length<=8):(jS f).length<=8:=by
 unfold jS;split;·exact fw (tD _ _) (by show 4<=8;omega)
 ·split
  ·split;·show 2<=8;omega
   ·exact eo _
  ·exact fw (tD _ _) (by rw[q8 (bd _)];exact h)
end
def gJ (s:List Fm):Nat->List Cv
 |0=>[]
 |n+1=>gJ s n++jS (s.getD n mw)
def Pp (s:List Fm):Bool:=(List.range s.length).any fun i=>decide (8<s.length)||decide (8<(s.getD i mw).cs.length)
def mJ (s:List Fm):List Cv×Bool:=if Pp s then([],false) else(gJ s s.length,decide ((gJ s s.length).length<=8))
def bP (s:List Fm):List Cv×Bool:=if (mJ s).2 then((pk (mJ s).1).1,(pk (mJ s).1).2==0&&decide ((pk (mJ s).1).1.length<=8)) else([],false)
theorem FK {s:List Fm}(hi:i<s.length) (h:8<s.length\/8<(s.getD i mw).cs.length):Pp s=true:=by unfold Pp;rw[vC];exact⟨i,iC.2 hi,by simpa using h⟩
theorem SW {s:List Fm}(h: ∀i,i<s.length-> ¬8<s.length/\ ¬8<(s.getD i mw).cs.length):Pp s=false:=by unfold Pp;rw[List.any_eq_false];intro i hi;obtain⟨g,u⟩:=h i (iC.1 hi);rw[decide_eq_false g,decide_eq_false u];decide
theorem QA {s:List Fm}(hs: ∀f∈s,FmB f): ∀n,n<=s.length-> ∀c∈gJ s n,CvV c
 |0,_,c,h=>by cases h
 |n+1,hn,c,h=>by
  rcases iN.1 (show c∈gJ s n++jS _ from h) with h|h;·exact QA hs n (by omega) c h
  ·exact abd (hs _ (aY (d:=mw) hn)) c h
theorem Mj {s:List Fm}(hs: ∀f∈s,FmB f): ∀c∈(mJ s).1,CvV c:=fun c g=>by
 unfold mJ at g;split at g;·cases g
 ·exact QA hs _ (bd _) c g
theorem Bh {s:List Fm}: ∀n,(∀i,i<n->(s.getD i mw).cs.length<=8)->(gJ s n).length<=8*n
 |0,_=>bd _
 |n+1,h=>by have g:=Bh n (fun i hi=>h i (by omega));have u:=B9 (h n (by omega));show(gJ s n++jS _).length<=_;rw[dc];omega
theorem Q6 {s:List Fm}(h:(mJ s).2=true):(mJ s).1.length<=8:=by
 unfold mJ at h⊢;split at h;·cases h
 ·rename_i g;rw[if_neg g];exact of_decide_eq_true h
theorem U7 {s:List Fm}(hs: ∀f∈s,FmB f): ∀c∈(bP s).1,CvV c:=fun c g=>by
 unfold bP at g;split at g;·exact(MG (Mj hs)).1 c g
 ·cases g
theorem UQ (f:Fm):my (oC f.a f.b f.u)++my ((oC f.c f.d f.u).1,(oC f.a f.b f.u).2)++my (oC f.c f.d f.u)++my ((oC f.a f.b f.u).1,(oC f.c f.d f.u).2)=am my (Ip f):=by unfold Ip;simp only[am,ro,pI]
end Go.Proofs.YtegeknjkgadehaaGreat
namespace Go.Proofs.YtegeknjkgadehaaGreat
open Go.ChangeShapes Go.WideShapes Go.ChangeAt Go.RowKit Go.Deep
variable {cs:List Value}{fuel m:Nat}
theorem usG {g:Type}{en:g->List CellD}{m:Nat}(D: ∀x,(en x).length=m) {φ:Nat->g}: ∀(n:Nat) (us:List CellD),us.length=n*m->(∀j,j<n->(us.drop (j*m)).take m=en (φ j))->us=am en ((List.range n).map φ)
 |0,us,hl,_=>iv.1 (by omega)
 |n+1,us,hl,h=>by
  rw[iP] at hl;have u:=usG D n (us.take (n*m)) (by rw[eu];omega) fun j E=>by rw[<-h j (by omega),tz,uj];congr 1;have:=mE m (show j+1<=n by omega);rw[iP] at this;omega
  rw[List.range_succ,zw,dg,<-u];show us=us.take (n*m)++am en [φ n];rw[ez,<-h n (by omega),show(us.drop (n*m)).take m=us.drop (n*m) from f9 (by rw[eP];omega)];exact(v8 _ _).symm
section
variable {H:Type}{enc:TypeId×Value->H}{P:Program}{w:World}{base:Nat}{spare:Nat->Bool}{held:Bool}
theorem L8 {t e:TypeId}{g:Type}{en:g->List CellD}{B:g->Prop}(d:g) (U:P.underlying t=some (.slice e)) (R:P.cellsOf e=m) (hm:0<m) (K: ∀x,(en x).length=m)
 (J: ∀fuel cs x,DataW.trod enc P w base spare held fuel e cs=some x-> ∃r,B r/\RdCs Jv w cs (en r)) {fuel:Nat}{v:Value}{x:DataW H×List MemPlace}(h:DataW.trod enc P w base spare held fuel t [v]=some x):
 ∃L:List g,(∀r∈L,B r)/\L.length<=9223372036854775807/\RdC Jv w v (.s L.length (am en L)):=by
 obtain⟨n,us,h1,h2,N,W⟩:=Kc (m:=m) (Q:=fun us=> ∃r:g,B r/\us=en r) U R hm (fun fuel cs x h=>by obtain⟨r,w1,E⟩:=J fuel cs x h;exact⟨_,K r,⟨r,w1,rfl⟩,E⟩) h
 have I: ∀j,∃r:g,j<n->B r/\(us.drop (j*m)).take m=en r:=fun j=>by
  by_cases u:j<n
  ·obtain⟨r,w1,e⟩:=N j u;exact⟨r,fun _=>⟨w1,e⟩⟩
  ·exact⟨d,fun q=>absurd q u⟩
 obtain⟨φ,D⟩:=Classical.axiomOfChoice I
 have e:=usG K (φ:=φ) n us h1 fun j u=>(D j u).2
 refine⟨(List.range n).map φ,fun r E=>?_,by rw[sV,List.length_range];exact h2,?_⟩
 ·obtain⟨j,u,rfl⟩:=nC.1 E
  exact(D j (iC.1 u)).1
 ·rw[<-e,sV,List.length_range];exact W
end
section
variable {H:Type}{enc:TypeId×Value->H}{w:World}{base:Nat}{spare:Nat->Bool}{held:Bool}
theorem D4 {x:DataW H×List MemPlace}(h:DataW.trod enc Tryz.prog w base spare held fuel 64 cs=some x): ∃v:Int,KW v/\RdCs Jv w cs [.i .i8 v]:=by obtain⟨A,rfl,_,g⟩:=tM Tryz.underlying64 h;simp[Lit.wf,IntKind.min,IntKind.max,IntKind.signed,IntKind.bits] at g;exact⟨A,⟨by omega,by omega⟩,iM (.i _ _) nl⟩
theorem Yv {x:DataW H×List MemPlace}(h:DataW.trod enc Tryz.prog w base spare held fuel 5 cs=some x): ∃v:Int,(0<=v/\v<=255)/\RdCs Jv w cs [.i .u8 v]:=by obtain⟨A,rfl,_,g⟩:=tM Tryz.underlying5 h;simp[Lit.wf,IntKind.min,IntKind.max,IntKind.signed,IntKind.bits] at g;exact⟨A,⟨by omega,by omega⟩,iM (.i _ _) nl⟩
theorem Wd {x:DataW H×List MemPlace}(h:DataW.trod enc Tryz.prog w base spare held fuel 193 cs=some x): ∃q:Int×Int,(KW q.1/\KW q.2)/\RdCs Jv w cs (tO q):=by
 obtain⟨xs,n,_,_,g,I,hf⟩:=DataW.trod_array (P:=Tryz.prog) Tryz.underlying193 h;have g:cs.length=2:=g.trans (by kernel_rfl);have u:Tryz.prog.cellsOf 64=1:=by kernel_rfl
 rw[u] at hf;match cs,g with
 |[c0,c1],_=>
  have D:DataW.trod enc Tryz.prog w base spare held n 64 [c0]=xs[0]? :=hf 0 (by omega);have E:DataW.trod enc Tryz.prog w base spare held n 64 [c1]=xs[1]? :=hf 1 (by omega);rw[dY (by omega)] at D E;obtain⟨a,K,r0⟩:=D4 D;obtain⟨b,b1,J⟩:=D4 E;exact⟨(a,b),⟨K,b1⟩,kG r0 J⟩
set_option maxRecDepth 100000 in
theorem UA {x:DataW H×List MemPlace}(h:DataW.trod enc Tryz.prog w base spare held fuel 139 cs=some x): ∃f:Fm,FmB f/\RdCs Jv w cs (pm f):=by
 obtain⟨xs,n,_,_,g,D,hf⟩:=DataW.trod_struct (P:=Tryz.prog) Tryz.underlying139 h;have g:cs.length=7:=g.trans (by kernel_rfl);have D:xs.length=7:=D.trans (by kernel_rfl);match cs,g with
 |[c0,c1,c2,c3,c4,c5,c6],_=>
  have J:DataW.trod enc Tryz.prog w base spare held n 5 [c0]=xs[0]? :=hf 0 _ rfl;have N:DataW.trod enc Tryz.prog w base spare held n 5 [c1]=xs[1]? :=hf 1 _ rfl;have R:DataW.trod enc Tryz.prog w base spare held n 64 [c2]=xs[2]? :=hf 2 _ rfl;have U:DataW.trod enc Tryz.prog w base spare held n 64 [c3]=xs[3]? :=hf 3 _ rfl;have I:DataW.trod enc Tryz.prog w base spare held n 64 [c4]=xs[4]? :=hf 4 _ rfl;have K:DataW.trod enc Tryz.prog w base spare held n 64 [c5]=xs[5]? :=hf 5 _ rfl;have E:DataW.trod enc Tryz.prog w base spare held n 137 [c6]=xs[6]? :=hf 6 _ rfl;rw[dY (by omega)] at J N R U I K E;obtain⟨k,b0,r0⟩:=Yv J;obtain⟨u,b1,r1⟩:=Yv N;obtain⟨a,b2,r2⟩:=D4 R;obtain⟨b,b3,r3⟩:=D4 U;obtain⟨c,b4,r4⟩:=D4 I;obtain⟨d,b5,r5⟩:=D4 K;obtain⟨L,b6,_,W⟩:=L8 (B:=fun q:Int×Int=>KW q.1/\KW q.2) (en:=tO) yl Tryz.underlying137 (by kernel_rfl) (by decide) mi (fun fuel cs x h=>Wd h) E;exact⟨⟨k,u,a,b,c,d,L⟩,⟨b0,b1,b2,b3,b4,b5,b6⟩,kG (kG (kG (kG (kG (kG r0 r1) r2) r3) r4) r5) (iM W nl)⟩
theorem QL {v:Value}{x:DataW H×List MemPlace}(h:DataW.trod enc Tryz.prog w base spare held fuel 23 [v]=some x):
 ∃L:List Fm,(∀f∈L,FmB f)/\L.length<=9223372036854775807/\RdC Jv w v (.s L.length (am pm L)):=
 L8 (B:=FmB) (en:=pm) mw Tryz.underlying23 (by kernel_rfl) (by decide) gn (fun fuel cs x h=>UA h) h
end
end Go.Proofs.YtegeknjkgadehaaGreat
namespace Go.Proofs.YtegeknjkgadehaaGreat
open Go.ChangeShapes Go.WideShapes Go.ChangeAt Go.RowKit
theorem Am:Tryz.pinned.checked.prog.funcNamed Rows.topPointwiseRow.func=some 3:=by kernel_rfl
theorem Ae:joinedFacts Tryz.pinned.checked.prog 3 Tryz.f3 Rows.topPointwiseSpec Rows.topPointwiseRow=true:=by kernel_rfl
end Go.Proofs.YtegeknjkgadehaaGreat
namespace Go.Proofs.YtegeknjkgadehaaGreat
open Go Go.RowKit
variable {w:Bool}{k:Ci}{l:Ln}{f p q t:Pt}{a a1 a2 b b1 b2 c d e v x y:Rat}
theorem afb (u:Rz 600 a) (D:Rz 600 b) (E:Rz 600 c) (g:Rz 600 d):Ok Tryz.prog 356 [.a ((cR a++cR b++cR c)),dR d] [.c (.i .i64 (bU (a-d) b c))]:=by refine cj Tryz.func356 rfl<|cE 10 [] ?_;refine aG rfl (nh (aU u) (aU g)) ?_;refine aG rfl (xn (aU (dz u g)) (aU D) (aU E)) ?_;exact ah (aj aa)
theorem afP (g:GP p) (u:Rz 600 v):Ok Tryz.prog 356 [.a ((cR p.a1++cR p.b1++cR (zc p.b1 p.c))),dR v] [.c (.i .i64 (Ar p v))]:=afb (g.a1.mono (by decide)) (g.b1.mono (by decide)) (jh (g.c.mono (by decide)) (by decide)) u
theorem agC (g:GP p) (u:Rz 600 v):Ok Tryz.prog 356 [.a ((cR p.a2++cR p.b2++cR (zc p.b2 p.c))),dR v] [.c (.i .i64 (mA p v))]:=afb (g.a2.mono (by decide)) (g.b2.mono (by decide)) (jh (g.c.mono (by decide)) (by decide)) u
theorem yCX (u:GP p) (g:GP q):Ok Tryz.prog 208 [.a ((cR p.a1++cR p.b1++cR (zc p.b1 p.c))),.a ((cR q.a1++cR q.b1++cR (zc q.b1 q.c)))] [.c (.i .i64 (cx p q))]:=H5 (u.a1.mono (by decide)) (u.b1.mono (by decide)) (jh (u.c.mono (by decide)) (by decide)) (g.a1.mono (by decide)) (g.b1.mono (by decide)) (jh (g.c.mono (by decide)) (by decide))
theorem yCY (u:GP p) (g:GP q):Ok Tryz.prog 208 [.a ((cR p.a2++cR p.b2++cR (zc p.b2 p.c))),.a ((cR q.a2++cR q.b2++cR (zc q.b2 q.c)))] [.c (.i .i64 (cy p q))]:=H5 (u.a2.mono (by decide)) (u.b2.mono (by decide)) (jh (u.c.mono (by decide)) (by decide)) (g.a2.mono (by decide)) (g.b2.mono (by decide)) (jh (g.c.mono (by decide)) (by decide))
theorem nH (D:GP p) (u:GP q):Ok Tryz.prog 127 [.a (ai p),.a (ai q)] [.c (.i .i64 (cP p q))]:=by
 refine cj Tryz.func127 rfl<|cE 6 [] ?_;refine aG rfl (qj) ?_;refine aG rfl (qj) ?_;refine aG rfl (yCX D u) ?_;refine cU rfl (fun g=>?_) (fun g=>?_)
 ·refine ah ?_;rw[agD (p:=p) (q:=q) g];exact aj aa
 ·refine cE 6 [] ?_;refine aG rfl (zF) ?_;refine aG rfl (zF) ?_;refine aG rfl (yCY D u)<|ah ?_;rw[agR (p:=p) (q:=q) g];exact aj aa
theorem pO (u:GP p) (g:GP q):Ok Tryz.prog 157 [.a (ai p),.a (ai q)] [.c (.b (cP p q==0))]:=by refine cj Tryz.func157 rfl ?_;refine ac rfl (nH u g) ?_;exact ah (aj aa)
theorem qJ (g:Rz 6000000 x) (u:Rz 6000000 y):Ok Tryz.prog 267 [dR x,dR y] [dR (x+y)]:=by refine cj Tryz.func267 rfl<|ac rfl (gC (aU g) (aU u)) ?_;exact ah (a7 bV rfl aa)
theorem rd (g:Rz 6000000 x) (u:Rz 6000000 y):Ok Tryz.prog 266 [dR x,dR y] [dR (x-y)]:=by refine cj Tryz.func266 rfl<|ac rfl (nh (aU g) (aU u)) ?_;exact ah (a7 bV rfl aa)
theorem eX (g:Rz 6000000 x) (u:Rz 6000000 y):Ok Tryz.prog 268 [dR x,dR y] [dR (x*y)]:=by refine cj Tryz.func268 rfl<|ac rfl (cY (aU g) (aU u)) ?_;exact ah (a7 bV rfl aa)
theorem qI (g:Rz 6000000 x) (u:Rz 6000000 y):Ok Tryz.prog 322 [dR x,dR y] [dR (x+y)]:=by refine cj Tryz.func322 rfl<|ac rfl (gC (aU g) (aU u)) ?_;exact ah (a7 bV rfl aa)
theorem ji (g:Rz 6000000 x) (u:Rz 6000000 y):Ok Tryz.prog 277 [dR x,dR y] [dR (x-y)]:=by refine cj Tryz.func277 rfl<|ac rfl (nh (aU g) (aU u)) ?_;exact ah (a7 bV rfl aa)
theorem dJ (g:Rz 6000000 x) (u:Rz 6000000 y):Ok Tryz.prog 278 [dR x,dR y] [dR (x*y)]:=by refine cj Tryz.func278 rfl<|ac rfl (cY (aU g) (aU u)) ?_;exact ah (a7 bV rfl aa)
theorem tS (u:Rz 6000000 x) (D:Rz 6000000 y) (g:y≠0):Ok Tryz.prog 275 [dR x,dR y] [dR (x/y)]:=by refine cj Tryz.func275 rfl<|ac rfl (xh u D g) ?_;exact ah (a7 bV rfl aa)
theorem wX (g:Rz 6000000 x):Ok Tryz.prog 265 [dR x] [dR (-x)]:=by refine cj Tryz.func265 rfl<|ac rfl (eY (aU g)) ?_;exact ah (a7 bV rfl aa)
theorem VX {w:Rat}(g:Rz 6000000 v) (u:Rz 6000000 w):Ok Tryz.prog 360 [.a ((cR v++cR w))] [.a ((cR (-v)++cR (-w)))]:=by refine cj Tryz.func360 rfl<|cE 7 [] ?_;refine aG rfl (eY (aU g)) ?_;refine aG rfl (eY (aU u)) ?_;refine aq (az (us:=(cR (-v)++cR (-w))) Ku IQ rfl rfl rfl) ?_;exact ah (a7 Af rfl aa)
theorem S9 {w:Rat}(D:Rz 6000000 v) (E:Rz 6000000 w) (u:Rz 6000000 a1) (g:Rz 6000000 a2):Ok Tryz.prog 359 [.a ((cR a1++cR b1++cR a2++cR b2++cR c)),.a ((cR v++cR w))] [.a ((cR (a1+v)++cR b1++cR (a2+w)++cR b2++cR c))]:=by refine fg Tryz.func359 22 [.cell 4 42] rfl<|ab<|ag<|ab<|nP 17 rfl rfl<|dU 1<|bG (qt (cR a1) bV rfl)<|dU 1<|bG (qt (cR v) bV rfl)<|bG (j9 rfl (gC (aU u) (aU D)))<|dU 1<|bG (qt (cR b1) bV rfl)<|dU 1<|bG (qt (cR a2) bV rfl) ?_;refine dU 1<|bG (qt (cR w) bV rfl)<|bG (j9 rfl (gC (aU g) (aU E)))<|dU 1<|bG (qt (cR b2) bV rfl)<|dU 1<|bG (qt (cR c) bV rfl)<|bG (az (us:=(cR (a1+v)++cR b1++cR (a2+w)++cR b2++cR c)) NX JK rfl rfl rfl) ?_;refine mP<|dE<|jA<|bc ?_;exact ah (a7 bo rfl aa)
theorem Gd (E:Rz 60000 a1) (u:Rz 60000 b1) (J:Rz 60000 a2) (g:Rz 60000 b2) (N:Rz 60000 c) (v1:s9 b1 b2 c=true) (W:Rz 60000 d) (U:Rz 60000 e):Ok Tryz.prog 335 [.a ((cR a1++cR b1++cR a2++cR b2++cR c)),.a ((cR d++cR e))] [.a ((cR (JS (a1-d) (a2-e) b1 b2 c)++cR (Ol (a1-d) (a2-e) b1 b2)++cR (zc (Ol (a1-d) (a2-e) b1 b2) c)))]:=by
 have a3:Rz 6000000 a1:=E.m_;have a5:Rz 6000000 b1:=u.m_;have a4:Rz 6000000 a2:=J.m_;have a0:Rz 6000000 b2:=g.m_;have kc:Rz 6000000 c:=N.m_;have kd:Rz 6000000 d:=W.m_;have ke:Rz 6000000 e:=U.m_;have D:Rz 140000 (a1-d):=(E.sub W).m_;have I:Rz 140000 (a2-e):=(J.sub U).m_;have k3:Rz 6000000 (-d):=kd.neg;have k4:Rz 6000000 (-e):=ke.neg;have R:=afm v1;have x1:Rz 1000000 (a1-d):=D.m_;have x2:Rz 1000000 (a2-e):=I.m_;have y1:Rz 1000000 b1:=u.m_;have y2:Rz 1000000 b2:=g.m_;have K:Rz 1000000 c:=N.m_;have z1:Rz 1000000 (zc b1 c):=jh K (by decide);have z2:Rz 1000000 (zc b2 c):=jh K (by decide);have A1:Rz 1000000 ((a1-d)*(a1-d)+b1*b1*c):=((D.mul D).add ((u.mul u).mul N)).m_;have A2:Rz 1000000 ((a2-e)*(a2-e)+b2*b2*c):=((I.mul I).add ((g.mul g).mul N)).m_;have B1:Rz 1000000 ((a1-d)*b1+(a1-d)*b1):=((D.mul u).add (D.mul u)).m_;have B2:Rz 1000000 ((a2-e)*b2+(a2-e)*b2):=((I.mul g).add (I.mul g)).m_;have C1:Rz 1000000 (zc ((a1-d)*b1+(a1-d)*b1) c):=jh K (by decide);have C2:Rz 1000000 (zc ((a2-e)*b2+(a2-e)*b2) c):=jh K (by decide);have nS:((a1-d)*b1+(a1-d)*b1)+((a2-e)*b2+(a2-e)*b2)≠0->c≠0:=fun h=>by rw[Sf] at h;have:=(Te v1 h).1;grind
 refine cj Tryz.func335 rfl<|cE 5 [] ?_;refine aG rfl (VX (by assumption) (by assumption)) ?_;refine aG rfl (S9 (by assumption) (by assumption) (by assumption) (by assumption))<|cE 13 [6,999999] ?_;refine aG rfl (rN qj (EM _ _) rfl rfl) ?_;refine aG rfl (rN (HJ x1 y1 z1) aeE (afu R.1) (aee R.1)) ?_;refine aG rfl (rN zF (EM _ _) rfl rfl) ?_;refine aG rfl (rN (HJ x2 y2 z2) aeE (afu R.2) (aee R.2)) ?_;refine aG rfl (xz (NU A1 B1 C1 A2 B2 C2 aaB) (ae2 _ _ _ _ _) ((afK nS).trans (Sf _ _ _ _)) ((agm nS).trans (by rw[Sf]))) ?_;refine DQ.mk<|kI (fJ jG rfl) rfl rfl rfl rfl<|ek ?_;exact ah (a7 jG rfl aa)
theorem aeL (u:GK k) (g:GB p):Ok Tryz.prog 335 [.a (ai p),.a ((cR k.x++cR k.y))] [.a ((cR (JS (p.a1-k.x) (p.a2-k.y) p.b1 p.b2 p.c)++cR (Dc k p)++cR (zc (Dc k p) p.c)))]:=Gd (g.a1.mono (by decide)) (g.b1.mono (by decide)) (g.a2.mono (by decide)) (g.b2.mono (by decide)) (g.c.mono (by decide)) g.v (u.x.mono (by decide)) (u.y.mono (by decide))
theorem ada (g:GK k) (u:GB p):Ok Tryz.prog 304 [.a (dy k),.a (ai p)] [.a ((cR (KU k p)++cR (Dc k p)++cR (zc (Dc k p) p.c)))]:=by have E:Rz 6000000 (JS (p.a1-k.x) (p.a2-k.y) p.b1 p.b2 p.c):=(Tw g u).m_;have D:Rz 6000000 k.q:=g.q.m_;have s3:Rz 6000000 (-k.q):=D.neg;refine cj Tryz.func304 rfl<|cE 11 [] ?_;refine aq (az (us:=(cR k.x++cR k.y)) Ku IQ rfl rfl rfl) ?_;refine aG rfl (aeL g u) ?_;refine aG rfl (eY (zaR)) ?_;refine aG rfl (lX (by assumption) (by assumption)) ?_;exact ah (a7 jG rfl aa)
theorem ab1 (u:GK k) (g:GB p):Ok Tryz.prog 233 [.a (dy k),.a (ai p)] [.c (.i .i64 (j7 k p))]:=by refine cj Tryz.func233 rfl ?_;refine ac rfl (ada u g) ?_;refine ac rfl (pe ((abT u g).m_) ((abb u g).m_) (jh (g.c.m_) (by decide))) ?_;refine ar (fQ (r:= -s3 (KU k p) (Dc k p) (zc (Dc k p) p.c)) rfl (EI (PQ _ _ _)) rfl) ?_;exact ah (aj aa)
theorem adY (g:GK k) (u:GP p):Ok Tryz.prog 233 [.a (dy k),.a (ai p)] [.c (.i .i64 (j7 k p))]:=ab1 g u.gb
theorem RW (hl:GL l) (g:GP p) (hs:jB p.c=true):Ok Tryz.prog 305 [.a (eJ l),.a (ai p)] [.a ((cR (vA l p+vB l p*rt p.c)++cR 0++cR 0))]:=by refine cj Tryz.func305 rfl<|cE 15 [] ?_;refine aG rfl (eX (aU (hl.a)) (aU (g.a1))) ?_;refine aG rfl (eX (aU (hl.b)) (aU (g.a2))) ?_;refine aG rfl (qJ (aU (aW (hl.a) (g.a1))) (aU (aW (hl.b) (g.a2)))) ?_;refine aG rfl (rd (aU (ia (aW (hl.a) (g.a1)) (aW (hl.b) (g.a2)))) (aU (hl.c)))<|cE 21 [6,999999] ?_;refine aG rfl (eX (aU (hl.a)) (aU (g.b1))) ?_;refine aG rfl (eX (aU (hl.b)) (aU (g.b2))) ?_;refine aG rfl (qJ (aU (aW (hl.a) (g.b1))) (aU (aW (hl.b) (g.b2)))) ?_;refine aG rfl (CL ((Rf hl g).m_) ((QK hl g).m_) (g.c.m_) (fun h=>absurd h (Rat.not_lt.2 (vF g.v))) hs) ?_;refine DQ.mk<|kI (fJ jG rfl) rfl rfl rfl rfl<|ek ?_;exact ah (a7 jG rfl aa)
theorem PS (hl:GL l) (g:GP p) (hs:jB p.c=false):Ok Tryz.prog 305 [.a (eJ l),.a (ai p)] [.a ((cR (vA l p)++cR (rB (vB l p) p.c)++cR (rC (vB l p) p.c)))]:=by refine cj Tryz.func305 rfl<|cE 15 [] ?_;refine aG rfl (eX (aU (hl.a)) (aU (g.a1))) ?_;refine aG rfl (eX (aU (hl.b)) (aU (g.a2))) ?_;refine aG rfl (qJ (aU (aW (hl.a) (g.a1))) (aU (aW (hl.b) (g.a2)))) ?_;refine aG rfl (rd (aU (ia (aW (hl.a) (g.a1)) (aW (hl.b) (g.a2)))) (aU (hl.c)))<|cE 21 [6,999999] ?_;refine aG rfl (eX (aU (hl.a)) (aU (g.b1))) ?_;refine aG rfl (eX (aU (hl.b)) (aU (g.b2))) ?_;refine aG rfl (qJ (aU (aW (hl.a) (g.b1))) (aU (aW (hl.b) (g.b2)))) ?_;refine aG rfl (Bw ((Rf hl g).m_) ((QK hl g).m_) (g.c.m_) (fun h=>absurd h (Rat.not_lt.2 (vF g.v))) hs) ?_;refine DQ.mk<|kI (fJ jG rfl) rfl rfl rfl rfl<|ek ?_;exact ah (a7 jG rfl aa)
theorem ac3 (hl:GL l) (g:GP p):Ok Tryz.prog 305 [.a (eJ l),.a (ai p)] [.a ((cR (vA l p)++cR (rB (vB l p) p.c)++cR (rC (vB l p) p.c)))]:=by
 cases hs:jB p.c with
 |true=>obtain⟨E,u,D⟩:=Z1 (l:=l) g.v hs;exact rN (RW hl g hs) E u D
 |false=>exact PS hl g hs
theorem abj (hl:GL l) (g:GP p):Ok Tryz.prog 234 [.a (eJ l),.a (ai p)] [.c (.i .i64 (jz l p))]:=by refine cj Tryz.func234 rfl ?_;refine ac rfl (ac3 hl g) ?_;refine ac rfl (pe ((Rf hl g).m_) (adf ((QK hl g).m_) (by decide)) (aeT (g.c.m_) (by decide))) ?_;exact ah (aj aa)
theorem ZC (E:GK k) (D:GP p):Ok Tryz.prog 325 [.a (dy k),.a (ai p)] [.c (.b (mu k p))]:=by
 refine cj Tryz.func325 rfl<|cE 6 [] ?_;refine aG rfl (zF) ?_;refine aG rfl (agC D (E.y.m_))<|cE 15 [] ?_;refine sL (aQ rfl) (fun I g=>?_);cases I
 ·refine sL (aQ rfl) (fun c2 u=>?_);cases c2
  ·refine ah ?_;rw[ZW (k:=k) (p:=p) g u];exact aj aa
  ·refine aG rfl (qj) ?_;refine aG rfl (afP D (E.x.m_))<|ah ?_;rw[abU (k:=k) (p:=p) g u];exact aj aa
 ·refine DQ.mk<|vi (ng rfl)<|ek ?_;refine ah ?_;rw[adR (k:=k) (p:=p) g];exact aj aa
theorem Qi (J:GK k) (I:GP p) (E:GP q):Ok Tryz.prog 283 [.a (dy k),.a (ai p),.a (ai q)] [.c (.i .i64 (f8 k p q))]:=by
 refine cj Tryz.func283 rfl<|cE 8 [] ?_;refine aG rfl (ZC J I) ?_;refine aG rfl (ZC J E) ?_;refine ar (go rfl rfl f5 rfl) ?_;refine cU rfl (fun g=>?_) (fun g=>?_)
 ·refine cU rfl (fun D=>?_) (fun D=>?_)
  ·refine ah ?_;rw[Vm (k:=k) (p:=p) (q:=q) g D];exact aj aa
  ·refine ah ?_;rw[TH (k:=k) (p:=p) (q:=q) g D];exact aj aa
 ·refine cE 6 [] ?_;refine aG rfl (qj) ?_;refine aG rfl (qj) ?_;refine aG rfl (yCX I E) ?_;refine cU rfl (fun u=>?_) (fun u=>?_)
  ·refine ar (fQ (r:= -cx p q) rfl (EI (fA p q)) rfl) ?_;refine ah ?_;rw[Qr (k:=k) (p:=p) (q:=q) g u];exact aj aa
  ·refine ah ?_;rw[R6 (k:=k) (p:=p) (q:=q) g u];exact aj aa
theorem Yb (D:GK k) (hf:GP f) (I:GP p) (E:GP q):Ok Tryz.prog 211 [.a (dy k),.a (ai f),.a (ai p),.a (ai q)] [.c (.i .i64 (tU k f p q))]:=by
 refine cj Tryz.func211 rfl<|cE 12 [] ?_;refine aG rfl (Qi D I hf) ?_;refine aG rfl (Qi D E hf) ?_;refine ar (go rfl rfl f5 rfl) ?_;refine cU rfl (fun g=>?_) (fun g=>?_)
 ·refine cU rfl (fun u=>?_) (fun u=>?_)
  ·refine ah ?_;rw[adX (k:=k) (f:=f) (p:=p) (q:=q) g u];exact aj aa
  ·refine ah ?_;rw[Z7 (k:=k) (f:=f) (p:=p) (q:=q) g u];exact aj aa
 ·refine ac rfl (Qi D I E)<|ah ?_;rw[adZ (k:=k) (f:=f) (p:=p) (q:=q) g];exact aj aa
theorem Fr (g:GP p):Ok Tryz.prog 213 [.a (ai p)] [.a (ai p.flip)]:=by refine cj Tryz.func213 rfl<|cE 7 [] ?_;refine aG rfl (eY (g.a1.m_)) ?_;refine aG rfl (eY (g.b1.m_)) ?_;refine n8 (bh (us:=(cR (-p.a1)++cR p.b1++cR p.a2++cR p.b2++cR p.c)) bV rfl rfl rfl rfl (eQ rfl) rfl rfl) ?_;refine n8 (bh (us:=(cR (-p.a1)++cR (-p.b1)++cR p.a2++cR p.b2++cR p.c)) bV rfl rfl rfl rfl (eQ rfl) rfl rfl) ?_;exact ah (a7 bo rfl aa)
theorem ad7 (g:GK k) (hf:GP f) (u:GP t):Ok Tryz.prog 212 [.a (([.b true]++qx++dy k++[.b w]++ai f++ai t))] [.a (([.b true]++qx++dy k.mir++[.b (!w)]++ai f.flip++ai t.flip))]:=by refine fg Tryz.func212 22 [.cell 2 53] rfl<|ab<|ag<|ab<|ag ?_;refine ar (dh (cR k.x) bV rfl (by kernel_rfl)) ?_;refine ac rfl (eY (g.x.m_)) ?_;refine n8 (bh (us:=([.b true]++qx++(cR k.mir.x++cR k.y++cR k.q)++[.b w]++ai f++ai t)) bV rfl rfl rfl rfl (eQ (by kernel_rfl)) (by kernel_rfl) rfl) ?_;refine ab<|rW 13 [1,999999] dV (by kernel_rfl) rfl rfl<|dU 1<|D5 (by kernel_rfl) (dh (ai f) bo rfl (by kernel_rfl))<|bG (j9 rfl (Fr hf))<|dU 1<|D5 (by kernel_rfl) (dh (ai t) bo rfl (by kernel_rfl))<|bG (j9 rfl (Fr u))<|dU 1<|D5 (by kernel_rfl) (dL jY rfl)<|dU 2<|kJ (bh (us:=([.b true]++qx++(cR k.mir.x++cR k.y++cR k.q)++[.b w]++ai f.flip++ai t)) bo rfl rfl rfl rfl (eQ (by kernel_rfl)) (by kernel_rfl) rfl) rfl rfl rfl rfl ?_;refine dU 1<|Ig (bh (us:=([.b true]++qx++(cR k.mir.x++cR k.y++cR k.q)++[.b w]++ai f.flip++ai t.flip)) bo rfl rfl rfl rfl (eQ (by kernel_rfl)) (by kernel_rfl) rfl) rfl rfl (by kernel_rfl) rfl ?_;refine mP<|OK<|i9 1<|iQ (bh (us:=([.b true]++qx++(cR k.mir.x++cR k.y++cR k.q)++[.b (!w)]++ai f.flip++ai t.flip)) jY rfl rfl rfl rfl (eQ (by kernel_rfl)) (by kernel_rfl) rfl) ?_;refine ce<|ab<|ag ?_;refine ar (jF bg rfl) ?_;refine n8 (fJ bg rfl)<|bc ?_;exact ah (li (us:=([.b true]++qx++(cR k.mir.x++cR k.y++cR k.q)++[.b (!w)]++ai f.flip++ai t.flip)) bg rfl rfl (by kernel_rfl) (by kernel_rfl) aa)
theorem KY (_hl:GL l) (hf:GP f) (E:GP t) (D:GP p) (u:GP q):Ok Tryz.prog 129 [.a (([.b false]++eJ l++mG++[.b false]++ai f++ai t)),.a (ai p),.a (ai q)] [.c (.i .i64 ((Cv.seg l f t).ord p q))]:=by
 refine cj Tryz.func129 rfl ?_;refine ar (dL jY rfl) ?_;refine vr rfl ?_;refine ac rfl (nH D u) ?_;refine ar (dh (ai f) bo rfl (by kernel_rfl)) ?_;refine ar (dh (ai t) bo rfl (by kernel_rfl)) ?_;refine ac rfl (nH hf E) ?_;refine cU rfl (fun g=>?_) (fun g=>?_)
 ·refine ar (fQ (r:= -cP p q) rfl (EI (afs p q)) rfl) ?_;refine ah ?_;rw[aaf (l:=l) (f:=f) (t:=t) (p:=p) (q:=q) g];exact aj aa
 ·refine ah ?_;rw[ace (l:=l) (f:=f) (t:=t) (p:=p) (q:=q) g];exact aj aa
theorem J4 (E:GK k) (hf:GP f) (I:GP t) (D:GP p) (u:GP q):Ok Tryz.prog 129 [.a (([.b true]++qx++dy k++[.b w]++ai f++ai t)),.a (ai p),.a (ai q)] [.c (.i .i64 ((Cv.arc k w f t).ord p q))]:=by
 refine cj Tryz.func129 rfl ?_;refine ar (dL jY rfl) ?_;refine nM rfl ?_;refine ar (dL jY rfl) ?_;refine cU rfl (fun g=>?_) (fun g=>?_)
 ·refine ar (dh (dy k) zg rfl (by kernel_rfl)) ?_;refine ar (dh (ai f) bo rfl (by kernel_rfl)) ?_;refine ac rfl (Yb E hf D u)<|ah ?_;rw[ZZ (k:=k) (w:=w) (f:=f) (t:=t) (p:=p) (q:=q) g];exact aj aa
 ·refine ar (jF bg rfl)<|ac rfl (ad7 E hf I)<|n8 (fJ bg rfl)<|cE 10 [] ?_;refine aq (dh (dy k.mir) zg rfl (by kernel_rfl)) ?_;refine aq (dh (ai f.flip) bo rfl (by kernel_rfl)) ?_;refine aG rfl (Fr D) ?_;refine aG rfl (Fr u) ?_;refine aG rfl (Yb (GK.mir E) (GP.flip hf) (GP.flip D) (GP.flip u))<|ah ?_;rw[aaE (k:=k) (w:=w) (f:=f) (t:=t) (p:=p) (q:=q) g];exact aj aa
theorem Kq (hl:GL l) (_hf:GP f) (_u:GP t) (g:GP p):Ok Tryz.prog 156 [.a (([.b false]++eJ l++mG++[.b false]++ai f++ai t)),.a (ai p)] [.c (.b ((Cv.seg l f t).supp p))]:=by refine cj Tryz.func156 rfl ?_;refine ar (dL jY rfl) ?_;refine nM rfl ?_;refine ar (dh (eJ l) zq rfl (by kernel_rfl)) ?_;refine ac rfl (abj hl g) ?_;exact ah (aj aa)
theorem Kt (g:GK k) (_hf:GP f) (_D:GP t) (u:GP p):Ok Tryz.prog 156 [.a (([.b true]++qx++dy k++[.b w]++ai f++ai t)),.a (ai p)] [.c (.b ((Cv.arc k w f t).supp p))]:=by refine cj Tryz.func156 rfl ?_;refine ar (dL jY rfl) ?_;refine vr rfl ?_;refine ar (dh (dy k) zg rfl (by kernel_rfl)) ?_;refine ac rfl (adY g u) ?_;exact ah (aj aa)
theorem afc (hl:GL l) (hf:GP f) (D:GP t) (E:GP p):Ok Tryz.prog 125 [.a (([.b false]++eJ l++mG++[.b false]++ai f++ai t)),.a (ai p)] [.c (.b ((Cv.seg l f t).on p))]:=by
 refine cj Tryz.func125 rfl ?_;refine ar (jF bg rfl) ?_;refine ac rfl (Kq hl hf D E) ?_;refine jC (aQ rfl) (fun I g=>?_);cases I
 ·refine ar (aQ rfl)<|ah ?_;rw[ad9 (c:=(Cv.seg l f t)) (p:=p) g];exact aj aa
 ·refine ar (jF bg rfl) ?_;refine ar (dh (ai f) bo rfl (by kernel_rfl)) ?_;refine ac rfl (KY hl hf D hf E) ?_;refine jC (aQ rfl) (fun c2 u=>?_);cases c2
  ·refine ah ?_;rw[Yk (c:=(Cv.seg l f t)) (p:=p) g u];exact aj aa
  ·refine ar (jF bg rfl) ?_;refine ar (dh (ai t) bo rfl (by kernel_rfl)) ?_;refine ac rfl (KY hl hf D E D)<|ah ?_;rw[XT (c:=(Cv.seg l f t)) (p:=p) g u];exact aj aa
theorem YP (I:GK k) (hf:GP f) (D:GP t) (E:GP p):Ok Tryz.prog 125 [.a (([.b true]++qx++dy k++[.b w]++ai f++ai t)),.a (ai p)] [.c (.b ((Cv.arc k w f t).on p))]:=by
 refine cj Tryz.func125 rfl ?_;refine ar (jF bg rfl) ?_;refine ac rfl (Kt I hf D E) ?_;refine jC (aQ rfl) (fun J g=>?_);cases J
 ·refine ar (aQ rfl)<|ah ?_;rw[ad9 (c:=(Cv.arc k w f t)) (p:=p) g];exact aj aa
 ·refine ar (jF bg rfl) ?_;refine ar (dh (ai f) bo rfl (by kernel_rfl)) ?_;refine ac rfl (J4 I hf D hf E) ?_;refine jC (aQ rfl) (fun c2 u=>?_);cases c2
  ·refine ah ?_;rw[Yk (c:=(Cv.arc k w f t)) (p:=p) g u];exact aj aa
  ·refine ar (jF bg rfl) ?_;refine ar (dh (ai t) bo rfl (by kernel_rfl)) ?_;refine ac rfl (J4 I hf D E D)<|ah ?_;rw[XT (c:=(Cv.arc k w f t)) (p:=p) g u];exact aj aa
theorem S2 (_hl:GL l) (_hf:GP f) (_g:GP t):Ok Tryz.prog 128 [.a (([.b false]++eJ l++mG++[.b false]++ai f++ai t))] [.a (([.b false]++eJ l++mG++[.b false]++ai t++ai f))]:=by refine cj Tryz.func128 rfl<|ar (dh (ai t) bo rfl (by kernel_rfl)) ?_;refine ar (dh (ai f) bo rfl (by kernel_rfl)) ?_;refine n8 (bh (us:=([.b false]++eJ l++mG++[.b false]++ai t++ai t)) bo rfl rfl rfl rfl (eQ (by kernel_rfl)) (by kernel_rfl) rfl) ?_;refine n8 (bh (us:=([.b false]++eJ l++mG++[.b false]++ai t++ai f)) bo rfl rfl rfl rfl (eQ (by kernel_rfl)) (by kernel_rfl) rfl) ?_;refine ar (dL jY rfl)<|ar (aQ rfl) ?_;refine n8 (bh (us:=([.b false]++eJ l++mG++[.b false]++ai t++ai f)) jY rfl rfl rfl rfl (eQ (by kernel_rfl)) (by kernel_rfl) rfl) ?_;refine ar (jF bg rfl) ?_;refine n8 (fJ bg rfl) ?_;exact ah (li (us:=([.b false]++eJ l++mG++[.b false]++ai t++ai f)) bg rfl rfl (by kernel_rfl) (by kernel_rfl) aa)
theorem SH (_g:GK k) (_hf:GP f) (_u:GP t):Ok Tryz.prog 128 [.a (([.b true]++qx++dy k++[.b w]++ai f++ai t))] [.a (([.b true]++qx++dy k++[.b (!w)]++ai t++ai f))]:=by refine cj Tryz.func128 rfl<|ar (dh (ai t) bo rfl (by kernel_rfl)) ?_;refine ar (dh (ai f) bo rfl (by kernel_rfl)) ?_;refine n8 (bh (us:=([.b true]++qx++dy k++[.b w]++ai t++ai t)) bo rfl rfl rfl rfl (eQ (by kernel_rfl)) (by kernel_rfl) rfl) ?_;refine n8 (bh (us:=([.b true]++qx++dy k++[.b w]++ai t++ai f)) bo rfl rfl rfl rfl (eQ (by kernel_rfl)) (by kernel_rfl) rfl) ?_;refine ar (dL jY rfl)<|ar (aQ rfl) ?_;refine ar (dL jY rfl) ?_;refine n8 (bh (us:=([.b true]++qx++dy k++[.b (!w)]++ai t++ai f)) jY rfl rfl rfl rfl (eQ (by kernel_rfl)) (by kernel_rfl) rfl) ?_;refine ar (jF bg rfl) ?_;refine n8 (fJ bg rfl) ?_;exact ah (li (us:=([.b true]++qx++dy k++[.b (!w)]++ai t++ai f)) bg rfl rfl (by kernel_rfl) (by kernel_rfl) aa)
theorem Dy:Ok Tryz.prog 186 [] [dR 0]:=by refine cj Tryz.func186 rfl<|ac rfl (xb (by omega) (by omega)) ?_;refine ah ?_;rw[La];exact a7 bV rfl aa
theorem Fs:Ok Tryz.prog 106 [dR a] [.a ((cR a++cR 0++cR 0))]:=by refine cj Tryz.func106 rfl<|cE 4 [] ?_;refine aG rfl (Dy) ?_;refine aG rfl (Dy) ?_;refine aq (az (us:=(cR a++cR 0++cR 0)) Cu Aj rfl rfl rfl) ?_;exact ah (a7 jG rfl aa)
theorem K3 {f:Rat}(N:Rz 2000000 a) (u:Rz 160000 b) (I:Rz 160000 c) (g:Rz 2000000 d) (K:Rz 160000 e) (hf:Rz 160000 f) (J:Rz 160000 (a-d)) (E:0<=c) (D:0<=f):Ok Tryz.prog 41 [.a ((cR a++cR b++cR c)),.a ((cR d++cR e++cR f))] [.c (.b (km (a-d) b (-e) 0 c f==0))]:=by refine cj Tryz.func41 rfl ?_;refine ac rfl (u7 (by assumption) (by assumption) (by assumption) (by assumption) (by assumption) (by assumption) (by assumption) (by assumption) (by assumption)) ?_;exact ah (aj aa)
theorem I7 (K:Rz 2000000 a) (I:Rz 160000 b) (J:Rz 160000 c) (E:Rz 2000000 d) (u:Rz 160000 (a-d)) (D:0<=c):Ok Tryz.prog 39 [.a ((cR a++cR b++cR c)),dR d] [.c (.i .i64 (km (a-d) b (-0) 0 c 0))]:=by have g:Rz 160000 (0:Rat):=iO (by decide);refine cj Tryz.func39 rfl<|cE 5 [] ?_;refine aG rfl (Fs) ?_;refine aG rfl (u7 (by assumption) (by assumption) (by assumption) (by assumption) g g u D Rat.le_refl) ?_;exact ah (aj aa)
theorem UX (g:0<=c):km (a-d) b (-0) 0 c 0=bU (a-d) b c:=by rw[ym g Rat.le_refl,iG g];exact congrArg bz (ee fun n=>by unfold fi;simp only[bN,bt,bW,db];grind)
theorem pd (g:Rz 6000000 x) (u:Rz 6000000 y):Ok Tryz.prog 103 [dR x,dR y] [dR (x+y)]:=by refine cj Tryz.func103 rfl<|ac rfl (nf (aU g) (aU u)) ?_;exact ah (a7 bV rfl aa)
theorem wV (g:Rz 6000000 x) (u:Rz 6000000 y):Ok Tryz.prog 102 [dR x,dR y] [dR (x-y)]:=by refine cj Tryz.func102 rfl<|ac rfl (ml (aU g) (aU u)) ?_;exact ah (a7 bV rfl aa)
theorem gS (g:Rz 6000000 x) (u:Rz 6000000 y):Ok Tryz.prog 104 [dR x,dR y] [dR (x*y)]:=by refine cj Tryz.func104 rfl<|ac rfl (eN (aU g) (aU u)) ?_;exact ah (a7 bV rfl aa)
theorem Sd {m:Rat}(I:Rz 2000000 a) (g:Rz 2000000 b) (J:Rz 2000000 m):Ok Tryz.prog 101 [dR a,dR b,dR m] [.c (.i .i64 (bU a b m))]:=by
 have U:Rz 6000000 a:=I.m_;have kb:Rz 6000000 b:=g.m_;have R:=gY (dF b 0) (dF m 0);have N:=gY (dF a 0) (dF (a*a) (b*b*m));refine cj Tryz.func101 rfl<|cE 9 [] ?_;refine aG rfl (d7) ?_;refine aG rfl (d7) ?_;refine aG rfl (d7) ?_;refine aq (b9 ((aJ b 0)*(aJ m 0)) (d9 (by omega) (by omega)) rfl) ?_;refine jC (aQ rfl) (fun K E=>?_);cases K
 ·refine cU rfl (fun D=>?_) (fun D=>?_)
  ·refine ah ?_;unfold bU;rw[wW D];exact aj aa
  ·refine cU rfl (fun u=>?_) (fun u=>?_)
   ·refine ah ?_;unfold bU;rw[xR u];exact aj aa
   ·refine cE 12 [] ?_;refine aG rfl (gS (aU I) (aU I)) ?_;refine aG rfl (gS (aU g) (aU g)) ?_;refine aG rfl (gS (aU (aW g g)) (aU J)) ?_;refine aG rfl (rf (aU (aW I I)) (aU (aW (aW g g) J))) ?_;refine aq (b9 ((aJ a 0)*(aJ (a*a) ((b*b)*m))) (d9 (by omega) (by omega)) rfl)<|ah ?_;unfold bU;rw[xx u E D];exact aj aa
 ·refine vr rfl<|ah ?_;unfold bU;rw[xF E];exact aj aa
theorem Fz {x y:Int}(g:Bd x) (u:Bd y):Ok Tryz.prog 184 [.a (([.i .i64 x]++[.i .i64 y]))] [.a (([.i .i64 (-y)]++[.i .i64 (-x)]))]:=by unfold Bd at g u;refine cj Tryz.func184 rfl<|ar (fQ (r:= -y) rfl (by rw[Int.zero_sub];exact jQ (by omega) (by omega)) rfl) ?_;refine ar (fQ (r:= -x) rfl (by rw[Int.zero_sub];exact jQ (by omega) (by omega)) rfl) ?_;refine ar (az (us:=([.i .i64 (-y)]++[.i .i64 (-x)])) vq tP rfl rfl rfl) ?_;exact ah (a7 mz rfl aa)
theorem RJ (N:Rz 4000000 a) (J:Rz 4000000 b) (K:Rz 4000000 c) (E:Rz 4000000 v):Ok Tryz.prog 187 [dR a,dR b,dR c,dR v] [.a (([.i .i64 (Er a b c v)]++[.i .i64 (DJ a b c v)])),.c (.b (Jy a b c v))]:=by
 refine cj Tryz.func187 rfl<|ar (az (us:=(cR a++cR b++cR c)) Cu Aj rfl rfl rfl) ?_;refine ac rfl (oU (by assumption) (by assumption) (by assumption))<|ac rfl (ga (aU E)) ?_;refine jC (aQ rfl) (fun I u=>?_);cases I
 ·refine cU rfl (fun D=>?_) (fun D=>?_)
  ·have g:Ag a b c v=false:=by unfold Ag;rw[df u,gy D];rfl
   refine ar (az (us:=([.i .i64 0]++[.i .i64 0])) vq tP rfl rfl rfl) ?_;refine ah ?_;rw[(Dx g).1,(Dx g).2.1,(Dx g).2.2];exact a7 mz rfl (aj aa)
  ·have g:Ag a b c v=true:=by unfold Ag;rw[df u,df D];rfl
   refine cE 6 [] ?_;refine aG rfl (Fz (pN _) (pD _)) ?_;refine aG rfl (pZ (XQ _ _ _) (YV _ _ _) (Bd.neg (pD _)) (Bd.neg (pN _)))<|ah ?_;rw[(Fq g).1,(Fq g).2.1,(Fq g).2.2];exact a7 mz rfl (aj aa)
 ·have g:Ag a b c v=false:=by unfold Ag;rw[gy u];rfl
  refine vr rfl<|ar (az (us:=([.i .i64 0]++[.i .i64 0])) vq tP rfl rfl rfl) ?_;refine ah ?_;rw[(Dx g).1,(Dx g).2.1,(Dx g).2.2];exact a7 mz rfl (aj aa)
theorem Rv (k:Ci) (p:Pt):(p.a1-k.x)*(p.a1-k.x)+(p.a2-k.y)*(p.a2-k.y)+p.c*(p.b1*p.b1+p.b2*p.b2)-k.q=KU k p:=by unfold KU JS;grind
theorem Ri {n:Rat}(I:Rz 4000000 n):Ok Tryz.prog 183 [dR n,.a (([.i .i64 (dw a b c)]++[.i .i64 (du a b c)])),.c (.b (dD a b c))] [.a (([.i .i64 (Jz n a b c)]++[.i .i64 (Js n a b c)])),.c (.b (JA n a b c))]:=by
 refine cj Tryz.func183 rfl<|ac rfl (ga (aU I)) ?_;refine jC (aQ rfl) (fun E u=>?_);cases E
 ·refine cU rfl (fun D=>?_) (fun D=>?_)
  ·have g:Ac n a b c=false:=by unfold Ac;rw[df u,gy D];rfl
   refine ar (az (us:=([.i .i64 0]++[.i .i64 0])) vq tP rfl rfl rfl) ?_;refine ah ?_;rw[(Ev g).1,(Ev g).2.1,(Ev g).2.2];exact a7 mz rfl (aj aa)
  ·have g:Ac n a b c=true:=by unfold Ac;rw[df u,df D];rfl
   refine ac rfl (sF (pN _) (pD _) (XQ _ _ _) (YV _ _ _)) ?_;refine ah ?_;rw[(EW g).1,(EW g).2.1,(EW g).2.2];exact a7 mz rfl (aj aa)
 ·have g:Ac n a b c=false:=by unfold Ac;rw[gy u];rfl
  refine vr rfl<|ar (az (us:=([.i .i64 0]++[.i .i64 0])) vq tP rfl rfl rfl) ?_;refine ah ?_;rw[(Ev g).1,(Ev g).2.1,(Ev g).2.2];exact a7 mz rfl (aj aa)
end Go.Proofs.YtegeknjkgadehaaGreat
