/-Plain:a line that separates two points of a half of a circle:one of the points where it meets the circle lies between them,on that half. -/
import Derived.Test.YtegpmhlfjkhjmaaGreatTaP
namespace Go.Proofs.YtegpmhlfjkhjmaaGreat
open Go Go.RowKit
variable {c d:Cv}{L:List Pt}{l:Ln}{f p q t x:Pt}
theorem uU:type_of% @Rat.le_of_lt:=@Rat.le_of_lt
theorem Lj {p q:Re}(hp:0≤aB p) (hq:0≤aB q) (h:aB (q*q-p*p)=0):aB (q-p)=0:=by
 rcases bg (q+p) with e|e|e
 ·refine Fe (x:=q+p) ?_ (by rw[e];decide)
  rw[show(q+p)*(q-p)=q*q-p*p from(aM fun n=>by simp only[aD,aj,aE];grind)];exact h
 ·have h1:aB q=0:=by
   apply fe
   intro hn
   have:=wG (x:=q) (y:=p) (by omega) hp
   omega
  have h2:aB p=0:=by rw[←nm h1 p];exact e
  exact iX h1 h2
 ·have:=fP hq hp;omega
theorem abN {c:Rat}(h0:0<c) (hs:kg c=true):aB (Re.of (rt c)-Re.rt c)=0:=by
 refine Lj (u9 c) ?_ ?_
 ·rw[bQ];exact gG (AH c)
 ·rw[dm (y:=Re.of (rt c*rt c)-Re.of c) (z:= -(Re.rt c*Re.rt c-Re.of c)) ((aM fun n=>by simp only[aj,aE,aK,aV];grind)) (my (lh (uU h0))),JK h0 hs]
  exact qc _
theorem BR {a1 b1 a2 b2 c:Rat}(h0:0<c):aB (pX (gg a1 b1 a2 b2 c)-(Re.of a1+Re.of b1*Re.rt c))=0∧aB (pY (gg a1 b1 a2 b2 c)-(Re.of a2+Re.of b2*Re.rt c))=0:=by
 cases hs:kg c with
 |true=>
  have e:gg a1 b1 a2 b2 c=⟨a1+b1*rt c,0,a2+b2*rt c,0,0⟩:=by unfold gg;rw[hs];rfl
  have hr:=abN h0 hs
  rw[e]
  refine⟨?_,?_⟩
  ·show aB (xG (a1+b1*rt c) 0 0-_)=0
   rw[oZ,show Re.of (a1+b1*rt c)+Re.of 0*Re.rt 0-(Re.of a1+Re.of b1*Re.rt c)=Re.of b1*(Re.of (rt c)-Re.rt c) from(aM fun n=>by simp only[aD,aj,aE,aK];grind)]
   exact dA _ hr
  ·show aB (xG (a2+b2*rt c) 0 0-_)=0
   rw[oZ,show Re.of (a2+b2*rt c)+Re.of 0*Re.rt 0-(Re.of a2+Re.of b2*Re.rt c)=Re.of b2*(Re.of (rt c)-Re.rt c) from(aM fun n=>by simp only[aD,aj,aE,aK];grind)]
   exact dA _ hr
 |false=>
  have e:gg a1 b1 a2 b2 c=⟨a1,b1,a2,b2,c⟩:=by unfold gg;rw[hs];rfl
  rw[e]
  refine⟨?_,?_⟩
  ·show aB (xG a1 b1 c-_)=0
   rw[oZ];exact qc _
  ·show aB (xG a2 b2 c-_)=0
   rw[oZ];exact qc _
def rX (k:Ci) (p:Pt):Re:=pX p-Re.of k.x
def rY (k:Ci) (p:Pt):Re:=pY p-Re.of k.y
theorem L7 {X R:Re}{f u n k V a b:Rat}(g:aB (X-(Re.of f+Re.of u*R))=0) (e1:f*n=k*n-V*a) (e3: -u*n=b):aB ((X-Re.of k)*Re.of n+(Re.of V*Re.of a+Re.of b*R))=0:=by
 rw[show(X-Re.of k)*Re.of n+(Re.of V*Re.of a+Re.of b*R)=Re.of n*(X-(Re.of f+Re.of u*R)) from(aM fun n=>by simp only[aD,aj,aE,aK];grind)]
 exact dA _ g
section
variable {l:Ln}{k:Ci}(hn:cZ l≠0) (h0:0<cV l k)
include hn
theorem O6:l7 l k*cZ l=k.x*cZ l-iU l k.x k.y*l.a∧lF l k*cZ l=k.y*cZ l-iU l k.x k.y*l.b:=by
 unfold l7 lF
 grind
include h0
theorem Lx:LinP (Re.of l.a) (Re.of l.b) (Re.of (cZ l)) (Re.of (iU l k.x k.y)) (Re.rt (cV l k)) (rX k (N6 l k)) (rY k (N6 l k)):=by
 obtain⟨g1,g2⟩:=BR (a1:=l7 l k) (b1:= -(l.b/cZ l)) (a2:=lF l k) (b2:= -(-l.a/cZ l)) h0
 obtain⟨e1,e2⟩:=O6 (k:=k) hn
 refine⟨L7 g1 e1 (by grind),?_⟩
 have h:=L7 (b:= -l.a) g2 e2 (by grind)
 rw[show rY k (N6 l k)*Re.of (cZ l)+(Re.of (iU l k.x k.y)*Re.of l.b-Re.of l.a*Re.rt (cV l k))=(pY (N6 l k)-Re.of k.y)*Re.of (cZ l)+(Re.of (iU l k.x k.y)*Re.of l.b+Re.of (-l.a)*Re.rt (cV l k)) from by unfold rY;exact(aM fun n=>by simp only[aD,aj,aE,aK];grind)]
 exact h
theorem Le:LinP (Re.of l.a) (Re.of l.b) (Re.of (cZ l)) (Re.of (iU l k.x k.y)) (-Re.rt (cV l k)) (rX k (J1 l k)) (rY k (J1 l k)):=by
 obtain⟨g1,g2⟩:=BR (a1:=l7 l k) (b1:=l.b/cZ l) (a2:=lF l k) (b2:= -l.a/cZ l) h0
 obtain⟨e1,e2⟩:=O6 (k:=k) hn
 have h1:=L7 (b:= -l.b) g1 e1 (by grind)
 have h2:=L7 (b:=l.a) g2 e2 (by grind)
 refine⟨?_,?_⟩
 ·rw[show rX k (J1 l k)*Re.of (cZ l)+(Re.of (iU l k.x k.y)*Re.of l.a+Re.of l.b* -Re.rt (cV l k))=(pX (J1 l k)-Re.of k.x)*Re.of (cZ l)+(Re.of (iU l k.x k.y)*Re.of l.a+Re.of (-l.b)*Re.rt (cV l k)) from by unfold rX;exact(aM fun n=>by simp only[aD,aj,aE,aK,aV];grind)]
  exact h1
 ·rw[show rY k (J1 l k)*Re.of (cZ l)+(Re.of (iU l k.x k.y)*Re.of l.b-Re.of l.a* -Re.rt (cV l k))=(pY (J1 l k)-Re.of k.y)*Re.of (cZ l)+(Re.of (iU l k.x k.y)*Re.of l.b+Re.of l.a*Re.rt (cV l k)) from by unfold rY;exact(aM fun n=>by simp only[aD,aj,aE,aK,aV];grind)]
  exact h2
end
theorem LinP.flip {a b n V r xa ya:Re}(h:LinP a b n V r xa ya):LinP a (-b) n V (-r) xa (-ya):=by
 refine⟨?_,?_⟩
 ·rw[show xa*n+(V*a+ -b* -r)=xa*n+(V*a+b*r) from(aM fun n=>by simp only[aD,aE,aV];grind)];exact h.x
 ·rw[show-ya*n+(V* -b-a* -r)= -(ya*n+(V*b-a*r)) from(aM fun n=>by simp only[aD,aj,aE,aV];grind)];exact my h.y
theorem DI {k:Ci}(h0:0<cV l k):N6 l k∈nP l k∧J1 l k∈nP l k:=by
 have h1:aX (cV l k) 0=1:=by
  have:=OJ.2 h0
  have:=(dU (cV l k) 0).2
  omega
 unfold nP
 grind
section
variable {c:Cv}{G:Pt→Prop}(gc: ∀p,G p→0≤p.c) (anti: ∀p q,G p→G q→c.ord q p= -c.ord p q) (tr: ∀p q r,G p→G q→G r→Nk (c.ord p q) (c.ord q r) (c.ord p r)=true) (zero: ∀p q,G p→G q→c.ord p q=0→cP p q=0)
include anti tr zero
theorem Jh {x:Pt}(ox:G x): ∀ {S:List Pt},(∀y∈S,G y)→S.Pairwise (fun p q=>c.ord p q<0)→(mO c S x).Pairwise (fun p q=>c.ord p q<0)
 |[],_,_=>by rw[C4];exact CT _ _
 |o::l,hS,hp=>by
  have oo:=hS o (by simp)
  have hl: ∀y∈l,G y:=fun y hy=>hS y (by simp[hy])
  obtain⟨h1,h2⟩:=lj.1 hp
  by_cases h:c.ord o x<0
  ·rw[Ad h]
   refine lj.2 ⟨fun y hy=>?_,Jh ox hl h2⟩
   rcases sU hy with g|g
   ·exact h1 y g
   ·rw[g];exact h
  ·rw[zY h]
   split
   ·exact hp
   ·rename_i hn
    have ha:=anti o x oo ox
    have hz:c.ord o x≠0:=fun e=>hn (zero o x oo ox e)
    refine lj.2 ⟨fun y hy=>?_,hp⟩
    rcases d8.1 hy with g|g
    ·rw[g];omega
    ·exact EF (tr x o y ox oo (hl y g)) (by omega) (qw (h1 y g))
include gc
theorem Fd: ∀(L:List Pt) {S:List Pt},(∀y∈L,G y)→(∀y∈S,G y)→S.Pairwise (fun p q=>c.ord p q<0)→
 (L.foldl (mO c) S).Pairwise (fun p q=>c.ord p q<0)∧(∀y∈S,y∈L.foldl (mO c) S)∧ ∀y∈L,∃z∈L.foldl (mO c) S,cP z y=0
 |[],S,_,_,hp=>⟨hp,fun y hy=>hy,fun y hy=>by cases hy⟩
 |x::L,S,hL,hS,hp=>by
  have ox:=hL x (by simp)
  have hS2: ∀y∈mO c S x,G y:=fun y hy=>(sU hy).elim (hS y) (fun e=>e▸ox)
  obtain⟨h1,h2,h3⟩:=Fd L (S:=mO c S x) (fun y hy=>hL y (by simp[hy])) hS2 (Jh anti tr zero ox hS hp)
  obtain⟨g1,y,g2,g3⟩:=CP (c:=c) (x:=x) (gc x ox) (S:=S)
  rw[vk]
  refine⟨h1,fun z hz=>h2 z (g1 z hz),fun z hz=>?_⟩
  rcases d8.1 hz with e|e
  ·rw[e];exact⟨y,h2 y g2,g3⟩
  ·exact h3 z e
theorem Qq (vc:CvV c) (_gp: ∀p,G p→GP p) (hcp:G c.p) (hcq:G c.q) (hL: ∀y∈L,G y∧c.on y=true) (fst: ∀y,G y→c.ord c.p y≤0) (hd:d∈nh c L):
 ∃p q,G p∧G q∧d=c.ends p q∧c.ord p q<0∧ ∀x,G x→c.ord p x<0→c.ord x q<0→c.ord c.p x<0∧c.ord x c.q<0∧ ∀y∈L,cP y x≠0:=by
 have hG: ∀y∈ [c.p,c.q]++L,G y:=fun y hy=>by
  rcases pj.1 hy with h|h
  ·simp only[d8,rO,or_false] at h
   rcases h with h|h<;>rw[h]<;>assumption
  ·exact(hL y h).1
 have hT: ∀y∈ [c.p,c.q]++L,c.ord y c.q≤0:=fun y hy=>by
  rcases pj.1 hy with h|h
  ·simp only[d8,rO,or_false] at h
   rcases h with h|h
   ·rw[h];exact fst _ hcq
   ·rw[h];have:=anti c.q c.q hcq hcq;omega
  ·have h2:=(hL y h).2
   unfold Cv.on at h2
   rw[di] at h2
   exact of_decide_eq_true h2.2
 obtain⟨hs,_,hin⟩:=Fd gc anti tr zero ([c.p,c.q]++L) (S:=[]) hG (fun y hy=>by cases hy) .nil
 obtain⟨A,p,q,B,eS,e⟩:=wF hd
 have eS:([c.p,c.q]++L).foldl (mO c) []=A++p::q::B:=eS
 have hmem: ∀y∈A++p::q::B,y∈ [c.p,c.q]++L:=fun y hy=>nS (c:=c) (by show y∈([c.p,c.q]++L).foldl (mO c) [];rw[eS];exact hy)
 have op:=hG p (hmem p (by simp))
 have oq:=hG q (hmem q (by simp))
 rw[eS] at hs hin
 obtain⟨hA,hpq,hAB⟩:=yl.1 hs
 obtain⟨hp1,hq1⟩:=lj.1 hpq
 refine⟨p,q,op,oq,e,hp1 q (by simp),fun x ox r1 r2=>⟨Dl (tr c.p p x hcp op ox) (fst p op) r1,EF (tr x q c.q ox oq hcq) r2 (hT q (hmem q (by simp))),fun y0 hy0 ey0=>?_⟩⟩
 obtain⟨y,hy,ey⟩:=hin y0 (pj.2 (.inr hy0))
 have oy:=hG y (hmem y hy)
 have oy0:=(hL y0 hy0).1
 have z1:c.ord y y0=0:=vq (gc y oy) (gc y0 oy0) ey vc.g
 have z2:c.ord y0 x=0:=vq (gc y0 oy0) (gc x ox) ey0 vc.g
 have zy:c.ord y x≤0:=ID (tr y y0 x oy oy0 ox) (by omega) (by omega)
 have zx:c.ord x y≤0:=ID (tr x y0 y ox oy0 oy) (by have:=anti y0 x oy0 ox;omega) (by have:=anti y y0 oy oy0;omega)
 have apx:=anti p x op ox
 rcases pj.1 hy with g|g
 ·have l1:c.ord y p<0:=hAB y g p (by simp)
  have:=Dl (tr x y p ox oy op) (by omega) l1
  omega
 ·rcases d8.1 g with g|g
  ·grind
  ·rcases d8.1 g with g|g
   ·grind
   ·have l1:c.ord q y<0:=(lj.1 hq1).1 y g
    have:=EF (tr q y x oq oy ox) l1 (by omega)
    grind
end
theorem aba {a b c:Int}(h:T3 a b c):Nk a b c=true:=by
 obtain⟨h1,h2,h3⟩:=h
 unfold Nk
 grind
theorem Ej (p q:Pt):(Cv.seg l f t).ord p q=if cP f t>0 then-cP p q else cP p q:=by
 show(if decide (cP f t>0)=true then-cP p q else cP p q)=_
 by_cases h:cP f t>0
 ·grind
 grind
theorem Hh (hp:GP p) (hq:GP q):(Cv.seg l f t).ord q p= -(Cv.seg l f t).ord p q:=by
 have:=fS (cg hp) (cg hq)
 rw[Ej,Ej];split<;>omega
theorem Pn {r:Pt}(hp:GP p) (hq:GP q) (hr:GP r):Nk ((Cv.seg l f t).ord p q) ((Cv.seg l f t).ord q r) ((Cv.seg l f t).ord p r)=true:=by
 refine aba ?_
 rw[Ej,Ej,Ej]
 split
 ·have h:=PP (cg hr) (cg hq) (cg hp)
  have a1:=fS (cg hp) (cg hq)
  have a2:=fS (cg hq) (cg hr)
  have a3:=fS (cg hp) (cg hr)
  unfold T3 at*
  omega
 ·exact PP (cg hp) (cg hq) (cg hr)
theorem kS:c.inner x=true↔c.on x=true∧cP c.p x≠0∧cP c.q x≠0:=by
 unfold Cv.inner
 grind
theorem CZ:c.on x=true↔c.supp x=true∧c.ord c.p x≤0∧c.ord x c.q≤0:=by
 unfold Cv.on
 grind
theorem IF (vc:CvV c) (hL: ∀y∈L,GP y∧c.on y=true) (hd:d∈nh c L) (gx:GP x) (hi:d.inner x=true):c.inner x=true∧ ∀y∈L,cP y x≠0:=by
 obtain⟨i1,i2,i3⟩:=kS.1 hi
 obtain⟨j1,j2,j3⟩:=CZ.1 i1
 cases c with
 |seg l f t=>
  have gf:=vc.g.2.1
  have gt:=vc.g.2.2
  have tr:=fun p q r (hp:GP p∧(Cv.seg l f t).ord f p≤0) (hq:GP q∧(Cv.seg l f t).ord f q≤0) (hr:GP r∧(Cv.seg l f t).ord f r≤0)=>Pn (l:=l) (f:=f) (t:=t) hp.1 hq.1 hr.1
  have ff:(Cv.seg l f t).ord f f≤0:=by have:=Hh (l:=l) (f:=f) (t:=t) gf gf;omega
  have ft:(Cv.seg l f t).ord f t≤0:=by
   have hne:cP f t≠0:=vc.ne
   rw[Ej];split<;>omega
  obtain⟨p,q,hp,hq,rfl,hpq,key⟩:=Qq (c:=.seg l f t) (G:=fun p=>GP p∧(Cv.seg l f t).ord f p≤0) (fun p h=>cg h.1) (fun p q h g=>Hh h.1 g.1) tr (fun p q h g e=>by rw[Ej] at e;split at e<;>omega) vc (fun p h=>h.1) ⟨gf,ff⟩ ⟨gt,ft⟩
   (fun y hy=>⟨⟨(hL y hy).1,(CZ.1 (hL y hy).2).2.1⟩,(hL y hy).2⟩) (fun y h=>h.2) hd
  have j2:(Cv.seg l p q).ord p x≤0:=j2
  have j3:(Cv.seg l p q).ord x q≤0:=j3
  have i2:cP p x≠0:=i2
  have i3:cP q x≠0:=i3
  have ax:=fS (cg hq.1) (cg gx)
  rw[Ej] at j2 j3 hpq
  have h1:(Cv.seg l f t).ord p x<0∧(Cv.seg l f t).ord x q<0:=by
   rw[Ej,Ej]
   grind
  have fx:(Cv.seg l f t).ord f x<0:=Dl (Pn gf hp.1 gx) hp.2 h1.1
  obtain⟨k1,k2,k3⟩:=key x ⟨gx,qw fx⟩ h1.1 h1.2
  have n1:=sF vc.g gf gx k1
  have n2:=sF vc.g gx gt k2
  have a2:=fS (cg gx) (cg gt)
  exact⟨kS.2 ⟨CZ.2 ⟨j1,qw k1,qw k2⟩,n1,by show cP t x≠0;omega⟩,k3⟩
 |arc k w f t=>
  have h0:0<k.q:=vc.pos
  have of:=(Ef vc).1
  have ot:=(Ef vc).2
  obtain⟨p,q,op,oq,rfl,hpq,key⟩:=Qq (c:=.arc k w f t) (G:=OnK k) (fun p h=>aU h) (fun p q h g=>j7 of h g) (fun p q r h g e=>uG of h g e) (fun p q h g e=>vY h0 of h g e) vc (fun p h=>h.1) of ot
   (fun y hy=>⟨Az (hL y hy).1 (hL y hy).2,(hL y hy).2⟩) (fun y h=>y5 of h) hd
  have ox:OnK k x:=⟨gx,bK.1 j1⟩
  have b1:(Cv.arc k w p q).ord p x≤0:=j2
  have b2:(Cv.arc k w p q).ord x q≤0:=j3
  have n1:cP p x≠0:=i2
  have n2:cP q x≠0:=i3
  rw[nO] at b1 b2
  have hl2:=hpq
  rw[nO] at hl2
  have a1:=fS (aU op) (aU ox)
  have a2:=fS (aU oq) (aU ox)
  obtain⟨r1,r2⟩:=LZ (YF w h0) (of.by w) (op.by w) (oq.by w) (ox.by w) hl2 b1 b2 (fun e=>n1 (by have:=(HK w (aU ox) (aU op)).1 e;omega)) (fun e=>n2 (by have:=(HK w (aU ox) (aU oq)).1 e;omega))
  rw[←nO (t:=t)] at r1 r2
  obtain⟨k1,k2,k3⟩:=key x ox r1 r2
  have m1:=sF vc.g of.1 gx k1
  have m2:=sF vc.g gx ot.1 k2
  have a3:=fS (cg gx) (aU ot)
  exact⟨kS.2 ⟨CZ.2 ⟨j1,qw k1,qw k2⟩,m1,by show cP t x≠0;omega⟩,k3⟩
end Go.Proofs.YtegpmhlfjkhjmaaGreat
