/-Plain:arcs and lines beside a common point:the order beside it holds up to the next common point. -/
import Derived.Test.YtegpmhlfjkhjmaaGreatYmP
namespace Go.Proofs.YtegpmhlfjkhjmaaGreat
open Go Go.RowKit
variable {c d:Cv}{L S:List Pt}{l:Ln}{f p q t x:Pt}
theorem tx:type_of% @List.length_filter_le:=@List.length_filter_le
theorem ug:type_of% @List.Pairwise.imp_of_mem:=@List.Pairwise.imp_of_mem
theorem vu:type_of% @List.filter_append:=@List.filter_append
section
variable {c:Cv}{G:Pt→Prop}(gc: ∀p,G p→0≤p.c) (anti: ∀p q,G p→G q→c.ord q p= -c.ord p q) (tr: ∀p q r,G p→G q→G r→NM (c.ord p q) (c.ord q r) (c.ord p r)=true) (zero: ∀p q,G p→G q→c.ord p q=0→cP p q=0)
include anti tr zero
theorem Ji {x:Pt}(ox:G x): ∀ {S:List Pt},(∀y∈S,G y)→S.Pairwise (fun p q=>c.ord p q<0)→(gz c S x).Pairwise (fun p q=>c.ord p q<0)
 |[],_,_=>by rw[Cs];exact C3 _ _
 |o::l,hS,hp=>by
  have oo:=hS o (by simp)
  have hl: ∀y∈l,G y:=fun y hy=>hS y (by simp[hy])
  obtain⟨h1,h2⟩:=lg.1 hp
  by_cases h:c.ord o x<0
  ·rw[za h]
   refine lg.2 ⟨fun y hy=>?_,Ji ox hl h2⟩
   rcases ti hy with g|g
   ·exact h1 y g
   ·rw[g];exact h
  ·rw[zM h]
   split
   ·exact hp
   ·rename_i hn
    have ha:=anti o x oo ox
    have hz:c.ord o x≠0:=fun e=>hn (zero o x oo ox e)
    refine lg.2 ⟨fun y hy=>?_,hp⟩
    rcases dD.1 hy with g|g
    ·rw[g];omega
    ·exact EK (tr x o y ox oo (hl y g)) (by omega) (tC (h1 y g))
include gc
theorem ES: ∀(L:List Pt) {S:List Pt},(∀y∈L,G y)→(∀y∈S,G y)→S.Pairwise (fun p q=>c.ord p q<0)→
 (L.foldl (gz c) S).Pairwise (fun p q=>c.ord p q<0)∧(∀y∈S,y∈L.foldl (gz c) S)∧ ∀y∈L,∃z∈L.foldl (gz c) S,cP z y=0
 |[],S,_,_,hp=>⟨hp,fun y hy=>hy,fun y hy=>by cases hy⟩
 |x::L,S,hL,hS,hp=>by
  have ox:=hL x (by simp)
  have hS2: ∀y∈gz c S x,G y:=fun y hy=>(ti hy).elim (hS y) (fun e=>e▸ox)
  obtain⟨h1,h2,h3⟩:=ES L (S:=gz c S x) (fun y hy=>hL y (by simp[hy])) hS2 (Ji anti tr zero ox hS hp)
  obtain⟨g1,y,g2,g3⟩:=CU (c:=c) (x:=x) (gc x ox) (S:=S)
  rw[vF]
  refine⟨h1,fun z hz=>h2 z (g1 z hz),fun z hz=>?_⟩
  rcases dD.1 hz with e|e
  ·rw[e];exact⟨y,h2 y g2,g3⟩
  ·exact h3 z e
theorem P3 (vc:CvV c) (_gp: ∀p,G p→GP p) (hcp:G c.p) (hcq:G c.q) (hL: ∀y∈L,G y∧c.on y=true) (fst: ∀y,G y→c.ord c.p y≤0) (hd:d∈iU c L):
 ∃p q,G p∧G q∧d=c.ends p q∧c.ord p q<0∧ ∀x,G x→c.ord p x<0→c.ord x q<0→c.ord c.p x<0∧c.ord x c.q<0∧ ∀y∈L,cP y x≠0:=by
 have hG: ∀y∈ [c.p,c.q]++L,G y:=fun y hy=>by
  rcases mW.1 hy with h|h
  ·simp only[dD,qS,or_false] at h
   rcases h with h|h<;>rw[h]<;>assumption
  ·exact(hL y h).1
 have hT: ∀y∈ [c.p,c.q]++L,c.ord y c.q≤0:=fun y hy=>by
  rcases mW.1 hy with h|h
  ·simp only[dD,qS,or_false] at h
   rcases h with h|h
   ·rw[h];exact fst _ hcq
   ·rw[h];have:=anti c.q c.q hcq hcq;omega
  ·have h2:=(hL y h).2
   unfold Cv.on at h2
   rw[dL] at h2
   exact of_decide_eq_true h2.2
 obtain⟨hs,_,hin⟩:=ES gc anti tr zero ([c.p,c.q]++L) (S:=[]) hG (fun y hy=>by cases hy) .nil
 obtain⟨A,p,q,B,eS,e⟩:=v5 hd
 have eS:([c.p,c.q]++L).foldl (gz c) []=A++p::q::B:=eS
 have hmem: ∀y∈A++p::q::B,y∈ [c.p,c.q]++L:=fun y hy=>mI (c:=c) (by show y∈([c.p,c.q]++L).foldl (gz c) [];rw[eS];exact hy)
 have op:=hG p (hmem p (by simp))
 have oq:=hG q (hmem q (by simp))
 rw[eS] at hs hin
 obtain⟨hA,hpq,hAB⟩:=xN.1 hs
 obtain⟨hp1,hq1⟩:=lg.1 hpq
 refine⟨p,q,op,oq,e,hp1 q (by simp),fun x ox r1 r2=>⟨DK (tr c.p p x hcp op ox) (fst p op) r1,EK (tr x q c.q ox oq hcq) r2 (hT q (hmem q (by simp))),fun y0 hy0 ey0=>?_⟩⟩
 obtain⟨y,hy,ey⟩:=hin y0 (mW.2 (.inr hy0))
 have oy:=hG y (hmem y hy)
 have oy0:=(hL y0 hy0).1
 have z1:c.ord y y0=0:=wl (gc y oy) (gc y0 oy0) ey vc.g
 have z2:c.ord y0 x=0:=wl (gc y0 oy0) (gc x ox) ey0 vc.g
 have zy:c.ord y x≤0:=HS (tr y y0 x oy oy0 ox) (by omega) (by omega)
 have zx:c.ord x y≤0:=HS (tr x y0 y ox oy0 oy) (by have:=anti y0 x oy0 ox;omega) (by have:=anti y y0 oy oy0;omega)
 have apx:=anti p x op ox
 rcases mW.1 hy with g|g
 ·have l1:c.ord y p<0:=hAB y g p (by simp)
  have:=DK (tr x y p ox oy op) (by omega) l1
  omega
 ·rcases dD.1 g with g|g
  ·grind
  ·rcases dD.1 g with g|g
   ·grind
   ·have l1:c.ord q y<0:=(lg.1 hq1).1 y g
    have:=EK (tr q y x oq oy ox) l1 (by omega)
    grind
end
def vLn (l:Ln):Bool:=(aM l.a 0 !=0)||(aM l.b 0 !=0)
theorem Wj (h:(aM l.a 0 !=0)=true):vLn l=true:=by unfold vLn;rw[h];rfl
theorem W6 (h:(aM l.a 0 !=0)=false):vLn l=(aM l.b 0 !=0):=by unfold vLn;rw[h];rfl
theorem aca (h:fi l≠0):vLn l=true:=by
 cases e:aM l.a 0 !=0 with
 |true=>exact Wj e
 |false=>
  rw[W6 e,bne_iff_ne]
  intro e2
  have h1:=ni.1 (show aM l.a 0=0 by simpa using e)
  have h2:=ni.1 e2
  exact h (by unfold fi;rw[h1,h2];grind)
theorem abz {a b c:Int}(h:T3 a b c):NM a b c=true:=by
 obtain⟨h1,h2,h3⟩:=h
 unfold NM
 grind
theorem Eg (p q:Pt):(Cv.seg l f t).ord p q=if cP f t>0 then-cP p q else cP p q:=by
 show(if decide (cP f t>0)=true then-cP p q else cP p q)=_
 by_cases h:cP f t>0
 ·grind
 grind
theorem HN (hp:GP p) (hq:GP q):(Cv.seg l f t).ord q p= -(Cv.seg l f t).ord p q:=by
 have:=fH (cm hp) (cm hq)
 rw[Eg,Eg];split<;>omega
theorem PF {r:Pt}(hp:GP p) (hq:GP q) (hr:GP r):NM ((Cv.seg l f t).ord p q) ((Cv.seg l f t).ord q r) ((Cv.seg l f t).ord p r)=true:=by
 refine abz ?_
 rw[Eg,Eg,Eg]
 split
 ·have h:=Sj (cm hr) (cm hq) (cm hp)
  have a1:=fH (cm hp) (cm hq)
  have a2:=fH (cm hq) (cm hr)
  have a3:=fH (cm hp) (cm hr)
  unfold T3 at*
  omega
 ·exact Sj (cm hp) (cm hq) (cm hr)
theorem pZ:c.inner x=true↔c.on x=true∧cP c.p x≠0∧cP c.q x≠0:=by
 unfold Cv.inner
 grind
theorem Cn:c.on x=true↔c.supp x=true∧c.ord c.p x≤0∧c.ord x c.q≤0:=by
 unfold Cv.on
 grind
theorem P5 (vc:CvV c) (hL: ∀y∈L,GP y∧c.on y=true) (hd:d∈iU c L) (gx:GP x) (hi:d.inner x=true):c.inner x=true∧ ∀y∈L,cP y x≠0:=by
 obtain⟨i1,i2,i3⟩:=pZ.1 hi
 obtain⟨j1,j2,j3⟩:=Cn.1 i1
 cases c with
 |seg l f t=>
  have gf:=vc.g.2.1
  have gt:=vc.g.2.2
  have tr:=fun p q r (hp:GP p∧(Cv.seg l f t).ord f p≤0) (hq:GP q∧(Cv.seg l f t).ord f q≤0) (hr:GP r∧(Cv.seg l f t).ord f r≤0)=>PF (l:=l) (f:=f) (t:=t) hp.1 hq.1 hr.1
  have ff:(Cv.seg l f t).ord f f≤0:=by have:=HN (l:=l) (f:=f) (t:=t) gf gf;omega
  have ft:(Cv.seg l f t).ord f t≤0:=by
   have hne:cP f t≠0:=vc.ne
   rw[Eg];split<;>omega
  obtain⟨p,q,hp,hq,rfl,hpq,key⟩:=P3 (c:=.seg l f t) (G:=fun p=>GP p∧(Cv.seg l f t).ord f p≤0) (fun p h=>cm h.1) (fun p q h g=>HN h.1 g.1) tr (fun p q h g e=>by rw[Eg] at e;split at e<;>omega) vc (fun p h=>h.1) ⟨gf,ff⟩ ⟨gt,ft⟩
   (fun y hy=>⟨⟨(hL y hy).1,(Cn.1 (hL y hy).2).2.1⟩,(hL y hy).2⟩) (fun y h=>h.2) hd
  have j2:(Cv.seg l p q).ord p x≤0:=j2
  have j3:(Cv.seg l p q).ord x q≤0:=j3
  have i2:cP p x≠0:=i2
  have i3:cP q x≠0:=i3
  have ax:=fH (cm hq.1) (cm gx)
  rw[Eg] at j2 j3 hpq
  have h1:(Cv.seg l f t).ord p x<0∧(Cv.seg l f t).ord x q<0:=by
   rw[Eg,Eg]
   grind
  have fx:(Cv.seg l f t).ord f x<0:=DK (PF gf hp.1 gx) hp.2 h1.1
  obtain⟨k1,k2,k3⟩:=key x ⟨gx,tC fx⟩ h1.1 h1.2
  have n1:=se vc.g gf gx k1
  have n2:=se vc.g gx gt k2
  have a2:=fH (cm gx) (cm gt)
  exact⟨pZ.2 ⟨Cn.2 ⟨j1,tC k1,tC k2⟩,n1,by show cP t x≠0;omega⟩,k3⟩
 |arc k w f t=>
  have h0:0<k.q:=vc.pos
  have of:=(D7 vc).1
  have ot:=(D7 vc).2
  obtain⟨p,q,op,oq,rfl,hpq,key⟩:=P3 (c:=.arc k w f t) (G:=OnK k) (fun p h=>bk h) (fun p q h g=>jX of h g) (fun p q r h g e=>tO of h g e) (fun p q h g e=>uW h0 of h g e) vc (fun p h=>h.1) of ot
   (fun y hy=>⟨Af (hL y hy).1 (hL y hy).2,(hL y hy).2⟩) (fun y h=>zS of h) hd
  have ox:OnK k x:=⟨gx,b5.1 j1⟩
  have b1:(Cv.arc k w p q).ord p x≤0:=j2
  have b2:(Cv.arc k w p q).ord x q≤0:=j3
  have n1:cP p x≠0:=i2
  have n2:cP q x≠0:=i3
  rw[nM] at b1 b2
  have hl2:=hpq
  rw[nM] at hl2
  have a1:=fH (bk op) (bk ox)
  have a2:=fH (bk oq) (bk ox)
  obtain⟨r1,r2⟩:=Md (XQ w h0) (of.by w) (op.by w) (oq.by w) (ox.by w) hl2 b1 b2 (fun e=>n1 (by have:=(Ho w (bk ox) (bk op)).1 e;omega)) (fun e=>n2 (by have:=(Ho w (bk ox) (bk oq)).1 e;omega))
  rw[←nM (t:=t)] at r1 r2
  obtain⟨k1,k2,k3⟩:=key x ox r1 r2
  have m1:=se vc.g of.1 gx k1
  have m2:=se vc.g gx ot.1 k2
  have a3:=fH (cm gx) (bk ot)
  exact⟨pZ.2 ⟨Cn.2 ⟨j1,tC k1,tC k2⟩,m1,by show cP t x≠0;omega⟩,k3⟩
section
variable {α:Type}{e:α}{C:α→α→Int}{G:α→Prop}(anti: ∀x y,G x→G y→C y x= -C x y) (tr: ∀x y z,G x→G y→G z→C x y≤0→C y z≤0→C x z≤0)
include anti tr
theorem TH {x y z:α}(hx:G x) (hy:G y) (hz:G z) (h:C x y<0) (g:C y z≤0):C x z<0:=by
 have a1:=anti x z hx hz
 have a2:=anti x y hx hy
 have h1:=tr x y z hx hy hz (by omega) g
 apply gg
 intro hn
 have:=tr y z x hy hz hx g (by omega)
 omega
theorem abv {x y z:α}(hx:G x) (hy:G y) (hz:G z) (h:C x y≤0) (g:C y z<0):C x z<0:=by
 have a1:=anti x z hx hz
 have a2:=anti y z hy hz
 have h1:=tr x y z hx hy hz h (by omega)
 apply gg
 intro hn
 have:=tr z x y hz hx hy (by omega) h
 omega
theorem L6: ∀ {A B:List α},(∀a∈A,G a)→(∀b∈B,G b)→A.Pairwise (fun a b=>C a b<0)→B.Pairwise (fun a b=>C a b<0)→(∀a∈A,∃b∈B,C a b=0)→(∀b∈B,∃a∈A,C a b=0)→A.length=B.length∧ ∀i,i<A.length→C (A.getD i e) (B.getD i e)=0
 |[],[],_,_,_,_,_,_=>⟨rfl,fun i hi=>absurd hi (yc i)⟩
 |[],b::B,_,_,_,_,_,h=>by obtain⟨a,ha,_⟩:=h b (by simp);cases ha
 |a::A,[],_,_,_,_,h,_=>by obtain⟨b,hb,_⟩:=h a (by simp);cases hb
 |a::A,b::B,gA,gB,hA,hB,h1,h2=>by
  have ga:=gA a (by simp)
  have gb:=gB b (by simp)
  have gA2: ∀x∈A,G x:=fun x hx=>gA x (by simp[hx])
  have gB2: ∀x∈B,G x:=fun x hx=>gB x (by simp[hx])
  obtain⟨hA1,hA2⟩:=lg.1 hA
  obtain⟨hB1,hB2⟩:=lg.1 hB
  have le1:C a b≤0:=by
   obtain⟨x,hx,hx0⟩:=h2 b (by simp)
   rcases dD.1 hx with rfl|hx
   ·omega
   ·exact tC (TH anti tr ga (gA2 x hx) gb (hA1 x hx) (by omega))
  have le2:C b a≤0:=by
   obtain⟨y,hy,hy0⟩:=h1 a (by simp)
   rcases dD.1 hy with rfl|hy
   ·rw[anti a y ga gb];omega
   ·have:=anti a y ga (gB2 y hy)
    exact tC (TH anti tr gb (gB2 y hy) ga (hB1 y hy) (by omega))
  have z:C a b=0:=by have:=anti a b ga gb;omega
  have z2:C b a=0:=by have:=anti a b ga gb;omega
  have t1: ∀x∈A,∃y∈B,C x y=0:=fun x hx=>by
   obtain⟨y,hy,hy0⟩:=h1 x (by simp[hx])
   rcases dD.1 hy with rfl|hy
   ·have q:=TH anti tr ga (gA2 x hx) gb (hA1 x hx) (by omega)
    omega
   ·exact⟨y,hy,hy0⟩
  have t2: ∀y∈B,∃x∈A,C x y=0:=fun y hy=>by
   obtain⟨x,hx,hx0⟩:=h2 y (by simp[hy])
   rcases dD.1 hx with rfl|hx
   ·have q:=abv anti tr ga gb (gB2 y hy) (by omega) (hB1 y hy)
    omega
   ·exact⟨x,hx,hx0⟩
  obtain⟨l,hl⟩:=L6 gA2 gB2 hA2 hB2 t1 t2
  refine⟨by simp[l],fun i hi=>?_⟩
  cases i with
  |zero=>exact z
  |succ i=>exact hl i (by simpa using hi)
end
def bQ (S:List Pt) (n:Nat):List Pt:=((List.range n).filter fun i=>i==0||cP (S.getD i dPt) (S.getD (i-1) dPt) !=0).map fun i=>S.getD i dPt
def jB (c:Cv) (p:Pt):Bool:= !(cP p c.p==0)&& !(cP p c.q==0)
section
variable {S:List Pt}{n:Nat}
theorem HI:bQ S (n+1)=bQ S n++(if (n==0||cP (S.getD n dPt) (S.getD (n-1) dPt) !=0)=true then[S.getD n dPt] else[]):=by
 unfold bQ
 rw[List.range_succ,vu,oZ]
 congr 1
 rw[List.filter_cons]
 split<;>rfl
theorem Ik (h:cP (S.getD n dPt) (S.getD (n-1) dPt)≠0):bQ S (n+1)=bQ S n++[S.getD n dPt]:=by
 rw[HI,if_pos (by rw[sC];exact .inr (bne_iff_ne.2 h))]
theorem IG (h0:0<n) (h:cP (S.getD n dPt) (S.getD (n-1) dPt)=0):bQ S (n+1)=bQ S n:=by
 rw[HI,if_neg,iZ]
 rw[sC,beq_iff_eq,bne_iff_ne]
 omega
theorem y7:(bQ S n).length≤n:=by
 unfold bQ
 rw[oN]
 exact iO (tx _ _) (by simp)
theorem CS (hS: ∀i,i+1<n→cP (S.getD (i+1) dPt) (S.getD i dPt)≠0) (hn:n≤S.length):bQ S n=S.take n:=by
 induction n with
 |zero=>rfl
 |succ n ih=>
  rw[qj (d:=dPt) (by omega),←ih (fun i hi=>hS i (by omega)) (by omega)]
  by_cases h:n=0
  ·subst h;rfl
  ·exact Ik (by have:=hS (n-1) (by omega);rw[show n-1+1=n from by omega] at this;exact this)
theorem H4 (hn:n≤S.length) (h:x∈bQ S n):x∈S:=by
 unfold bQ at h
 obtain⟨i,hi,rfl⟩:=nB.1 h
 have:=lZ.1 (mx.1 hi).1
 exact bd (by omega)
theorem QI (gS: ∀p∈S,0≤p.c): ∀ {n i:Nat},n≤S.length→i<n→ ∃y∈bQ S n,cP y (S.getD i dPt)=0:=by
 have one: ∀i,i<S.length→ ∃j,j≤i∧(j==0||cP (S.getD j dPt) (S.getD (j-1) dPt) !=0)=true∧cP (S.getD j dPt) (S.getD i dPt)=0:=by
  intro i
  induction i with
  |zero=>exact fun h=>⟨0,cg _,rfl,mi (gS _ (bd h))⟩
  |succ i ih=>
   intro h
   by_cases g:cP (S.getD (i+1) dPt) (S.getD i dPt)=0
   ·obtain⟨j,h1,h2,h3⟩:=ih (by omega)
    refine⟨j,by omega,h2,?_⟩
    have c0:=gS _ (bd (d:=dPt) h)
    have c1:=gS _ (bd (d:=dPt) (show i<S.length by omega))
    have c2:=gS _ (bd (d:=dPt) (show j<S.length by omega))
    obtain⟨z1,z2⟩:=eP.1 g
    obtain⟨z3,z4⟩:=eP.1 h3
    refine eP.2 ⟨?_,?_⟩
    ·rw[ef c0 c2,wS c0 c1 g c2,ef c2 c1,z3];rfl
    ·rw[show cy (S.getD j dPt) (S.getD (i+1) dPt)= -cy (S.getD (i+1) dPt) (S.getD j dPt) from by rw[si c2 c0,si c0 c2,vC],Cg c0 c1 g c2,show cy (S.getD i dPt) (S.getD j dPt)= -cy (S.getD j dPt) (S.getD i dPt) from by rw[si c1 c2,si c2 c1,vC],z4];rfl
   ·exact⟨i+1,cg _,by rw[sC];exact .inr (bne_iff_ne.2 g),mi (gS _ (bd h))⟩
 intro n i hn hi
 obtain⟨j,h1,h2,h3⟩:=one i (by omega)
 exact⟨S.getD j dPt,nB.2 ⟨j,mx.2 ⟨List.mem_range.2 (by omega),h2⟩,rfl⟩,h3⟩
end
theorem OA {C:Pt→Pt→Int}{G:Pt→Prop}(anti: ∀x y,G x→G y→C y x= -C x y) (tr: ∀x y z,G x→G y→G z→C x y≤0→C y z≤0→C x z≤0) (zero: ∀x y,G x→G y→C x y=0→cP y x=0) (gS: ∀p∈S,G p) (h:S.Pairwise fun a b=>C a b≤0) {n:Nat}(hn:n≤S.length):(bQ S n).Pairwise fun a b=>C a b<0:=by
 have key: ∀ {i j:Nat},i<j→j<S.length→(j==0||cP (S.getD j dPt) (S.getD (j-1) dPt) !=0)=true→C (S.getD i dPt) (S.getD j dPt)<0:=fun{i j} hij hj hk=>by
  have hg:=fun{r:Nat}(hr:r<S.length)=>gS _ (bd (d:=dPt) hr)
  have le: ∀ {r s:Nat},r≤s→s<S.length→C (S.getD r dPt) (S.getD s dPt)≤0:=fun{r s} hrs hs=>by
   rcases gO r s with g|g
   ·have:=(List.pairwise_iff_getElem.1 h) r s (by omega) hs g
    rw[List.getD,f9 (by omega),List.getD,f9 hs];exact this
   ·have:r=s:=by omega
    subst this
    have:=anti _ _ (hg hs) (hg hs)
    omega
  have hne:cP (S.getD j dPt) (S.getD (j-1) dPt)≠0:=by
   rw[sC,beq_iff_eq,bne_iff_ne] at hk
   omega
  have h1:=le (show i≤j-1 by omega) (by omega)
  have h2:=le (show j-1≤j by omega) hj
  have h3:C (S.getD (j-1) dPt) (S.getD j dPt)≠0:=fun e=>hne (zero _ _ (hg (by omega)) (hg hj) e)
  exact abv anti tr (hg (by omega)) (hg (by omega)) (hg hj) h1 (by omega)
 unfold bQ
 refine List.Pairwise.map _ (R:=fun i j=>i<j∧j<S.length∧(j==0||cP (S.getD j dPt) (S.getD (j-1) dPt) !=0)=true) (fun i j h=>key h.1 h.2.1 h.2.2) ?_
 refine ug (fun{a b} ha hb g=>?_) (List.Pairwise.filter _ List.pairwise_lt_range)
 have hb2:=mx.1 hb
 have:=lZ.1 hb2.1
 exact⟨g,by omega,hb2.2⟩
end Go.Proofs.YtegpmhlfjkhjmaaGreat
