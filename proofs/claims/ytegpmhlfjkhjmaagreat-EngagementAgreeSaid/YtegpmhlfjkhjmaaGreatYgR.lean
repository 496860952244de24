/-Plain:arcs and lines beside a common point:the order beside it holds up to the next common point. -/
import Derived.Test.YtegpmhlfjkhjmaaGreatYgQ
namespace Go.Proofs.YtegpmhlfjkhjmaaGreat
open Go Go.RowKit
variable {c d:Cv}{L S:List Pt}{l:Ln}{f p q t x:Pt}
theorem rg:type_of% @List.length_filter_le:=@List.length_filter_le
theorem ti:type_of% @List.Pairwise.imp_of_mem:=@List.Pairwise.imp_of_mem
theorem zY:type_of% @List.filter_append:=@List.filter_append
section
variable {c:Cv}{G:Pt→Prop}(gc: ∀p,G p→0≤p.c) (anti: ∀p q,G p→G q→c.ord q p= -c.ord p q) (tr: ∀p q r,G p→G q→G r→MD (c.ord p q) (c.ord q r) (c.ord p r)=true) (zero: ∀p q,G p→G q→c.ord p q=0→cP p q=0)
include anti tr zero
theorem G6 {x:Pt}(ox:G x): ∀ {S:List Pt},(∀y∈S,G y)→S.Pairwise (fun p q=>c.ord p q<0)→(lE c S x).Pairwise (fun p q=>c.ord p q<0)
 |[],_,_=>by rw[Bj];exact Bf _ _
 |o::l,hS,hp=>by
  have oo:=hS o (by simp)
  have hl: ∀y∈l,G y:=fun y hy=>hS y (by simp[hy])
  obtain⟨h1,h2⟩:=jU.1 hp
  by_cases h:c.ord o x<0
  ·rw[xZ h]
   refine jU.2 ⟨fun y hy=>?_,G6 ox hl h2⟩
   rcases rO hy with g|g
   ·exact h1 y g
   ·rw[g];exact h
  ·rw[xY h]
   split
   ·exact hp
   ·rename_i hn
    have ha:=anti o x oo ox
    have hz:c.ord o x≠0:=fun e=>hn (zero o x oo ox e)
    refine jU.2 ⟨fun y hy=>?_,hp⟩
    rcases dM.1 hy with g|g
    ·rw[g];omega
    ·exact C4 (tr x o y ox oo (hl y g)) (by omega) (rV (h1 y g))
include gc
theorem CX: ∀(L:List Pt) {S:List Pt},(∀y∈L,G y)→(∀y∈S,G y)→S.Pairwise (fun p q=>c.ord p q<0)→
 (L.foldl (lE c) S).Pairwise (fun p q=>c.ord p q<0)∧(∀y∈S,y∈L.foldl (lE c) S)∧ ∀y∈L,∃z∈L.foldl (lE c) S,cP z y=0
 |[],S,_,_,hp=>⟨hp,fun y hy=>hy,fun y hy=>by cases hy⟩
 |x::L,S,hL,hS,hp=>by
  have ox:=hL x (by simp)
  have hS2: ∀y∈lE c S x,G y:=fun y hy=>(rO hy).elim (hS y) (fun e=>e▸ox)
  obtain⟨h1,h2,h3⟩:=CX L (S:=lE c S x) (fun y hy=>hL y (by simp[hy])) hS2 (G6 anti tr zero ox hS hp)
  obtain⟨g1,y,g2,g3⟩:=By (c:=c) (x:=x) (gc x ox) (S:=S)
  rw[vf]
  refine⟨h1,fun z hz=>h2 z (g1 z hz),fun z hz=>?_⟩
  rcases dM.1 hz with e|e
  ·rw[e];exact⟨y,h2 y g2,g3⟩
  ·exact h3 z e
theorem P4 (vc:CvV c) (_gp: ∀p,G p→GP p) (hcp:G c.p) (hcq:G c.q) (hL: ∀y∈L,G y∧c.on y=true) (fst: ∀y,G y→c.ord c.p y≤0) (hd:d∈mN c L):
 ∃p q,G p∧G q∧d=c.ends p q∧c.ord p q<0∧ ∀x,G x→c.ord p x<0→c.ord x q<0→c.ord c.p x<0∧c.ord x c.q<0∧ ∀y∈L,cP y x≠0:=by
 have hG: ∀y∈ [c.p,c.q]++L,G y:=fun y hy=>by
  rcases ol.1 hy with h|h
  ·simp only[dM,rm,or_false] at h
   rcases h with h|h<;>rw[h]<;>assumption
  ·exact(hL y h).1
 have hT: ∀y∈ [c.p,c.q]++L,c.ord y c.q≤0:=fun y hy=>by
  rcases ol.1 hy with h|h
  ·simp only[dM,rm,or_false] at h
   rcases h with h|h
   ·rw[h];exact fst _ hcq
   ·rw[h];have:=anti c.q c.q hcq hcq;omega
  ·have h2:=(hL y h).2
   unfold Cv.on at h2
   rw[dF] at h2
   exact of_decide_eq_true h2.2
 obtain⟨hs,_,hin⟩:=CX gc anti tr zero ([c.p,c.q]++L) (S:=[]) hG (fun y hy=>by cases hy) .nil
 obtain⟨A,p,q,B,eS,e⟩:=uP hd
 have eS:([c.p,c.q]++L).foldl (lE c) []=A++p::q::B:=eS
 have hmem: ∀y∈A++p::q::B,y∈ [c.p,c.q]++L:=fun y hy=>mX (c:=c) (by show y∈([c.p,c.q]++L).foldl (lE c) [];rw[eS];exact hy)
 have op:=hG p (hmem p (by simp))
 have oq:=hG q (hmem q (by simp))
 rw[eS] at hs hin
 obtain⟨hA,hpq,hAB⟩:=xw.1 hs
 obtain⟨hp1,hq1⟩:=jU.1 hpq
 refine⟨p,q,op,oq,e,hp1 q (by simp),fun x ox r1 r2=>⟨BO (tr c.p p x hcp op ox) (fst p op) r1,C4 (tr x q c.q ox oq hcq) r2 (hT q (hmem q (by simp))),fun y0 hy0 ey0=>?_⟩⟩
 obtain⟨y,hy,ey⟩:=hin y0 (ol.2 (.inr hy0))
 have oy:=hG y (hmem y hy)
 have oy0:=(hL y0 hy0).1
 have z1:c.ord y y0=0:=uY (gc y oy) (gc y0 oy0) ey vc.g
 have z2:c.ord y0 x=0:=uY (gc y0 oy0) (gc x ox) ey0 vc.g
 have zy:c.ord y x≤0:=GU (tr y y0 x oy oy0 ox) (by omega) (by omega)
 have zx:c.ord x y≤0:=GU (tr x y0 y ox oy0 oy) (by have:=anti y0 x oy0 ox;omega) (by have:=anti y y0 oy oy0;omega)
 have apx:=anti p x op ox
 rcases ol.1 hy with g|g
 ·have l1:c.ord y p<0:=hAB y g p (by simp)
  have:=BO (tr x y p ox oy op) (by omega) l1
  omega
 ·rcases dM.1 g with g|g
  ·grind
  ·rcases dM.1 g with g|g
   ·grind
   ·have l1:c.ord q y<0:=(jU.1 hq1).1 y g
    have:=C4 (tr q y x oq oy ox) l1 (by omega)
    grind
end
def X5 (l:Ln):Bool:=(aw l.a 0 !=0)||(aw l.b 0 !=0)
theorem UI (h:(aw l.a 0 !=0)=true):X5 l=true:=by unfold X5;rw[h];rfl
theorem Tz (h:(aw l.a 0 !=0)=false):X5 l=(aw l.b 0 !=0):=by unfold X5;rw[h];rfl
theorem ZI (h:fM l≠0):X5 l=true:=by
 cases e:aw l.a 0 !=0 with
 |true=>exact UI e
 |false=>
  rw[Tz e,bne_iff_ne]
  intro e2
  have h1:=lQ.1 (show aw l.a 0=0 by simpa using e)
  have h2:=lQ.1 e2
  exact h (by unfold fM;rw[h1,h2];grind)
theorem ZB {a b c:Int}(h:T3 a b c):MD a b c=true:=by
 obtain⟨h1,h2,h3⟩:=h
 unfold MD
 grind
theorem CQ (p q:Pt):(Cv.seg l f t).ord p q=if cP f t>0 then-cP p q else cP p q:=by
 show(if decide (cP f t>0)=true then-cP p q else cP p q)=_
 by_cases h:cP f t>0
 ·grind
 grind
theorem GM (hp:GP p) (hq:GP q):(Cv.seg l f t).ord q p= -(Cv.seg l f t).ord p q:=by
 have:=fg (b9 hp) (b9 hq)
 rw[CQ,CQ];split<;>omega
theorem Qq {r:Pt}(hp:GP p) (hq:GP q) (hr:GP r):MD ((Cv.seg l f t).ord p q) ((Cv.seg l f t).ord q r) ((Cv.seg l f t).ord p r)=true:=by
 refine ZB ?_
 rw[CQ,CQ,CQ]
 split
 ·have h:=NN (b9 hr) (b9 hq) (b9 hp)
  have a1:=fg (b9 hp) (b9 hq)
  have a2:=fg (b9 hq) (b9 hr)
  have a3:=fg (b9 hp) (b9 hr)
  unfold T3 at*
  omega
 ·exact NN (b9 hp) (b9 hq) (b9 hr)
theorem oW:c.inner x=true↔c.on x=true∧cP c.p x≠0∧cP c.q x≠0:=by
 unfold Cv.inner
 grind
theorem Cu:c.on x=true↔c.supp x=true∧c.ord c.p x≤0∧c.ord x c.q≤0:=by
 unfold Cv.on
 grind
theorem QL (vc:CvV c) (hL: ∀y∈L,GP y∧c.on y=true) (hd:d∈mN c L) (gx:GP x) (hi:d.inner x=true):c.inner x=true∧ ∀y∈L,cP y x≠0:=by
 obtain⟨i1,i2,i3⟩:=oW.1 hi
 obtain⟨j1,j2,j3⟩:=Cu.1 i1
 cases c with
 |seg l f t=>
  have gf:=vc.g.2.1
  have gt:=vc.g.2.2
  have tr:=fun p q r (hp:GP p∧(Cv.seg l f t).ord f p≤0) (hq:GP q∧(Cv.seg l f t).ord f q≤0) (hr:GP r∧(Cv.seg l f t).ord f r≤0)=>Qq (l:=l) (f:=f) (t:=t) hp.1 hq.1 hr.1
  have ff:(Cv.seg l f t).ord f f≤0:=by have:=GM (l:=l) (f:=f) (t:=t) gf gf;omega
  have ft:(Cv.seg l f t).ord f t≤0:=by
   have hne:cP f t≠0:=vc.ne
   rw[CQ];split<;>omega
  obtain⟨p,q,hp,hq,rfl,hpq,key⟩:=P4 (c:=.seg l f t) (G:=fun p=>GP p∧(Cv.seg l f t).ord f p≤0) (fun p h=>b9 h.1) (fun p q h g=>GM h.1 g.1) tr (fun p q h g e=>by rw[CQ] at e;split at e<;>omega) vc (fun p h=>h.1) ⟨gf,ff⟩ ⟨gt,ft⟩
   (fun y hy=>⟨⟨(hL y hy).1,(Cu.1 (hL y hy).2).2.1⟩,(hL y hy).2⟩) (fun y h=>h.2) hd
  have j2:(Cv.seg l p q).ord p x≤0:=j2
  have j3:(Cv.seg l p q).ord x q≤0:=j3
  have i2:cP p x≠0:=i2
  have i3:cP q x≠0:=i3
  have ax:=fg (b9 hq.1) (b9 gx)
  rw[CQ] at j2 j3 hpq
  have h1:(Cv.seg l f t).ord p x<0∧(Cv.seg l f t).ord x q<0:=by
   rw[CQ,CQ]
   grind
  have fx:(Cv.seg l f t).ord f x<0:=BO (Qq gf hp.1 gx) hp.2 h1.1
  obtain⟨k1,k2,k3⟩:=key x ⟨gx,rV fx⟩ h1.1 h1.2
  have n1:=rd vc.g gf gx k1
  have n2:=rd vc.g gx gt k2
  have a2:=fg (b9 gx) (b9 gt)
  exact⟨oW.2 ⟨Cu.2 ⟨j1,rV k1,rV k2⟩,n1,by show cP t x≠0;omega⟩,k3⟩
 |arc k w f t=>
  have h0:0<k.q:=vc.pos
  have of:=(CK vc).1
  have ot:=(CK vc).2
  obtain⟨p,q,op,oq,rfl,hpq,key⟩:=P4 (c:=.arc k w f t) (G:=OnK k) (fun p h=>a7 h) (fun p q h g=>jy of h g) (fun p q r h g e=>sB of h g e) (fun p q h g e=>uC h0 of h g e) vc (fun p h=>h.1) of ot
   (fun y hy=>⟨zF (hL y hy).1 (hL y hy).2,(hL y hy).2⟩) (fun y h=>yR of h) hd
  have ox:OnK k x:=⟨gx,bH.1 j1⟩
  have b1:(Cv.arc k w p q).ord p x≤0:=j2
  have b2:(Cv.arc k w p q).ord x q≤0:=j3
  have n1:cP p x≠0:=i2
  have n2:cP q x≠0:=i3
  rw[mY] at b1 b2
  have hl2:=hpq
  rw[mY] at hl2
  have a1:=fg (a7 op) (a7 ox)
  have a2:=fg (a7 oq) (a7 ox)
  obtain⟨r1,r2⟩:=La (Vx w h0) (of.by w) (op.by w) (oq.by w) (ox.by w) hl2 b1 b2 (fun e=>n1 (by have:=(HT w (a7 ox) (a7 op)).1 e;omega)) (fun e=>n2 (by have:=(HT w (a7 ox) (a7 oq)).1 e;omega))
  rw[←mY (t:=t)] at r1 r2
  obtain⟨k1,k2,k3⟩:=key x ox r1 r2
  have m1:=rd vc.g of.1 gx k1
  have m2:=rd vc.g gx ot.1 k2
  have a3:=fg (b9 gx) (a7 ot)
  exact⟨oW.2 ⟨Cu.2 ⟨j1,rV k1,rV k2⟩,m1,by show cP t x≠0;omega⟩,k3⟩
section
variable {α:Type}{e:α}{C:α→α→Int}{G:α→Prop}(anti: ∀x y,G x→G y→C y x= -C x y) (tr: ∀x y z,G x→G y→G z→C x y≤0→C y z≤0→C x z≤0)
include anti tr
theorem SJ {x y z:α}(hx:G x) (hy:G y) (hz:G z) (h:C x y<0) (g:C y z≤0):C x z<0:=by
 have a1:=anti x z hx hz
 have a2:=anti x y hx hy
 have h1:=tr x y z hx hy hz (by omega) g
 apply fH
 intro hn
 have:=tr y z x hy hz hx g (by omega)
 omega
theorem aaz {x y z:α}(hx:G x) (hy:G y) (hz:G z) (h:C x y≤0) (g:C y z<0):C x z<0:=by
 have a1:=anti x z hx hz
 have a2:=anti y z hy hz
 have h1:=tr x y z hx hy hz h (by omega)
 apply fH
 intro hn
 have:=tr z x y hz hx hy (by omega) h
 omega
theorem JL: ∀ {A B:List α},(∀a∈A,G a)→(∀b∈B,G b)→A.Pairwise (fun a b=>C a b<0)→B.Pairwise (fun a b=>C a b<0)→(∀a∈A,∃b∈B,C a b=0)→(∀b∈B,∃a∈A,C a b=0)→A.length=B.length∧ ∀i,i<A.length→C (A.getD i e) (B.getD i e)=0
 |[],[],_,_,_,_,_,_=>⟨rfl,fun i hi=>absurd hi (Nat.not_lt_zero i)⟩
 |[],b::B,_,_,_,_,_,h=>by obtain⟨a,ha,_⟩:=h b (by simp);cases ha
 |a::A,[],_,_,_,_,h,_=>by obtain⟨b,hb,_⟩:=h a (by simp);cases hb
 |a::A,b::B,gA,gB,hA,hB,h1,h2=>by
  have ga:=gA a (by simp)
  have gb:=gB b (by simp)
  have gA2: ∀x∈A,G x:=fun x hx=>gA x (by simp[hx])
  have gB2: ∀x∈B,G x:=fun x hx=>gB x (by simp[hx])
  obtain⟨hA1,hA2⟩:=jU.1 hA
  obtain⟨hB1,hB2⟩:=jU.1 hB
  have le1:C a b≤0:=by
   obtain⟨x,hx,hx0⟩:=h2 b (by simp)
   rcases dM.1 hx with rfl|hx
   ·omega
   ·exact rV (SJ anti tr ga (gA2 x hx) gb (hA1 x hx) (by omega))
  have le2:C b a≤0:=by
   obtain⟨y,hy,hy0⟩:=h1 a (by simp)
   rcases dM.1 hy with rfl|hy
   ·rw[anti a y ga gb];omega
   ·have:=anti a y ga (gB2 y hy)
    exact rV (SJ anti tr gb (gB2 y hy) ga (hB1 y hy) (by omega))
  have z:C a b=0:=by have:=anti a b ga gb;omega
  have z2:C b a=0:=by have:=anti a b ga gb;omega
  have t1: ∀x∈A,∃y∈B,C x y=0:=fun x hx=>by
   obtain⟨y,hy,hy0⟩:=h1 x (by simp[hx])
   rcases dM.1 hy with rfl|hy
   ·have q:=SJ anti tr ga (gA2 x hx) gb (hA1 x hx) (by omega)
    omega
   ·exact⟨y,hy,hy0⟩
  have t2: ∀y∈B,∃x∈A,C x y=0:=fun y hy=>by
   obtain⟨x,hx,hx0⟩:=h2 y (by simp[hy])
   rcases dM.1 hx with rfl|hx
   ·have q:=aaz anti tr ga gb (gB2 y hy) (by omega) (hB1 y hy)
    omega
   ·exact⟨x,hx,hx0⟩
  obtain⟨l,hl⟩:=JL gA2 gB2 hA2 hB2 t1 t2
  refine⟨by simp[l],fun i hi=>?_⟩
  cases i with
  |zero=>exact z
  |succ i=>exact hl i (by simpa using hi)
end
def bt (S:List Pt) (n:Nat):List Pt:=((List.range n).filter fun i=>i==0||cP (S.getD i dPt) (S.getD (i-1) dPt) !=0).map fun i=>S.getD i dPt
def gP (c:Cv) (p:Pt):Bool:= !(cP p c.p==0)&& !(cP p c.q==0)
section
variable {S:List Pt}{n:Nat}
theorem Ga:bt S (n+1)=bt S n++(if (n==0||cP (S.getD n dPt) (S.getD (n-1) dPt) !=0)=true then[S.getD n dPt] else[]):=by
 unfold bt
 rw[List.range_succ,zY,ts]
 congr 1
 rw[List.filter_cons]
 split<;>rfl
theorem Gk (h:cP (S.getD n dPt) (S.getD (n-1) dPt)≠0):bt S (n+1)=bt S n++[S.getD n dPt]:=by
 rw[Ga,if_pos (by rw[sj];exact .inr (bne_iff_ne.2 h))]
theorem HC (h0:0<n) (h:cP (S.getD n dPt) (S.getD (n-1) dPt)=0):bt S (n+1)=bt S n:=by
 rw[Ga,if_neg,l9]
 rw[sj,beq_iff_eq,bne_iff_ne]
 omega
theorem yO:(bt S n).length≤n:=by
 unfold bt
 rw[List.length_map]
 exact mM (rg _ _) (by simp)
theorem A8 (hS: ∀i,i+1<n→cP (S.getD (i+1) dPt) (S.getD i dPt)≠0) (hn:n≤S.length):bt S n=S.take n:=by
 induction n with
 |zero=>rfl
 |succ n ih=>
  rw[r6 (d:=dPt) (by omega),←ih (fun i hi=>hS i (by omega)) (by omega)]
  by_cases h:n=0
  ·subst h;rfl
  ·exact Gk (by have:=hS (n-1) (by omega);rw[show n-1+1=n from by omega] at this;exact this)
theorem B9 (hn:n≤S.length) (h:x∈bt S n):x∈S:=by
 unfold bt at h
 obtain⟨i,hi,rfl⟩:=tV.1 h
 have:=mG.1 (ln.1 hi).1
 exact bJ (by omega)
theorem Ot (gS: ∀p∈S,0≤p.c): ∀ {n i:Nat},n≤S.length→i<n→ ∃y∈bt S n,cP y (S.getD i dPt)=0:=by
 have one: ∀i,i<S.length→ ∃j,j≤i∧(j==0||cP (S.getD j dPt) (S.getD (j-1) dPt) !=0)=true∧cP (S.getD j dPt) (S.getD i dPt)=0:=by
  intro i
  induction i with
  |zero=>exact fun h=>⟨0,cj _,rfl,kX (gS _ (bJ h))⟩
  |succ i ih=>
   intro h
   by_cases g:cP (S.getD (i+1) dPt) (S.getD i dPt)=0
   ·obtain⟨j,h1,h2,h3⟩:=ih (by omega)
    refine⟨j,by omega,h2,?_⟩
    have c0:=gS _ (bJ (d:=dPt) h)
    have c1:=gS _ (bJ (d:=dPt) (show i<S.length by omega))
    have c2:=gS _ (bJ (d:=dPt) (show j<S.length by omega))
    obtain⟨z1,z2⟩:=d8.1 g
    obtain⟨z3,z4⟩:=d8.1 h3
    refine d8.2 ⟨?_,?_⟩
    ·rw[de c0 c2,vY c0 c1 g c2,de c2 c1,z3];rfl
    ·rw[show cy (S.getD j dPt) (S.getD (i+1) dPt)= -cy (S.getD (i+1) dPt) (S.getD j dPt) from by rw[rb c2 c0,rb c0 c2,uE],AJ c0 c1 g c2,show cy (S.getD i dPt) (S.getD j dPt)= -cy (S.getD j dPt) (S.getD i dPt) from by rw[rb c1 c2,rb c2 c1,uE],z4];rfl
   ·exact⟨i+1,cj _,by rw[sj];exact .inr (bne_iff_ne.2 g),kX (gS _ (bJ h))⟩
 intro n i hn hi
 obtain⟨j,h1,h2,h3⟩:=one i (by omega)
 exact⟨S.getD j dPt,tV.2 ⟨j,ln.2 ⟨List.mem_range.2 (by omega),h2⟩,rfl⟩,h3⟩
end
theorem Nu {C:Pt→Pt→Int}{G:Pt→Prop}(anti: ∀x y,G x→G y→C y x= -C x y) (tr: ∀x y z,G x→G y→G z→C x y≤0→C y z≤0→C x z≤0) (zero: ∀x y,G x→G y→C x y=0→cP y x=0) (gS: ∀p∈S,G p) (h:S.Pairwise fun a b=>C a b≤0) {n:Nat}(hn:n≤S.length):(bt S n).Pairwise fun a b=>C a b<0:=by
 have key: ∀ {i j:Nat},i<j→j<S.length→(j==0||cP (S.getD j dPt) (S.getD (j-1) dPt) !=0)=true→C (S.getD i dPt) (S.getD j dPt)<0:=fun{i j} hij hj hk=>by
  have hg:=fun{r:Nat}(hr:r<S.length)=>gS _ (bJ (d:=dPt) hr)
  have le: ∀ {r s:Nat},r≤s→s<S.length→C (S.getD r dPt) (S.getD s dPt)≤0:=fun{r s} hrs hs=>by
   rcases kH r s with g|g
   ·have:=(List.pairwise_iff_getElem.1 h) r s (by omega) hs g
    rw[List.getD,ip (by omega),List.getD,ip hs];exact this
   ·have:r=s:=by omega
    subst this
    have:=anti _ _ (hg hs) (hg hs)
    omega
  have hne:cP (S.getD j dPt) (S.getD (j-1) dPt)≠0:=by
   rw[sj,beq_iff_eq,bne_iff_ne] at hk
   omega
  have h1:=le (show i≤j-1 by omega) (by omega)
  have h2:=le (show j-1≤j by omega) hj
  have h3:C (S.getD (j-1) dPt) (S.getD j dPt)≠0:=fun e=>hne (zero _ _ (hg (by omega)) (hg hj) e)
  exact aaz anti tr (hg (by omega)) (hg (by omega)) (hg hj) h1 (by omega)
 unfold bt
 refine List.Pairwise.map _ (R:=fun i j=>i<j∧j<S.length∧(j==0||cP (S.getD j dPt) (S.getD (j-1) dPt) !=0)=true) (fun i j h=>key h.1 h.2.1 h.2.2) ?_
 refine ti (fun{a b} ha hb g=>?_) (List.Pairwise.filter _ List.pairwise_lt_range)
 have hb2:=ln.1 hb
 have:=mG.1 hb2.1
 exact⟨g,by omega,hb2.2⟩
end Go.Proofs.YtegpmhlfjkhjmaaGreat
