/-Plain:arcs and lines beside a common point:the order beside it holds up to the next common point. -/
import Derived.Test.YtkfgimjmgfoneaaGreatDoorVfL
namespace Go.Proofs.YtkfgimjmgfoneaaGreatDoor
open Go Go.RowKit
theorem EL {k:Ci}{w:Bool}{f t p:Pt}(vc:CvV (.arc k w f t)) (hm:(Cv.arc k w f t).mono=true) (op:OnK k p):
 (Cv.arc k w f t).on p=true↔kd k p≠(if w then 3 else 1)∧cx f p≤0∧cx p t≤0:=by
 have h0:0<k.q:=vc.pos
 have hk:=vc.g.1
 have of:OnK k f:=⟨vc.g.2.1,db.1 vc.sp⟩
 have ot:OnK k t:=⟨vc.g.2.2,db.1 vc.sq⟩
 have hh:=xY hk h0 of ot hm
 have af:=fw (bq of) (bq op)
 have cf:=fF h0 op of
 have ct:=fF h0 op ot
 rw[AY (db.2 op.2)]
 show(decide ((Cv.arc k w f t).ord f p≤0)&&decide ((Cv.arc k w f t).ord p t≤0))=true↔_
 cases w with
 |false=>
  rw[yI of.1 ot.1 op.1,decide_eq_true_iff,pD]
  have h3:=jl (bq of) (bq op) (bq ot)
  obtain⟨a1,a2,a3⟩:=hh
  obtain⟨i,hi⟩:=dW (dN p f)
  obtain⟨l,hl⟩:=dW (dN p t)
  rw[a3] at h3⊢
  rw[hi] at h3 cf⊢
  rw[hl] at h3 ct⊢
  rw[Lx _ _ _ i l a1 a2 cf ct h3,if_neg (by decide)]
  constructor
  ·grind
  grind
 |true=>
  rw[Eo h0 of ot op,decide_eq_true_iff,pD]
  have h3:=jl (bq ot) (bq op) (bq of)
  obtain⟨a1,a2,a3⟩:=hh
  obtain⟨i,hi⟩:=dW (dN p t)
  obtain⟨l,hl⟩:=dW (dN p f)
  rw[a3] at h3⊢
  rw[hi] at h3 ct⊢
  rw[hl] at h3 cf⊢
  rw[Mq _ _ _ i l a1 a2 ct cf h3,if_pos rfl]
  constructor
  ·grind
  grind
section
variable {c:Cv}{G:Pt→Prop}(gc: ∀p,G p→0≤p.c) (anti: ∀p q,G p→G q→c.ord q p= -c.ord p q) (tr: ∀p q r,G p→G q→G r→E7 (c.ord p q) (c.ord q r) (c.ord p r)=true) (zero: ∀p q,G p→G q→c.ord p q=0→cP p q=0)
include anti tr zero
theorem Ao {x:Pt}(ox:G x): ∀ {S:List Pt},(∀y∈S,G y)→S.Pairwise (fun p q=>c.ord p q<0)→(d8 c S x).Pairwise (fun p q=>c.ord p q<0)
 |[],_,_=>by rw[wg];exact List.pairwise_singleton _ _
 |o::l,hS,hp=>by
  have oo:=hS o (by simp)
  have hl: ∀y∈l,G y:=fun y hy=>hS y (by simp[hy])
  obtain⟨h1,h2⟩:=qa.1 hp
  by_cases h:c.ord o x<0
  ·rw[qY h]
   refine qa.2 ⟨fun y hy=>?_,Ao ox hl h2⟩
   rcases mV hy with g|g
   ·exact h1 y g
   ·rw[g];exact h
  ·rw[rM h]
   split
   ·exact hp
   ·rename_i hn
    have ha:=anti o x oo ox
    have hz:c.ord o x≠0:=fun e=>hn (zero o x oo ox e)
    refine qa.2 ⟨fun y hy=>?_,hp⟩
    rcases ek.1 hy with g|g
    ·rw[g];omega
    ·exact xh (tr x o y ox oo (hl y g)) (by omega) (Int.le_of_lt (h1 y g))
include gc
theorem x5: ∀(L:List Pt) {S:List Pt},(∀y∈L,G y)→(∀y∈S,G y)→S.Pairwise (fun p q=>c.ord p q<0)→
 (L.foldl (d8 c) S).Pairwise (fun p q=>c.ord p q<0)∧(∀y∈S,y∈L.foldl (d8 c) S)∧ ∀y∈L,∃z∈L.foldl (d8 c) S,cP z y=0
 |[],S,_,_,hp=>⟨hp,fun y hy=>hy,fun y hy=>by cases hy⟩
 |x::L,S,hL,hS,hp=>by
  have ox:=hL x (by simp)
  have hS2: ∀y∈d8 c S x,G y:=fun y hy=>(mV hy).elim (hS y) (fun e=>e▸ox)
  obtain⟨h1,h2,h3⟩:=x5 L (S:=d8 c S x) (fun y hy=>hL y (by simp[hy])) hS2 (Ao anti tr zero ox hS hp)
  obtain⟨g1,y,g2,g3⟩:=wj (c:=c) (x:=x) (gc x ox) (S:=S)
  rw[qA]
  refine⟨h1,fun z hz=>h2 z (g1 z hz),fun z hz=>?_⟩
  rcases ek.1 hz with e|e
  ·rw[e];exact⟨y,h2 y g2,g3⟩
  ·exact h3 z e
theorem I0 (vc:CvV c) (_gp: ∀p,G p→GP p) (hcp:G c.p) (hcq:G c.q) {L:List Pt}(hL: ∀y∈L,G y∧c.on y=true) (fst: ∀y,G y→c.ord c.p y≤0) {d:Cv}(hd:d∈dM c L):
 ∃p q,G p∧G q∧d=c.ends p q∧c.ord p q<0∧ ∀x,G x→c.ord p x<0→c.ord x q<0→c.ord c.p x<0∧c.ord x c.q<0∧ ∀y∈L,cP y x≠0:=by
 have hG: ∀y∈ [c.p,c.q]++L,G y:=fun y hy=>by
  rcases gn.1 hy with h|h
  ·simp only[ek,tU,or_false] at h
   rcases h with h|h<;>rw[h]<;>assumption
  ·exact(hL y h).1
 have hT: ∀y∈ [c.p,c.q]++L,c.ord y c.q≤0:=fun y hy=>by
  rcases gn.1 hy with h|h
  ·simp only[ek,tU,or_false] at h
   rcases h with h|h
   ·rw[h];exact fst _ hcq
   ·rw[h];have:=anti c.q c.q hcq hcq;omega
  ·have h2:=(hL y h).2
   unfold Cv.on at h2
   rw[dU] at h2
   exact of_decide_eq_true h2.2
 obtain⟨hs,_,hin⟩:=x5 gc anti tr zero ([c.p,c.q]++L) (S:=[]) hG (fun y hy=>by cases hy) .nil
 obtain⟨A,p,q,B,eS,e⟩:=pm hd
 have eS:([c.p,c.q]++L).foldl (d8 c) []=A++p::q::B:=eS
 have hmem: ∀y∈A++p::q::B,y∈ [c.p,c.q]++L:=fun y hy=>jG (c:=c) (by show y∈([c.p,c.q]++L).foldl (d8 c) [];rw[eS];exact hy)
 have op:=hG p (hmem p (by simp))
 have oq:=hG q (hmem q (by simp))
 rw[eS] at hs hin
 obtain⟨hA,hpq,hAB⟩:=List.pairwise_append.1 hs
 obtain⟨hp1,hq1⟩:=qa.1 hpq
 refine⟨p,q,op,oq,e,hp1 q (by simp),fun x ox r1 r2=>⟨yl (tr c.p p x hcp op ox) (fst p op) r1,xh (tr x q c.q ox oq hcq) r2 (hT q (hmem q (by simp))),fun y0 hy0 ey0=>?_⟩⟩
 obtain⟨y,hy,ey⟩:=hin y0 (gn.2 (.inr hy0))
 have oy:=hG y (hmem y hy)
 have oy0:=(hL y0 hy0).1
 have z1:c.ord y y0=0:=ry (gc y oy) (gc y0 oy0) ey vc.g
 have z2:c.ord y0 x=0:=ry (gc y0 oy0) (gc x ox) ey0 vc.g
 have zy:c.ord y x≤0:=Nh (tr y y0 x oy oy0 ox) (by omega) (by omega)
 have zx:c.ord x y≤0:=Nh (tr x y0 y ox oy0 oy) (by have:=anti y0 x oy0 ox;omega) (by have:=anti y y0 oy oy0;omega)
 have apx:=anti p x op ox
 rcases gn.1 hy with g|g
 ·have l1:c.ord y p<0:=hAB y g p (by simp)
  have:=yl (tr x y p ox oy op) (by omega) l1
  omega
 ·rcases ek.1 g with g|g
  ·grind
  ·rcases ek.1 g with g|g
   ·grind
   ·have l1:c.ord q y<0:=(qa.1 hq1).1 y g
    have:=xh (tr q y x oq oy ox) l1 (by omega)
    grind
end
end Go.Proofs.YtkfgimjmgfoneaaGreatDoor
