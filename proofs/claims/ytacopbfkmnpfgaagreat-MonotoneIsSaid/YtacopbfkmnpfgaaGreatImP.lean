/-Points in the order of a curve:the reference. -/
import Derived.Test.YtacopbfkmnpfgaaGreatImO
namespace Go.Proofs.YtacopbfkmnpfgaaGreat
open Go Go.RowKit
theorem Fy {c:Cv}(hc:c.good) {p q:Pt}(hp:GP p) (hq:GP q):Ok Tryz.prog 77 [.a (bc c),.a (ay p),.a (ay q)] [.c (.i .i64 (c.ord p q))]:=by
 cases c with
 |seg l f t=>exact Bt hc.1 hc.2.1 hc.2.2 hp hq
 |arc k w f t=>exact Ba hc.1 hc.2.1 hc.2.2 hp hq
theorem yu {c:Cv}(hc:c.good) {p:Pt}(hp:GP p):Ok Tryz.prog 75 [.a (bc c),.a (ay p)] [.c (.b (c.on p))]:=by
 cases c with
 |seg l f t=>exact Qs hc.1 hc.2.1 hc.2.2 hp
 |arc k w f t=>exact M8 hc.1 hc.2.1 hc.2.2 hp
theorem CG {c:Cv}(hc:c.good) {L:List Pt}(hL: ∀p∈L,GP p) (lL:L.length≤100):Ok Tryz.prog 76 [.a (bc c),.c (.s ((L).length) (bg ay (L)))] [.c (.s ((bL c L).length) (bg ay (bL c L)))]:=by
 refine Ok.fn Tryz.func76 64 [.tmp 4] rfl<|aa<|ab<|ag<|aa<|ab<|ag<|aa<|aa<|ab<|ag<|aX<|cZ (ι:={n:Nat // n≤L.length}) (fun i=>⟨64,[(1,.v (.c (.s ((L).length) (bg ay (L))))),(2,.p 2 0),(5,.v (.c (.s ((bL c (L.take i.1)).length) (bg ay (bL c (L.take i.1)))))),(6,.v (.c (.i .i64 (i.1:Int))))],[(2,39,bc c)]⟩) (fun i=>L.length-i.1) ⟨0,Nat.zero_le _⟩ (aR ⟨rfl,rfl,rfl,rfl,trivial⟩ ⟨rfl,trivial⟩ rfl) ?_
 rintro⟨n,h2⟩
 replace h2:n≤L.length:=h2
 show Dw _ _ ⟨64,[(1,.v (.c (.s ((L).length) (bg ay (L))))),(2,.p 2 0),(5,.v (.c (.s ((bL c (L.take n)).length) (bg ay (bL c (L.take n)))))),(6,.v (.c (.i .i64 (n:Int))))],[(2,39,bc c)]⟩ _
 refine aa<|aa<|ab<|ag ?_
 refine au rfl (fun hc1=>?_) (fun hc1=>?_)
 ·have g1:n<L.length:=by have:=of_decide_eq_true hc1;omega
  obtain⟨O,eO⟩: ∃O,bL c (L.take n)=O:=⟨_,rfl⟩
  have hO: ∀p∈O,GP p:=fun p hp=>hL p (List.mem_of_mem_take (lq (by rw[eO];exact hp)))
  have lO:O.length≤100:=by
   have:=qM (c:=c) (l:=L.take n)
   rw[eO,List.length_take] at this;omega
  refine Dw.weak (σ':=⟨64,[(1,.v (.c (.s ((L).length) (bg ay (L))))),(2,.p 2 0),(5,.v (.c (.s ((O).length) (bg ay (O))))),(6,.v (.c (.i .i64 (n:Int))))],[(2,39,bc c)]⟩) (aR ⟨rfl,rfl,by rw[←eO];rfl,rfl,trivial⟩ ⟨rfl,trivial⟩ rfl) ?_
  refine ap<|aa<|aX<|aa<|ab<|ag<|aa<|aX<|cZ (ι:={j:Nat // j≤O.length∧ ∀r,r<j→(c).ord (O.getD r dPt) (L.getD n dPt)<0}) (fun i=>⟨64,[(1,.v (.c (.s ((L).length) (bg ay (L))))),(2,.p 2 0),(5,.v (.c (.s ((O).length) (bg ay (O))))),(6,.v (.c (.i .i64 (n:Int)))),(7,.v (.c (.i .i64 (i.1:Int))))],[(2,39,bc c)]⟩) (fun i=>O.length-i.1) ⟨0,Nat.zero_le _,fun r h=>absurd h (Nat.not_lt_zero r)⟩ (aR ⟨rfl,rfl,rfl,rfl,rfl,trivial⟩ ⟨rfl,trivial⟩ rfl) ?_
  rintro⟨j,h3,h4⟩
  replace h3:j≤O.length:=h3
  replace h4: ∀r,r<j→(c).ord (O.getD r dPt) (L.getD n dPt)<0:=h4
  show Dw _ _ ⟨64,[(1,.v (.c (.s ((L).length) (bg ay (L))))),(2,.p 2 0),(5,.v (.c (.s ((O).length) (bg ay (O))))),(6,.v (.c (.i .i64 (n:Int)))),(7,.v (.c (.i .i64 (j:Int))))],[(2,39,bc c)]⟩ _
  refine aa<|aa<|aM 17 rfl rfl<|an 4 ?_
  refine gJ (bO rfl) (fun c2 hb2=>?_)
  cases c2
  ·have g2:O.length≤j:=by have:=of_decide_eq_false hb2;omega
   have hs:gy c (L.getD n dPt) O=j:=vT h3 h4 (.inl (by omega))
   have g4: ¬(j<O.length∧cP (O.getD j dPt) (L.getD n dPt)=0):=fun h=>by omega
   refine bJ<|ar<|aq<|ba rfl<|cq<|aa<|aa<|aM 15 rfl rfl<|an 3<|ai (dh (c:=false) (o6 rfl) (decide_eq_false (by omega))) ?_
   refine bJ<|ar<|aq<|ba rfl<|ap ?_
   rcases Nat.eq_zero_or_pos j with hj0|hj0
   ·refine vR 15 [10,14] bd (by kernel_rfl) rfl rfl<|et rfl (mr iF rfl) rfl ?_
    refine et rfl (bO rfl) rfl<|et rfl (bO rfl) rfl<|et rfl (oP (n':=0) (us':=[]) (iY (j:=(j:Int)) (n:=(O).length) (xs:=bg ay (O)) (us:=bg ay (O.take j)) iB rfl rfl (by omega) (aY aN _) (nW aN _ _) rfl) (by omega) (by rw[hj0];rfl)) rfl ?_
    refine et rfl (oE iF rfl rfl rfl) rfl ?_
    refine et rfl (bO rfl) rfl<|et rfl (bO rfl) rfl<|et rfl (a8 (us:=ay (L.getD n dPt)++bg ay (L.drop (n+1))) iB rfl rfl (by omega) (aY aN _) (cD aN (b8 g1)) rfl) rfl ?_
    refine et rfl (bQ (us:=ay (L.getD n dPt)) ca rfl rfl rfl rfl) rfl ?_
    refine et rfl (df (n:=1) (us:=ay (L.getD n dPt)) iF rfl rfl rfl (by decide) (by decide) rfl) rfl ?_
    refine uu rfl<|et rfl (bO rfl) rfl<|et rfl (bO rfl) rfl<|et rfl (kj (j:=(j:Int)) (n:=(O).length) (xs:=bg ay (O)) (n':=O.length-j) (us:=bg ay (O.drop j)) iB rfl rfl (by omega) (aY aN _) (by omega) (lD aN _ _) rfl) rfl ?_
    refine uu rfl ?_
    refine yS (x0:=.tmp 52) (t1:=58) (y1:=.tmp 57) (t2:=62) (y2:=.tmp 61) (N':=O.length+1) (zs':=bg ay (O.take j++(L.getD n dPt)::O.drop j)) iF (by decide) rfl rfl rfl rfl rfl rfl (rfl) (by rw[aY aN,List.length_drop]) (by kernel_rfl) (by kernel_rfl) (by decide) rfl rfl rfl rfl (by omega) (by rw[pP,hj0];rfl) (by omega) (pq (by omega)) (fun cg3 rg3 hga3 hgb3 hgc3=>?_)
    refine ag<|f5 (t:=5) (m:=20) (us:=bg ay (O.take j++(L.getD n dPt)::O.drop j)) rfl rfl (sU (n:=O.length+1) (by rw[aY aN,gM (by omega)]) (by assumption) (by omega)) (by omega) (by assumption) (oQ (by rw[aY aN,gM (by omega)]))<|ab<|al 1<|aj (aG (r:=((n+1:Nat):Int)) rfl rfl ((aW (by omega) (by omega)).trans (congrArg some (by omega))) rfl) ?_
    refine ag ?_
    exact⟨⟨n+1,g1⟩,aR ⟨rfl,rfl,by rw[kS g1,eO,pJ hs g4,gM h3];rfl,rfl,trivial⟩ ⟨rfl,trivial⟩ rfl,by show L.length-(n+1)<L.length-n;omega⟩
   ·refine vR 15 [4,10,14] bd (by kernel_rfl) rfl rfl<|et rfl (mr iF rfl) rfl ?_
    refine et rfl (bO rfl) rfl<|et rfl (bO rfl) rfl<|et rfl ((iY (j:=(j:Int)) (n:=(O).length) (xs:=bg ay (O)) (us:=bg ay (O.take j)) iB rfl rfl (by omega) (aY aN _) (nW aN _ _) rfl)) rfl ?_
    refine uu rfl<|et rfl (bO rfl) rfl<|et rfl (bO rfl) rfl<|et rfl (a8 (us:=ay (L.getD n dPt)++bg ay (L.drop (n+1))) iB rfl rfl (by omega) (aY aN _) (cD aN (b8 g1)) rfl) rfl ?_
    refine et rfl (bQ (us:=ay (L.getD n dPt)) ca rfl rfl rfl rfl) rfl ?_
    refine et rfl (df (n:=1) (us:=ay (L.getD n dPt)) iF rfl rfl rfl (by decide) (by decide) rfl) rfl ?_
    refine uu rfl<|et rfl (bO rfl) rfl<|et rfl (bO rfl) rfl<|et rfl (kj (j:=(j:Int)) (n:=(O).length) (xs:=bg ay (O)) (n':=O.length-j) (us:=bg ay (O.drop j)) iB rfl rfl (by omega) (aY aN _) (by omega) (lD aN _ _) rfl) rfl ?_
    refine uu rfl ?_
    refine yn (x0:=.tmp 48) (t1:=52) (y1:=.tmp 51) (t2:=58) (y2:=.tmp 57) (t3:=62) (y3:=.tmp 61) (N':=O.length+1) (zs':=bg ay (O.take j++(L.getD n dPt)::O.drop j)) iF (by decide) rfl rfl rfl rfl rfl rfl rfl rfl (by rw[aY aN,List.length_take,Nat.min_eq_left h3];rfl) (rfl) (by rw[aY aN,List.length_drop]) (by kernel_rfl) (by kernel_rfl) (hj0) rfl rfl rfl rfl rfl rfl (by omega) (pP.symm) (by omega) (pq (by omega)) (fun cg4 rg4 hga4 hgb4 hgc4=>?_)
    refine ag<|f5 (t:=5) (m:=20) (us:=bg ay (O.take j++(L.getD n dPt)::O.drop j)) rfl rfl (sU (n:=O.length+1) (by rw[aY aN,gM (by omega)]) (by assumption) (by omega)) (by omega) (by assumption) (oQ (by rw[aY aN,gM (by omega)]))<|ab<|al 1<|aj (aG (r:=((n+1:Nat):Int)) rfl rfl ((aW (by omega) (by omega)).trans (congrArg some (by omega))) rfl) ?_
    refine ag ?_
    exact⟨⟨n+1,g1⟩,aR ⟨rfl,rfl,by rw[kS g1,eO,pJ hs g4,gM h3];rfl,rfl,trivial⟩ ⟨rfl,trivial⟩ rfl,by show L.length-(n+1)<L.length-n;omega⟩
  ·have g2:j<O.length:=by have:=of_decide_eq_true hb2;omega
   refine ai (bn (us:=bc c) dF rfl rfl (cW _) (aE _) rfl) ?_
   refine an 2<|ai (a8 (us:=ay (O.getD j dPt)++bg ay (O.drop (j+1))) iB rfl rfl (by omega) (aY aN _) (cD aN (b8 g2)) rfl) ?_
   refine ai (bQ (us:=ay (O.getD j dPt)) ca rfl rfl rfl rfl) ?_
   refine an 2<|ai (a8 (us:=ay (L.getD n dPt)++bg ay (L.drop (n+1))) iB rfl rfl (by omega) (aY aN _) (cD aN (b8 g1)) rfl) ?_
   refine ai (bQ (us:=ay (L.getD n dPt)) ca rfl rfl rfl rfl) ?_
   refine ai (ak rfl (Fy hc (GP.getD hO j) (GP.getD hL n)))<|bJ<|ar<|aq ?_
   refine au rfl (fun hc5=>?_) (fun hc5=>?_)
   ·have g3:(c).ord (O.getD j dPt) (L.getD n dPt)<0:=of_decide_eq_true hc5
    refine ap<|aX<|ab<|al 1<|aj (aG (r:=((j+1:Nat):Int)) rfl rfl ((aW (by omega) (by omega)).trans (congrArg some (by omega))) rfl) ?_
    refine ag ?_
    exact⟨⟨j+1,g2,fun r hr=>(Nat.lt_succ_iff_lt_or_eq.1 hr).elim (h4 r) (fun e=>by rw[e];exact g3)⟩,aR ⟨rfl,rfl,rfl,rfl,rfl,trivial⟩ ⟨rfl,trivial⟩ rfl,by show O.length-(j+1)<O.length-j;omega⟩
   ·have g3: ¬(c).ord (O.getD j dPt) (L.getD n dPt)<0:=of_decide_eq_false hc5
    have hs:gy c (L.getD n dPt) O=j:=vT h3 h4 (.inr g3)
    refine cq<|aa<|aa<|aM 15 rfl rfl<|an 3<|ai (dh (c:=true) (o6 rfl) (decide_eq_true (by omega))) ?_
    refine an 3<|ai (a8 (us:=ay (O.getD j dPt)++bg ay (O.drop (j+1))) iB rfl rfl (by omega) (aY aN _) (cD aN (b8 g2)) rfl) ?_
    refine ai (bQ (us:=ay (O.getD j dPt)) ca rfl rfl rfl rfl) ?_
    refine an 2<|ai (a8 (us:=ay (L.getD n dPt)++bg ay (L.drop (n+1))) iB rfl rfl (by omega) (aY aN _) (cD aN (b8 g1)) rfl) ?_
    refine ai (bQ (us:=ay (L.getD n dPt)) ca rfl rfl rfl rfl) ?_
    refine ai (ak rfl (Gr (GP.getD hO j) (GP.getD hL n)))<|bJ<|ar<|aq ?_
    refine au rfl (fun hc6=>?_) (fun hc6=>?_)
    ·have g4:cP (O.getD j dPt) (L.getD n dPt)=0:=by simpa using hc6
     refine cq<|ab<|al 1<|aj (aG (r:=((n+1:Nat):Int)) rfl rfl ((aW (by omega) (by omega)).trans (congrArg some (by omega))) rfl) ?_
     refine ag ?_
     exact⟨⟨n+1,g1⟩,aR ⟨rfl,rfl,by rw[kS g1,eO,Kw hs g2 g4];rfl,rfl,trivial⟩ ⟨rfl,trivial⟩ rfl,by show L.length-(n+1)<L.length-n;omega⟩
    ·have g5:cP (O.getD j dPt) (L.getD n dPt)≠0:=by simpa using hc6
     have g4: ¬(j<O.length∧cP (O.getD j dPt) (L.getD n dPt)=0):=fun h=>g5 h.2
     refine ap ?_
     rcases Nat.eq_zero_or_pos j with hj0|hj0
     ·refine vR 15 [10,14] bd (by kernel_rfl) rfl rfl<|et rfl (mr iF rfl) rfl ?_
      refine et rfl (bO rfl) rfl<|et rfl (bO rfl) rfl<|et rfl (oP (n':=0) (us':=[]) (iY (j:=(j:Int)) (n:=(O).length) (xs:=bg ay (O)) (us:=bg ay (O.take j)) iB rfl rfl (by omega) (aY aN _) (nW aN _ _) rfl) (by omega) (by rw[hj0];rfl)) rfl ?_
      refine et rfl (oE iF rfl rfl rfl) rfl ?_
      refine et rfl (bO rfl) rfl<|et rfl (bO rfl) rfl<|et rfl (a8 (us:=ay (L.getD n dPt)++bg ay (L.drop (n+1))) iB rfl rfl (by omega) (aY aN _) (cD aN (b8 g1)) rfl) rfl ?_
      refine et rfl (bQ (us:=ay (L.getD n dPt)) ca rfl rfl rfl rfl) rfl ?_
      refine et rfl (df (n:=1) (us:=ay (L.getD n dPt)) iF rfl rfl rfl (by decide) (by decide) rfl) rfl ?_
      refine uu rfl<|et rfl (bO rfl) rfl<|et rfl (bO rfl) rfl<|et rfl (kj (j:=(j:Int)) (n:=(O).length) (xs:=bg ay (O)) (n':=O.length-j) (us:=bg ay (O.drop j)) iB rfl rfl (by omega) (aY aN _) (by omega) (lD aN _ _) rfl) rfl ?_
      refine uu rfl ?_
      refine yS (x0:=.tmp 52) (t1:=58) (y1:=.tmp 57) (t2:=62) (y2:=.tmp 61) (N':=O.length+1) (zs':=bg ay (O.take j++(L.getD n dPt)::O.drop j)) iF (by decide) rfl rfl rfl rfl rfl rfl (rfl) (by rw[aY aN,List.length_drop]) (by kernel_rfl) (by kernel_rfl) (by decide) rfl rfl rfl rfl (by omega) (by rw[pP,hj0];rfl) (by omega) (pq (by omega)) (fun cg7 rg7 hga7 hgb7 hgc7=>?_)
      refine ag<|f5 (t:=5) (m:=20) (us:=bg ay (O.take j++(L.getD n dPt)::O.drop j)) rfl rfl (sU (n:=O.length+1) (by rw[aY aN,gM (by omega)]) (by assumption) (by omega)) (by omega) (by assumption) (oQ (by rw[aY aN,gM (by omega)]))<|ab<|al 1<|aj (aG (r:=((n+1:Nat):Int)) rfl rfl ((aW (by omega) (by omega)).trans (congrArg some (by omega))) rfl) ?_
      refine ag ?_
      exact⟨⟨n+1,g1⟩,aR ⟨rfl,rfl,by rw[kS g1,eO,pJ hs g4,gM h3];rfl,rfl,trivial⟩ ⟨rfl,trivial⟩ rfl,by show L.length-(n+1)<L.length-n;omega⟩
     ·refine vR 15 [4,10,14] bd (by kernel_rfl) rfl rfl<|et rfl (mr iF rfl) rfl ?_
      refine et rfl (bO rfl) rfl<|et rfl (bO rfl) rfl<|et rfl ((iY (j:=(j:Int)) (n:=(O).length) (xs:=bg ay (O)) (us:=bg ay (O.take j)) iB rfl rfl (by omega) (aY aN _) (nW aN _ _) rfl)) rfl ?_
      refine uu rfl<|et rfl (bO rfl) rfl<|et rfl (bO rfl) rfl<|et rfl (a8 (us:=ay (L.getD n dPt)++bg ay (L.drop (n+1))) iB rfl rfl (by omega) (aY aN _) (cD aN (b8 g1)) rfl) rfl ?_
      refine et rfl (bQ (us:=ay (L.getD n dPt)) ca rfl rfl rfl rfl) rfl ?_
      refine et rfl (df (n:=1) (us:=ay (L.getD n dPt)) iF rfl rfl rfl (by decide) (by decide) rfl) rfl ?_
      refine uu rfl<|et rfl (bO rfl) rfl<|et rfl (bO rfl) rfl<|et rfl (kj (j:=(j:Int)) (n:=(O).length) (xs:=bg ay (O)) (n':=O.length-j) (us:=bg ay (O.drop j)) iB rfl rfl (by omega) (aY aN _) (by omega) (lD aN _ _) rfl) rfl ?_
      refine uu rfl ?_
      refine yn (x0:=.tmp 48) (t1:=52) (y1:=.tmp 51) (t2:=58) (y2:=.tmp 57) (t3:=62) (y3:=.tmp 61) (N':=O.length+1) (zs':=bg ay (O.take j++(L.getD n dPt)::O.drop j)) iF (by decide) rfl rfl rfl rfl rfl rfl rfl rfl (by rw[aY aN,List.length_take,Nat.min_eq_left h3];rfl) (rfl) (by rw[aY aN,List.length_drop]) (by kernel_rfl) (by kernel_rfl) (hj0) rfl rfl rfl rfl rfl rfl (by omega) (pP.symm) (by omega) (pq (by omega)) (fun cg8 rg8 hga8 hgb8 hgc8=>?_)
      refine ag<|f5 (t:=5) (m:=20) (us:=bg ay (O.take j++(L.getD n dPt)::O.drop j)) rfl rfl (sU (n:=O.length+1) (by rw[aY aN,gM (by omega)]) (by assumption) (by omega)) (by omega) (by assumption) (oQ (by rw[aY aN,gM (by omega)]))<|ab<|al 1<|aj (aG (r:=((n+1:Nat):Int)) rfl rfl ((aW (by omega) (by omega)).trans (congrArg some (by omega))) rfl) ?_
      refine ag ?_
      exact⟨⟨n+1,g1⟩,aR ⟨rfl,rfl,by rw[kS g1,eO,pJ hs g4,gM h3];rfl,rfl,trivial⟩ ⟨rfl,trivial⟩ rfl,by show L.length-(n+1)<L.length-n;omega⟩
 ·have hi:L.length≤n:=by have:=of_decide_eq_false hc1;omega
  refine cq<|aa<|ab<|ag<|am ?_
  rw[←El (c:=c) (l:=L) hi]
  exact ao (aC ae)
theorem F6 {c:Cv}(hc:c.good) {L:List Pt}(hL: ∀p∈L,GP p) (lL:L.length≤90) (hon: ∀p∈L,(c).on p=true) (h2S:2≤(bL c ([c.p,c.q]++L)).length):Ok Tryz.prog 23 [.a (bc c),.c (.s ((L).length) (bg ay (L)))] [.c (.s ((oY c L).length) (bg bc (oY c L))),.c (.i .i64 0)]:=by
 have gp_:=mR hc
 have gq_:=oS hc
 have hL2: ∀p∈ [c.p,c.q]++L,GP p:=fun p hp=>by
  rcases List.mem_append.1 hp with h|h
  ·simp only[List.mem_cons,List.not_mem_nil,or_false] at h
   rcases h with h|h<;>subst h<;>assumption
  ·exact hL p h
 have lS:(bL c ([c.p,c.q]++L)).length≤92:=by
  have:=qM (c:=c) (l:=[c.p,c.q]++L)
  rw[List.length_append] at this
  exact Nat.le_trans this (by show 2+L.length≤92;omega)
 refine Ok.fn Tryz.func23 56 [.tmp 4,.tmp 5] rfl<|aa<|ab<|ag<|aa<|aa<|ab<|ag<|aX<|cZ (ι:={n:Nat // n≤L.length}) (fun i=>⟨56,[(1,.v (.c (.s ((L).length) (bg ay (L))))),(2,.p 2 0),(6,.v (.c (.i .i64 (i.1:Int))))],[(2,39,bc c)]⟩) (fun i=>L.length-i.1) ⟨0,Nat.zero_le _⟩ (aR ⟨rfl,rfl,rfl,trivial⟩ ⟨rfl,trivial⟩ rfl) ?_
 rintro⟨n,h2⟩
 replace h2:n≤L.length:=h2
 show Dw _ _ ⟨56,[(1,.v (.c (.s ((L).length) (bg ay (L))))),(2,.p 2 0),(6,.v (.c (.i .i64 (n:Int))))],[(2,39,bc c)]⟩ _
 refine aa<|aa<|ab<|ag ?_
 refine au rfl (fun hc1=>?_) (fun hc1=>?_)
 ·have g1:n<L.length:=by have:=of_decide_eq_true hc1;omega
  refine ap<|aa<|aX<|aa<|aM 7 rfl rfl<|ai (bn (us:=bc c) dF rfl rfl (cW _) (aE _) rfl) ?_
  refine an 2<|ai (a8 (us:=ay (L.getD n dPt)++bg ay (L.drop (n+1))) iB rfl rfl (by omega) (aY aN _) (cD aN (b8 g1)) rfl) ?_
  refine ai (bQ (us:=ay (L.getD n dPt)) ca rfl rfl rfl rfl) ?_
  refine ai (ak rfl (Bc (yu hc (GP.getD hL n)) (hon _ (jP g1))))<|bJ<|ar<|aq<|ba rfl<|ap<|ab<|al 1<|aj (aG (r:=((n+1:Nat):Int)) rfl rfl ((aW (by omega) (by omega)).trans (congrArg some (by omega))) rfl) ?_
  refine ag ?_
  exact⟨⟨n+1,g1⟩,aR ⟨rfl,rfl,rfl,trivial⟩ ⟨rfl,trivial⟩ rfl,by show L.length-(n+1)<L.length-n;omega⟩
 ·refine cq<|aa<|aM 10 rfl rfl<|ai (bn (us:=bc c) dF rfl rfl (cW _) (aE _) rfl) ?_
  refine an 1<|ai (bn (us:=ay c.p) ca rfl rfl (t4 _) rfl rfl) ?_
  refine an 1<|ai (bn (us:=ay c.q) ca rfl rfl (s9 _) rfl rfl) ?_
  refine ai (By (us:=ay c.p++ay c.q) iF rfl rfl rfl (by decide) (by decide) rfl) ?_
  refine an 1<|ai (oP (n':=([c.p,c.q]++L).length) (us':=bg ay ([c.p,c.q]++L)) (wt iF rfl rfl rfl (aY aN _) (by decide) (by decide) (by omega) (pq (by omega)) rfl) (by rw[List.length_append];rfl) (by rw[i7];rfl)) ?_
  refine ai (ak rfl (CG hc hL2 (by rw[List.length_append];show 2+L.length≤100;omega)))<|bJ<|ar<|aq<|aa<|ab<|aj (mm rfl) ?_
  refine aq<|aa<|aa<|ab<|ag<|aX ?_
  refine GM (ι:={x9:Nat×Nat×List CellD // x9.1+2≤(bL c ([c.p,c.q]++L)).length∧x9.1+1≤x9.2.1∧x9.2.1≤maxLen∧x9.2.2.length=(x9.2.1-(x9.1+1))*66}) (fun i=>⟨56,[(2,.p 2 0),(7,.v (.c (.s (((bL c ([c.p,c.q]++L))).length) (bg ay ((bL c ([c.p,c.q]++L))))))),(8,.o 54 (i.1.1+1) i.1.2.1),(9,.v (.c (.i .i64 (((i.1.1+2:Nat):Int)))))],[(2,39,bc c),(54,39,bg bc (ja c ((bL c ([c.p,c.q]++L)).take (i.1.1+2)))++i.1.2.2)]⟩) (fun i=>(bL c ([c.p,c.q]++L)).length-i.1.1) ((bL c ([c.p,c.q]++L)).length+1) ?_ ?_
  ·refine aa<|aa<|ab<|al 3<|aj (dh (c:=true) (o6 rfl) (decide_eq_true (by omega))) ?_
   refine aq<|bo rfl<|ap<|aa<|aX<|aa<|ab<|aj (bn (us:=bc c) dF rfl rfl (cW _) (aE _) rfl) ?_
   refine aw (ah gz rfl) rfl<|dm (du dF rfl rfl rfl (aE _) rfl rfl) ?_
   refine aq<|aa<|dr 11 [10,999999] bd (by kernel_rfl) rfl rfl<|an 2<|ai (aG (r:=0) rfl rfl rfl rfl) ?_
   refine ai (a8 (us:=ay ((bL c ([c.p,c.q]++L)).getD 0 dPt)++bg ay ((bL c ([c.p,c.q]++L)).drop (0+1))) iB rfl rfl (by omega) (aY aN _) (cD aN (b8 (by omega))) rfl) ?_
   refine ai (bQ (us:=ay ((((bL c ([c.p,c.q]++L)).getD 0 dPt)))) ca rfl rfl rfl rfl) ?_
   refine an 2<|ai (a8 (us:=ay ((bL c ([c.p,c.q]++L)).getD 1 dPt)++bg ay ((bL c ([c.p,c.q]++L)).drop (1+1))) iB rfl rfl (by omega) (aY aN _) (cD aN (b8 (by omega))) rfl) ?_
   refine ai (bQ (us:=ay ((((bL c ([c.p,c.q]++L)).getD 1 dPt)))) ca rfl rfl rfl rfl) ?_
   refine an 1<|gV (bm (us:=bc (c.setp ((((bL c ([c.p,c.q]++L)).getD 0 dPt))))) ca rfl rfl rfl rfl (by rw[aE];decide) (vE _ _) rfl) rfl rfl rfl rfl ?_
   refine aV<|bi<|al 1<|dm (bm (us:=bc (c.ends ((((bL c ([c.p,c.q]++L)).getD 0 dPt))) ((((bL c ([c.p,c.q]++L)).getD 1 dPt))))) ca rfl rfl rfl rfl (by rw[aE];decide) (vC _ _ _) rfl) ?_
   refine aq<|ab<|al 1<|aj (bn (us:=bc (c.ends ((((bL c ([c.p,c.q]++L)).getD 0 dPt))) ((((bL c ([c.p,c.q]++L)).getD 1 dPt))))) dF rfl rfl (cW _) (aE _) rfl) ?_
   refine aj (df (n:=1) (us:=bc (c.ends ((((bL c ([c.p,c.q]++L)).getD 0 dPt))) ((((bL c ([c.p,c.q]++L)).getD 1 dPt))))) xR rfl (MH rfl (aE _)) (pO (aE _)) (by decide) (by decide) rfl) ?_
   refine t5 (ys:=bc (c.ends ((((bL c ([c.p,c.q]++L)).getD 0 dPt))) ((((bL c ([c.p,c.q]++L)).getD 1 dPt))))) xR rfl rfl (pO (aE _)) (by decide) (by decide) (by decide) rfl rfl (fun cg2 rg2 hga2 hgb2 hgc2=>?_)
   refine ag<|ab<|al 1<|aj (aG (r:=2) rfl rfl rfl rfl) ?_
   refine ag ?_
   exact⟨⟨⟨0,cg2,rg2⟩,by omega,by omega,hgb2,hgc2⟩,aR ⟨rfl,rfl,rfl,rfl,trivial⟩ ⟨rfl,by rw[qY (i:=0) _ (by omega),DM,List.nil_append,qa];rfl,trivial⟩ rfl,by show(bL c ([c.p,c.q]++L)).length-0<(bL c ([c.p,c.q]++L)).length+1;omega⟩
  ·rintro⟨⟨n,cp,rs⟩,h3,h4,h5,h6⟩
   dsimp only at h3 h4 h5 h6
   show Dw _ _ ⟨56,[(2,.p 2 0),(7,.v (.c (.s (((bL c ([c.p,c.q]++L))).length) (bg ay ((bL c ([c.p,c.q]++L))))))),(8,.o 54 (n+1) cp),(9,.v (.c (.i .i64 (((n+2:Nat):Int)))))],[(2,39,bc c),(54,39,bg bc (ja c ((bL c ([c.p,c.q]++L)).take (n+2)))++rs)]⟩ _
   refine aa<|aa<|ab<|ag ?_
   refine au rfl (fun hc3=>?_) (fun hc3=>?_)
   ·have g2:n+2<(bL c ([c.p,c.q]++L)).length:=by have:=of_decide_eq_true hc3;omega
    refine ap<|aa<|aX<|aa<|ab<|aj (bn (us:=bc c) dF rfl rfl (cW _) (aE _) rfl) ?_
    refine aw (ah gz rfl) rfl<|dm (du dF rfl rfl rfl (aE _) rfl rfl) ?_
    refine aq<|aa<|dr 11 [10,999999] bd (by kernel_rfl) rfl rfl<|an 2<|ai (aG (r:=((n+1:Nat):Int)) rfl rfl ((ck (by omega) (by omega)).trans (congrArg some (by omega))) rfl) ?_
    refine ai (a8 (us:=ay ((bL c ([c.p,c.q]++L)).getD (n+1) dPt)++bg ay ((bL c ([c.p,c.q]++L)).drop ((n+1)+1))) iB rfl rfl (by omega) (aY aN _) (cD aN (b8 (by omega))) rfl) ?_
    refine ai (bQ (us:=ay ((((bL c ([c.p,c.q]++L)).getD (n+1) dPt)))) ca rfl rfl rfl rfl) ?_
    refine an 2<|ai (a8 (us:=ay ((bL c ([c.p,c.q]++L)).getD (n+2) dPt)++bg ay ((bL c ([c.p,c.q]++L)).drop ((n+2)+1))) iB rfl rfl (by omega) (aY aN _) (cD aN (b8 (by omega))) rfl) ?_
    refine ai (bQ (us:=ay ((((bL c ([c.p,c.q]++L)).getD (n+2) dPt)))) ca rfl rfl rfl rfl) ?_
    refine an 1<|gV (bm (us:=bc (c.setp ((((bL c ([c.p,c.q]++L)).getD (n+1) dPt))))) ca rfl rfl rfl rfl (by rw[aE];decide) (vE _ _) rfl) rfl rfl rfl rfl ?_
    refine aV<|bi<|al 1<|dm (bm (us:=bc (c.ends ((((bL c ([c.p,c.q]++L)).getD (n+1) dPt))) ((((bL c ([c.p,c.q]++L)).getD (n+2) dPt))))) ca rfl rfl rfl rfl (by rw[aE];decide) (vC _ _ _) rfl) ?_
    refine aq<|ab<|al 1<|aj (bn (us:=bc (c.ends ((((bL c ([c.p,c.q]++L)).getD (n+1) dPt))) ((((bL c ([c.p,c.q]++L)).getD (n+2) dPt))))) dF rfl rfl (cW _) (aE _) rfl) ?_
    refine aj (df (n:=1) (us:=bc (c.ends ((((bL c ([c.p,c.q]++L)).getD (n+1) dPt))) ((((bL c ([c.p,c.q]++L)).getD (n+2) dPt))))) xR rfl (MH rfl (aE _)) (pO (aE _)) (by decide) (by decide) rfl) ?_
    refine wQ (us:=bg bc (ja c ((bL c ([c.p,c.q]++L)).take (n+2)))) (rest:=rs) (ys:=bc (c.ends ((((bL c ([c.p,c.q]++L)).getD (n+1) dPt))) ((((bL c ([c.p,c.q]++L)).getD (n+2) dPt))))) xR rfl rfl rfl (by rw[aY aE,jx,List.length_take,Nat.min_eq_left (by omega)];rfl) (by assumption) (pO (aE _)) (by decide) (by omega) (by assumption) (by omega) (pq (by omega)) (.inl rfl) rfl (fun cg4 rg4 hga4 hgb4 hgc4=>?_)
    refine ag<|ab<|al 1<|aj (aG (r:=((n+1+2:Nat):Int)) rfl rfl ((aW (by omega) (by omega)).trans (congrArg some (by omega))) rfl) ?_
    refine ag ?_
    exact⟨⟨⟨n+1,cg4,rg4⟩,by omega,by omega,hgb4,hgc4⟩,aR ⟨rfl,rfl,rfl,rfl,trivial⟩ ⟨rfl,by rw[qY (i:=n+1) _ (by omega),i7,qa];rfl,trivial⟩ rfl,by show(bL c ([c.p,c.q]++L)).length-(n+1)<(bL c ([c.p,c.q]++L)).length-n;omega⟩
   ·have g2:n+2=(bL c ([c.p,c.q]++L)).length:=by have:=of_decide_eq_false hc3;omega
    refine cq<|aa<|ab<|ag<|f5 (t:=4) (m:=66) (us:=bg bc (ja c ((bL c ([c.p,c.q]++L)).take (n+2)))) rfl rfl (sU (n:=n+1) (by rw[aY aE,jx,List.length_take,Nat.min_eq_left (by omega)];rfl) (by assumption) (by omega)) (by omega) (by assumption) (oQ (by rw[aY aE,jx,List.length_take,Nat.min_eq_left (by omega)];rfl))<|am ?_
    rw[show oY c L=ja c ((bL c ([c.p,c.q]++L)).take (n+2)) from by rw[g2,List.take_length];rfl,show(ja c ((bL c ([c.p,c.q]++L)).take (n+2))).length=n+1 from by rw[jx,List.length_take,Nat.min_eq_left (by omega)];rfl]
    exact ao (aC (aC ae))
theorem Iw {c:Cv}(hc:c.good):Ok Tryz.prog 8 [.a (bc c)] [.a (bc c.rev)]:=by
 cases c with
 |seg l f t=>exact Iy hc.1 hc.2.1 hc.2.2
 |arc k w f t=>exact IG hc.1 hc.2.1 hc.2.2
theorem KX {c d:Cv}(hc:c.good) (hd:d.good):Ok Tryz.prog 73 [.a (bc c),.a (bc d)] [.c (.b (fy c d))]:=by
 cases c with
 |seg l f t=>
  cases d with
  |seg m u v=>exact Hi hc.1 hc.2.1 hc.2.2 hd.1 hd.2.1 hd.2.2
  |arc d w2 u v=>exact H7 hc.1 hc.2.1 hc.2.2 hd.1 hd.2.1 hd.2.2
 |arc k w f t=>
  cases d with
  |seg m u v=>exact Ft hc.1 hc.2.1 hc.2.2 hd.1 hd.2.1 hd.2.2
  |arc d w2 u v=>exact Fs hc.1 hc.2.1 hc.2.2 hd.1 hd.2.1 hd.2.2
theorem OH {c d:Cv}(hc:c.good) (hd:d.good):Ok Tryz.prog 74 [.a (bc c),.a (bc d)] [.c (.s ((jK c d).length) (bg ay (jK c d))),.c (.i .i64 (zH c d))]:=by
 cases c with
 |seg l f t=>
  cases d with
  |seg m u v=>exact K9 hc.1 hc.2.1 hc.2.2 hd.1 hd.2.1 hd.2.2
  |arc d w2 u v=>exact J2 hc.1 hc.2.1 hc.2.2 hd.1 hd.2.1 hd.2.2
 |arc k w f t=>
  cases d with
  |seg m u v=>exact Km hc.1 hc.2.1 hc.2.2 hd.1 hd.2.1 hd.2.2
  |arc d w2 u v=>exact Kh hc.1 hc.2.1 hc.2.2 hd.1 hd.2.1 hd.2.2
theorem Cl {c d:Cv}(hc:c.good) (hd:d.good):Ok Tryz.prog 22 [.a (bc c),.a (bc d)] [.c (.s (((cT c d)).length) (bg ay ((cT c d)))),.c (.b (tQ c d))]:=by
 have hM: ∀p∈(aQ c d),GP p:=vh hc hd
 have lM:(aQ c d).length≤4:=tX
 have hML: ∀p∈(cT c d),GP p:=yq hc hd
 have lML:(cT c d).length≤4:=kW
 refine Ok.fn Tryz.func22 121 [.tmp 4,.tmp 5] rfl<|aa<|ab<|ag<|aa<|ab<|aj (bn (us:=bc c) dF rfl rfl (cW _) (aE _) rfl) ?_
 refine aj (bn (us:=bc d) dF rfl rfl (cW _) (aE _) rfl) ?_
 refine aj (ak rfl (KX hc hd))<|ag<|aa<|ab<|al 1<|aj (bn (us:=ay c.p) ca rfl rfl (t4 _) rfl rfl) ?_
 refine al 1<|aj (bn (us:=ay c.q) ca rfl rfl (s9 _) rfl rfl) ?_
 refine al 1<|aj (bn (us:=ay d.p) ca rfl rfl (t4 _) rfl rfl) ?_
 refine al 1<|aj (bn (us:=ay d.q) ca rfl rfl (s9 _) rfl rfl) ?_
 refine aj (df (n:=4) (us:=ay c.p++ay c.q++ay d.p++ay d.q) iF rfl rfl rfl (by decide) (by decide) rfl) ?_
 refine ag ?_
 refine kw (ι:=Unit) (fun i=>⟨121,[(2,.p 2 0),(3,.p 3 0),(6,.v (.c (.b (fy c d)))),(7,.v (.c (.s (((aQ c d)).length) (bg ay ((aQ c d))))))],[(2,39,bc c),(3,39,bc d)]⟩) ?_ ?_
 ·refine aa<|ab<|ag ?_
  refine au rfl (fun hc1=>?_) (fun hc1=>?_)
  ·have m0:aQ c d=jK c d:=I7 (by simpa using hc1)
   refine ab<|aj (bn (us:=bc c) dF rfl rfl (cW _) (aE _) rfl) ?_
   refine aj (bn (us:=bc d) dF rfl rfl (cW _) (aE _) rfl) ?_
   refine aj (ak rfl (OH hc hd))<|ag ?_
   exact⟨(),aR ⟨rfl,rfl,rfl,congrArg (fun q=>some (DV.v (.c (.s (List.length q) (bg ay q))))) m0.symm,trivial⟩ ⟨rfl,rfl,trivial⟩ rfl⟩
  ·have m0:aQ c d=[c.p,c.q,d.p,d.q]:=Gp (by simpa using hc1)
   refine ap ?_
   exact⟨(),aR ⟨rfl,rfl,rfl,(congrArg (fun q=>some (DV.v (.c (.s 4 q)))) (Ra _ _ _ _)).trans (congrArg (fun q=>some (DV.v (.c (.s (List.length q) (bg ay q))))) m0.symm),trivial⟩ ⟨rfl,rfl,trivial⟩ rfl⟩
 ·rintro⟨⟩
  show Dw _ _ ⟨121,[(2,.p 2 0),(3,.p 3 0),(6,.v (.c (.b (fy c d)))),(7,.v (.c (.s (((aQ c d)).length) (bg ay ((aQ c d))))))],[(2,39,bc c),(3,39,bc d)]⟩ _
  refine aa<|ab<|aj (mm rfl) ?_
  refine aq ?_
  refine kw (ι:=Unit) (fun i=>⟨121,[(2,.p 2 0),(3,.p 3 0),(6,.v (.c (.b (fy c d)))),(8,.v (.c (.s ((((aQ c d).filter (cV c d))).length) (bg ay (((aQ c d).filter (cV c d)))))))],[(2,39,bc c),(3,39,bc d)]⟩) ?_ ?_
  ·refine aa<|ab<|ag<|aX ?_
   refine cZ (ι:=Sum ({n:Nat // n≤(aQ c d).length∧(((aQ c d).take n).filter (cV c d))=[]}) ({x9:Nat×Nat×List CellD // x9.1≤(aQ c d).length∧(((aQ c d).take x9.1).filter (cV c d)).length≤x9.2.1∧x9.2.1≤maxLen∧x9.2.2.length=(x9.2.1-(((aQ c d).take x9.1).filter (cV c d)).length)*20})) (fun i=>match i with| .inl i=>⟨121,[(2,.p 2 0),(3,.p 3 0),(6,.v (.c (.b (fy c d)))),(7,.v (.c (.s (((aQ c d)).length) (bg ay ((aQ c d)))))),(8,.z),(9,.v (.c (.i .i64 (i.1:Int))))],[(2,39,bc c),(3,39,bc d)]⟩| .inr i=>⟨121,[(2,.p 2 0),(3,.p 3 0),(6,.v (.c (.b (fy c d)))),(7,.v (.c (.s (((aQ c d)).length) (bg ay ((aQ c d)))))),(8,.o 58 ((((aQ c d).take i.1.1).filter (cV c d)).length) i.1.2.1),(9,.v (.c (.i .i64 (i.1.1:Int))))],[(2,39,bc c),(3,39,bc d),(58,37,bg ay (((aQ c d).take i.1.1).filter (cV c d))++i.1.2.2)]⟩) (fun i=>match i with| .inl i=>(aQ c d).length-i.1| .inr i=>(aQ c d).length-i.1.1) (.inl ⟨0,Nat.zero_le _,rfl⟩) (aR ⟨rfl,rfl,rfl,rfl,rfl,rfl,trivial⟩ ⟨rfl,rfl,trivial⟩ rfl) ?_
   rintro(⟨n,h2,h3⟩|⟨⟨n,cp,rs⟩,h2,h3,h4,h5⟩)
   ·replace h2:n≤(aQ c d).length:=h2
    replace h3:(((aQ c d).take n).filter (cV c d))=[]:=h3
    show Dw _ _ ⟨121,[(2,.p 2 0),(3,.p 3 0),(6,.v (.c (.b (fy c d)))),(7,.v (.c (.s (((aQ c d)).length) (bg ay ((aQ c d)))))),(8,.z),(9,.v (.c (.i .i64 (n:Int))))],[(2,39,bc c),(3,39,bc d)]⟩ _
    refine aa<|aa<|ab<|ag ?_
    refine au rfl (fun hc2=>?_) (fun hc2=>?_)
    ·have g1:n<(aQ c d).length:=by have:=of_decide_eq_true hc2;omega
     refine ap<|aa<|aX<|aa<|aM 14 rfl rfl<|ai (bn (us:=bc c) dF rfl rfl (cW _) (aE _) rfl) ?_
     refine an 2<|ai (a8 (us:=ay ((aQ c d).getD n dPt)++bg ay ((aQ c d).drop (n+1))) iB rfl rfl (by omega) (aY aN _) (cD aN (b8 g1)) rfl) ?_
     refine ai (bQ (us:=ay ((((aQ c d).getD n dPt)))) ca rfl rfl rfl rfl) ?_
     refine ai (ak rfl (yu hc (GP.getD hM n))) ?_
     refine gJ (bO rfl) (fun c3 hb3=>?_)
     cases c3
     ·have g2:(((aQ c d).take (n+1)).filter (cV c d))=(((aQ c d).take n).filter (cV c d)):=vO g1 (Cu hb3)
      refine bJ<|ar<|aq<|ba rfl<|ap<|ab<|al 1<|aj (aG (r:=((n+1:Nat):Int)) rfl rfl ((aW (by omega) (by omega)).trans (congrArg some (by omega))) rfl) ?_
      refine ag ?_
      exact⟨.inl ⟨n+1,g1,by rw[g2];exact h3⟩,aR ⟨rfl,rfl,rfl,rfl,rfl,rfl,trivial⟩ ⟨rfl,rfl,trivial⟩ rfl,by show(aQ c d).length-(n+1)<(aQ c d).length-n;omega⟩
     ·refine ai (bn (us:=bc d) dF rfl rfl (cW _) (aE _) rfl) ?_
      refine an 2<|ai (a8 (us:=ay ((aQ c d).getD n dPt)++bg ay ((aQ c d).drop (n+1))) iB rfl rfl (by omega) (aY aN _) (cD aN (b8 g1)) rfl) ?_
      refine ai (bQ (us:=ay ((((aQ c d).getD n dPt)))) ca rfl rfl rfl rfl) ?_
      refine ai (ak rfl (yu hd (GP.getD hM n)))<|bJ<|ar<|aq ?_
      refine au rfl (fun hc4=>?_) (fun hc4=>?_)
      ·have g2:(((aQ c d).take (n+1)).filter (cV c d))=(((aQ c d).take n).filter (cV c d))++[((aQ c d).getD n dPt)]:=Jf g1 (Jd hb3 hc4)
       refine ab<|al 3<|aj (a8 (us:=ay ((aQ c d).getD n dPt)++bg ay ((aQ c d).drop (n+1))) iB rfl rfl (by omega) (aY aN _) (cD aN (b8 g1)) rfl) ?_
       refine aj (bQ (us:=ay ((((aQ c d).getD n dPt)))) ca rfl rfl rfl rfl) ?_
       refine aj (df (n:=1) (us:=ay ((((aQ c d).getD n dPt)))) iF rfl rfl rfl (by decide) (by decide) rfl) ?_
       refine t5 (ys:=ay ((((aQ c d).getD n dPt)))) iF rfl rfl rfl (by decide) (by decide) (by decide) rfl rfl (fun cg5 rg5 hga5 hgb5 hgc5=>?_)
       refine ag<|ab<|al 1<|aj (aG (r:=((n+1:Nat):Int)) rfl rfl ((aW (by omega) (by omega)).trans (congrArg some (by omega))) rfl) ?_
       refine ag ?_
       exact⟨.inr ⟨⟨n+1,cg5,rg5⟩,g1,by show(((aQ c d).take (n+1)).filter (cV c d)).length≤cg5;rw[g2,h3];exact hga5,hgb5,by show rg5.length=(cg5-(((aQ c d).take (n+1)).filter (cV c d)).length)*20;rw[g2,h3];exact hgc5⟩,aR ⟨rfl,rfl,rfl,rfl,congrArg (fun q=>some (DV.o 58 q cg5)) (by rw[g2,h3];rfl),rfl,trivial⟩ ⟨rfl,rfl,congrArg (fun q=>some (37,q++rg5)) (by rw[g2,h3];exact(qa _).symm),trivial⟩ rfl,by show(aQ c d).length-(n+1)<(aQ c d).length-n;omega⟩
      ·have g2:(((aQ c d).take (n+1)).filter (cV c d))=(((aQ c d).take n).filter (cV c d)):=vO g1 (Da hc4)
       refine ap<|ab<|al 1<|aj (aG (r:=((n+1:Nat):Int)) rfl rfl ((aW (by omega) (by omega)).trans (congrArg some (by omega))) rfl) ?_
       refine ag ?_
       exact⟨.inl ⟨n+1,g1,by rw[g2];exact h3⟩,aR ⟨rfl,rfl,rfl,rfl,rfl,rfl,trivial⟩ ⟨rfl,rfl,trivial⟩ rfl,by show(aQ c d).length-(n+1)<(aQ c d).length-n;omega⟩
    ·have g1:(aQ c d).length≤n:=by have:=of_decide_eq_false hc2;omega
     have m1:((aQ c d).filter (cV c d))=[]:=by rw[←h3,List.take_of_length_le g1]
     refine Jc (t:=8) rfl<|cq ?_
     exact⟨(),aR ⟨rfl,rfl,rfl,congrArg (fun q=>some (DV.v (.c (.s (List.length q) (bg ay q))))) m1.symm,trivial⟩ ⟨rfl,rfl,trivial⟩ rfl⟩
   ·dsimp only at h2 h3 h4 h5
    have h6:(((aQ c d).take n).filter (cV c d)).length≤4:=Nat.le_trans (List.length_filter_le _ _) (by rw[List.length_take];omega)
    show Dw _ _ ⟨121,[(2,.p 2 0),(3,.p 3 0),(6,.v (.c (.b (fy c d)))),(7,.v (.c (.s (((aQ c d)).length) (bg ay ((aQ c d)))))),(8,.o 58 ((((aQ c d).take n).filter (cV c d)).length) cp),(9,.v (.c (.i .i64 (n:Int))))],[(2,39,bc c),(3,39,bc d),(58,37,bg ay (((aQ c d).take n).filter (cV c d))++rs)]⟩ _
    refine aa<|aa<|ab<|ag ?_
    refine au rfl (fun hc6=>?_) (fun hc6=>?_)
    ·have g1:n<(aQ c d).length:=by have:=of_decide_eq_true hc6;omega
     refine ap<|aa<|aX<|aa<|aM 14 rfl rfl<|ai (bn (us:=bc c) dF rfl rfl (cW _) (aE _) rfl) ?_
     refine an 2<|ai (a8 (us:=ay ((aQ c d).getD n dPt)++bg ay ((aQ c d).drop (n+1))) iB rfl rfl (by omega) (aY aN _) (cD aN (b8 g1)) rfl) ?_
     refine ai (bQ (us:=ay ((((aQ c d).getD n dPt)))) ca rfl rfl rfl rfl) ?_
     refine ai (ak rfl (yu hc (GP.getD hM n))) ?_
     refine gJ (bO rfl) (fun c7 hb7=>?_)
     cases c7
     ·have g2:(((aQ c d).take (n+1)).filter (cV c d))=(((aQ c d).take n).filter (cV c d)):=vO g1 (Cu hb7)
      refine bJ<|ar<|aq<|ba rfl<|ap<|ab<|al 1<|aj (aG (r:=((n+1:Nat):Int)) rfl rfl ((aW (by omega) (by omega)).trans (congrArg some (by omega))) rfl) ?_
      refine ag ?_
      exact⟨.inr ⟨⟨n+1,cp,rs⟩,g1,by show(((aQ c d).take (n+1)).filter (cV c d)).length≤cp;rw[g2];exact h3,h4,by show rs.length=(cp-(((aQ c d).take (n+1)).filter (cV c d)).length)*20;rw[g2];exact h5⟩,aR ⟨rfl,rfl,rfl,rfl,congrArg (fun q=>some (DV.o 58 q cp)) (by rw[g2]),rfl,trivial⟩ ⟨rfl,rfl,congrArg (fun q=>some (37,q++rs)) (by rw[g2]),trivial⟩ rfl,by show(aQ c d).length-(n+1)<(aQ c d).length-n;omega⟩
     ·refine ai (bn (us:=bc d) dF rfl rfl (cW _) (aE _) rfl) ?_
      refine an 2<|ai (a8 (us:=ay ((aQ c d).getD n dPt)++bg ay ((aQ c d).drop (n+1))) iB rfl rfl (by omega) (aY aN _) (cD aN (b8 g1)) rfl) ?_
      refine ai (bQ (us:=ay ((((aQ c d).getD n dPt)))) ca rfl rfl rfl rfl) ?_
      refine ai (ak rfl (yu hd (GP.getD hM n)))<|bJ<|ar<|aq ?_
      refine au rfl (fun hc8=>?_) (fun hc8=>?_)
      ·have g2:(((aQ c d).take (n+1)).filter (cV c d))=(((aQ c d).take n).filter (cV c d))++[((aQ c d).getD n dPt)]:=Jf g1 (Jd hb7 hc8)
       refine ab<|al 3<|aj (a8 (us:=ay ((aQ c d).getD n dPt)++bg ay ((aQ c d).drop (n+1))) iB rfl rfl (by omega) (aY aN _) (cD aN (b8 g1)) rfl) ?_
       refine aj (bQ (us:=ay ((((aQ c d).getD n dPt)))) ca rfl rfl rfl rfl) ?_
       refine aj (df (n:=1) (us:=ay ((((aQ c d).getD n dPt)))) iF rfl rfl rfl (by decide) (by decide) rfl) ?_
       refine wQ (us:=bg ay (((aQ c d).take n).filter (cV c d))) (rest:=rs) (ys:=ay ((((aQ c d).getD n dPt)))) iF rfl rfl rfl (aY aN _) (by assumption) rfl (by decide) (by omega) (by assumption) (by omega) (pq (by omega)) (.inl rfl) rfl (fun cg9 rg9 hga9 hgb9 hgc9=>?_)
       refine ag<|ab<|al 1<|aj (aG (r:=((n+1:Nat):Int)) rfl rfl ((aW (by omega) (by omega)).trans (congrArg some (by omega))) rfl) ?_
       refine ag ?_
       exact⟨.inr ⟨⟨n+1,cg9,rg9⟩,g1,by show(((aQ c d).take (n+1)).filter (cV c d)).length≤cg9;rw[g2,List.length_append];exact hga9,hgb9,by show rg9.length=(cg9-(((aQ c d).take (n+1)).filter (cV c d)).length)*20;rw[g2,List.length_append];exact hgc9⟩,aR ⟨rfl,rfl,rfl,rfl,congrArg (fun q=>some (DV.o 58 q cg9)) (by rw[g2,List.length_append];rfl),rfl,trivial⟩ ⟨rfl,rfl,congrArg (fun q=>some (37,q++rg9)) (by rw[g2,i7,qa]),trivial⟩ rfl,by show(aQ c d).length-(n+1)<(aQ c d).length-n;omega⟩
      ·have g2:(((aQ c d).take (n+1)).filter (cV c d))=(((aQ c d).take n).filter (cV c d)):=vO g1 (Da hc8)
       refine ap<|ab<|al 1<|aj (aG (r:=((n+1:Nat):Int)) rfl rfl ((aW (by omega) (by omega)).trans (congrArg some (by omega))) rfl) ?_
       refine ag ?_
       exact⟨.inr ⟨⟨n+1,cp,rs⟩,g1,by show(((aQ c d).take (n+1)).filter (cV c d)).length≤cp;rw[g2];exact h3,h4,by show rs.length=(cp-(((aQ c d).take (n+1)).filter (cV c d)).length)*20;rw[g2];exact h5⟩,aR ⟨rfl,rfl,rfl,rfl,congrArg (fun q=>some (DV.o 58 q cp)) (by rw[g2]),rfl,trivial⟩ ⟨rfl,rfl,congrArg (fun q=>some (37,q++rs)) (by rw[g2]),trivial⟩ rfl,by show(aQ c d).length-(n+1)<(aQ c d).length-n;omega⟩
    ·have g1:(aQ c d).length≤n:=by have:=of_decide_eq_false hc6;omega
     have m1:((aQ c d).filter (cV c d))=(((aQ c d).take n).filter (cV c d)):=by rw[List.take_of_length_le g1]
     refine f5 (t:=8) (m:=20) (us:=bg ay (((aQ c d).take n).filter (cV c d))) rfl rfl (sU (n:=(((aQ c d).take n).filter (cV c d)).length) (aY aN _) (by assumption) (by omega)) (by omega) (by assumption) (oQ (aY aN _))<|cq ?_
     exact⟨(),aR ⟨rfl,rfl,rfl,congrArg (fun q=>some (DV.v (.c (.s (List.length q) (bg ay q))))) m1.symm,trivial⟩ ⟨rfl,rfl,trivial⟩ rfl⟩
  ·rintro⟨⟩
   show Dw _ _ ⟨121,[(2,.p 2 0),(3,.p 3 0),(6,.v (.c (.b (fy c d)))),(8,.v (.c (.s ((((aQ c d).filter (cV c d))).length) (bg ay (((aQ c d).filter (cV c d)))))))],[(2,39,bc c),(3,39,bc d)]⟩ _
   refine aa<|ab<|aj (bn (us:=bc c) dF rfl rfl (cW _) (aE _) rfl) ?_
   refine al 1<|aj (ak rfl (CG hc (fun p hp=>hM p (List.mem_filter.1 hp).1) (Nat.le_trans (List.length_filter_le _ _) (by omega))))<|ag<|aa<|ab<|ag ?_
   refine kw (ι:=Unit) (fun i=>⟨121,[(3,.p 3 0),(6,.v (.c (.b (fy c d)))),(8,.v (.c (.s (((cT c d)).length) (bg ay ((cT c d)))))),(10,.v (.c (.b false)))],[(3,39,bc (eS c d))]⟩) ?_ ?_
   ·refine aa<|aM 31 rfl rfl<|an 1<|ai (eY ET rfl rfl (nD _) rfl) ?_
    refine gJ (bO rfl) (fun c10 hb10=>?_)
    cases c10
    ·refine an 12<|ai (eY ET rfl rfl (nD _) rfl) ?_
     refine an 1 ?_
     refine gJ (bO rfl) (fun c11 hb11=>?_)
     cases c11
     ·exact absurd hb11 (by rw[hb10];decide)
     ·refine an 1<|ai (bn (us:=ay c.p) ca rfl rfl (t4 _) rfl rfl) ?_
      refine an 1<|ai (bn (us:=ay c.q) ca rfl rfl (s9 _) rfl rfl) ?_
      refine ai (ak rfl (nF (mR hc) (oS hc)))<|an 1<|ai (bn (us:=ay d.p) ca rfl rfl (t4 _) rfl rfl) ?_
      refine an 1<|ai (bn (us:=ay d.q) ca rfl rfl (s9 _) rfl rfl) ?_
      refine ai (ak rfl (nF (mR hd) (oS hd)))<|bJ<|ar<|aq ?_
      refine au rfl (fun hc12=>?_) (fun hc12=>?_)
      ·have m2:(eS c d)=d.rev:=SM hb10 hc12
       refine ab<|aj (bn (us:=bc d) dF rfl rfl (cW _) (aE _) rfl) ?_
       refine aj (ak rfl (Iw hd))<|dm (du dF rfl rfl rfl (aE _) (aE _) rfl) ?_
       refine aq ?_
       exact⟨(),aR ⟨rfl,rfl,rfl,rfl,trivial⟩ ⟨congrArg (fun q=>some (39,bc q)) m2.symm,trivial⟩ rfl⟩
      ·have m2:(eS c d)=d:=TJ hb10 hc12
       refine ap ?_
       exact⟨(),aR ⟨rfl,rfl,rfl,rfl,trivial⟩ ⟨congrArg (fun q=>some (39,bc q)) m2.symm,trivial⟩ rfl⟩
    ·refine an 1<|ai (eY ET rfl rfl (nD _) rfl) ?_
     refine an 1 ?_
     refine gJ (bO rfl) (fun c13 hb13=>?_)
     cases c13
     ·refine an 8<|ai (eY ET rfl rfl (nD _) rfl) ?_
      refine an 1 ?_
      refine gJ (bO rfl) (fun c14 hb14=>?_)
      cases c14
      ·have m2:(eS c d)=d:=S8 hb10 hb13
       refine bJ<|ar<|aq<|ba rfl<|ap ?_
       exact⟨(),aR ⟨rfl,rfl,rfl,rfl,trivial⟩ ⟨congrArg (fun q=>some (39,bc q)) m2.symm,trivial⟩ rfl⟩
      ·exact absurd hb14 (by rw[hb10];decide)
     ·refine an 1<|ai (eY ET rfl rfl (C4 _) rfl) ?_
      refine an 1<|ai (eY ET rfl rfl (C4 _) rfl) ?_
      refine ai (dH rfl rfl d9 rfl) ?_
      refine an 1 ?_
      refine gJ (bO rfl) (fun c15 hb15=>?_)
      cases c15
      ·refine an 1<|ai (eY ET rfl rfl (nD _) rfl) ?_
       refine an 1 ?_
       refine gJ (bO rfl) (fun c16 hb16=>?_)
       cases c16
       ·have m2:(eS c d)=d:=SV hb10 hb13 hb15
        refine bJ<|ar<|aq<|ba rfl<|ap ?_
        exact⟨(),aR ⟨rfl,rfl,rfl,rfl,trivial⟩ ⟨congrArg (fun q=>some (39,bc q)) m2.symm,trivial⟩ rfl⟩
       ·exact absurd hb16 (by rw[hb10];decide)
      ·have m2:(eS c d)=d.rev:=SI hb10 hb13 hb15
       refine bJ<|ar<|aq<|bo rfl<|ab<|aj (bn (us:=bc d) dF rfl rfl (cW _) (aE _) rfl) ?_
       refine aj (ak rfl (Iw hd))<|dm (du dF rfl rfl rfl (aE _) (aE _) rfl) ?_
       refine aq ?_
       exact⟨(),aR ⟨rfl,rfl,rfl,rfl,trivial⟩ ⟨congrArg (fun q=>some (39,bc q)) m2.symm,trivial⟩ rfl⟩
   ·rintro⟨⟩
    show Dw _ _ ⟨121,[(3,.p 3 0),(6,.v (.c (.b (fy c d)))),(8,.v (.c (.s (((cT c d)).length) (bg ay ((cT c d)))))),(10,.v (.c (.b false)))],[(3,39,bc (eS c d))]⟩ _
    refine aa<|aa<|ab<|ag<|aX<|cZ (ι:={r:Nat //(r=0∨r+1≤(cT c d).length)∧(fy c d=false→r=0)}) (fun i=>⟨121,[(3,.p 3 0),(6,.v (.c (.b (fy c d)))),(8,.v (.c (.s (((cT c d)).length) (bg ay ((cT c d)))))),(10,.v (.c (.b (Du (eS c d) (cT c d) i.1)))),(11,.v (.c (.i .i64 (((i.1+1:Nat):Int)))))],[(3,39,bc (eS c d))]⟩) (fun i=>(cT c d).length-i.1) ⟨0,.inl rfl,fun _=>rfl⟩ (aR ⟨rfl,rfl,rfl,rfl,rfl,trivial⟩ ⟨rfl,trivial⟩ rfl) ?_
    rintro⟨r,h2,h3⟩
    replace h2:r=0∨r+1≤(cT c d).length:=h2
    replace h3:fy c d=false→r=0:=h3
    show Dw _ _ ⟨121,[(3,.p 3 0),(6,.v (.c (.b (fy c d)))),(8,.v (.c (.s (((cT c d)).length) (bg ay ((cT c d)))))),(10,.v (.c (.b (Du (eS c d) (cT c d) r)))),(11,.v (.c (.i .i64 (((r+1:Nat):Int)))))],[(3,39,bc (eS c d))]⟩ _
    refine aa<|aa<|ab<|al 1 ?_
    refine cm (bO rfl) (fun c17 hb17=>?_)
    cases c17
    ·have m3:tQ c d=false:=LN hb17
     refine ag<|ba rfl<|cq<|aa<|ab<|ag<|am ?_
     rw[show tQ c d=Du (eS c d) (cT c d) r from by rw[m3,h3 hb17];rfl]
     exact ao (aC (aC ae))
    ·have m4:fy c d=true:=hb17
     refine ag ?_
     refine au rfl (fun hc18=>?_) (fun hc18=>?_)
     ·have g3:r+1<(cT c d).length:=by have:=of_decide_eq_true hc18;omega
      refine ap<|aa<|aX<|aM 16 rfl rfl<|an 1 ?_
      refine gJ (bO rfl) (fun c19 hb19=>?_)
      cases c19
      ·have g4:Du (eS c d) (cT c d) (r+1)=decide ((eS c d).ord ((cT c d).getD r dPt) ((cT c d).getD (r+1) dPt)<0):=Qe hb19
       refine ai (bn (us:=bc (eS c d)) dF rfl rfl (cW _) (aE _) rfl) ?_
       refine an 2<|ai (aG (r:=((r:Nat):Int)) rfl rfl ((ck (by omega) (by omega)).trans (congrArg some (by omega))) rfl) ?_
       refine ai (a8 (us:=ay ((cT c d).getD r dPt)++bg ay ((cT c d).drop (r+1))) iB rfl rfl (by omega) (aY aN _) (cD aN (b8 (by omega))) rfl) ?_
       refine ai (bQ (us:=ay ((((cT c d).getD r dPt)))) ca rfl rfl rfl rfl) ?_
       refine an 2<|ai (a8 (us:=ay ((cT c d).getD (r+1) dPt)++bg ay ((cT c d).drop ((r+1)+1))) iB rfl rfl (by omega) (aY aN _) (cD aN (b8 (by omega))) rfl) ?_
       refine ai (bQ (us:=ay ((((cT c d).getD (r+1) dPt)))) ca rfl rfl rfl rfl) ?_
       refine ai (ak rfl (Fy (BC hd) (GP.getD hML _) (GP.getD hML _)))<|bJ<|ar<|aq<|ab<|al 1<|aj (aG (r:=((r+1+1:Nat):Int)) rfl rfl ((aW (by omega) (by omega)).trans (congrArg some (by omega))) rfl) ?_
       refine ag ?_
       exact⟨⟨r+1,.inr (by omega),fun h=>absurd h (by rw[m4];decide)⟩,aR ⟨rfl,rfl,rfl,congrArg (fun q=>some (DV.v (.c (.b q)))) g4.symm,rfl,trivial⟩ ⟨rfl,trivial⟩ rfl,by show(cT c d).length-(r+1)<(cT c d).length-r;omega⟩
      ·have g4:Du (eS c d) (cT c d) (r+1)=true:=Ql hb19
       refine bJ<|ar<|aq<|ab<|al 1<|aj (aG (r:=((r+1+1:Nat):Int)) rfl rfl ((aW (by omega) (by omega)).trans (congrArg some (by omega))) rfl) ?_
       refine ag ?_
       exact⟨⟨r+1,.inr (by omega),fun h=>absurd h (by rw[m4];decide)⟩,aR ⟨rfl,rfl,rfl,congrArg (fun q=>some (DV.v (.c (.b q)))) g4.symm,rfl,trivial⟩ ⟨rfl,trivial⟩ rfl,by show(cT c d).length-(r+1)<(cT c d).length-r;omega⟩
     ·have g3:(cT c d).length≤r+1:=by have:=of_decide_eq_false hc18;omega
      refine cq<|aa<|ab<|ag<|am ?_
      rw[Kt hb17 (by omega:(cT c d).length-1=r)]
      exact ao (aC (aC ae))
end Go.Proofs.YtacopbfkmnpfgaaGreat
