/-Points in the order of a curve:the reference. -/
import Derived.Test.YtacopbfkmnpfgaaGreatSpO
namespace Go.Proofs.YtacopbfkmnpfgaaGreat
open Go Go.RowKit
theorem Fs {c:Cv}(hc:c.good) {p q:Pt}(hp:GP p) (hq:GP q):Ok Tryz.prog 77 [.a (bk c),.a (aA p),.a (aA q)] [.c (.i .i64 (c.ord p q))]:=by
 cases c with
 |seg l f t=>exact yZ hc.1 hc.2.1 hc.2.2 hp hq
 |arc k w f t=>exact yv hc.1 hc.2.1 hc.2.2 hp hq
theorem vU {c:Cv}(hc:c.good) {p:Pt}(hp:GP p):Ok Tryz.prog 75 [.a (bk c),.a (aA p)] [.c (.b (c.on p))]:=by
 cases c with
 |seg l f t=>exact NA hc.1 hc.2.1 hc.2.2 hp
 |arc k w f t=>exact Pa hc.1 hc.2.1 hc.2.2 hp
theorem Ap {c:Cv}(hc:c.good) {L:List Pt}(hL: ∀p∈L,GP p) (lL:L.length≤100):Ok Tryz.prog 76 [.a (bk c),.c (.s ((L).length) (bc aA (L)))] [.c (.s ((bJ c L).length) (bc aA (bJ c L)))]:=by
 refine Ok.fn Tryz.func76 64 [.tmp 4] rfl<|aa<|ab<|ai<|aa<|ab<|ai<|aa<|aa<|ab<|ai<|a8<|cz (ι:={n:Nat // n≤L.length}) (fun i=>⟨64,[(1,.v (.c (.s ((L).length) (bc aA (L))))),(2,.p 2 0),(5,.v (.c (.s ((bJ c (L.take i.1)).length) (bc aA (bJ c (L.take i.1)))))),(6,.v (.c (.i .i64 (i.1:Int))))],[(2,39,bk c)]⟩) (fun i=>L.length-i.1) ⟨0,Nat.zero_le _⟩ (aW ⟨rfl,rfl,rfl,rfl,trivial⟩ ⟨rfl,trivial⟩ rfl) ?_
 rintro⟨n,h2⟩
 replace h2:n≤L.length:=h2
 show Dw _ _ ⟨64,[(1,.v (.c (.s ((L).length) (bc aA (L))))),(2,.p 2 0),(5,.v (.c (.s ((bJ c (L.take n)).length) (bc aA (bJ c (L.take n)))))),(6,.v (.c (.i .i64 (n:Int))))],[(2,39,bk c)]⟩ _
 refine aa<|aa<|ab<|ai ?_
 refine ay rfl (fun hc1=>?_) (fun hc1=>?_)
 ·have g1:n<L.length:=by have:=of_decide_eq_true hc1;omega
  obtain⟨O,eO⟩: ∃O,bJ c (L.take n)=O:=⟨_,rfl⟩
  have hO: ∀p∈O,GP p:=fun p hp=>hL p (List.mem_of_mem_take (mJ (by rw[eO];exact hp)))
  have lO:O.length≤100:=by
   have:=pK (c:=c) (l:=L.take n)
   rw[eO,List.length_take] at this;omega
  refine Dw.weak (σ':=⟨64,[(1,.v (.c (.s ((L).length) (bc aA (L))))),(2,.p 2 0),(5,.v (.c (.s ((O).length) (bc aA (O))))),(6,.v (.c (.i .i64 (n:Int))))],[(2,39,bk c)]⟩) (aW ⟨rfl,rfl,by rw[←eO];rfl,rfl,trivial⟩ ⟨rfl,trivial⟩ rfl) ?_
  refine aq<|aa<|a8<|aa<|ab<|ai<|aa<|a8<|cz (ι:={j:Nat // j≤O.length∧ ∀r,r<j→(c).ord (O.getD r dPt) (L.getD n dPt)<0}) (fun i=>⟨64,[(1,.v (.c (.s ((L).length) (bc aA (L))))),(2,.p 2 0),(5,.v (.c (.s ((O).length) (bc aA (O))))),(6,.v (.c (.i .i64 (n:Int)))),(7,.v (.c (.i .i64 (i.1:Int))))],[(2,39,bk c)]⟩) (fun i=>O.length-i.1) ⟨0,Nat.zero_le _,fun r h=>absurd h (Nat.not_lt_zero r)⟩ (aW ⟨rfl,rfl,rfl,rfl,rfl,trivial⟩ ⟨rfl,trivial⟩ rfl) ?_
  rintro⟨j,h3,h4⟩
  replace h3:j≤O.length:=h3
  replace h4: ∀r,r<j→(c).ord (O.getD r dPt) (L.getD n dPt)<0:=h4
  show Dw _ _ ⟨64,[(1,.v (.c (.s ((L).length) (bc aA (L))))),(2,.p 2 0),(5,.v (.c (.s ((O).length) (bc aA (O))))),(6,.v (.c (.i .i64 (n:Int)))),(7,.v (.c (.i .i64 (j:Int))))],[(2,39,bk c)]⟩ _
  refine aa<|aa<|aN 17 rfl rfl<|an 4 ?_
  refine fI (ca rfl) (fun c2 hb2=>?_)
  cases c2
  ·have g2:O.length≤j:=by have:=of_decide_eq_false hb2;omega
   have hs:jK c (L.getD n dPt) O=j:=uP h3 h4 (.inl (by omega))
   have g4: ¬(j<O.length∧cP (O.getD j dPt) (L.getD n dPt)=0):=fun h=>by omega
   refine bK<|ar<|ap<|bj rfl<|cd<|aa<|aa<|aN 15 rfl rfl<|an 3<|ag (df (c:=false) (mm rfl) (decide_eq_false (by omega))) ?_
   refine bK<|ar<|ap<|bj rfl<|aq ?_
   rcases Nat.eq_zero_or_pos j with hj0|hj0
   ·refine uX 15 [10,14] a7 (by kernel_rfl) rfl rfl<|dP rfl (lh gS rfl) rfl ?_
    refine dP rfl (ca rfl) rfl<|dP rfl (ca rfl) rfl<|dP rfl (nv (n':=0) (us':=[]) (iw (j:=(j:Int)) (n:=(O).length) (xs:=bc aA (O)) (us:=bc aA (O.take j)) gM rfl rfl (by omega) (aX aM _) (mP aM _ _) rfl) (by omega) (by rw[hj0];rfl)) rfl ?_
    refine dP rfl (nh gS rfl rfl rfl) rfl ?_
    refine dP rfl (ca rfl) rfl<|dP rfl (ca rfl) rfl<|dP rfl (bb (us:=aA (L.getD n dPt)++bc aA (L.drop (n+1))) gM rfl rfl (by omega) (aX aM _) (ce aM (bR g1)) rfl) rfl ?_
    refine dP rfl (bS (us:=aA (L.getD n dPt)) cn rfl rfl rfl rfl) rfl ?_
    refine dP rfl (cW (n:=1) (us:=aA (L.getD n dPt)) gS rfl rfl rfl (by decide) (by decide) rfl) rfl ?_
    refine sP rfl<|dP rfl (ca rfl) rfl<|dP rfl (ca rfl) rfl<|dP rfl (jM (j:=(j:Int)) (n:=(O).length) (xs:=bc aA (O)) (n':=O.length-j) (us:=bc aA (O.drop j)) gM rfl rfl (by omega) (aX aM _) (by omega) (kn aM _ _) rfl) rfl ?_
    refine sP rfl ?_
    refine v6 (x0:=.tmp 52) (t1:=58) (y1:=.tmp 57) (t2:=62) (y2:=.tmp 61) (N':=O.length+1) (zs':=bc aA (O.take j++(L.getD n dPt)::O.drop j)) gS (by decide) rfl rfl rfl rfl rfl rfl (rfl) (by rw[aX aM,List.length_drop]) (by kernel_rfl) (by kernel_rfl) (by decide) rfl rfl rfl rfl (by omega) (by rw[ow,hj0];rfl) (by omega) (oJ (by omega)) (fun cg3 rg3 hga3 hgb3 hgc3=>?_)
    refine ai<|fG (t:=5) (m:=20) (us:=bc aA (O.take j++(L.getD n dPt)::O.drop j)) rfl rfl (ss (n:=O.length+1) (by rw[aX aM,ga (by omega)]) (by assumption) (by omega)) (by omega) (by assumption) (nP (by rw[aX aM,ga (by omega)]))<|ab<|am 1<|ak (aJ (r:=((n+1:Nat):Int)) rfl rfl ((aT (by omega) (by omega)).trans (congrArg some (by omega))) rfl) ?_
    refine ai ?_
    exact⟨⟨n+1,g1⟩,aW ⟨rfl,rfl,by rw[kq g1,eO,oY hs g4,ga h3];rfl,rfl,trivial⟩ ⟨rfl,trivial⟩ rfl,by show L.length-(n+1)<L.length-n;omega⟩
   ·refine uX 15 [4,10,14] a7 (by kernel_rfl) rfl rfl<|dP rfl (lh gS rfl) rfl ?_
    refine dP rfl (ca rfl) rfl<|dP rfl (ca rfl) rfl<|dP rfl ((iw (j:=(j:Int)) (n:=(O).length) (xs:=bc aA (O)) (us:=bc aA (O.take j)) gM rfl rfl (by omega) (aX aM _) (mP aM _ _) rfl)) rfl ?_
    refine sP rfl<|dP rfl (ca rfl) rfl<|dP rfl (ca rfl) rfl<|dP rfl (bb (us:=aA (L.getD n dPt)++bc aA (L.drop (n+1))) gM rfl rfl (by omega) (aX aM _) (ce aM (bR g1)) rfl) rfl ?_
    refine dP rfl (bS (us:=aA (L.getD n dPt)) cn rfl rfl rfl rfl) rfl ?_
    refine dP rfl (cW (n:=1) (us:=aA (L.getD n dPt)) gS rfl rfl rfl (by decide) (by decide) rfl) rfl ?_
    refine sP rfl<|dP rfl (ca rfl) rfl<|dP rfl (ca rfl) rfl<|dP rfl (jM (j:=(j:Int)) (n:=(O).length) (xs:=bc aA (O)) (n':=O.length-j) (us:=bc aA (O.drop j)) gM rfl rfl (by omega) (aX aM _) (by omega) (kn aM _ _) rfl) rfl ?_
    refine sP rfl ?_
    refine x7 (x0:=.tmp 48) (t1:=52) (y1:=.tmp 51) (t2:=58) (y2:=.tmp 57) (t3:=62) (y3:=.tmp 61) (N':=O.length+1) (zs':=bc aA (O.take j++(L.getD n dPt)::O.drop j)) gS (by decide) rfl rfl rfl rfl rfl rfl rfl rfl (by rw[aX aM,List.length_take,Nat.min_eq_left h3];rfl) (rfl) (by rw[aX aM,List.length_drop]) (by kernel_rfl) (by kernel_rfl) (hj0) rfl rfl rfl rfl rfl rfl (by omega) (ow.symm) (by omega) (oJ (by omega)) (fun cg4 rg4 hga4 hgb4 hgc4=>?_)
    refine ai<|fG (t:=5) (m:=20) (us:=bc aA (O.take j++(L.getD n dPt)::O.drop j)) rfl rfl (ss (n:=O.length+1) (by rw[aX aM,ga (by omega)]) (by assumption) (by omega)) (by omega) (by assumption) (nP (by rw[aX aM,ga (by omega)]))<|ab<|am 1<|ak (aJ (r:=((n+1:Nat):Int)) rfl rfl ((aT (by omega) (by omega)).trans (congrArg some (by omega))) rfl) ?_
    refine ai ?_
    exact⟨⟨n+1,g1⟩,aW ⟨rfl,rfl,by rw[kq g1,eO,oY hs g4,ga h3];rfl,rfl,trivial⟩ ⟨rfl,trivial⟩ rfl,by show L.length-(n+1)<L.length-n;omega⟩
  ·have g2:j<O.length:=by have:=of_decide_eq_true hb2;omega
   refine ag (bH (us:=bk c) er rfl rfl (ct _) (aY _) rfl) ?_
   refine an 2<|ag (bb (us:=aA (O.getD j dPt)++bc aA (O.drop (j+1))) gM rfl rfl (by omega) (aX aM _) (ce aM (bR g2)) rfl) ?_
   refine ag (bS (us:=aA (O.getD j dPt)) cn rfl rfl rfl rfl) ?_
   refine an 2<|ag (bb (us:=aA (L.getD n dPt)++bc aA (L.drop (n+1))) gM rfl rfl (by omega) (aX aM _) (ce aM (bR g1)) rfl) ?_
   refine ag (bS (us:=aA (L.getD n dPt)) cn rfl rfl rfl rfl) ?_
   refine ag (aj rfl (Fs hc (GP.getD hO j) (GP.getD hL n)))<|bK<|ar<|ap ?_
   refine ay rfl (fun hc5=>?_) (fun hc5=>?_)
   ·have g3:(c).ord (O.getD j dPt) (L.getD n dPt)<0:=of_decide_eq_true hc5
    refine aq<|a8<|ab<|am 1<|ak (aJ (r:=((j+1:Nat):Int)) rfl rfl ((aT (by omega) (by omega)).trans (congrArg some (by omega))) rfl) ?_
    refine ai ?_
    exact⟨⟨j+1,g2,fun r hr=>(Nat.lt_succ_iff_lt_or_eq.1 hr).elim (h4 r) (fun e=>by rw[e];exact g3)⟩,aW ⟨rfl,rfl,rfl,rfl,rfl,trivial⟩ ⟨rfl,trivial⟩ rfl,by show O.length-(j+1)<O.length-j;omega⟩
   ·have g3: ¬(c).ord (O.getD j dPt) (L.getD n dPt)<0:=of_decide_eq_false hc5
    have hs:jK c (L.getD n dPt) O=j:=uP h3 h4 (.inr g3)
    refine cd<|aa<|aa<|aN 15 rfl rfl<|an 3<|ag (df (c:=true) (mm rfl) (decide_eq_true (by omega))) ?_
    refine an 3<|ag (bb (us:=aA (O.getD j dPt)++bc aA (O.drop (j+1))) gM rfl rfl (by omega) (aX aM _) (ce aM (bR g2)) rfl) ?_
    refine ag (bS (us:=aA (O.getD j dPt)) cn rfl rfl rfl rfl) ?_
    refine an 2<|ag (bb (us:=aA (L.getD n dPt)++bc aA (L.drop (n+1))) gM rfl rfl (by omega) (aX aM _) (ce aM (bR g1)) rfl) ?_
    refine ag (bS (us:=aA (L.getD n dPt)) cn rfl rfl rfl rfl) ?_
    refine ag (aj rfl (NS (GP.getD hO j) (GP.getD hL n)))<|bK<|ar<|ap ?_
    refine ay rfl (fun hc6=>?_) (fun hc6=>?_)
    ·have g4:cP (O.getD j dPt) (L.getD n dPt)=0:=by simpa using hc6
     refine cd<|ab<|am 1<|ak (aJ (r:=((n+1:Nat):Int)) rfl rfl ((aT (by omega) (by omega)).trans (congrArg some (by omega))) rfl) ?_
     refine ai ?_
     exact⟨⟨n+1,g1⟩,aW ⟨rfl,rfl,by rw[kq g1,eO,Jf hs g2 g4];rfl,rfl,trivial⟩ ⟨rfl,trivial⟩ rfl,by show L.length-(n+1)<L.length-n;omega⟩
    ·have g5:cP (O.getD j dPt) (L.getD n dPt)≠0:=by simpa using hc6
     have g4: ¬(j<O.length∧cP (O.getD j dPt) (L.getD n dPt)=0):=fun h=>g5 h.2
     refine aq ?_
     rcases Nat.eq_zero_or_pos j with hj0|hj0
     ·refine uX 15 [10,14] a7 (by kernel_rfl) rfl rfl<|dP rfl (lh gS rfl) rfl ?_
      refine dP rfl (ca rfl) rfl<|dP rfl (ca rfl) rfl<|dP rfl (nv (n':=0) (us':=[]) (iw (j:=(j:Int)) (n:=(O).length) (xs:=bc aA (O)) (us:=bc aA (O.take j)) gM rfl rfl (by omega) (aX aM _) (mP aM _ _) rfl) (by omega) (by rw[hj0];rfl)) rfl ?_
      refine dP rfl (nh gS rfl rfl rfl) rfl ?_
      refine dP rfl (ca rfl) rfl<|dP rfl (ca rfl) rfl<|dP rfl (bb (us:=aA (L.getD n dPt)++bc aA (L.drop (n+1))) gM rfl rfl (by omega) (aX aM _) (ce aM (bR g1)) rfl) rfl ?_
      refine dP rfl (bS (us:=aA (L.getD n dPt)) cn rfl rfl rfl rfl) rfl ?_
      refine dP rfl (cW (n:=1) (us:=aA (L.getD n dPt)) gS rfl rfl rfl (by decide) (by decide) rfl) rfl ?_
      refine sP rfl<|dP rfl (ca rfl) rfl<|dP rfl (ca rfl) rfl<|dP rfl (jM (j:=(j:Int)) (n:=(O).length) (xs:=bc aA (O)) (n':=O.length-j) (us:=bc aA (O.drop j)) gM rfl rfl (by omega) (aX aM _) (by omega) (kn aM _ _) rfl) rfl ?_
      refine sP rfl ?_
      refine v6 (x0:=.tmp 52) (t1:=58) (y1:=.tmp 57) (t2:=62) (y2:=.tmp 61) (N':=O.length+1) (zs':=bc aA (O.take j++(L.getD n dPt)::O.drop j)) gS (by decide) rfl rfl rfl rfl rfl rfl (rfl) (by rw[aX aM,List.length_drop]) (by kernel_rfl) (by kernel_rfl) (by decide) rfl rfl rfl rfl (by omega) (by rw[ow,hj0];rfl) (by omega) (oJ (by omega)) (fun cg7 rg7 hga7 hgb7 hgc7=>?_)
      refine ai<|fG (t:=5) (m:=20) (us:=bc aA (O.take j++(L.getD n dPt)::O.drop j)) rfl rfl (ss (n:=O.length+1) (by rw[aX aM,ga (by omega)]) (by assumption) (by omega)) (by omega) (by assumption) (nP (by rw[aX aM,ga (by omega)]))<|ab<|am 1<|ak (aJ (r:=((n+1:Nat):Int)) rfl rfl ((aT (by omega) (by omega)).trans (congrArg some (by omega))) rfl) ?_
      refine ai ?_
      exact⟨⟨n+1,g1⟩,aW ⟨rfl,rfl,by rw[kq g1,eO,oY hs g4,ga h3];rfl,rfl,trivial⟩ ⟨rfl,trivial⟩ rfl,by show L.length-(n+1)<L.length-n;omega⟩
     ·refine uX 15 [4,10,14] a7 (by kernel_rfl) rfl rfl<|dP rfl (lh gS rfl) rfl ?_
      refine dP rfl (ca rfl) rfl<|dP rfl (ca rfl) rfl<|dP rfl ((iw (j:=(j:Int)) (n:=(O).length) (xs:=bc aA (O)) (us:=bc aA (O.take j)) gM rfl rfl (by omega) (aX aM _) (mP aM _ _) rfl)) rfl ?_
      refine sP rfl<|dP rfl (ca rfl) rfl<|dP rfl (ca rfl) rfl<|dP rfl (bb (us:=aA (L.getD n dPt)++bc aA (L.drop (n+1))) gM rfl rfl (by omega) (aX aM _) (ce aM (bR g1)) rfl) rfl ?_
      refine dP rfl (bS (us:=aA (L.getD n dPt)) cn rfl rfl rfl rfl) rfl ?_
      refine dP rfl (cW (n:=1) (us:=aA (L.getD n dPt)) gS rfl rfl rfl (by decide) (by decide) rfl) rfl ?_
      refine sP rfl<|dP rfl (ca rfl) rfl<|dP rfl (ca rfl) rfl<|dP rfl (jM (j:=(j:Int)) (n:=(O).length) (xs:=bc aA (O)) (n':=O.length-j) (us:=bc aA (O.drop j)) gM rfl rfl (by omega) (aX aM _) (by omega) (kn aM _ _) rfl) rfl ?_
      refine sP rfl ?_
      refine x7 (x0:=.tmp 48) (t1:=52) (y1:=.tmp 51) (t2:=58) (y2:=.tmp 57) (t3:=62) (y3:=.tmp 61) (N':=O.length+1) (zs':=bc aA (O.take j++(L.getD n dPt)::O.drop j)) gS (by decide) rfl rfl rfl rfl rfl rfl rfl rfl (by rw[aX aM,List.length_take,Nat.min_eq_left h3];rfl) (rfl) (by rw[aX aM,List.length_drop]) (by kernel_rfl) (by kernel_rfl) (hj0) rfl rfl rfl rfl rfl rfl (by omega) (ow.symm) (by omega) (oJ (by omega)) (fun cg8 rg8 hga8 hgb8 hgc8=>?_)
      refine ai<|fG (t:=5) (m:=20) (us:=bc aA (O.take j++(L.getD n dPt)::O.drop j)) rfl rfl (ss (n:=O.length+1) (by rw[aX aM,ga (by omega)]) (by assumption) (by omega)) (by omega) (by assumption) (nP (by rw[aX aM,ga (by omega)]))<|ab<|am 1<|ak (aJ (r:=((n+1:Nat):Int)) rfl rfl ((aT (by omega) (by omega)).trans (congrArg some (by omega))) rfl) ?_
      refine ai ?_
      exact⟨⟨n+1,g1⟩,aW ⟨rfl,rfl,by rw[kq g1,eO,oY hs g4,ga h3];rfl,rfl,trivial⟩ ⟨rfl,trivial⟩ rfl,by show L.length-(n+1)<L.length-n;omega⟩
 ·have hi:L.length≤n:=by have:=of_decide_eq_false hc1;omega
  refine cd<|aa<|ab<|ai<|al ?_
  rw[←C4 (c:=c) (l:=L) hi]
  exact ao (aC ae)
theorem Gl {c:Cv}(hc:c.good) {L:List Pt}(hL: ∀p∈L,GP p) (lL:L.length≤90) (hon: ∀p∈L,(c).on p=true) (h2S:2≤(bJ c ([c.p,c.q]++L)).length):Ok Tryz.prog 23 [.a (bk c),.c (.s ((L).length) (bc aA (L)))] [.c (.s ((pG c L).length) (bc bk (pG c L))),.c (.i .i64 0)]:=by
 have gp_:=pf hc
 have gq_:=pj hc
 have hL2: ∀p∈ [c.p,c.q]++L,GP p:=fun p hp=>by
  rcases List.mem_append.1 hp with h|h
  ·simp only[List.mem_cons,List.not_mem_nil,or_false] at h
   rcases h with h|h<;>subst h<;>assumption
  ·exact hL p h
 have lS:(bJ c ([c.p,c.q]++L)).length≤92:=by
  have:=pK (c:=c) (l:=[c.p,c.q]++L)
  rw[List.length_append] at this
  exact Nat.le_trans this (by show 2+L.length≤92;omega)
 refine Ok.fn Tryz.func23 56 [.tmp 4,.tmp 5] rfl<|aa<|ab<|ai<|aa<|aa<|ab<|ai<|a8<|cz (ι:={n:Nat // n≤L.length}) (fun i=>⟨56,[(1,.v (.c (.s ((L).length) (bc aA (L))))),(2,.p 2 0),(6,.v (.c (.i .i64 (i.1:Int))))],[(2,39,bk c)]⟩) (fun i=>L.length-i.1) ⟨0,Nat.zero_le _⟩ (aW ⟨rfl,rfl,rfl,trivial⟩ ⟨rfl,trivial⟩ rfl) ?_
 rintro⟨n,h2⟩
 replace h2:n≤L.length:=h2
 show Dw _ _ ⟨56,[(1,.v (.c (.s ((L).length) (bc aA (L))))),(2,.p 2 0),(6,.v (.c (.i .i64 (n:Int))))],[(2,39,bk c)]⟩ _
 refine aa<|aa<|ab<|ai ?_
 refine ay rfl (fun hc1=>?_) (fun hc1=>?_)
 ·have g1:n<L.length:=by have:=of_decide_eq_true hc1;omega
  refine aq<|aa<|a8<|aa<|aN 7 rfl rfl<|ag (bH (us:=bk c) er rfl rfl (ct _) (aY _) rfl) ?_
  refine an 2<|ag (bb (us:=aA (L.getD n dPt)++bc aA (L.drop (n+1))) gM rfl rfl (by omega) (aX aM _) (ce aM (bR g1)) rfl) ?_
  refine ag (bS (us:=aA (L.getD n dPt)) cn rfl rfl rfl rfl) ?_
  refine ag (aj rfl (Fe (vU hc (GP.getD hL n)) (hon _ (j9 g1))))<|bK<|ar<|ap<|bj rfl<|aq<|ab<|am 1<|ak (aJ (r:=((n+1:Nat):Int)) rfl rfl ((aT (by omega) (by omega)).trans (congrArg some (by omega))) rfl) ?_
  refine ai ?_
  exact⟨⟨n+1,g1⟩,aW ⟨rfl,rfl,rfl,trivial⟩ ⟨rfl,trivial⟩ rfl,by show L.length-(n+1)<L.length-n;omega⟩
 ·refine cd<|aa<|aN 10 rfl rfl<|ag (bH (us:=bk c) er rfl rfl (ct _) (aY _) rfl) ?_
  refine an 1<|ag (bH (us:=aA c.p) cn rfl rfl (r9 _) rfl rfl) ?_
  refine an 1<|ag (bH (us:=aA c.q) cn rfl rfl (sA _) rfl rfl) ?_
  refine ag (yX (us:=aA c.p++aA c.q) gS rfl rfl rfl (by decide) (by decide) rfl) ?_
  refine an 1<|ag (nv (n':=([c.p,c.q]++L).length) (us':=bc aA ([c.p,c.q]++L)) (vw gS rfl rfl rfl (aX aM _) (by decide) (by decide) (by omega) (oJ (by omega)) rfl) (by rw[List.length_append];rfl) (by rw[iA];rfl)) ?_
  refine ag (aj rfl (Ap hc hL2 (by rw[List.length_append];show 2+L.length≤100;omega)))<|bK<|ar<|ap<|aa<|ab<|ak (kY rfl) ?_
  refine ap<|aa<|aa<|ab<|ai<|a8 ?_
  refine EN (ι:={x9:Nat×Nat×List CellD // x9.1+2≤(bJ c ([c.p,c.q]++L)).length∧x9.1+1≤x9.2.1∧x9.2.1≤maxLen∧x9.2.2.length=(x9.2.1-(x9.1+1))*66}) (fun i=>⟨56,[(2,.p 2 0),(7,.v (.c (.s (((bJ c ([c.p,c.q]++L))).length) (bc aA ((bJ c ([c.p,c.q]++L))))))),(8,.o 54 (i.1.1+1) i.1.2.1),(9,.v (.c (.i .i64 (((i.1.1+2:Nat):Int)))))],[(2,39,bk c),(54,39,bc bk (iI c ((bJ c ([c.p,c.q]++L)).take (i.1.1+2)))++i.1.2.2)]⟩) (fun i=>(bJ c ([c.p,c.q]++L)).length-i.1.1) ((bJ c ([c.p,c.q]++L)).length+1) ?_ ?_
  ·refine aa<|aa<|ab<|am 3<|ak (df (c:=true) (mm rfl) (decide_eq_true (by omega))) ?_
   refine ap<|bP rfl<|aq<|aa<|a8<|aa<|ab<|ak (bH (us:=bk c) er rfl rfl (ct _) (aY _) rfl) ?_
   refine az (ah iK rfl) rfl<|dd (dw er rfl rfl rfl (aY _) rfl rfl) ?_
   refine ap<|aa<|cm 11 [10,999999] a7 (by kernel_rfl) rfl rfl<|an 2<|ag (aJ (r:=0) rfl rfl rfl rfl) ?_
   refine ag (bb (us:=aA ((bJ c ([c.p,c.q]++L)).getD 0 dPt)++bc aA ((bJ c ([c.p,c.q]++L)).drop (0+1))) gM rfl rfl (by omega) (aX aM _) (ce aM (bR (by omega))) rfl) ?_
   refine ag (bS (us:=aA ((((bJ c ([c.p,c.q]++L)).getD 0 dPt)))) cn rfl rfl rfl rfl) ?_
   refine an 2<|ag (bb (us:=aA ((bJ c ([c.p,c.q]++L)).getD 1 dPt)++bc aA ((bJ c ([c.p,c.q]++L)).drop (1+1))) gM rfl rfl (by omega) (aX aM _) (ce aM (bR (by omega))) rfl) ?_
   refine ag (bS (us:=aA ((((bJ c ([c.p,c.q]++L)).getD 1 dPt)))) cn rfl rfl rfl rfl) ?_
   refine an 1<|fU (bn (us:=bk (c.setp ((((bJ c ([c.p,c.q]++L)).getD 0 dPt))))) cn rfl rfl rfl rfl (by rw[aY];decide) (ub _ _) rfl) rfl rfl rfl rfl ?_
   refine aR<|bg<|am 1<|dd (bn (us:=bk (c.ends ((((bJ c ([c.p,c.q]++L)).getD 0 dPt))) ((((bJ c ([c.p,c.q]++L)).getD 1 dPt))))) cn rfl rfl rfl rfl (by rw[aY];decide) (tY _ _ _) rfl) ?_
   refine ap<|ab<|am 1<|ak (bH (us:=bk (c.ends ((((bJ c ([c.p,c.q]++L)).getD 0 dPt))) ((((bJ c ([c.p,c.q]++L)).getD 1 dPt))))) er rfl rfl (ct _) (aY _) rfl) ?_
   refine ak (cW (n:=1) (us:=bk (c.ends ((((bJ c ([c.p,c.q]++L)).getD 0 dPt))) ((((bJ c ([c.p,c.q]++L)).getD 1 dPt))))) yB rfl (KD rfl (aY _)) (ot (aY _)) (by decide) (by decide) rfl) ?_
   refine rS (ys:=bk (c.ends ((((bJ c ([c.p,c.q]++L)).getD 0 dPt))) ((((bJ c ([c.p,c.q]++L)).getD 1 dPt))))) yB rfl rfl (ot (aY _)) (by decide) (by decide) (by decide) rfl rfl (fun cg2 rg2 hga2 hgb2 hgc2=>?_)
   refine ai<|ab<|am 1<|ak (aJ (r:=2) rfl rfl rfl rfl) ?_
   refine ai ?_
   exact⟨⟨⟨0,cg2,rg2⟩,by omega,by omega,hgb2,hgc2⟩,aW ⟨rfl,rfl,rfl,rfl,trivial⟩ ⟨rfl,by rw[o6 (i:=0) _ (by omega),CF,List.nil_append,oA];rfl,trivial⟩ rfl,by show(bJ c ([c.p,c.q]++L)).length-0<(bJ c ([c.p,c.q]++L)).length+1;omega⟩
  ·rintro⟨⟨n,cp,rs⟩,h3,h4,h5,h6⟩
   dsimp only at h3 h4 h5 h6
   show Dw _ _ ⟨56,[(2,.p 2 0),(7,.v (.c (.s (((bJ c ([c.p,c.q]++L))).length) (bc aA ((bJ c ([c.p,c.q]++L))))))),(8,.o 54 (n+1) cp),(9,.v (.c (.i .i64 (((n+2:Nat):Int)))))],[(2,39,bk c),(54,39,bc bk (iI c ((bJ c ([c.p,c.q]++L)).take (n+2)))++rs)]⟩ _
   refine aa<|aa<|ab<|ai ?_
   refine ay rfl (fun hc3=>?_) (fun hc3=>?_)
   ·have g2:n+2<(bJ c ([c.p,c.q]++L)).length:=by have:=of_decide_eq_true hc3;omega
    refine aq<|aa<|a8<|aa<|ab<|ak (bH (us:=bk c) er rfl rfl (ct _) (aY _) rfl) ?_
    refine az (ah iK rfl) rfl<|dd (dw er rfl rfl rfl (aY _) rfl rfl) ?_
    refine ap<|aa<|cm 11 [10,999999] a7 (by kernel_rfl) rfl rfl<|an 2<|ag (aJ (r:=((n+1:Nat):Int)) rfl rfl ((cj (by omega) (by omega)).trans (congrArg some (by omega))) rfl) ?_
    refine ag (bb (us:=aA ((bJ c ([c.p,c.q]++L)).getD (n+1) dPt)++bc aA ((bJ c ([c.p,c.q]++L)).drop ((n+1)+1))) gM rfl rfl (by omega) (aX aM _) (ce aM (bR (by omega))) rfl) ?_
    refine ag (bS (us:=aA ((((bJ c ([c.p,c.q]++L)).getD (n+1) dPt)))) cn rfl rfl rfl rfl) ?_
    refine an 2<|ag (bb (us:=aA ((bJ c ([c.p,c.q]++L)).getD (n+2) dPt)++bc aA ((bJ c ([c.p,c.q]++L)).drop ((n+2)+1))) gM rfl rfl (by omega) (aX aM _) (ce aM (bR (by omega))) rfl) ?_
    refine ag (bS (us:=aA ((((bJ c ([c.p,c.q]++L)).getD (n+2) dPt)))) cn rfl rfl rfl rfl) ?_
    refine an 1<|fU (bn (us:=bk (c.setp ((((bJ c ([c.p,c.q]++L)).getD (n+1) dPt))))) cn rfl rfl rfl rfl (by rw[aY];decide) (ub _ _) rfl) rfl rfl rfl rfl ?_
    refine aR<|bg<|am 1<|dd (bn (us:=bk (c.ends ((((bJ c ([c.p,c.q]++L)).getD (n+1) dPt))) ((((bJ c ([c.p,c.q]++L)).getD (n+2) dPt))))) cn rfl rfl rfl rfl (by rw[aY];decide) (tY _ _ _) rfl) ?_
    refine ap<|ab<|am 1<|ak (bH (us:=bk (c.ends ((((bJ c ([c.p,c.q]++L)).getD (n+1) dPt))) ((((bJ c ([c.p,c.q]++L)).getD (n+2) dPt))))) er rfl rfl (ct _) (aY _) rfl) ?_
    refine ak (cW (n:=1) (us:=bk (c.ends ((((bJ c ([c.p,c.q]++L)).getD (n+1) dPt))) ((((bJ c ([c.p,c.q]++L)).getD (n+2) dPt))))) yB rfl (KD rfl (aY _)) (ot (aY _)) (by decide) (by decide) rfl) ?_
    refine vL (us:=bc bk (iI c ((bJ c ([c.p,c.q]++L)).take (n+2)))) (rest:=rs) (ys:=bk (c.ends ((((bJ c ([c.p,c.q]++L)).getD (n+1) dPt))) ((((bJ c ([c.p,c.q]++L)).getD (n+2) dPt))))) yB rfl rfl rfl (by rw[aX aY,i7,List.length_take,Nat.min_eq_left (by omega)];rfl) (by assumption) (ot (aY _)) (by decide) (by omega) (by assumption) (by omega) (oJ (by omega)) (.inl rfl) rfl (fun cg4 rg4 hga4 hgb4 hgc4=>?_)
    refine ai<|ab<|am 1<|ak (aJ (r:=((n+1+2:Nat):Int)) rfl rfl ((aT (by omega) (by omega)).trans (congrArg some (by omega))) rfl) ?_
    refine ai ?_
    exact⟨⟨⟨n+1,cg4,rg4⟩,by omega,by omega,hgb4,hgc4⟩,aW ⟨rfl,rfl,rfl,rfl,trivial⟩ ⟨rfl,by rw[o6 (i:=n+1) _ (by omega),iA,oA];rfl,trivial⟩ rfl,by show(bJ c ([c.p,c.q]++L)).length-(n+1)<(bJ c ([c.p,c.q]++L)).length-n;omega⟩
   ·have g2:n+2=(bJ c ([c.p,c.q]++L)).length:=by have:=of_decide_eq_false hc3;omega
    refine cd<|aa<|ab<|ai<|fG (t:=4) (m:=66) (us:=bc bk (iI c ((bJ c ([c.p,c.q]++L)).take (n+2)))) rfl rfl (ss (n:=n+1) (by rw[aX aY,i7,List.length_take,Nat.min_eq_left (by omega)];rfl) (by assumption) (by omega)) (by omega) (by assumption) (nP (by rw[aX aY,i7,List.length_take,Nat.min_eq_left (by omega)];rfl))<|al ?_
    rw[show pG c L=iI c ((bJ c ([c.p,c.q]++L)).take (n+2)) from by rw[g2,List.take_length];rfl,show(iI c ((bJ c ([c.p,c.q]++L)).take (n+2))).length=n+1 from by rw[i7,List.length_take,Nat.min_eq_left (by omega)];rfl]
    exact ao (aC (aC ae))
theorem D9 {c:Cv}(hc:c.good):Ok Tryz.prog 8 [.a (bk c)] [.a (bk c.rev)]:=by
 cases c with
 |seg l f t=>exact LC hc.1 hc.2.1 hc.2.2
 |arc k w f t=>exact K6 hc.1 hc.2.1 hc.2.2
theorem GV {c d:Cv}(hc:c.good) (hd:d.good):Ok Tryz.prog 73 [.a (bk c),.a (bk d)] [.c (.b (fg c d))]:=by
 cases c with
 |seg l f t=>
  cases d with
  |seg m u v=>exact Dg hc.1 hc.2.1 hc.2.2 hd.1 hd.2.1 hd.2.2
  |arc d w2 u v=>exact E3 hc.1 hc.2.1 hc.2.2 hd.1 hd.2.1 hd.2.2
 |arc k w f t=>
  cases d with
  |seg m u v=>exact De hc.1 hc.2.1 hc.2.2 hd.1 hd.2.1 hd.2.2
  |arc d w2 u v=>exact E9 hc.1 hc.2.1 hc.2.2 hd.1 hd.2.1 hd.2.2
theorem LD {c d:Cv}(hc:c.good) (hd:d.good):Ok Tryz.prog 74 [.a (bk c),.a (bk d)] [.c (.s ((jf c d).length) (bc aA (jf c d))),.c (.i .i64 (yd c d))]:=by
 cases c with
 |seg l f t=>
  cases d with
  |seg m u v=>exact HJ hc.1 hc.2.1 hc.2.2 hd.1 hd.2.1 hd.2.2
  |arc d w2 u v=>exact Ih hc.1 hc.2.1 hc.2.2 hd.1 hd.2.1 hd.2.2
 |arc k w f t=>
  cases d with
  |seg m u v=>exact G6 hc.1 hc.2.1 hc.2.2 hd.1 hd.2.1 hd.2.2
  |arc d w2 u v=>exact IZ hc.1 hc.2.1 hc.2.2 hd.1 hd.2.1 hd.2.2
theorem Aq {c d:Cv}(hc:c.good) (hd:d.good):Ok Tryz.prog 22 [.a (bk c),.a (bk d)] [.c (.s (((ck c d)).length) (bc aA ((ck c d)))),.c (.b (rl c d))]:=by
 have hM: ∀p∈(aQ c d),GP p:=tv hc hd
 have lM:(aQ c d).length≤4:=qR
 have hML: ∀p∈(ck c d),GP p:=wC hc hd
 have lML:(ck c d).length≤4:=j4
 refine Ok.fn Tryz.func22 121 [.tmp 4,.tmp 5] rfl<|aa<|ab<|ai<|aa<|ab<|ak (bH (us:=bk c) er rfl rfl (ct _) (aY _) rfl) ?_
 refine ak (bH (us:=bk d) er rfl rfl (ct _) (aY _) rfl) ?_
 refine ak (aj rfl (GV hc hd))<|ai<|aa<|ab<|am 1<|ak (bH (us:=aA c.p) cn rfl rfl (r9 _) rfl rfl) ?_
 refine am 1<|ak (bH (us:=aA c.q) cn rfl rfl (sA _) rfl rfl) ?_
 refine am 1<|ak (bH (us:=aA d.p) cn rfl rfl (r9 _) rfl rfl) ?_
 refine am 1<|ak (bH (us:=aA d.q) cn rfl rfl (sA _) rfl rfl) ?_
 refine ak (cW (n:=4) (us:=aA c.p++aA c.q++aA d.p++aA d.q) gS rfl rfl rfl (by decide) (by decide) rfl) ?_
 refine ai ?_
 refine jF (ι:=Unit) (fun i=>⟨121,[(2,.p 2 0),(3,.p 3 0),(6,.v (.c (.b (fg c d)))),(7,.v (.c (.s (((aQ c d)).length) (bc aA ((aQ c d))))))],[(2,39,bk c),(3,39,bk d)]⟩) ?_ ?_
 ·refine aa<|ab<|ai ?_
  refine ay rfl (fun hc1=>?_) (fun hc1=>?_)
  ·have m0:aQ c d=jf c d:=Fh (by simpa using hc1)
   refine ab<|ak (bH (us:=bk c) er rfl rfl (ct _) (aY _) rfl) ?_
   refine ak (bH (us:=bk d) er rfl rfl (ct _) (aY _) rfl) ?_
   refine ak (aj rfl (LD hc hd))<|ai ?_
   exact⟨(),aW ⟨rfl,rfl,rfl,congrArg (fun q=>some (DV.v (.c (.s (List.length q) (bc aA q))))) m0.symm,trivial⟩ ⟨rfl,rfl,trivial⟩ rfl⟩
  ·have m0:aQ c d=[c.p,c.q,d.p,d.q]:=DL (by simpa using hc1)
   refine aq ?_
   exact⟨(),aW ⟨rfl,rfl,rfl,(congrArg (fun q=>some (DV.v (.c (.s 4 q)))) (Ng _ _ _ _)).trans (congrArg (fun q=>some (DV.v (.c (.s (List.length q) (bc aA q))))) m0.symm),trivial⟩ ⟨rfl,rfl,trivial⟩ rfl⟩
 ·rintro⟨⟩
  show Dw _ _ ⟨121,[(2,.p 2 0),(3,.p 3 0),(6,.v (.c (.b (fg c d)))),(7,.v (.c (.s (((aQ c d)).length) (bc aA ((aQ c d))))))],[(2,39,bk c),(3,39,bk d)]⟩ _
  refine aa<|ab<|ak (kY rfl) ?_
  refine ap ?_
  refine jF (ι:=Unit) (fun i=>⟨121,[(2,.p 2 0),(3,.p 3 0),(6,.v (.c (.b (fg c d)))),(8,.v (.c (.s ((((aQ c d).filter (cr c d))).length) (bc aA (((aQ c d).filter (cr c d)))))))],[(2,39,bk c),(3,39,bk d)]⟩) ?_ ?_
  ·refine aa<|ab<|ai<|a8 ?_
   refine cz (ι:=Sum ({n:Nat // n≤(aQ c d).length∧(((aQ c d).take n).filter (cr c d))=[]}) ({x9:Nat×Nat×List CellD // x9.1≤(aQ c d).length∧(((aQ c d).take x9.1).filter (cr c d)).length≤x9.2.1∧x9.2.1≤maxLen∧x9.2.2.length=(x9.2.1-(((aQ c d).take x9.1).filter (cr c d)).length)*20})) (fun i=>match i with| .inl i=>⟨121,[(2,.p 2 0),(3,.p 3 0),(6,.v (.c (.b (fg c d)))),(7,.v (.c (.s (((aQ c d)).length) (bc aA ((aQ c d)))))),(8,.z),(9,.v (.c (.i .i64 (i.1:Int))))],[(2,39,bk c),(3,39,bk d)]⟩| .inr i=>⟨121,[(2,.p 2 0),(3,.p 3 0),(6,.v (.c (.b (fg c d)))),(7,.v (.c (.s (((aQ c d)).length) (bc aA ((aQ c d)))))),(8,.o 58 ((((aQ c d).take i.1.1).filter (cr c d)).length) i.1.2.1),(9,.v (.c (.i .i64 (i.1.1:Int))))],[(2,39,bk c),(3,39,bk d),(58,37,bc aA (((aQ c d).take i.1.1).filter (cr c d))++i.1.2.2)]⟩) (fun i=>match i with| .inl i=>(aQ c d).length-i.1| .inr i=>(aQ c d).length-i.1.1) (.inl ⟨0,Nat.zero_le _,rfl⟩) (aW ⟨rfl,rfl,rfl,rfl,rfl,rfl,trivial⟩ ⟨rfl,rfl,trivial⟩ rfl) ?_
   rintro(⟨n,h2,h3⟩|⟨⟨n,cp,rs⟩,h2,h3,h4,h5⟩)
   ·replace h2:n≤(aQ c d).length:=h2
    replace h3:(((aQ c d).take n).filter (cr c d))=[]:=h3
    show Dw _ _ ⟨121,[(2,.p 2 0),(3,.p 3 0),(6,.v (.c (.b (fg c d)))),(7,.v (.c (.s (((aQ c d)).length) (bc aA ((aQ c d)))))),(8,.z),(9,.v (.c (.i .i64 (n:Int))))],[(2,39,bk c),(3,39,bk d)]⟩ _
    refine aa<|aa<|ab<|ai ?_
    refine ay rfl (fun hc2=>?_) (fun hc2=>?_)
    ·have g1:n<(aQ c d).length:=by have:=of_decide_eq_true hc2;omega
     refine aq<|aa<|a8<|aa<|aN 14 rfl rfl<|ag (bH (us:=bk c) er rfl rfl (ct _) (aY _) rfl) ?_
     refine an 2<|ag (bb (us:=aA ((aQ c d).getD n dPt)++bc aA ((aQ c d).drop (n+1))) gM rfl rfl (by omega) (aX aM _) (ce aM (bR g1)) rfl) ?_
     refine ag (bS (us:=aA ((((aQ c d).getD n dPt)))) cn rfl rfl rfl rfl) ?_
     refine ag (aj rfl (vU hc (GP.getD hM n))) ?_
     refine fI (ca rfl) (fun c3 hb3=>?_)
     cases c3
     ·have g2:(((aQ c d).take (n+1)).filter (cr c d))=(((aQ c d).take n).filter (cr c d)):=uZ g1 (Bj hb3)
      refine bK<|ar<|ap<|bj rfl<|aq<|ab<|am 1<|ak (aJ (r:=((n+1:Nat):Int)) rfl rfl ((aT (by omega) (by omega)).trans (congrArg some (by omega))) rfl) ?_
      refine ai ?_
      exact⟨.inl ⟨n+1,g1,by rw[g2];exact h3⟩,aW ⟨rfl,rfl,rfl,rfl,rfl,rfl,trivial⟩ ⟨rfl,rfl,trivial⟩ rfl,by show(aQ c d).length-(n+1)<(aQ c d).length-n;omega⟩
     ·refine ag (bH (us:=bk d) er rfl rfl (ct _) (aY _) rfl) ?_
      refine an 2<|ag (bb (us:=aA ((aQ c d).getD n dPt)++bc aA ((aQ c d).drop (n+1))) gM rfl rfl (by omega) (aX aM _) (ce aM (bR g1)) rfl) ?_
      refine ag (bS (us:=aA ((((aQ c d).getD n dPt)))) cn rfl rfl rfl rfl) ?_
      refine ag (aj rfl (vU hd (GP.getD hM n)))<|bK<|ar<|ap ?_
      refine ay rfl (fun hc4=>?_) (fun hc4=>?_)
      ·have g2:(((aQ c d).take (n+1)).filter (cr c d))=(((aQ c d).take n).filter (cr c d))++[((aQ c d).getD n dPt)]:=Fq g1 (Di hb3 hc4)
       refine ab<|am 3<|ak (bb (us:=aA ((aQ c d).getD n dPt)++bc aA ((aQ c d).drop (n+1))) gM rfl rfl (by omega) (aX aM _) (ce aM (bR g1)) rfl) ?_
       refine ak (bS (us:=aA ((((aQ c d).getD n dPt)))) cn rfl rfl rfl rfl) ?_
       refine ak (cW (n:=1) (us:=aA ((((aQ c d).getD n dPt)))) gS rfl rfl rfl (by decide) (by decide) rfl) ?_
       refine rS (ys:=aA ((((aQ c d).getD n dPt)))) gS rfl rfl rfl (by decide) (by decide) (by decide) rfl rfl (fun cg5 rg5 hga5 hgb5 hgc5=>?_)
       refine ai<|ab<|am 1<|ak (aJ (r:=((n+1:Nat):Int)) rfl rfl ((aT (by omega) (by omega)).trans (congrArg some (by omega))) rfl) ?_
       refine ai ?_
       exact⟨.inr ⟨⟨n+1,cg5,rg5⟩,g1,by show(((aQ c d).take (n+1)).filter (cr c d)).length≤cg5;rw[g2,h3];exact hga5,hgb5,by show rg5.length=(cg5-(((aQ c d).take (n+1)).filter (cr c d)).length)*20;rw[g2,h3];exact hgc5⟩,aW ⟨rfl,rfl,rfl,rfl,congrArg (fun q=>some (DV.o 58 q cg5)) (by rw[g2,h3];rfl),rfl,trivial⟩ ⟨rfl,rfl,congrArg (fun q=>some (37,q++rg5)) (by rw[g2,h3];exact(oA _).symm),trivial⟩ rfl,by show(aQ c d).length-(n+1)<(aQ c d).length-n;omega⟩
      ·have g2:(((aQ c d).take (n+1)).filter (cr c d))=(((aQ c d).take n).filter (cr c d)):=uZ g1 (Ag hc4)
       refine aq<|ab<|am 1<|ak (aJ (r:=((n+1:Nat):Int)) rfl rfl ((aT (by omega) (by omega)).trans (congrArg some (by omega))) rfl) ?_
       refine ai ?_
       exact⟨.inl ⟨n+1,g1,by rw[g2];exact h3⟩,aW ⟨rfl,rfl,rfl,rfl,rfl,rfl,trivial⟩ ⟨rfl,rfl,trivial⟩ rfl,by show(aQ c d).length-(n+1)<(aQ c d).length-n;omega⟩
    ·have g1:(aQ c d).length≤n:=by have:=of_decide_eq_false hc2;omega
     have m1:((aQ c d).filter (cr c d))=[]:=by rw[←h3,List.take_of_length_le g1]
     refine Dd (t:=8) rfl<|cd ?_
     exact⟨(),aW ⟨rfl,rfl,rfl,congrArg (fun q=>some (DV.v (.c (.s (List.length q) (bc aA q))))) m1.symm,trivial⟩ ⟨rfl,rfl,trivial⟩ rfl⟩
   ·dsimp only at h2 h3 h4 h5
    have h6:(((aQ c d).take n).filter (cr c d)).length≤4:=Nat.le_trans (List.length_filter_le _ _) (by rw[List.length_take];omega)
    show Dw _ _ ⟨121,[(2,.p 2 0),(3,.p 3 0),(6,.v (.c (.b (fg c d)))),(7,.v (.c (.s (((aQ c d)).length) (bc aA ((aQ c d)))))),(8,.o 58 ((((aQ c d).take n).filter (cr c d)).length) cp),(9,.v (.c (.i .i64 (n:Int))))],[(2,39,bk c),(3,39,bk d),(58,37,bc aA (((aQ c d).take n).filter (cr c d))++rs)]⟩ _
    refine aa<|aa<|ab<|ai ?_
    refine ay rfl (fun hc6=>?_) (fun hc6=>?_)
    ·have g1:n<(aQ c d).length:=by have:=of_decide_eq_true hc6;omega
     refine aq<|aa<|a8<|aa<|aN 14 rfl rfl<|ag (bH (us:=bk c) er rfl rfl (ct _) (aY _) rfl) ?_
     refine an 2<|ag (bb (us:=aA ((aQ c d).getD n dPt)++bc aA ((aQ c d).drop (n+1))) gM rfl rfl (by omega) (aX aM _) (ce aM (bR g1)) rfl) ?_
     refine ag (bS (us:=aA ((((aQ c d).getD n dPt)))) cn rfl rfl rfl rfl) ?_
     refine ag (aj rfl (vU hc (GP.getD hM n))) ?_
     refine fI (ca rfl) (fun c7 hb7=>?_)
     cases c7
     ·have g2:(((aQ c d).take (n+1)).filter (cr c d))=(((aQ c d).take n).filter (cr c d)):=uZ g1 (Bj hb7)
      refine bK<|ar<|ap<|bj rfl<|aq<|ab<|am 1<|ak (aJ (r:=((n+1:Nat):Int)) rfl rfl ((aT (by omega) (by omega)).trans (congrArg some (by omega))) rfl) ?_
      refine ai ?_
      exact⟨.inr ⟨⟨n+1,cp,rs⟩,g1,by show(((aQ c d).take (n+1)).filter (cr c d)).length≤cp;rw[g2];exact h3,h4,by show rs.length=(cp-(((aQ c d).take (n+1)).filter (cr c d)).length)*20;rw[g2];exact h5⟩,aW ⟨rfl,rfl,rfl,rfl,congrArg (fun q=>some (DV.o 58 q cp)) (by rw[g2]),rfl,trivial⟩ ⟨rfl,rfl,congrArg (fun q=>some (37,q++rs)) (by rw[g2]),trivial⟩ rfl,by show(aQ c d).length-(n+1)<(aQ c d).length-n;omega⟩
     ·refine ag (bH (us:=bk d) er rfl rfl (ct _) (aY _) rfl) ?_
      refine an 2<|ag (bb (us:=aA ((aQ c d).getD n dPt)++bc aA ((aQ c d).drop (n+1))) gM rfl rfl (by omega) (aX aM _) (ce aM (bR g1)) rfl) ?_
      refine ag (bS (us:=aA ((((aQ c d).getD n dPt)))) cn rfl rfl rfl rfl) ?_
      refine ag (aj rfl (vU hd (GP.getD hM n)))<|bK<|ar<|ap ?_
      refine ay rfl (fun hc8=>?_) (fun hc8=>?_)
      ·have g2:(((aQ c d).take (n+1)).filter (cr c d))=(((aQ c d).take n).filter (cr c d))++[((aQ c d).getD n dPt)]:=Fq g1 (Di hb7 hc8)
       refine ab<|am 3<|ak (bb (us:=aA ((aQ c d).getD n dPt)++bc aA ((aQ c d).drop (n+1))) gM rfl rfl (by omega) (aX aM _) (ce aM (bR g1)) rfl) ?_
       refine ak (bS (us:=aA ((((aQ c d).getD n dPt)))) cn rfl rfl rfl rfl) ?_
       refine ak (cW (n:=1) (us:=aA ((((aQ c d).getD n dPt)))) gS rfl rfl rfl (by decide) (by decide) rfl) ?_
       refine vL (us:=bc aA (((aQ c d).take n).filter (cr c d))) (rest:=rs) (ys:=aA ((((aQ c d).getD n dPt)))) gS rfl rfl rfl (aX aM _) (by assumption) rfl (by decide) (by omega) (by assumption) (by omega) (oJ (by omega)) (.inl rfl) rfl (fun cg9 rg9 hga9 hgb9 hgc9=>?_)
       refine ai<|ab<|am 1<|ak (aJ (r:=((n+1:Nat):Int)) rfl rfl ((aT (by omega) (by omega)).trans (congrArg some (by omega))) rfl) ?_
       refine ai ?_
       exact⟨.inr ⟨⟨n+1,cg9,rg9⟩,g1,by show(((aQ c d).take (n+1)).filter (cr c d)).length≤cg9;rw[g2,List.length_append];exact hga9,hgb9,by show rg9.length=(cg9-(((aQ c d).take (n+1)).filter (cr c d)).length)*20;rw[g2,List.length_append];exact hgc9⟩,aW ⟨rfl,rfl,rfl,rfl,congrArg (fun q=>some (DV.o 58 q cg9)) (by rw[g2,List.length_append];rfl),rfl,trivial⟩ ⟨rfl,rfl,congrArg (fun q=>some (37,q++rg9)) (by rw[g2,iA,oA]),trivial⟩ rfl,by show(aQ c d).length-(n+1)<(aQ c d).length-n;omega⟩
      ·have g2:(((aQ c d).take (n+1)).filter (cr c d))=(((aQ c d).take n).filter (cr c d)):=uZ g1 (Ag hc8)
       refine aq<|ab<|am 1<|ak (aJ (r:=((n+1:Nat):Int)) rfl rfl ((aT (by omega) (by omega)).trans (congrArg some (by omega))) rfl) ?_
       refine ai ?_
       exact⟨.inr ⟨⟨n+1,cp,rs⟩,g1,by show(((aQ c d).take (n+1)).filter (cr c d)).length≤cp;rw[g2];exact h3,h4,by show rs.length=(cp-(((aQ c d).take (n+1)).filter (cr c d)).length)*20;rw[g2];exact h5⟩,aW ⟨rfl,rfl,rfl,rfl,congrArg (fun q=>some (DV.o 58 q cp)) (by rw[g2]),rfl,trivial⟩ ⟨rfl,rfl,congrArg (fun q=>some (37,q++rs)) (by rw[g2]),trivial⟩ rfl,by show(aQ c d).length-(n+1)<(aQ c d).length-n;omega⟩
    ·have g1:(aQ c d).length≤n:=by have:=of_decide_eq_false hc6;omega
     have m1:((aQ c d).filter (cr c d))=(((aQ c d).take n).filter (cr c d)):=by rw[List.take_of_length_le g1]
     refine fG (t:=8) (m:=20) (us:=bc aA (((aQ c d).take n).filter (cr c d))) rfl rfl (ss (n:=(((aQ c d).take n).filter (cr c d)).length) (aX aM _) (by assumption) (by omega)) (by omega) (by assumption) (nP (aX aM _))<|cd ?_
     exact⟨(),aW ⟨rfl,rfl,rfl,congrArg (fun q=>some (DV.v (.c (.s (List.length q) (bc aA q))))) m1.symm,trivial⟩ ⟨rfl,rfl,trivial⟩ rfl⟩
  ·rintro⟨⟩
   show Dw _ _ ⟨121,[(2,.p 2 0),(3,.p 3 0),(6,.v (.c (.b (fg c d)))),(8,.v (.c (.s ((((aQ c d).filter (cr c d))).length) (bc aA (((aQ c d).filter (cr c d)))))))],[(2,39,bk c),(3,39,bk d)]⟩ _
   refine aa<|ab<|ak (bH (us:=bk c) er rfl rfl (ct _) (aY _) rfl) ?_
   refine am 1<|ak (aj rfl (Ap hc (fun p hp=>hM p (List.mem_filter.1 hp).1) (Nat.le_trans (List.length_filter_le _ _) (by omega))))<|ai<|aa<|ab<|ai ?_
   refine jF (ι:=Unit) (fun i=>⟨121,[(3,.p 3 0),(6,.v (.c (.b (fg c d)))),(8,.v (.c (.s (((ck c d)).length) (bc aA ((ck c d)))))),(10,.v (.c (.b false)))],[(3,39,bk (et c d))]⟩) ?_ ?_
   ·refine aa<|aN 31 rfl rfl<|an 1<|ag (ez Fc rfl rfl (l6 _) rfl) ?_
    refine fI (ca rfl) (fun c10 hb10=>?_)
    cases c10
    ·refine an 12<|ag (ez Fc rfl rfl (l6 _) rfl) ?_
     refine an 1 ?_
     refine fI (ca rfl) (fun c11 hb11=>?_)
     cases c11
     ·exact absurd hb11 (by rw[hb10];decide)
     ·refine an 1<|ag (bH (us:=aA c.p) cn rfl rfl (r9 _) rfl rfl) ?_
      refine an 1<|ag (bH (us:=aA c.q) cn rfl rfl (sA _) rfl rfl) ?_
      refine ag (aj rfl (pp (pf hc) (pj hc)))<|an 1<|ag (bH (us:=aA d.p) cn rfl rfl (r9 _) rfl rfl) ?_
      refine an 1<|ag (bH (us:=aA d.q) cn rfl rfl (sA _) rfl rfl) ?_
      refine ag (aj rfl (pp (pf hd) (pj hd)))<|bK<|ar<|ap ?_
      refine ay rfl (fun hc12=>?_) (fun hc12=>?_)
      ·have m2:(et c d)=d.rev:=Qk hb10 hc12
       refine ab<|ak (bH (us:=bk d) er rfl rfl (ct _) (aY _) rfl) ?_
       refine ak (aj rfl (D9 hd))<|dd (dw er rfl rfl rfl (aY _) (aY _) rfl) ?_
       refine ap ?_
       exact⟨(),aW ⟨rfl,rfl,rfl,rfl,trivial⟩ ⟨congrArg (fun q=>some (39,bk q)) m2.symm,trivial⟩ rfl⟩
      ·have m2:(et c d)=d:=PD hb10 hc12
       refine aq ?_
       exact⟨(),aW ⟨rfl,rfl,rfl,rfl,trivial⟩ ⟨congrArg (fun q=>some (39,bk q)) m2.symm,trivial⟩ rfl⟩
    ·refine an 1<|ag (ez Fc rfl rfl (l6 _) rfl) ?_
     refine an 1 ?_
     refine fI (ca rfl) (fun c13 hb13=>?_)
     cases c13
     ·refine an 8<|ag (ez Fc rfl rfl (l6 _) rfl) ?_
      refine an 1 ?_
      refine fI (ca rfl) (fun c14 hb14=>?_)
      cases c14
      ·have m2:(et c d)=d:=QF hb10 hb13
       refine bK<|ar<|ap<|bj rfl<|aq ?_
       exact⟨(),aW ⟨rfl,rfl,rfl,rfl,trivial⟩ ⟨congrArg (fun q=>some (39,bk q)) m2.symm,trivial⟩ rfl⟩
      ·exact absurd hb14 (by rw[hb10];decide)
     ·refine an 1<|ag (ez Fc rfl rfl (A5 _) rfl) ?_
      refine an 1<|ag (ez Fc rfl rfl (A5 _) rfl) ?_
      refine ag (eo rfl rfl eB rfl) ?_
      refine an 1 ?_
      refine fI (ca rfl) (fun c15 hb15=>?_)
      cases c15
      ·refine an 1<|ag (ez Fc rfl rfl (l6 _) rfl) ?_
       refine an 1 ?_
       refine fI (ca rfl) (fun c16 hb16=>?_)
       cases c16
       ·have m2:(et c d)=d:=PF hb10 hb13 hb15
        refine bK<|ar<|ap<|bj rfl<|aq ?_
        exact⟨(),aW ⟨rfl,rfl,rfl,rfl,trivial⟩ ⟨congrArg (fun q=>some (39,bk q)) m2.symm,trivial⟩ rfl⟩
       ·exact absurd hb16 (by rw[hb10];decide)
      ·have m2:(et c d)=d.rev:=PS hb10 hb13 hb15
       refine bK<|ar<|ap<|bP rfl<|ab<|ak (bH (us:=bk d) er rfl rfl (ct _) (aY _) rfl) ?_
       refine ak (aj rfl (D9 hd))<|dd (dw er rfl rfl rfl (aY _) (aY _) rfl) ?_
       refine ap ?_
       exact⟨(),aW ⟨rfl,rfl,rfl,rfl,trivial⟩ ⟨congrArg (fun q=>some (39,bk q)) m2.symm,trivial⟩ rfl⟩
   ·rintro⟨⟩
    show Dw _ _ ⟨121,[(3,.p 3 0),(6,.v (.c (.b (fg c d)))),(8,.v (.c (.s (((ck c d)).length) (bc aA ((ck c d)))))),(10,.v (.c (.b false)))],[(3,39,bk (et c d))]⟩ _
    refine aa<|aa<|ab<|ai<|a8<|cz (ι:={r:Nat //(r=0∨r+1≤(ck c d).length)∧(fg c d=false→r=0)}) (fun i=>⟨121,[(3,.p 3 0),(6,.v (.c (.b (fg c d)))),(8,.v (.c (.s (((ck c d)).length) (bc aA ((ck c d)))))),(10,.v (.c (.b (Bh (et c d) (ck c d) i.1)))),(11,.v (.c (.i .i64 (((i.1+1:Nat):Int)))))],[(3,39,bk (et c d))]⟩) (fun i=>(ck c d).length-i.1) ⟨0,.inl rfl,fun _=>rfl⟩ (aW ⟨rfl,rfl,rfl,rfl,rfl,trivial⟩ ⟨rfl,trivial⟩ rfl) ?_
    rintro⟨r,h2,h3⟩
    replace h2:r=0∨r+1≤(ck c d).length:=h2
    replace h3:fg c d=false→r=0:=h3
    show Dw _ _ ⟨121,[(3,.p 3 0),(6,.v (.c (.b (fg c d)))),(8,.v (.c (.s (((ck c d)).length) (bc aA ((ck c d)))))),(10,.v (.c (.b (Bh (et c d) (ck c d) r)))),(11,.v (.c (.i .i64 (((r+1:Nat):Int)))))],[(3,39,bk (et c d))]⟩ _
    refine aa<|aa<|ab<|am 1 ?_
    refine dh (ca rfl) (fun c17 hb17=>?_)
    cases c17
    ·have m3:rl c d=false:=Ht hb17
     refine ai<|bj rfl<|cd<|aa<|ab<|ai<|al ?_
     rw[show rl c d=Bh (et c d) (ck c d) r from by rw[m3,h3 hb17];rfl]
     exact ao (aC (aC ae))
    ·have m4:fg c d=true:=hb17
     refine ai ?_
     refine ay rfl (fun hc18=>?_) (fun hc18=>?_)
     ·have g3:r+1<(ck c d).length:=by have:=of_decide_eq_true hc18;omega
      refine aq<|aa<|a8<|aN 16 rfl rfl<|an 1 ?_
      refine fI (ca rfl) (fun c19 hb19=>?_)
      cases c19
      ·have g4:Bh (et c d) (ck c d) (r+1)=decide ((et c d).ord ((ck c d).getD r dPt) ((ck c d).getD (r+1) dPt)<0):=Pc hb19
       refine ag (bH (us:=bk (et c d)) er rfl rfl (ct _) (aY _) rfl) ?_
       refine an 2<|ag (aJ (r:=((r:Nat):Int)) rfl rfl ((cj (by omega) (by omega)).trans (congrArg some (by omega))) rfl) ?_
       refine ag (bb (us:=aA ((ck c d).getD r dPt)++bc aA ((ck c d).drop (r+1))) gM rfl rfl (by omega) (aX aM _) (ce aM (bR (by omega))) rfl) ?_
       refine ag (bS (us:=aA ((((ck c d).getD r dPt)))) cn rfl rfl rfl rfl) ?_
       refine an 2<|ag (bb (us:=aA ((ck c d).getD (r+1) dPt)++bc aA ((ck c d).drop ((r+1)+1))) gM rfl rfl (by omega) (aX aM _) (ce aM (bR (by omega))) rfl) ?_
       refine ag (bS (us:=aA ((((ck c d).getD (r+1) dPt)))) cn rfl rfl rfl rfl) ?_
       refine ag (aj rfl (Fs (zD hd) (GP.getD hML _) (GP.getD hML _)))<|bK<|ar<|ap<|ab<|am 1<|ak (aJ (r:=((r+1+1:Nat):Int)) rfl rfl ((aT (by omega) (by omega)).trans (congrArg some (by omega))) rfl) ?_
       refine ai ?_
       exact⟨⟨r+1,.inr (by omega),fun h=>absurd h (by rw[m4];decide)⟩,aW ⟨rfl,rfl,rfl,congrArg (fun q=>some (DV.v (.c (.b q)))) g4.symm,rfl,trivial⟩ ⟨rfl,trivial⟩ rfl,by show(ck c d).length-(r+1)<(ck c d).length-r;omega⟩
      ·have g4:Bh (et c d) (ck c d) (r+1)=true:=MZ hb19
       refine bK<|ar<|ap<|ab<|am 1<|ak (aJ (r:=((r+1+1:Nat):Int)) rfl rfl ((aT (by omega) (by omega)).trans (congrArg some (by omega))) rfl) ?_
       refine ai ?_
       exact⟨⟨r+1,.inr (by omega),fun h=>absurd h (by rw[m4];decide)⟩,aW ⟨rfl,rfl,rfl,congrArg (fun q=>some (DV.v (.c (.b q)))) g4.symm,rfl,trivial⟩ ⟨rfl,trivial⟩ rfl,by show(ck c d).length-(r+1)<(ck c d).length-r;omega⟩
     ·have g3:(ck c d).length≤r+1:=by have:=of_decide_eq_false hc18;omega
      refine cd<|aa<|ab<|ai<|al ?_
      rw[Ie hb17 (by omega:(ck c d).length-1=r)]
      exact ao (aC (aC ae))
end Go.Proofs.YtacopbfkmnpfgaaGreat
