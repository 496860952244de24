/-Plain:two monotone arcs beside a common point:their order at an x is the specified one. -/
import Derived.Test.YtegeknjkgadehaaGreatTwN
namespace Go.Proofs.YtegeknjkgadehaaGreat
open Go Go.RowKit
variable {k:Ci}{c d:Cv}{rs:List CellD}{l:Ln}{j p:Nat}{f q t x:Pt}
section
variable {c:Cv}{G:Pt->Prop}(gc: ∀p,G p->0<=p.c) (anti: ∀p q,G p->G q->c.ord q p= -c.ord p q) (tr: ∀p q r,G p->G q->G r->OQ (c.ord p q) (c.ord q r) (c.ord p r)=true) (zero: ∀p q,G p->G q->c.ord p q=0->cP p q=0)
include anti tr zero
theorem G5 {x:Pt}(D:G x): ∀ {S:List Pt},(∀y∈S,G y)->S.Pairwise (fun p q=>c.ord p q<0)->(fS c S x).Pairwise (fun p q=>c.ord p q<0)
 |[],_,_=>by rw[Bf];exact List.pairwise_singleton _ _
 |o::l,hS,hp=>by
  have E:=hS o (by simp);have hl: ∀y∈l,G y:=fun y u=>hS y (by simp[u]);obtain⟨H,J⟩:=vG.1 hp;by_cases h:c.ord o x<0
  ·rw[xw h];refine vG.2 ⟨fun y u=>?_,G5 D hl J⟩;rcases rq u with g|g;·exact H y g
   ·rw[g];exact h
  ·rw[wP h];split;·exact hp
   ·rename_i I;have N:=anti o x E D;have K:c.ord o x≠0:=fun e=>I (zero o x E D e);refine vG.2 ⟨fun y u=>?_,hp⟩;rcases dO.1 u with g|g;·rw[g];omega
    ·exact Et (tr x o y D E (hl y g)) (by omega) (Int.le_of_lt (H y g))
include gc
theorem DD: ∀(L:List Pt) {S:List Pt},(∀y∈L,G y)->(∀y∈S,G y)->S.Pairwise (fun p q=>c.ord p q<0)->
 (L.foldl (fS c) S).Pairwise (fun p q=>c.ord p q<0)/\(∀y∈S,y∈L.foldl (fS c) S)/\ ∀y∈L,∃z∈L.foldl (fS c) S,cP z y=0
 |[],S,_,_,hp=>⟨hp,fun y g=>g,fun y g=>by cases g⟩
 |x::L,S,hL,hS,hp=>by
  have D:=hL x (by simp);have u: ∀y∈fS c S x,G y:=fun y g=>(rq g).elim (hS y) (fun e=>e▸D);obtain⟨N,E,I⟩:=DD L (S:=fS c S x) (fun y g=>hL y (by simp[g])) u (G5 anti tr zero D hS hp);obtain⟨K,y,J,H⟩:=BT (c:=c) (x:=x) (gc x D) (S:=S);rw[sP];refine⟨N,fun z h=>E z (K z h),fun z h=>?_⟩;rcases dO.1 h with e|e;·rw[e];exact⟨y,E y J,H⟩
  ·exact I z e
theorem SB (vc:CvV c) (_gp: ∀p,G p->GP p) (a2:G c.p) (J:G c.q) {L:List Pt}(hL: ∀y∈L,G y/\c.on y=true) (N: ∀y,G y->c.ord c.p y<=0) (hd:d∈fz c L):
 ∃p q,G p/\G q/\d=c.ends p q/\c.ord p q<0/\ ∀x,G x->c.ord p x<0->c.ord x q<0->c.ord c.p x<0/\c.ord x c.q<0/\ ∀y∈L,cP y x≠0:=by
 have hG: ∀y∈ [c.p,c.q]++L,G y:=fun y E=>by
  rcases iN.1 E with h|h
  ·simp only[dO,tH,or_false] at h;rcases h with h|h<;>rw[h]<;>assumption
  ·exact(hL y h).1
 have hT: ∀y∈ [c.p,c.q]++L,c.ord y c.q<=0:=fun y E=>by
  rcases iN.1 E with h|h
  ·simp only[dO,tH,or_false] at h;rcases h with h|h;·rw[h];exact N _ J
   ·rw[h];have:=anti c.q c.q J J;omega
  ·have h2:=(hL y h).2;unfold Cv.on at h2;rw[de] at h2;exact of_decide_eq_true h2.2
 obtain⟨hs,_,W⟩:=DD gc anti tr zero ([c.p,c.q]++L) (S:=[]) hG (fun y E=>by cases E) .nil
 obtain⟨A,p,q,B,eS,e⟩:=tQ hd
 have eS:([c.p,c.q]++L).foldl (fS c) []=A++p::q::B:=eS
 have u: ∀y∈A++p::q::B,y∈ [c.p,c.q]++L:=fun y E=>mT (c:=c) (by show y∈([c.p,c.q]++L).foldl (fS c) [];rw[eS];exact E)
 have U:=hG p (u p (by simp))
 have oq:=hG q (u q (by simp))
 rw[eS] at hs W
 obtain⟨hA,a0,a3⟩:=List.pairwise_append.1 hs
 obtain⟨a5,a1⟩:=vG.1 a0
 refine⟨p,q,U,oq,e,a5 q (by simp),fun x I r1 r2=>⟨FN (tr c.p p x a2 U I) (N p U) r1,Et (tr x q c.q I oq J) r2 (hT q (u q (by simp))),fun H R a4=>?_⟩⟩
 obtain⟨y,E,ey⟩:=W H (iN.2 (.inr R))
 have K:=hG y (u y E)
 have D:=(hL H R).1
 have z1:c.ord y H=0:=xj (gc y K) (gc H D) ey vc.g
 have z2:c.ord H x=0:=xj (gc H D) (gc x I) a4 vc.g
 have zy:c.ord y x<=0:=ZH (tr y H x K D I) (by omega) (by omega)
 have zx:c.ord x y<=0:=ZH (tr x H y I D K) (by have:=anti H x D I;omega) (by have:=anti y H K D;omega)
 have a6:=anti p x U I
 rcases iN.1 E with g|g
 ·have l1:c.ord y p<0:=a3 y g p (by simp)
  have:=FN (tr x y p I K U) (by omega) l1
  omega
 ·rcases dO.1 g with g|g
  ·grind
  ·rcases dO.1 g with g|g
   ·grind
   ·have l1:c.ord q y<0:=(vG.1 a1).1 y g
    have:=Et (tr q y x oq K I) l1 (by omega)
    grind
end
section
variable {α:Type}(e:α) (C:α->α->Int)
def Cq (x:α) (out:List α):Nat->Nat
 |0=>0
 |k+1=>if C x (out.getD k e)<0 then Cq x out k else k+1
def IA (out:List α) (x:α):List α:=out.take (Cq e C x out out.length)++x::out.drop (Cq e C x out out.length)
def ij (L:List α):List α:=L.foldl (IA e C) []
def EB (out rest:List α) (x:α) (j:Nat):List α:=out.take j++x::(out.drop j++rest)
def Oy (L:List α) (p:Nat):List α:=ij e C (L.take p)++L.drop p
variable {e C}
theorem ZU {x:α}{out:List α}(g:0<j) (h:C x (out.getD (j-1) e)<0):Cq e C x out j=Cq e C x out (j-1):=by
 match j,g with
 |j+1,_=>exact if_pos h
theorem PH {x:α}{out:List α}(h:j=0\/ ¬C x (out.getD (j-1) e)<0):Cq e C x out j=j:=by
 match j with
 |0=>rfl
 |j+1=>
  rcases h with h|h;·omega
  ·exact if_neg h
theorem RA (out:List α) (x:α):(IA e C out x).length=out.length+1:=by unfold IA;grind
theorem Ek: ∀(L O:List α),(L.foldl (IA e C) O).length=O.length+L.length
 |[],O=>rfl
 |x::L,O=>by rw[sP,Ek L,RA,v5];omega
theorem ug (L:List α):(ij e C L).length=L.length:=by unfold ij;rw[Ek];simp
theorem PI {L:List α}(h:p<L.length):ij e C (L.take (p+1))=IA e C (ij e C (L.take p)) (L.getD p e):=by unfold ij;rw[uc (d:=e) h,List.foldl_append];rfl
theorem LG {L:List α}(h:p<=L.length):(Oy e C L p).length=L.length:=by unfold Oy;rw[dc,ug,eu,eP];omega
theorem VG (L:List α):Oy e C L L.length=ij e C L:=by unfold Oy;simp
theorem Xp {L:List α}(h:p<L.length):Oy e C L p=EB (ij e C (L.take p)) (L.drop (p+1)) (L.getD p e) p:=by
 have hl:(ij e C (L.take p)).length=p:=by rw[ug,eu,dK (Nat.le_of_lt h)]
 unfold Oy EB;rw[show(ij e C (L.take p)).take p=ij e C (L.take p) from f9 (Nat.le_of_eq hl),show(ij e C (L.take p)).drop p=[] from pG (Nat.le_of_eq hl),rI,oG h,List.getD,dY h];rfl
theorem HA {L:List α}(h:p<L.length) (g:Cq e C (L.getD p e) (ij e C (L.take p)) p=j):EB (ij e C (L.take p)) (L.drop (p+1)) (L.getD p e) j=Oy e C L (p+1):=by
 have hl:(ij e C (L.take p)).length=p:=by rw[ug,eu,dK (Nat.le_of_lt h)]
 unfold Oy EB;rw[PI h];unfold IA;grind
section
variable {out rest:List α}{x:α}{j:Nat}
theorem n7 (g:j<=out.length):(EB out rest x j).length=out.length+1+rest.length:=by unfold EB;grind
theorem T7 (g:j<=out.length):(EB out rest x j).getD j e=x:=by unfold EB;grind
theorem OZ (g:0<j) (h:j<=out.length):(EB out rest x j).getD (j-1) e=out.getD (j-1) e:=by unfold EB;grind
theorem abP (D:0<j) (g:j<=out.length):((EB out rest x j).set j (out.getD (j-1) e)).set (j-1) x=EB out rest x (j-1):=by
 obtain⟨k,rfl⟩: ∃k,j=k+1:=⟨j-1,by omega⟩;have u:k<out.length:=by omega
 rw[Nat.add_sub_cancel];apply List.ext_getElem?;intro q;rw[List.getElem?_set,List.getElem?_set,List.length_set,n7 g];have h:(out.take k).length=k:=by grind
 unfold EB;by_cases y:k=q;·grind
 grind
end
theorem Oq (out:List α) (x:α):(IA e C out x).Perm (x::out):=by exact List.perm_middle.trans (by rw[v8])
theorem Cg: ∀(L O:List α),(L.foldl (IA e C) O).Perm (O++L)
 |[],O=>by simp
 |x::L,O=>by rw[sP];exact(Cg L _).trans (((Oq O x).append_right L).trans List.perm_middle.symm)
theorem EG (L:List α):(ij e C L).Perm L:=Cg L []
variable {enc:α->List CellD}{m:Nat}
theorem xr (h: ∀x,(enc x).length=m) {O:List α}(g:j<O.length):((am enc O++rs).drop (j*m)).take m=enc (O.getD j e):=by have hl:=ak h O;have u:(j+1)*m<=O.length*m:=mE _ g;rw[iP] at u;rw[ui (by omega),cS h (ca (d:=e) g),ro,<-h (O.getD j e)];grind
theorem LM (h: ∀x,(enc x).length=m) {O:List α}(g:j<O.length) (x:α):(am enc O++rs).take (j*m)++enc x++(am enc O++rs).drop (j*m+m)=am enc (O.set j x)++rs:=by
 have hl:=ak h O;have y:(j+1)*m<=(am enc O).length:=by rw[hl];exact mE _ g
 have u:j*m<=(am enc O).length:=by grind
 rw[show j*m+m=(j+1)*m from by rw[iP,Nat.one_mul],sM u,ui y,qP h,oB h,List.set_eq_take_append_cons_drop,if_pos g,dg];show _=am enc (O.take j)++(enc x++am enc (O.drop (j+1)))++rs;grind
end
theorem N9 (c:Cv) (q:Pt):(an c).take 46++ai q++(an c).drop (46+20)=an (c.ends c.p q):=by cases c<;>rfl
theorem Yn (h:GK k) (g:0<k.q):cP (ov k) (nZ k)≠0:=fun e=>by
 have D:=(ju.1 e).1;have u:=Qh (k:=k) g;have y:=RL (k:=k) g;rcases Gj (B4 h g) (BN h g) u.1 u.2 with⟨_,b,_⟩|⟨_,b⟩;·have:=y.2;omega
 ·omega
theorem ab8 {w:Bool}(g:GP x) (h:(Cv.arc k w f t).on x=true):OnK k x:=⟨g,eC.1 (AD h)⟩
section
variable {k:Ci}{w:Bool}{f t:Pt}(vc:CvV (.arc k w f t))
include vc
theorem Xq:OnK k f/\OnK k t:=⟨⟨vc.g.2.1,eC.1 vc.sp⟩,⟨vc.g.2.2,eC.1 vc.sq⟩⟩
end
def vLn (l:Ln):Bool:=(aJ l.a 0 !=0)||(aJ l.b 0 !=0)
theorem Zj (h:(aJ l.a 0 !=0)=true):vLn l=true:=by unfold vLn;rw[h];rfl
theorem YA (h:(aJ l.a 0 !=0)=false):vLn l=(aJ l.b 0 !=0):=by unfold vLn;rw[h];rfl
theorem aea (h:kg l≠0):vLn l=true:=by
 cases e:aJ l.a 0 !=0 with
 |true=>exact Zj e
 |false=>
  rw[YA e,bne_iff_ne];intro u;have g:=lQ.1 (show aJ l.a 0=0 by simpa using e);have y:=lQ.1 u;exact h (by unfold kg;rw[g,y];grind)
theorem W5 {a:Cv}: ∀p∈bY a c,a.on p=true:=fun p h=>by have g:=(List.mem_filter.1 (mT h)).2;unfold dH at g;exact(de _ _▸g).1
theorem wD {l:List Pt}:(fz c l).length<=l.length+1:=by have h:=jV c (cb c ([c.p,c.q]++l));have g:=rj (c:=c) (l:=[c.p,c.q]++l);unfold fz;grind
theorem KK {l:List Pt}(h:cP c.p c.q≠0):0<(fz c l).length:=by unfold fz;rw[jV];have:=kY (c:=c) (l:=l) h;omega
theorem Q0 (h:CvV c):0<(oI c).length:=by unfold oI;rw[fy];exact ue h
theorem aej {a b c:Int}(h:T3 a b c):OQ a b c=true:=by obtain⟨g,y,u⟩:=h;unfold OQ;grind
theorem IF (p q:Pt):(Cv.seg l f t).ord p q=if cP f t>0 then-cP p q else cP p q:=by
 show(if decide (cP f t>0)=true then-cP p q else cP p q)=_;by_cases h:cP f t>0;·grind
 grind
theorem Is {p:Pt}(g:GP p) (h:GP q):(Cv.seg l f t).ord q p= -(Cv.seg l f t).ord p q:=by have:=jv (gG g) (gG h);rw[IF,IF];split<;>omega
theorem ZQ {p r:Pt}(u:GP p) (g:GP q) (y:GP r):OQ ((Cv.seg l f t).ord p q) ((Cv.seg l f t).ord q r) ((Cv.seg l f t).ord p r)=true:=by
 refine aej ?_;rw[IF,IF,IF];split
 ·have h:=Mv (gG y) (gG g) (gG u);have H:=jv (gG u) (gG g);have D:=jv (gG g) (gG y);have E:=jv (gG u) (gG y);unfold T3 at*;omega
 ·exact Mv (gG u) (gG g) (gG y)
theorem Kx:c.on x=true↔c.supp x=true/\c.ord c.p x<=0/\c.ord x c.q<=0:=by unfold Cv.on;grind
end Go.Proofs.YtegeknjkgadehaaGreat
