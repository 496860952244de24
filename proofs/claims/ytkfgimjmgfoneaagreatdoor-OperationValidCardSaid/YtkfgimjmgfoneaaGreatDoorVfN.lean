/-Plain:insertion in place on any list:the list sorted as far as place p;it is a sorted permutation. -/
import Derived.Test.YtkfgimjmgfoneaaGreatDoorVfM
namespace Go.Proofs.YtkfgimjmgfoneaaGreatDoor
open Go Go.RowKit
variable {w:Bool}{k:Ci}{c d:Cv}{a st th v:Int}{rs:List CellD}{L M O:List Cv}{D:List Int}{l:Ln}{i j n p:Nat}{f:Nat→Bool}{q t x:Pt}
theorem pt:type_of% @List.any_eq_false:=@List.any_eq_false
theorem qy:type_of% @List.length_map:=@List.length_map
section
variable {α:Type}(e:α) (C:α→α→Int)
def wO (x:α) (out:List α):Nat→Nat
 |0=>0
 |k+1=>if C x (out.getD k e)<0 then wO x out k else k+1
def BS (out:List α) (x:α):List α:=out.take (wO e C x out out.length)++x::out.drop (wO e C x out out.length)
def fr (L:List α):List α:=L.foldl (BS e C) []
def xQ (out rest:List α) (x:α) (j:Nat):List α:=out.take j++x::(out.drop j++rest)
def Fi (L:List α) (p:Nat):List α:=fr e C (L.take p)++L.drop p
variable {e C}
theorem N9 {x:α}{out:List α}(h0:0<j) (h:C x (out.getD (j-1) e)<0):wO e C x out j=wO e C x out (j-1):=by
 match j,h0 with
 |j+1,_=>exact if_pos h
theorem Iz {x:α}{out:List α}(h:j=0∨ ¬C x (out.getD (j-1) e)<0):wO e C x out j=j:=by
 match j with
 |0=>rfl
 |j+1=>
  rcases h with h|h
  ·omega
  ·exact if_neg h
theorem Jz (out:List α) (x:α):(BS e C out x).length=out.length+1:=by
 unfold BS
 grind
theorem xG: ∀(L O:List α),(L.foldl (BS e C) O).length=O.length+L.length
 |[],O=>rfl
 |x::L,O=>by rw[qA,xG L,Jz,tI];omega
theorem pf (L:List α):(fr e C L).length=L.length:=by unfold fr;rw[xG];simp
theorem G2 {L:List α}(h:p<L.length):fr e C (L.take (p+1))=BS e C (fr e C (L.take p)) (L.getD p e):=by
 unfold fr;rw[oR (d:=e) h,List.foldl_append];rfl
theorem DI {L:List α}(h:p≤L.length):(Fi e C L p).length=L.length:=by
 unfold Fi;rw[bN,pf,cX,dz];omega
theorem Mx (L:List α):Fi e C L L.length=fr e C L:=by unfold Fi;simp
theorem Mu {L:List α}(h:p<L.length):Fi e C L p=xQ (fr e C (L.take p)) (L.drop (p+1)) (L.getD p e) p:=by
 have hl:(fr e C (L.take p)).length=p:=by rw[pf,cX,de (Nat.le_of_lt h)]
 unfold Fi xQ
 rw[show(fr e C (L.take p)).take p=fr e C (L.take p) from fp (Nat.le_of_eq hl),show(fr e C (L.take p)).drop p=[] from mE (Nat.le_of_eq hl),List.nil_append,kY h,List.getD,d7 h]
 rfl
theorem zU {L:List α}(h:p<L.length) (hj:wO e C (L.getD p e) (fr e C (L.take p)) p=j):xQ (fr e C (L.take p)) (L.drop (p+1)) (L.getD p e) j=Fi e C L (p+1):=by
 have hl:(fr e C (L.take p)).length=p:=by rw[pf,cX,de (Nat.le_of_lt h)]
 unfold Fi xQ
 rw[G2 h]
 unfold BS
 grind
section
variable {out rest:List α}{x:α}{j:Nat}
theorem kI (hj:j≤out.length):(xQ out rest x j).length=out.length+1+rest.length:=by
 unfold xQ
 grind
theorem I4 (hj:j≤out.length):(xQ out rest x j).getD j e=x:=by
 unfold xQ
 grind
theorem IC (h0:0<j) (hj:j≤out.length):(xQ out rest x j).getD (j-1) e=out.getD (j-1) e:=by
 unfold xQ
 grind
theorem OZ (h0:0<j) (hj:j≤out.length):((xQ out rest x j).set j (out.getD (j-1) e)).set (j-1) x=xQ out rest x (j-1):=by
 obtain⟨k,rfl⟩: ∃k,j=k+1:=⟨j-1,by omega⟩
 have hk:k<out.length:=by omega
 rw[Nat.add_sub_cancel]
 apply List.ext_getElem?
 intro q
 rw[List.getElem?_set,List.getElem?_set,List.length_set,kI hj]
 have hl2:(out.take k).length=k:=by grind
 unfold xQ
 by_cases e1:k=q
 ·grind
 grind
end
theorem F1 (out:List α) (x:α):(BS e C out x).Perm (x::out):=by
 exact List.perm_middle.trans (by rw[vF])
theorem vx: ∀(L O:List α),(L.foldl (BS e C) O).Perm (O++L)
 |[],O=>by simp
 |x::L,O=>by
  rw[qA]
  exact(vx L _).trans (((F1 O x).append_right L).trans List.perm_middle.symm)
theorem xI (L:List α):(fr e C L).Perm L:=vx L []
variable {enc:α→List CellD}{m:Nat}
theorem rG (h: ∀x,(enc x).length=m) {O:List α}(hj:j<O.length):((aj enc O++rs).drop (j*m)).take m=enc (O.getD j e):=by
 have hl:=ai h O
 have h2:(j+1)*m≤O.length*m:=nf _ hj
 rw[gP] at h2
 rw[vf (by omega),aQ h (aK (d:=e) hj),iP,←h (O.getD j e)]
 grind
theorem EK (h: ∀x,(enc x).length=m) {O:List α}(hj:j<O.length) (x:α):(aj enc O++rs).take (j*m)++enc x++(aj enc O++rs).drop (j*m+m)=aj enc (O.set j x)++rs:=by
 have hl:=ai h O
 have h2:(j+1)*m≤(aj enc O).length:=by rw[hl];exact nf _ hj
 have h1:j*m≤(aj enc O).length:=by grind
 rw[show j*m+m=(j+1)*m from by rw[gP,Nat.one_mul],List.take_append_of_le_length h1,vf h2,nl h,kV h,List.set_eq_take_append_cons_drop,if_pos hj,ck]
 show _=aj enc (O.take j)++(enc x++aj enc (O.drop (j+1)))++rs
 grind
end
theorem FL (c:Cv) (q:Pt):(ao c).take 46++al q++(ao c).drop (46+20)=ao (c.ends c.p q):=by cases c<;>rfl
theorem M4 (hk:GK k) (h0:0<k.q):cP (kQ k) (kC k)≠0:=fun e=>by
 have h1:=(gH.1 e).1
 have kL:=H2 (k:=k) h0
 have kR:=JB (k:=k) h0
 rcases zu (wm hk h0) (vK hk h0) kL.1 kL.2 with⟨_,b,_⟩|⟨_,b⟩
 ·have:=kR.2;omega
 ·omega
theorem OP {f:Pt}(gx:GP x) (h:(Cv.arc k w f t).on x=true):OnK k x:=⟨gx,db.1 (uC h)⟩
section
variable {k:Ci}{w:Bool}{f t:Pt}(vc:CvV (.arc k w f t))
include vc
theorem K3:OnK k f∧OnK k t:=⟨⟨vc.g.2.1,db.1 vc.sp⟩,⟨vc.g.2.2,db.1 vc.sq⟩⟩
end
def P3 (l:Ln):Bool:=(aM l.a 0 !=0)||(aM l.b 0 !=0)
theorem No (h:(aM l.a 0 !=0)=true):P3 l=true:=by unfold P3;rw[h];rfl
theorem MH (h:(aM l.a 0 !=0)=false):P3 l=(aM l.b 0 !=0):=by unfold P3;rw[h];rfl
theorem Ro (h:ig l≠0):P3 l=true:=by
 cases e:aM l.a 0 !=0 with
 |true=>exact No e
 |false=>
  rw[MH e,bne_iff_ne]
  intro e2
  have h1:=lf.1 (show aM l.a 0=0 by simpa using e)
  have h2:=lf.1 e2
  exact h (by unfold ig;rw[h1,h2];grind)
theorem LC {a:Cv}: ∀p∈br a c,a.on p=true:=fun p hp=>by
 have h1:=(List.mem_filter.1 (jG hp)).2
 unfold cB at h1
 exact(dU _ _▸h1).1
theorem qG {l:List Pt}:(dM c l).length≤l.length+1:=by
 have h1:=g9 c (bt c ([c.p,c.q]++l))
 have h2:=nk (c:=c) (l:=[c.p,c.q]++l)
 unfold dM
 grind
theorem CB {l:List Pt}(h:cP c.p c.q≠0):0<(dM c l).length:=by
 unfold dM
 rw[g9]
 have:=iK (c:=c) (l:=l) h
 omega
theorem Gw (h:CvV c):0<(lT c).length:=by unfold lT;rw[dT];exact oK h
theorem Q6 {b c:Int}(h:T3 a b c):E7 a b c=true:=by
 obtain⟨h1,h2,h3⟩:=h
 unfold E7
 grind
theorem BA {f:Pt}(p q:Pt):(Cv.seg l f t).ord p q=if cP f t>0 then-cP p q else cP p q:=by
 show(if decide (cP f t>0)=true then-cP p q else cP p q)=_
 by_cases h:cP f t>0
 ·grind
 grind
theorem AO {f p:Pt}(hp:GP p) (hq:GP q):(Cv.seg l f t).ord q p= -(Cv.seg l f t).ord p q:=by
 have:=gI (eI hp) (eI hq)
 rw[BA,BA];split<;>omega
theorem O3 {f p r:Pt}(hp:GP p) (hq:GP q) (hr:GP r):E7 ((Cv.seg l f t).ord p q) ((Cv.seg l f t).ord q r) ((Cv.seg l f t).ord p r)=true:=by
 refine Q6 ?_
 rw[BA,BA,BA]
 split
 ·have h:=Dz (eI hr) (eI hq) (eI hp)
  have a1:=gI (eI hp) (eI hq)
  have a2:=gI (eI hq) (eI hr)
  have a3:=gI (eI hp) (eI hr)
  unfold T3 at*
  omega
 ·exact Dz (eI hp) (eI hq) (eI hr)
theorem C4:c.on x=true↔c.supp x=true∧c.ord c.p x≤0∧c.ord x c.q≤0:=by
 unfold Cv.on
 grind
theorem EP (c:Cv) (r:List CellD):((ao c++r).drop 0)[0]? =some (.b c.isArc):=by cases c<;>rfl
theorem AA (c:Cv) (r:List CellD):((ao c++r).drop 25)[0]? =some (.b c.cw):=by cases c<;>rfl
theorem vm (c:Cv) (r:List CellD):((ao c++r).drop 26).take 20=al c.p:=by cases c<;>rfl
theorem li (c:Cv) (r:List CellD):((ao c++r).drop 46).take 20=al c.q:=by cases c<;>rfl
structure Fw (c:Cv):Prop where
 v:CvV c
 lt:cP c.p c.q<0
set_option maxRecDepth 1000000 in
theorem LQ: ∀(a p q:Fin 4) (i j m:Fin 3),(a=2∨a=3)→p≠1→q≠1→0≤i3 i→0≤i3 j→jx p a (i3 i)=true→jx q a (i3 j)=true→jx p q (i3 m)=true→
 qM (uK a) (uK p) (uK q) (i3 i) (i3 j) (i3 m)<0→i3 m= -1:=by decide+kernel
set_option maxRecDepth 1000000 in
theorem KV: ∀(a p q:Fin 4) (i j m:Fin 3),(a=1∨a=2)→p≠3→q≠3→0≤i3 i→0≤i3 j→jx p a (i3 i)=true→jx q a (i3 j)=true→jx p q (i3 m)=true→
 qM (uF a) (uF p) (uF q) (-(i3 i)) (-(i3 j)) (-(i3 m))<0→i3 m= -1:=by decide+kernel
theorem Ky {f p:Pt}(vc:CvV (.arc k w f t)) (hm:(Cv.arc k w f t).mono=true) (op:OnK k p) (oq:OnK k q) (hp:(Cv.arc k w f t).on p=true) (hq:(Cv.arc k w f t).on q=true)
 (h:(Cv.arc k w f t).ord p q<0):cP p q<0:=by
 have h0:0<k.q:=vc.pos
 have of:=(K3 vc).1
 have ot:=(K3 vc).2
 have hh:=xY vc.g.1 h0 of ot hm
 obtain⟨p1,p2,_⟩:=(EL vc hm op).1 hp
 obtain⟨q1,q2,_⟩:=(EL vc hm oq).1 hq
 have ap:=fw (bq of) (bq op)
 have aq:=fw (bq of) (bq oq)
 have c1:=fF h0 op of
 have c2:=fF h0 oq of
 have c3:=fF h0 op oq
 obtain⟨i,hi⟩:=dW (dN p f)
 obtain⟨j,hj⟩:=dW (dN q f)
 obtain⟨m,em⟩:=dW (dN p q)
 rw[hi] at c1
 rw[hj] at c2
 rw[em] at c3
 suffices e:cx p q= -1 by rw[RH (by omega)];omega
 rw[em]
 cases w with
 |false=>
  rw[ko] at h
  have h:oO k f p q<0:=h
  rw[fj,lK,lK,lK,hi,hj,em] at h
  simp only[Bool.false_eq_true,if_false] at hh p1 q1
  exact LQ _ _ _ i j m hh.1 p1 q1 (by omega) (by omega) c1 c2 c3 h
 |true=>
  rw[ko] at h
  have h:oO k.mir f.flip p.flip q.flip<0:=h
  rw[fj,nt h0 of,nt h0 op,nt h0 oq,jm (bq op) (bq of),jm (bq oq) (bq of),jm (bq op) (bq oq),hi,hj,em] at h
  simp only[if_true] at hh p1 q1
  exact KV _ _ _ i j m hh.2.1 p1 q1 (by omega) (by omega) c1 c2 c3 h
theorem Lj (h:c.mono=true):cP c.p c.q<0:=by
 cases c with
 |seg l f t=>have h:(!decide (cP f t≥0))=true:=h;show cP f t<0;grind
 |arc k w f t=>have h:(!decide (cP f t≥0)&&(!(Cv.arc k w f t).inner (kQ k)&& !(Cv.arc k w f t).inner (kC k)))=true:=h;show cP f t<0;grind
theorem JV (vc:CvV c) (hm:c.mono=true) {L:List Pt}(hL: ∀y∈L,GP y∧c.on y=true) (hd:d∈dM c L):Fw d:=by
 have vd:=Dx vc (fun p hp=>(hL p hp).1) (fun p hp=>uC (hL p hp).2) d hd
 refine⟨vd,?_⟩
 have hlt:=Lj hm
 cases c with
 |seg l f t=>
  have hlt:cP f t<0:=hlt
  have gf:=vc.g.2.1
  have gt:=vc.g.2.2
  have ff:(Cv.seg l f t).ord f f≤0:=by have:=AO (l:=l) (f:=f) (t:=t) gf gf;omega
  have ft:(Cv.seg l f t).ord f t≤0:=by rw[BA];split<;>omega
  obtain⟨p,q,hp,hq,rfl,hpq,key⟩:=I0 (c:=.seg l f t) (G:=fun p=>GP p∧(Cv.seg l f t).ord f p≤0) (fun p h=>eI h.1) (fun p q h g=>AO h.1 g.1) (fun p q r hp hq hr=>O3 hp.1 hq.1 hr.1) (fun p q h g e=>by rw[BA] at e;split at e<;>omega) vc (fun p h=>h.1) ⟨gf,ff⟩ ⟨gt,ft⟩
   (fun y hy=>⟨⟨(hL y hy).1,(C4.1 (hL y hy).2).2.1⟩,(hL y hy).2⟩) (fun y h=>h.2) hd
  rw[BA,if_neg (by omega)] at hpq
  exact hpq
 |arc k w f t=>
  have h0:0<k.q:=vc.pos
  have of:=(K3 vc).1
  have ot:=(K3 vc).2
  have anti:=fun(p q:Pt) (h:OnK k p∧(Cv.arc k w f t).on p=true) (g:OnK k q∧(Cv.arc k w f t).on q=true)=>jT (w:=w) (t:=t) of h.1 g.1
  have zz: ∀ {x:Pt},OnK k x→(Cv.arc k w f t).ord x x≤0:=fun{x} ox=>by have:=jT (w:=w) (t:=t) of ox ox;omega
  have onf:(Cv.arc k w f t).on f=true:=C4.2 ⟨db.2 of.2,zz of,rT of ot⟩
  have ont:(Cv.arc k w f t).on t=true:=C4.2 ⟨db.2 ot.2,rT of ot,zz ot⟩
  obtain⟨p,q,op,oq,rfl,hpq,key⟩:=I0 (c:=.arc k w f t) (G:=fun p=>OnK k p∧(Cv.arc k w f t).on p=true) (fun p h=>bq h.1) anti (fun p q r h g e=>sZ of h.1 g.1 e.1) (fun p q h g e=>AB h0 of h.1 g.1 e) vc (fun p h=>h.1.1) ⟨of,onf⟩ ⟨ot,ont⟩
   (fun y hy=>⟨⟨OP (hL y hy).1 (hL y hy).2,(hL y hy).2⟩,(hL y hy).2⟩) (fun y h=>rT of h.1) hd
  exact Ky vc hm op.1 oq.1 op.2 oq.2 hpq
theorem FA (gc:c.good) (gd:d.good) (h:gJ c d=true) {p:Pt}(hp:GP p) (hd:d.supp p=true):c.supp p=true:=by
 cases c with
 |seg l f t=>
  cases d with
  |seg m u v=>
   have h:(qR (l.a*m.b) (l.b*m.a)&&qR (l.a*m.c) (l.c*m.a)&&qR (l.b*m.c) (l.c*m.b))=true:=h
   simp only[dU] at h
   have e1:=xX h.1.1
   have e2:=xX h.1.2
   have e3:=xX h.2
   have hd:(ph m p==0)=true:=hd
   rw[vn hp,beq_iff_eq] at hd
   show(ph l p==0)=true
   rw[vn hp,beq_iff_eq]
   have hn:m.a*m.a+m.b*m.b≠0:=gd.1.n
   have ka:bJ (Re.of m.a*yQ l p)=0:=by
    rw[show Re.of m.a*yQ l p=Re.of l.a*yQ m p from gY fun n=>by unfold yQ;simp only[bX,cE,cz,eE];grind]
    exact Nk _ hd
   have kb:bJ (Re.of m.b*yQ l p)=0:=by
    rw[show Re.of m.b*yQ l p=Re.of l.b*yQ m p from gY fun n=>by unfold yQ;simp only[bX,cE,cz,eE];grind]
    exact Nk _ hd
   by_cases ha:m.a=0
   ·refine Nf kb ?_
    rw[jh]
    exact fun e=>hn (by rw[ha,gM.1 e];decide+kernel)
   ·exact Nf ka (by rw[jh];exact fun e=>ha (gM.1 e))
  |arc d w2 u v=>cases h
 |arc k w f t=>
  cases d with
  |seg m u v=>cases h
  |arc d w2 u v=>
   have h:(qR k.x d.x&&qR k.y d.y&&qR k.q d.q)=true:=h
   simp only[dU] at h
   have e:k=d:=by
    have e1:=xX h.1.1
    have e2:=xX h.1.2
    have e3:=xX h.2
    cases k;cases d
    dsimp only at e1 e2 e3
    rw[e1,e2,e3]
   subst e
   exact hd
def mI (L:List Cv):Nat→List Cv
 |0=>[]
 |n+1=>mI L n++lT (L.getD n aH)
def aT (L:List Cv):List Cv:=mI L L.length
def bi (A:List Cv) (i:Nat):Nat→List Pt
 |0=>[]
 |k+1=>if k=i then bi A i k else bi A i k++br (A.getD i aH) (A.getD k aH)
def jE (A:List Cv):Nat→List Cv
 |0=>[]
 |n+1=>jE A n++dM (A.getD n aH) (bi A n A.length)
def p6 (L:List Cv):List Cv:=jE (aT L) (aT L).length
section
variable {L:List Cv}(hL: ∀d∈L,CvV d)
theorem uW: ∀n,(mI L n).length≤3*n
 |0=>aX _
 |n+1=>by
  have:=uW n
  have:=ww (c:=L.getD n aH)
  show(mI L n++lT _).length≤_
  rw[bN];omega
include hL in
theorem GM: ∀n,n≤L.length→ ∀d∈mI L n,CvV d∧d.mono=true
 |0,_,d,h=>by cases h
 |n+1,hn,d,h=>by
  rcases gn.1 (show d∈mI L n++lT _ from h) with h|h
  ·exact GM n (by omega) d h
  ·have hc:=hL _ (aE (d:=aH) hn)
   exact⟨OT hc d h,FC hc d h⟩
include hL in
theorem Ny: ∀d∈aT L,CvV d∧d.mono=true:=GM hL _ (aX _)
end
section
variable {A:List Cv}(hA: ∀d∈A,CvV d∧d.mono=true)
theorem mU {i:Nat}: ∀k,(bi A i k).length≤4*k
 |0=>aX _
 |k+1=>by
  have:=mU (i:=i) k
  have:=kU (a:=A.getD i aH) (c:=A.getD k aH)
  show(if k=i then bi A i k else bi A i k++br _ _).length≤_
  split
  ·omega
  ·rw[bN];omega
include hA in
theorem n7 {i:Nat}(hi:i<A.length): ∀k,k≤A.length→ ∀p∈bi A i k,GP p∧(A.getD i aH).on p=true
 |0,_,p,h=>by cases h
 |k+1,hk,p,h=>by
  have h:p∈if k=i then bi A i k else bi A i k++br _ _:=h
  split at h
  ·exact n7 hi k (by omega) p h
  ·rcases gn.1 h with h|h
   ·exact n7 hi k (by omega) p h
   ·exact⟨BE (hA _ (aE (d:=aH) hi)).1.g (hA _ (aE (d:=aH) hk)).1.g p h,LC p h⟩
theorem vk (hl:A.length≤1200): ∀n,n≤A.length→(jE A n).length≤n*4801
 |0,_=>aX _
 |n+1,hn=>by
  have h1:=vk hl n (by omega)
  have h2:=qG (c:=A.getD n aH) (l:=bi A n A.length)
  have h3:=mU (A:=A) (i:=n) A.length
  show(jE A n++dM _ _).length≤_
  rw[bN];omega
include hA in
theorem EW: ∀n,n≤A.length→ ∀d∈jE A n,Fw d
 |0,_,d,h=>by cases h
 |n+1,hn,d,h=>by
  rcases gn.1 (show d∈jE A n++dM _ _ from h) with h|h
  ·exact EW n (by omega) d h
  ·obtain⟨v,m⟩:=hA _ (aE (d:=aH) hn)
   exact JV v m (n7 hA hn _ (aX _)) h
end
theorem D1 (hL: ∀d∈L,CvV d): ∀d∈p6 L,Fw d:=EW (Ny hL) _ (aX _)
theorem D6 (h:L.length≤400):(aT L).length≤1200:=by have:=uW (L:=L) L.length;unfold aT;omega
theorem GN (h:L.length≤400):(p6 L).length≤6000000:=by
 have h1:=D6 h
 have:=vk h1 _ (aX _)
 unfold p6
 omega
def tQ (O:List Cv) (x:Cv):Nat→Int
 |0=> -1
 |k+1=>if Cd (O.getD k aH) x then(k:Int) else tQ O x k
def yu (O:List Cv) (x:Cv):List Cv:=if tQ O x O.length<0 then O++[x] else O.take (tQ O x O.length).toNat++O.drop ((tQ O x O.length).toNat+1)
def eJ (L:List Cv):Nat→List Cv
 |0=>[]
 |n+1=>yu (eJ L n) (L.getD n aH)
def ug (L:List Cv):List Cv:=eJ L L.length
theorem BV (O:List Cv) (x:Cv): ∀k,-1≤tQ O x k∧tQ O x k<k
 |0=>⟨Int.le_refl _,by show(-1:Int)<((0:Nat):Int);omega⟩
 |k+1=>by
  have:=BV O x k
  show-1≤(if _ then _ else _)∧(if _ then _ else _)<_
  split<;>omega
theorem Kg (O:List Cv) (x:Cv):(yu O x).length≤O.length+1:=by
 unfold yu
 split
 ·simp
 ·rw[bN,cX,dz];omega
theorem IF {x:Cv}(h:d∈yu O x):d∈O∨d=x:=by
 unfold yu at h
 split at h
 ·simpa using h
 ·rcases gn.1 h with h|h
  ·exact .inl (tB h)
  ·exact .inl (List.mem_of_mem_drop h)
theorem vV (L:List Cv): ∀n,(eJ L n).length≤n
 |0=>aX _
 |n+1=>iz (Kg _ _) (Nat.succ_le_succ (vV L n))
theorem qW {L:List Cv}: ∀ {n:Nat}{d:Cv},n≤L.length→d∈eJ L n→d∈L
 |0,_,_,h=>by cases h
 |n+1,d,hn,h=>by
  rcases IF h with h|h
  ·exact qW (by omega) h
  ·rw[h];exact aE hn
def ip (L:List Cv) (p:Pt):Nat→Nat
 |0=>0
 |k+1=>ip L p k+(if cP (L.getD k aH).p p=0 then 1 else 0)+(if cP (L.getD k aH).q p=0 then 1 else 0)
def yE (L:List Cv) (p:Pt):Nat→Int
 |0=> -1
 |k+1=>if cP (L.getD k aH).p p=0 then(k:Int) else yE L p k
def qN (L:List Cv) (i:Nat):Pt:=(L.getD i aH).q
def uM (L:List Cv) (i:Nat):Int:=yE L (qN L i) L.length
def ja (L:List Cv) (i:Nat):Bool:=ip L (qN L i) L.length==2&&(decide (0≤uM L i)&&(gJ (L.getD i aH) (L.getD (uM L i).toNat aH)&&(L.getD i aH).cw==(L.getD (uM L i).toNat aH).cw))
def cH (L:List Cv) (i j:Nat):Nat→List Cv
 |0=>[]
 |k+1=>if k≠i∧k≠j then cH L i j k++[L.getD k aH] else cH L i j k
def ow (L:List Cv) (i:Nat):Cv:=(L.getD i aH).ends (L.getD i aH).p (L.getD (uM L i).toNat aH).q
def qe (L:List Cv) (i:Nat):List Cv:=cH L i (uM L i).toNat L.length++[ow L i]
def nQ:Nat→List Cv→List Cv
 |0,L=>L
 |f+1,L=>match (List.range L.length).find? (ja L) with
  |none=>L
  |some i=>nQ f (qe L i)
theorem uO (L:List Cv) (p:Pt): ∀k,ip L p k≤2*k
 |0=>aX _
 |k+1=>by
  have:=uO L p k
  show ip L p k+(if _ then 1 else 0)+(if _ then 1 else 0)≤_
  split<;>split<;>omega
theorem rV (L:List Cv) (p:Pt): ∀k,-1≤yE L p k∧yE L p k<k∧(0≤yE L p k→cP (L.getD (yE L p k).toNat aH).p p=0)
 |0=>⟨Int.le_refl _,by show(-1:Int)<((0:Nat):Int);omega,fun h=>absurd h (by show ¬(0:Int)≤ -1;omega)⟩
 |k+1=>by
  have:=rV L p k
  unfold yE
  split
  ·rename_i h;exact⟨by omega,by omega,fun _=>h⟩
  ·exact⟨this.1,by omega,this.2.2⟩
theorem sY {L:List Cv}{i j:Nat}: ∀ {n:Nat}{d:Cv},n≤L.length→d∈cH L i j n→d∈L
 |0,_,_,h=>by cases h
 |n+1,d,hn,h=>by
  have h:d∈if n≠i∧n≠j then cH L i j n++[L.getD n aH] else cH L i j n:=h
  split at h
  ·rcases gn.1 h with h|h
   ·exact sY (by omega) h
   ·rw[mY.1 h];exact aE hn
  ·exact sY (by omega) h
theorem oH (L:List Cv) (i j:Nat): ∀n,(cH L i j n).length≤n
 |0=>aX _
 |n+1=>by
  have:=oH L i j n
  show(if _ then cH L i j n++[_] else cH L i j n).length≤_
  split
  ·simp;omega
  ·omega
theorem xg (L:List Cv) {i j:Nat}(hij:i≠j): ∀n,(cH L i j n).length+((if i<n then 1 else 0)+(if j<n then 1 else 0))=n
 |0=>by simp[cH]
 |n+1=>by
  have:=xg L hij n
  show(if _ then cH L i j n++[_] else cH L i j n).length+_=_
  by_cases h1:n=i
  ·rw[if_neg (by omega)];grind
  ·by_cases h2:n=j
   ·rw[if_neg (by omega)];grind
   ·rw[if_pos ⟨h1,h2⟩,bN,List.length_singleton];grind
section
variable {L:List Cv}{i:Nat}
theorem iN:ja L i=true↔ip L (qN L i) L.length=2∧0≤uM L i∧gJ (L.getD i aH) (L.getD (uM L i).toNat aH)=true∧(L.getD i aH).cw=(L.getD (uM L i).toNat aH).cw:=by
 unfold ja
 simp only[dU,beq_iff_eq,decide_eq_true_eq]
theorem Im (L:List Cv) (i:Nat): -1≤uM L i∧uM L i<L.length:=⟨(rV L (qN L i) L.length).1,(rV L (qN L i) L.length).2.1⟩
theorem Dq (h:0≤uM L i):(uM L i).toNat<L.length:=by have:=Im L i;omega
variable (hL: ∀d∈L,Fw d) (hi:i<L.length) (h:ja L i=true)
include hL hi h
theorem LG:i≠(uM L i).toNat:=fun e=>by
 obtain⟨_,h1,_⟩:=iN.1 h
 have h2:=(rV L (qN L i) L.length).2.2 h1
 have h2:cP (L.getD (uM L i).toNat aH).p (qN L i)=0:=h2
 rw[←e] at h2
 have:=(hL _ (aE (d:=aH) hi)).lt
 have:cP (L.getD i aH).p (L.getD i aH).q<0:=this
 have h2:cP (L.getD i aH).p (L.getD i aH).q=0:=h2
 omega
theorem x4:(qe L i).length+1=L.length:=by
 have h1:=xg L (LG hL hi h) L.length
 have h2:=Dq (iN.1 h).2.1
 unfold qe
 rw[if_pos hi,if_pos h2] at h1
 rw[bN,List.length_singleton];omega
theorem L2:Fw (ow L i):=by
 obtain⟨_,h1,h2,_⟩:=iN.1 h
 have hj:=Dq h1
 have f1:=hL _ (aE (d:=aH) hi)
 have f2:=hL _ (aE (d:=aH) hj)
 have h3:cP (L.getD (uM L i).toNat aH).p (L.getD i aH).q=0:=(rV L (qN L i) L.length).2.2 h1
 have gp:=dD f1.v.g
 have gq:=eA f1.v.g
 have gr:=dD f2.v.g
 have gs:=eA f2.v.g
 have lt:cP (L.getD i aH).p (L.getD (uM L i).toNat aH).q<0:=by
  have t1:=Dz (eI gp) (eI gq) (eI gs)
  have t2:=Dz (eI gq) (eI gr) (eI gs)
  have a1:=gI (eI gr) (eI gq)
  have l1:=f1.lt
  have l2:=f2.lt
  unfold T3 at t1 t2
  omega
 refine⟨⟨xB f1.v.g gp gs,AT f1.v.pos _ _,?_,?_,?_⟩,?_⟩
 ·unfold ow;rw[vW,pM];exact f1.v.sp
 ·unfold ow;rw[wD,pM];exact FA f1.v.g f2.v.g h2 gs f2.v.sq
 ·unfold ow;rw[vW,wD];omega
 ·unfold ow;rw[vW,wD];exact lt
theorem Ax: ∀d∈qe L i,Fw d:=fun d hd=>by
 rcases gn.1 hd with hd|hd
 ·exact hL d (sY (aX _) hd)
 ·rw[mY.1 hd];exact L2 hL hi h
end
theorem KC (h: ∀i,i<L.length→ja L i=false):(List.range L.length).find? (ja L)=none:=by
 rw[List.find?_eq_none]
 intro i hi
 rw[h i (cF.1 hi)];decide
theorem LL (hi:i<L.length) (h:ja L i=true) (hn: ∀j,j<i→ja L j=false):(List.range L.length).find? (ja L)=some i:=by
 rw[List.find?_range_eq_some]
 exact⟨h,cF.2 hi,fun j hj=>by rw[hn j hj];rfl⟩
theorem EE {f:Nat}(h: ∀i,i<L.length→ja L i=false):nQ f L=L:=by
 cases f with
 |zero=>rfl
 |succ f=>unfold nQ;rw[KC h]
theorem EV {f:Nat}(hi:i<L.length) (h:ja L i=true) (hn: ∀j,j<i→ja L j=false):nQ (f+1) L=nQ f (qe L i):=by
 rw[nQ,LL hi h hn]
theorem zF: ∀ {f:Nat}{L:List Cv},(∀d∈L,Fw d)→(∀d∈nQ f L,Fw d)∧(nQ f L).length≤L.length
 |0,_,h=>⟨h,aX _⟩
 |f+1,L,h=>by
  unfold nQ
  split
  ·exact⟨h,aX _⟩
  ·rename_i i e
   rw[List.find?_range_eq_some] at e
   obtain⟨e1,e2,_⟩:=e
   have e2:=cF.1 e2
   obtain⟨h1,h2⟩:=zF (f:=f) (Ax h e2 e1)
   exact⟨h1,by have:=x4 h e2 e1;omega⟩
def vw (L:List Cv) (i:Nat):List Pt:=[(L.getD i aH).p,(L.getD i aH).q]
def iY (L:List Cv) (i j:Nat):Pt:=(vw L i).getD j dPt
def u4 (L:List Cv):Bool:=(List.range L.length).any fun i=>(List.range 2).any fun j=>ip L (iY L i j) L.length%2==1
theorem NY (hi:i<L.length) (hj:j<2) (h:ip L (iY L i j) L.length%2=1):u4 L=true:=by
 unfold u4
 rw[lQ]
 refine⟨i,cF.2 hi,?_⟩
 rw[lQ]
 exact⟨j,cF.2 hj,by rw[h];rfl⟩
theorem O8 (h: ∀i,i<L.length→ ∀j,j<2→ ¬ip L (iY L i j) L.length%2=1):u4 L=false:=by
 unfold u4
 rw[pt]
 intro i hi
 rw[Bool.not_eq_true,pt]
 intro j hj
 have:=h i (cF.1 hi) j (cF.1 hj)
 simp[this]
theorem Iv {a b:Pt}:al a++al b=aj al [a,b]:=by show _=al a++(al b++[]);rw[lN]
theorem Og (h:(L.getD i aH).good) (hj:j<2):GP (iY L i j):=by
 match j,hj with
 |0,_=>exact dD h
 |1,_=>exact eA h
def Ll (L:List Cv):List Cv:=nQ L.length L
def vg (L:List Cv):List Cv:=fr aH dY (Ll (ug (p6 L)))
def gD (L:List Cv):List Cv×Int:=if 400<L.length then([],3) else if u4 L then([],8) else if 400<(vg L).length then([],3) else(vg L,0)
theorem DO (hL: ∀d∈L,CvV d): ∀d∈vg L,Fw d:=fun d hd=>
 (zF (fun d hd=>D1 hL d (qW (aX _) hd))).1 d ((xI _).mem_iff.1 hd)
theorem nI (hL: ∀d∈L,CvV d):(∀d∈(gD L).1,CvV d)∧(gD L).1.length≤400:=by
 unfold gD
 split
 ·exact⟨(fun d h=>nomatch h),cY _⟩
 ·split
  ·exact⟨(fun d h=>nomatch h),cY _⟩
  ·split
   ·exact⟨(fun d h=>nomatch h),cY _⟩
   ·exact⟨fun d h=>(DO hL d h).v,by show(vg L).length≤400;omega⟩
def Eh (L M:List Cv):Bool:=decide (L.length=M.length)&&(List.range L.length).all fun i=>Cd (L.getD i aH) (M.getD i aH)
theorem Rn (h: ¬L.length=M.length):Eh L M=false:=by unfold Eh;rw[decide_eq_false h];rfl
theorem R4 (hi:i<L.length) (h:Cd (L.getD i aH) (M.getD i aH)=false):Eh L M=false:=by
 unfold Eh
 rw[Bool.and_eq_false_iff]
 right
 rw[List.all_eq_false]
 exact⟨i,cF.2 hi,by rw[h];decide⟩
theorem Qg (hl:L.length=M.length) (h: ∀i,i<L.length→Cd (L.getD i aH) (M.getD i aH)=true):Eh L M=true:=by
 unfold Eh
 rw[decide_eq_true hl,du,jc]
 exact fun i hi=>h i (cF.1 hi)
theorem Om (h:400<L.length):gD L=([],3):=if_pos h
theorem OM (h: ¬400<L.length) (g:u4 L=true):gD L=([],8):=by unfold gD;rw[if_neg h,if_pos g]
theorem Of (h: ¬400<L.length) (g:u4 L=false) (e:400<(vg L).length):gD L=([],3):=by unfold gD;rw[if_neg h,if_neg (by rw[g];decide),if_pos e]
theorem Pv (h: ¬400<L.length) (g:u4 L=false) (e: ¬400<(vg L).length):gD L=(vg L,0):=by unfold gD;rw[if_neg h,if_neg (by rw[g];decide),if_neg e]
theorem RP (L:List Cv):L=Fi aH dY L 0:=by unfold Fi fr;simp
theorem A7 (hk:GK k) (h0:0<k.q): ∀c∈ju k,CvV c:=fun c hc=>by
 rcases ek.1 hc with e|e
 ·subst e;exact⟨⟨hk,pk hk h0,pz hk h0⟩,h0,db.2 (yD hk h0),db.2 (yW hk h0),M4 hk h0⟩
 ·rw[mY] at e
  subst e
  refine⟨⟨hk,pz hk h0,pk hk h0⟩,h0,db.2 (yW hk h0),db.2 (yD hk h0),fun e=>M4 hk h0 ?_⟩
  have:=gI (eI (pz hk h0)) (eI (pk hk h0))
  have e:cP (kC k) (kQ k)=0:=e
  omega
def qI (L:List Cv):Bool:=(gD L).2==0&&Eh L (gD L).1
structure Fm where
 k:Int
 u:Int
 a:Int
 b:Int
 c:Int
 d:Int
 cs:List (Int×Int)
def sm:Int×Int:=(0,0)
def js:Fm:=⟨0,0,0,0,0,0,[]⟩
def bO:Rat×Rat:=(0,0)
def oL (q:Int×Int):List CellD:=[.i .i8 q.1,.i .i8 q.2]
def jZ (f:Fm):List CellD:=[.i .u8 f.k,.i .u8 f.u,.i .i8 f.a,.i .i8 f.b,.i .i8 f.c,.i .i8 f.d,.s f.cs.length (aj oL f.cs)]
def jr (v:Rat×Rat):List CellD:=cR v.1++cR v.2
theorem i5 (q:Int×Int):(oL q).length=2:=rfl
theorem eD (f:Fm):(jZ f).length=7:=rfl
theorem cm (v:Rat×Rat):(jr v).length=8:=rfl
theorem yT (f:Fm) (r:List CellD):(jZ f++r).take 7=jZ f:=by rw[←eD f];exact tL
theorem mD (v:Rat×Rat) (r:List CellD):(jr v++r).take 8=jr v:=by rw[←cm v];exact tL
def zQ (x:Int):Prop:= -128≤x∧x≤127
structure FmB (f:Fm):Prop where
 k:0≤f.k∧f.k≤255
 u:0≤f.u∧f.u≤255
 a:zQ f.a
 b:zQ f.b
 c:zQ f.c
 d:zQ f.d
 cs: ∀q∈f.cs,zQ q.1∧zQ q.2
def PQ (v:Rat×Rat):Prop:=Rz 1 v.1∧Rz 1 v.2
def kS (x y u:Int):Rat×Rat:=(qD x (uD u),qD y (uD u))
theorem sS {x y u:Int}(hx:zQ x) (hy:zQ y) (hu:0≤u):PQ (kS x y u):=⟨Nx hx (Jv hu),Nx hy (Jv hu)⟩
def KH (a b:Rat×Rat):Prop:=a.2-b.2=0∧b.1-a.1=0
instance (a b:Rat×Rat):Decidable (KH a b):=inferInstanceAs (Decidable (_∧_))
def ii (a b:Rat×Rat):List Cv:=if KH a b then[] else[kJ a.1 a.2 b.1 b.2]
def cj (V:List (Rat×Rat)):Nat→List Cv
 |0=>[]
 |n+1=>cj V n++ii (V.getD n bO) (V.getD ((n+1)%V.length) bO)
def sK (V:List (Rat×Rat)):List Cv:=cj V V.length
theorem Oo {a b c d:Rat}(ha:Rz 1 a) (hb:Rz 1 b) (hc:Rz 1 c) (hd:Rz 1 d) (h: ¬(b-d=0∧c-a=0)):CvV (kJ a b c d):=by
 have g1:GP (rP a b):=NC ha hb
 have g2:GP (rP c d):=NC hc hd
 refine⟨⟨L4 ha hb hc hd h,g1,g2⟩,trivial,?_,?_,fun e=>h ?_⟩
 ·show(ph _ (rP _ _)==0)=true
  rw[D5 g1 rfl];rfl
 ·show(ph _ (rP _ _)==0)=true
  rw[D5 g2 (O2 _ _ _ _)];rfl
 ·obtain⟨e1,e2⟩:=PA e
  grind
theorem Pa {a b:Rat×Rat}(ha:PQ a) (hb:PQ b): ∀c∈ii a b,CvV c:=fun c hc=>by
 unfold ii at hc
 split at hc
 ·cases hc
 ·rename_i h
  rw[mY.1 hc];exact Oo ha.1 ha.2 hb.1 hb.2 h
theorem IR (a b:Rat×Rat):(ii a b).length≤1:=by unfold ii;split<;>simp
theorem pb (V:List (Rat×Rat)): ∀n,(cj V n).length≤n
 |0=>aX _
 |n+1=>by
  have:=pb V n
  have:=IR (V.getD n bO) (V.getD ((n+1)%V.length) bO)
  show(cj V n++ii _ _).length≤_
  rw[bN];omega
theorem Dk {V:List (Rat×Rat)}(hV: ∀v∈V,PQ v): ∀n,n≤V.length→ ∀c∈cj V n,CvV c
 |0,_,c,h=>by cases h
 |n+1,hn,c,h=>by
  rcases gn.1 (show c∈cj V n++ii _ _ from h) with h|h
  ·exact Dk hV n (by omega) c h
  ·exact Pa (hV _ (aE (d:=bO) hn)) (hV _ (aE (d:=bO) (Nat.mod_lt _ (by omega)))) c h
def nR (f:Fm) (n:Nat):List (Rat×Rat):=(f.cs.take n).map fun q=>kS q.1 q.2 f.u
def B5 (f:Fm):List (Rat×Rat):=[kS f.a f.b f.u,((kS f.c f.d f.u).1,(kS f.a f.b f.u).2),kS f.c f.d f.u,((kS f.a f.b f.u).1,(kS f.c f.d f.u).2)]
def Fj (f:Fm):Ci:=⟨(kS f.a f.b f.u).1,(kS f.a f.b f.u).2,(kS f.c f.d f.u).1⟩
def hJ (f:Fm):List Cv:=if f.k%3=0 then sK (B5 f) else if f.k%3=1 then(if 0<(Fj f).q then ju (Fj f) else[]) else sK (nR f f.cs.length)
theorem o8 {f:Fm}(h:n<f.cs.length):nR f (n+1)=nR f n++[kS (f.cs.getD n sm).1 (f.cs.getD n sm).2 f.u]:=by
 unfold nR
 rw[oR (d:=sm) h,qO];rfl
theorem m7 {f:Fm}(h:n≤f.cs.length):(nR f n).length=n:=by unfold nR;rw[qy,cX];omega
section
variable {f:Fm}(hf:FmB f)
include hf
theorem EO: ∀v∈nR f n,PQ v:=fun v hv=>by
 obtain⟨q,hq,rfl⟩:=rd.1 hv
 obtain⟨h1,h2⟩:=hf.cs q (tB hq)
 exact sS h1 h2 hf.u.1
theorem DD: ∀v∈B5 f,PQ v:=fun v hv=>by
 have h1:=sS hf.a hf.b hf.u.1
 have h2:=sS hf.c hf.d hf.u.1
 unfold B5 at hv
 simp only[ek,tU,or_false] at hv
 rcases hv with e|e|e|e<;>subst e
 ·exact h1
 ·exact⟨h2.1,h1.2⟩
 ·exact h2
 ·exact⟨h1.1,h2.2⟩
theorem Ec:GK (Fj f):=⟨(sS hf.a hf.b hf.u.1).1,(sS hf.a hf.b hf.u.1).2,(sS hf.c hf.d hf.u.1).1.mono (by decide)⟩
theorem Pc: ∀c∈hJ f,CvV c:=fun c hc=>by
 unfold hJ at hc
 split at hc
 ·exact Dk (DD hf) _ (aX _) c hc
 ·split at hc
  ·split at hc
   ·rename_i h0;exact A7 (Ec hf) h0 c hc
   ·cases hc
  ·exact Dk (EO hf) _ (aX _) c hc
omit hf in
theorem vp (h:f.cs.length≤6):(hJ f).length≤6:=by
 unfold hJ
 split
 ·exact iz (pb _ _) (by show 4≤6;omega)
 ·split
  ·split
   ·show 2≤6;omega
   ·exact cY _
  ·exact iz (pb _ _) (by rw[m7 (aX _)];exact h)
end
def eN (s:List Fm):Nat→List Cv
 |0=>[]
 |n+1=>eN s n++hJ (s.getD n js)
def GI (s:List Fm):Bool:=(List.range s.length).any fun i=>decide (6<s.length)||decide (6<(s.getD i js).cs.length)
def jH (s:List Fm):List Cv×Bool:=if GI s then([],false) else(eN s s.length,decide ((eN s s.length).length≤6))
def l5 (s:List Fm):List Cv×Bool:=if (jH s).2 then((gD (jH s).1).1,(gD (jH s).1).2==0&&decide ((gD (jH s).1).1.length≤6)) else([],false)
theorem yz {s:List Fm}(hi:i<s.length) (h:6<s.length∨6<(s.getD i js).cs.length):GI s=true:=by
 unfold GI
 rw[lQ]
 exact⟨i,cF.2 hi,by simpa using h⟩
theorem JF {s:List Fm}(h: ∀i,i<s.length→ ¬6<s.length∧ ¬6<(s.getD i js).cs.length):GI s=false:=by
 unfold GI
 rw[pt]
 intro i hi
 obtain⟨h1,h2⟩:=h i (cF.1 hi)
 rw[decide_eq_false h1,decide_eq_false h2];decide
theorem H3 {s:List Fm}(hs: ∀f∈s,FmB f): ∀n,n≤s.length→ ∀c∈eN s n,CvV c
 |0,_,c,h=>by cases h
 |n+1,hn,c,h=>by
  rcases gn.1 (show c∈eN s n++hJ _ from h) with h|h
  ·exact H3 hs n (by omega) c h
  ·exact Pc (hs _ (aE (d:=js) hn)) c h
theorem yJ {s:List Fm}(hs: ∀f∈s,FmB f): ∀c∈(jH s).1,CvV c:=fun c hc=>by
 unfold jH at hc
 split at hc
 ·cases hc
 ·exact H3 hs _ (aX _) c hc
theorem wb {s:List Fm}: ∀n,(∀i,i<n→(s.getD i js).cs.length≤6)→(eN s n).length≤6*n
 |0,_=>aX _
 |n+1,h=>by
  have h1:=wb n (fun i hi=>h i (by omega))
  have h2:=vp (h n (by omega))
  show(eN s n++hJ _).length≤_
  rw[bN];omega
theorem JS {s:List Fm}(h:(jH s).2=true):(jH s).1.length≤6:=by
 unfold jH at h⊢
 split at h
 ·cases h
 ·rename_i g
  rw[if_neg g];exact of_decide_eq_true h
theorem Ml {s:List Fm}(hs: ∀f∈s,FmB f): ∀c∈(l5 s).1,CvV c:=fun c hc=>by
 unfold l5 at hc
 split at hc
 ·exact(nI (yJ hs)).1 c hc
 ·cases hc
theorem La (f:Fm):jr (kS f.a f.b f.u)++jr ((kS f.c f.d f.u).1,(kS f.a f.b f.u).2)++jr (kS f.c f.d f.u)++jr ((kS f.a f.b f.u).1,(kS f.c f.d f.u).2)=aj jr (B5 f):=by
 unfold B5
 simp only[aj,iP,lN]
def M7 (s:ByteArray) (n:Nat):UInt8:=(s[n]?).getD 0
def lj (s:ByteArray) (n:Nat):Int:=((M7 s n).toNat:Int)
theorem u7 {s:ByteArray}(h:n<s.size):s[n]? =some (M7 s n):=by
 unfold M7
 rw[ByteArray.getElem?_lt' s n h];rfl
def sV (c:Int):Bool:=(decide (c≥97)&&decide (c≤122))||(decide (c≥65)&&decide (c≤90))
def FK (c:Int):Bool:=decide (c≥48)&&decide (c≤57)
def zJ (c:Int):Bool:=sV c||(FK c||(c==95||c==45))
def Me (s:ByteArray):Nat:=((List.range s.size).find? fun i=> !zJ (lj s i)).getD s.size
theorem ME {s:ByteArray}(hn:n=s.size) (h: ∀i,i<n→zJ (lj s i)=true):Me s=n:=by
 unfold Me
 rw[show(List.range s.size).find? (fun i=> !zJ (lj s i))=none from List.find?_eq_none.2 fun i hi=>by rw[h i (by rw[hn];exact cF.1 hi)];decide]
 exact hn.symm
theorem OK {s:ByteArray}(hn:n<s.size) (h: ∀i,i<n→zJ (lj s i)=true) (g:zJ (lj s n)=false):Me s=n:=by
 unfold Me
 rw[show(List.range s.size).find? (fun i=> !zJ (lj s i))=some n from List.find?_range_eq_some.2 ⟨by rw[g];rfl,cF.2 hn,fun j hj=>by rw[h j hj];rfl⟩]
 rfl
def xx (s:ByteArray):Bool:=decide ((s.size:Int)>0)&&(decide ((s.size:Int)≤24)&&(sV (lj s 0)&&((Me s:Int)==(s.size:Int))))
structure Ft where
 nm:ByteArray
 kd:Int
 dp:Int
 sh:List Cv
def cV:Ft:=⟨⟨#[]⟩,0,0,[]⟩
def iG (f:Ft):List CellD:=[.e (.string f.nm),.i .i64 f.kd,.i .i64 f.dp,.s f.sh.length (aj ao f.sh)]
theorem dg (f:Ft):(iG f).length=4:=rfl
theorem yV (f:Ft) (r:List CellD):(iG f++r).take 4=iG f:=by rw[←dg f];exact tL
def Cv.ci:Cv→Ci
 | .arc k _ _ _=>k
 | .seg ..=>⟨0,0,0⟩
theorem uX (h:c.isArc=true) (r:List CellD):((ao c++r).drop 13).take 12=cr c.ci:=by
 cases c with
 |seg l p q=>cases h
 |arc k w p q=>rfl
theorem Aq (vc:CvV c) (h:c.isArc=true):GK c.ci∧0<c.ci.q:=by
 cases c with
 |seg l p q=>cases h
 |arc k w p q=>exact⟨vc.g.1,vc.pos⟩
def sU (L:List Cv):Bool:=if ¬L.length=2 then false else if (L.getD 0 aH).isArc=false then false else if (L.getD 1 aH).isArc=false then false
 else if pc (L.getD 0 aH).ci (L.getD 1 aH).ci=false then false else Eh L (gD (ju (L.getD 0 aH).ci)).1
def iH (f:Ft) (th:Int):Bool:=if xx f.nm=false then false else if qI f.sh=false then false else if f.sh.length=0 then false else if f.dp<1 then false else if f.dp>th then false
 else if f.kd=1 then true else if f.kd=3 then sU f.sh else if f.kd=4 then f.dp==th else false
theorem yX {f:Ft}(h:iH f th=true):0<f.sh.length∧1≤f.dp∧f.dp≤th∧(f.kd=3→(f.sh.getD 0 aH).isArc=true):=by
 unfold iH at h
 repeat' split at h
 all_goals first|cases h|skip
 ·exact⟨by omega,by omega,by omega,by omega⟩
 ·refine⟨by omega,by omega,by omega,fun _=>?_⟩
  unfold sU at h
  repeat' split at h
  all_goals first|cases h|skip
  rename_i q _ _
  simpa using q
 ·exact⟨by omega,by omega,by omega,by omega⟩
structure FtV (f:Ft):Prop where
 v: ∀c∈f.sh,CvV c
 n:f.nm.size≤1000
 l:f.sh.length≤400
def wS (F:List Ft):Nat→Nat
 |0=>0
 |n+1=>wS F n+(if (F.getD n cV).kd=4 then 1 else 0)
theorem EC (F:List Ft): ∀n,wS F n≤n
 |0=>aX _
 |n+1=>by
  have:=EC F n
  show wS F n+(if _ then 1 else 0)≤_
  split<;>omega
def F3 (F:List Ft) (th:Int):Bool:=(List.range F.length).any fun i=> !iH (F.getD i cV) th
def E5 (F:List Ft):Bool:=(List.range F.length).any fun i=>(List.range i).any fun k=>(F.getD i cV).nm.toList==(F.getD k cV).nm.toList
def oB (th:Int) (F:List Ft):Int:=if 40<F.length then 3 else if th<1∨th>10000000 then 1 else if F3 F th then 1 else if 1<wS F F.length then 1 else if E5 F then 5 else 0
theorem JC {F:List Ft}(hi:i<F.length) (h:iH (F.getD i cV) th=false):F3 F th=true:=by
 unfold F3
 rw[lQ]
 exact⟨i,cF.2 hi,by rw[h];rfl⟩
theorem OR {F:List Ft}(h: ∀i,i<F.length→iH (F.getD i cV) th=true):F3 F th=false:=by
 unfold F3
 rw[pt]
 intro i hi
 rw[h i (cF.1 hi)];decide
theorem Pi {F:List Ft}{k:Nat}(hi:i<F.length) (hk:k<i) (h:((F.getD i cV).nm.toList==(F.getD k cV).nm.toList)=true):E5 F=true:=by
 unfold E5
 rw[lQ]
 refine⟨i,cF.2 hi,?_⟩
 rw[lQ]
 exact⟨k,cF.2 hk,h⟩
theorem PK {F:List Ft}(h: ∀i,i<F.length→ ∀k,k<i→((F.getD i cV).nm.toList==(F.getD k cV).nm.toList)=false):E5 F=false:=by
 unfold E5
 rw[pt]
 intro i hi
 rw[Bool.not_eq_true,pt]
 intro k hk
 rw[h i (cF.1 hi) k (cF.1 hk)];decide
theorem OE {F:List Ft}(h:oB th F=0):F.length≤40∧th≤10000000∧ ∀i,i<F.length→iH (F.getD i cV) th=true:=by
 unfold oB at h
 split at h
 ·omega
 ·split at h
  ·omega
  ·split at h
   ·omega
   ·rename_i g
    refine⟨by omega,by omega,fun i hi=>?_⟩
    cases hr:iH (F.getD i cV) th with
    |true=>rfl
    |false=>exact absurd (JC hi hr) g
structure It where
 k:Int
 n:Int
 d:Int
 sh:List Fm
 x:Int
 y:Int
def bg:It:=⟨0,0,0,[],0,0⟩
def oZ (x:It):List CellD:=[.i .u8 x.k,.i .u8 x.n,.i .u8 x.d,.s x.sh.length (aj jZ x.sh),.i .i8 x.x,.i .i8 x.y]
theorem j6 (x:It):(oZ x).length=6:=rfl
theorem EM (x:It) (r:List CellD):(oZ x++r).take 6=oZ x:=by rw[←j6 x];exact tL
structure ItB (t:It):Prop where
 k:0≤t.k∧t.k≤255
 n:0≤t.n∧t.n≤255
 d:0≤t.d∧t.d≤255
 x:zQ t.x
 y:zQ t.y
 s: ∀f∈t.sh,FmB f
 l:t.sh.length≤9223372036854775807
def C8 (s:ByteArray):List CellD:=[.e (.string s)]
def jp (n:Int):List CellD:=[.i .i64 n]
theorem Bq (s:ByteArray):(C8 s).length=1:=rfl
theorem fJ (n:Int):(jp n).length=1:=rfl
def NT:List ByteArray:=[⟨#[97]⟩,⟨#[98]⟩,⟨#[99,45,49]⟩,⟨#[100]⟩,⟨#[57]⟩]
def RK:List Int:=[1,3,4,1,2]
def PW:ByteArray:=⟨#[]⟩
def qS (x:It):ByteArray:=NT.getD (x.n%5).toNat PW
def lX (x:It):Int:=RK.getD (x.k%5).toNat 0
def IG (x:It):Ci:=⟨(x.x:Rat),(x.y:Rat),((x.d+1:Int):Rat)⟩
def nr (x:It):List Cv:=if lX x=3 then(gD (ju (IG x))).1 else(l5 x.sh).1
def Fr (x:It):Int:=if lX x=4 then 12+x.d/6%2 else 3*(x.d%6)
def Si (x:It):Ft:=⟨qS x,lX x,Fr x,nr x⟩
def xO (D:List It) (x:It):Bool:= !(lX x==3)&&(!(l5 x.sh).2||decide (4<D.length))
def zL (D:List It):Nat→List Ft
 |0=>[]
 |n+1=>zL D n++[Si (D.getD n bg)]
def tk (D:List It):Bool:=(List.range D.length).any fun i=>xO D (D.getD i bg)
def BH (D:List It):Int:=if tk D then 0 else 12
def qu (D:List It):List Ft:=if tk D then[] else zL D D.length
def Dd (D:List It):Bool:=if tk D then false else decide ((D.length:Int)≤4)
theorem pH (D:List It): ∀n,(zL D n).length=n
 |0=>rfl
 |n+1=>by show(zL D n++[_]).length=_;rw[bN,pH D n];rfl
theorem N8 (x:It):(qS x).size≤1000:=by
 have key: ∀l:List ByteArray,(∀s∈l,s.size≤1000)→ ∀j,(l.getD j PW).size≤1000:=fun l hl j=>by
  by_cases hj:j<l.length
  ·exact hl _ (aE hj)
  ·have e:l[j]? =none:=oM (by omega)
   rw[show l.getD j PW=PW from by simp[List.getD,e]];exact cY _
 refine key NT (fun s hs=>?_) _
 unfold NT at hs
 simp only[ek,tU,or_false] at hs
 rcases hs with e|e|e|e|e<;>subst e<;>exact dG rfl
theorem Cl {x:It}(h:ItB x):GK (IG x)∧0<(IG x).q:=by
 obtain⟨x1,x2⟩:=h.x
 obtain⟨y1,y2⟩:=h.y
 obtain⟨d1,d2⟩:=h.d
 refine⟨⟨Rz.int (ob (by omega) (by omega)) (by decide),ji (ob (by omega) (by omega)) (by decide),(ji (ob (by omega) (by omega)) (by decide):Rz 1 _).mono (by decide)⟩,?_⟩
 show(0:Rat)<((x.d+1:Int):Rat)
 have:(0:Int)<x.d+1:=by omega
 exact_mod_cast this
theorem QU {x:It}(h:ItB x):FtV (Si x):=by
 obtain⟨h1,h2⟩:=Cl h
 refine⟨fun c hc=>?_,N8 x,?_⟩
 ·have hc:c∈nr x:=hc
  unfold nr at hc
  split at hc
  ·exact(nI (A7 h1 h2)).1 c hc
  ·exact Ml h.s c hc
 ·show(nr x).length≤400
  unfold nr
  split
  ·exact(nI (A7 h1 h2)).2
  ·unfold l5
   split
   ·exact(nI (yJ h.s)).2
   ·exact cY _
theorem MT {D:List It}(h: ∀x∈D,ItB x): ∀n,n≤D.length→ ∀f∈zL D n,FtV f
 |0,_,f,hf=>by cases hf
 |n+1,hn,f,hf=>by
  rcases gn.1 (show f∈zL D n++[Si _] from hf) with hf|hf
  ·exact MT h n (by omega) f hf
  ·rw[mY.1 hf];exact QU (h _ (aE (d:=bg) hn))
theorem Df {D:List It}(h: ∀x∈D,ItB x): ∀f∈qu D,FtV f:=fun f hf=>by
 unfold qu at hf
 split at hf
 ·cases hf
 ·exact MT h _ (aX _) f hf
theorem yv {D:List It}(hi:i<D.length) (h:xO D (D.getD i bg)=true):tk D=true:=by
 unfold tk
 rw[lQ]
 exact⟨i,cF.2 hi,h⟩
theorem Ii {D:List It}(h: ∀i,i<D.length→xO D (D.getD i bg)=false):tk D=false:=by
 unfold tk
 rw[pt]
 intro i hi
 rw[h i (cF.1 hi)];decide
theorem wh (h:c.isArc=true) (r:List CellD):(((ao c++r).drop 13).drop 8).take 4=cR c.ci.q:=by
 cases c with
 |seg l p q=>cases h
 |arc k w p q=>rfl
theorem Jy {D:List It}:(qu D).length≤D.length:=by
 unfold qu
 split
 ·exact cY _
 ·rw[pH];exact aX _
structure Tl where
 no:Int
 kd:Int
 ra:Int
 fl:Int
 ho:Int
 st:Int
 fe:Int
 pl:Int
def dA:Tl:=⟨0,0,0,0,0,0,0,0⟩
def iA (t:Tl):List CellD:=[.i .i64 t.no,.i .i64 t.kd,.i .i64 t.ra,.i .i64 t.fl,.i .i64 t.ho,.i .i64 t.st,.i .i64 t.fe,.i .i64 t.pl]
theorem dB (t:Tl):(iA t).length=8:=rfl
theorem yO (t:Tl) (r:List CellD):(iA t++r).take 8=iA t:=by rw[←dB t];exact tL
def wP (v:Int):Bool:=decide (v≥1)&&decide (v≤10000000)
def gy (t:Tl):Bool:=decide (t.no≥1)&&(decide (t.no≤9999)&&(decide (t.kd≥1)&&(decide (t.kd≤4)&&(wP t.ra&&(wP t.fl&&(wP t.st&&(wP t.fe&&(wP t.pl&&(decide (t.ho≥t.ra)&&(decide (t.ho≤10000000)&&decide (t.st≤t.fl)))))))))))
theorem DN {t:Tl}(h:gy t=true):1≤t.kd∧t.kd≤4∧1≤t.ra∧t.ra≤10000000∧1≤t.fl∧t.fl≤10000000∧1≤t.st:=by
 simp only[gy,wP,dU,decide_eq_true_eq] at h
 omega
def L5 (L:List Tl) (v:Int):Option Nat:=(List.range L.length).find? fun i=>(L.getD i dA).no==v
theorem KK {L:List Tl}(hn:n<L.length) (h: ∀i,i<n→((L.getD i dA).no==v)=false) (g:((L.getD n dA).no==v)=true):L5 L v=some n:=
 List.find?_range_eq_some.2 ⟨g,cF.2 hn,fun j hj=>by rw[h j hj];rfl⟩
theorem Mi {L:List Tl}(h: ∀i,i<L.length→((L.getD i dA).no==v)=false):L5 L v=none:=
 List.find?_eq_none.2 fun i hi=>by rw[h i (cF.1 hi)];decide
def vG (L:List Tl) (v:Int):Nat:=(L5 L v).getD 0
def J5 (L:List Tl) (v:Int):Int:=if L5 L v=none then 4 else 0
def F4 (L:List Tl):Bool:=(List.range L.length).any fun i=> !gy (L.getD i dA)
def FU (L:List Tl):Bool:=(List.range L.length).any fun i=>decide (vG L (L.getD i dA).no<i)
def sv (L:List Tl):Int:=if 200<L.length then 3 else if F4 L then 1 else if FU L then 5 else 0
theorem JE {L:List Tl}(hi:i<L.length) (h:gy (L.getD i dA)=false):F4 L=true:=by
 unfold F4
 rw[lQ]
 exact⟨i,cF.2 hi,by rw[h];rfl⟩
theorem PS {L:List Tl}(h: ∀i,i<L.length→gy (L.getD i dA)=true):F4 L=false:=by
 unfold F4
 rw[pt]
 intro i hi
 rw[h i (cF.1 hi)];decide
theorem Ps {L:List Tl}(hi:i<L.length) (h:vG L (L.getD i dA).no<i):FU L=true:=by
 unfold FU
 rw[lQ]
 exact⟨i,cF.2 hi,decide_eq_true h⟩
theorem NL {L:List Tl}(h: ∀i,i<L.length→ ¬vG L (L.getD i dA).no<i):FU L=false:=by
 unfold FU
 rw[pt]
 intro i hi
 rw[decide_eq_false (h i (cF.1 hi))];decide
theorem Oe {L:List Tl}(h:sv L=0): ∀i,i<L.length→gy (L.getD i dA)=true:=by
 unfold sv at h
 split at h
 ·omega
 ·split at h
  ·omega
  ·rename_i g
   intro i hi
   cases hr:gy (L.getD i dA) with
   |true=>rfl
   |false=>exact absurd (JE hi hr) g
structure Opn where
 kd:Int
 ft:Int
 tl:Int
 ds:List Int
 lv:Int
def AX:Opn:=⟨0,0,0,[],0⟩
def Cw (o:Opn):List CellD:=[.i .i64 o.kd,.i .i64 o.ft,.i .i64 o.tl,.s o.ds.length (aj jp o.ds),.i .i64 o.lv]
theorem AH (o:Opn):(Cw o).length=5:=rfl
def Co (O:List Opn) (n:Int):Bool:=if (List.range O.length).any (fun i=>decide (((O.getD i AX).ds.length:Int)>n)) then false else decide ((O.length:Int)≤n)
theorem Kn {O:List Opn}{n:Int}(hi:i<O.length) (h:((O.getD i AX).ds.length:Int)>n):Co O n=false:=by
 unfold Co
 rw[if_pos]
 rw[lQ]
 exact⟨i,cF.2 hi,decide_eq_true h⟩
theorem O5 {O:List Opn}{n:Int}(h: ∀i,i<O.length→ ¬((O.getD i AX).ds.length:Int)>n):Co O n=decide ((O.length:Int)≤n):=by
 unfold Co
 rw[if_neg]
 rw[Bool.not_eq_true,pt]
 intro i hi
 rw[decide_eq_false (h i (cF.1 hi))];decide
def b8 (k f t:Int):Bool:=if k=1 then(f==1||f==3)&&t==1 else if k=2 then f==1&&t==1 else if k=3 then f==3&&t==2 else if k=4 then(f==1||f==3)&&t==3 else if k=5 then f==4&&t==1 else false
def qT (D:List Int):Nat→Int
 |0=>0
 |n+1=>D.getD n 0
def p7 (D:List Int) (dp st:Int) (n:Nat):Bool:=decide (qT D n<D.getD n 0)&&(decide (D.getD n 0≤dp)&&decide (D.getD n 0-qT D n≤st))
def pu (D:List Int) (st:Int) (n:Nat):Bool:=decide (qT D n<D.getD n 0)&&decide (D.getD n 0-qT D n≤st)
def sE (D:List Int) (dp st:Int):Bool:=if (List.range D.length).any (fun i=> !p7 D dp st i) then false else qT D D.length==dp
def Ch (D:List Int) (dp st:Int):Bool:=if (List.range D.length).any (fun i=> !pu D st i) then false else decide ((D.length:Int)>0)&&qT D D.length==dp
theorem sr (hi:i<n) (h:f i=false):(List.range n).any (fun i=> !f i)=true:=by
 rw[lQ]
 exact⟨i,cF.2 hi,by rw[h];rfl⟩
theorem yF (h: ∀i,i<n→f i=true): ¬(List.range n).any (fun i=> !f i)=true:=by
 rw[Bool.not_eq_true,pt]
 intro i hi
 rw[h i (cF.1 hi)];decide
theorem Ju (h: ¬(List.range n).any (fun i=> !f i)=true): ∀i,i<n→f i=true:=by
 intro i hi
 cases hr:f i with
 |true=>rfl
 |false=>exact absurd (sr hi hr) h
theorem Cq (h: ∀i,i<n→pu D st i=true): ∀i,i≤n→0≤qT D i∧qT D i≤qT D n:=by
 have h0: ∀i,i≤n→0≤qT D i:=by
  intro i
  induction i with
  |zero=>intro _;exact pq 0
  |succ i ih=>
   intro hi
   have:=h i (by omega)
   simp only[pu,dU,decide_eq_true_eq] at this
   have:=ih (by omega)
   show 0≤D.getD i 0
   omega
 intro i hi
 refine⟨h0 i hi,?_⟩
 clear h0
 obtain⟨k,rfl⟩: ∃k,n=i+k:=⟨n-i,by omega⟩
 clear hi
 induction k with
 |zero=>exact pq _
 |succ k ih=>
  have:=ih fun j hj=>h j (by omega)
  have:=h (i+k) (by omega)
  simp only[pu,dU,decide_eq_true_eq] at this
  show _≤D.getD (i+k) 0
  omega
theorem OJ {dp:Int}(hd:1≤dp):Ch D dp st=sE D dp st:=by
 unfold Ch sE
 by_cases h:(List.range D.length).any (fun i=> !pu D st i)=true
 ·rw[if_pos h]
  by_cases g:(List.range D.length).any (fun i=> !p7 D dp st i)=true
  ·rw[if_pos g]
  ·exact absurd h (yF fun i hi=>by
    have:=Ju g i hi
    simp only[p7,pu,dU,decide_eq_true_eq] at this⊢
    exact⟨this.1,this.2.2⟩)
 ·rw[if_neg h]
  have hs:=Ju h
  by_cases g:(List.range D.length).any (fun i=> !p7 D dp st i)=true
  ·rw[if_pos g]
   cases e:(decide ((D.length:Int)>0)&&qT D D.length==dp) with
   |false=>rfl
   |true=>
    simp only[dU,decide_eq_true_eq,beq_iff_eq] at e
    refine absurd g (yF fun i hi=>?_)
    have h1:=hs i hi
    have h2:=(Cq hs (i+1) hi).2
    simp only[p7,pu,dU,decide_eq_true_eq] at h1⊢
    exact⟨h1.1,by rw[e.2] at h2;exact h2,h1.2⟩
  ·rw[if_neg g]
   by_cases l0:D.length=0
   ·rw[l0]
    show false=((0:Int)==dp)
    rw[eq_comm,beq_eq_false_iff_ne];omega
   ·rw[decide_eq_true (by omega),du]
def qf (t:Tl) (q:Rat):Bool:=if t.kd=2 then aM ((t.ra*t.ra:Int):Rat) q==0 else decide (aM ((t.ra*t.ra:Int):Rat) q<0)&&decide (aM q (((4:Int):Rat)*((t.ra*t.ra:Int):Rat))≤0)
def lG (t:Tl) (q:Rat):Bool:=if t.kd=2 then aM ((t.ra:Rat)*(t.ra:Rat)) q==0 else(t.kd !=1)||(decide (aM ((t.ra:Rat)*(t.ra:Rat)) q<0)&&decide (aM q (((4:Int):Rat)*((t.ra:Rat)*(t.ra:Rat)))≤0))
theorem Mj {t:Tl}{q:Rat}(h:t.kd=1∨t.kd=2):lG t q=qf t q:=by
 unfold lG qf
 rw[Rat.intCast_mul]
 by_cases g:t.kd=2
 ·rw[if_pos g,if_pos g]
 ·rw[if_neg g,if_neg g,show(t.kd !=1)=false by simp;omega,ku]
theorem PP (h:1≤a) (g:a≤10000000):0≤a*a∧a*a≤100000000000000:=
 ⟨Int.mul_nonneg (by omega) (by omega),pj g g (by omega) (by omega)⟩
def Jw (x:Ft):Rat:=(x.sh.getD 0 aH).ci.q
def ue (o:Opn) (x:Ft) (t:Tl):Int:=if b8 o.kd x.kd t.kd=false then 1 else if o.kd=4 then(if (o.ds.length:Int)>0 then 1 else 0) else if sE o.ds x.dp t.st=false then 1 else if t.fl<x.dp then 16 else if x.kd=3 then(if qf t (Jw x)=false then 16 else 0) else 0
def oc (F:List Ft) (L:List Tl) (o:Opn):Bool:=decide (o.ft<0)||(decide (o.ft≥F.length)||(decide (o.tl<0)||(decide (o.tl≥L.length)||(decide (o.lv<0)||decide (o.lv>10000000)))))
def n5 (F:List Ft) (L:List Tl) (o:Opn):Int:=if oc F L o then 1 else ue o (F.getD o.ft.toNat cV) (L.getD o.tl.toNat dA)
def ti (o:Opn) (x:Ft) (t:Tl):Bool:=if o.kd=4 then((o.ds.length:Int)==0) else Ch o.ds x.dp t.st
def qC (o:Opn) (x:Ft) (t:Tl):Int:=if b8 o.kd x.kd t.kd=false then 1 else if ti o x t=false then 1 else if ¬o.kd=4∧t.fl<x.dp then 16 else if x.kd=3 then(if lG t (Jw x)=false then 16 else 0) else 0
def mh (F:List Ft) (L:List Tl) (o:Opn):Int:=if oc F L o then 1 else qC o (F.getD o.ft.toNat cV) (L.getD o.tl.toNat dA)
theorem NK {o:Opn}{x:Ft}{t:Tl}(hd:1≤x.dp):qC o x t=ue o x t:=by
 unfold qC ue
 by_cases s:b8 o.kd x.kd t.kd=false
 ·rw[if_pos s,if_pos s]
 ·rw[if_neg s,if_neg s]
  unfold ti
  by_cases k:o.kd=4
  ·rw[if_pos k,if_pos k]
   by_cases l:(o.ds.length:Int)>0
   ·rw[if_pos l,if_pos (beq_eq_false_iff_ne.2 (by omega))]
   ·rw[if_neg l,if_neg (by rw[show(o.ds.length:Int)=0 by omega];decide),if_neg (fun q=>q.1 k)]
    split
    ·rw[if_neg]
     unfold lG
     unfold b8 at s
     rw[if_neg (by omega),if_neg (by omega),if_neg (by omega),if_pos k] at s
     have h3:t.kd=3:=by simp at s;exact s.2
     rw[h3]
     simp
    ·rfl
  ·rw[if_neg k,if_neg k,OJ hd]
   split
   ·rfl
   ·by_cases f:t.fl<x.dp
    ·rw[if_pos ⟨k,f⟩,if_pos f]
    ·rw[if_neg (fun q=>f q.2),if_neg f]
     split
     ·rw[Mj]
      unfold b8 at s
      rename_i x3
      rw[x3] at s
      by_cases k1:o.kd=1
      ·rw[if_pos k1] at s
       left;simp at s;exact s
      ·by_cases k3:o.kd=3
       ·rw[if_neg k1,if_neg (by omega),if_pos k3] at s
        right;simp at s;exact s
       ·exfalso
        rw[if_neg k1,if_neg k3,if_neg k] at s
        simp at s
     ·rfl
theorem PJ {F:List Ft}{L:List Tl}{o:Opn}(h: ∀i,i<F.length→1≤(F.getD i cV).dp):mh F L o=n5 F L o:=by
 unfold mh n5
 split
 ·rfl
 ·rename_i g
  refine NK (h _ ?_)
  simp only[oc,qr,decide_eq_true_eq,not_or] at g
  omega
def Aa (L:List Tl):Bool:=decide ((L.length:Int)≤8)&&(sv L==0)
theorem KM {L:List Tl}(h:Aa L=true):L.length≤8∧ ∀i,i<L.length→gy (L.getD i dA)=true:=by
 simp only[Aa,dU,decide_eq_true_eq,beq_iff_eq] at h
 exact⟨by omega,Oe h.2⟩
theorem PE {o:Opn}{n:Int}(h:Co [o] n=true):(o.ds.length:Int)≤n:=by
 rcases iO n o.ds.length with g|g
 ·rw[Kn (O:=[o]) (i:=0) Nat.zero_lt_one (show(([o].getD 0 AX).ds.length:Int)>n from g)] at h;cases h
 ·exact g
end Go.Proofs.YtkfgimjmgfoneaaGreatDoor
