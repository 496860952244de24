/-Plain:lists of points in the order of a curve. -/
import Derived.Test.YtkfgimjmgfoneaaGreatDoorVfI
namespace Go.Proofs.YtkfgimjmgfoneaaGreatDoor
open Go Go.RowKit
variable {k:Ci}{a c:Cv}{ki:IntKind}{tm tm0:List (Nat×DV)}{K:List (Nat×DV)→Prop}{bx:List (Nat×TypeId×List CellD)}{cs us ys zs zs':List CellD}{C:List Nat}{os pre tail:List Oper}{l out:List Pt}{N by_ i id m n off t:Nat}{β:Nat→Nat}{L V:Nat→Prop}{h x x0 y:Operand}{f p q:Pt}{b b1 b2:Rat}{U e e2:TypeId}{w:World}
variable {ty:TypeId}{pos:String}{af:Array Edge}{g:Option (Nat×Bool)}{dst:Option Nat}
theorem jV:type_of% @Rz.zero:=@Rz.zero
theorem mw:type_of% @Option.none_or:=@Option.none_or
theorem mY:type_of% @List.mem_singleton:=@List.mem_singleton
theorem tU:type_of% @List.not_mem_nil:=@List.not_mem_nil
theorem tK:type_of% @Nat.zero_mul:=@Nat.zero_mul
theorem KF {c:Rat}(h:tq b1 b2 c=true):tq (-b1) b2 c=true:=by
 unfold tq at*
 by_cases h1:b1=0
 ·grind
 grind
theorem GP.flip (h:GP p):GP p.flip:=⟨h.a1.neg,h.b1.neg,h.a2,h.b2,h.c,fun e=>⟨(h.ir e).1.neg,(h.ir e).2⟩,KF h.v⟩
theorem GK.mir (h:GK k):GK k.mir:=⟨h.x.neg,h.y,h.q⟩
theorem GP.rat {v w:Rat}(h:Rz 113 v) (g:Rz 113 w):GP ⟨v,0,w,0,0⟩:=⟨h,jV (by decide),g,jV (by decide),jV (by decide),fun e=>absurd rfl e,by unfold tq;rw[if_pos ⟨rfl,rfl⟩];exact decide_eq_true rfl⟩
theorem GP.dPt:GP dPt:=GP.rat (jV (by decide)) (jV (by decide))
theorem GP.getD (h: ∀p∈l,GP p) (j:Nat):GP (l.getD j Go.Proofs.YtkfgimjmgfoneaaGreatDoor.dPt):=by
 by_cases hj:j<l.length
 ·exact h _ (aE hj)
 ·rw[List.getD,oM (by omega)];exact GP.dPt
section
variable {c:Cv}{x:Pt}
theorem zD: ∀ {l:List Pt}{k:Nat},k≤l.length→(∀j,j<k→c.ord (l.getD j dPt) x<0)→(k=l.length∨ ¬c.ord (l.getD k dPt) x<0)→kr c x l=k
 |[],k,h,_,_=>by
  have:k=0:=by simpa using h
  subst this;rfl
 |o::l,k,h,h1,h2=>by
  show(if c.ord o x<0 then kr c x l+1 else 0)=k
  match k with
  |0=>
   rcases h2 with h2|h2
   ·simp at h2
   ·exact if_neg (show ¬c.ord o x<0 from h2)
  |k+1=>
   rw[if_pos (show c.ord o x<0 from h1 0 (by omega)),zD (l:=l) (k:=k) (by simpa using h) (fun j hj=>h1 (j+1) (by omega)) (h2.imp (fun e=>by simpa using e) id)]
theorem mV {y:Pt}(h:y∈d8 c out x):y∈out∨y=x:=by
 unfold d8 at h
 split at h
 ·grind
 grind
theorem IU:out.length≤(d8 c out x).length∧(d8 c out x).length≤out.length+1:=by
 unfold d8
 split
 ·omega
 grind
end
theorem BU {c:Cv}: ∀(l out:List Pt) {y:Pt},y∈l.foldl (d8 c) out→y∈out∨y∈l
 |[],out,y,h=>.inl h
 |x::l,out,y,h=>by
  rcases BU l (d8 c out x) h with h|h
  ·exact(mV h).imp id fun e=>by rw[e];exact fW
  ·exact .inr (gi _ h)
theorem jG {y:Pt}(h:y∈bt c l):y∈l:=(BU l [] h).elim (fun e=>by cases e) id
theorem vR {c:Cv}: ∀(l out:List Pt),out.length≤(l.foldl (d8 c) out).length∧(l.foldl (d8 c) out).length≤out.length+l.length
 |[],out=>⟨Nat.le_refl _,aX _⟩
 |x::l,out=>by
  have h1:=IU (c:=c) (x:=x) (out:=out)
  have h2:=vR (c:=c) l (d8 c out x)
  show out.length≤(l.foldl (d8 c) (d8 c out x)).length∧(l.foldl (d8 c) (d8 c out x)).length≤out.length+(l.length+1)
  omega
theorem nk:(bt c l).length≤l.length:=by
 have:=(vR (c:=c) l []).2
 rw[List.length_nil,eC] at this
 exact this
theorem nB (h:i<l.length):bt c (l.take (i+1))=d8 c (bt c (l.take i)) (l.getD i dPt):=by
 unfold bt
 rw[oR (d:=dPt) h,List.foldl_append];rfl
theorem Fc (h:l.length≤i):bt c (l.take i)=bt c l:=by rw[fp h]
theorem LB {x:Pt}{k:Nat}(hs:kr c x out=k) (h:k<out.length) (he:cP (out.getD k dPt) x=0):d8 c out x=out:=by
 unfold d8;rw[hs,if_pos ⟨h,he⟩]
theorem rc {x:Pt}{k:Nat}(hs:kr c x out=k) (h: ¬(k<out.length∧cP (out.getD k dPt) x=0)):d8 c out x=out.take k++x::out.drop k:=by
 unfold d8;rw[hs,if_neg h]
theorem rz {x:Pt}{k:Nat}:aj al (out.take k++x::out.drop k)=aj al (out.take k)++al x++aj al (out.drop k):=by
 rw[ck]
 show _++(al x++aj al (out.drop k))=_
 grind
theorem iC {x:Pt}{k:Nat}(h:k≤out.length):(out.take k++x::out.drop k).length=out.length+1:=by grind
theorem g9 (c:Cv): ∀l:List Pt,(iQ c l).length=l.length-1
 |[]=>rfl
 |[_]=>rfl
 |p::q::l=>by
  show(iQ c (q::l)).length+1=l.length+1+1-1
  rw[g9 c (q::l)]
  show l.length+1-1+1=_
  omega
theorem sN (c:Cv): ∀ {l:List Pt}{i:Nat},i+1<l.length→iQ c (l.take (i+2))=iQ c (l.take (i+1))++[c.ends (l.getD i dPt) (l.getD (i+1) dPt)]
 |p::q::l,0,_=>rfl
 |p::q::l,i+1,h=>by
  show c.ends p q::iQ c ((q::l).take (i+2))=c.ends p q::iQ c ((q::l).take (i+1))++_
  rw[sN c (l:=q::l) (i:=i) (by simpa using h)];rfl
 |[_],i,h=>by simp at h
 |[],i,h=>by simp at h
theorem Ga (c:Cv) :iQ c (l.take 1)=[]:=by
 match l with
 |[]=>rfl
 |p::l=>rfl
theorem dD (h:c.good):GP c.p:=by cases c<;>exact h.2.1
theorem eA (h:c.good):GP c.q:=by cases c<;>exact h.2.2
theorem xB (h:c.good) (hp:GP p) (hq:GP q):(c.ends p q).good:=by cases c<;>exact⟨h.1,hp,hq⟩
theorem wl (h:c.good):c.rev.good:=by cases c<;>exact⟨h.1,h.2.2,h.2.1⟩
theorem q9 (A B C D M N:Rat): -1≤mC A B C D M N∧mC A B C D M N≤1:=by
 unfold mC
 split
 ·decide
 ·exact Ee (iT _ _ _) (kE (iT _ _ _) (fB _ _)) (iT _ _ _)
theorem RU (a b c:Rat): -1≤s3 a b c∧s3 a b c≤1:=by
 unfold s3
 have h1:=fB a 0
 have h2:=fB b 0
 grind
theorem dN (p q:Pt): -1≤cx p q∧cx p q≤1:=q9 _ _ _ _ _ _
theorem QM (p q:Pt): -1≤cP p q∧cP p q≤1:=by
 unfold cP ns
 split
 ·exact q9 _ _ _ _ _ _
 ·exact q9 _ _ _ _ _ _
theorem QP {k:Nat}{c:Rat}(h:Rz k b) (hk:1≤k):Rz k (rB b c):=by
 unfold rB
 split
 ·exact jV hk
 ·exact h
theorem Qv {k:Nat}{c:Rat}(h:Rz k c) (hk:1≤k):Rz k (rC b c):=by
 unfold rC
 split
 ·exact jV hk
 ·exact h
theorem ob {x:Int}(h: -1000000000<x) (h':x<1000000000):Sz 1 x:=by
 have e:pw 1=1000000000:=by decide+kernel
 exact⟨by omega,by omega⟩
theorem DZ {n:Int}(h: -1≤n∧n≤1):IntKind.i64.wrap (0-n)= -n:=by rw[Int.zero_sub];exact oC (by omega) (by omega)
theorem Sm (h:(cx p q !=0)=true):cP p q=cx p q:=LN h
theorem SD (h:(cx p q !=0)=false):cP p q=cy p q:=Lc h
theorem R2 (h:decide (lZ p k.y>0)=true):jn k p=true:=by unfold jn;rw[h];rfl
theorem NJ (h:decide (lZ p k.y>0)=false) (g:(lZ p k.y==0)=false):jn k p=false:=by unfold jn;rw[h,g];rfl
theorem On (h:decide (lZ p k.y>0)=false) (g:(lZ p k.y==0)=true):jn k p=decide (uJ p k.x>0):=by unfold jn;rw[h,g];rfl
theorem KO (h:(!(jn k p==jn k q))=true) (g:jn k q=true):eh k p q= -1:=by
 unfold eh;rw[show(jn k p !=jn k q)=true from h,if_pos rfl,g,if_pos rfl]
theorem JR (h:(!(jn k p==jn k q))=true) (g:jn k q=false):eh k p q=1:=by
 unfold eh;rw[show(jn k p !=jn k q)=true from h,if_pos rfl,g];rfl
theorem G0 (h:(!(jn k p==jn k q))=false) (g:jn k p=true):eh k p q= -cx p q:=by
 unfold eh;rw[show(jn k p !=jn k q)=false from h,if_neg (by decide),g,if_pos rfl]
theorem IP (h:(!(jn k p==jn k q))=false) (g:jn k p=false):eh k p q=cx p q:=by
 unfold eh;rw[show(jn k p !=jn k q)=false from h,if_neg (by decide),g];rfl
theorem QY (h:(!(decide (eh k p f<0)==decide (eh k q f<0)))=true) (g:decide (eh k q f<0)=true):oO k f p q= -1:=by
 unfold oO;rw[show(decide (eh k p f<0) !=decide (eh k q f<0))=true from h,if_pos rfl,g,if_pos rfl]
theorem Ot (h:(!(decide (eh k p f<0)==decide (eh k q f<0)))=true) (g:decide (eh k q f<0)=false):oO k f p q=1:=by
 unfold oO;rw[show(decide (eh k p f<0) !=decide (eh k q f<0))=true from h,if_pos rfl,g];rfl
theorem QS (h:(!(decide (eh k p f<0)==decide (eh k q f<0)))=false):oO k f p q=eh k p q:=by
 unfold oO;rw[show(decide (eh k p f<0) !=decide (eh k q f<0))=false from h];rfl
theorem Pp {l:Ln}{t:Pt}(h:decide (cP f t>0)=true):(Cv.seg l f t).ord p q= -cP p q:=by
 show(if _ then _ else _)=_
 grind
theorem Ph {l:Ln}{t:Pt}(h:decide (cP f t>0)=false):(Cv.seg l f t).ord p q=cP p q:=by
 show(if _ then _ else _)=_
 grind
theorem NI {w:Bool}{t:Pt}(h:(!w)=true):(Cv.arc k w f t).ord p q=oO k f p q:=by
 show(if _ then _ else _)=_
 grind
theorem PN {w:Bool}{t:Pt}(h:(!w)=false):(Cv.arc k w f t).ord p q=oO k.mir f.flip p.flip q.flip:=by
 show(if _ then _ else _)=_
 grind
theorem Rj (h:c.supp p=false):c.on p=false:=by unfold Cv.on;rw[h];rfl
theorem NF (h:c.supp p=true) (g:decide (c.ord c.p p≤0)=false):c.on p=false:=by unfold Cv.on;rw[h,g];rfl
theorem NA (h:c.supp p=true) (g:decide (c.ord c.p p≤0)=true):c.on p=decide (c.ord p c.q≤0):=by unfold Cv.on;rw[h,g];rfl
theorem Pj (h:tq p.b1 p.b2 p.c=true) (hs:j9 p.c=true):p.b1=0∧p.b2=0∧p.c=0:=by
 unfold tq at h
 split at h
 ·grind
 grind
theorem Pr {l:Ln}(h:tq p.b1 p.b2 p.c=true) (hs:j9 p.c=true):vA l p+vB l p*rt p.c=vA l p∧0=rB (vB l p) p.c∧0=rC (vB l p) p.c:=by
 obtain⟨h1,h2,h3⟩:=Pj h hs
 have hb:vB l p=0:=by unfold vB;rw[h1,h2];grind
 rw[hb]
 exact⟨by grind,(CC (.inl rfl)).symm,(CE (.inl rfl)).symm⟩
theorem IM {l:Ln}(hl:GL l) (hp:GP p):Rz 1000 (vA l p):=(((hl.a.mul hp.a1).add (hl.b.mul hp.a2)).sub hl.c).mono (by decide)
theorem Je {l:Ln}(hl:GL l) (hp:GP p):Rz 1000 (vB l p):=((hl.a.mul hp.b1).add (hl.b.mul hp.b2)).mono (by decide)
theorem JH (hk:GK k) (hp:GB p):Rz 40002 (p.a1-k.x)∧Rz 40002 (p.a2-k.y):=⟨(hp.a1.sub hk.x).mono (by decide),(hp.a2.sub hk.y).mono (by decide)⟩
theorem JU (hk:GK k) (hp:GB p):Rz 400000 (Ge (p.a1-k.x) (p.a2-k.y) p.b1 p.b2 p.c):=by
 obtain⟨h1,h2⟩:=JH hk hp
 exact((((h1.mul h1).add (h2.mul h2)).add (((hp.b1.mul hp.b1).add (hp.b2.mul hp.b2)).mul hp.c))).mono (by decide)
theorem PD (hk:GK k) (hp:GB p):Rz 400010 (PX k p):=((JU hk hp).add hk.q.neg).mono (by decide)
theorem PM (hk:GK k) (hp:GB p):Rz 400000 (F6 k p):=by
 obtain⟨h1,h2⟩:=JH hk hp
 exact(((h1.mul hp.b1).add (h2.mul hp.b2)).add ((h1.mul hp.b1).add (h2.mul hp.b2))).mono (by decide)
theorem RW (x:Rat):0≤x*x:=by
 rcases Rat.le_total (a:=0) (b:=x) with h|h
 ·exact kA h h
 ·have:=kA (a:= -x) (b:= -x) (by grind) (by grind);grind
theorem MM {x:Rat}(h:x*x=0):x=0:=by
 by_cases e:x=0
 ·exact e
 ·exact absurd (Rat.mul_eq_zero.1 h) (by simp[e])
theorem Nc {x y:Rat}(h:x*x+y*y=0):x=0∧y=0:=by
 have h1:=RW x
 have h2:=RW y
 exact⟨MM (by grind),MM (by grind)⟩
theorem gM {x:Rat}:aM x 0=0↔x=0:=by
 unfold aM
 constructor
 ·grind
 grind
theorem jF (x:Rat):aM x x=0:=by unfold aM;rw[if_neg (by grind),if_neg (by grind)]
theorem Ia {x:Rat}(h: ¬aM x 0<0):0≤x:=by
 unfold aM at h
 split at h
 ·grind
 grind
theorem AI {x:Rat}(h: ¬aM x 0<0) (g: ¬aM x 0=0):0<x:=by
 have h1:=Ia h
 have h2:x≠0:=fun e=>g (gM.2 e)
 grind
theorem DB {k:Nat}{x:Int}(h:Sz (k+k) x):Sz k (cn x):=by
 have h0:=fT x
 rcases iO x 0 with hx|hx
 ·rw[re hx]
  have:=cW k
  exact⟨by omega,by omega⟩
 ·have h1:=uv hx
  have h2:pw (k+k)=pw k*pw k:=qo k k
  have h3:=h.lt
  have h4:=cW k
  refine⟨?_,by omega⟩
  rcases iO (cn x) (pw k) with g|g
  ·exact g
  ·have h5:pw k*pw k≤cn x*cn x:=pj g g (by omega) h0
   omega
theorem II {k:Nat}{c:Rat}(h:Rz (k+k) c):Rz k (rt c):=Rz.of (DB h.n) (DB h.d) (by have:=sb (den_pos c);omega)
theorem uH {a1 a2 c:Rat}(h1:Rz 52 a1) (h2:Rz 21 b1) (h3:Rz 52 a2) (h4:Rz 21 b2) (h5:Rz 78 c) (h0:0<c) (hb: ¬(b1=0∧b2=0)):GP (jI a1 b1 a2 b2 c):=by
 unfold jI
 cases hs:j9 c with
 |true=>
  exact GP.rat ((h1.add (h2.mul (II (k:=39) h5))).mono (by decide)) ((h3.add (h4.mul (II (k:=39) h5))).mono (by decide))
 |false=>
  refine⟨h1.mono (by decide),h2.mono (by decide),h3.mono (by decide),h4.mono (by decide),h5.mono (by decide),fun _=>⟨h1,h3⟩,?_⟩
  unfold tq
  grind
section
variable {l m:Ln}{k d:Ci}
theorem nF (hl:GL l) (hk:GK k):Rz 29 (oz l k.x k.y):=(((hl.a.mul hk.x).add (hl.b.mul hk.y)).sub hl.c).mono (by decide)
theorem nZ (hl:GL l):Rz 17 (ig l):=((hl.a.mul hl.a).add (hl.b.mul hl.b)).mono (by decide)
theorem Bu (hl:GL l) (hk:GK k):Rz 46 (oz l k.x k.y/ig l):=(nF hl hk).div (nZ hl) hl.n
theorem pe (hl:GL l) (hk:GK k):Rz 52 (zS l k):=(hk.x.sub ((Bu hl hk).mul hl.a)).mono (by decide)
theorem pg (hl:GL l) (hk:GK k):Rz 52 (zO l k):=(hk.y.sub ((Bu hl hk).mul hl.b)).mono (by decide)
theorem uz (hl:GL l) (hk:GK k):Rz 78 (nC l k):=(((nZ hl).mul hk.q).sub ((nF hl hk).mul (nF hl hk))).mono (by decide)
theorem zV (hl:GL l):Rz 21 (l.b/ig l):=(hl.b.div (nZ hl) hl.n).mono (by decide)
theorem BM (hl:GL l):Rz 21 (-l.a/ig l):=(hl.a.neg.div (nZ hl) hl.n).mono (by decide)
theorem Nt (hl:GL l): ¬(l.b/ig l=0∧ -l.a/ig l=0):=by
 rintro⟨h1,h2⟩
 have hn:=hl.n
 refine hn ?_
 unfold ig
 grind
theorem C9 (hl:GL l) (hk:GK k) (h: ¬aM (nC l k) 0<0) (g: ¬aM (nC l k) 0=0):GP (Kv l k):=
 uH (pe hl hk) (zV hl) (pg hl hk) (BM hl) (uz hl hk) (AI h g) (Nt hl)
theorem Cy (hl:GL l) (hk:GK k) (h: ¬aM (nC l k) 0<0) (g: ¬aM (nC l k) 0=0):GP (Kt l k):=
 uH (pe hl hk) (zV hl).neg (pg hl hk) (BM hl).neg (uz hl hk) (AI h g) (fun e=>Nt hl ⟨by grind,by grind⟩)
theorem tp (hl:GL l) (hk:GK k): ∀p∈f8 l k,GP p:=by
 intro p hp
 unfold f8 at hp
 split at hp
 ·grind
 ·rename_i h
  split at hp
  ·rw[mY] at hp;subst hp
   exact GP.rat ((pe hl hk).mono (by decide)) ((pg hl hk).mono (by decide))
  ·rename_i g
   split at hp
   ·rcases ek.1 hp with e|e
    ·rw[e];exact C9 hl hk h g
    ·rw[mY] at e;rw[e];exact Cy hl hk h g
   ·rcases ek.1 hp with e|e
    ·rw[e];exact Cy hl hk h g
    ·rw[mY] at e;rw[e];exact C9 hl hk h g
theorem yP (hl:GL l) (hm:GL m):Rz 17 (nH l m):=((hl.a.mul hm.b).sub (hm.a.mul hl.b)).mono (by decide)
theorem IY (hl:GL l) (hm:GL m):Rz 43 (LT l m):=((hl.c.mul hm.b).sub (hm.c.mul hl.b)).mono (by decide)
theorem IN (hl:GL l) (hm:GL m):Rz 43 (My l m):=((hl.a.mul hm.c).sub (hm.a.mul hl.c)).mono (by decide)
theorem Gg (hl:GL l) (hm:GL m): ∀p∈iE l m,GP p:=by
 intro p hp
 unfold iE at hp
 split at hp
 ·rename_i h
  have h0:nH l m≠0:=fun e=>h (gM.2 e)
  rw[mY] at hp;subst hp
  exact GP.rat (((IY hl hm).div (yP hl hm) h0).mono (by decide)) (((IN hl hm).div (yP hl hm) h0).mono (by decide))
 grind
theorem uj (hk:GK k):Rz 8 (J4 k):=(((hk.x.mul hk.x).add (hk.y.mul hk.y)).sub hk.q).mono (by decide)
theorem Cp:Rz 1 (2:Rat):=⟨by rw[show(2:Rat).num=2 from rfl];exact ob (by decide) (by decide),by rw[show((2:Rat).den:Int)=1 from rfl];exact Sz.one (by decide)⟩
theorem DX (hk:GK k) (hd:GK d) (h:sO k d=false):GL (KW k d):=by
 refine⟨(Cp.mul (hd.x.sub hk.x)).mono (by decide),(Cp.mul (hd.y.sub hk.y)).mono (by decide),((uj hd).sub (uj hk)).mono (by decide),fun e=>?_⟩
 have e1:=Nc (show(2*(d.x-k.x))*(2*(d.x-k.x))+(2*(d.y-k.y))*(2*(d.y-k.y))=0 from e)
 have hx:k.x=d.x:=by grind
 have hy:k.y=d.y:=by grind
 unfold sO qR at h
 rw[hx,hy] at h
 simp[jF] at h
theorem GW (hk:GK k) (hd:GK d): ∀p∈mv k d,GP p:=by
 intro p hp
 unfold mv at hp
 split at hp
 ·grind
 ·rename_i h
  exact tp (DX hk hd (by simpa using h)) hk p hp
theorem Jh (ha:a.good) (hc:c.good): ∀p∈kv a c,GP p:=by
 intro p hp
 cases a<;>cases c
 ·exact Gg ha.1 hc.1 p hp
 ·exact tp ha.1 hc.1 p hp
 ·exact tp hc.1 ha.1 p hp
 ·exact GW ha.1 hc.1 p hp
theorem w9 (ha:a.good) (hc:c.good): ∀p∈aN a c,GP p:=by
 intro p hp
 unfold aN at hp
 split at hp
 ·simp only[ek,tU,or_false] at hp
  rcases hp with e|e|e|e
  ·rw[e];exact dD ha
  ·rw[e];exact eA ha
  ·rw[e];exact dD hc
  ·rw[e];exact eA hc
 ·exact Jh ha hc p hp
theorem BE (ha:a.good) (hc:c.good): ∀p∈br a c,GP p:=fun p hp=>w9 ha hc p (List.mem_filter.1 (jG hp)).1
theorem qp:(f8 l k).length≤2:=by
 unfold f8
 repeat' split
 all_goals simp
theorem FN:(kv a c).length≤2:=by
 cases a<;>cases c
 ·show(iE _ _).length≤2
  unfold iE;split<;>simp
 ·exact qp
 ·exact qp
 ·show(mv _ _).length≤2
  unfold mv;split
  ·simp
  ·exact qp
theorem vo:(aN a c).length≤4:=by
 unfold aN
 split
 ·simp
 ·have:=FN (a:=a) (c:=c);omega
theorem kU:(br a c).length≤4:=by
 have h1:=nk (c:=a) (l:=(aN a c).filter (cB a c))
 have h2:=List.length_filter_le (cB a c) (aN a c)
 have h3:=vo (a:=a) (c:=c)
 unfold br;omega
end
def pc (k d:Ci):Bool:=qR k.x d.x&&qR k.y d.y&&qR k.q d.q
def wM (l m:Ln):Bool:=qR (l.a*m.b) (l.b*m.a)&&qR (l.a*m.c) (l.c*m.a)&&qR (l.b*m.c) (l.c*m.b)
section
variable {l m:Ln}{k d:Ci}
theorem Jg (h:decide (aM (nC l k) 0<0)=true):f8 l k=[]:=by unfold f8;rw[if_pos (of_decide_eq_true h)]
theorem GH (h:decide (aM (nC l k) 0<0)=false) (g:(aM (nC l k) 0==0)=true):f8 l k=[⟨zS l k,0,zO l k,0,0⟩]:=by
 unfold f8;rw[if_neg (of_decide_eq_false h),if_pos (by simpa using g)]
theorem Hr (h:decide (aM (nC l k) 0<0)=false) (g:(aM (nC l k) 0==0)=false) (q:decide (cP (Kt l k) (Kv l k)>0)=true):f8 l k=[Kv l k,Kt l k]:=by
 unfold f8;rw[if_neg (of_decide_eq_false h),if_neg (by simpa using g),if_pos (of_decide_eq_true q)]
theorem JK (h:decide (aM (nC l k) 0<0)=false) (g:(aM (nC l k) 0==0)=false) (q:decide (cP (Kt l k) (Kv l k)>0)=false):f8 l k=[Kt l k,Kv l k]:=by
 unfold f8;rw[if_neg (of_decide_eq_false h),if_neg (by simpa using g),if_neg (of_decide_eq_false q)]
theorem Br (h:(aM (nH l m) 0 !=0)=true):iE l m=[⟨LT l m/nH l m,0,My l m/nH l m,0,0⟩]∧mL l m=0:=by
 unfold iE mL;rw[if_pos (by simpa using h),if_pos (by simpa using h)];exact⟨rfl,rfl⟩
theorem xE (h:(aM (nH l m) 0 !=0)=false) (g:(aM (LT l m) 0==0)=true) (q:(aM (My l m) 0==0)=true):iE l m=[]∧mL l m=10:=by
 unfold iE mL;rw[if_neg (by simpa using h),if_neg (by simpa using h),if_pos ⟨by simpa using g,by simpa using q⟩];exact⟨rfl,rfl⟩
theorem xq (h:(aM (nH l m) 0 !=0)=false) (g:(aM (LT l m) 0==0)=false):iE l m=[]∧mL l m=0:=by
 unfold iE mL;rw[if_neg (by simpa using h),if_neg (by simpa using h),if_neg (fun e=>by simp[e.1] at g)];exact⟨rfl,rfl⟩
theorem xl (h:(aM (nH l m) 0 !=0)=false) (q:(aM (My l m) 0==0)=false):iE l m=[]∧mL l m=0:=by
 unfold iE mL;rw[if_neg (by simpa using h),if_neg (by simpa using h),if_neg (fun e=>by simp[e.2] at q)];exact⟨rfl,rfl⟩
theorem I9 (h:sO k d=true) (g:(aM k.q d.q==0)=true):mv k d=[]∧tC k d=10:=by
 unfold mv tC;rw[if_pos h,if_pos h,if_pos (by simpa using g)];exact⟨rfl,rfl⟩
theorem HH (h:sO k d=true) (g:(aM k.q d.q==0)=false):mv k d=[]∧tC k d=0:=by
 unfold mv tC;rw[if_pos h,if_pos h,if_neg (by simpa using g)];exact⟨rfl,rfl⟩
theorem GO (h:sO k d=false):mv k d=f8 (KW k d) k∧tC k d=0:=by
 unfold mv tC;rw[if_neg (by rw[h];decide),if_neg (by rw[h];decide)];exact⟨rfl,rfl⟩
end
section
variable {P:Program}{ops:Array Oper}{T:TF}{B:BF}
theorem jX {k c q:Nat}
 (hU:nu P U=some m) (hx:bH T x=some (.o k n c)) (hh:bH T h=some (.v (.c (.i ki q)))) (hq:q≤n) (hnc:n≤c) (hg:gd ops ⟨dst,.slice U x (some h) none none,ty,pos,af,g⟩ T=some true):
 Sem P ops ⟨dst,.slice U x (some h) none none,ty,pos,af,g⟩ T B (.r (.w k (if q<c then q*m else 0) (n-q) (c-q))):=
 bp hg (fun k' e=>by
  obtain rfl:k=k':=by injection e
  exact pV (ops:=ops) (o:=⟨dst,.slice U x (some h) none none,ty,pos,af,g⟩) (by simp[Op.operands]) hx rfl) (fun V β a w hs=>by
  have e:a.eval x=.slice (some ⟨β k,0,none⟩) n c:=aw hs (x:=x) (by simp[Op.operands]) hx
  have h2:=iM (aw hs (x:=h) (by simp[Op.operands]) hh)
  unfold nu at hU
  split at hU
  case h_2=>cases hU
  rename_i el hul
  cases hinf:P.info? el with
  |none=>rw[hinf] at hU;cases hU
  |some inf=>
   rw[hinf] at hU
   simp at hU
   have hso: ∀w,(sizeOf el).run P w=.ok m w:=fun w=>by unfold sizeOf typeInfo;simp[program,Sem.run,hinf,hU]
   refine⟨.slice (some ⟨β k,if q<c then q*m else 0,none⟩) (n-q) (c-q),?_,rfl⟩
   by_cases hqc:q<c
   ·simp[execOp,Instr.sliceAt,Instr.slice,run_underlying hul,e,h2,Instr.sliceBounds,Instr.sliceBound,asIntOf,hq,hso,Addr.add,hqc,Nat.ne_of_gt hqc]
    exact fun h=>h.symm
   ·have hce:c=q:=by omega
    simp[execOp,Instr.sliceAt,Instr.slice,run_underlying hul,e,h2,Instr.sliceBounds,Instr.sliceBound,asIntOf,hq,hso,Addr.add,hce])
theorem Ex {a:Act}{k q c:Nat}(hs:Sees V L T B β a w) (hb:B k=some (U,cs)) (hys:(cs.drop off).take (q*m)=ys)
 (hoff:0<q→off+q*m≤cs.length) (hqc:q≤c) (hc:c≤9223372036854775807):RdC (fun x=>V x∧x≠β k) w (.slice (some ⟨β k,off,none⟩) q c) (.s q ys):=by
 obtain⟨hV,bs,e,hr⟩:=hs.box k U cs hb
 rcases fQ q with h0|h0
 ·subst h0
  rw[←hys];simp
  exact .s0 _ _ hc
 ·have hoff:=hoff h0
  have hkeep:Keep V (fun x=>V x∧x≠β k) w w:=⟨Nat.le_refl _,fun _ _ _=>rfl,fun _ _ h=>h.1⟩
  have hbl:bs.size=cs.length:=by have:=hr.1;simpa using this
  have hr2:=((hr.drop off).take (q*m)).keep hkeep
  rw[hys] at hr2
  refine .s (β k) off c m q ys (fun j=>bs.getD (off+j) undef) h0 hqc hc ?_ (hs.av _ hV) (fun h=>h.2 rfl) (fun j hj=>?_) (fun j u hj=>?_)
  ·grind
  ·rw[co e]
   have:off+j<bs.size:=by omega
   simp[Array.getD,this]
  ·have hlt:j<ys.length:=(gF.1 hj).1
   have hlt2:j<q*m:=by grind
   refine hr2.2 j _ u ?_ hj
   rw[lg,if_pos hlt2,vb,tS]
   have:off+j<bs.size:=by omega
   simp[Array.getD,this]
end
section
variable {P:Program}{ops:Array Oper}{T:TF}{B:BF}
theorem iJ {ps:Array (Nat×Operand)}{dps:List (Nat×D0)}
 (hU:mx P U=some (e,m,by_,zs)) (hp:n6 T ps.toList=some dps) (hf:oV (fun i=>some (i*m,m)) (List.replicate n zs).flatten dps=some us) (hl:us.length=n*m) (hn:n*m≤16777216) (hm:0<n*m)
 (hg:gd ops ⟨dst,.buildSlice U n ps,ty,pos,af,g⟩ T=some true):Sem P ops ⟨dst,.buildSlice U n ps,ty,pos,af,g⟩ T B (.r (.f n us)):=by
 have h:=rn (B:=B) hU hp hf hn hm hg
 refine⟨oD rfl,fun V β a w hs=>?_⟩
 obtain⟨hw,hg⟩:=h V β a w hs
 refine⟨hw,hg.mono ?_⟩
 rintro v w' ⟨vs,rfl,rfl,hr⟩
 refine⟨⟨⟨_,rfl⟩,?_⟩,(bP _ w).alloc (aX _) _⟩
 have hkeep:=Keep.below (av:=V) ((bP w.heap.size w).alloc (aX _) (.cells vs e))
 have hr2:=hr.keep hkeep
 have hvl:vs.size=n*m:=by have:=hr.1;rw[hl] at this;simpa using this
 have hn0:0<n:=by grind
 have hm0:0<m:=by grind
 have hnm:n≤n*m:=Nat.le_mul_of_pos_right n hm0
 refine RdC.s w.heap.size 0 n m n _ (fun j=>vs.getD j undef) hn0 (aX _) (by omega) hl (by simp) (fun h=>by have:=hs.av _ h;omega) (fun j hj=>?_) (fun j u hj=>?_)
 ·simp_all
 ·have hlt:j<n*m:=by have:=(gF.1 hj).1;omega
  refine hr2.2 j _ u ?_ hj
  have:j<vs.size:=by omega
  simp[Array.getD,this]
theorem Lr {a:Act}{k q c:Nat}(hU:mx P U=some (e,m,by_,zs)) (hs:Sees V L T B β a w) (hb:B k=some (e2,cs)) (hys:(cs.drop off).take (q*m)=ys)
 (hyl:ys.length=q*m) (hoff:0<q→off+q*m≤cs.length) (hqc:q≤c) (hc:c≤9223372036854775807): ∃news,Src P m U (.slice (some ⟨β k,off,none⟩) q c) q news w∧RdCs V w news ys:=by
 obtain⟨news,hsrc,hr⟩:=lW hU (Ex hs hb hys hoff hqc hc) hyl
 obtain⟨hV,bs,e,hr2⟩:=hs.box k e2 cs hb
 have hbl:bs.size=cs.length:=by have:=hr2.1;simpa using this
 have hr3:=(hr2.drop off).take (q*m)
 have hl:((bs.toList.drop off).take (q*m)).length=q*m:=by grind
 have h2:=run_loadCells_list (P:=P) w ⟨β k,off,none⟩ ((bs.toList.drop off).take (q*m)) (fun j u hj=>by
  rw[gT,co e]
  have hlt:j<q*m:=by have:=(gF.1 hj).1;omega
  rw[lg,if_pos hlt,vb,tS] at hj
  exact hj)
 rw[hl] at h2
 have h1:(Builtin.firstCells m q (.slice (some ⟨β k,off,none⟩) q c)).run P w=.ok news.toArray w:=hsrc.cells
 have h3:=h1.symm.trans h2
 grind
theorem nP {q:Nat}
 (hU:mx P U=some (e,m,by_,zs)) (hx:bH T x=some (.f n us)) (hsc: ∀V β a w,Sees V (fU ops ⟨dst,.call ⟨.builtin .append,#[x,y],#[U,U]⟩,ty,pos,af,g⟩) T B β a w→ ∃news,Src P m U (a.eval y) q news w∧RdCs V w news ys)
 (hus:us.length=n*m) (hys:ys.length=q*m) (hm:0<m) (hn0:0<n) (hbytes:(n+q)*by_≤140737488355328) (h63:n+q≤maxLen)
 (hg:gd ops ⟨dst,.call ⟨.builtin .append,#[x,y],#[U,U]⟩,ty,pos,af,g⟩ T=some true):
 Sem P ops ⟨dst,.call ⟨.builtin .append,#[x,y],#[U,U]⟩,ty,pos,af,g⟩ T B (.r (.v (.c (.s (n+q) (us++ys))))):=by
 refine⟨oD rfl,fun V β a w hs=>⟨dK hs hg,?_⟩⟩
 obtain⟨⟨A,e1⟩,hxr⟩:(∃A,a.eval x=.slice A n n)∧RdV V w (a.eval x) (.c (.s n us)):=aw hs (x:=x) (by simp[Op.operands,Call.operands]) hx
 replace hxr:RdC V w (a.eval x) (.s n us):=hxr
 obtain⟨news,hsrc,hrn⟩:=hsc _ _ _ _ hs
 obtain⟨olds,hsrc0,hro⟩:=lW hU hxr hus
 obtain⟨hu,i,z,hi,hz,hsz,hby,_,hzr⟩:=fD hU
 subst hsz
 have hnl:news.length=q*i.size:=hsrc.newsLen
 rw[e1] at hxr hsrc0
 unfold Gives
 by_cases hq:q=0
 ·subst hq
  have hn1:news=[]:=ic.1 (by rw[hnl,tK])
  have hy1:ys=[]:=ic.1 (by rw[hys,tK])
  subst hn1 hy1
  have hrun:(Builtin.append_ #[U,U] ty #[.slice A n n,a.eval y]).run P w=.ok (.slice A n n) w:=by
   have hA: ∃b off,A=some ⟨b,off,none⟩:=by
    generalize hv:Value.slice A n n=v at hxr
    cases hxr with
    |s0 A' c hc=>omega
    |s b off c sz n' xs' cv h0 hnc hcm hlen hb hav hcell hr=>injection hv with h1;exact⟨b,off,h1⟩
   obtain⟨b,off,rfl⟩:=hA
   rcases hsrc.kind with⟨e',hk⟩|hk<;>simp[Builtin.append_,run_underlying hu,sizeOf,typeInfo,hi,hsrc.len,hsrc.cells,Addr.add_lit]<;>rfl
  have hexec:(execOp a.eval ⟨dst,.call ⟨.builtin .append,#[x,y],#[U,U]⟩,ty,pos,af,g⟩).run P w=.ok (.value (.slice A n n)) w:=by
   simp only[execOp,resolve,invoke,builtin,ed,fq,eb,p9,mR,p8,e1]
   rw[hrun]
   rfl
  rw[hexec]
  refine⟨?_,bP _ w⟩
  rw[lN];exact hxr
 ·have hgrow:n<n+q:=by omega
  have hrun:=run_append_grow_src (P:=P) (w:=w) U U ty e i z hu hi hz A n n _ hsrc0.cellsD (a.eval y) q news hsrc hgrow (by have:maxLen=9223372036854775807:=rfl;omega) (growslice_fits hgrow (by rw[hby];exact hbytes))
  have hexec:(execOp a.eval ⟨dst,.call ⟨.builtin .append,#[x,y],#[U,U]⟩,ty,pos,af,g⟩).run P w=.ok (.value (.slice (some ⟨w.heap.size,0,none⟩) (n+q) (grownCap w (n+q) n e)))
   (w.drew.alloc (.cells ((olds++news).toArray++Builtin.zeroCells z.cells (grownCap w (n+q) n e-(n+q))) e)):=by
   simp only[execOp,resolve,invoke,builtin,ed,fq,eb,p9,mR,p8,e1]
   rw[hrun]
   rfl
  rw[hexec]
  have hbel:Below w.heap.size w (w.drew.alloc (.cells ((olds++news).toArray++Builtin.zeroCells z.cells (grownCap w (n+q) n e-(n+q))) e)):=(bP _ w).drew.alloc (aX _) _
  refine⟨?_,hbel⟩
  have hrd:=(dm hro hrn).keep (Keep.below (av:=V) hbel)
  have hlenr:(olds++news).length=(n+q)*i.size:=by rw[bN,hsrc0.newsLen,hnl,gP]
  refine RdC.s w.heap.size 0 (grownCap w (n+q) n e) i.size (n+q) _ (fun j=>(olds++news).getD j undef) (by omega) (grownCap_ge _ _ _ _) (grownCap_le_maxLen _ _ _ _ h63) (by rw[←hrd.1];exact hlenr) (by simp) (fun h=>by have:=hs.av _ h;omega) (fun j hj=>?_) (fun j u hj=>?_)
  ·have hlt:j<(olds++news).length:=by omega
   rw[eC]
   show(w.drew.alloc _).cell? ⟨w.drew.heap.size,j,none⟩=_
   rw[co (U:=e) (vs:=(olds++news).toArray++Builtin.zeroCells z.cells (grownCap w (n+q) n e-(n+q))) (heap_alloc_new w.drew _)]
   rw[Array.getElem?_append_left (by simpa using hlt)]
   simp only[List.getElem?_toArray,List.getD]
   rw[d7 hlt];rfl
  ·have hlt:j<(olds++news).length:=by rw[hrd.1];exact(gF.1 hj).1
   have hv:(olds++news)[j]? =some ((olds++news)[j]):=d7 hlt
   simp only[List.getD,hv,Option.getD_some]
   exact hrd.2 j _ u hv hj
theorem mp {q k2 c2:Nat}{cs2:List CellD}
 (hU:mx P U=some (e,m,by_,zs)) (hx:bH T x=some (.f n us)) (hy:bH T y=some (.w k2 off q c2)) (hb2:B k2=some (e2,cs2)) (hys:(cs2.drop off).take (q*m)=ys) (hoff:0<q→off+q*m≤cs2.length) (hqc:q≤c2) (hc2:c2≤maxLen)
 (hus:us.length=n*m) (hyl:ys.length=q*m) (hm:0<m) (hn0:0<n) (hbytes:(n+q)*by_≤140737488355328) (h63:n+q≤maxLen)
 (hg:gd ops ⟨dst,.call ⟨.builtin .append,#[x,y],#[U,U]⟩,ty,pos,af,g⟩ T=some true):
 Sem P ops ⟨dst,.call ⟨.builtin .append,#[x,y],#[U,U]⟩,ty,pos,af,g⟩ T B (.r (.v (.c (.s (n+q) (us++ys))))):=
 nP hU hx (fun V β a w hs=>by
  have hmax:maxLen=9223372036854775807:=rfl
  have e1:a.eval y=.slice (some ⟨β k2,off,none⟩) q c2:=aw hs (x:=y) (by simp[Op.operands,Call.operands]) hy
  rw[e1]
  exact Lr hU hs hb2 hys hyl hoff hqc (by omega)) hus hyl hm hn0 hbytes h63 hg
theorem rE 
 (hU:mx P U=some (e,m,by_,zs)) (hx:bH T x=some (.f n us)) (hy:bH T y=some .z) (hus:us.length=n*m) (hm:0<m) (hn0:0<n) (hbytes:n*by_≤140737488355328) (h63:n≤maxLen)
 (hg:gd ops ⟨dst,.call ⟨.builtin .append,#[x,y],#[U,U]⟩,ty,pos,af,g⟩ T=some true):
 Sem P ops ⟨dst,.call ⟨.builtin .append,#[x,y],#[U,U]⟩,ty,pos,af,g⟩ T B (.r (.v (.c (.s n us)))):=by
 have h:=nP (B:=B) (q:=0) (ys:=[]) hU hx (fun V β a w hs=>lW hU (by
  have e1:a.eval y=.slice none 0 0:=aw hs (x:=y) (by simp[Op.operands,Call.operands]) hy
  rw[e1];exact .s0 _ _ (by decide)) (by simp)) hus (by simp) hm hn0 hbytes h63 hg
 grind
theorem tN 
 (hU:nu P U=some m) (hx:bH T x=some .z) (hh:bH T h=some (.v (.c (.i ki 0)))) (hg:gd ops ⟨dst,.slice U x none (some h) none,ty,pos,af,g⟩ T=some true):
 Sem P ops ⟨dst,.slice U x none (some h) none,ty,pos,af,g⟩ T B (.r .z):=
 bp hg (fun k' e=>by cases e) (fun V β a w hs=>by
  have e:a.eval x=.slice none 0 0:=aw hs (x:=x) (by simp[Op.operands]) hx
  have h2:=iM (aw hs (x:=h) (by simp[Op.operands]) hh)
  unfold nu at hU
  split at hU
  case h_2=>cases hU
  rename_i el hul
  cases hinf:P.info? el with
  |none=>rw[hinf] at hU;cases hU
  |some inf=>
   rw[hinf] at hU
   simp at hU
   have hso: ∀w,(sizeOf el).run P w=.ok m w:=fun w=>by unfold sizeOf typeInfo;simp[program,Sem.run,hinf,hU]
   refine⟨.slice none 0 0,?_,rfl⟩
   simp[execOp,Instr.sliceAt,Instr.slice,run_underlying hul,e,h2,Instr.sliceBounds,Instr.sliceBound,asIntOf,hso])
theorem rS 
 (hU:nu P U=some m) (hx:bH T x=some .z) (hh:bH T h=some (.v (.c (.i ki 0)))) (hg:gd ops ⟨dst,.slice U x (some h) none none,ty,pos,af,g⟩ T=some true):
 Sem P ops ⟨dst,.slice U x (some h) none none,ty,pos,af,g⟩ T B (.r .z):=
 bp hg (fun k' e=>by cases e) (fun V β a w hs=>by
  have e:a.eval x=.slice none 0 0:=aw hs (x:=x) (by simp[Op.operands]) hx
  have h2:=iM (aw hs (x:=h) (by simp[Op.operands]) hh)
  unfold nu at hU
  split at hU
  case h_2=>cases hU
  rename_i el hul
  cases hinf:P.info? el with
  |none=>rw[hinf] at hU;cases hU
  |some inf=>
   rw[hinf] at hU
   simp at hU
   have hso: ∀w,(sizeOf el).run P w=.ok m w:=fun w=>by unfold sizeOf typeInfo;simp[program,Sem.run,hinf,hU]
   refine⟨.slice none 0 0,?_,rfl⟩
   simp[execOp,Instr.sliceAt,Instr.slice,run_underlying hul,e,h2,Instr.sliceBounds,Instr.sliceBound,asIntOf,hso])
theorem pJ 
 (hU:nu P U=some m) (hx:bH T x=some .z) (hg:gd ops ⟨dst,.call ⟨.builtin .len,#[x],#[U]⟩,ty,pos,af,g⟩ T=some true):Sem P ops ⟨dst,.call ⟨.builtin .len,#[x],#[U]⟩,ty,pos,af,g⟩ T B (.r (.v (.c (.i .i64 0)))):=
 bp hg (oD rfl) (fun V β a w hs=>by
  have e:a.eval x=.slice none 0 0:=aw hs (x:=x) (by simp[Op.operands,Call.operands]) hx
  unfold nu at hU
  split at hU
  case h_2=>cases hU
  rename_i el hul
  refine⟨.int .i64 0,?_,.i _ _⟩
  simp[execOp,resolve,invoke,builtin,Builtin.len_,e,run_underlying hul,goInt])
end
section
variable {P:Program}{ops:Array Oper}{os:List Oper}{K:St→Prop}{N:Nat}{tm:List (Nat×DV)}{bx:List (Nat×TypeId×List CellD)}
theorem jj {c q k N':Nat}{rest:List CellD}
 (hU:mx P U=some (e,m,by_,zs)) (hx:bH (fun s=>an s tm) x=some (.o k n c)) (hy:bH (fun s=>an s tm) y=some (.v (.c (.s q ys)))) (hb:an k bx=some (e,cs)) (hcs:cs=us++rest) (hus:us.length=n*m) (hr:rest.length=(c-n)*m)
 (hys:ys.length=q*m) (hm:0<m) (hnc:n≤c) (hcm:c≤maxLen) (hbytes:(n+q)*by_≤140737488355328) (h63:n+q≤maxLen) (hd:t=k∨an t bx=none) (hN:n+q=N') (hz:us++ys=zs')
 (hg:gd ops ⟨some t,.call ⟨.builtin .append,#[x,y],#[U,U]⟩,ty,pos,af,g⟩ (fun s=>an s tm)=some true)
 (hk: ∀c' rest',N'≤c'→c'≤maxLen→rest'.length=(c'-N')*m→dl P ops os ⟨N,(t,.o t N' c')::eY k tm,(t,e,zs'++rest')::eo k bx⟩ K):
 dl P ops (⟨some t,.call ⟨.builtin .append,#[x,y],#[U,U]⟩,ty,pos,af,g⟩::os) ⟨N,tm,bx⟩ K:=by
 subst hcs hN hz
 exact kD hU hx hy hb hus hr hys hm hnc hcm hbytes h63 hd hg hk
theorem jB {q:Nat}
 (hU:mx P U=some (e,m,by_,zs)) (hx:bH (fun s=>an s tm) x=some .z) (hy:bH (fun s=>an s tm) y=some (.v (.c (.s q ys)))) (hys:ys.length=q*m) (hq:0<q)
 (hbytes:q*by_≤140737488355328) (h63:q≤maxLen) (hd:an t bx=none) (hz:ys=zs')
 (hg:gd ops ⟨some t,.call ⟨.builtin .append,#[x,y],#[U,U]⟩,ty,pos,af,g⟩ (fun s=>an s tm)=some true)
 (hk: ∀c' rest',q≤c'→c'≤maxLen→rest'.length=(c'-q)*m→dl P ops os ⟨N,(t,.o t q c')::tm,(t,e,zs'++rest')::bx⟩ K):
 dl P ops (⟨some t,.call ⟨.builtin .append,#[x,y],#[U,U]⟩,ty,pos,af,g⟩::os) ⟨N,tm,bx⟩ K:=by
 subst hz
 exact gN hU hx hy hys hq hbytes h63 hd hg hk
end
def ov (L:Nat→Bool):List (Nat×Nat×DV)→List (Nat×DV)→List (Nat×DV)
 |[],tm=>tm
 |(i,d,x)::r,tm=>ov L r (bif L i then(d,x)::tm else tm)
def oF (L:Nat→Bool):List (Nat×Nat×DV)→Nat→Option DV
 |[],_=>none
 |(i,d,x)::r,t=>(oF L r t).or (if d=t∧L i=true then some x else none)
theorem ec (L:Nat→Bool) (t:Nat): ∀(l:List (Nat×Nat×DV)) (tm:List (Nat×DV)),an t (ov L l tm)=(oF L l t).or (an t tm)
 |[],tm=>by simp[ov,oF]
 |(i,d,x)::r,tm=>by
  show an t (ov L r _)=_
  rw[ec L t r]
  show _=((oF L r t).or _).or _
  rw[Option.or_assoc]
  congr 1
  cases h:L i with
  |false=>simp
  |true=>
   show an t ((d,x)::tm)=_
   rw[aF]
   by_cases e:d=t<;>simp[e]
theorem qZ {L:Nat→Bool}{t:Nat}{x:DV}: ∀ {l:List (Nat×Nat×DV)},oF L l t=some x→ ∃i,(i,t,x)∈l∧L i=true
 |(i,d,y)::r,h=>by
  have h:(oF L r t).or (if d=t∧L i=true then some y else none)=some x:=h
  cases h1:oF L r t with
  |some zz=>
   rw[h1] at h
   injection h with h
   subst h
   obtain⟨j,g1,g2⟩:=qZ h1
   exact⟨j,gi _ g1,g2⟩
  |none=>
   rw[h1,mw] at h
   split at h
   ·next e=>injection h with h;subst h;exact⟨i,by rw[e.1];exact fW,e.2⟩
   ·cases h
theorem IV {L:Nat→Bool}{t i:Nat}{x:DV}: ∀ {l:List (Nat×Nat×DV)},(∀i j y,(i,t,x)∈l→(j,t,y)∈l→y=x)→(i,t,x)∈l→L i=true→oF L l t=some x
 |(j,d,y)::r,hu,hm,hi=>by
  show(oF L r t).or (if d=t∧L j=true then some y else none)=some x
  cases h1:oF L r t with
  |some zz=>
   obtain⟨k,g1,g2⟩:=qZ h1
   rw[hu i k zz hm (gi _ g1)];rfl
  |none=>
   rw[mw]
   rcases ek.1 hm with e|hm
   ·injection e with e1 e2
    injection e2 with e2 e3
    subst e1 e2 e3
    rw[if_pos ⟨rfl,hi⟩]
   ·rw[IV (fun i j y a b=>hu i j y (gi _ a) (gi _ b)) hm hi] at h1
    cases h1
theorem yL {L:Nat→Bool}: ∀ {l:List (Nat×Nat×DV)},(∀i x,(i,t,x)∈l→L i=false)→oF L l t=none:=by
 intro l h
 cases h1:oF L l t with
 |none=>rfl
 |some x=>
  obtain⟨i,g1,g2⟩:=qZ h1
  grind
theorem pQ {L M:Nat→Bool}{t:Nat}: ∀ {l:List (Nat×Nat×DV)},(∀i x,(i,t,x)∈l→L i=M i)→oF L l t=oF M l t
 |[],_=>rfl
 |(i,d,x)::r,h=>by
  show(oF L r t).or _=(oF M r t).or _
  rw[pQ (l:=r) fun j y hm=>h j y (gi _ hm)]
  congr 1
  by_cases e:d=t
  ·subst e;rw[h i x fW]
  ·simp[e]
section
variable {P:Program}{ops:Array Oper}
def da (P:Program) (ops:Array Oper) (C:List Nat) (bx:List (Nat×TypeId×List CellD)):Nat→List Oper→List (Nat×DV)→(List (Nat×DV)→Prop)→Prop
 |_,[],tm,K=>K tm
 |i,o::os,tm,K=>bif C.any (Nat.beq i) then da P ops C bx (i+1) os tm K else ∃x d,o.dst=some d∧Sem P ops o (fun s=>an s tm) (fun k=>an k bx) (.r x)∧gB x=none∧da P ops C bx (i+1) os ((d,x)::tm) K
theorem wT {o:Oper}(hc:C.any (Nat.beq i)=true) (h:da P ops C bx (i+1) os tm K):da P ops C bx i (o::os) tm K:=by
 unfold da;rw[hc];exact h
theorem d5 {d:Nat}{op:Op}{x:DV}
 (hc:C.any (Nat.beq i)=false) (hs:Sem P ops ⟨some d,op,ty,pos,af,g⟩ (fun s=>an s tm) (fun k=>an k bx) (.r x)) (hx:gB x=none) (h:da P ops C bx (i+1) os ((d,x)::tm) K):da P ops C bx i (⟨some d,op,ty,pos,af,g⟩::os) tm K:=by
 unfold da;rw[hc];exact⟨x,d,rfl,hs,hx,h⟩
theorem ve {C:List Nat}{bx:List (Nat×TypeId×List CellD)}{K:List (Nat×DV)→Prop}: ∀(os:List Oper) (i0:Nat) (tm:List (Nat×DV)),da P ops C bx i0 os tm K→ ∃opn:List (Nat×Nat×DV),
 (∀i d x,(i,d,x)∈opn→i0≤i∧C.any (Nat.beq i)=false∧gB x=none∧ ∃o,os[i-i0]? =some o∧o.dst=some d∧Sem P ops o (fun s=>an s (ov (fun j=>decide (j<i)) opn tm)) (fun k=>an k bx) (.r x))∧
 (∀i o,os[i]? =some o→C.any (Nat.beq (i0+i))=false→ ∃d x,(i0+i,d,x)∈opn)∧(∀i d x d' x',(i,d,x)∈opn→(i,d',x')∈opn→d=d'∧x=x')∧K (ov (fun _=>true) opn tm)
 |[],i0,tm,h=>⟨[],(fun _ _ _ h=>by cases h),(fun i o h=>by simp at h),(fun _ _ _ _ _ h=>by cases h),h⟩
 |o::os,i0,tm,h=>by
  unfold da at h
  cases hc:C.any (Nat.beq i0) with
  |true=>
   rw[hc] at h
   obtain⟨opn,h1,h2,h4,h3⟩:=ve os (i0+1) tm h
   refine⟨opn,fun i d x hm=>?_,fun i o' ho hn=>?_,h4,h3⟩
   ·obtain⟨g1,g2,g3,o',g4,g5⟩:=h1 i d x hm
    refine⟨by omega,g2,g3,o',?_,g5⟩
    rw[show i-i0=i-(i0+1)+1 by omega];simpa using g4
   ·cases i with
    |zero=>rw[tZ,hc] at hn;cases hn
    |succ i=>rw[show i0+(i+1)=i0+1+i by omega] at hn⊢;exact h2 i o' (by simpa using ho) hn
  |false=>
   rw[hc] at h
   obtain⟨x,d,hd,hs,hx,h⟩:=h
   obtain⟨opn,h1,h2,h4,h3⟩:=ve os (i0+1) ((d,x)::tm) h
   refine⟨(i0,d,x)::opn,fun i d' x' hm=>?_,fun i o' ho hn=>?_,fun i d1 x1 d2 x2 g1 g2=>?_,h3⟩
   ·rcases ek.1 hm with e|hm
    ·injection e with e1 e2
     injection e2 with e2 e3
     subst e1 e2 e3
     refine⟨Nat.le_refl _,hc,hx,o,by rw[Nat.sub_self];rfl,hd,?_⟩
     have e:(fun s=>an s (ov (fun j=>decide (j<i)) ((i,d',x')::opn) tm))=fun s=>an s tm:=by
      funext s
      rw[ec,yL,mw]
      intro j y hj
      rcases ek.1 hj with e|hj
      ·injection e with e1;subst e1;simp
      ·have:=(h1 j s y hj).1;simp;omega
     rw[e];exact hs
    ·obtain⟨g1,g2,g3,o',g4,g5,g6⟩:=h1 i d' x' hm
     refine⟨by omega,g2,g3,o',?_,g5,?_⟩
     ·grind
     ·show Sem P ops o' (fun s=>an s (ov _ opn (bif decide (i0<i) then(d,x)::tm else tm))) _ _
      rw[show decide (i0<i)=true from decide_eq_true (by omega)];exact g6
   ·cases i with
    |zero=>exact⟨d,x,fW⟩
    |succ i=>
     grind
   ·rcases ek.1 g1 with e1|k1<;>rcases ek.1 g2 with e2|k2
    ·grind
    ·grind
    ·grind
    grind
theorem vM {q:Nat}
 (hU:mx P U=some (e,m,by_,zs)) (hx:bH (fun s=>an s tm) x=some (.f 0 us)) (hy:bH (fun s=>an s tm) y=some (.v (.c (.s q ys)))) (hys:ys.length=q*m) (hq:0<q)
 (hbytes:q*by_≤140737488355328) (h63:q≤maxLen) (hd:an t bx=none)
 (hg:gd ops ⟨some t,.call ⟨.builtin .append,#[x,y],#[U,U]⟩,ty,pos,af,g⟩ (fun s=>an s tm)=some true):
 Fb P ops ⟨some t,.call ⟨.builtin .append,#[x,y],#[U,U]⟩,ty,pos,af,g⟩ ⟨N,tm,bx⟩ (fun σ'=> ∃c' rest,q≤c'∧c'≤maxLen∧rest.length=(c'-q)*m∧σ'=⟨N,(t,.o t q c')::tm,(t,e,ys++rest)::bx⟩):=by
 intro av w0 β a w hrel htn
 have hs:=Sees.of hrel.sees (L:=fU ops ⟨some t,.call ⟨.builtin .append,#[x,y],#[U,U]⟩,ty,pos,af,g⟩) (fun _ _=>trivial) (fun _ _ _ h=>h) (fun _ _ h=>h)
 refine⟨dK hs hg,?_⟩
 obtain⟨⟨A,e1⟩,_⟩:(∃A,a.eval x=.slice A 0 0)∧_:=aw hs (x:=x) (by simp[Op.operands,Call.operands]) hx
 have h2:=aw hs (x:=y) (by simp[Op.operands,Call.operands]) hy
 obtain⟨news,hsrc,hrn⟩:=lW hU h2 hys
 obtain⟨hu,i,z,hi,hz,hsz,hby,hzl,hzr⟩:=fD hU
 subst hsz
 have ht:t<N:=htn t rfl
 unfold Gives
 have hold:(Builtin.firstCells i.size 0 (.slice A 0 0)).run P w.drew=.ok ([]:List Value).toArray w.drew:=by
  cases A with
  |none=>rfl
  |some b=>
   have h9:=run_loadCells_list (P:=P) w.drew b ([]:List Value) (fun j u h=>by simp at h)
   rw[show([]:List Value).length=0*i.size by simp] at h9
   exact h9
 have hgrow:0<0+q:=by omega
 have hrun:=run_append_grow_src (P:=P) (w:=w) U U ty e i z hu hi hz A 0 0 _ hold (a.eval y) q news hsrc hgrow (by have:maxLen=9223372036854775807:=rfl;omega) (growslice_fits hgrow (by rw[hby,eC];exact hbytes))
 rw[eC] at hrun
 generalize hcap:grownCap w q 0 e=c' at hrun
 have hc1:q≤c':=by rw[←hcap];exact grownCap_ge _ _ _ _
 have hc2:c'≤maxLen:=by rw[←hcap];exact grownCap_le_maxLen _ _ _ _ h63
 have hexec:(execOp a.eval ⟨some t,.call ⟨.builtin .append,#[x,y],#[U,U]⟩,ty,pos,af,g⟩).run P w=.ok (.value (.slice (some ⟨w.heap.size,0,none⟩) q c'))
  (w.drew.alloc (.cells (([]++news).toArray++Builtin.zeroCells z.cells (c'-q)) e)):=by
  simp only[execOp,resolve,invoke,builtin,ed,fq,eb,p9,mR,p8,e1]
  rw[hrun]
  rfl
 rw[hexec]
 obtain⟨rest,hrl,hrz⟩:=JA hzl hzr (c'-q)
 have hrd:RdCs (fun b=>av b∨ ∃k,an k bx≠none∧β k=b) w.drew (([]++news).toArray++Builtin.zeroCells z.cells (c'-q)).toList (ys++rest):=by
  have h1:RdCs (fun b=>av b∨ ∃k,an k bx≠none∧β k=b) w.drew (news++(Builtin.zeroCells z.cells (c'-q)).toList) (ys++rest):=dm (RdCs.keep (Keep.below (bP _ w).drew) hrn) (hrz (fun b=>av b∨ ∃k,an k bx≠none∧β k=b) w.drew)
  grind
 have hbox:=hrel.drew.box (d:=t) ht hd (U:=e) (sl:=some c') hrd
 refine⟨⟨N,(t,.o t q c')::tm,(t,e,ys++rest)::bx⟩,fun l=>if l=t then w.drew.heap.size else β l,⟨c',_,hc1,hc2,hrl,rfl⟩,rfl,?_⟩
 have hval:=hbox.value (d:=some t) (x:=.o t q c') (v:=.slice (some ⟨w.heap.size,0,none⟩) q c') (by intro s hs;injection hs with hs;subst hs;exact ht) (bP _ _) (by show _=Value.slice (some ⟨if t=t then w.drew.heap.size else β t,0,none⟩) _ _;rw[if_pos rfl];rfl) (by intro l hl;injection hl with hl;subst hl;rw[if_pos rfl];simp)
 rw[yh] at hval
 refine hval.congr (fun s=>?_) (fun l=>?_)
 ·show an s ((t,DV.o t q c')::tm)=(if some t=some s then _ else if some t=some s then _ else an s tm)
  rw[aF]
  grind
 ·show an l ((t,e,ys++rest)::bx)=(if some t=some l then _ else an l bx)
  rw[aF]
  grind
structure AppS where
 i:Nat
 t:Nat
 y:Operand
 q:Nat
 ys:List CellD
def nA:List AppS→Nat
 |[]=>0
 |a::r=>a.q+nA r
def uA:List AppS→List CellD
 |[]=>[]
 |a::r=>a.ys++uA r
theorem pE (a:AppS): ∀l:List AppS,nA (l++[a])=nA l+a.q
 |[]=>by simp[nA]
 |b::r=>by show b.q+nA (r++[a])=b.q+nA r+a.q;rw[pE a r];omega
theorem yr (a:AppS): ∀l:List AppS,uA (l++[a])=uA l++a.ys
 |[]=>by simp[uA]
 |b::r=>by show b.ys++uA (r++[a])=b.ys++uA r++a.ys;rw[yr a r,iP]
def lh (ops:Array Oper) (C:List Nat) (m i:Nat) (y:Operand):Bool:=match y with
 | .tmp u=>(match ops[i]? with
   |none=>false
   |some o=>(List.range m).all fun j=>match ops[j]? with
    |none=>false
    |some p=> !(match p.dst with|none=>false|some d=>Nat.beq d u)||(!C.any (Nat.beq j)&&(bD o).any (Nat.beq j)))
 |_=>true
def DK (x0:Operand) (l:List AppS):Operand:=match l.getLast? with
 |none=>x0
 |some a=>.tmp a.t
structure ChainA (P:Program) (ops:Array Oper) (C:List Nat) (m:Nat) (U e:TypeId) (sz by_:Nat) (zs:List CellD) (x0:Operand) (tm0 tm:List (Nat×DV)) (bx:List (Nat×TypeId×List CellD)) (ch:List AppS):Prop where
 hU:mx P U=some (e,sz,by_,zs)
 hm:0<sz
 base: ∃us,bH (fun s=>an s tm) x0=some (.f 0 us)
 hC:ch.map (·.i)=C
 op: ∀l a r,ch=l++a::r→ ∃ty pos af,ops[a.i]? =some ⟨some a.t,.call ⟨.builtin .append,#[DK x0 l,a.y],#[U,U]⟩,ty,pos,af,none⟩
 lt: ∀a∈ch,a.i<m
 y: ∀a∈ch,bH (fun s=>an s tm) a.y=some (.v (.c (.s a.q a.ys)))∧a.ys.length=a.q*sz∧lh ops C m a.i a.y=true
 bx0: ∀a r,ch=a::r→lh ops C m a.i x0=true∧0<a.q
 nx: ∀l a b r,ch=l++a::b::r→ ∀o,ops[b.i]? =some o→a.i∈bD o
 new: ∀a∈ch,an a.t tm0=none∧an a.t bx=none
 big:nA ch*by_≤140737488355328∧nA ch≤maxLen
def tG (c:Nat) (l:List AppS):List (Nat×DV):=match l.getLast? with
 |none=>[]
 |some a=>[(a.t,.o a.t (nA l) c)]
def yG (e:TypeId) (rest:List CellD) (l:List AppS):List (Nat×TypeId×List CellD):=match l.getLast? with
 |none=>[]
 |some a=>[(a.t,e,uA l++rest)]
theorem se (c:Nat) (l:List AppS) (a:AppS):tG c (l++[a])=[(a.t,.o a.t (nA l+a.q) c)]:=by unfold tG;rw[List.getLast?_concat];show[(a.t,DV.o a.t (nA (l++[a])) c)]=_;rw[pE]
theorem oI (e:TypeId) (rest:List CellD) (l:List AppS) (a:AppS):yG e rest (l++[a])=[(a.t,e,uA l++a.ys++rest)]:=by unfold yG;rw[List.getLast?_concat];show[(a.t,e,uA (l++[a])++rest)]=_;rw[yr]
theorem Ri {l r:List AppS}:nA l≤nA (l++r):=by
 induction l with
 |nil=>exact cY _
 |cons a l ih=>show a.q+nA l≤a.q+nA (l++r);omega
end
theorem Ij {sz:Nat}: ∀ {l:List AppS},(∀a∈l,a.ys.length=a.q*sz)→(uA l).length=nA l*sz
 |[],_=>by simp[uA,nA]
 |a::r,h=>by
  show(a.ys++uA r).length=(a.q+nA r)*sz
  rw[bN,h a fW,Ij fun b hb=>h b (gi _ hb),gP]
theorem tc {α:Type}{b:α}: ∀(a:α) (r:List α),b∈r→ ∃l p r',a::r=l++p::b::r'
 |a,c::r,h=>by
  rcases ek.1 h with e|h
  ·subst e;exact⟨[],a,r,rfl⟩
  ·obtain⟨l,p,r',e⟩:=tc c r h
   exact⟨a::l,p,r',by rw[e];rfl⟩
section
variable {P:Program}{ops:Array Oper}{Q:Exit→Act→World→Prop}{av:Nat→Prop}{w0:Ent}{m n:Nat}
set_option linter.unusedVariables false in
theorem KD (hc:Chk ops m n) {sz:Nat}{ch:List AppS}{opn:List (Nat×Nat×DV)}
 (ho1: ∀i d x,(i,d,x)∈opn→C.any (Nat.beq i)=false∧gB x=none∧i<m∧ ∃o,ops[i]? =some o∧o.dst=some d∧Sem P ops o (fun s=>an s (ov (fun j=>decide (j<i)) opn tm0)) (fun k=>an k bx) (.r x))
 (ho2: ∀i,i<m→C.any (Nat.beq i)=false→ ∃d x,(i,d,x)∈opn)
 (ho3: ∀i d x d' x',(i,d,x)∈opn→(i,d',x')∈opn→d=d'∧x=x')
 (hch:ChainA P ops C m U e sz by_ zs x0 tm0 (ov (fun _=>true) opn tm0) bx ch)
 (hwf: ∀t x k,an t tm0=some x→gB x=some k→an k bx≠none)
 (hQ: ∀c rest β a w fuel,nA ch≤c→c≤maxLen→rest.length=(c-nA ch)*sz→ops.size-m≤fuel→
  Rel av w0 n (fun s=>an s (tG c ch++ov (fun _=>true) opn tm0)) (fun k=>an k (yG e rest ch++bx)) β a w→wpAny P .any ops Q fuel (bK ops.size m) a w):
 ∀(fuel:Nat) (listed:Array Bool) (β:Nat→Nat) (a:Act) (w:World) (dn td:List AppS) (c:Nat) (rest:List CellD),listed.size=ops.size→E8 listed≤fuel→
  (∀i o j,listed.getD i false=true→ops[i]? =some o→j∈bD o→listed.getD j false=true)→(∀t,m≤t→listed.getD t false=false)→
  ch=dn++td→(∀b∈dn,listed.getD b.i false=true)→(∀b∈td,listed.getD b.i false=false)→nA dn≤c∧c≤maxLen∧rest.length=(c-nA dn)*sz→
  Rel av w0 n (fun s=>an s (tG c dn++ov (fun j=>listed.getD j false) opn tm0)) (fun k=>an k (yG e rest dn++bx)) β a w→wpAny P .any ops Q fuel listed a w:=by
 have hCm: ∀b∈ch,C.any (Nat.beq b.i)=true:=fun b hb=>iD.2 (by rw[←hch.hC];exact List.mem_map_of_mem hb)
 have hop: ∀b∈ch,∃o,ops[b.i]? =some o∧o.dst=some b.t:=fun b hb=>by
  obtain⟨l,r,e1⟩:=List.append_of_mem hb
  obtain⟨ty,pos,af,h⟩:=hch.op l b r e1
  exact⟨_,h,rfl⟩
 have huq: ∀ {i j d x y},(i,d,x)∈opn→(j,d,y)∈opn→i=j∧y=x:=by
  intro i j d x y h1 h2
  obtain⟨_,_,hi,oi,q1,q2,_⟩:=ho1 i d x h1
  obtain⟨_,_,hj,oj,q3,q4,_⟩:=ho1 j d y h2
  have:=hc.dist i j oi oj d hi hj q1 q3 q2 q4
  subst this
  exact⟨rfl,(ho3 i d y d x h2 h1).2⟩
 have hne: ∀b∈ch,∀i x,(i,b.t,x)∉opn:=by
  intro b hb i x hm
  obtain⟨q0,_,hi,oi,q1,q2,_⟩:=ho1 i b.t x hm
  obtain⟨o,g1,g2⟩:=hop b hb
  have:=hc.dist i b.i oi o b.t hi (hch.lt b hb) q1 g1 q2 g2
  subst this
  rw[hCm b hb] at q0;cases q0
 have hnl: ∀(L:Nat→Bool),∀b∈ch,an b.t (ov L opn tm0)=none:=by
  intro L b hb
  rw[ec,yL fun i x hm=>absurd hm (hne b hb i x),(hch.new b hb).1];rfl
 have hhd: ∀(c:Nat) (l r:List AppS) t,ch=l++r→(∀b∈ch,b.t≠t)→an t (tG c l)=none:=by
  intro c l r t e1 h
  unfold tG
  cases hg:l.getLast? with
  |none=>rfl
  |some b=>
   have hb:b∈ch:=by rw[e1];exact uV _ (List.mem_of_getLast? hg)
   show an t [(b.t,_)]=none
   rw[aF,if_neg (h b hb)];rfl
 have hhb: ∀(rest:List CellD) (l r:List AppS) k c,ch=l++r→an k bx=some c→an k (yG e rest l)=none:=by
  intro rest l r k c e1 h
  unfold yG
  cases hg:l.getLast? with
  |none=>rfl
  |some b=>
   have hb:b∈ch:=by rw[e1];exact uV _ (List.mem_of_getLast? hg)
   show an k [(b.t,_)]=none
   rw[aF,if_neg (fun h2=>by subst h2;rw[(hch.new b hb).2] at h;cases h)];rfl
 have htr: ∀ {L:Nat→Bool}{i:Nat}{o:Oper}{y:Operand}{v:DV}{c:Nat}{l r:List AppS},ch=l++r→ops[i]? =some o→(∀j,j∈bD o→L j=true)→lh ops C m i y=true→
  bH (fun s=>an s (ov (fun _=>true) opn tm0)) y=some v→bH (fun s=>an s (tG c l++ov L opn tm0)) y=some v:=by
  intro L i o y v c l r e1 ho hb hbt hv
  cases y with
  |tmp u=>
   have hv:an u (ov (fun _=>true) opn tm0)=some v:=hv
   show an u (tG c l++ov L opn tm0)=some v
   unfold lh at hbt
   rw[ho] at hbt
   dsimp only at hbt
   have hall: ∀j p,j<m→ops[j]? =some p→p.dst=some u→C.any (Nat.beq j)=false∧L j=true:=by
    intro j p hj hp hd
    have h1:=jc.1 hbt j (cF.2 hj)
    rw[hp] at h1
    dsimp only at h1
    rw[hd] at h1
    dsimp only at h1
    rw[wJ] at h1
    simp only[Bool.not_true,ku,dU] at h1
    refine⟨by simpa using h1.1,hb j (iD.1 h1.2)⟩
   rw[bz,hhd c l r u e1 (fun b hb2 e2=>by
    obtain⟨o2,g1,g2⟩:=hop b hb2
    have:=(hall b.i o2 (hch.lt b hb2) g1 (by rw[g2,e2])).1
    rw[hCm b hb2] at this;cases this),mw,←hv,ec,ec]
   congr 1
   refine pQ fun j x hm=>?_
   obtain⟨_,_,hj,oj,q1,q2,_⟩:=ho1 j u x hm
   exact(hall j oj hj q1 q2).2
  |const z9=>exact hv
  |func z9=>exact hv
  |global z9=>exact hv
 intro fuel
 have hfin: ∀(fuel:Nat) (listed:Array Bool) (β:Nat→Nat) (a:Act) (w:World) (dn td:List AppS) (c:Nat) (rest:List CellD),listed.size=ops.size→ops.size-m≤fuel→
  (∀t,m≤t→listed.getD t false=false)→ch=dn++td→(∀b∈td,listed.getD b.i false=false)→nA dn≤c∧c≤maxLen∧rest.length=(c-nA dn)*sz→(∀i,i<m→listed.getD i false=true)→
  Rel av w0 n (fun s=>an s (tG c dn++ov (fun j=>listed.getD j false) opn tm0)) (fun k=>an k (yG e rest dn++bx)) β a w→wpAny P .any ops Q fuel listed a w:=by
  intro fuel listed β a w dn td c rest hsz hfu hp hs htd hb hl hr
  have htd0:td=[]:=by
   cases td with
   |nil=>rfl
   |cons b r=>
    have h1:=htd b fW
    rw[hl b.i (hch.lt b (by rw[hs];simp))] at h1;cases h1
  subst htd0
  rw[lN] at hs
  subst hs
  have e1:listed=bK ops.size m:=by
   apply Array.ext (by simp[bK,hsz])
   intro i h1 h2
   by_cases him:i<m
   ·have h3:=hl i him
    simp[Array.getD,h1] at h3
    rw[h3];simp[bK,him]
   ·have h3:=hp i (by omega)
    simp[Array.getD,h1] at h3
    rw[h3];simp[bK]
    cases hb:Nat.blt i m with
    |false=>rfl
    |true=>have:=eH.1 hb;omega
  have e2:(fun s=>an s (tG c ch++ov (fun j=>listed.getD j false) opn tm0))=fun s=>an s (tG c ch++ov (fun _=>true) opn tm0):=by
   funext t
   rw[bz,bz,ec,ec]
   congr 2
   refine pQ fun j x hm=>?_
   obtain⟨_,_,hj,_⟩:=ho1 j t x hm
   exact hl j hj
  rw[e2] at hr
  rw[e1]
  exact hQ c rest β a w fuel hb.1 hb.2.1 hb.2.2 hfu hr
 induction fuel with
 |zero=>
  intro listed β a w dn td c rest hsz hu hcl hp hs hdn htd hb hr
  have hm:m=ops.size:=by
   rcases jb m ops.size with h|h
   ·have:=uu (listed:=listed) (i:=m) (by omega) (by rw[ml (by omega) true false];exact hp m (aX _));omega
   ·exact Nat.le_antisymm hc.le h
  exact hfin 0 listed β a w dn td c rest hsz (by omega) hp hs htd hb (fun i hi=>by
   cases h:listed.getD i false with
   |true=>rfl
   |false=>have:=uu (listed:=listed) (i:=i) (by omega) (by rw[ml (by omega) true false];exact h);omega) hr
 |succ fuel ih=>
  intro listed β a w dn td c rest hsz hu hcl hp hs hdn htd hb hr
  by_cases hl: ∀i,i<m→listed.getD i false=true
  ·have hun:ops.size-m≤E8 listed:=by
    have e1:listed=bK ops.size m:=by
     apply Array.ext (by simp[bK,hsz])
     intro i h1 h2
     by_cases him:i<m
     ·have h3:=hl i him
      simp[Array.getD,h1] at h3
      rw[h3];simp[bK,him]
     ·have h3:=hp i (by omega)
      simp[Array.getD,h1] at h3
      rw[h3];simp[bK]
      cases hb:Nat.blt i m with
      |false=>rfl
      |true=>have:=eH.1 hb;omega
    rw[e1]
    unfold E8 bK
    have:(List.map (fun i=>Nat.blt i m) (List.range ops.size))=List.replicate m true++List.replicate (ops.size-m) false:=by
     apply List.ext_getElem (by simp;have:=hc.le;omega)
     intro i h1 h2
     simp at h1
     by_cases him:i<m
     ·rw[List.getElem_append_left (by simpa using him)];simp[him]
     ·rw[List.getElem_append_right (by simpa using him)]
      simp
      cases hb:Nat.blt i m with
      |false=>rfl
      |true=>have:=eH.1 hb;omega
    simp[this,List.countP_append,List.countP_replicate]
   exact hfin (fuel+1) listed β a w dn td c rest hsz (by omega) hp hs htd hb hl hr
  ·refine⟨fun h0=>?_,fun i hi=>?_⟩
   ·exfalso
    have hex: ∃p,p<m∧listed.getD p false=false∧ ∀q,q<p→listed.getD q false=true:=by
     have key: ∀d p,p≤d→p<m→listed.getD p false=false→ ∃p,p<m∧listed.getD p false=false∧ ∀q,q<p→listed.getD q false=true:=by
      intro d
      induction d with
      |zero=>
       intro p hd hpm hpf
       exact⟨p,hpm,hpf,fun q hq=>by omega⟩
      |succ d ih2=>
       intro p hd hpm hpf
       by_cases hq: ∀q,q<p→listed.getD q false=true
       ·exact⟨p,hpm,hpf,hq⟩
       ·obtain⟨q,hq⟩:=sF.1 hq
        obtain⟨hqp,hq⟩:=tx.1 hq
        exact ih2 q (by omega) (by omega) (by simpa using hq)
     obtain⟨p,hp'⟩:=sF.1 hl
     obtain⟨hpm,hp'⟩:=tx.1 hp'
     exact key p p (aX _) hpm (by simpa using hp')
    obtain⟨p,hpm,hpf,hq⟩:=hex
    have hps:p<ops.size:=by have:=hc.le;omega
    have hin:p∈Region.ready .any ops listed:=mem_ready.2 ⟨by rw[ml (by omega) true false];exact hpf,ops[p],qK hps,fun e he hb=>
     hq e.on (hc.low p _ e.on (qK hps) (tE he hb))⟩
    rw[h0] at hin;cases hin
   ·obtain⟨hif,o,ho,hae0⟩:=mem_ready.1 hi
    have his:i<ops.size:=(og.1 ho).1
    have hif':listed.getD i false=false:=by rw[ml (by omega) false true];exact hif
    have hae: ∀j,j∈bD o→listed.getD j false=true:=fun j hj=>by
     obtain⟨e',he',hb',rfl⟩:=iF hj
     exact hae0 e' he' hb'
    have him:i<m:=by
     rcases jb i m with h|h
     ·exact h
     ·exfalso
      rcases hc.tl i o h ho with⟨j,hj,hmj⟩|hcov
      ·have:=hae j hj
       rw[hp _ hmj] at this;cases this
      ·apply hl
       have key: ∀d p,m-p≤d→p<m→listed.getD p false=true:=by
        intro d
        induction d with
        |zero=>intro p hd hpm;omega
        |succ d ih2=>
         intro p hd hpm
         rcases hcov p hpm with hb|⟨q,oq,hpq,hqm,hoq,hb⟩
         ·exact hae p hb
         ·exact hcl q oq p (ih2 q (by omega) hqm) hoq hb
       exact fun p hpm=>key (m-p) p (aX _) hpm
    have hmi: ∀j,(listed.setIfInBounds i true).getD j false=if j=i then true else listed.getD j false:=by
     intro j
     by_cases hji:j=i
     ·subst hji;simp[Array.getD,hsz,his]
     ·rw[if_neg hji,getD_set_ne false (fun e=>hji e.symm)]
    have hcl': ∀i' o' j,(listed.setIfInBounds i true).getD i' false=true→ops[i']? =some o'→j∈bD o'→(listed.setIfInBounds i true).getD j false=true:=by
     intro i' o' j' h1 h2 h3
     rw[hmi] at h1⊢
     by_cases hji:j'=i
     ·rw[if_pos hji]
     ·rw[if_neg hji]
      by_cases hii:i'=i
      ·subst hii
       rw[ho] at h2
       injection h2 with h2
       subst h2
       exact hae j' h3
      ·rw[if_neg hii] at h1
       exact hcl i' o' j' h1 h2 h3
    have hp': ∀t,m≤t→(listed.setIfInBounds i true).getD t false=false:=fun t ht=>by
     rw[hmi,if_neg (by omega)]
     exact hp t ht
    have hu':E8 (listed.setIfInBounds i true)≤fuel:=by have:=zE (listed:=listed) (i:=i) (by omega) hif;omega
    have hsz':(listed.setIfInBounds i true).size=ops.size:=by simpa using hsz
    unfold wpOp
    rw[ho]
    cases hiC:C.any (Nat.beq i) with
    |false=>
     obtain⟨d,x,hmem⟩:=ho2 i him hiC
     obtain⟨_,hrx,_,o',ho',hd',hsem⟩:=ho1 i d x hmem
     rw[ho] at ho'
     injection ho' with ho'
     subst ho'
     have hchi: ∀b∈ch,b.i≠i:=fun b hb e1=>by have:=hCm b hb;rw[e1,hiC] at this;cases this
     refine hr.step hsem (fun t ht=>hc.dn i o t ho ht) ?_ ?_ (fun U cs sl hE=>by cases hE) (fun β' a' w' hr'=>?_)
     ·intro t x' hlk hx
      have hx:an t (ov (fun j=>decide (j<i)) opn tm0)=some x':=hx
      show an t (tG c dn++ov (fun j=>listed.getD j false) opn tm0)=some x'
      have hnt: ∀b∈ch,b.t≠t:=fun b hb e1=>by rw[←e1,hnl _ b hb] at hx;cases hx
      rw[bz,hhd c dn td t hs hnt,mw,←hx,ec,ec]
      congr 1
      refine pQ fun j y hm=>?_
      obtain⟨_,_,hjm,oj,hoj,hdj,_⟩:=ho1 j t y hm
      by_cases hji:j=i
      ·subst hji;rw[hif'];simp
      ·rcases hc.dep i j o oj t him hjm (fun e=>hji e.symm) ho hoj hdj hlk with hb2|hb2
       ·have hji2:=hc.low i o j ho hb2
        rw[hae j hb2];simpa using hji2
       ·have hji2:=hc.low j oj i hoj hb2
        have h1:listed.getD j false=false:=by
         cases hlj:listed.getD j false with
         |false=>rfl
         |true=>have:=hcl j oj i hlj hoj hb2;rw[hif'] at this;cases this
        rw[h1];simp;omega
     ·intro k cc hk
      have hk:an k bx=some cc:=hk
      show an k (yG e rest dn++bx)=some cc
      rw[bz,hhb rest dn td k cc hs hk,mw];exact hk
     ·refine ih _ β' a' w' dn td c rest hsz' hu' hcl' hp' hs (fun b hb=>?_) (fun b hb=>?_) hb ?_
      ·rw[hmi];split
       ·rfl
       ·exact hdn b hb
      ·rw[hmi,if_neg (hchi b (by rw[hs];exact List.mem_append_right _ hb))];exact htd b hb
      ·refine hr'.congr (fun t=>?_) (fun k=>rfl)
       show _=if o.dst=some t then some x else _
       rw[bz,ec]
       by_cases hdt:d=t
       ·subst hdt
        rw[if_pos hd',hhd c dn td d hs (fun b hb e1=>hne b hb i x (by rw[e1];exact hmem)),mw,IV (fun i j y h1 h2=>(huq h1 h2).2) hmem (by rw[hmi,if_pos rfl])]
        rfl
       ·rw[if_neg (by rw[hd'];simpa using hdt)]
        show _=an t (tG c dn++ov _ opn tm0)
        rw[bz,ec]
        congr 2
        refine pQ fun j y hm=>?_
        rw[hmi,if_neg]
        intro e1
        subst e1
        exact hdt (ho3 _ _ _ _ _ hmem hm).1
    |true=>
     have hmemC:=iD.1 hiC
     rw[←hch.hC] at hmemC
     obtain⟨b,hbc,rfl⟩:=rd.1 hmemC
     have hbtd:b∈td:=by
      rw[hs] at hbc
      rcases gn.1 hbc with h|h
      ·have:=hdn b h;rw[hif'] at this;cases this
      ·exact h
     obtain⟨a9,r,htd9⟩: ∃a9 r,td=a9::r:=by
      cases td with
      |nil=>cases hbtd
      |cons a9 r=>exact⟨a9,r,rfl⟩
     subst htd9
     have hba:b=a9:=by
      rcases ek.1 hbtd with h|h
      ·exact h
      ·exfalso
       obtain⟨l,p,r',e1⟩:=tc a9 r h
       have h1:=hch.nx (dn++l) p b r' (by rw[hs,e1,iP]) o ho
       have h2:=hae _ h1
       rw[htd p (by rw[e1];simp)] at h2;cases h2
     subst hba
     obtain⟨ty,pos,af,hob⟩:=hch.op dn b r hs
     rw[ho] at hob
     injection hob with hob
     subst hob
     obtain⟨hy1,hy2,hy3⟩:=hch.y b hbc
     have hy:=htr (c:=c) hs ho hae hy3 hy1
     have hnAb:nA dn+b.q≤nA ch:=by
      have h1:nA (dn++[b])≤nA (dn++[b]++r):=Ri
      rw[pE,iP] at h1
      rw[hs];exact h1
     have hbig1:(nA dn+b.q)*by_≤140737488355328:=iz (nf _ hnAb) hch.big.1
     have hbig2:nA dn+b.q≤maxLen:=iz hnAb hch.big.2
     obtain⟨hnew0,hnewb⟩:=hch.new b hbc
     have hgo: ∀(β':Nat→Nat) (a':Act) (w':World) (σ':St) (c':Nat) (rest':List CellD),σ'.n=n→nA dn+b.q≤c'→c'≤maxLen→rest'.length=(c'-(nA dn+b.q))*sz→
      (∀t x,an t (tG c' (dn++[b])++ov (fun j=>listed.getD j false) opn tm0)=some x→an t σ'.tm=some x)→(∀k cc,an k (yG e rest' (dn++[b])++bx)=some cc→an k σ'.bx=some cc)→
      Rel av w0 σ'.n σ'.T σ'.B β' a' w'→wpAny P .any ops Q fuel (listed.setIfInBounds b.i true) a' w':=by
      intro β' a' w' σ' c' rest' hn' g1 g2 g3 htm hbx' hr'
      have hL:(fun s=>an s (tG c' (dn++[b])++ov (fun j=>(listed.setIfInBounds b.i true).getD j false) opn tm0))=fun s=>an s (tG c' (dn++[b])++ov (fun j=>listed.getD j false) opn tm0):=by
       funext t
       rw[bz,bz,ec,ec]
       congr 2
       refine pQ fun j x hm=>?_
       rw[hmi,if_neg]
       intro e1
       have:=(ho1 j t x hm).1
       rw[e1,hiC] at this;cases this
      refine ih _ β' a' w' (dn++[b]) r c' rest' hsz' hu' hcl' hp' (by rw[hs,iP];rfl) (fun b' hb'=>?_) (fun b' hb'=>?_) ⟨by rw[pE];exact g1,g2,by rw[pE];exact g3⟩ ?_
      ·rw[hmi];split
       ·rfl
       ·rename_i hne'
        rcases gn.1 hb' with h|h
        ·exact hdn b' h
        ·rw[mY] at h;exact absurd (by rw[h]) hne'
      ·rw[hmi,if_neg]
       ·exact htd b' (gi _ hb')
       ·intro e1
        obtain⟨l,p,r',e2⟩:=tc b r hb'
        have h0:=ho
        rw[←e1] at h0
        have h1:=hch.nx (dn++l) p b' r' (by rw[hs,e2,iP]) _ h0
        have h2:=hae _ h1
        rw[htd p (by rw[e2];simp)] at h2;cases h2
      ·rw[hL]
       have hsub:Sub σ' ⟨n,tG c' (dn++[b])++ov (fun j=>listed.getD j false) opn tm0,yG e rest' (dn++[b])++bx⟩:=by
        refine⟨hn'.symm,htm,hbx',fun t x k hx hk=>?_⟩
        show an k (yG e rest' (dn++[b])++bx)≠none
        have hx:an t (tG c' (dn++[b])++ov (fun j=>listed.getD j false) opn tm0)=some x:=hx
        rw[se] at hx
        rw[bz,oI]
        rw[bz,aF] at hx
        by_cases htb:b.t=t
        ·rw[if_pos htb] at hx
         injection hx with hx
         subst hx
         injection hk with hk
         subst hk
         rw[aF,if_pos rfl];simp
        ·rw[if_neg htb] at hx
         have hx:(an t []:Option DV).or (an t (ov (fun j=>listed.getD j false) opn tm0))=some x:=hx
         rw[show(an t []:Option DV)=none from rfl,mw,ec] at hx
         cases ho9:oF (fun j=>listed.getD j false) opn t with
         |some x9=>
          rw[ho9] at hx
          injection hx with hx
          subst hx
          obtain⟨j,g4,_⟩:=qZ ho9
          rw[(ho1 _ _ _ g4).2.1] at hk;cases hk
         |none=>
          rw[ho9,mw] at hx
          have h5:=hwf t x k hx hk
          cases h6:an k bx with
          |none=>exact absurd h6 h5
          |some cc=>cases h7:an k [(b.t,e,uA dn++b.ys++rest')]<;>simp
       exact hr'.sub hsub
     have hT9: ∀t x,an t (ov (fun j=>listed.getD j false) opn tm0)=some x→(∀b'∈ch,b'.t≠t)∧ ∀b'∈ch,gB x≠some b'.t:=by
      intro t x hx
      refine⟨fun b' hb' e1=>(by rw[←e1,hnl _ b' hb'] at hx;cases hx),fun b' hb' hk=>?_⟩
      rw[ec] at hx
      cases ho9:oF (fun j=>listed.getD j false) opn t with
      |some x9=>
       rw[ho9] at hx
       injection hx with hx
       subst hx
       obtain⟨j,g4,_⟩:=qZ ho9
       rw[(ho1 _ _ _ g4).2.1] at hk;cases hk
      |none=>
       rw[ho9,mw] at hx
       exact hwf t x _ hx hk (hch.new b' hb').2
     have hdlt:=hc.dn b.i _ b.t ho rfl
     rcases List.eq_nil_or_concat dn with hdn0|⟨l,p,hdn0⟩
     ·subst hdn0
      obtain⟨us0,hbase⟩:=hch.base
      obtain⟨hbt0,hq0⟩:=hch.bx0 b r hs
      have hx:=htr (c:=c) hs ho hae hbt0 hbase
      have hG:=vM (P:=P) (ops:=ops) (N:=n) (t:=b.t) (ty:=ty) (pos:=pos) (af:=af) (g:=none) hch.hU (x:=x0) hx hy hy2 hq0 (by simpa [nA] using hbig1) (by simpa [nA] using hbig2) (bx:=yG e rest []++bx) hnewb rfl
      obtain⟨hw,hg⟩:=hG av w0 β a w hr (fun t ht=>by injection ht with ht;subst ht;exact hdlt)
      refine(if_pos hw).mpr (.inl (hg.wp fun v w' ⟨σ',β',⟨c',rest',q1,q2,q3,q4⟩,hn',hr'⟩=>?_))
      subst q4
      refine hgo β' _ w' ⟨n,(b.t,.o b.t b.q c')::(tG c []++ov (fun j=>listed.getD j false) opn tm0),(b.t,e,b.ys++rest')::(yG e rest []++bx)⟩ c' rest' rfl (by simpa [nA] using q1) q2 (by simpa [nA] using q3) (fun t x hx=>?_) (fun k cc hk=>?_) hr'
      ·rw[se] at hx
       rw[bz,aF] at hx
       show an t ((b.t,_)::(ov _ opn tm0))=some x
       rw[aF]
       by_cases htb:b.t=t
       ·rw[if_pos htb] at hx⊢;simpa [nA] using hx
       ·rw[if_neg htb] at hx⊢;simpa [an] using hx
      ·rw[oI] at hk
       rw[bz,aF] at hk
       show an k ((b.t,_)::bx)=some cc
       rw[aF]
       by_cases htb:b.t=k
       ·rw[if_pos htb] at hk⊢;simpa [uA] using hk
       ·rw[if_neg htb] at hk⊢;simpa [an] using hk
     ·rw[List.concat_eq_append] at hdn0
      subst hdn0
      have hpc:p∈ch:=by rw[hs];simp
      have hlast:DK x0 (l++[p])=.tmp p.t:=by unfold DK;rw[List.getLast?_concat]
      have hpt:p.t≠b.t:=by
       intro e1
       obtain⟨o1,g1,g2⟩:=hop p hpc
       obtain⟨o2,g3,g4⟩:=hop b hbc
       have h1:=hc.dist p.i b.i o1 o2 b.t (hch.lt p hpc) (hch.lt b hbc) g1 g3 (by rw[g2,e1]) g4
       have h2:=hdn p (by simp)
       rw[h1,hif'] at h2;cases h2
      have hx:bH (fun s=>an s (tG c (l++[p])++ov (fun j=>listed.getD j false) opn tm0)) (DK x0 (l++[p]))=some (.o p.t (nA (l++[p])) c):=by
       rw[hlast]
       show an p.t _=_
       rw[se,bz,aF,if_pos rfl,pE];rfl
      have hbx9:an p.t (yG e rest (l++[p])++bx)=some (e,uA (l++[p])++rest):=by
       rw[oI,bz,aF,if_pos rfl,yr];rfl
      have hul:(uA (l++[p])).length=nA (l++[p])*sz:=Ij fun b' hb'=>(hch.y b' (by rw[hs];exact uV _ hb')).2.1
      have hG:=tY (P:=P) (ops:=ops) (N:=n) (t:=b.t) (ty:=ty) (pos:=pos) (af:=af) (g:=none) hch.hU hx hy hbx9 (by rw[bN,hul,hb.2.2,←gP];congr 1;have:=hb.1;omega) hy2 hch.hm hb.1 hb.2.1 hbig1 hbig2 (pre:=uA (l++[p]))
       (by rw[←hul];simp) (.inr (by rw[oI,bz,aF,if_neg hpt];simpa [an] using hnewb)) rfl
      obtain⟨hw,hg⟩:=hG av w0 β a w hr (fun t ht=>by injection ht with ht;subst ht;exact hdlt)
      refine(if_pos hw).mpr (.inl (hg.wp fun v w' ⟨σ',β',⟨c',rest',q1,q2,q3,q4⟩,hn',hr'⟩=>?_))
      subst q4
      refine hgo β' _ w' ⟨n,(b.t,.o b.t (nA (l++[p])+b.q) c')::eY p.t (tG c (l++[p])++ov (fun j=>listed.getD j false) opn tm0),(b.t,e,uA (l++[p])++b.ys++rest')::eo p.t (yG e rest (l++[p])++bx)⟩ c' rest' rfl q1 q2 q3 (fun t x hx=>?_) (fun k cc hk=>?_) hr'
      ·rw[se] at hx
       rw[bz,aF] at hx
       show an t ((b.t,_)::eY p.t _)=some x
       rw[aF]
       by_cases htb:b.t=t
       ·rw[if_pos htb] at hx⊢;simpa using hx
       ·rw[if_neg htb] at hx⊢
        have hx:an t (ov (fun j=>listed.getD j false) opn tm0)=some x:=by simpa [an] using hx
        obtain⟨g1,g2⟩:=hT9 t x hx
        rw[ga,bz,hhd c (l++[p]) (b::r) t hs g1,mw,hx]
        dsimp only
        rw[if_neg (g2 p hpc)]
      ·rw[oI] at hk
       rw[bz,aF] at hk
       show an k ((b.t,_)::eo p.t _)=some cc
       rw[aF]
       by_cases htb:b.t=k
       ·rw[if_pos htb] at hk⊢;simpa using hk
       ·rw[if_neg htb] at hk⊢
        have hk:an k bx=some cc:=by simpa [an] using hk
        rw[f9,if_neg (fun e1=>by rw[e1,(hch.new p hpc).2] at hk;cases hk),bz,hhb rest (l++[p]) (b::r) k cc hs hk,mw];exact hk
theorem y8 {l:List Oper}{Q:Exit→St→Prop}(m:Nat) (C:List Nat) (hm:P.follows .mixedOrders=true) (hc:Cu l.toArray m n=true) (hpre:l.take m=pre) (htail:l.drop m=tail)
 (h:da P l.toArray C bx 0 pre tm0 fun tm=> ∃(U e:TypeId) (sz by_:Nat) (zs:List CellD) (x0:Operand) (ch:List AppS),ChainA P l.toArray C m U e sz by_ zs x0 tm0 tm bx ch∧
  ∀c rest,nA ch≤c→c≤maxLen→rest.length=(c-nA ch)*sz→dl P l.toArray tail ⟨n,tG c ch++tm,yG e rest ch++bx⟩ (Q .normal)):Dw P (.region id l.toArray true) ⟨n,tm0,bx⟩ Q:=fun av w0 β a w hr=>by
 have hC:=Chk.of hc
 subst hpre htail
 obtain⟨opn,h1,h2,h4,U,e,sz,by_,zs,x0,ch,hch,hdl⟩:=ve _ _ _ h
 have hml:m≤l.length:=by simpa using hC.le
 have hget: ∀ {i:Nat}{o:Oper},(l.take m)[i]? =some o→i<m∧l.toArray[i]? =some o:=by
  intro i o hi
  grind
 refine wp_region_any hm ?_
 refine KD (av:=av) (w0:=w0) (Q:=fun e a' w'=> ∃σ' β',σ'.n=n∧Q e σ'∧Rel av w0 σ'.n σ'.T σ'.B β' a' w') hC (opn:=opn) ?_ ?_ h4 hch (fun t x k hx hk=>hr.wf t x k hx hk) ?_ l.toArray.size (Array.replicate l.toArray.size false) β a _ [] ch 0 [] (by simp) (by unfold E8;refine iz List.countP_le_length ?_;simp) ?_ ?_ rfl (fun b hb=>by cases hb) ?_ ?_ ?_
 ·intro i d x hmem
  grind
 ·intro i him hiC
  have hil:i<l.length:=by omega
  have:=h2 i l[i] (by rw[lg,if_pos him];exact d7 hil) (by rw[eC];exact hiC)
  grind
 ·intro c rest β a w fuel g1 g2 g3 hf hr'
  refine rR hC (K:=Q .normal) (fun σ' β a w hn hq hr=>⟨σ',β,hn,hq,by rw[hn];exact hr⟩) (l.drop m) m ⟨n,tG c ch++ov (fun _=>true) opn tm0,yG e rest ch++bx⟩ fuel β a w (aX _) (fun j=>by simp) (by simp;omega) rfl (hdl c rest g1 g2 g3) hr' (by simpa using hf)
 ·intro i o j hi
  simp[Array.getD] at hi
 ·intro t _
  simp[Array.getD]
  try (split<;>rfl)
 ·intro b _
  simp[Array.getD]
  try (split<;>rfl)
 ·exact⟨Nat.le_refl _,cY _,by simp[nA]⟩
 ·refine hr.drew.congr (fun t=>?_) (fun k=>rfl)
  show an t (tG 0 []++ov _ opn tm0)=an t tm0
  rw[bz]
  show(an t []).or _=_
  rw[show(an t []:Option DV)=none from rfl,mw,ec,yL,mw]
  simp[Array.getD]
  try (split<;>rfl)
end
end Go.Proofs.YtkfgimjmgfoneaaGreatDoor
