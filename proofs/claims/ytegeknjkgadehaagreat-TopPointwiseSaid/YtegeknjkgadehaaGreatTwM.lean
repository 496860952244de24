/-Plain:valid curves:their ends lie on them and differ;the curves of drafts and their pieces are valid. -/
import Derived.Test.YtegeknjkgadehaaGreatTwL
namespace Go.Proofs.YtegeknjkgadehaaGreat
open Go Go.RowKit
variable {w:Bool}{k:Ci}{c d:Cv}{rs:List CellD}{O o:List Cv}{L l:List Pt}{j:Nat}{f p q t x y:Pt}{a b:Rat}
theorem jh:type_of% @Rz.zc:=@Rz.zc
theorem vG:type_of% @List.pairwise_cons:=@List.pairwise_cons
theorem yw:type_of% @List.drop_of_length_le:=@List.drop_of_length_le
def Cv.pos:Cv->Prop
 | .seg ..=>True
 | .arc k _ _ _=>0<k.q
structure CvV (c:Cv):Prop where
 g:c.good
 pos:c.pos
 sp:c.supp c.p=true
 sq:c.supp c.q=true
 ne:cP c.p c.q≠0
theorem ju:cP p q=0↔cx p q=0/\cy p q=0:=by show(if cx p q≠0 then cx p q else cy p q)=0↔_;grind
theorem jv (hp:0<=p.c) (hq:0<=q.c):cP q p= -cP p q:=K0 hp hq
theorem K4 (hp:0<=p.c):cP p p=0:=JF hp
theorem CvV.rev (h:CvV c):CvV c.rev:=by
 have hp:=gG (fj h.g);have hq:=gG (gA h.g);cases c with
 |seg l p q=>exact⟨Ck h.g,trivial,h.sq,h.sp,fun e=>h.ne (by have:=jv hp hq;have D:cP q p=0:=e;show cP p q=0;have u:cP q p= -cP p q:=this;omega)⟩
 |arc k w p q=>exact⟨Ck h.g,h.pos,h.sq,h.sp,fun e=>h.ne (by have:=jv hp hq;have D:cP q p=0:=e;show cP p q=0;have u:cP q p= -cP p q:=this;omega)⟩
theorem Gs {x y:Re}(h:bz (x-y)=0) (v:Re):bz (x-v)=bz (y-v):=q7 (by rw[<-h];exact congrArg bz (ee fun n=>by simp only[bt];grind))
section
variable {p q:Pt}(hp:0<=p.c) (hq:0<=q.c) (h:cP p q=0)
include hp hq h
theorem Vp (hf:0<=f.c):cx p f=cx q f:=by have g:=(ju.1 h).1;rw[qu hp hq] at g;rw[qu hp hf,qu hq hf];exact Gs g _
theorem SI (v:Rat):Ar p v=Ar q v:=by have g:=(ju.1 h).1;rw[qu hp hq] at g;rw[Bz hp,Bz hq];exact Gs g _
theorem PV (v:Rat):mA p v=mA q v:=by have g:=(ju.1 h).2;rw[OE hp hq] at g;rw[A7 hp,A7 hq];exact Gs g _
theorem Pv (k:Ci):mu k p=mu k q:=by unfold mu;rw[SI hp hq h,PV hp hq h]
theorem Hr (hf:0<=f.c):tU k f p q=0:=by rw[uw,gg,gg,gg,Vp hp hq h hf,Pv hp hq h,(ju.1 h).1];unfold KC;unfold G2;simp
theorem xj (g:c.good):c.ord p q=0:=by
 have hf:=gG (fj g);cases c with
 |seg l f t=>
  show(if decide (cP f t>0)=true then-cP p q else cP p q)=0;grind
 |arc k w f t=>
  show(if (!w)=true then tU k f p q else tU k.mir f.flip p.flip q.flip)=0;split;·exact Hr hp hq h hf
  ·refine Hr (p:=p.flip) (q:=q.flip) hp hq (ju.2 ⟨?_,?_⟩) (f:=f.flip) hf;·rw[mr hp hq,(ju.1 h).1];rfl
   ·exact(ju.1 h).2
end
theorem F8 (g:c.good) (hp:GP p) (hq:GP q) (h:c.ord p q<0):cP p q≠0:=fun e=>by have:=xj (gG hp) (gG hq) e g;omega
theorem Bf:fS c [] x=[x]:=rfl
theorem xw {o:Pt}(h:c.ord o x<0):fS c (o::l) x=o::fS c l x:=by
 have e:nW c x (o::l)=nW c x l+1:=by show(if c.ord o x<0 then nW c x l+1 else 0)=_;rw[if_pos h]
 unfold fS;grind
theorem wP {o:Pt}(h: ¬c.ord o x<0):fS c (o::l) x=if cP o x=0 then o::l else x::o::l:=by
 have e:nW c x (o::l)=0:=by show(if c.ord o x<0 then nW c x l+1 else 0)=_;rw[if_neg h]
 unfold fS;grind
def yc:List Pt->Prop
 |p::q::l=>cP p q≠0/\yc (q::l)
 |_=>True
theorem Qz {o:Pt}(h:yc (o::l)):yc l:=by
 cases l with
 |nil=>trivial
 |cons p l=>exact h.2
theorem If {c:Cv}(I:c.good) {x:Pt}(D:GP x): ∀ {l:List Pt},(∀p∈l,GP p)->yc l->yc (fS c l x)
 |[],_,_=>trivial
 |o::l,hl,h=>by
  by_cases g:c.ord o x<0
  ·rw[xw g];have u:=If I D (l:=l) (fun p hp=>hl p (gF _ hp)) (Qz h);have E:=F8 I (hl o f7) D g;cases l with
   |nil=>exact⟨E,trivial⟩
   |cons p l=>
    by_cases H:c.ord p x<0;·rw[xw H] at u⊢;exact⟨h.1,u⟩
    ·rw[wP H] at u⊢;by_cases e:cP p x=0;·rw[if_pos e];exact h
     ·rw[if_neg e] at u⊢;exact⟨E,u⟩
  ·rw[wP g];by_cases e:cP o x=0;·rw[if_pos e];exact h
   ·rw[if_neg e];refine⟨fun J=>e ?_,h⟩;rw[jv (gG D) (gG (hl o f7)),J];rfl
theorem Hq {c:Cv}(g:c.good): ∀ {l out:List Pt},(∀p∈l,GP p)->(∀p∈out,GP p)->yc out->yc (l.foldl (fS c) out)
 |[],_,_,_,h=>h
 |x::l,out,hl,ho,h=>by
  refine Hq g (l:=l) (out:=fS c out x) (fun p hp=>hl p (gF _ hp)) (fun p hp=>?_) (If g (hl x f7) ho h);rcases rq hp with e|e;·exact ho p e
  ·rw[e];exact hl x f7
theorem Og (g:c.good) (hl: ∀p∈l,GP p):yc (cb c l):=Hq g hl (fun p hp=>by cases hp) trivial
theorem DR {c:Cv}: ∀ {l:List Pt}{d:Cv},yc l->d∈kX c l-> ∃p q,p∈l/\q∈l/\cP p q≠0/\d=c.ends p q
 |p::q::l,d,ha,h=>by
  rcases dO.1 (show d∈c.ends p q::kX c (q::l) from h) with h|h;·exact⟨p,q,f7,gF _ f7,ha.1,h⟩
  ·obtain⟨D,u,E,H,g,I⟩:=DR ha.2 h;exact⟨D,u,gF _ E,gF _ H,g,I⟩
 |[_],d,_,h=>by cases h
 |[],d,_,h=>by cases h
theorem BQ (c:Cv) (p q:Pt):(c.ends p q).p=p:=by cases c<;>rfl
theorem CJ (c:Cv) (p q:Pt):(c.ends p q).q=q:=by cases c<;>rfl
theorem u6 (c:Cv) (p q x:Pt):(c.ends p q).supp x=c.supp x:=by cases c<;>rfl
theorem Il (h:c.pos) (p q:Pt):(c.ends p q).pos:=by cases c<;>exact h
theorem AD (h:c.on p=true):c.supp p=true:=by unfold Cv.on at h;grind
theorem My (h:CvV c) (R: ∀p∈L,GP p) (hs: ∀p∈L,c.supp p=true): ∀d∈fz c L,CvV d:=by
 intro d I;have u: ∀p∈ [c.p,c.q]++L,GP p:=by
  intro p hp;simp only[List.cons_append,rI,dO] at hp;rcases hp with e|e|e;·rw[e];exact fj h.g
  ·rw[e];exact gA h.g
  grind
 have E: ∀p∈ [c.p,c.q]++L,c.supp p=true:=by
  intro p hp;simp only[List.cons_append,rI,dO] at hp;rcases hp with e|e|e;·rw[e];exact h.sp
  ·rw[e];exact h.sq
  grind
 obtain⟨p,q,N,K,J,rfl⟩:=DR (Og h.g u) I;have D:=mT N;have H:=mT K;exact⟨DE h.g (u p D) (u q H),Il h.pos p q,by rw[BQ,u6];exact E p D,by rw[CJ,u6];exact E q H,by rw[BQ,CJ];exact J⟩
theorem Zo (a b:Rat):pX (rP a b)=Re.of a:=ee fun n=>by unfold pX Al fi;simp only[bN,bW,db,rP];grind
theorem Zf (a b:Rat):pY (rP a b)=Re.of b:=ee fun n=>by unfold pY Al fi;simp only[bN,bW,db,rP];grind
theorem LA {l:Ln}(hp:GP (rP a b)) (h:l.a*a+l.b*b=l.c):jz l (rP a b)=0:=by rw[Cz hp];unfold Dh;rw[Zo,Zf,mU,mU,RK,wu,gI,h];exact jE.2 (by grind)
theorem abV (hp:GP (rP a b)) (h:(a-k.x)*(a-k.x)+(b-k.y)*(b-k.y)=k.q):j7 k (rP a b)=0:=by rw[Fx hp];unfold yC;rw[Zo,Zf,wu,wu,mU,mU,RK,wu,gI,h,jE.2 (show k.q-k.q=0 by grind)];rfl
theorem abS {q:Rat}(_h0:0<q) (hs:jB q=true):rt q*rt q=q:=by
 have g:=hs;unfold jB At at g;simp only[de,beq_iff_eq] at g;have D:bp (q.den:Int)≠0:=by have:=xd (den_pos q);omega
 have u:((bp (q.den:Int):Int):Rat)≠0:=by simpa using D
 have J:rt q*((bp (q.den:Int):Int):Rat)=((bp q.num:Int):Rat):=by unfold rt;rw[yn,Rat.div_mul_cancel u]
 have E:=Me q;have I:((q.num:Int):Rat)=((bp q.num:Int):Rat)*((bp q.num:Int):Rat):=by rw[<-tK,g.1]
 have H:(((q.den:Int)):Rat)=((bp (q.den:Int):Int):Rat)*((bp (q.den:Int):Int):Rat):=by rw[<-tK,g.2]
 grind
theorem O9 (s:Rat) (hs:s*s=1) (h0:0<k.q) (hp:GP (mM k.x s k.y 0 k.q)):j7 k (mM k.x s k.y 0 k.q)=0:=by
 cases hq:jB k.q with
 |true=>
  have e:mM k.x s k.y 0 k.q=rP (k.x+s*rt k.q) (k.y+0*rt k.q):=by unfold mM;rw[hq];rfl
  rw[e] at hp⊢;refine abV hp ?_;have:=abS h0 hq;grind
 |false=>
  have e:mM k.x s k.y 0 k.q=⟨k.x,s,k.y,0,k.q⟩:=by unfold mM;rw[hq];rfl
  rw[Fx hp];have g:(0:Rat)<=k.q:=by grind
  have h:=Ef g;have u:yC k ⟨k.x,s,k.y,0,k.q⟩=Re.rt k.q*Re.rt k.q-Re.of k.q:=ee fun n=>by unfold yC pX pY;rw[BI,BI];simp only[bN,bt,bW,db];grind
  grind
theorem GD (hk:GK k) (h0:0<k.q):j7 k (ov k)=0:=O9 (-1) (by decide+kernel) h0 (tN hk h0)
theorem E0 (hk:GK k) (h0:0<k.q):j7 k (nZ k)=0:=O9 1 (by decide+kernel) h0 (t5 hk h0)
theorem aad (a b c d:Rat):(b-d)*c+(c-a)*d=(b-d)*a+(c-a)*b:=by grind
def Cv.inner (c:Cv) (p:Pt):Bool:=c.on p&&(!(cP c.p p==0)&& !(cP c.q p==0))
def Cv.mono:Cv->Bool
 | .seg _ p q=> !decide (cP p q>=0)
 | .arc k w p q=> !decide (cP p q>=0)&&(!(Cv.arc k w p q).inner (ov k)&& !(Cv.arc k w p q).inner (nZ k))
def Cv.vert:Cv->Bool
 | .seg _ p q=>cx p q==0
 | .arc ..=>false
theorem ae1 (h:c.on p=false):c.inner p=false:=by unfold Cv.inner;rw[h];rfl
theorem aap (h:c.on p=true) (g:(!(cP c.p p==0))=false):c.inner p=false:=by unfold Cv.inner;rw[h,g];rfl
theorem aai (h:c.on p=true) (g:(!(cP c.p p==0))=true):c.inner p= !(cP c.q p==0):=by unfold Cv.inner;rw[h,g];rfl
theorem IB (h:c.supp p=true):c.on p=(decide (c.ord c.p p<=0)&&decide (c.ord p c.q<=0)):=by unfold Cv.on;rw[h,iI]
def IV (a d b:Fin 4) (g u D:Int):Int:=Lq (Ug (uK d) (uK a) g) (Ug (uK b) (uK a) u) (Ug (uK d) (uK b) D)
def exF (q a b:Fin 4) (s:Int) (m:Int):Bool:=decide (IV a q b (if a=q then 0 else s) m (if b=q then 0 else s)<=0)&&(a !=q&&b !=q)
set_option maxRecDepth 100000 in
theorem IC: ∀(a b:Fin 4) (m:Fin 3),mB b a (i3 m)=true->(a==b&&i3 m==0)=false->exF 2 a b (-1) (i3 m)=false->exF 0 a b 1 (i3 m)=false->
 ((a=2\/a=3)/\(b=3\/b=0)/\i3 m=1)\/((a=0\/a=1)/\(b=1\/b=2)/\i3 m= -1):=by decide+kernel
set_option maxRecDepth 100000 in
theorem Xk: ∀(a b d:Fin 4) (i l:Fin 3),(a=2\/a=3)->(b=3\/b=0)->mB d a (i3 i)=true->mB d b (i3 l)=true->Jt (i3 i) 1 (i3 l)=true->
 (IV a d b (i3 i) 1 (i3 l)<=0↔d≠1/\0<=i3 i/\i3 l<=0):=by decide+kernel
set_option maxRecDepth 100000 in
theorem Wu: ∀(a b d:Fin 4) (i l:Fin 3),(a=0\/a=1)->(b=1\/b=2)->mB d a (i3 i)=true->mB d b (i3 l)=true->Jt (i3 i) (-1) (i3 l)=true->
 (IV a d b (i3 i) (-1) (i3 l)<=0↔d≠3/\i3 i<=0/\0<=i3 l):=by decide+kernel
theorem uQ (k:Ci) (s p e:Pt):Zm k s p e=IV (kd k s) (kd k p) (kd k e) (cx p s) (cx e s) (cx p e):=by unfold Zm Pa IV;rw[oT,oT,oT]
theorem uR {c:Rat}:bU a 0 c=aJ a 0:=by unfold bU qf;rw[mY,oL,if_pos (.inl rfl)]
theorem OJ {c:Rat}(u:0<c):bU 0 b c=aJ b 0:=by
 have g:aJ c 0=1:=by unfold aJ;rw[if_neg (by grind),if_pos u]
 unfold bU qf;rw[mY,g,Int.mul_one];grind
theorem Yw (s:Rat) (h0:0<k.q):mA (mM k.x s k.y 0 k.q) k.y=0/\Ar (mM k.x s k.y 0 k.q) k.x=aJ (if jB k.q then s*rt k.q else s) 0:=by
 cases hq:jB k.q with
 |true=>
  have e:mM k.x s k.y 0 k.q=rP (k.x+s*rt k.q) (k.y+0*rt k.q):=by unfold mM;rw[hq];rfl
  rw[e,if_pos rfl];refine⟨?_,?_⟩
  ·show bU (k.y+0*rt k.q-k.y) 0 _=0;rw[uR,show k.y+0*rt k.q-k.y=0 from by grind,mY]
  ·show bU (k.x+s*rt k.q-k.x) 0 _=_;rw[uR,show k.x+s*rt k.q-k.x=s*rt k.q from by grind]
 |false=>
  have e:mM k.x s k.y 0 k.q=⟨k.x,s,k.y,0,k.q⟩:=by unfold mM;rw[hq];rfl
  rw[e,if_neg (by decide)];refine⟨?_,?_⟩
  ·show bU (k.y-k.y) 0 _=0;rw[uR,show k.y-k.y=0 from by grind,mY]
  ·show bU (k.x-k.x) s (zc s k.q)=_;rw[show k.x-k.x=0 from by grind];by_cases hs:s=0;·rw[hs,uR]
   ·rw[jT hs,OJ h0]
theorem NY (c:Rat):0<=rt c:=by have g:=eD c.num;have u:=eD (c.den:Int);exact Rat.divInt_nonneg g u
theorem ael (h:cx p q≠0):cP p q=cx p q:=if_pos h
theorem MC {q:Rat}(h0:0<q) (hs:jB q=true):0<rt q:=by have g:=NY q;have u:=adB h0 hs;grind
theorem Qh (h0:0<k.q):mA (ov k) k.y=0/\Ar (ov k) k.x<0:=by
 obtain⟨a,b⟩:=Yw (k:=k) (-1) h0;refine⟨a,?_⟩;show Ar (mM k.x (-1) k.y 0 k.q) k.x<0;rw[b];cases hq:jB k.q with
 |true=>have:=MC h0 hq;rw[if_pos rfl];unfold aJ;rw[if_pos (by grind)];decide
 |false=>rw[if_neg (by decide)];decide+kernel
theorem RL (h0:0<k.q):mA (nZ k) k.y=0/\0<Ar (nZ k) k.x:=by
 obtain⟨a,b⟩:=Yw (k:=k) 1 h0;refine⟨a,?_⟩;show 0<Ar (mM k.x 1 k.y 0 k.q) k.x;rw[b];cases hq:jB k.q with
 |true=>have:=MC h0 hq;rw[if_pos rfl];unfold aJ;rw[if_neg (by grind),if_pos (by grind)];decide
 |false=>rw[if_neg (by decide)];decide+kernel
section
variable {k:Ci}(hk:GK k) (h0:0<k.q)
include hk h0
theorem B4:OnK k (ov k):=⟨tN hk h0,GD hk h0⟩
theorem BN:OnK k (nZ k):=⟨t5 hk h0,E0 hk h0⟩
omit hk in
theorem JC:kd k (ov k)=2:=by obtain⟨a,b⟩:=Qh h0;unfold kd;rw[if_neg (by omega),if_pos a,if_neg (by omega)]
omit hk in
theorem Kf:kd k (nZ k)=0:=by obtain⟨a,b⟩:=RL h0;unfold kd;rw[if_neg (by omega),if_pos a,if_pos (by omega)]
theorem CN (hp:OnK k p):cx (ov k) p=if kd k p=2 then 0 else-1:=by have h:=iH h0 (B4 hk h0) hp;rw[JC h0] at h;unfold mB at h;grind
theorem Cm (hp:OnK k p):cx (nZ k) p=if kd k p=0 then 0 else 1:=by have h:=iH h0 (BN hk h0) hp;rw[Kf h0] at h;unfold mB at h;grind
omit hk in
theorem Ni (of:OnK k f) (u:OnK k t) (D:OnK k x) (q:Fin 4) (hq: ∀y,OnK k y->cP y x=0->kd k y=q) (hi:(Cv.arc k w f t).inner x=false):
 (decide (Zm k (if w then t else f) x (if w then f else t)<=0)&&(kd k f !=q&&kd k t !=q))=false:=by
 have E:(Cv.arc k w f t).on x=decide (Zm k (if w then t else f) x (if w then f else t)<=0):=by
  rw[IB (eC.2 D.2)];cases w with
  |true=>exact LB h0 of u D
  |false=>exact Fi of.1 u.1 D.1
 unfold Cv.inner at hi
 rw[E] at hi
 cases h:decide (Zm k (if w then t else f) x (if w then f else t)<=0) with
 |false=>rfl
 |true=>
  rw[h,iI] at hi
  rw[iI]
  rcases Bool.and_eq_false_iff.1 hi with g|g
  ·have:cP f x=0:=by simpa [Cv.p] using g
   rw[hq f of this,bne_self_eq_false,pU]
  ·have:cP t x=0:=by simpa [Cv.q] using g
   rw[hq t u this,bne_self_eq_false,sX]
theorem WW (g:OnK k y) (h:cP y (ov k)=0):kd k y=2:=by have u:=CN hk h0 g;have E:=(ju.1 h).1;have D:=io (gG (tN hk h0)) (bZ g);grind
theorem Wq (g:OnK k y) (h:cP y (nZ k)=0):kd k y=0:=by have u:=Cm hk h0 g;have E:=(ju.1 h).1;have D:=io (gG (t5 hk h0)) (bZ g);grind
omit hk in
theorem Gn (op:OnK k p) (oq:OnK k q) (J:kd k p=kd k q) (E:cx p q=0):cP p q=0:=by
 refine ju.2 ⟨E,?_⟩;have H:=bZ op;have I:=bZ oq;rw[qu H I] at E;rw[OE H I];have hp:=zE op;have hq:=zE oq;have U:bz ((pY p-Re.of k.y)-(pY q-Re.of k.y))=bz (pY p-pY q):=congrArg bz (ee fun n=>by simp only[bt];grind);rw[<-U];have sp:=A7 H k.y;have sq:=A7 I k.y;generalize W:pY p-Re.of k.y=P at*;generalize hQ:pY q-Re.of k.y=Q at*;have e:(P-Q)*(P+Q)=(yC k p-yC k q)+ -((pX p-pX q)*((pX p-Re.of k.x)+(pX q-Re.of k.x))):=by rw[<-W,<-hQ];exact ee fun n=>by unfold yC;simp only[bN,bt,bW,db,cn];grind
 have K:bz ((P-Q)*(P+Q))=0:=by rw[e,dT _ (by rw[fu,di,E,oL];rfl),show yC k p-yC k q=yC k p+ -yC k q from ee fun n=>by simp only[bN,bt,cn]<;>grind,dT _ (by rw[fu,hq];rfl),hp]
 rw[di] at K;rcases zl.1 K with g|g;·exact g
 ·have hs:bz P=bz Q:=by
   rw[<-sp,<-sq];rcases x7 h0 op with⟨a,b,_⟩|⟨a,b⟩|⟨a,b,_⟩|⟨a,b⟩<;>rcases x7 h0 oq with⟨D,u,_⟩|⟨D,u⟩|⟨D,u,_⟩|⟨D,u⟩<;>rw[a,D] at J<;>first|exact absurd J (by decide)|skip
   all_goals have b1:=gK (p.a2-k.y) p.b2 (zc p.b2 p.c);have b2:=gK (q.a2-k.y) q.b2 (zc q.b2 q.c);unfold mA at b u⊢;omega
  have e2:bz P= -bz Q:=by rw[show P=(P+Q)+ -Q from ee fun n=>by simp only[bN,cn]<;>grind,oX g,fu]
  have R:bz P=0:=by omega
  have N:bz Q=0:=by omega
  rw[show P-Q=P+ -Q from ee fun n=>by simp only[bN,bt,cn]<;>grind,dT _ (by rw[fu,N];rfl),R]
theorem Ei (of:OnK k f) (g:OnK k t) (K:(Cv.arc k w f t).mono=true):
 if w then(kd k t=0\/kd k t=1)/\(kd k f=1\/kd k f=2)/\cx f t= -1 else(kd k f=2\/kd k f=3)/\(kd k t=3\/kd k t=0)/\cx t f=1:=by
 have K:(!decide (cP f t>=0)&&(!(Cv.arc k w f t).inner (ov k)&& !(Cv.arc k w f t).inner (nZ k)))=true:=K
 have U:cP f t<0:=by grind
 have R:(Cv.arc k w f t).inner (ov k)=false:=by grind
 have N:(Cv.arc k w f t).inner (nZ k)=false:=by grind
 have D:=Ni h0 of g (B4 hk h0) 2 (fun y J h=>WW hk h0 J h) R
 have u:=Ni h0 of g (BN hk h0) 0 (fun y J h=>Wq hk h0 J h) N
 have ha:=io (bZ of) (bZ g)
 have W:cx f t<=0:=by
  by_cases h:cx f t<=0;·exact h
  ·have:cP f t=cx f t:=ael (by omega);omega
 cases w with
 |false=>
  simp only[Bool.false_eq_true,if_false] at D u⊢
  rw[uQ,JC h0,CN hk h0 of,CN hk h0 g] at D
  rw[uQ,Kf h0,Cm hk h0 of,Cm hk h0 g] at u
  obtain⟨m,E⟩:=fG (fA t f)
  rw[E] at D u
  have H:=iH h0 g of
  rw[E] at H
  have I:(kd k f==kd k t&&i3 m==0)=false:=by
   rw[<-E];cases h:(kd k f==kd k t&&cx t f==0) with
   |false=>rfl
   |true=>
    rw[de] at h;have:=Gn h0 of g (beq_iff_eq.1 h.1) (by have:=beq_iff_eq.1 h.2;omega);omega
  rcases IC (kd k f) (kd k t) m H I D u with⟨p,q,r⟩|⟨p,q,r⟩
  ·grind
  grind
 |true=>
  simp only[if_true] at D u⊢
  rw[uQ,JC h0,CN hk h0 of,CN hk h0 g] at D
  rw[uQ,Kf h0,Cm hk h0 of,Cm hk h0 g] at u
  obtain⟨m,E⟩:=fG (fA f t)
  rw[E] at D u
  have H:=iH h0 of g
  rw[E] at H
  have I:(kd k t==kd k f&&i3 m==0)=false:=by
   rw[<-E];cases h:(kd k t==kd k f&&cx f t==0) with
   |false=>rfl
   |true=>
    rw[de] at h;have:=Gn h0 of g (beq_iff_eq.1 h.1).symm (by have:=beq_iff_eq.1 h.2;omega);omega
  rw[Bool.and_comm (kd k f !=2)] at D
  rw[Bool.and_comm (kd k f !=0)] at u
  rcases IC (kd k t) (kd k f) m H I D u with⟨p,q,r⟩|⟨p,q,r⟩
  ·omega
  grind
end
theorem u7 {c d e f:Rat}(K:Rz 2000000 a) (E:Rz 160000 b) (H:Rz 160000 c) (D:Rz 2000000 d) (J:Rz 160000 e) (hf:Rz 160000 f) (I:Rz 160000 (a-d)) (u:0<=c) (g:0<=f):
 Ok Tryz.prog 12 [.a (cR a++cR b++cR c),.a (cR d++cR e++cR f)] [.c (.i .i64 (km (a-d) b (-e) 0 c f))]:=CS (To K E H D J hf I) ((Xc u g).trans (ym u g).symm)
def F7 (a b c:Rat):Rat:=1/(a*a-b*b*c)
inductive Slp where
 |vt
 |st (s:Int)
 |vl (a b c:Rat)
def Hj:Slp->List CellD
 | .vt=>[.i .i64 2]++mG
 | .st s=>[.i .i64 s]++mG
 | .vl a b c=>[.i .i64 0]++(cR a++cR b++cR c)
def Slp.n:Slp->Int
 | .vt=>2
 | .st s=>s
 | .vl _ _ _=>0
def Slp.cl:Slp->List CellD
 | .vl a b c=>cR a++cR b++cR c
 |_=>mG
theorem Ud (s:Slp):s.cl.length=12:=by cases s<;>rfl
theorem HE (s:Slp):(Hj s).length=13:=by cases s<;>rfl
theorem vV (s:Slp):(Hj s)[0]? =some (.i .i64 s.n):=by cases s<;>rfl
theorem Qn (s:Slp):((Hj s).drop 1).take 12=s.cl:=by cases s<;>rfl
section
variable (k:Ci) (p:Pt)
def vu:Rat:=F7 (p.a2-k.y) p.b2 (zc p.b2 p.c)
def NH:Rat:= -(p.a1-k.x)*((p.a2-k.y)*vu k p)+ -p.b1*(-p.b2*vu k p)*p.c
def vn:Rat:= -(p.a1-k.x)*(-p.b2*vu k p)+ -p.b1*((p.a2-k.y)*vu k p)
end
def Cv.slp:Cv->Pt->Slp
 | .seg l _ _,_=>if l.b=0 then .vt else .vl (-l.a/l.b) 0 0
 | .arc k w _ _,p=>if mA p k.y=0 then .st (if w then 1 else-1) else .vl (NH k p) (vn k p) (zc (vn k p) p.c)
def rk:Slp->Int->Int
 | .vt,s=>2*s
 | .st n,_=>n
 | .vl _ _ _,_=>0
def Cv.bnd:Cv->Int
 | .seg _ _ _=>0
 | .arc _ w _ _=>if w then-1 else 1
def Cv.qq:Cv->Rat
 | .seg _ _ _=>0
 | .arc k _ _ _=>k.q
def Do (c d:Cv):Int:=if c.bnd<d.bnd then-1 else if c.bnd>d.bnd then 1 else-c.bnd*aJ c.qq d.qq
def Slp.vcmp:Slp->Slp->Int
 | .vl a b c,.vl x y z=>km (a-x) b (-y) 0 c z
 |_,_=>0
def GG (c d:Cv) (s t:Slp) (side:Int):Int:=
 if rk s side<rk t side then-1 else if rk s side>rk t side then 1 else
 match s with
 | .vt=>0
 | .st n=>n*aJ c.qq d.qq
 | .vl _ _ _=>if s.vcmp t=0 then Do c d else side*s.vcmp t
def Ox (c d:Cv):Int:=if cP c.p d.p=0 then 0 else 1
def BD (c d:Cv):Int:=if cP c.p d.p=0 then GG c d (c.slp c.p) (d.slp d.p) 1 else 0
def fL (c d:Cv):Int:=if cP c.p d.p≠0 then cP c.p d.p else if BD c d≠0 then BD c d else cP c.q d.q
theorem aaQ {c:Rat}(h:b≠0->jB c=false) (h0:b=0->a≠0):a*a-b*b*c≠0:=by
 intro e;by_cases g:b=0;·grind
 ·have u:=h g;have D:c=(a/b)*(a/b):=by grind
  rw[D,Rx] at u;grind
theorem O7 (h:GP p):(p.b1≠0->0<p.c/\jB p.c=false)/\(p.b2≠0->0<p.c/\jB p.c=false):=by have g:=h.v;unfold s9 at g;grind
theorem Yz (h:GP p) (D:p.c=0):p.b1=0/\p.b2=0:=by
 obtain⟨u,g⟩:=O7 h;constructor;·grind
 grind
structure VSz (a b c:Rat):Prop where
 za:Rz 760 a
 zb:Rz 700 b
 zc:Rz 78 c
 c0:0<=c
section
variable {k:Ci}{p:Pt}(hk:GK k) (hp:GP p)
include hk hp
theorem abx:Rz 115 (p.a1-k.x)/\Rz 115 (p.a2-k.y):=⟨(hp.a1.sub hk.x).mono (by decide),(hp.a2.sub hk.y).mono (by decide)⟩
omit hk in
theorem O1 (h:mA p k.y≠0):(p.a2-k.y)*(p.a2-k.y)-p.b2*p.b2*zc p.b2 p.c≠0:=by
 refine aaQ (fun g=>?_) (fun g e=>h ?_);·rw[jT g];exact((O7 hp).2 g).2
 ·unfold mA bU qf;rw[g,e,mY,oL,if_pos (.inl rfl)]
omit hk in
omit hk in
theorem Qu:s3 (p.a2-k.y) p.b2 (zc p.b2 p.c)=mA p k.y:=by unfold mA;rw[Nl (nO (gG hp)) (fun g=>by rw[jT g];exact(O7 hp).2 g),iG (nO (gG hp))]
theorem YO (h:mA p k.y≠0):Rz 352 (vu k p)/\VSz (NH k p) (vn k p) (zc (vn k p) p.c):=by
 have I:=O1 hp h;have E:=nO (b:=vn k p) (gG hp);have D:Rz 78 (zc (vn k p) p.c):=jh hp.c (by decide);by_cases J:p.c=0
 ·obtain⟨z1,z2⟩:=Yz hp J;obtain⟨H,g⟩:=abx hk hp;have u:Rz 231 (vu k p):=by
   unfold vu F7;rw[z2] at I⊢;have e:(p.a2-k.y)*(p.a2-k.y)-0*0*zc 0 p.c=(p.a2-k.y)*(p.a2-k.y):=by grind
   rw[e] at I⊢;exact(ow.div (g.mul g) I).mono (by decide)
  refine⟨u.mono (by decide),⟨?_,?_,D,E⟩⟩
  ·have e:NH k p= -(p.a1-k.x)*((p.a2-k.y)*vu k p):=by unfold NH;rw[z1];grind
   rw[e];exact(H.neg.mul (g.mul u)).mono (by decide)
  ·have e:vn k p=0:=by unfold vn;rw[z1,z2];grind
   rw[e];exact iO (by decide)
 ·obtain⟨K,N⟩:=hp.ir J;have H:Rz 54 (p.a1-k.x):=(K.sub hk.x).mono (by decide);have g:Rz 54 (p.a2-k.y):=(N.sub hk.y).mono (by decide);have u:Rz 230 (vu k p):=by exact(ow.div (((g.mul g).sub ((hp.b2.mul hp.b2).mul (jh hp.c (by decide)))).mono (by decide:_<=229)) I).mono (by decide)
  refine⟨u.mono (by decide),⟨?_,?_,D,E⟩⟩
  ·unfold NH;exact((H.neg.mul (g.mul u)).add ((hp.b1.neg.mul (hp.b2.neg.mul u)).mul hp.c)).mono (by decide)
  ·unfold vn;exact((H.neg.mul (hp.b2.neg.mul u)).add (hp.b1.neg.mul (g.mul u))).mono (by decide)
omit hk hp in
theorem acO:zc (vn k p) (cc (-p.b1) (zc p.b1 p.c) (zc (-p.b2*vu k p) (zc p.b2 p.c)))=zc (vn k p) p.c:=by
 by_cases g:vn k p=0;·rw[Df g,Df g]
 ·rw[jT g,jT g];by_cases u:p.b1=0
  ·rw[Ho (by rw[u];rfl)];have E: -p.b2*vu k p≠0:=fun e=>g (by unfold vn;rw[e,u];grind);have D:p.b2≠0:=by grind
   rw[jT E,jT D]
  ·rw[zn (by grind),jT u]
omit hk hp in
theorem afW: -(p.a1-k.x)*((p.a2-k.y)*vu k p)+ -p.b1*(-p.b2*vu k p)*cc (-p.b1) (zc p.b1 p.c) (zc (-p.b2*vu k p) (zc p.b2 p.c))=NH k p:=by
 unfold NH;by_cases g:p.b1=0;·grind
 ·rw[zn (by grind),jT g]
omit hk in
theorem Yc:vn k p≠0->cc (-p.b1) (zc p.b1 p.c) (zc (-p.b2*vu k p) (zc p.b2 p.c))≠0:=by intro u e;have h:=acO (k:=k) (p:=p);have D:p.c≠0:=fun g=>u (by obtain⟨z1,z2⟩:=Yz hp g;unfold vn;rw[z1,z2];grind);rw[jT u,jT u] at h;grind
omit hk in
theorem ac8:rB (vn k p) (cc (-p.b1) (zc p.b1 p.c) (zc (-p.b2*vu k p) (zc p.b2 p.c)))=vn k p:=by
 by_cases g:vn k p=0;·rw[JZ (.inl g),g]
 ·rw[aaj g (Yc hp g)]
omit hk in
theorem afy:rC (vn k p) (cc (-p.b1) (zc p.b1 p.c) (zc (-p.b2*vu k p) (zc p.b2 p.c)))=zc (vn k p) p.c:=by
 by_cases g:vn k p=0;·rw[JI (.inl g),Df g]
 ·rw[aba g (Yc hp g),<-acO,jT g]
omit hk hp in
theorem aaG: ¬Um (-p.b1) (zc p.b1 p.c) (-p.b2*vu k p) (zc (-p.b2*vu k p) (zc p.b2 p.c)):=by
 rintro⟨H,E,D⟩;have g:p.b1≠0:=by grind
 have u:p.b2≠0:=by grind
 rw[jT g,jT E,jT u] at D;grind
omit hk in
theorem acX:rB (-(p.b2*vu k p)) (zc p.b2 p.c)= -p.b2*vu k p:=by
 by_cases h:p.b2=0;·rw[JZ (.inl (by rw[h];grind)),h];grind
 ·have u:p.c≠0:=by have:=((O7 hp).2 h).1;grind
  rw[jT h];by_cases g: -(p.b2*vu k p)=0;·rw[JZ (.inl g)];grind
  ·rw[aaj g u];grind
omit hk in
theorem afj:rC (-(p.b2*vu k p)) (zc p.b2 p.c)=zc (-p.b2*vu k p) (zc p.b2 p.c):=by
 have e: -(p.b2*vu k p)= -p.b2*vu k p:=by grind
 by_cases h:p.b2=0;·rw[JI (.inl (by rw[h];grind)),Df (by rw[h];grind)]
 ·have u:p.c≠0:=by have:=((O7 hp).2 h).1;grind
  rw[jT h];by_cases g: -(p.b2*vu k p)=0;·rw[JI (.inl g),Df (e▸g)]
  ·rw[aba g u,jT (e▸g)]
end
theorem abD {l:Ln}(hl:GL l) (h:l.b≠0):VSz (-l.a/l.b) 0 0:=⟨(hl.a.neg.div hl.b h).mono (by decide),iO (by decide),iO (by decide),Rat.le_refl⟩
theorem Tm {l:Ln}(hl:GL l) (hp:GP p) (hq:GP q) (H:jz l p=0) (I:jz l q=0) (J:cP p q≠0):cx p q=0↔l.b=0:=by
 have D:=gG hp;have E:=gG hq;rw[Cz hp] at H;rw[Cz hq] at I;have e:Re.of l.a*(pX p-pX q)+Re.of l.b*(pY p-pY q)=Dh l p+ -Dh l q:=ee fun n=>by unfold Dh;simp only[bN,bt,bW,db,cn];grind
 have u:bz (Re.of l.a*(pX p-pX q)+Re.of l.b*(pY p-pY q))=0:=by rw[e,dT _ (by rw[fu,I];rfl),H]
 rw[qu D E];have K:bz (pX p-pX q)=0->bz (pY p-pY q)≠0:=fun h g=>J (ju.2 ⟨by rw[qu D E];exact h,by rw[OE D E];exact g⟩);constructor
 ·intro h;rw[oX (by rw[di,h,si]),di,gI] at u;rcases zl.1 u with g|g;·exact jE.1 g
  grind
 ·intro h;have N:aJ l.a 0≠0:=fun g=>hl.n (by unfold kg;rw[jE.1 g,h];grind);rw[h,dT _ (by rw[di,gI,mY,oL]),di,gI] at u;rcases zl.1 u with g|g;·grind
  grind
theorem Ur (u:c.good) (hp:GP p): ∀ {a b e},c.slp p=.vl a b e->VSz a b e:=by
 intro a b e h;cases c with
 |seg l f t=>
  have h:(if l.b=0 then Slp.vt else .vl (-l.a/l.b) 0 0)=.vl a b e:=h;by_cases g:l.b=0;·grind
  ·rw[if_neg g] at h;cases h;exact abD u.1 g
 |arc k w f t=>
  have h:(if mA p k.y=0 then Slp.st (if w then 1 else-1) else .vl (NH k p) (vn k p) (zc (vn k p) p.c))=.vl a b e:=h;by_cases g:mA p k.y=0;·grind
  ·rw[if_neg g] at h;cases h;exact(YO u.1 hp g).2
theorem Ks {l:Ln}{n:Int}:(Cv.seg l f t).slp p≠ .st n:=by intro h;have h:(if l.b=0 then Slp.vt else .vl (-l.a/l.b) 0 0)=.st n:=h;grind
section
variable {c d:Cv}{s t:Slp}{side:Int}
theorem aa9 (h:decide (rk s side<rk t side)=true):GG c d s t side= -1:=by unfold GG;rw[if_pos (of_decide_eq_true h)]
theorem aan (h:decide (rk s side<rk t side)=false) (g:decide (rk s side>rk t side)=true):GG c d s t side=1:=by unfold GG;rw[if_neg (of_decide_eq_false h),if_pos (of_decide_eq_true g)]
theorem WV (h:decide (c.bnd<d.bnd)=true):Do c d= -1:=by unfold Do;rw[if_pos (of_decide_eq_true h)]
theorem Wj (h:decide (c.bnd<d.bnd)=false) (g:decide (c.bnd>d.bnd)=true):Do c d=1:=by unfold Do;rw[if_neg (of_decide_eq_false h),if_pos (of_decide_eq_true g)]
theorem L7 (h:decide (c.bnd<d.bnd)=false) (g:decide (c.bnd>d.bnd)=false):Do c d= -c.bnd*aJ c.qq d.qq:=by unfold Do;rw[if_neg (of_decide_eq_false h),if_neg (of_decide_eq_false g)]
end
theorem DG (h:(cP c.p d.p==0)=true) {s t:Slp}(hs:c.slp c.p=s) (g:d.slp d.p=t):BD c d=GG c d s t 1/\Ox c d=0:=by unfold BD Ox;rw[if_pos (by simpa using h),if_pos (by simpa using h),hs,g];exact⟨rfl,rfl⟩
theorem aes (h:(cP c.p d.p==0)=false):BD c d=0/\Ox c d=1:=by unfold BD Ox;rw[if_neg (by simpa using h),if_neg (by simpa using h)];exact⟨rfl,rfl⟩
theorem SQ (c:Cv): -1<=c.bnd/\c.bnd<=1:=by
 cases c with
 |seg l p q=>show(-1:Int)<=0/\(0:Int)<=1;decide
 |arc k w p q=>show-1<=(if w=true then(-1:Int) else 1)/\(if w=true then(-1:Int) else 1)<=1;split<;>decide
theorem abB: ∀n,c.slp p=.st n->n=1\/n= -1:=by
 intro n h;cases c with
 |seg l f t=>
  have h:(if l.b=0 then Slp.vt else .vl (-l.a/l.b) 0 0)=.st n:=h;grind
 |arc k w f t=>
  have h:(if mA p k.y=0 then Slp.st (if w then 1 else-1) else .vl (NH k p) (vn k p) (zc (vn k p) p.c))=.st n:=h;grind
structure SlG (s:Slp):Prop where
 st: ∀n,s=.st n->n=1\/n= -1
 sz: ∀a b e,s=.vl a b e->VSz a b e
theorem YM (g:c.good) (hp:GP p):SlG (c.slp p):=⟨abB,fun _ _ _ h=>Ur g hp h⟩
theorem MA: ∀n,c.slp p=.st n->c.isArc=true:=by
 intro n h;cases c with
 |seg l f t=>exact absurd h Ks
 |arc k w f t=>rfl
theorem aeW (h:(!c.isArc)=true):c.bnd=0:=by
 cases c with
 |seg l f t=>rfl
 |arc k w f t=>cases h
theorem ZP (h:(!c.isArc)=false) (g:c.cw=true):c.bnd= -1:=by
 cases c with
 |seg l f t=>cases h
 |arc k w f t=>exact if_pos g
theorem aaM (h:(!c.isArc)=false) (g:c.cw=false):c.bnd=1:=by
 cases c with
 |seg l f t=>cases h
 |arc k w f t=>exact if_neg (by rw[show w=false from g];decide)
theorem Pr (h:c.bnd≠0):c.isArc=true:=by
 cases c with
 |seg l f t=>exact absurd rfl h
 |arc k w f t=>rfl
theorem abH (h:c.bnd=d.bnd) (g:c.bnd=0):Do c d=0:=by rw[L7 (decide_eq_false (by omega)) (decide_eq_false (by omega)),g,Int.neg_zero,oL]
section
variable {c d:Cv}{s t:Slp}{side:Int}(gs:SlG s) (gt:SlG t)
include gs
theorem QY (h:s.n=0): ∃a b e,s=.vl a b e:=by
 cases s with
 |vt=>cases h
 |st n=>have:=gs.st n rfl;simp only[Slp.n] at h;omega
 |vl a b e=>exact⟨a,b,e,rfl⟩
theorem adH (g: ¬s.n=2) (h:s.n≠0): ∃n,s=.st n:=by
 cases s with
 |vt=>exact absurd rfl g
 |st n=>exact⟨n,rfl⟩
 |vl a b e=>exact absurd rfl h
theorem acy:rk s 1=s.n:=by cases s<;>rfl
include gt
set_option linter.unusedSectionVars false
variable (hs:side=1\/side= -1) (q1:decide (rk s side<rk t side)=false) (q2:decide (rk s side>rk t side)=false)
include hs q1 q2
theorem WH (h:(s.n==2)=true):GG c d s t side=0:=by
 cases s with
 |vt=>unfold GG;rw[if_neg (of_decide_eq_false q1),if_neg (of_decide_eq_false q2)]
 |st n=>have:=gs.st n rfl;have h:n=2:=by simpa [Slp.n] using h
        omega
 |vl a b e=>simp[Slp.n] at h
theorem VF (h:(s.n==2)=false) (g:(s.n !=0)=true):GG c d s t side=s.n*aJ c.qq d.qq/\(∃n,s=.st n)/\ ∃n,t=.st n:=by
 obtain⟨n,rfl⟩:=adH gs (by simpa using h) (by simpa using g);have D:=of_decide_eq_false q1;have u:=of_decide_eq_false q2;have E:=gs.st n rfl;refine⟨?_,⟨n,rfl⟩,?_⟩;·unfold GG;rw[if_neg D,if_neg u];rfl
 ·cases t with
  |vt=>simp only[rk] at D u;omega
  |st m=>exact⟨m,rfl⟩
  |vl a b e=>simp only[rk] at D u;omega
theorem WS (h:(s.n==2)=false) (g:(s.n !=0)=false):(s.n=0/\t.n=0)/\GG c d s t side=if s.vcmp t=0 then Do c d else side*s.vcmp t:=by
 have h0:s.n=0:=by grind
 obtain⟨a,b,e,rfl⟩:=QY gs h0;have D:=of_decide_eq_false q1;have u:=of_decide_eq_false q2;refine⟨⟨h0,?_⟩,?_⟩
 ·cases t with
  |vt=>simp only[rk] at D u;omega
  |st m=>have:=gt.st m rfl;simp only[rk] at D u;omega
  |vl a b e=>rfl
 ·unfold GG;rw[if_neg D,if_neg u]
set_option linter.unusedSectionVars true
end
theorem WO (s t:Slp): -1<=s.vcmp t/\s.vcmp t<=1:=by cases s<;>cases t<;>first|exact yj _ _ _ _ _ _|exact(by decide:(-1:Int)<=0/\(0:Int)<=1)
theorem aak (h:(cP c.p d.p !=0)=true):fL c d=cP c.p d.p:=by unfold fL;rw[if_pos (by simpa using h)]
theorem WI (h:(cP c.p d.p !=0)=false) (g:(BD c d !=0)=true):fL c d=BD c d:=by unfold fL;rw[if_neg (by simpa using h),if_pos (by simpa using g)]
theorem Xz (h:(cP c.p d.p !=0)=false) (g:(BD c d !=0)=false):fL c d=cP c.q d.q:=by unfold fL;rw[if_neg (by simpa using h),if_neg (by simpa using g)]
def Cv.fwd (c:Cv):Cv:=if decide (cP c.p c.q>0) then c.rev else c
def uG (p:Cv):List Cv->Nat
 |[]=>0
 |x::l=>if fL x p<=0 then uG p l+1 else 0
def FM (o:List Cv) (p:Cv):List Cv:=o.take (uG p o)++p::o.drop (uG p o)
def fm (l:List Cv):List Cv:=l.foldl (fun o c=>FM o c.fwd) []
def lk:Cv->List Pt
 | .seg _ _ _=>[]
 | .arc k w f t=>(if (Cv.arc k w f t).inner (ov k) then[ov k] else[])++(if (Cv.arc k w f t).inner (nZ k) then[nZ k] else[])
def bi (c:Cv):List Cv:=if c.isArc then fz c (lk c) else[c]
def oI (c:Cv):List Cv:=fm (bi c)
theorem t7 (p:Cv): ∀ {l:List Cv}{k:Nat},k<=l.length->(∀j,j<k->fL (l.getD j aK) p<=0)->(k=l.length\/ ¬fL (l.getD k aK) p<=0)->uG p l=k
 |[],k,h,_,_=>by simp at h;subst h;rfl
 |x::l,0,_,_,h=>by
  rcases h with h|h;·simp at h
  ·unfold uG;rw[if_neg (by simpa using h)]
 |x::l,k+1,h,hj,h2=>by unfold uG;rw[if_pos (by simpa using hj 0 (by omega)),t7 p (l:=l) (k:=k) (by simpa using h) (fun j q=>by simpa using hj (j+1) (by omega)) (by simpa using h2)]
theorem Qg (o:List Cv) (p:Cv):(FM o p).length=o.length+1:=by unfold FM;rw[dc,eu,v5,eP];omega
theorem O8 {p x:Cv}(h:x∈FM o p):x∈o\/x=p:=by
 rcases iN.1 h with h|h;·grind
 grind
theorem Ic: ∀(l o:List Cv),(l.foldl (fun o c=>FM o c.fwd) o).length=o.length+l.length
 |[],o=>by simp
 |x::l,o=>by rw[sP,Ic l,Qg,v5];omega
theorem fy (l:List Cv):(fm l).length=l.length:=by unfold fm;rw[Ic];simp
theorem IZ: ∀(l o:List Cv) {x:Cv},x∈l.foldl (fun o c=>FM o c.fwd) o->x∈o\/ ∃c∈l,x=c.fwd
 |[],o,x,h=>.inl h
 |y::l,o,x,h=>by
  rw[sP] at h;rcases IZ l _ h with h|⟨c,g,e⟩
  ·rcases O8 h with h|h;·exact .inl h
   ·exact .inr ⟨y,by simp,h⟩
  ·exact .inr ⟨c,by simp[g],e⟩
theorem xv {l:List Cv}{x:Cv}(h:x∈fm l): ∃c∈l,x=c.fwd:=(IZ l [] h).elim (fun e=>by cases e) id
theorem tu {l:List Cv}{n:Nat}(h:n<l.length):fm (l.take (n+1))=FM (fm (l.take n)) (l.getD n aK).fwd:=by unfold fm;rw[show l.take (n+1)=l.take n++[l.getD n aK] from by rw[List.take_add_one,ca (d:=aK) h];rfl,List.foldl_append];rfl
theorem HR {l:List Cv}(h:0<l.length):fm (l.take 1)=[(l.getD 0 aK).fwd]:=by rw[tu h];rfl
theorem I0 (h:CvV c):CvV c.fwd:=by unfold Cv.fwd;split;exact h.rev;exact h
theorem L6 (h:decide (cP c.p c.q>0)=true):c.fwd=c.rev:=by unfold Cv.fwd;rw[h];rfl
theorem MP (h:decide (cP c.p c.q>0)=false):c.fwd=c:=by unfold Cv.fwd;rw[h];rfl
theorem iu (h:CvV c): ∀p∈lk c,GP p/\c.on p=true:=by
 intro p hp;cases c with
 |seg l f t=>cases hp
 |arc k w f t=>
  have u: ∀ {x:Pt},(Cv.arc k w f t).inner x=true->(Cv.arc k w f t).on x=true:=fun h=>by unfold Cv.inner at h;rw[de] at h;exact h.1
  rcases iN.1 hp with hp|hp
  ·split at hp;·rename_i e;cases nT.1 hp;exact⟨tN h.g.1 h.pos,u e⟩
   grind
  ·split at hp;·rename_i e;cases nT.1 hp;exact⟨t5 h.g.1 h.pos,u e⟩
   grind
theorem ON (c:Cv):(lk c).length<=2:=by
 cases c with
 |seg l f t=>exact eo _
 |arc k w f t=>
  show((if _ then[ov k] else[])++(if _ then[nZ k] else[])).length<=2;grind
theorem XL (u:(Cv.arc k w f t).inner (ov k)=false) (g:(Cv.arc k w f t).inner (nZ k)=false):lk (.arc k w f t)=[]:=by show(if _ then[ov k] else[])++(if _ then[nZ k] else[])=_;rw[u,g];rfl
theorem Wy (u:(Cv.arc k w f t).inner (ov k)=true) (g:(Cv.arc k w f t).inner (nZ k)=false):lk (.arc k w f t)=[ov k]:=by show(if _ then[ov k] else[])++(if _ then[nZ k] else[])=_;rw[u,g];rfl
theorem Xo (u:(Cv.arc k w f t).inner (ov k)=false) (g:(Cv.arc k w f t).inner (nZ k)=true):lk (.arc k w f t)=[nZ k]:=by show(if _ then[ov k] else[])++(if _ then[nZ k] else[])=_;rw[u,g];rfl
theorem Wx (u:(Cv.arc k w f t).inner (ov k)=true) (g:(Cv.arc k w f t).inner (nZ k)=true):lk (.arc k w f t)=[ov k,nZ k]:=by show(if _ then[ov k] else[])++(if _ then[nZ k] else[])=_;rw[u,g];rfl
theorem tF (h:CvV c): ∀d∈bi c,CvV d:=by
 intro d g;unfold bi at g;split at g;·exact My h (fun p hp=>(iu h p hp).1) (fun p hp=>AD (iu h p hp).2) d g
 grind
theorem BE:(bi c).length<=3:=by
 unfold bi;split
 ·have u:=jV c (cb c ([c.p,c.q]++lk c));have g:=rj (c:=c) (l:=[c.p,c.q]++lk c);have D:=ON c;unfold fz;grind
 grind
theorem ue (h:CvV c):0<(bi c).length:=by
 unfold bi;split
 ·have u:=jV c (cb c ([c.p,c.q]++lk c));have g:=kY (c:=c) (l:=lk c) h.ne;unfold fz;omega
 grind
theorem Z8 (h:CvV c): ∀d∈oI c,CvV d:=fun d g=>by obtain⟨x,u,e⟩:=xv g;rw[e];exact I0 (tF h x u)
theorem CK:(oI c).length<=3:=by unfold oI;rw[fy];exact BE
theorem Y6 (h:j<O.length):((am an O++rs).drop (j*66)).take 66=an (O.getD j aK):=by have hl:=ak ae O;rw[ui (by omega),cS ae (ca (d:=aK) h),ro];exact NZ _ _
theorem uP (j:Nat):am an O++rs=am an (O.take j)++(am an (O.drop j)++rs):=by rw[<-ro,<-dg,v8]
theorem BH {p c:Nat}(hp:O.length=p) (E:j<=p) (D:p<=c):((am an O++rs).drop (if j<c then j*66 else 0)).take ((p-j)*66)=am an (O.drop j):=by
 have g:(am an (O.take j)).length=j*66:=by rw[ak ae,eu,dK (by omega)]
 have u:(am an (O.drop j)).length=(p-j)*66:=by rw[ak ae,eP,hp]
 by_cases h:j<c;·rw[if_pos h,uP j,<-g,List.drop_left,<-u,List.take_left]
 ·have e:p-j=0:=by omega
  rw[e,Nat.zero_mul,List.take_zero,yw (by omega)];rfl
theorem Cb {p c:Nat}(hp:O.length=p) (u:j<=p) (hr:rs.length=(c-p)*66) (g:p<=c):0<p-j->(if j<c then j*66 else 0)+(p-j)*66<=(am an O++rs).length:=by rw[dc,ak ae,hp];grind
theorem vk {p:Cv}(h:uG p o=j):am an (o.take j)++(an p++am an (o.drop j))=am an (FM o p):=by unfold FM;rw[h,dg];rfl
def v6 (D u g:Bool) (E H m:Int):Int:=KC (G2 u D E) (G2 g D H) (G2 u g m)
def OQ (a b c:Int):Bool:=(!(decide (a<=0)&&decide (b<=0))||decide (c<=0))&&(!(decide (a<0)&&decide (b<=0))||decide (c<0))&&(!(decide (a<=0)&&decide (b<0))||decide (c<0))
set_option maxRecDepth 1000000 in
theorem abe: ∀(g E u D:Bool) (i j l:Fin 3) (a:Fin 3),Jt (i3 i) (i3 j) (i3 a)=true-> ∀b:Fin 3,Jt (i3 j) (i3 l) (i3 b)=true-> ∀c:Fin 3,Jt (i3 i) (i3 l) (i3 c)=true->
 Jt (i3 a) (-(i3 b)) (i3 c)=true->OQ (v6 g E u (i3 i) (i3 j) (i3 a)) (v6 g u D (i3 j) (i3 l) (i3 b)) (v6 g E D (i3 i) (i3 l) (i3 c))=true:=by decide+kernel
theorem R8: ∀(D u g:Bool) (i j a:Fin 3),Jt (i3 i) (i3 j) (i3 a)=true->v6 D g u (i3 j) (i3 i) (-(i3 a))= -v6 D u g (i3 i) (i3 j) (i3 a):=by decide+kernel
set_option maxRecDepth 1000000 in
theorem Ww: ∀(E g D u:Bool) (i j l:Fin 3) (a:Fin 3),Jt (i3 l) (i3 i) (i3 a)=true-> ∀b:Fin 3,Jt (i3 j) (i3 i) (i3 b)=true-> ∀c:Fin 3,Jt (i3 l) (i3 j) (i3 c)=true->
 Jt (i3 a) (i3 b) (i3 c)=true->v6 E g D (i3 i) (i3 j) (-(i3 b))<0->v6 g g u 0 (i3 a) (-(i3 a))<=0->v6 g u D (i3 a) (i3 b) (i3 c)<=0->(u==g&&i3 a==0)=false->(u==D&&i3 c==0)=false->
 v6 E g u (i3 i) (i3 l) (-(i3 a))<0/\v6 E u D (i3 l) (i3 j) (i3 c)<0:=by decide+kernel
theorem g9 (k:Ci) (f p q:Pt):tU k f p q=v6 (mu k f) (mu k p) (mu k q) (cx p f) (cx q f) (cx p q):=rfl
section
variable {k:Ci}{f p q r x:Pt}(hf:0<=f.c) (hp:0<=p.c) (hq:0<=q.c)
include hf hp hq
theorem Qw:tU k f q p= -tU k f p q:=by rw[g9,g9,io hp hq];have h:=lJ hf hp hq;obtain⟨i,hi⟩:=fG (fA p f);obtain⟨j,u⟩:=fG (fA q f);obtain⟨a,g⟩:=fG (fA p q);rw[hi,u,g] at h⊢;exact R8 _ _ _ i j a h
variable (hr:0<=r.c)
include hr
theorem Z0:OQ (tU k f p q) (tU k f q r) (tU k f p r)=true:=by rw[g9,g9,g9];have J:=lJ hf hp hq;have K:=lJ hf hq hr;have I:=lJ hf hp hr;have E:=lJ hq hp hr;rw[io hq hr] at E;obtain⟨i,hi⟩:=fG (fA p f);obtain⟨j,u⟩:=fG (fA q f);obtain⟨l,hl⟩:=fG (fA r f);obtain⟨a,D⟩:=fG (fA p q);obtain⟨b,H⟩:=fG (fA q r);obtain⟨c,g⟩:=fG (fA p r);rw[hi,u,D] at J;rw[u,hl,H] at K;rw[hi,hl,g] at I;rw[D,H,g] at E;rw[hi,u,hl,D,H,g];exact abe _ _ _ _ i j l a J b K c I E
end
theorem Xr: ∀(g u:Bool) (a:Fin 3),v6 g g u 0 (i3 a) (-(i3 a))<=0:=by decide+kernel
theorem Xa (hf:0<=f.c) (g:0<=x.c):tU k f f x<=0:=by rw[g9,AI hf,io g hf];obtain⟨a,u⟩:=fG (fA x f);rw[u];exact Xr _ _ a
theorem SJ: ∀(D u g:Bool) (i j a:Fin 3),Jt (i3 i) (i3 j) (i3 a)=true->v6 D u g (i3 i) (i3 j) (i3 a)=0->(u==g&&i3 a==0)=true:=by decide+kernel
theorem Cf (h0:0<k.q) (op:OnK k p) (oq:OnK k q) (h:(mu k p==mu k q&&cx p q==0)=true):cP p q=0:=by rw[de] at h;have D:=beq_iff_eq.1 h.1;have u:=beq_iff_eq.1 h.2;refine Gn h0 op oq ?_ u;have g:=iH h0 op oq;rw[oT,oT] at D;rw[u] at g;revert D g;generalize kd k p=a;generalize kd k q=b;revert a b;decide
theorem S5 (h0:0<k.q) (hf:0<=f.c) (op:OnK k p) (oq:OnK k q) (h:tU k f p q=0):cP p q=0:=by have g:=lJ hf (bZ op) (bZ oq);rw[g9] at h;obtain⟨i,hi⟩:=fG (fA p f);obtain⟨j,D⟩:=fG (fA q f);obtain⟨a,u⟩:=fG (fA p q);rw[hi,D,u] at g h;exact Cf h0 op oq (by rw[u];exact SJ _ _ _ i j a g h)
theorem V8 (h0:0<k.q) (of:OnK k f) (op:OnK k p) (oq:OnK k q) (R:OnK k x) (W:tU k f p q<0) (N:tU k p p x<=0) (K:tU k p x q<=0) (n1:cP x p≠0) (n2:cP x q≠0):
 tU k f p x<0/\tU k f x q<0:=by
 have U:=bZ of
 have u:=bZ op
 have H:=bZ oq
 have g:=bZ R
 have t1:=lJ U g u
 have t2:=lJ U H u
 have t3:=lJ U g H
 have t4:=lJ u g H
 have e1:(mu k x==mu k p&&cx x p==0)=false:=by
  cases h:(mu k x==mu k p&&cx x p==0) with
  |false=>rfl
  |true=>exact absurd (Cf h0 R op h) n1
 have e2:(mu k x==mu k q&&cx x q==0)=false:=by
  cases h:(mu k x==mu k q&&cx x q==0) with
  |false=>rfl
  |true=>exact absurd (Cf h0 R oq h) n2
 rw[g9,io H u] at W
 rw[g9,AI u,io g u] at N
 rw[g9] at K
 rw[g9,g9,io g u]
 obtain⟨i,hi⟩:=fG (fA p f)
 obtain⟨j,I⟩:=fG (fA q f)
 obtain⟨l,hl⟩:=fG (fA x f)
 obtain⟨a,E⟩:=fG (fA x p)
 obtain⟨b,J⟩:=fG (fA q p)
 obtain⟨c,D⟩:=fG (fA x q)
 rw[hl,hi,E] at t1
 rw[I,hi,J] at t2
 rw[hl,I,D] at t3
 rw[E,J,D] at t4
 rw[hi,I,J] at W
 rw[E] at N e1
 rw[E,J,D] at K
 rw[D] at e2
 rw[hi,I,hl,E,D]
 exact Ww _ _ _ _ i j l a t1 b t2 c t3 t4 W N K e1 e2
def Ci.by (k:Ci) (w:Bool):Ci:=if w then k.mir else k
def Pt.by (p:Pt) (w:Bool):Pt:=if w then p.flip else p
theorem OnK.by (w:Bool) (h:OnK k p):OnK (k.by w) (p.by w):=by
 cases w with
 |true=>exact h.flip
 |false=>exact h
theorem afq (w:Bool) (h:0<k.q):0<(k.by w).q:=by cases w<;>exact h
theorem RB (w:Bool) (hp:0<=p.c) (hq:0<=q.c):cP (p.by w) (q.by w)=0↔cP p q=0:=by
 cases w with
 |false=>exact Iff.rfl
 |true=>
  show cP p.flip q.flip=0↔_;rw[ju,ju,mr hp hq];exact⟨fun h=>⟨by omega,h.2⟩,fun h=>⟨by omega,h.2⟩⟩
theorem nI (k:Ci) (w:Bool) (f t p q:Pt):(Cv.arc k w f t).ord p q=tU (k.by w) (f.by w) (p.by w) (q.by w):=by cases w<;>rfl
section
variable {k:Ci}{w:Bool}{f t:Pt}(h0:0<k.q) (of:OnK k f)
include of
variable {p q r:Pt}(op:OnK k p) (oq:OnK k q)
include op oq
theorem ny:(Cv.arc k w f t).ord q p= -(Cv.arc k w f t).ord p q:=by rw[nI,nI];exact Qw (bZ (of.by w)) (bZ (op.by w)) (bZ (oq.by w))
theorem yU (g:OnK k r):OQ ((Cv.arc k w f t).ord p q) ((Cv.arc k w f t).ord q r) ((Cv.arc k w f t).ord p r)=true:=by rw[nI,nI,nI];exact Z0 (bZ (of.by w)) (bZ (op.by w)) (bZ (oq.by w)) (bZ (g.by w))
include h0
theorem Iv (h:(Cv.arc k w f t).ord p q=0):cP p q=0:=by rw[nI] at h;exact(RB w (bZ op) (bZ oq)).1 (S5 (afq w h0) (bZ (of.by w)) (op.by w) (oq.by w) h)
end
theorem xK (of:OnK k f) (op:OnK k p):(Cv.arc k w f t).ord f p<=0:=by rw[nI];exact Xa (bZ (of.by w)) (bZ (op.by w))
theorem Et {a b c:Int}(h:OQ a b c=true) (g:a<0) (u:b<=0):c<0:=by unfold OQ at h;grind
theorem ZH {a b c:Int}(h:OQ a b c=true) (g:a<=0) (u:b<=0):c<=0:=by unfold OQ at h;grind
theorem FN {a b c:Int}(h:OQ a b c=true) (g:a<=0) (u:b<0):c<0:=by unfold OQ at h;grind
section
variable {k:Ci}{w:Bool}{f t:Pt}(h0:0<k.q) (of:OnK k f)
include h0 of
theorem G9 {x:Pt}(D:OnK k x): ∀ {S:List Pt},(∀y∈S,OnK k y)->S.Pairwise (fun p q=>(Cv.arc k w f t).ord p q<0)->(fS (.arc k w f t) S x).Pairwise (fun p q=>(Cv.arc k w f t).ord p q<0)
 |[],_,_=>by rw[Bf];exact List.pairwise_singleton _ _
 |o::l,hS,hp=>by
  have E:=hS o (by simp);have hl: ∀y∈l,OnK k y:=fun y u=>hS y (by simp[u]);obtain⟨H,J⟩:=vG.1 hp;by_cases h:(Cv.arc k w f t).ord o x<0
  ·rw[xw h];refine vG.2 ⟨fun y u=>?_,G9 D hl J⟩;rcases rq u with g|g;·exact H y g
   ·rw[g];exact h
  ·rw[wP h];split;·exact hp
   ·rename_i I;have N:=ny (w:=w) (t:=t) of E D;have K:(Cv.arc k w f t).ord o x≠0:=fun e=>I (Iv h0 of E D e);refine vG.2 ⟨fun y u=>?_,hp⟩;rcases dO.1 u with g|g;·rw[g];omega
    ·exact Et (yU of D E (hl y g)) (by omega) (Int.le_of_lt (H y g))
omit h0 of in
theorem BT {c:Cv}{x:Pt}(D:0<=x.c): ∀ {S:List Pt},(∀y∈S,y∈fS c S x)/\ ∃y∈fS c S x,cP y x=0
 |[]=>by rw[Bf];exact⟨fun y H=>(by cases H),x,by simp,K4 D⟩
 |o::l=>by
  by_cases h:c.ord o x<0
  ·rw[xw h];obtain⟨I,y,J,E⟩:=BT (c:=c) D (S:=l);refine⟨fun z u=>?_,y,gF _ J,E⟩;rcases dO.1 u with g|g;·rw[g];simp
   ·exact gF _ (I z g)
  ·rw[wP h];split;·rename_i e;exact⟨fun z u=>u,o,by simp,e⟩
   ·exact⟨fun z u=>gF _ u,x,by simp,K4 D⟩
theorem HM: ∀(L:List Pt) {S:List Pt},(∀y∈L,OnK k y)->(∀y∈S,OnK k y)->S.Pairwise (fun p q=>(Cv.arc k w f t).ord p q<0)->
 (L.foldl (fS (.arc k w f t)) S).Pairwise (fun p q=>(Cv.arc k w f t).ord p q<0)/\(∀y∈S,y∈L.foldl (fS (.arc k w f t)) S)/\ ∀y∈L,∃z∈L.foldl (fS (.arc k w f t)) S,cP z y=0
 |[],S,_,_,hp=>⟨hp,fun y g=>g,fun y g=>by cases g⟩
 |x::L,S,hL,hS,hp=>by
  have E:=hL x (by simp);have D: ∀y∈fS (.arc k w f t) S x,OnK k y:=fun y g=>(rq g).elim (hS y) (fun e=>e▸E);obtain⟨R,H,J⟩:=HM L (S:=fS (.arc k w f t) S x) (fun y g=>hL y (by simp[g])) D (G9 h0 of E hS hp);obtain⟨N,y,K,I⟩:=BT (c:=.arc k w f t) (x:=x) (bZ E) (S:=S);rw[sP];refine⟨R,fun z u=>H z (N z u),fun z u=>?_⟩;rcases dO.1 u with e|e;·rw[e];exact⟨y,H y K,I⟩
  ·exact J z e
theorem OC (g: ∀y∈L,OnK k y):(cb (.arc k w f t) L).Pairwise (fun p q=>(Cv.arc k w f t).ord p q<0)/\ ∀y∈L,∃z∈cb (.arc k w f t) L,cP z y=0:=by obtain⟨E,_,u⟩:=HM (w:=w) (t:=t) h0 of L (S:=[]) g (fun y D=>by cases D) .nil;exact⟨E,u⟩
end
theorem tQ {c:Cv}: ∀ {S:List Pt}{d:Cv},d∈kX c S-> ∃A p q B,S=A++p::q::B/\d=c.ends p q
 |[],d,h=>by cases h
 |[x],d,h=>by cases h
 |x::y::l,d,h=>by
  have h:d∈c.ends x y::kX c (y::l):=h;rcases dO.1 h with h|h;·exact⟨[],x,y,l,rfl,h⟩
  ·obtain⟨A,p,q,B,e,g⟩:=tQ h;exact⟨x::A,p,q,B,by rw[e];rfl,g⟩
theorem Ew (h0:0<k.q) (op:OnK k p) (oq:OnK k q) (g:OnK k x):(Cv.arc k (!w) q p).inner x=(Cv.arc k w p q).inner x:=by
 have e:(Cv.arc k (!w) q p).on x=(Cv.arc k w p q).on x:=by
  rw[IB (eC.2 g.2),IB (eC.2 g.2)];cases w with
  |true=>
   have u:=Fi (k:=k) oq.1 op.1 g.1;have D:=LB h0 op oq g;exact u.trans D.symm
  |false=>
   have u:=LB h0 oq op g;have D:=Fi (k:=k) op.1 oq.1 g.1;exact u.trans D.symm
 show((Cv.arc k (!w) q p).on x&&(!(cP q x==0)&& !(cP p x==0)))=((Cv.arc k w p q).on x&&(!(cP p x==0)&& !(cP q x==0)));grind
theorem OI (D:CvV c): ∀d∈bi c,d.fwd.mono=true:=by
 intro d H;have vd:=tF D d H;cases c with
 |seg l f t=>
  have H:d∈ [Cv.seg l f t]:=H;cases nT.1 H;have hn:cP f t≠0:=D.ne;have ha:=jv (gG D.g.2.1) (gG D.g.2.2);unfold Cv.fwd;split
  ·rename_i e;have e:cP f t>0:=of_decide_eq_true e;show(!decide (cP t f>=0))=true;rw[decide_eq_false (by omega)];rfl
  ·rename_i e;have e: ¬cP f t>0:=fun g=>e (decide_eq_true g);show(!decide (cP f t>=0))=true;rw[decide_eq_false (by omega)];rfl
 |arc k w f t=>
  have h0:0<k.q:=D.pos;have hk:=D.g.1;have of:OnK k f:=⟨D.g.2.1,eC.1 D.sp⟩;have K:OnK k t:=⟨D.g.2.2,eC.1 D.sq⟩;have H:d∈kX (.arc k w f t) (cb (.arc k w f t) ([f,t]++lk (.arc k w f t))):=by unfold bi at H;rw[if_pos (show(Cv.arc k w f t).isArc=true from rfl)] at H;exact H
  have hL: ∀y∈ [f,t]++lk (.arc k w f t),OnK k y:=fun y I=>by
   rcases iN.1 I with h|h
   ·simp only[dO,tH,or_false] at h;rcases h with h|h<;>rw[h]<;>assumption
   ·exact⟨(iu D y h).1,eC.1 (AD (iu D y h).2)⟩
  have hT: ∀y∈ [f,t]++lk (.arc k w f t),(Cv.arc k w f t).ord y t<=0:=fun y I=>by
   rcases iN.1 I with h|h
   ·simp only[dO,tH,or_false] at h;rcases h with h|h;·rw[h];exact xK of K
    ·rw[h];have:=ny (w:=w) (t:=t) of K K;omega
   ·have:=(iu D y h).2;unfold Cv.on at this;rw[de] at this;exact of_decide_eq_true this.2
  obtain⟨hs,N⟩:=OC (w:=w) (t:=t) h0 of hL;obtain⟨A,p,q,B,eS,rfl⟩:=tQ H;have E: ∀y∈A++p::q::B,y∈ [f,t]++lk (.arc k w f t):=fun y I=>mT (by rw[eS];exact I);have op:OnK k p:=hL p (E p (by simp));have oq:OnK k q:=hL q (E q (by simp));rw[eS] at hs N;obtain⟨hA,a3,a5⟩:=List.pairwise_append.1 hs;obtain⟨a6,a4⟩:=vG.1 a3;have W:(Cv.arc k w f t).ord p q<0:=a6 q (by simp);have b0:cP p q≠0:=F8 D.g op.1 oq.1 W;have ha:=jv (bZ op) (bZ oq);have a0: ∀x,OnK k x->(x=ov k\/x=nZ k)->(Cv.arc k w p q).inner x=false:=fun x u hx=>by
   cases hi:(Cv.arc k w p q).inner x with
   |false=>rfl
   |true=>
    exfalso;unfold Cv.inner at hi;rw[de,de] at hi;obtain⟨i1,i2,i3⟩:=hi;have n1:cP p x≠0:=by simpa [Cv.p] using i2
    have n2:cP q x≠0:=by simpa [Cv.q] using i3
    unfold Cv.on at i1;rw[de,de] at i1;have b1:(Cv.arc k w p q).ord p x<=0:=of_decide_eq_true i1.1.2;have b2:(Cv.arc k w p q).ord x q<=0:=of_decide_eq_true i1.2;rw[nI] at b1 b2;have U:=W;rw[nI] at U;have a1:=jv (bZ op) (bZ u);have a2:=jv (bZ oq) (bZ u);obtain⟨r1,r2⟩:=V8 (afq w h0) (of.by w) (op.by w) (oq.by w) (u.by w) U b1 b2 (fun e=>n1 (by have:=(RB w (bZ u) (bZ op)).1 e;omega)) (fun e=>n2 (by have:=(RB w (bZ u) (bZ oq)).1 e;omega));rw[<-nI (t:=t)] at r1 r2;have xt:(Cv.arc k w f t).ord x t<0:=Et (yU of u oq K) r2 (hT q (E q (by simp)));have fx:(Cv.arc k w f t).ord f x<0:=FN (yU of of op u) (xK of op) r1;have J:(Cv.arc k w f t).inner x=true:=by unfold Cv.inner;rw[IB (eC.2 u.2)];show(decide ((Cv.arc k w f t).ord f x<=0)&&decide ((Cv.arc k w f t).ord x t<=0)&&(!(cP f x==0)&& !(cP t x==0)))=true;have m1:cP f x≠0:=F8 D.g of.1 u.1 fx;have m2:cP x t≠0:=F8 D.g u.1 K.1 xt;have m3:=jv (bZ u) (bZ K);rw[decide_eq_true (Int.le_of_lt fx),decide_eq_true (Int.le_of_lt xt)];simp only[Bool.and_self,iI,de,wa,beq_eq_false_iff_ne,ne_eq];exact⟨m1,by omega⟩
    have R:x∈lk (.arc k w f t):=by
     show x∈(if _ then[ov k] else[])++(if _ then[nZ k] else[]);rcases hx with e|e;·rw[<-e,J];simp
     ·refine iN.2 (.inr ?_);rw[<-e,J];simp
    obtain⟨y,I,ey⟩:=N x (iN.2 (.inr R));have oy:OnK k y:=hL y (E y I);have zy:(Cv.arc k w f t).ord y x=0:=xj (bZ oy) (bZ u) ey D.g;have ay:=ny (w:=w) (t:=t) of oy u;have b3:=ny (w:=w) (t:=t) of op u;have a9:=ny (w:=w) (t:=t) of u oq;rcases iN.1 I with g|g
    ·have l1:(Cv.arc k w f t).ord y p<0:=a5 y g p (by simp);have:=FN (yU (w:=w) (t:=t) of u oy op) (by omega) l1;omega
    ·rcases dO.1 g with g|g
     ·have:=ny (w:=w) (t:=t) of op op;rw[g] at zy;omega
     ·rcases dO.1 g with g|g
      ·rw[g] at zy;omega
      ·have l1:(Cv.arc k w f t).ord q y<0:=(vG.1 a4).1 y g;have:=Et (yU (w:=w) (t:=t) of oq oy u) l1 (by omega);omega
  have kL:=a0 _ (B4 hk h0) (.inl rfl);have kR:=a0 _ (BN hk h0) (.inr rfl);unfold Cv.fwd;split
  ·rename_i e;have e:cP p q>0:=of_decide_eq_true e;show(!decide (cP q p>=0)&&(!(Cv.arc k (!w) q p).inner (ov k)&& !(Cv.arc k (!w) q p).inner (nZ k)))=true;rw[Ew h0 op oq (B4 hk h0),Ew h0 op oq (BN hk h0),kL,kR,decide_eq_false (by omega)];rfl
  ·rename_i e;have e: ¬cP p q>0:=fun g=>e (decide_eq_true g);show(!decide (cP p q>=0)&&(!(Cv.arc k w p q).inner (ov k)&& !(Cv.arc k w p q).inner (nZ k)))=true;grind
theorem Of (D:CvV c): ∀d∈oI c,d.mono=true:=fun d g=>by obtain⟨x,u,e⟩:=xv g;rw[e];exact OI D x u
def T3 (a b c:Int):Prop:=(a<=0->b<=0->c<=0)/\(a<0->b<=0->c<0)/\(a<=0->b<0->c<0)
theorem YK (x y z:Re):T3 (bz (x-y)) (bz (y-z)) (bz (x-z)):=by
 have e:x-z=(x-y)+(y-z):=ee fun n=>by simp only[bN,bt]<;>grind
 rw[e];generalize x-y=X;generalize y-z=Y;have g:=cZ X;have u:=cZ Y;unfold T3;by_cases a:bz X=0;·rw[oX a];omega
 ·by_cases b:bz Y=0;·rw[dT _ b];omega
  ·by_cases c:bz X=bz Y;·rw[lT c];omega
   grind
theorem Mu (x y:Rat):aJ x y=bz (Re.of x-Re.of y):=by rw[<-tB,<-gI];exact congrArg bz (ee fun n=>by simp only[bt,db];grind)
section
variable {p q r:Pt}(hp:0<=p.c) (hq:0<=q.c) (hr:0<=r.c)
include hp hq hr
theorem Mv:T3 (cP p q) (cP q r) (cP p r):=by
 have g:T3 (cx p q) (cx q r) (cx p r):=by rw[qu hp hq,qu hq hr,qu hp hr];exact YK _ _ _
 have u:T3 (cy p q) (cy q r) (cy p r):=by rw[OE hp hq,OE hq hr,OE hp hr];exact YK _ _ _
 have e: ∀(a b:Pt),cP a b=if cx a b≠0 then cx a b else cy a b:=fun _ _=>rfl;unfold T3 at*;grind
end
end Go.Proofs.YtegeknjkgadehaaGreat
