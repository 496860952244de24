/-Plain:a monotone arc lies on one half of its circle,and holds the points of that half between its ends. -/
import Derived.Test.YtegeknjkgadehaaGreatTqN
namespace Go.Proofs.YtegeknjkgadehaaGreat
open Go Go.RowKit
variable {w:Bool}{k:Ci}{c d:Cv}{a b:Int}{l:Ln}{f p q t x:Pt}{y:Rat}
theorem nI:type_of% @List.pairwise_cons:=@List.pairwise_cons
theorem uX:type_of% @List.pairwise_append:=@List.pairwise_append
def IX (a d b:Fin 4) (A D j:Int):Int:=uZ (Bm (uK d) (uK a) A) (Bm (uK b) (uK a) D) (Bm (uK d) (uK b) j)
def exF (q a b:Fin 4) (s:Int) (m:Int):Bool:=decide (IX a q b (if a=q then 0 else s) m (if b=q then 0 else s)<=0)&&(a !=q&&b !=q)
theorem Ib: ∀(a b:Fin 4) (m:Fin 3),ow b a (i3 m)=true->(a==b&&i3 m==0)=false->exF 2 a b (-1) (i3 m)=false->exF 0 a b 1 (i3 m)=false-> ((a=2\/a=3)/\(b=3\/b=0)/\i3 m=1)\/((a=0\/a=1)/\(b=1\/b=2)/\i3 m= -1):=by decide+kernel
theorem VK: ∀(a b d:Fin 4) (i l:Fin 3),(a=2\/a=3)->(b=3\/b=0)->ow d a (i3 i)=true->ow d b (i3 l)=true->BI (i3 i) 1 (i3 l)=true-> (IX a d b (i3 i) 1 (i3 l)<=0↔d≠1/\0<=i3 i/\i3 l<=0):=by decide+kernel
theorem Xq: ∀(a b d:Fin 4) (i l:Fin 3),(a=0\/a=1)->(b=1\/b=2)->ow d a (i3 i)=true->ow d b (i3 l)=true->BI (i3 i) (-1) (i3 l)=true-> (IX a d b (i3 i) (-1) (i3 l)<=0↔d≠3/\i3 i<=0/\0<=i3 l):=by decide+kernel
theorem vP (k:Ci) (s p e:Pt):vo k s p e=IX (kd k s) (kd k p) (kd k e) (cx p s) (cx e s) (cx p e):=by unfold vo nG IX;rw[jt,jt,jt]
theorem vJ {a c:Rat}:b8 a 0 c=aG a 0:=by unfold b8 p7;rw[jI,nQ,if_pos (.inl rfl)]
theorem Oz {b c:Rat}(j:0<c):b8 0 b c=aG b 0:=by
 have h1:aG c 0=1:=by unfold aG;rw[if_neg (by grind),if_pos j]
 unfold b8 p7;rw[jI,h1,Int.mul_one];grind
theorem aaJ (s:Rat) (h0:0<k.q):mh (iP k.x s k.y 0 k.q) k.y=0/\zX (iP k.x s k.y 0 k.q) k.x=aG (if jy k.q then s*rt k.q else s) 0:=by
 cases hq:jy k.q with
 |true=>
  have e:iP k.x s k.y 0 k.q=rP (k.x+s*rt k.q) (k.y+0*rt k.q):=by unfold iP;rw[hq];rfl
  rw[e,if_pos rfl];refine⟨?_,?_⟩
  .show b8 (k.y+0*rt k.q-k.y) 0 _=0;rw[vJ,show k.y+0*rt k.q-k.y=0 from by grind,jI]
  .show b8 (k.x+s*rt k.q-k.x) 0 _=_;rw[vJ,show k.x+s*rt k.q-k.x=s*rt k.q from by grind]
 |false=>
  have e:iP k.x s k.y 0 k.q=⟨k.x,s,k.y,0,k.q⟩:=by unfold iP;rw[hq];rfl
  rw[e,if_neg (by decide)];refine⟨?_,?_⟩
  .show b8 (k.y-k.y) 0 _=0;rw[vJ,show k.y-k.y=0 from by grind,jI]
  .show b8 (k.x-k.x) s (zc s k.q)=_;rw[show k.x-k.x=0 from by grind];by_cases hs:s=0;·rw[hs,vJ]
   .rw[j6 hs,Oz h0]
theorem PG (c:Rat):0<=rt c:=by exact Rat.divInt_nonneg (fB c.num) (fB (c.den:Int))
theorem Xg (h:cx p q≠0):cP p q=cx p q:=if_pos h
theorem MA {q:Rat}(h0:0<q) (hs:jy q=true):0<rt q:=by have h1:=PG q;have j:=ZT h0 hs;grind
theorem QE (h0:0<k.q):mh (se k) k.y=0/\zX (se k) k.x<0:=by
 obtain⟨a,b⟩:=aaJ (-1) h0;refine⟨a,?_⟩;show zX (iP k.x (-1) k.y 0 k.q) k.x<0;rw[b];cases hq:jy k.q with
 |true=>have:=MA h0 hq;rw[if_pos rfl];unfold aG;rw[if_pos (by grind)];decide
 |false=>rw[if_neg (by decide)];decide+kernel
theorem Vg (h0:0<k.q):mh (sv k) k.y=0/\0<zX (sv k) k.x:=by
 obtain⟨a,b⟩:=aaJ 1 h0;refine⟨a,?_⟩;show 0<zX (iP k.x 1 k.y 0 k.q) k.x;rw[b];cases hq:jy k.q with
 |true=>have:=MA h0 hq;rw[if_pos rfl];unfold aG;rw[if_neg (by grind),if_pos (by grind)];decide
 |false=>rw[if_neg (by decide)];decide+kernel
section
variable {k:Ci}(hk:GK k) (h0:0<k.q)
include hk h0
theorem CK:OnK k (se k):=⟨At hk h0,Gl hk h0⟩
theorem CW:OnK k (sv k):=⟨Af hk h0,GR hk h0⟩
omit hk in
theorem LD:kd k (se k)=2:=by obtain⟨a,b⟩:=QE h0;unfold kd;rw[if_neg (by omega),if_pos a,if_neg (by omega)]
omit hk in
theorem KC:kd k (sv k)=0:=by obtain⟨a,b⟩:=Vg h0;unfold kd;rw[if_neg (by omega),if_pos a,if_pos (by omega)]
theorem Cb (hp:OnK k p):cx (se k) p=if kd k p=2 then 0 else-1:=by have h:=gh h0 (CK hk h0) hp;rw[LD h0] at h;unfold ow at h;grind
theorem Cj (hp:OnK k p):cx (sv k) p=if kd k p=0 then 0 else 1:=by have h:=gh h0 (CW hk h0) hp;rw[KC h0] at h;unfold ow at h;grind
omit hk in
theorem Nb (of:OnK k f) (A:OnK k t) (D:OnK k x) (q:Fin 4) (hq: ∀y,OnK k y->cP y x=0->kd k y=q) (hi:(Cv.arc k w f t).inner x=false):(decide (vo k (if w then t else f) x (if w then f else t)<=0)&&(kd k f !=q&&kd k t !=q))=false:=by
 have j:(Cv.arc k w f t).on x=decide (vo k (if w then t else f) x (if w then f else t)<=0):=by
  rw[uz (bW.2 D.2)];cases w with
  |true=>exact yd h0 of A D
  |false=>exact xb of.1 A.1 D.1
 unfold Cv.inner at hi
 rw[j] at hi
 cases h:decide (vo k (if w then t else f) x (if w then f else t)<=0) with
 |false=>rfl
 |true=>
  rw[h,ii] at hi
  rw[ii]
  rcases Bool.and_eq_false_iff.1 hi with g|g
  .have:cP f x=0:=by simpa [Cv.p] using g
   rw[hq f of this,bne_self_eq_false,oG]
  .have:cP t x=0:=by simpa [Cv.q] using g
   rw[hq t A this,bne_self_eq_false,sE]
theorem WF {y:Pt}(j:OnK k y) (h:cP y (se k)=0):kd k y=2:=by have h1:=Cb hk h0 j;have A:=(jP.1 h).1;have D:=gw (cD (At hk h0)) (bJ j);grind
theorem YT {y:Pt}(j:OnK k y) (h:cP y (sv k)=0):kd k y=0:=by have h1:=Cj hk h0 j;have A:=(jP.1 h).1;have D:=gw (cD (Af hk h0)) (bJ j);grind
omit hk in
theorem HJ (op:OnK k p) (oq:OnK k q) (R:kd k p=kd k q) (D:cx p q=0):cP p q=0:=by
 refine jP.2 ⟨D,?_⟩;have J:=bJ op;have I:=bJ oq;rw[ng J I] at D;rw[F1 J I];have hY:bz ((pY p-Re.of k.y)-(pY q-Re.of k.y))=bz (pY p-pY q):=congrArg bz (fj fun n=>by simp only[bo];grind);rw[<-hY];have sp:=DC J k.y;have sq:=DC I k.y;generalize W:pY p-Re.of k.y=P at*;generalize hQ:pY q-Re.of k.y=Q at*;have e:(P-Q)*(P+Q)=(Ae k p-Ae k q)+ -((pX p-pX q)*((pX p-Re.of k.x)+(pX q-Re.of k.x))):=by rw[<-W,<-hQ];exact fj fun n=>by unfold Ae;simp only[bF,bo,bV,dy,cr];grind
 have h1:bz ((P-Q)*(P+Q))=0:=by rw[e,dE _ (by rw[fq,cU,D,nQ];rfl),show Ae k p-Ae k q=Ae k p+ -Ae k q from fj fun n=>by simp only[bF,bo,cr]<;>grind,dE _ (by rw[fq,zW oq];rfl),zW op]
 rw[cU] at h1;rcases sD.1 h1 with g|g;·exact g
 .have hs:bz P=bz Q:=by
   rw[<-sp,<-sq];rcases rO h0 op with⟨a,b,_⟩|⟨a,b⟩|⟨a,b,_⟩|⟨a,b⟩<;>rcases rO h0 oq with⟨j,A,_⟩|⟨j,A⟩|⟨j,A,_⟩|⟨j,A⟩<;>rw[a,j] at R<;>first|exact absurd R (by decide)|skip
   all_goals have b1:=il (p.a2-k.y) p.b2 (zc p.b2 p.c);have b2:=il (q.a2-k.y) q.b2 (zc q.b2 q.c);unfold mh at b A⊢;omega
  have e2:bz P= -bz Q:=by rw[show P=(P+Q)+ -Q from fj fun n=>by simp only[bF,cr]<;>grind,nO g,fq]
  have V:bz P=0:=by omega
  have e4:bz Q=0:=by omega
  rw[show P-Q=P+ -Q from fj fun n=>by simp only[bF,bo,cr]<;>grind,dE _ (by rw[fq,e4];rfl),V]
theorem PB (of:OnK k f) (j:OnK k t) (hm:(Cv.arc k w f t).mono=true):if w then(kd k t=0\/kd k t=1)/\(kd k f=1\/kd k f=2)/\cx f t= -1 else(kd k f=2\/kd k f=3)/\(kd k t=3\/kd k t=0)/\cx t f=1:=by
 have hm:(!decide (cP f t>=0)&&(!(Cv.arc k w f t).inner (se k)&& !(Cv.arc k w f t).inner (sv k)))=true:=hm
 have hlt:cP f t<0:=by grind
 have hL:(Cv.arc k w f t).inner (se k)=false:=by grind
 have W:(Cv.arc k w f t).inner (sv k)=false:=by grind
 have A:=Nb h0 of j (CK hk h0) 2 (fun y R h=>WF hk h0 R h) hL
 have D:=Nb h0 of j (CW hk h0) 0 (fun y R h=>YT hk h0 R h) W
 have ha:=gw (bJ of) (bJ j)
 have hx:cx f t<=0:=by
  by_cases h:cx f t<=0;·exact h
  .have:cP f t=cx f t:=Xg (by omega);omega
 cases w with
 |false=>
  simp only[Bool.false_eq_true,if_false] at A D⊢
  rw[vP,LD h0,Cb hk h0 of,Cb hk h0 j] at A
  rw[vP,KC h0,Cj hk h0 of,Cj hk h0 j] at D
  obtain⟨m,I⟩:=eo (dO t f)
  rw[I] at A D
  have J:=gh h0 j of
  rw[I] at J
  have V:(kd k f==kd k t&&i3 m==0)=false:=by
   rw[<-I];cases h:(kd k f==kd k t&&cx t f==0) with
   |false=>rfl
   |true=>rw[di] at h;have:=HJ h0 of j (beq_iff_eq.1 h.1) (by have:=beq_iff_eq.1 h.2;omega);omega
  rcases Ib (kd k f) (kd k t) m J V A D with⟨p,q,r⟩|⟨p,q,r⟩
  .grind
  grind
 |true=>
  simp only[if_true] at A D⊢
  rw[vP,LD h0,Cb hk h0 of,Cb hk h0 j] at A
  rw[vP,KC h0,Cj hk h0 of,Cj hk h0 j] at D
  obtain⟨m,I⟩:=eo (dO f t)
  rw[I] at A D
  have J:=gh h0 of j
  rw[I] at J
  have V:(kd k t==kd k f&&i3 m==0)=false:=by
   rw[<-I];cases h:(kd k t==kd k f&&cx f t==0) with
   |false=>rfl
   |true=>rw[di] at h;have:=HJ h0 of j (beq_iff_eq.1 h.1).symm (by have:=beq_iff_eq.1 h.2;omega);omega
  rw[Bool.and_comm (kd k f !=2)] at A
  rw[Bool.and_comm (kd k f !=0)] at D
  rcases Ib (kd k t) (kd k f) m J V A D with⟨p,q,r⟩|⟨p,q,r⟩
  .omega
  grind
end
inductive Slp where
 |vt
 |st (s:Int)
 |vl (a b c:Rat)
def CP:Slp->List CellD
 | .vt=>[.i .i64 2]++g9
 | .st s=>[.i .i64 s]++g9
 | .vl a b c=>[.i .i64 0]++(cR a++cR b++cR c)
def Slp.n:Slp->Int
 | .vt=>2
 | .st s=>s
 | .vl _ _ _=>0
def Slp.cl:Slp->List CellD
 | .vl a b c=>cR a++cR b++cR c
 |_=>g9
theorem TQ (s:Slp):s.cl.length=12:=by cases s<;>rfl
theorem IW (s:Slp):(CP s).length=13:=by cases s<;>rfl
theorem CJ (s:Slp):(CP s)[0]? =some (.i .i64 s.n):=by cases s<;>rfl
theorem QW (s:Slp):((CP s).drop 1).take 12=s.cl:=by cases s<;>rfl
section
variable (k:Ci) (p:Pt)
def DS:Rat:=PX (p.a2-k.y) p.b2 (zc p.b2 p.c)
def P3:Rat:= -(p.a1-k.x)*((p.a2-k.y)*DS k p)+ -p.b1*(-p.b2*DS k p)*p.c
def DB:Rat:= -(p.a1-k.x)*(-p.b2*DS k p)+ -p.b1*((p.a2-k.y)*DS k p)
end
def Cv.slp:Cv->Pt->Slp
 | .seg l _ _,_=>if l.b=0 then .vt else .vl (-l.a/l.b) 0 0
 | .arc k w _ _,p=>if mh p k.y=0 then .st (if w then 1 else-1) else .vl (P3 k p) (DB k p) (zc (DB k p) p.c)
def rk:Slp->Int->Int
 | .vt,s=>2*s
 | .st n,_=>n
 | .vl _ _ _,_=>0
def Cv.bnd:Cv->Int
 | .seg _ _ _=>0
 | .arc _ w _ _=>if w then-1 else 1
def Cv.qq:Cv->Rat
 | .seg _ _ _=>0
 | .arc k _ _ _=>k.q
def FD (c d:Cv):Int:=if c.bnd<d.bnd then-1 else if c.bnd>d.bnd then 1 else-c.bnd*aG c.qq d.qq
def Slp.vcmp:Slp->Slp->Int
 | .vl a b c,.vl x y z=>mY (a-x) b (-y) 0 c z
 |_,_=>0
def Kt (c d:Cv) (s t:Slp) (side:Int):Int:=
 if rk s side<rk t side then-1 else if rk s side>rk t side then 1 else
 match s with
 | .vt=>0
 | .st n=>n*aG c.qq d.qq
 | .vl _ _ _=>if s.vcmp t=0 then FD c d else side*s.vcmp t
def O9 (c d:Cv):Int:=if cP c.p d.p=0 then 0 else 1
def DK (c d:Cv):Int:=if cP c.p d.p=0 then Kt c d (c.slp c.p) (d.slp d.p) 1 else 0
def jc (c d:Cv):Int:=if cP c.p d.p≠0 then cP c.p d.p else if DK c d≠0 then DK c d else cP c.q d.q
theorem acx {x z:Rat}(I:0<=z) (D:y≠0->0<z):yV x y z=bz (fE x y z):=by
 have J: ∀ {w:Rat},0<w->aG w 0=1:=fun h=>by unfold aG;rw[if_neg (by grind),if_pos h]
 rw[<-io I];unfold yV b8 p7;by_cases j:y=0
 .subst j;rw[jI,if_pos (.inl rfl),nQ,if_pos (.inl rfl)]
 .have A:aG y 0≠0:=fun e=>j (fY.1 e);rw[J (D j),Int.mul_one];by_cases h1:aG y 0=0\/aG x 0=aG y 0;·grind
  .rw[if_neg h1,if_neg h1,pc]
theorem abJ {a b c:Rat}(h:b≠0->jy c=false) (h0:b=0->a≠0):a*a-b*b*c≠0:=by
 intro e;by_cases j:b=0;·grind
 .have h1:=h j;have A:c=(a/b)*(a/b):=by grind
  rw[A,Qc] at h1;grind
theorem acW (h:GP p):(p.b1≠0->0<p.c/\jy p.c=false)/\(p.b2≠0->0<p.c/\jy p.c=false):=by have j:=h.v;unfold xm at j;grind
theorem afk (h:GP p) (A:p.c=0):p.b1=0/\p.b2=0:=by
 obtain⟨h1,j⟩:=acW h;constructor;·grind
 grind
structure VSz (a b c:Rat):Prop where
 za:Rz 900 a
 zb:Rz 700 b
 zc:Rz 112 c
 c0:0<=c
section
variable {k:Ci}{p:Pt}(hk:GK k) (hp:GP p)
include hk hp
theorem abo:Rz 115 (p.a1-k.x)/\Rz 115 (p.a2-k.y):=⟨(hp.a1.sub hk.x).mono (by decide),(hp.a2.sub hk.y).mono (by decide)⟩
omit hk in
theorem UQ (h:mh p k.y≠0):(p.a2-k.y)*(p.a2-k.y)-p.b2*p.b2*zc p.b2 p.c≠0:=by
 refine abJ (fun g=>?_) (fun g e=>h ?_);·rw[j6 g];exact((acW hp).2 g).2
 .unfold mh b8 p7;rw[g,e,jI,nQ,if_pos (.inl rfl)]
omit hk in
theorem aaa:yV (p.a2-k.y) p.b2 (zc p.b2 p.c)=mh p k.y:=by unfold mh;rw[acx (lP (cD hp)) (fun g=>by rw[j6 g];exact((acW hp).2 g).1),io (lP (cD hp))]
theorem aay (h:mh p k.y≠0):Rz 352 (DS k p)/\VSz (P3 k p) (DB k p) (zc (DB k p) p.c):=by
 have J:=UQ hp h;have D:=lP (b:=DB k p) (cD hp);have I:Rz 112 (zc (DB k p) p.c):=gN hp.c (by decide);by_cases R:p.c=0
 .obtain⟨z1,z2⟩:=afk hp R;obtain⟨d1,A⟩:=abo hk hp;have j:Rz 231 (DS k p):=by
   unfold DS PX;rw[z2] at J⊢;have e:(p.a2-k.y)*(p.a2-k.y)-0*0*zc 0 p.c=(p.a2-k.y)*(p.a2-k.y):=by grind
   rw[e] at J⊢;exact(ny.div (A.mul A) J).mono (by decide)
  refine⟨j.mono (by decide),⟨?_,?_,I,D⟩⟩
  .have e:P3 k p= -(p.a1-k.x)*((p.a2-k.y)*DS k p):=by unfold P3;rw[z1];grind
   rw[e];exact(d1.neg.mul (A.mul j)).mono (by decide)
  .have e:DB k p=0:=by unfold DB;rw[z1,z2];grind
   rw[e];exact iH (by decide)
 .obtain⟨W,V⟩:=hp.ir R;have d1:Rz 54 (p.a1-k.x):=(W.sub hk.x).mono (by decide);have A:Rz 54 (p.a2-k.y):=(V.sub hk.y).mono (by decide);have j:Rz 264 (DS k p):=by exact(ny.div (((A.mul A).sub ((hp.b2.mul hp.b2).mul (gN hp.c (by decide)))).mono (by decide:_<=263)) J).mono (by decide)
  refine⟨j.mono (by decide),⟨?_,?_,I,D⟩⟩
  .unfold P3;exact((d1.neg.mul (A.mul j)).add ((hp.b1.neg.mul (hp.b2.neg.mul j)).mul hp.c)).mono (by decide)
  .unfold DB;exact((d1.neg.mul (hp.b2.neg.mul j)).add (hp.b1.neg.mul (A.mul j))).mono (by decide)
omit hk hp in
theorem ahR:zc (DB k p) (cc (-p.b1) (zc p.b1 p.c) (zc (-p.b2*DS k p) (zc p.b2 p.c)))=zc (DB k p) p.c:=by
 by_cases j:DB k p=0;·rw[D6 j,D6 j]
 .rw[j6 j,j6 j];by_cases h1:p.b1=0
  .rw[Bj (by rw[h1];rfl)];have A: -p.b2*DS k p≠0:=fun e=>j (by unfold DB;rw[e,h1];grind);have D:p.b2≠0:=by grind
   rw[j6 A,j6 D]
  .rw[sS (by grind),j6 h1]
omit hk hp in
theorem aiH: -(p.a1-k.x)*((p.a2-k.y)*DS k p)+ -p.b1*(-p.b2*DS k p)*cc (-p.b1) (zc p.b1 p.c) (zc (-p.b2*DS k p) (zc p.b2 p.c))=P3 k p:=by
 unfold P3;by_cases h1:p.b1=0;·grind
 .rw[sS (by grind),j6 h1]
omit hk in
omit hk in
omit hk in
omit hk hp in
theorem acT: ¬MT (-p.b1) (zc p.b1 p.c) (-p.b2*DS k p) (zc (-p.b2*DS k p) (zc p.b2 p.c)):=by
 rintro⟨h1,j,D⟩;have A:p.b1≠0:=by grind
 have I:p.b2≠0:=by grind
 rw[j6 A,j6 j,j6 I] at D;grind
omit hk in
omit hk in
end
theorem adX (hl:GL l) (h:l.b≠0):VSz (-l.a/l.b) 0 0:=⟨(hl.a.neg.div hl.b h).mono (by decide),iH (by decide),iH (by decide),Rat.le_refl⟩
theorem aaU (hl:GL l) (hp:GP p) (hq:GP q) (h1:gf l p=0) (I:gf l q=0) (J:cP p q≠0):cx p q=0↔l.b=0:=by
 have D:=cD hp;have A:=cD hq;rw[y9 hp] at h1;rw[y9 hq] at I;have e:Re.of l.a*(pX p-pX q)+Re.of l.b*(pY p-pY q)=Ef l p+ -Ef l q:=fj fun n=>by unfold Ef;simp only[bF,bo,bV,dy,cr];grind
 have j:bz (Re.of l.a*(pX p-pX q)+Re.of l.b*(pY p-pY q))=0:=by rw[e,dE _ (by rw[fq,I];rfl),h1]
 rw[ng D A];have R:bz (pX p-pX q)=0->bz (pY p-pY q)≠0:=fun h g=>J (jP.2 ⟨by rw[ng D A];exact h,by rw[F1 D A];exact g⟩);constructor
 .intro h;rw[nO (by rw[cU,h,uR]),cU,fZ] at j;rcases sD.1 j with g|g;·exact fY.1 g
  grind
 .intro h;have V:aG l.a 0≠0:=fun g=>hl.n (by unfold iI;rw[fY.1 g,h];grind);rw[h,dE _ (by rw[cU,fZ,jI,nQ]),cU,fZ] at j;rcases sD.1 j with g|g;·grind
  grind
theorem YY (j:c.good) (hp:GP p): ∀ {a b e},c.slp p=.vl a b e->VSz a b e:=by
 intro a b e h;cases c with
 |seg l f t=>
  have h:(if l.b=0 then Slp.vt else .vl (-l.a/l.b) 0 0)=.vl a b e:=h;by_cases g:l.b=0;·grind
  .rw[if_neg g] at h;cases h;exact adX j.1 g
 |arc k w f t=>
  have h:(if mh p k.y=0 then Slp.st (if w then 1 else-1) else .vl (P3 k p) (DB k p) (zc (DB k p) p.c))=.vl a b e:=h;by_cases g:mh p k.y=0;·grind
  .rw[if_neg g] at h;cases h;exact(aay j.1 hp g).2
theorem Lb {n:Int}:(Cv.seg l f t).slp p≠ .st n:=by intro h;have h:(if l.b=0 then Slp.vt else .vl (-l.a/l.b) 0 0)=.st n:=h;grind
theorem MR (b:Rat):b+0=b:=by grind
theorem Yg (b c:Rat):zc (b+0) (cc b (zc b c) 0)=zc b c:=by
 by_cases h:b=0;·rw[h,Bj rfl,D6 (by grind),D6 rfl]
 .rw[sS h,j6 (by grind),j6 h]
section
variable {c d:Cv}{s t:Slp}{side:Int}
theorem adu (h:decide (rk s side<rk t side)=true):Kt c d s t side= -1:=by unfold Kt;rw[if_pos (of_decide_eq_true h)]
theorem abY (h:decide (rk s side<rk t side)=false) (g:decide (rk s side>rk t side)=true):Kt c d s t side=1:=by unfold Kt;rw[if_neg (of_decide_eq_false h),if_pos (of_decide_eq_true g)]
theorem X8 (h:decide (c.bnd<d.bnd)=true):FD c d= -1:=by unfold FD;rw[if_pos (of_decide_eq_true h)]
theorem X9 (h:decide (c.bnd<d.bnd)=false) (g:decide (c.bnd>d.bnd)=true):FD c d=1:=by unfold FD;rw[if_neg (of_decide_eq_false h),if_pos (of_decide_eq_true g)]
theorem YN (h:decide (c.bnd<d.bnd)=false) (g:decide (c.bnd>d.bnd)=false):FD c d= -c.bnd*aG c.qq d.qq:=by unfold FD;rw[if_neg (of_decide_eq_false h),if_neg (of_decide_eq_false g)]
end
theorem Nv:(Cv.arc k w p q).bnd=1\/(Cv.arc k w p q).bnd= -1:=by
 show(if w=true then(-1:Int) else 1)=1\/(if w=true then(-1:Int) else 1)= -1;split;·grind
 grind
theorem aaG (h:(cP c.p d.p==0)=true) {s t:Slp}(hs:c.slp c.p=s) (j:d.slp d.p=t):DK c d=Kt c d s t 1/\O9 c d=0:=by unfold DK O9;rw[if_pos (by simpa using h),if_pos (by simpa using h),hs,j];exact⟨rfl,rfl⟩
theorem agK (h:(cP c.p d.p==0)=false):DK c d=0/\O9 c d=1:=by unfold DK O9;rw[if_neg (by simpa using h),if_neg (by simpa using h)];exact⟨rfl,rfl⟩
theorem RF (c:Cv): -1<=c.bnd/\c.bnd<=1:=by
 cases c with
 |seg l p q=>show(-1:Int)<=0/\(0:Int)<=1;decide
 |arc k w p q=>show-1<=(if w=true then(-1:Int) else 1)/\(if w=true then(-1:Int) else 1)<=1;split<;>decide
theorem adI: ∀n,c.slp p=.st n->n=1\/n= -1:=by
 intro n h;cases c with
 |seg l f t=>have h:(if l.b=0 then Slp.vt else .vl (-l.a/l.b) 0 0)=.st n:=h;grind
 |arc k w f t=>have h:(if mh p k.y=0 then Slp.st (if w then 1 else-1) else .vl (P3 k p) (DB k p) (zc (DB k p) p.c))=.st n:=h;grind
structure SlG (s:Slp):Prop where
 st: ∀n,s=.st n->n=1\/n= -1
 sz: ∀a b e,s=.vl a b e->VSz a b e
theorem aaL (j:c.good) (hp:GP p):SlG (c.slp p):=⟨adI,fun _ _ _ h=>YY j hp h⟩
theorem Mj: ∀n,c.slp p=.st n->c.isArc=true:=by
 intro n h;cases c with
 |seg l f t=>exact absurd h Lb
 |arc k w f t=>rfl
theorem aed (h:(!c.isArc)=true):c.bnd=0:=by
 cases c with
 |seg l f t=>rfl
 |arc k w f t=>cases h
theorem adR (h:(!c.isArc)=false) (g:c.cw=true):c.bnd= -1:=by
 cases c with
 |seg l f t=>cases h
 |arc k w f t=>exact if_pos g
theorem abt (h:(!c.isArc)=false) (g:c.cw=false):c.bnd=1:=by
 cases c with
 |seg l f t=>cases h
 |arc k w f t=>exact if_neg (by rw[show w=false from g];decide)
section
variable {c d:Cv}{s t:Slp}{side:Int}(gs:SlG s) (gt:SlG t)
include gs
theorem Q7 (h:s.n=0): ∃a b e,s=.vl a b e:=by
 cases s with
 |vt=>cases h
 |st n=>have:=gs.st n rfl;simp only[Slp.n] at h;omega
 |vl a b e=>exact⟨a,b,e,rfl⟩
theorem af8 (j: ¬s.n=2) (h:s.n≠0): ∃n,s=.st n:=by
 cases s with
 |vt=>exact absurd rfl j
 |st n=>exact⟨n,rfl⟩
 |vl a b e=>exact absurd rfl h
theorem ah9 (h:(s.n==2)=true):rk s side=2*side:=by
 cases s with
 |vt=>rfl
 |st n=>have:=gs.st n rfl;have h:n=2:=by simpa [Slp.n] using h
        omega
 |vl a b e=>simp[Slp.n] at h
theorem ah1 (h:(s.n==2)=false):rk s side=s.n:=by
 cases s with
 |vt=>exact absurd h (by decide)
 |st n=>rfl
 |vl a b e=>rfl
include gt
set_option linter.unusedSectionVars false
variable (hs:side=1\/side= -1) (q1:decide (rk s side<rk t side)=false) (q2:decide (rk s side>rk t side)=false)
include hs q1 q2
theorem X5 (h:(s.n==2)=true):Kt c d s t side=0:=by
 cases s with
 |vt=>unfold Kt;rw[if_neg (of_decide_eq_false q1),if_neg (of_decide_eq_false q2)]
 |st n=>have:=gs.st n rfl;have h:n=2:=by simpa [Slp.n] using h
        omega
 |vl a b e=>simp[Slp.n] at h
theorem VF (h:(s.n==2)=false) (g:(s.n !=0)=true):Kt c d s t side=s.n*aG c.qq d.qq/\(∃n,s=.st n)/\ ∃n,t=.st n:=by
 obtain⟨n,rfl⟩:=af8 gs (by simpa using h) (by simpa using g);have a1:=of_decide_eq_false q1;have a2:=of_decide_eq_false q2;have b1:=gs.st n rfl;refine⟨?_,⟨n,rfl⟩,?_⟩;·unfold Kt;rw[if_neg a1,if_neg a2];rfl
 .cases t with
  |vt=>simp only[rk] at a1 a2;omega
  |st m=>exact⟨m,rfl⟩
  |vl a b e=>simp only[rk] at a1 a2;omega
theorem We (h:(s.n==2)=false) (g:(s.n !=0)=false):(s.n=0/\t.n=0)/\Kt c d s t side=if s.vcmp t=0 then FD c d else side*s.vcmp t:=by
 have h0:s.n=0:=by grind
 obtain⟨a,b,e,rfl⟩:=Q7 gs h0;have a1:=of_decide_eq_false q1;have a2:=of_decide_eq_false q2;refine⟨⟨h0,?_⟩,?_⟩
 .cases t with
  |vt=>simp only[rk] at a1 a2;omega
  |st m=>have:=gt.st m rfl;simp only[rk] at a1 a2;omega
  |vl a b e=>rfl
 .unfold Kt;rw[if_neg a1,if_neg a2]
set_option linter.unusedSectionVars true
end
theorem X4 (s t:Slp): -1<=s.vcmp t/\s.vcmp t<=1:=by cases s<;>cases t<;>first|exact yP _ _ _ _ _ _|exact(by decide:(-1:Int)<=0/\(0:Int)<=1)
theorem adQ (h:(cP c.p d.p !=0)=true):jc c d=cP c.p d.p:=by unfold jc;rw[if_pos (by simpa using h)]
theorem Y0 (h:(cP c.p d.p !=0)=false) (g:(DK c d !=0)=true):jc c d=DK c d:=by unfold jc;rw[if_neg (by simpa using h),if_pos (by simpa using g)]
theorem XP (h:(cP c.p d.p !=0)=false) (g:(DK c d !=0)=false):jc c d=cP c.q d.q:=by unfold jc;rw[if_neg (by simpa using h),if_neg (by simpa using g)]
def Cv.fwd (c:Cv):Cv:=if decide (cP c.p c.q>0) then c.rev else c
def dx:Cv->List Pt
 | .seg _ _ _=>[]
 | .arc k w f t=>(if (Cv.arc k w f t).inner (se k) then[se k] else[])++(if (Cv.arc k w f t).inner (sv k) then[sv k] else[])
def Q9 (c:Cv):List Cv:=if c.isArc then um c (dx c) else[c]
theorem Ua (h:CvV c):CvV c.fwd:=by unfold Cv.fwd;split;exact h.rev;exact h
theorem M6 (h:decide (cP c.p c.q>0)=true):c.fwd=c.rev:=by unfold Cv.fwd;rw[h];rfl
theorem Oa (h:decide (cP c.p c.q>0)=false):c.fwd=c:=by unfold Cv.fwd;rw[h];rfl
theorem fw (h:CvV c): ∀p∈dx c,GP p/\c.on p=true:=by
 intro p hp;cases c with
 |seg l f t=>cases hp
 |arc k w f t=>
  have j: ∀ {x:Pt},(Cv.arc k w f t).inner x=true->(Cv.arc k w f t).on x=true:=fun h=>by unfold Cv.inner at h;rw[di] at h;exact h.1
  rcases lh.1 hp with hp|hp
  .split at hp;·rename_i e;cases gZ.1 hp;exact⟨At h.g.1 h.pos,j e⟩
   grind
  .split at hp;·rename_i e;cases gZ.1 hp;exact⟨Af h.g.1 h.pos,j e⟩
   grind
theorem Fd (c:Cv):(dx c).length<=2:=by
 cases c with
 |seg l f t=>exact iB _
 |arc k w f t=>show((if _ then[se k] else[])++(if _ then[sv k] else[])).length<=2;grind
theorem ab2 (h:CvV c): ∀d∈Q9 c,CvV d:=by
 intro d j;unfold Q9 at j;split at j;·exact Oe h (fun p hp=>(fw h p hp).1) (fun p hp=>oN (fw h p hp).2) d j
 grind
def vf (A up j:Bool) (D I m:Int):Int:=GU (Dh up A D) (Dh j A I) (Dh up j m)
def Vq (a b c:Int):Bool:=(!(decide (a<=0)&&decide (b<=0))||decide (c<=0))&&(!(decide (a<0)&&decide (b<=0))||decide (c<0))&&(!(decide (a<=0)&&decide (b<0))||decide (c<0))
theorem acF: ∀(A up I D:Bool) (i j l:Fin 3) (a:Fin 3),BI (i3 i) (i3 j) (i3 a)=true-> ∀b:Fin 3,BI (i3 j) (i3 l) (i3 b)=true-> ∀c:Fin 3,BI (i3 i) (i3 l) (i3 c)=true-> BI (i3 a) (-(i3 b)) (i3 c)=true->Vq (vf A up I (i3 i) (i3 j) (i3 a)) (vf A I D (i3 j) (i3 l) (i3 b)) (vf A up D (i3 i) (i3 l) (i3 c))=true:=by decide+kernel
theorem US: ∀(A up D:Bool) (i j a:Fin 3),BI (i3 i) (i3 j) (i3 a)=true->vf A D up (i3 j) (i3 i) (-(i3 a))= -vf A up D (i3 i) (i3 j) (i3 a):=by decide+kernel
theorem XH: ∀(I up D A:Bool) (i j l:Fin 3) (a:Fin 3),BI (i3 l) (i3 i) (i3 a)=true-> ∀b:Fin 3,BI (i3 j) (i3 i) (i3 b)=true-> ∀c:Fin 3,BI (i3 l) (i3 j) (i3 c)=true-> BI (i3 a) (i3 b) (i3 c)=true->vf I up D (i3 i) (i3 j) (-(i3 b))<0->vf up up A 0 (i3 a) (-(i3 a))<=0->vf up A D (i3 a) (i3 b) (i3 c)<=0->(A==up&&i3 a==0)=false->(A==D&&i3 c==0)=false-> vf I up A (i3 i) (i3 l) (-(i3 a))<0/\vf I A D (i3 l) (i3 j) (i3 c)<0:=by decide+kernel
theorem gn (k:Ci) (f p q:Pt):tG k f p q=vf (kv k f) (kv k p) (kv k q) (cx p f) (cx q f) (cx p q):=rfl
section
variable {k:Ci}{f p q r x:Pt}(hf:0<=f.c) (hp:0<=p.c) (hq:0<=q.c)
include hf hp hq
theorem Qu:tG k f q p= -tG k f p q:=by rw[gn,gn,gw hp hq];have h:=gO hf hp hq;obtain⟨i,hi⟩:=eo (dO p f);obtain⟨j,A⟩:=eo (dO q f);obtain⟨a,D⟩:=eo (dO p q);rw[hi,A,D] at h⊢;exact US _ _ _ i j a h
variable (hr:0<=r.c)
include hr
theorem ab6:Vq (tG k f p q) (tG k f q r) (tG k f p r)=true:=by rw[gn,gn,gn];have h1:=gO hf hp hq;have V:=gO hf hq hr;have W:=gO hf hp hr;have I:=gO hq hp hr;rw[gw hq hr] at I;obtain⟨i,hi⟩:=eo (dO p f);obtain⟨j,D⟩:=eo (dO q f);obtain⟨l,hl⟩:=eo (dO r f);obtain⟨a,J⟩:=eo (dO p q);obtain⟨b,A⟩:=eo (dO q r);obtain⟨c,R⟩:=eo (dO p r);rw[hi,D,J] at h1;rw[D,hl,A] at V;rw[hi,hl,R] at W;rw[J,A,R] at I;rw[hi,D,hl,J,A,R];exact acF _ _ _ _ i j l a h1 b V c W I
end
theorem YU: ∀(j A:Bool) (a:Fin 3),vf j j A 0 (i3 a) (-(i3 a))<=0:=by decide+kernel
theorem W2 (hf:0<=f.c) (j:0<=x.c):tG k f f x<=0:=by rw[gn,BA hf,gw j hf];obtain⟨a,A⟩:=eo (dO x f);rw[A];exact YU _ _ a
theorem QZ: ∀(D up A:Bool) (i j a:Fin 3),BI (i3 i) (i3 j) (i3 a)=true->vf D up A (i3 i) (i3 j) (i3 a)=0->(up==A&&i3 a==0)=true:=by decide+kernel
theorem yG (h0:0<k.q) (op:OnK k p) (oq:OnK k q) (h:(kv k p==kv k q&&cx p q==0)=true):cP p q=0:=by rw[di] at h;have A:=beq_iff_eq.1 h.1;have j:=beq_iff_eq.1 h.2;refine HJ h0 op oq ?_ j;have D:=gh h0 op oq;rw[jt,jt] at A;rw[j] at D;revert A D;generalize kd k p=a;generalize kd k q=b;revert a b;decide
theorem Sn (h0:0<k.q) (hf:0<=f.c) (op:OnK k p) (oq:OnK k q) (h:tG k f p q=0):cP p q=0:=by have h1:=gO hf (bJ op) (bJ oq);rw[gn] at h;obtain⟨i,hi⟩:=eo (dO p f);obtain⟨j,D⟩:=eo (dO q f);obtain⟨a,A⟩:=eo (dO p q);rw[hi,D,A] at h1 h;exact yG h0 op oq (by rw[A];exact QZ _ _ _ i j a h1 h)
theorem NM (h0:0<k.q) (of:OnK k f) (op:OnK k p) (oq:OnK k q) (ox:OnK k x) (h1:tG k f p q<0) (h2:tG k p p x<=0) (h3:tG k p x q<=0) (n1:cP x p≠0) (n2:cP x q≠0):tG k f p x<0/\tG k f x q<0:=by
 have cf:=bJ of
 have D:=bJ op
 have R:=bJ oq
 have A:=bJ ox
 have t1:=gO cf A D
 have t2:=gO cf R D
 have t3:=gO cf A R
 have t4:=gO D A R
 have e1:(kv k x==kv k p&&cx x p==0)=false:=by
  cases h:(kv k x==kv k p&&cx x p==0) with
  |false=>rfl
  |true=>exact absurd (yG h0 ox op h) n1
 have e2:(kv k x==kv k q&&cx x q==0)=false:=by
  cases h:(kv k x==kv k q&&cx x q==0) with
  |false=>rfl
  |true=>exact absurd (yG h0 ox oq h) n2
 rw[gn,gw R D] at h1
 rw[gn,BA D,gw A D] at h2
 rw[gn] at h3
 rw[gn,gn,gw A D]
 obtain⟨i,hi⟩:=eo (dO p f)
 obtain⟨j,W⟩:=eo (dO q f)
 obtain⟨l,hl⟩:=eo (dO x f)
 obtain⟨a,J⟩:=eo (dO x p)
 obtain⟨b,V⟩:=eo (dO q p)
 obtain⟨c,I⟩:=eo (dO x q)
 rw[hl,hi,J] at t1
 rw[W,hi,V] at t2
 rw[hl,W,I] at t3
 rw[J,V,I] at t4
 rw[hi,W,V] at h1
 rw[J] at h2 e1
 rw[J,V,I] at h3
 rw[I] at e2
 rw[hi,W,hl,J,I]
 exact XH _ _ _ _ i j l a t1 b t2 c t3 t4 h1 h2 h3 e1 e2
def Ci.by (k:Ci) (w:Bool):Ci:=if w then k.mir else k
def Pt.by (p:Pt) (w:Bool):Pt:=if w then p.flip else p
theorem OnK.by (w:Bool) (h:OnK k p):OnK (k.by w) (p.by w):=by
 cases w with
 |true=>exact h.flip
 |false=>exact h
theorem ac7 (w:Bool) (h:0<k.q):0<(k.by w).q:=by cases w<;>exact h
theorem J8 (w:Bool) (hp:0<=p.c) (hq:0<=q.c):cP (p.by w) (q.by w)=0↔cP p q=0:=by
 cases w with
 |false=>exact Iff.rfl
 |true=>show cP p.flip q.flip=0↔_;rw[jP,jP,mj hp hq];exact⟨fun h=>⟨by omega,h.2⟩,fun h=>⟨by omega,h.2⟩⟩
theorem mw (k:Ci) (w:Bool) (f t p q:Pt):(Cv.arc k w f t).ord p q=tG (k.by w) (f.by w) (p.by w) (q.by w):=by cases w<;>rfl
section
variable {k:Ci}{w:Bool}{f t:Pt}(h0:0<k.q) (of:OnK k f)
include of
variable {p q r:Pt}(op:OnK k p) (oq:OnK k q)
include op oq
theorem gU:(Cv.arc k w f t).ord q p= -(Cv.arc k w f t).ord p q:=by rw[mw,mw];exact Qu (bJ (of.by w)) (bJ (op.by w)) (bJ (oq.by w))
theorem sL (j:OnK k r):Vq ((Cv.arc k w f t).ord p q) ((Cv.arc k w f t).ord q r) ((Cv.arc k w f t).ord p r)=true:=by rw[mw,mw,mw];exact ab6 (bJ (of.by w)) (bJ (op.by w)) (bJ (oq.by w)) (bJ (j.by w))
include h0
theorem Kk (h:(Cv.arc k w f t).ord p q=0):cP p q=0:=by rw[mw] at h;exact(J8 w (bJ op) (bJ oq)).1 (Sn (ac7 w h0) (bJ (of.by w)) (op.by w) (oq.by w) h)
end
theorem qK (of:OnK k f) (op:OnK k p):(Cv.arc k w f t).ord f p<=0:=by rw[mw];exact W2 (bJ (of.by w)) (bJ (op.by w))
theorem T6 {c:Int}(h:Vq a b c=true) (h1:a<0) (j:b<=0):c<0:=by unfold Vq at h;grind
theorem Nh {c:Int}(h:Vq a b c=true) (h1:a<=0) (j:b<=0):c<=0:=by unfold Vq at h;grind
theorem Uu {c:Int}(h:Vq a b c=true) (h1:a<=0) (j:b<0):c<0:=by unfold Vq at h;grind
section
variable {k:Ci}{w:Bool}{f t:Pt}(h0:0<k.q) (of:OnK k f)
include h0 of
theorem JG {x:Pt}(A:OnK k x): ∀ {S:List Pt},(∀y∈S,OnK k y)->S.Pairwise (fun p q=>(Cv.arc k w f t).ord p q<0)->(iO (.arc k w f t) S x).Pairwise (fun p q=>(Cv.arc k w f t).ord p q<0)
 |[],_,_=>by rw[IR];exact List.pairwise_singleton _ _
 |o::l,hS,hp=>by
  have D:=hS o (by simp);have hl: ∀y∈l,OnK k y:=fun y j=>hS y (by simp[j]);obtain⟨h1,I⟩:=nI.1 hp;by_cases h:(Cv.arc k w f t).ord o x<0
  .rw[Bt h];refine nI.2 ⟨fun y j=>?_,JG A hl I⟩;rcases xH j with g|g;·exact h1 y g
   .rw[g];exact h
  .rw[BE h];split;·exact hp
   .rename_i J;have V:=gU (w:=w) (t:=t) of D A;have R:(Cv.arc k w f t).ord o x≠0:=fun e=>J (Kk h0 of D A e);refine nI.2 ⟨fun y j=>?_,hp⟩;rcases dt.1 j with g|g;·rw[g];omega
    .exact T6 (sL of A D (hl y g)) (by omega) (Int.le_of_lt (h1 y g))
omit h0 of in
theorem Jr {c:Cv}{x:Pt}(A:0<=x.c): ∀ {S:List Pt},(∀y∈S,y∈iO c S x)/\ ∃y∈iO c S x,cP y x=0
 |[]=>by rw[IR];exact⟨fun y I=>(by cases I),x,by simp,Bq A⟩
 |o::l=>by
  by_cases h:c.ord o x<0
  .rw[Bt h];obtain⟨h1,y,D,J⟩:=Jr A;refine⟨fun z j=>?_,y,fv _ D,J⟩;rcases dt.1 j with g|g;·rw[g];simp
   .exact fv _ (h1 z g)
  .rw[BE h];split;·rename_i e;exact⟨fun z j=>j,o,by simp,e⟩
   .exact⟨fun z j=>fv _ j,x,by simp,Bq A⟩
theorem Ki: ∀(L:List Pt) {S:List Pt},(∀y∈L,OnK k y)->(∀y∈S,OnK k y)->S.Pairwise (fun p q=>(Cv.arc k w f t).ord p q<0)-> (L.foldl (iO (.arc k w f t)) S).Pairwise (fun p q=>(Cv.arc k w f t).ord p q<0)/\(∀y∈S,y∈L.foldl (iO (.arc k w f t)) S)/\ ∀y∈L,∃z∈L.foldl (iO (.arc k w f t)) S,cP z y=0
 |[],S,_,_,hp=>⟨hp,fun y j=>j,fun y j=>by cases j⟩
 |x::L,S,hL,hS,hp=>by
  have I:=hL x (by simp);have D: ∀y∈iO (.arc k w f t) S x,OnK k y:=fun y j=>(xH j).elim (hS y) (fun e=>e▸I);obtain⟨h1,J,R⟩:=Ki L (fun y j=>hL y (by simp[j])) D (JG h0 of I hS hp);obtain⟨g1,y,V,W⟩:=Jr (bJ I);rw[re];refine⟨h1,fun z A=>J z (g1 z A),fun z A=>?_⟩;rcases dt.1 A with e|e;·rw[e];exact⟨y,J y V,W⟩
  .exact R z e
theorem Fx {L:List Pt}(A: ∀y∈L,OnK k y):(cj (.arc k w f t) L).Pairwise (fun p q=>(Cv.arc k w f t).ord p q<0)/\ ∀y∈L,∃z∈cj (.arc k w f t) L,cP z y=0:=by obtain⟨h1,_,D⟩:=Ki h0 of L A (fun y j=>by cases j) .nil;exact⟨h1,D⟩
end
theorem lK {c:Cv}: ∀ {S:List Pt}{d:Cv},d∈ia c S-> ∃A p q B,S=A++p::q::B/\d=c.ends p q
 |[],d,h=>by cases h
 |[x],d,h=>by cases h
 |x::y::l,d,h=>by
  have h:d∈c.ends x y::ia c (y::l):=h;rcases dt.1 h with h|h;·exact⟨[],x,y,l,rfl,h⟩
  .obtain⟨A,p,q,B,e,j⟩:=lK h;exact⟨x::A,p,q,B,by rw[e];rfl,j⟩
theorem El (h0:0<k.q) (op:OnK k p) (oq:OnK k q) (j:OnK k x):(Cv.arc k (!w) q p).inner x=(Cv.arc k w p q).inner x:=by
 have e:(Cv.arc k (!w) q p).on x=(Cv.arc k w p q).on x:=by
  rw[uz (bW.2 j.2),uz (bW.2 j.2)];cases w with
  |true=>exact (xb (k:=k) oq.1 op.1 j.1).trans (yd h0 op oq j).symm
  |false=>exact (yd h0 oq op j).trans (xb (k:=k) op.1 oq.1 j.1).symm
 show((Cv.arc k (!w) q p).on x&&(!(cP q x==0)&& !(cP p x==0)))=((Cv.arc k w p q).on x&&(!(cP p x==0)&& !(cP q x==0)));grind
theorem Pd (j:CvV c): ∀d∈Q9 c,d.fwd.mono=true:=by
 intro d J;have vd:=ab2 j d J;cases c with
 |seg l f t=>
  have J:d∈ [Cv.seg l f t]:=J;cases gZ.1 J;have hn:cP f t≠0:=j.ne;have ha:=ez (cD j.g.2.1) (cD j.g.2.2);unfold Cv.fwd;split
  .rename_i e;have e:cP f t>0:=of_decide_eq_true e;show(!decide (cP t f>=0))=true;rw[decide_eq_false (by omega)];rfl
  .rename_i e;have e: ¬cP f t>0:=fun g=>e (decide_eq_true g);show(!decide (cP f t>=0))=true;rw[decide_eq_false (by omega)];rfl
 |arc k w f t=>
  have h0:0<k.q:=j.pos;have hk:=j.g.1;have of:OnK k f:=⟨j.g.2.1,bW.1 j.sp⟩;have W:OnK k t:=⟨j.g.2.2,bW.1 j.sq⟩;have J:d∈ia (.arc k w f t) (cj (.arc k w f t) ([f,t]++dx (.arc k w f t))):=by unfold Q9 at J;rw[if_pos (show(Cv.arc k w f t).isArc=true from rfl)] at J;exact J
  have hL: ∀y∈ [f,t]++dx (.arc k w f t),OnK k y:=fun y R=>by
   rcases lh.1 R with h|h
   .simp only[dt,rD,or_false] at h;rcases h with h|h<;>rw[h]<;>assumption
   .exact⟨(fw j y h).1,bW.1 (oN (fw j y h).2)⟩
  have hT: ∀y∈ [f,t]++dx (.arc k w f t),(Cv.arc k w f t).ord y t<=0:=fun y R=>by
   rcases lh.1 R with h|h
   .simp only[dt,rD,or_false] at h;rcases h with h|h;·rw[h];exact qK of W
    .rw[h];have:=gU (w:=w) (t:=t) of W W;omega
   .have:=(fw j y h).2;unfold Cv.on at this;rw[di] at this;exact of_decide_eq_true this.2
  obtain⟨hs,a6⟩:=Fx h0 of hL;obtain⟨A,p,q,B,eS,rfl⟩:=lK J;have I: ∀y∈A++p::q::B,y∈ [f,t]++dx (.arc k w f t):=fun y R=>nk (by rw[eS];exact R);have op:OnK k p:=hL p (I p (by simp));have oq:OnK k q:=hL q (I q (by simp));rw[eS] at hs a6;obtain⟨hA,b3,b5⟩:=uX.1 hs;obtain⟨b4,a9⟩:=nI.1 b3;have hlt:(Cv.arc k w f t).ord p q<0:=b4 q (by simp);have b6:cP p q≠0:=HM j.g op.1 oq.1 hlt;have ha:=ez (bJ op) (bJ oq);have a5: ∀x,OnK k x->(x=se k\/x=sv k)->(Cv.arc k w p q).inner x=false:=fun x D hx=>by
   cases hi:(Cv.arc k w p q).inner x with
   |false=>rfl
   |true=>
    exfalso;unfold Cv.inner at hi;rw[di,di] at hi;obtain⟨i1,i2,i3⟩:=hi;have n1:cP p x≠0:=by simpa [Cv.p] using i2
    have n2:cP q x≠0:=by simpa [Cv.q] using i3
    unfold Cv.on at i1;rw[di,di] at i1;have b1:(Cv.arc k w p q).ord p x<=0:=of_decide_eq_true i1.1.2;have b2:(Cv.arc k w p q).ord x q<=0:=of_decide_eq_true i1.2;rw[mw] at b1 b2;have a3:=hlt;rw[mw] at a3;have a1:=ez (bJ op) (bJ D);have a2:=ez (bJ oq) (bJ D);obtain⟨r1,r2⟩:=NM (ac7 w h0) (of.by w) (op.by w) (oq.by w) (D.by w) a3 b1 b2 (fun e=>n1 (by have:=(J8 w (bJ D) (bJ op)).1 e;omega)) (fun e=>n2 (by have:=(J8 w (bJ D) (bJ oq)).1 e;omega));rw[<-mw] at r1 r2;have xt:(Cv.arc k w f t).ord x t<0:=T6 (sL of D oq W) r2 (hT q (I q (by simp)));have fx:(Cv.arc k w f t).ord f x<0:=Uu (sL of of op D) (qK of op) r1;have V:(Cv.arc k w f t).inner x=true:=by unfold Cv.inner;rw[uz (bW.2 D.2)];show(decide ((Cv.arc k w f t).ord f x<=0)&&decide ((Cv.arc k w f t).ord x t<=0)&&(!(cP f x==0)&& !(cP t x==0)))=true;have m1:cP f x≠0:=HM j.g of.1 D.1 fx;have m2:cP x t≠0:=HM j.g D.1 W.1 xt;have m3:=ez (bJ D) (bJ W);rw[decide_eq_true (Int.le_of_lt fx),decide_eq_true (Int.le_of_lt xt)];simp only[Bool.and_self,ii,di,uP,beq_eq_false_iff_ne,ne_eq];exact⟨m1,by omega⟩
    have a4:x∈dx (.arc k w f t):=by
     show x∈(if _ then[se k] else[])++(if _ then[sv k] else[]);rcases hx with e|e;·rw[<-e,V];simp
     .refine lh.2 (.inr ?_);rw[<-e,V];simp
    obtain⟨y,R,ey⟩:=a6 x (lh.2 (.inr a4));have oy:OnK k y:=hL y (I y R);have zy:(Cv.arc k w f t).ord y x=0:=DD (bJ oy) (bJ D) ey j.g;have ay:=gU (w:=w) (t:=t) of oy D;have b7:=gU (w:=w) (t:=t) of op D;have c3:=gU (w:=w) (t:=t) of D oq;rcases lh.1 R with g|g
    .have l1:(Cv.arc k w f t).ord y p<0:=b5 y g p (by simp);have:=Uu (sL of D oy op) (by omega) l1;omega
    .rcases dt.1 g with g|g
     .have:=gU (w:=w) (t:=t) of op op;rw[g] at zy;omega
     .rcases dt.1 g with g|g
      .rw[g] at zy;omega
      .have l1:(Cv.arc k w f t).ord q y<0:=(nI.1 a9).1 y g;have:=T6 (sL of oq oy D) l1 (by omega);omega
  have kL:=a5 _ (CK hk h0) (.inl rfl);have kR:=a5 _ (CW hk h0) (.inr rfl);unfold Cv.fwd;split
  .rename_i e;have e:cP p q>0:=of_decide_eq_true e;show(!decide (cP q p>=0)&&(!(Cv.arc k (!w) q p).inner (se k)&& !(Cv.arc k (!w) q p).inner (sv k)))=true;rw[El h0 op oq (CK hk h0),El h0 op oq (CW hk h0),kL,kR,decide_eq_false (by omega)];rfl
  .rename_i e;have e: ¬cP p q>0:=fun g=>e (decide_eq_true g);show(!decide (cP p q>=0)&&(!(Cv.arc k w p q).inner (se k)&& !(Cv.arc k w p q).inner (sv k)))=true;grind
def T3 (a b c:Int):Prop:=(a<=0->b<=0->c<=0)/\(a<0->b<=0->c<0)/\(a<=0->b<0->c<0)
theorem Y9 (x y z:Re):T3 (bz (x-y)) (bz (y-z)) (bz (x-z)):=by
 have e:x-z=(x-y)+(y-z):=fj fun n=>by simp only[bF,bo]<;>grind
 rw[e];generalize x-y=X;generalize y-z=Y;have h1:=dD X;have j:=dD Y;unfold T3;by_cases a:bz X=0;·rw[nO a];omega
 .by_cases b:bz Y=0;·rw[dE _ b];omega
  .by_cases c:bz X=bz Y;·rw[ml c];omega
   grind
theorem MW (x y:Rat):aG x y=bz (Re.of x-Re.of y):=by rw[<-pc,<-fZ];exact congrArg bz (fj fun n=>by simp only[bo,dy];grind)
section
variable {p q r:Pt}(hp:0<=p.c) (hq:0<=q.c) (hr:0<=r.c)
include hp hq hr
theorem aaO:T3 (cP p q) (cP q r) (cP p r):=by
 have h1:T3 (cx p q) (cx q r) (cx p r):=by rw[ng hp hq,ng hq hr,ng hp hr];exact Y9 _ _ _
 have j:T3 (cy p q) (cy q r) (cy p r):=by rw[F1 hp hq,F1 hq hr,F1 hp hr];exact Y9 _ _ _
 have e: ∀(a b:Pt),cP a b=if cx a b≠0 then cx a b else cy a b:=fun _ _=>rfl;unfold T3 at*;grind
end
theorem afc (y:Re) {x:Re}(h:bz x=0):bz (y*x)=0:=by rw[cU,h,uR]
theorem ahD {x:Rat}(h:bz (Re.of x-Re.of y)=0):x=y:=by
 rw[<-MW] at h;have:aG (x-y) 0=0:=by rw[pc];exact h
 have:=fY.1 this;grind
theorem Et {x:Rat}(h:ue x y=true):x=y:=by have:=beq_iff_eq.1 h;rw[MW] at this;exact ahD this
end Go.Proofs.YtegeknjkgadehaaGreat
