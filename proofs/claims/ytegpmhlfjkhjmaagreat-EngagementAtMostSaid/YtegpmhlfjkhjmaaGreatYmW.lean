/-EngagementArcs:the walk of the law. -/
import Derived.Test.YtegpmhlfjkhjmaaGreatYmV
import Derived.Laws.StructEq
namespace Go.Proofs.YtegpmhlfjkhjmaaGreat
open Go Go.RowKit
variable {d k:Ci}{c p x:Cv}{L:List Ci}{O Z o:List Cv}{N i j n:Nat}{e:Nat→Bool}{m:Nat→Pt}{f t:Pt}
section
variable {x y:Pt}(gx:GP x) (gy:GP y) (h:cP x y=0)
include gx gy h
theorem PX:mr k x=mr k y:=by
 rw[Aw gx,Aw gy]
 congr 1
 refine dV ?_
 have h1:=(eP.1 h).1
 rw[oc (cm gx) (cm gy)] at h1
 have h2:=(eP.1 h).2
 rw[si (cm gx) (cm gy)] at h2
 rw[show xw k x-xw k y=(pX x-pX y)*(pX x+pX y-Re.of k.x-Re.of k.x)+(pY x-pY y)*(pY x+pY y-Re.of k.y-Re.of k.y) from br fun n=>by unfold xw;simp only[aQ,aI,aR,bc];grind]
 rw[dT _ (by rw[bH,h2,qN]),bH,h1,qN]
theorem Ay (gf:GP f):fJ k x f=fJ k y f∧fJ k f x=fJ k f y:=by
 have a1:=wS (cm gx) (cm gy) h (cm gf)
 have a2:=Dh (cm gx) (cm gy) h k
 have a3:=ef (cm gx) (cm gf)
 have a4:=ef (cm gy) (cm gf)
 have a5:cx f x=cx f y:=by omega
 unfold fJ
 rw[a1,a2,a5]
 exact⟨rfl,rfl⟩
theorem Se (gf:GP f) (gt:GP t):(Cv.arc k false f t).on x=(Cv.arc k false f t).on y:=by
 show((mr k x==0)&&decide (sB k f f x≤0)&&decide (sB k f x t≤0))=((mr k y==0)&&decide (sB k f f y≤0)&&decide (sB k f y t≤0))
 unfold sB
 rw[PX gx gy h,(Ay gx gy h gf).1,(Ay gx gy h gf).2,(Ay gx gy h gt).1]
end
def fv (k:Ci) (L:List Ci) (c:Cv):List Pt:=L.flatMap fun d=>(bG k d).filter c.on
def Ch (k:Ci) (L:List Ci) (c:Cv):List Cv:=iU c (fv k L c)
def bW (k:Ci) (L:List Ci):List Cv:=(aw k).flatMap (Ch k L)
section
variable {k:Ci}{L:List Ci}(hk:RK k) (hL: ∀d∈L,RK d)
include hk hL
theorem wu: ∀p∈fv k L c,GP p∧c.on p=true:=fun p hp=>by
 obtain⟨d,hd,h⟩:=List.mem_flatMap.1 hp
 obtain⟨h1,h2⟩:=mx.1 h
 exact⟨lB hk.k (hL d hd).k p h1,h2⟩
theorem KZ: ∀p∈nt k L c,GP p∧c.on p=true:=fun p hp=>by
 obtain⟨h1,h2⟩:=mx.1 hp
 exact⟨Hr hk hL p h1,h2⟩
theorem I6 (gf:GP f) (gt:GP t):(∀x∈nt k L (.arc k false f t),∃y∈fv k L (.arc k false f t),cP x y=0)∧ ∀y∈fv k L (.arc k false f t),∃x∈nt k L (.arc k false f t),cP y x=0:=by
 refine⟨fun x hx=>?_,fun y hy=>?_⟩
 ·obtain⟨h1,h2⟩:=mx.1 hx
  obtain⟨d,hd,h3⟩:=List.mem_flatMap.1 h1
  obtain⟨y,hy,e⟩:=(Er hk (hL d hd)).1 x h3
  have gx:=B5 hk (hL d hd) x h3
  have gy:=lB hk.k (hL d hd).k y hy
  exact⟨y,List.mem_flatMap.2 ⟨d,hd,mx.2 ⟨hy,(Se gx gy e gf gt).symm.trans h2⟩⟩,e⟩
 ·obtain⟨d,hd,h3⟩:=List.mem_flatMap.1 hy
  obtain⟨h1,h2⟩:=mx.1 h3
  obtain⟨x,hx,e⟩:=(Er hk (hL d hd)).2 y h1
  have gx:=B5 hk (hL d hd) x hx
  have gy:=lB hk.k (hL d hd).k y h1
  exact⟨x,mx.2 ⟨List.mem_flatMap.2 ⟨d,hd,hx⟩,(Se gy gx e gf gt).symm.trans h2⟩,e⟩
theorem Fl:Sim k (bj k L) (bW k L):=by
 have h0:=hk.pos
 have gL:=sj hk.k h0
 have gR:=r8 hk.k h0
 have sL:=mi (cm gL)
 have sR:=mi (cm gR)
 obtain⟨sA1,sA2⟩:=I6 hk hL gL gR
 obtain⟨sB1,sB2⟩:=I6 hk hL gR gL
 obtain⟨T,T',hA,_⟩:=Ps hk.k h0 (VZ hk.k h0) (fun x hx=>by rcases hx with rfl|rfl;exact .inl sL;exact .inr sR) (KZ hk hL) (wu hk hL) sA1 sA2
 obtain⟨T2,T2',hB,_⟩:=Ps hk.k h0 (V5 hk.k h0) (fun x hx=>by rcases hx with rfl|rfl;exact .inr sL;exact .inl sR) (KZ hk hL) (wu hk hL) sB1 sB2
 have h:=Z4 hk.k h0 hA hB
 have e1:bj k L=tX (.arc k false (jT k) (jE k)) (mu (.arc k false (jT k) (jE k)) (nt k L (.arc k false (jT k) (jE k))))++tX (.arc k false (jE k) (jT k)) (mu (.arc k false (jE k) (jT k)) (nt k L (.arc k false (jE k) (jT k)))):=by
  show _++(_++[])=_
  rw[iZ];rfl
 have e2:bW k L=iU (.arc k false (jT k) (jE k)) (fv k L (.arc k false (jT k) (jE k)))++iU (.arc k false (jE k) (jT k)) (fv k L (.arc k false (jE k) (jT k))):=by
  show _++(_++[])=_
  rw[iZ];rfl
 rw[e1,e2]
 exact h
end
theorem SH (hk:RK k) (hL: ∀d∈L,RK d): ∃m:Nat→Pt,∀i,i<(bj k L).length→
 GB (m i)∧Ok Tryz.prog 43 [.a (aC ((bj k L).getD i aX))] [.a (aj (m i))]∧Ok Tryz.prog 56 [.a (aC ((bW k L).getD i aX))] [.a (aj (m i))]∧ ∃x,m i=xr ((bj k L).getD i aX).fwd x∧mO ((bj k L).getD i aX).fwd.p x<0∧0<mO ((bj k L).getD i aX).fwd.q x:=by
 have S:=Fl hk hL
 have key: ∀i,∃m:Pt,i<(bj k L).length→GB m∧Ok Tryz.prog 43 [.a (aC ((bj k L).getD i aX))] [.a (aj m)]∧Ok Tryz.prog 56 [.a (aC ((bW k L).getD i aX))] [.a (aj m)]∧ ∃x,m=xr ((bj k L).getD i aX).fwd x∧mO ((bj k L).getD i aX).fwd.p x<0∧0<mO ((bj k L).getD i aX).fwd.q x:=fun i=>by
  by_cases hi:i<(bj k L).length
  ·obtain⟨a,b,a',b',e1,e2,⟨oa,ob⟩,⟨oa',ob'⟩,z1,z2,ne,inn⟩:=S.at_ i hi
   have ee:=Gl (bk oa) (bk ob) (bk oa') (bk ob') z1 z2
   have vP:CvV (.arc k false a b):=⟨⟨hk.k,oa.1,ob.1⟩,hk.pos,b5.2 oa.2,b5.2 ob.2,ne⟩
   have vR:CvV (.arc k false a' b'):=⟨⟨hk.k,oa'.1,ob'.1⟩,hk.pos,b5.2 oa'.2,b5.2 ob'.2,fun q=>ne (ee.trans q)⟩
   obtain⟨m,h1,h2,h3,h4⟩:=Tp vP vR z1 z2 inn
   exact⟨m,fun _=>⟨h1,e1▸h2,e2▸h3,e1▸h4⟩⟩
  ·exact⟨dPt,fun h=>absurd h hi⟩
 exact Classical.axiomOfChoice key
def Lk (k:Ci) (L:List Ci) (m:Nat→Pt) (i:Nat):Bool:=qg L (m (i%(bj k L).length))
theorem Kc (h:i<(bj k L).length):Lk k L m i=qg L (m i):=by unfold Lk;rw[rl h]
theorem MX (h:0<(bj k L).length):Rnd (Lk k L m) (bj k L).length:=⟨h,fun x=>by unfold Lk;rw[Nat.add_mod_right]⟩
theorem ZT:(∀i,i<N→e i=true)∨ ∃s,s<N∧(∀i,i<s→e i=true)∧e s=false:=by
 induction N with
 |zero=>exact .inl fun i hi=>absurd hi (by omega)
 |succ n ih=>
  rcases ih with h|⟨s,h1,h2,h3⟩
  ·cases g:e n with
   |true=>exact .inl fun i hi=>(gO i n).elim (h i) fun q=>(show i=n by omega)▸g
   |false=>exact .inr ⟨n,by omega,h,g⟩
  ·exact .inr ⟨s,by omega,h2,h3⟩
theorem Mu (hk:RK k) (hL: ∀d∈L,RK d) (lL:L.length≤4) (hm: ∀i,i<(bj k L).length→GB (m i)∧Ok Tryz.prog 43 [.a (aC ((bj k L).getD i aX))] [.a (aj (m i))]):
 ((∀i,i<(bj k L).length→Lk k L m i=true)∧Ok Tryz.prog 9 [.a (aV k),.c (.s L.length (ao aV L))] [.c (.s 0 []),.c (.b true)])∨
 ∃s,s<(bj k L).length∧(∀i,i<s→Lk k L m i=true)∧Lk k L m s=false∧
  Ok Tryz.prog 9 [.a (aV k),.c (.s L.length (ao aV L))] [.c (.s (bp aX dh (m7 (bj k L) (Lk k L m) s (bj k L).length)).length (ao aC (bp aX dh (m7 (bj k L) (Lk k L m) s (bj k L).length)))),.c (.b false)]:=by
 have S:=Fl hk hL
 rcases ZT (e:=Lk k L m) (N:=(bj k L).length) with h|⟨s,h1,h2,h3⟩
 ·exact .inl ⟨h,Ub hk hk.pos hL lL hm (fun i hi=>Kc hi) h⟩
 ·have hr:=MX (k:=k) (L:=L) (m:=m) (by omega)
  have hv:=(G7 hk.k hk.pos S hr h1 h3).2.1
  exact .inr ⟨s,h1,h2,h3,TA hk hk.pos hL lL hm (fun i hi=>Kc hi) hr h1 h2 h3 fun x hx=>(hv x ((kU _).mem_iff.2 hx)).1⟩
section
variable {k:Ci}{L:List Ci}{c:Cv}{i j:Nat}
def dc (k:Ci) (L:List Ci) (c:Cv) (j i:Nat):List Pt:=fv k (L.take j) c++((bG k (L.getD j dK)).take i).filter c.on
theorem rU:dc k L c j 0=fv k (L.take j) c:=iZ _
theorem fM (h:j<L.length):dc k L c j (bG k (L.getD j dK)).length=fv k (L.take (j+1)) c:=by
 unfold dc fv
 rw[lI,jI (d:=dK) h]
theorem gM (g:i<(bG k (L.getD j dK)).length) (o:c.on ((bG k (L.getD j dK)).getD i dPt)=true):dc k L c j (i+1)=dc k L c j i++[(bG k (L.getD j dK)).getD i dPt]:=by
 unfold dc
 rw[oO g o,nk]
theorem jK (g:i<(bG k (L.getD j dK)).length) (o:c.on ((bG k (L.getD j dK)).getD i dPt)=false):dc k L c j (i+1)=dc k L c j i:=by
 unfold dc
 rw[we g o]
theorem qa:(bG k d).length≤2:=by
 unfold bG jd
 repeat' split
 all_goals simp
theorem uZ: ∀ {L:List Ci},(fv k L c).length≤2*L.length
 |[]=>cg _
 |d::L=>by
  have h:=uZ (L:=L)
  have h2:((bG k d).filter c.on).length≤2:=iO (tx _ _) qa
  unfold fv at h⊢
  rw[List.flatMap_cons,dt,ui]
  omega
theorem yM:(dc k L c j i).length≤2*j+2:=by
 have h1:=uZ (k:=k) (c:=c) (L:=L.take j)
 have h2:(((bG k (L.getD j dK)).take i).filter c.on).length≤2:=iO (tx _ _) (iO (List.length_take_le' _ _) qa)
 rw[dH] at h1
 unfold dc
 rw[dt]
 omega
end
def uV (k:Ci) (L:List Ci) (n:Nat):List Cv:=((aw k).take n).flatMap (Ch k L)
theorem Ck (lL:L.length≤4):(Ch k L c).length≤9:=by
 have h1:(Ch k L c).length≤(fv k L c).length+1:=JU
 have h2:=uZ (k:=k) (c:=c) (L:=L)
 omega
theorem Lg (lL:L.length≤4) (hn:n≤2):(uV k L n).length≤9*n:=by
 have hA:=Ck (k:=k) (c:=.arc k false (jT k) (jE k)) lL
 have hB:=Ck (k:=k) (c:=.arc k false (jE k) (jT k)) lL
 match n,hn with
 |0,_=>exact cg _
 |1,_=>
  show(Ch k L (.arc k false (jT k) (jE k))++[]).length≤9
  rw[iZ];exact hA
 |2,_=>
  show(Ch k L (.arc k false (jT k) (jE k))++(Ch k L (.arc k false (jE k) (jT k))++[])).length≤18
  rw[iZ,dt];omega
def Ny (e:Nat→Bool):Nat→Nat
 |0=>0
 |n+1=>if e n then Ny e n+1 else Ny e n
theorem L4 (h:e n=true):Ny e (n+1)=Ny e n+1:=if_pos h
theorem Qb (h:e n=false):Ny e (n+1)=Ny e n:=if_neg (by rw[h];decide)
theorem JX {e:Nat→Bool}: ∀ {n:Nat},Ny e n≤n
 |0=>cg _
 |n+1=>by
  have:=JX (e:=e) (n:=n)
  cases h:e n with
  |true=>rw[L4 h];omega
  |false=>rw[Qb h];omega
theorem Mf {e:Nat→Bool}: ∀ {n:Nat},Ny e n=n→ ∀i,i<n→e i=true
 |0,_,i,hi=>absurd hi (by omega)
 |n+1,h,i,hi=>by
  have hl:=JX (e:=e) (n:=n)
  cases g:e n with
  |false=>rw[Qb g] at h;omega
  |true=>
   rw[L4 g] at h
   by_cases q:i=n
   ·rw[q];exact g
   ·exact Mf (n:=n) (by omega) i (by omega)
theorem O3 {e:Nat→Bool}: ∀ {n:Nat},(∀i,i<n→e i=true)→Ny e n=n
 |0,_=>rfl
 |n+1,h=>by rw[L4 (h n (by omega)),O3 fun i hi=>h i (by omega)]
section
variable {R:List Cv}{e:Nat→Bool}{n:Nat}
theorem WV (h:e n=true) (g:e (n+R.length-1)=false):jk R e (n+1)=ua (jk R e n) (jV R e n):=by
 unfold jk
 rw[List.range_succ,vu,oZ,List.foldl_append]
 simp[h,g]
theorem xz (h:(e n&& !e (n+R.length-1))=false):jk R e (n+1)=jk R e n:=by
 unfold jk
 rw[List.range_succ,vu,List.filter_cons_of_neg (by simpa using h),List.filter_nil,iZ]
theorem Vw:(jk R e n).length≤n:=by
 unfold jk
 rw[(qh _ _).length_eq,nE,oN]
 exact iO (tx _ _) (by simp)
theorem Tq (h:x∈jk R e n): ∃i,i<n∧e i=true∧e (i+R.length-1)=false∧x=jV R e i:=by
 unfold jk at h
 have h1:=(qh _ _).mem_iff.1 h
 rw[nE] at h1
 obtain⟨i,hi,rfl⟩:=nB.1 h1
 obtain⟨h2,h3⟩:=mx.1 hi
 rw[dL,qu] at h3
 exact⟨i,lZ.1 h2,h3.1,h3.2,rfl⟩
theorem WX {s:Nat}(hr:Rnd e N) (hn:n<N) (hs:s<N) (h: ∀j,j<N→e (n+1+j)=true):e s=true:=by
 by_cases hq:n+1≤s
 ·have:=h (s-(n+1)) (by omega)
  rwa [show n+1+(s-(n+1))=s from by omega] at this
 ·have:=h (s+N-(n+1)) (by omega)
  rwa [show n+1+(s+N-(n+1))=s+N from by omega,hr.per] at this
theorem TS (h:n<N):(nO e N (n+1)++[])[n*1]? =some (CellD.b (e n)):=by
 rw[iZ,vM]
 unfold nO
 rw[sM,List.getElem?_range h]
 simp
theorem Zq {rs:List CellD}(h:j<O.length):((ao aC O++rs).drop (j*66+26)).take 20=aj (O.getD j aX).p:=by
 rw[←x7,←mY (O.getD j aX),←acr (rs:=rs) h,List.drop_take,List.take_take]
 rfl
theorem Em (h:vH p o=j):ao aC (o.take j)++(aC p++ao aC (o.drop j))=ao aC (ua o p):=by
 unfold ua
 rw[h,dB];rfl
theorem W9 (h:n<R.length):uI R n n=R.getD n aX:=by
 unfold uI
 rw[rl h,Mx]
theorem HH:(uI R n (n+j)).ends (uI R n (n+j)).p (R.getD ((n+(j+1))%R.length) aX).q=uI R n (n+(j+1)):=by
 unfold uI
 rw[Ia]
end
theorem WL (hk:RK k) (h0:0<k.q) (hL: ∀d∈L,RK d) (lL:L.length≤4) (hm: ∀i,i<(bW k L).length→GB (m i)∧Ok Tryz.prog 56 [.a (aC ((bW k L).getD i aX))] [.a (aj (m i))]) (he: ∀i,i<(bW k L).length→e i=qg L (m i)) {u:Bool}(hZ:(u=true∧Z=[]∧ ∀i,i<(bW k L).length→e i=true)∨u=false∧Z=jk (bW k L) e (bW k L).length∧Rnd e (bW k L).length∧(∃s,s<(bW k L).length∧e s=false)∧ ∀i,i<(bW k L).length→e i=true→e (i+(bW k L).length-1)=false→CvV (jV (bW k L) e i)):Ok Tryz.prog 12 [.a (aV k),.c (.s L.length (ao aV L))] [.c (.s ((Z).length) (ao aC (Z))),.c (.b u)]:=by
 have hF:=PG hk.k h0
 have ex1:Ch k L ((aw k).getD 0 aX)=uV k L 1:=(iZ _).symm
 refine eo Tryz.func12 188 [.tmp 4,.tmp 5] rfl<|aa<|ag<|aa<|bm<|aU (eg rfl) ?_
 refine bt<|aa<|ag ?_
 refine ac rfl (Yt hk.k)<|aa<|aa<|ag<|aE ?_
 refine DC (ι:={x9:Nat×Nat×List CellD // 1≤x9.1∧x9.1≤2∧(uV k L x9.1).length≤x9.2.1∧x9.2.1≤maxLen∧x9.2.2.length=(x9.2.1-(uV k L x9.1).length)*66}) (fun i=>⟨188,[(1,.v (.c (.s L.length (ao aV L)))),(2,.p 2 0),(7,.v (.c (.s (((aw k)).length) (ao aC ((aw k)))))),(6,.o 81 ((uV k L i.1.1).length) i.1.2.1),(8,.v (.c (.i .i64 (i.1.1:Int))))],[(2,40,aV k),(81,49,ao aC (uV k L i.1.1)++i.1.2.2)]⟩) (fun i=>2-i.1.1) (3) ?_ ?_
 ·refine aa<|aa<|ag ?_
  refine aJ rfl (fun hc1=>?_) (fun hc1=>?_)
  ·have g0:0<(aw k).length:=by show 0<2;omega
   have g9:0<2:=g0
   have vc:CvV ((aw k).getD 0 aX):=hF _ (bd g0)
   have hE:=Ck (k:=k) (c:=((aw k).getD 0 aX)) lL
   have hE0:0<(Ch k L ((aw k).getD 0 aX)).length:=CQ vc.ne
   refine aA<|aa<|aE<|aa<|bm<|aU (eg rfl) ?_
   refine bt ?_
   refine m8 (ι:=Unit) (fun i=>⟨188,[(1,.v (.c (.s L.length (ao aV L)))),(2,.p 2 0),(7,.v (.c (.s (((aw k)).length) (ao aC ((aw k)))))),(6,.z),(8,.v (.c (.i .i64 0))),(9,.v (.c (.s (((fv k L ((aw k).getD 0 aX))).length) (ao aj ((fv k L ((aw k).getD 0 aX)))))))],[(2,40,aV k)]⟩) ?_ ?_
   ·refine aa<|ag<|aE ?_
    refine bn (ι:=Sum ({j:Nat // j≤L.length∧(fv k (L.take j) ((aw k).getD 0 aX))=[]}) ({x9:Nat×Nat×List CellD // x9.1≤L.length∧(fv k (L.take x9.1) ((aw k).getD 0 aX)).length≤x9.2.1∧x9.2.1≤maxLen∧x9.2.2.length=(x9.2.1-(fv k (L.take x9.1) ((aw k).getD 0 aX)).length)*20})) (fun i=>match i with| .inl i=>⟨188,[(1,.v (.c (.s L.length (ao aV L)))),(2,.p 2 0),(7,.v (.c (.s (((aw k)).length) (ao aC ((aw k)))))),(6,.z),(8,.v (.c (.i .i64 0))),(10,.v (.c (.i .i64 (i.1:Int)))),(9,.z)],[(2,40,aV k)]⟩| .inr i=>⟨188,[(1,.v (.c (.s L.length (ao aV L)))),(2,.p 2 0),(7,.v (.c (.s (((aw k)).length) (ao aC ((aw k)))))),(6,.z),(8,.v (.c (.i .i64 0))),(10,.v (.c (.i .i64 (i.1.1:Int)))),(9,.o 69 ((fv k (L.take i.1.1) ((aw k).getD 0 aX)).length) i.1.2.1)],[(2,40,aV k),(69,47,ao aj (fv k (L.take i.1.1) ((aw k).getD 0 aX))++i.1.2.2)]⟩) (fun i=>match i with| .inl i=>L.length-i.1| .inr i=>L.length-i.1.1) (.inl ⟨0,eF _,rfl⟩) (ap ⟨rfl,rfl,rfl,rfl,rfl,rfl,rfl,trivial⟩ ⟨rfl,trivial⟩ rfl) ?_
    rintro(⟨j,j2,j3⟩|⟨⟨j,c8,rt⟩,j2,j3,j4,j5⟩)
    ·replace j2:j≤L.length:=j2
     replace j3:(fv k (L.take j) ((aw k).getD 0 aX))=[]:=j3
     dsimp only
     refine aa<|aa<|ag ?_
     refine aJ rfl (fun hc2=>?_) (fun hc2=>?_)
     ·have g1:j<L.length:=by have:=of_decide_eq_true hc2;omega
      have hd:=hL _ (bd (d:=dK) g1)
      have hc2:=qa (k:=k) (d:=L.getD j dK)
      have vc0:((aw k).getD 0 aX).good:=(hF _ (bd (show 0<2 from by decide))).g
      refine aA<|aa<|aE<|aa<|dC 11 [] ?_
      refine aq (fl dK dU g1 D3 rfl) ?_
      refine aq (ck (us:=aV (L.getD j dK)) qK rfl (rA _ _) (dU _) rfl) ?_
      refine aK rfl (M6 hk.k hd.k)<|aa<|ag<|aE ?_
      refine bn (ι:=Sum ({i:Nat // i≤(bG k (L.getD j dK)).length∧(dc k L ((aw k).getD 0 aX) j i)=[]}) ({x9:Nat×Nat×List CellD // x9.1≤(bG k (L.getD j dK)).length∧(dc k L ((aw k).getD 0 aX) j x9.1).length≤x9.2.1∧x9.2.1≤maxLen∧x9.2.2.length=(x9.2.1-(dc k L ((aw k).getD 0 aX) j x9.1).length)*20})) (fun i=>match i with| .inl i=>⟨188,[(1,.v (.c (.s L.length (ao aV L)))),(2,.p 2 0),(7,.v (.c (.s (((aw k)).length) (ao aC ((aw k)))))),(6,.z),(8,.v (.c (.i .i64 0))),(10,.v (.c (.i .i64 (j:Int)))),(11,.v (.c (.s (((bG k (L.getD j dK))).length) (ao aj ((bG k (L.getD j dK))))))),(13,.v (.c (.i .i64 (i.1:Int)))),(9,.z)],[(2,40,aV k)]⟩| .inr i=>⟨188,[(1,.v (.c (.s L.length (ao aV L)))),(2,.p 2 0),(7,.v (.c (.s (((aw k)).length) (ao aC ((aw k)))))),(6,.z),(8,.v (.c (.i .i64 0))),(10,.v (.c (.i .i64 (j:Int)))),(11,.v (.c (.s (((bG k (L.getD j dK))).length) (ao aj ((bG k (L.getD j dK))))))),(13,.v (.c (.i .i64 (i.1.1:Int)))),(9,.o 69 ((dc k L ((aw k).getD 0 aX) j i.1.1).length) i.1.2.1)],[(2,40,aV k),(69,47,ao aj (dc k L ((aw k).getD 0 aX) j i.1.1)++i.1.2.2)]⟩) (fun i=>match i with| .inl i=>(bG k (L.getD j dK)).length-i.1| .inr i=>(bG k (L.getD j dK)).length-i.1.1) (.inl ⟨0,eF _,rU.trans j3⟩) (ap ⟨rfl,rfl,rfl,rfl,rfl,rfl,rfl,rfl,rfl,trivial⟩ ⟨rfl,trivial⟩ rfl) ?_
      rintro(⟨i,k2,k3⟩|⟨⟨i,c7,ru⟩,k2,k3,k4,k5⟩)
      ·replace k2:i≤(bG k (L.getD j dK)).length:=k2
       replace k3:(dc k L ((aw k).getD 0 aX) j i)=[]:=k3
       dsimp only
       refine aa<|aa<|ag ?_
       refine aJ rfl (fun hc3=>?_) (fun hc3=>?_)
       ·have g3:i<(bG k (L.getD j dK)).length:=by have:=of_decide_eq_true hc3;omega
        have hx:=lB hk.k hd.k _ (bd (d:=dPt) g3)
        refine aA<|aa<|aE<|aa<|dC 9 []<|aq (fl aX ai g0 gP rfl)<|aq (iK ai bO rfl)<|aq (fl dPt ak g3 cE rfl)<|aq (iK ak bq rfl)<|aK rfl (DN vc0 hx) ?_
        refine aJ rfl (fun hc4=>?_) (fun hc4=>?_)
        ·have g4:((aw k).getD 0 aX).on ((bG k (L.getD j dK)).getD i dPt)=true:=hc4
         refine ag<|ar (fl dPt ak g3 cE rfl)<|ar (iK ak bq rfl)<|ar (bV (n:=1) (us:=aj ((((bG k (L.getD j dK)).getD i dPt)))) du rfl rfl rfl (by decide) (by decide) rfl) ?_
         refine DL.mk<|lq (ys:=aj ((((bG k (L.getD j dK)).getD i dPt)))) du rfl rfl rfl (by decide) (by decide) (by decide) rfl rfl (fun cg5 rg5 hga5 hgb5 hgc5=>dZ ?_)
         refine ag<|ar (ca (by omega) rfl) ?_
         exact⟨.inr ⟨⟨i+1,cg5,rg5⟩,g3,by show(dc k L ((aw k).getD 0 aX) j (i+1)).length≤cg5;rw[gM g3 g4,k3];exact hga5,hgb5,by show rg5.length=(cg5-(dc k L ((aw k).getD 0 aX) j (i+1)).length)*20;rw[gM g3 g4,k3];exact hgc5⟩,ap ⟨rfl,rfl,rfl,rfl,rfl,rfl,rfl,rfl,congrArg (fun q=>some (DV.o 69 q cg5)) (show _=(dc k L ((aw k).getD 0 aX) j (i+1)).length from by rw[gM g3 g4,k3];rfl),trivial⟩ ⟨rfl,congrArg (fun q=>some (47,q++rg5)) (show _=ao aj (dc k L ((aw k).getD 0 aX) j (i+1)) from by rw[gM g3 g4,k3,nE,dW]),trivial⟩ rfl,by show(bG k (L.getD j dK)).length-(i+1)<(bG k (L.getD j dK)).length-i;omega⟩
        ·have g4:((aw k).getD 0 aX).on ((bG k (L.getD j dK)).getD i dPt)=false:=hc4
         refine aA<|ag<|ar (ca (by omega) rfl) ?_
         exact⟨.inl ⟨i+1,g3,(jK g3 g4).trans k3⟩,ap ⟨rfl,rfl,rfl,rfl,rfl,rfl,rfl,rfl,rfl,trivial⟩ ⟨rfl,trivial⟩ rfl,by show(bG k (L.getD j dK)).length-(i+1)<(bG k (L.getD j dK)).length-i;omega⟩
       ·have hi:i=(bG k (L.getD j dK)).length:=by have:=of_decide_eq_false hc3;omega
        refine bi<|ag<|ar (ca (by omega) rfl) ?_
        exact⟨.inl ⟨j+1,g1,(show(dc k L ((aw k).getD 0 aX) j i)=(fv k (L.take (j+1)) ((aw k).getD 0 aX)) from by rw[←fM g1,←hi]).symm.trans k3⟩,ap ⟨rfl,rfl,rfl,rfl,rfl,rfl,rfl,trivial⟩ ⟨rfl,trivial⟩ rfl,by show L.length-(j+1)<L.length-j;omega⟩
      ·dsimp only at k2 k3 k4 k5
       have k6:(dc k L ((aw k).getD 0 aX) j i).length≤2*j+2:=yM
       dsimp only
       refine aa<|aa<|ag ?_
       refine aJ rfl (fun hc6=>?_) (fun hc6=>?_)
       ·have g3:i<(bG k (L.getD j dK)).length:=by have:=of_decide_eq_true hc6;omega
        have hx:=lB hk.k hd.k _ (bd (d:=dPt) g3)
        refine aA<|aa<|aE<|aa<|dC 9 []<|aq (fl aX ai g0 gP rfl)<|aq (iK ai bO rfl)<|aq (fl dPt ak g3 cE rfl)<|aq (iK ak bq rfl)<|aK rfl (DN vc0 hx) ?_
        refine aJ rfl (fun hc7=>?_) (fun hc7=>?_)
        ·have g4:((aw k).getD 0 aX).on ((bG k (L.getD j dK)).getD i dPt)=true:=hc7
         refine ag<|ar (fl dPt ak g3 cE rfl)<|ar (iK ak bq rfl)<|ar (bV (n:=1) (us:=aj ((((bG k (L.getD j dK)).getD i dPt)))) du rfl rfl rfl (by decide) (by decide) rfl) ?_
         refine DL.mk<|mh (us:=ao aj (dc k L ((aw k).getD 0 aX) j i)) (rest:=ru) (ys:=aj ((((bG k (L.getD j dK)).getD i dPt)))) du rfl rfl rfl (by first|exact am ak _|exact am ai _|exact dN) (by assumption) rfl (by decide) (by omega) (by assumption) (by omega) (iQ (by omega)) (.inl rfl) rfl (fun cg8 rg8 hga8 hgb8 hgc8=>dZ ?_)
         refine ag<|ar (ca (by omega) rfl) ?_
         exact⟨.inr ⟨⟨i+1,cg8,rg8⟩,g3,by show(dc k L ((aw k).getD 0 aX) j (i+1)).length≤cg8;rw[gM g3 g4,dt];exact hga8,hgb8,by show rg8.length=(cg8-(dc k L ((aw k).getD 0 aX) j (i+1)).length)*20;rw[gM g3 g4,dt];exact hgc8⟩,ap ⟨rfl,rfl,rfl,rfl,rfl,rfl,rfl,rfl,congrArg (fun q=>some (DV.o 69 q cg8)) (show _=(dc k L ((aw k).getD 0 aX) j (i+1)).length from by rw[gM g3 g4,dt];rfl),trivial⟩ ⟨rfl,congrArg (fun q=>some (47,q++rg8)) (show _=ao aj (dc k L ((aw k).getD 0 aX) j (i+1)) from by rw[gM g3 g4,dB,dW]),trivial⟩ rfl,by show(bG k (L.getD j dK)).length-(i+1)<(bG k (L.getD j dK)).length-i;omega⟩
        ·have g4:((aw k).getD 0 aX).on ((bG k (L.getD j dK)).getD i dPt)=false:=hc7
         refine aA<|ag<|ar (ca (by omega) rfl) ?_
         exact⟨.inr ⟨⟨i+1,c7,ru⟩,g3,by show(dc k L ((aw k).getD 0 aX) j (i+1)).length≤c7;rw[jK g3 g4];exact k3,k4,by show ru.length=(c7-(dc k L ((aw k).getD 0 aX) j (i+1)).length)*20;rw[jK g3 g4];exact k5⟩,ap ⟨rfl,rfl,rfl,rfl,rfl,rfl,rfl,rfl,congrArg (fun q=>some (DV.o 69 (List.length q) c7)) ((jK g3 g4).symm),trivial⟩ ⟨rfl,congrArg (fun q=>some (47,ao aj q++ru)) ((jK g3 g4).symm),trivial⟩ rfl,by show(bG k (L.getD j dK)).length-(i+1)<(bG k (L.getD j dK)).length-i;omega⟩
       ·have hi:i=(bG k (L.getD j dK)).length:=by have:=of_decide_eq_false hc6;omega
        refine bi<|ag<|ar (ca (by omega) rfl) ?_
        exact⟨.inr ⟨⟨j+1,c7,ru⟩,g1,by show(fv k (L.take (j+1)) ((aw k).getD 0 aX)).length≤c7;rw[←(show(dc k L ((aw k).getD 0 aX) j i)=(fv k (L.take (j+1)) ((aw k).getD 0 aX)) from by rw[←fM g1,←hi])];exact k3,k4,by show ru.length=(c7-(fv k (L.take (j+1)) ((aw k).getD 0 aX)).length)*20;rw[←(show(dc k L ((aw k).getD 0 aX) j i)=(fv k (L.take (j+1)) ((aw k).getD 0 aX)) from by rw[←fM g1,←hi])];exact k5⟩,ap ⟨rfl,rfl,rfl,rfl,rfl,rfl,congrArg (fun q=>some (DV.o 69 (List.length q) c7)) ((show(dc k L ((aw k).getD 0 aX) j i)=(fv k (L.take (j+1)) ((aw k).getD 0 aX)) from by rw[←fM g1,←hi])),trivial⟩ ⟨rfl,congrArg (fun q=>some (47,ao aj q++ru)) ((show(dc k L ((aw k).getD 0 aX) j i)=(fv k (L.take (j+1)) ((aw k).getD 0 aX)) from by rw[←fM g1,←hi])),trivial⟩ rfl,by show L.length-(j+1)<L.length-j;omega⟩
     ·have hj:j=L.length:=by have:=of_decide_eq_false hc2;omega
      refine vg (t:=9) rfl<|bi ?_
      exact⟨(),ap ⟨rfl,rfl,rfl,rfl,rfl,congrArg (fun q:List Pt=>some (DV.v (.c (.s q.length (ao aj q))))) (j3.symm.trans (by rw[hj,lI])),trivial⟩ ⟨rfl,trivial⟩ rfl⟩
    ·dsimp only at j2 j3 j4 j5
     dsimp only
     refine aa<|aa<|ag ?_
     refine aJ rfl (fun hc9=>?_) (fun hc9=>?_)
     ·have g1:j<L.length:=by have:=of_decide_eq_true hc9;omega
      have hd:=hL _ (bd (d:=dK) g1)
      have hc2:=qa (k:=k) (d:=L.getD j dK)
      have vc0:((aw k).getD 0 aX).good:=(hF _ (bd (show 0<2 from by decide))).g
      refine aA<|aa<|aE<|aa<|dC 11 [] ?_
      refine aq (fl dK dU g1 D3 rfl) ?_
      refine aq (ck (us:=aV (L.getD j dK)) qK rfl (rA _ _) (dU _) rfl) ?_
      refine aK rfl (M6 hk.k hd.k)<|aa<|ag<|aE<|bn (ι:={x9:Nat×Nat×List CellD // x9.1≤(bG k (L.getD j dK)).length∧(dc k L ((aw k).getD 0 aX) j x9.1).length≤x9.2.1∧x9.2.1≤maxLen∧x9.2.2.length=(x9.2.1-(dc k L ((aw k).getD 0 aX) j x9.1).length)*20}) (fun i=>⟨188,[(1,.v (.c (.s L.length (ao aV L)))),(2,.p 2 0),(7,.v (.c (.s (((aw k)).length) (ao aC ((aw k)))))),(6,.z),(8,.v (.c (.i .i64 0))),(10,.v (.c (.i .i64 (j:Int)))),(11,.v (.c (.s (((bG k (L.getD j dK))).length) (ao aj ((bG k (L.getD j dK))))))),(13,.v (.c (.i .i64 (i.1.1:Int)))),(9,.o 69 ((dc k L ((aw k).getD 0 aX) j i.1.1).length) i.1.2.1)],[(2,40,aV k),(69,47,ao aj (dc k L ((aw k).getD 0 aX) j i.1.1)++i.1.2.2)]⟩) (fun i=>(bG k (L.getD j dK)).length-i.1.1) ⟨⟨0,c8,rt⟩,eF _,by show(dc k L ((aw k).getD 0 aX) j 0).length≤c8;rw[rU];exact j3,j4,by show rt.length=(c8-(dc k L ((aw k).getD 0 aX) j 0).length)*20;rw[rU];exact j5⟩ (ap ⟨rfl,rfl,rfl,rfl,rfl,rfl,rfl,rfl,congrArg (fun q=>some (DV.o 69 (List.length q) c8)) (rU.symm),trivial⟩ ⟨rfl,congrArg (fun q=>some (47,ao aj q++rt)) (rU.symm),trivial⟩ rfl) ?_
      rintro⟨⟨i,c7,ru⟩,k2,k3,k4,k5⟩
      dsimp only at k2 k3 k4 k5
      have k6:(dc k L ((aw k).getD 0 aX) j i).length≤2*j+2:=yM
      dsimp only
      refine aa<|aa<|ag ?_
      refine aJ rfl (fun hc10=>?_) (fun hc10=>?_)
      ·have g3:i<(bG k (L.getD j dK)).length:=by have:=of_decide_eq_true hc10;omega
       have hx:=lB hk.k hd.k _ (bd (d:=dPt) g3)
       refine aA<|aa<|aE<|aa<|dC 9 []<|aq (fl aX ai g0 gP rfl)<|aq (iK ai bO rfl)<|aq (fl dPt ak g3 cE rfl)<|aq (iK ak bq rfl)<|aK rfl (DN vc0 hx) ?_
       refine aJ rfl (fun hc11=>?_) (fun hc11=>?_)
       ·have g4:((aw k).getD 0 aX).on ((bG k (L.getD j dK)).getD i dPt)=true:=hc11
        refine ag<|ar (fl dPt ak g3 cE rfl)<|ar (iK ak bq rfl)<|ar (bV (n:=1) (us:=aj ((((bG k (L.getD j dK)).getD i dPt)))) du rfl rfl rfl (by decide) (by decide) rfl) ?_
        refine DL.mk<|mh (us:=ao aj (dc k L ((aw k).getD 0 aX) j i)) (rest:=ru) (ys:=aj ((((bG k (L.getD j dK)).getD i dPt)))) du rfl rfl rfl (by first|exact am ak _|exact am ai _|exact dN) (by assumption) rfl (by decide) (by omega) (by assumption) (by omega) (iQ (by omega)) (.inl rfl) rfl (fun cg12 rg12 hga12 hgb12 hgc12=>dZ ?_)
        refine ag<|ar (ca (by omega) rfl) ?_
        exact⟨⟨⟨i+1,cg12,rg12⟩,g3,by show(dc k L ((aw k).getD 0 aX) j (i+1)).length≤cg12;rw[gM g3 g4,dt];exact hga12,hgb12,by show rg12.length=(cg12-(dc k L ((aw k).getD 0 aX) j (i+1)).length)*20;rw[gM g3 g4,dt];exact hgc12⟩,ap ⟨rfl,rfl,rfl,rfl,rfl,rfl,rfl,rfl,congrArg (fun q=>some (DV.o 69 q cg12)) (show _=(dc k L ((aw k).getD 0 aX) j (i+1)).length from by rw[gM g3 g4,dt];rfl),trivial⟩ ⟨rfl,congrArg (fun q=>some (47,q++rg12)) (show _=ao aj (dc k L ((aw k).getD 0 aX) j (i+1)) from by rw[gM g3 g4,dB,dW]),trivial⟩ rfl,by show(bG k (L.getD j dK)).length-(i+1)<(bG k (L.getD j dK)).length-i;omega⟩
       ·have g4:((aw k).getD 0 aX).on ((bG k (L.getD j dK)).getD i dPt)=false:=hc11
        refine aA<|ag<|ar (ca (by omega) rfl) ?_
        exact⟨⟨⟨i+1,c7,ru⟩,g3,by show(dc k L ((aw k).getD 0 aX) j (i+1)).length≤c7;rw[jK g3 g4];exact k3,k4,by show ru.length=(c7-(dc k L ((aw k).getD 0 aX) j (i+1)).length)*20;rw[jK g3 g4];exact k5⟩,ap ⟨rfl,rfl,rfl,rfl,rfl,rfl,rfl,rfl,congrArg (fun q=>some (DV.o 69 (List.length q) c7)) ((jK g3 g4).symm),trivial⟩ ⟨rfl,congrArg (fun q=>some (47,ao aj q++ru)) ((jK g3 g4).symm),trivial⟩ rfl,by show(bG k (L.getD j dK)).length-(i+1)<(bG k (L.getD j dK)).length-i;omega⟩
      ·have hi:i=(bG k (L.getD j dK)).length:=by have:=of_decide_eq_false hc10;omega
       refine bi<|ag<|ar (ca (by omega) rfl) ?_
       exact⟨.inr ⟨⟨j+1,c7,ru⟩,g1,by show(fv k (L.take (j+1)) ((aw k).getD 0 aX)).length≤c7;rw[←(show(dc k L ((aw k).getD 0 aX) j i)=(fv k (L.take (j+1)) ((aw k).getD 0 aX)) from by rw[←fM g1,←hi])];exact k3,k4,by show ru.length=(c7-(fv k (L.take (j+1)) ((aw k).getD 0 aX)).length)*20;rw[←(show(dc k L ((aw k).getD 0 aX) j i)=(fv k (L.take (j+1)) ((aw k).getD 0 aX)) from by rw[←fM g1,←hi])];exact k5⟩,ap ⟨rfl,rfl,rfl,rfl,rfl,rfl,congrArg (fun q=>some (DV.o 69 (List.length q) c7)) ((show(dc k L ((aw k).getD 0 aX) j i)=(fv k (L.take (j+1)) ((aw k).getD 0 aX)) from by rw[←fM g1,←hi])),trivial⟩ ⟨rfl,congrArg (fun q=>some (47,ao aj q++ru)) ((show(dc k L ((aw k).getD 0 aX) j i)=(fv k (L.take (j+1)) ((aw k).getD 0 aX)) from by rw[←fM g1,←hi])),trivial⟩ rfl,by show L.length-(j+1)<L.length-j;omega⟩
     ·have hj:j=L.length:=by have:=of_decide_eq_false hc9;omega
      refine cB (t:=9) (m:=20) (us:=ao aj (fv k (L.take j) ((aw k).getD 0 aX))) rfl rfl (jw (n:=(fv k (L.take j) ((aw k).getD 0 aX)).length) (by first|exact am ak _|exact am ai _|exact dN) (by first|assumption|simp) (by omega)) (by omega) (by assumption) (gn (by first|exact am ak _|exact am ai _|exact dN)) ?_
      refine bi ?_
      exact⟨(),ap ⟨rfl,rfl,rfl,rfl,rfl,congrArg (fun q:List Pt=>some (DV.v (.c (.s q.length (ao aj q))))) (by rw[hj,lI]),trivial⟩ ⟨rfl,trivial⟩ rfl⟩
   ·rintro⟨⟩
    try dsimp only
    refine aa<|ag<|ar (fl aX ai g0 gP rfl)<|ar (iK ai bO rfl)<|ac rfl ((show Ok _ _ _ [.c (.s (Ch k L ((aw k).getD 0 aX)).length (ao aC (Ch k L ((aw k).getD 0 aX)))),_] from Ib vc.g (fun q hq=>(wu hk hL q hq).1) (iO uZ (by omega)) (fun q hq=>(wu hk hL q hq).2) (AW vc.ne)))<|ag ?_
    refine DL.mk<|wC (q:=(Ch k L ((aw k).getD 0 aX)).length) (ys:=ao aC ((Ch k L ((aw k).getD 0 aX)))) (zs':=ao aC (Ch k L ((aw k).getD 0 aX))) lp rfl rfl (am ai _) (hE0) (by omega) (iQ (by omega)) rfl (rfl) rfl (fun cg13 rg13 hga13 hgb13 hgc13=>dZ ?_)
    refine ag<|ar (ju (r:=1) rfl rfl rfl rfl) ?_
    exact⟨⟨⟨1,cg13,rg13⟩,cg _,by show 1≤2;omega,by show(uV k L 1).length≤cg13;rw[←ex1];exact hga13,hgb13,by show rg13.length=(cg13-(uV k L 1).length)*66;rw[←ex1];exact hgc13⟩,ap ⟨rfl,rfl,rfl,congrArg (fun q=>some (DV.o 81 (List.length q) cg13)) ex1,rfl,trivial⟩ ⟨rfl,congrArg (fun q=>some (49,ao aC q++rg13)) ex1,trivial⟩ rfl,by show 2-1<3;omega⟩
  ·exact absurd hc1 (by show ¬decide ((0:Int)<((2:Nat):Int))=false;decide)
 ·rintro⟨⟨n,c9,rs⟩,h1,h2,h3,h4,h5⟩
  dsimp only at h1 h2 h3 h4 h5
  have h6:(uV k L n).length≤9*n:=Lg lL h2
  dsimp only
  refine aa<|aa<|ag ?_
  refine aJ rfl (fun hc14=>?_) (fun hc14=>?_)
  ·have g0:n<(aw k).length:=by have h8:(n:Int)<((2:Nat):Int):=of_decide_eq_true hc14;show n<2;omega
   have g9:n<2:=g0
   have vc:CvV ((aw k).getD n aX):=hF _ (bd g0)
   have hE:=Ck (k:=k) (c:=((aw k).getD n aX)) lL
   have hE0:0<(Ch k L ((aw k).getD n aX)).length:=CQ vc.ne
   refine aA<|aa<|aE<|aa<|bm<|aU (eg rfl) ?_
   refine bt ?_
   refine m8 (ι:=Unit) (fun i=>⟨188,[(1,.v (.c (.s L.length (ao aV L)))),(2,.p 2 0),(7,.v (.c (.s (((aw k)).length) (ao aC ((aw k)))))),(6,.o 81 ((uV k L n).length) c9),(8,.v (.c (.i .i64 (n:Int)))),(9,.v (.c (.s (((fv k L ((aw k).getD n aX))).length) (ao aj ((fv k L ((aw k).getD n aX)))))))],[(2,40,aV k),(81,49,ao aC (uV k L n)++rs)]⟩) ?_ ?_
   ·refine aa<|ag<|aE ?_
    refine bn (ι:=Sum ({j:Nat // j≤L.length∧(fv k (L.take j) ((aw k).getD n aX))=[]}) ({x9:Nat×Nat×List CellD // x9.1≤L.length∧(fv k (L.take x9.1) ((aw k).getD n aX)).length≤x9.2.1∧x9.2.1≤maxLen∧x9.2.2.length=(x9.2.1-(fv k (L.take x9.1) ((aw k).getD n aX)).length)*20})) (fun i=>match i with| .inl i=>⟨188,[(1,.v (.c (.s L.length (ao aV L)))),(2,.p 2 0),(7,.v (.c (.s (((aw k)).length) (ao aC ((aw k)))))),(6,.o 81 ((uV k L n).length) c9),(8,.v (.c (.i .i64 (n:Int)))),(10,.v (.c (.i .i64 (i.1:Int)))),(9,.z)],[(2,40,aV k),(81,49,ao aC (uV k L n)++rs)]⟩| .inr i=>⟨188,[(1,.v (.c (.s L.length (ao aV L)))),(2,.p 2 0),(7,.v (.c (.s (((aw k)).length) (ao aC ((aw k)))))),(6,.o 81 ((uV k L n).length) c9),(8,.v (.c (.i .i64 (n:Int)))),(10,.v (.c (.i .i64 (i.1.1:Int)))),(9,.o 69 ((fv k (L.take i.1.1) ((aw k).getD n aX)).length) i.1.2.1)],[(2,40,aV k),(81,49,ao aC (uV k L n)++rs),(69,47,ao aj (fv k (L.take i.1.1) ((aw k).getD n aX))++i.1.2.2)]⟩) (fun i=>match i with| .inl i=>L.length-i.1| .inr i=>L.length-i.1.1) (.inl ⟨0,eF _,rfl⟩) (ap ⟨rfl,rfl,rfl,rfl,rfl,rfl,rfl,trivial⟩ ⟨rfl,rfl,trivial⟩ rfl) ?_
    rintro(⟨j,j2,j3⟩|⟨⟨j,c8,rt⟩,j2,j3,j4,j5⟩)
    ·replace j2:j≤L.length:=j2
     replace j3:(fv k (L.take j) ((aw k).getD n aX))=[]:=j3
     dsimp only
     refine aa<|aa<|ag ?_
     refine aJ rfl (fun hc15=>?_) (fun hc15=>?_)
     ·have g1:j<L.length:=by have:=of_decide_eq_true hc15;omega
      have hd:=hL _ (bd (d:=dK) g1)
      have hc2:=qa (k:=k) (d:=L.getD j dK)
      have vc0:((aw k).getD n aX).good:=(hF _ (bd (show n<2 from g9))).g
      refine aA<|aa<|aE<|aa<|dC 11 [] ?_
      refine aq (fl dK dU g1 D3 rfl) ?_
      refine aq (ck (us:=aV (L.getD j dK)) qK rfl (rA _ _) (dU _) rfl) ?_
      refine aK rfl (M6 hk.k hd.k)<|aa<|ag<|aE ?_
      refine bn (ι:=Sum ({i:Nat // i≤(bG k (L.getD j dK)).length∧(dc k L ((aw k).getD n aX) j i)=[]}) ({x9:Nat×Nat×List CellD // x9.1≤(bG k (L.getD j dK)).length∧(dc k L ((aw k).getD n aX) j x9.1).length≤x9.2.1∧x9.2.1≤maxLen∧x9.2.2.length=(x9.2.1-(dc k L ((aw k).getD n aX) j x9.1).length)*20})) (fun i=>match i with| .inl i=>⟨188,[(1,.v (.c (.s L.length (ao aV L)))),(2,.p 2 0),(7,.v (.c (.s (((aw k)).length) (ao aC ((aw k)))))),(6,.o 81 ((uV k L n).length) c9),(8,.v (.c (.i .i64 (n:Int)))),(10,.v (.c (.i .i64 (j:Int)))),(11,.v (.c (.s (((bG k (L.getD j dK))).length) (ao aj ((bG k (L.getD j dK))))))),(13,.v (.c (.i .i64 (i.1:Int)))),(9,.z)],[(2,40,aV k),(81,49,ao aC (uV k L n)++rs)]⟩| .inr i=>⟨188,[(1,.v (.c (.s L.length (ao aV L)))),(2,.p 2 0),(7,.v (.c (.s (((aw k)).length) (ao aC ((aw k)))))),(6,.o 81 ((uV k L n).length) c9),(8,.v (.c (.i .i64 (n:Int)))),(10,.v (.c (.i .i64 (j:Int)))),(11,.v (.c (.s (((bG k (L.getD j dK))).length) (ao aj ((bG k (L.getD j dK))))))),(13,.v (.c (.i .i64 (i.1.1:Int)))),(9,.o 69 ((dc k L ((aw k).getD n aX) j i.1.1).length) i.1.2.1)],[(2,40,aV k),(81,49,ao aC (uV k L n)++rs),(69,47,ao aj (dc k L ((aw k).getD n aX) j i.1.1)++i.1.2.2)]⟩) (fun i=>match i with| .inl i=>(bG k (L.getD j dK)).length-i.1| .inr i=>(bG k (L.getD j dK)).length-i.1.1) (.inl ⟨0,eF _,rU.trans j3⟩) (ap ⟨rfl,rfl,rfl,rfl,rfl,rfl,rfl,rfl,rfl,trivial⟩ ⟨rfl,rfl,trivial⟩ rfl) ?_
      rintro(⟨i,k2,k3⟩|⟨⟨i,c7,ru⟩,k2,k3,k4,k5⟩)
      ·replace k2:i≤(bG k (L.getD j dK)).length:=k2
       replace k3:(dc k L ((aw k).getD n aX) j i)=[]:=k3
       dsimp only
       refine aa<|aa<|ag ?_
       refine aJ rfl (fun hc16=>?_) (fun hc16=>?_)
       ·have g3:i<(bG k (L.getD j dK)).length:=by have:=of_decide_eq_true hc16;omega
        have hx:=lB hk.k hd.k _ (bd (d:=dPt) g3)
        refine aA<|aa<|aE<|aa<|dC 9 []<|aq (fl aX ai g0 gP rfl)<|aq (iK ai bO rfl)<|aq (fl dPt ak g3 cE rfl)<|aq (iK ak bq rfl)<|aK rfl (DN vc0 hx) ?_
        refine aJ rfl (fun hc17=>?_) (fun hc17=>?_)
        ·have g4:((aw k).getD n aX).on ((bG k (L.getD j dK)).getD i dPt)=true:=hc17
         refine ag<|ar (fl dPt ak g3 cE rfl)<|ar (iK ak bq rfl)<|ar (bV (n:=1) (us:=aj ((((bG k (L.getD j dK)).getD i dPt)))) du rfl rfl rfl (by decide) (by decide) rfl) ?_
         refine DL.mk<|lq (ys:=aj ((((bG k (L.getD j dK)).getD i dPt)))) du rfl rfl rfl (by decide) (by decide) (by decide) rfl rfl (fun cg18 rg18 hga18 hgb18 hgc18=>dZ ?_)
         refine ag<|ar (ca (by omega) rfl) ?_
         exact⟨.inr ⟨⟨i+1,cg18,rg18⟩,g3,by show(dc k L ((aw k).getD n aX) j (i+1)).length≤cg18;rw[gM g3 g4,k3];exact hga18,hgb18,by show rg18.length=(cg18-(dc k L ((aw k).getD n aX) j (i+1)).length)*20;rw[gM g3 g4,k3];exact hgc18⟩,ap ⟨rfl,rfl,rfl,rfl,rfl,rfl,rfl,rfl,congrArg (fun q=>some (DV.o 69 q cg18)) (show _=(dc k L ((aw k).getD n aX) j (i+1)).length from by rw[gM g3 g4,k3];rfl),trivial⟩ ⟨rfl,rfl,congrArg (fun q=>some (47,q++rg18)) (show _=ao aj (dc k L ((aw k).getD n aX) j (i+1)) from by rw[gM g3 g4,k3,nE,dW]),trivial⟩ rfl,by show(bG k (L.getD j dK)).length-(i+1)<(bG k (L.getD j dK)).length-i;omega⟩
        ·have g4:((aw k).getD n aX).on ((bG k (L.getD j dK)).getD i dPt)=false:=hc17
         refine aA<|ag<|ar (ca (by omega) rfl) ?_
         exact⟨.inl ⟨i+1,g3,(jK g3 g4).trans k3⟩,ap ⟨rfl,rfl,rfl,rfl,rfl,rfl,rfl,rfl,rfl,trivial⟩ ⟨rfl,rfl,trivial⟩ rfl,by show(bG k (L.getD j dK)).length-(i+1)<(bG k (L.getD j dK)).length-i;omega⟩
       ·have hi:i=(bG k (L.getD j dK)).length:=by have:=of_decide_eq_false hc16;omega
        refine bi<|ag<|ar (ca (by omega) rfl) ?_
        exact⟨.inl ⟨j+1,g1,(show(dc k L ((aw k).getD n aX) j i)=(fv k (L.take (j+1)) ((aw k).getD n aX)) from by rw[←fM g1,←hi]).symm.trans k3⟩,ap ⟨rfl,rfl,rfl,rfl,rfl,rfl,rfl,trivial⟩ ⟨rfl,rfl,trivial⟩ rfl,by show L.length-(j+1)<L.length-j;omega⟩
      ·dsimp only at k2 k3 k4 k5
       have k6:(dc k L ((aw k).getD n aX) j i).length≤2*j+2:=yM
       dsimp only
       refine aa<|aa<|ag ?_
       refine aJ rfl (fun hc19=>?_) (fun hc19=>?_)
       ·have g3:i<(bG k (L.getD j dK)).length:=by have:=of_decide_eq_true hc19;omega
        have hx:=lB hk.k hd.k _ (bd (d:=dPt) g3)
        refine aA<|aa<|aE<|aa<|dC 9 []<|aq (fl aX ai g0 gP rfl)<|aq (iK ai bO rfl)<|aq (fl dPt ak g3 cE rfl)<|aq (iK ak bq rfl)<|aK rfl (DN vc0 hx) ?_
        refine aJ rfl (fun hc20=>?_) (fun hc20=>?_)
        ·have g4:((aw k).getD n aX).on ((bG k (L.getD j dK)).getD i dPt)=true:=hc20
         refine ag<|ar (fl dPt ak g3 cE rfl)<|ar (iK ak bq rfl)<|ar (bV (n:=1) (us:=aj ((((bG k (L.getD j dK)).getD i dPt)))) du rfl rfl rfl (by decide) (by decide) rfl) ?_
         refine DL.mk<|mh (us:=ao aj (dc k L ((aw k).getD n aX) j i)) (rest:=ru) (ys:=aj ((((bG k (L.getD j dK)).getD i dPt)))) du rfl rfl rfl (by first|exact am ak _|exact am ai _|exact dN) (by assumption) rfl (by decide) (by omega) (by assumption) (by omega) (iQ (by omega)) (.inl rfl) rfl (fun cg21 rg21 hga21 hgb21 hgc21=>dZ ?_)
         refine ag<|ar (ca (by omega) rfl) ?_
         exact⟨.inr ⟨⟨i+1,cg21,rg21⟩,g3,by show(dc k L ((aw k).getD n aX) j (i+1)).length≤cg21;rw[gM g3 g4,dt];exact hga21,hgb21,by show rg21.length=(cg21-(dc k L ((aw k).getD n aX) j (i+1)).length)*20;rw[gM g3 g4,dt];exact hgc21⟩,ap ⟨rfl,rfl,rfl,rfl,rfl,rfl,rfl,rfl,congrArg (fun q=>some (DV.o 69 q cg21)) (show _=(dc k L ((aw k).getD n aX) j (i+1)).length from by rw[gM g3 g4,dt];rfl),trivial⟩ ⟨rfl,rfl,congrArg (fun q=>some (47,q++rg21)) (show _=ao aj (dc k L ((aw k).getD n aX) j (i+1)) from by rw[gM g3 g4,dB,dW]),trivial⟩ rfl,by show(bG k (L.getD j dK)).length-(i+1)<(bG k (L.getD j dK)).length-i;omega⟩
        ·have g4:((aw k).getD n aX).on ((bG k (L.getD j dK)).getD i dPt)=false:=hc20
         refine aA<|ag<|ar (ca (by omega) rfl) ?_
         exact⟨.inr ⟨⟨i+1,c7,ru⟩,g3,by show(dc k L ((aw k).getD n aX) j (i+1)).length≤c7;rw[jK g3 g4];exact k3,k4,by show ru.length=(c7-(dc k L ((aw k).getD n aX) j (i+1)).length)*20;rw[jK g3 g4];exact k5⟩,ap ⟨rfl,rfl,rfl,rfl,rfl,rfl,rfl,rfl,congrArg (fun q=>some (DV.o 69 (List.length q) c7)) ((jK g3 g4).symm),trivial⟩ ⟨rfl,rfl,congrArg (fun q=>some (47,ao aj q++ru)) ((jK g3 g4).symm),trivial⟩ rfl,by show(bG k (L.getD j dK)).length-(i+1)<(bG k (L.getD j dK)).length-i;omega⟩
       ·have hi:i=(bG k (L.getD j dK)).length:=by have:=of_decide_eq_false hc19;omega
        refine bi<|ag<|ar (ca (by omega) rfl) ?_
        exact⟨.inr ⟨⟨j+1,c7,ru⟩,g1,by show(fv k (L.take (j+1)) ((aw k).getD n aX)).length≤c7;rw[←(show(dc k L ((aw k).getD n aX) j i)=(fv k (L.take (j+1)) ((aw k).getD n aX)) from by rw[←fM g1,←hi])];exact k3,k4,by show ru.length=(c7-(fv k (L.take (j+1)) ((aw k).getD n aX)).length)*20;rw[←(show(dc k L ((aw k).getD n aX) j i)=(fv k (L.take (j+1)) ((aw k).getD n aX)) from by rw[←fM g1,←hi])];exact k5⟩,ap ⟨rfl,rfl,rfl,rfl,rfl,rfl,congrArg (fun q=>some (DV.o 69 (List.length q) c7)) ((show(dc k L ((aw k).getD n aX) j i)=(fv k (L.take (j+1)) ((aw k).getD n aX)) from by rw[←fM g1,←hi])),trivial⟩ ⟨rfl,rfl,congrArg (fun q=>some (47,ao aj q++ru)) ((show(dc k L ((aw k).getD n aX) j i)=(fv k (L.take (j+1)) ((aw k).getD n aX)) from by rw[←fM g1,←hi])),trivial⟩ rfl,by show L.length-(j+1)<L.length-j;omega⟩
     ·have hj:j=L.length:=by have:=of_decide_eq_false hc15;omega
      refine vg (t:=9) rfl<|bi ?_
      exact⟨(),ap ⟨rfl,rfl,rfl,rfl,rfl,congrArg (fun q:List Pt=>some (DV.v (.c (.s q.length (ao aj q))))) (j3.symm.trans (by rw[hj,lI])),trivial⟩ ⟨rfl,rfl,trivial⟩ rfl⟩
    ·dsimp only at j2 j3 j4 j5
     dsimp only
     refine aa<|aa<|ag ?_
     refine aJ rfl (fun hc22=>?_) (fun hc22=>?_)
     ·have g1:j<L.length:=by have:=of_decide_eq_true hc22;omega
      have hd:=hL _ (bd (d:=dK) g1)
      have hc2:=qa (k:=k) (d:=L.getD j dK)
      have vc0:((aw k).getD n aX).good:=(hF _ (bd (show n<2 from g9))).g
      refine aA<|aa<|aE<|aa<|dC 11 [] ?_
      refine aq (fl dK dU g1 D3 rfl) ?_
      refine aq (ck (us:=aV (L.getD j dK)) qK rfl (rA _ _) (dU _) rfl) ?_
      refine aK rfl (M6 hk.k hd.k)<|aa<|ag<|aE<|bn (ι:={x9:Nat×Nat×List CellD // x9.1≤(bG k (L.getD j dK)).length∧(dc k L ((aw k).getD n aX) j x9.1).length≤x9.2.1∧x9.2.1≤maxLen∧x9.2.2.length=(x9.2.1-(dc k L ((aw k).getD n aX) j x9.1).length)*20}) (fun i=>⟨188,[(1,.v (.c (.s L.length (ao aV L)))),(2,.p 2 0),(7,.v (.c (.s (((aw k)).length) (ao aC ((aw k)))))),(6,.o 81 ((uV k L n).length) c9),(8,.v (.c (.i .i64 (n:Int)))),(10,.v (.c (.i .i64 (j:Int)))),(11,.v (.c (.s (((bG k (L.getD j dK))).length) (ao aj ((bG k (L.getD j dK))))))),(13,.v (.c (.i .i64 (i.1.1:Int)))),(9,.o 69 ((dc k L ((aw k).getD n aX) j i.1.1).length) i.1.2.1)],[(2,40,aV k),(81,49,ao aC (uV k L n)++rs),(69,47,ao aj (dc k L ((aw k).getD n aX) j i.1.1)++i.1.2.2)]⟩) (fun i=>(bG k (L.getD j dK)).length-i.1.1) ⟨⟨0,c8,rt⟩,eF _,by show(dc k L ((aw k).getD n aX) j 0).length≤c8;rw[rU];exact j3,j4,by show rt.length=(c8-(dc k L ((aw k).getD n aX) j 0).length)*20;rw[rU];exact j5⟩ (ap ⟨rfl,rfl,rfl,rfl,rfl,rfl,rfl,rfl,congrArg (fun q=>some (DV.o 69 (List.length q) c8)) (rU.symm),trivial⟩ ⟨rfl,rfl,congrArg (fun q=>some (47,ao aj q++rt)) (rU.symm),trivial⟩ rfl) ?_
      rintro⟨⟨i,c7,ru⟩,k2,k3,k4,k5⟩
      dsimp only at k2 k3 k4 k5
      have k6:(dc k L ((aw k).getD n aX) j i).length≤2*j+2:=yM
      dsimp only
      refine aa<|aa<|ag ?_
      refine aJ rfl (fun hc23=>?_) (fun hc23=>?_)
      ·have g3:i<(bG k (L.getD j dK)).length:=by have:=of_decide_eq_true hc23;omega
       have hx:=lB hk.k hd.k _ (bd (d:=dPt) g3)
       refine aA<|aa<|aE<|aa<|dC 9 []<|aq (fl aX ai g0 gP rfl)<|aq (iK ai bO rfl)<|aq (fl dPt ak g3 cE rfl)<|aq (iK ak bq rfl)<|aK rfl (DN vc0 hx) ?_
       refine aJ rfl (fun hc24=>?_) (fun hc24=>?_)
       ·have g4:((aw k).getD n aX).on ((bG k (L.getD j dK)).getD i dPt)=true:=hc24
        refine ag<|ar (fl dPt ak g3 cE rfl)<|ar (iK ak bq rfl)<|ar (bV (n:=1) (us:=aj ((((bG k (L.getD j dK)).getD i dPt)))) du rfl rfl rfl (by decide) (by decide) rfl) ?_
        refine DL.mk<|mh (us:=ao aj (dc k L ((aw k).getD n aX) j i)) (rest:=ru) (ys:=aj ((((bG k (L.getD j dK)).getD i dPt)))) du rfl rfl rfl (by first|exact am ak _|exact am ai _|exact dN) (by assumption) rfl (by decide) (by omega) (by assumption) (by omega) (iQ (by omega)) (.inl rfl) rfl (fun cg25 rg25 hga25 hgb25 hgc25=>dZ ?_)
        refine ag<|ar (ca (by omega) rfl) ?_
        exact⟨⟨⟨i+1,cg25,rg25⟩,g3,by show(dc k L ((aw k).getD n aX) j (i+1)).length≤cg25;rw[gM g3 g4,dt];exact hga25,hgb25,by show rg25.length=(cg25-(dc k L ((aw k).getD n aX) j (i+1)).length)*20;rw[gM g3 g4,dt];exact hgc25⟩,ap ⟨rfl,rfl,rfl,rfl,rfl,rfl,rfl,rfl,congrArg (fun q=>some (DV.o 69 q cg25)) (show _=(dc k L ((aw k).getD n aX) j (i+1)).length from by rw[gM g3 g4,dt];rfl),trivial⟩ ⟨rfl,rfl,congrArg (fun q=>some (47,q++rg25)) (show _=ao aj (dc k L ((aw k).getD n aX) j (i+1)) from by rw[gM g3 g4,dB,dW]),trivial⟩ rfl,by show(bG k (L.getD j dK)).length-(i+1)<(bG k (L.getD j dK)).length-i;omega⟩
       ·have g4:((aw k).getD n aX).on ((bG k (L.getD j dK)).getD i dPt)=false:=hc24
        refine aA<|ag<|ar (ca (by omega) rfl) ?_
        exact⟨⟨⟨i+1,c7,ru⟩,g3,by show(dc k L ((aw k).getD n aX) j (i+1)).length≤c7;rw[jK g3 g4];exact k3,k4,by show ru.length=(c7-(dc k L ((aw k).getD n aX) j (i+1)).length)*20;rw[jK g3 g4];exact k5⟩,ap ⟨rfl,rfl,rfl,rfl,rfl,rfl,rfl,rfl,congrArg (fun q=>some (DV.o 69 (List.length q) c7)) ((jK g3 g4).symm),trivial⟩ ⟨rfl,rfl,congrArg (fun q=>some (47,ao aj q++ru)) ((jK g3 g4).symm),trivial⟩ rfl,by show(bG k (L.getD j dK)).length-(i+1)<(bG k (L.getD j dK)).length-i;omega⟩
      ·have hi:i=(bG k (L.getD j dK)).length:=by have:=of_decide_eq_false hc23;omega
       refine bi<|ag<|ar (ca (by omega) rfl) ?_
       exact⟨.inr ⟨⟨j+1,c7,ru⟩,g1,by show(fv k (L.take (j+1)) ((aw k).getD n aX)).length≤c7;rw[←(show(dc k L ((aw k).getD n aX) j i)=(fv k (L.take (j+1)) ((aw k).getD n aX)) from by rw[←fM g1,←hi])];exact k3,k4,by show ru.length=(c7-(fv k (L.take (j+1)) ((aw k).getD n aX)).length)*20;rw[←(show(dc k L ((aw k).getD n aX) j i)=(fv k (L.take (j+1)) ((aw k).getD n aX)) from by rw[←fM g1,←hi])];exact k5⟩,ap ⟨rfl,rfl,rfl,rfl,rfl,rfl,congrArg (fun q=>some (DV.o 69 (List.length q) c7)) ((show(dc k L ((aw k).getD n aX) j i)=(fv k (L.take (j+1)) ((aw k).getD n aX)) from by rw[←fM g1,←hi])),trivial⟩ ⟨rfl,rfl,congrArg (fun q=>some (47,ao aj q++ru)) ((show(dc k L ((aw k).getD n aX) j i)=(fv k (L.take (j+1)) ((aw k).getD n aX)) from by rw[←fM g1,←hi])),trivial⟩ rfl,by show L.length-(j+1)<L.length-j;omega⟩
     ·have hj:j=L.length:=by have:=of_decide_eq_false hc22;omega
      refine cB (t:=9) (m:=20) (us:=ao aj (fv k (L.take j) ((aw k).getD n aX))) rfl rfl (jw (n:=(fv k (L.take j) ((aw k).getD n aX)).length) (by first|exact am ak _|exact am ai _|exact dN) (by first|assumption|simp) (by omega)) (by omega) (by assumption) (gn (by first|exact am ak _|exact am ai _|exact dN)) ?_
      refine bi ?_
      exact⟨(),ap ⟨rfl,rfl,rfl,rfl,rfl,congrArg (fun q:List Pt=>some (DV.v (.c (.s q.length (ao aj q))))) (by rw[hj,lI]),trivial⟩ ⟨rfl,rfl,trivial⟩ rfl⟩
   ·rintro⟨⟩
    try dsimp only
    refine aa<|ag<|ar (fl aX ai g0 gP rfl)<|ar (iK ai bO rfl)<|ac rfl ((show Ok _ _ _ [.c (.s (Ch k L ((aw k).getD n aX)).length (ao aC (Ch k L ((aw k).getD n aX)))),_] from Ib vc.g (fun q hq=>(wu hk hL q hq).1) (iO uZ (by omega)) (fun q hq=>(wu hk hL q hq).2) (AW vc.ne)))<|ag ?_
    refine DL.mk<|vt (n:=(uV k L n).length) (c:=c9) (q:=((Ch k L ((aw k).getD n aX))).length) (us:=ao aC (uV k L n)) (rest:=rs) (N':=(uV k L n).length+(Ch k L ((aw k).getD n aX)).length) (zs':=ao aC (uV k L n)++ao aC (Ch k L ((aw k).getD n aX))) lp rfl rfl rfl (rfl) (am ai _) (h5) (am ai _) (by decide) (by omega) (by assumption) (by omega) (iQ (by omega)) (.inl rfl) (rfl) (rfl) rfl (fun cg26 rg26 hga26 hgb26 hgc26=>dZ ?_)
    refine ag<|ar (ca (by omega) rfl) ?_
    exact⟨⟨⟨n+1,cg26,rg26⟩,by omega,by omega,by show(uV k L (n+1)).length≤cg26;rw[(show uV k L (n+1)=uV k L n++Ch k L ((aw k).getD n aX) from jI g0),dt];exact hga26,hgb26,by show rg26.length=(cg26-(uV k L (n+1)).length)*66;rw[(show uV k L (n+1)=uV k L n++Ch k L ((aw k).getD n aX) from jI g0),dt];exact hgc26⟩,ap ⟨rfl,rfl,rfl,congrArg (fun q=>some (DV.o 81 q cg26)) (by rw[(show uV k L (n+1)=uV k L n++Ch k L ((aw k).getD n aX) from jI g0),dt]),rfl,trivial⟩ ⟨rfl,congrArg (fun q=>some (49,q++rg26)) (by rw[(show uV k L (n+1)=uV k L n++Ch k L ((aw k).getD n aX) from jI g0),dB]),trivial⟩ rfl,by show 2-(n+1)<2-n;omega⟩
  ·have hp:n=2:=by
    have h8:=of_decide_eq_false hc14
    have h9: ¬(n:Int)<((2:Nat):Int):=h8
    omega
   have eR:uV k L n=bW k L:=by rw[hp];rfl
   have h3r:(bW k L).length≤c9:=eR▸h3
   have h5r:rs.length=(c9-(bW k L).length)*66:=eR▸h5
   have lN:(bW k L).length≤9*2:=Lg lL (cg _)
   have hN:(bW k L).length≤100:=by omega
   have hMx:(bW k L).length≤9223372036854775807:=by omega
   refine lh (σ':=⟨188,[(1,.v (.c (.s L.length (ao aV L)))),(2,.p 2 0),(7,.v (.c (.s (((aw k)).length) (ao aC ((aw k)))))),(6,.o 81 ((bW k L).length) c9)],[(2,40,aV k),(81,49,ao aC (bW k L)++rs)]⟩) (ap ⟨rfl,rfl,rfl,congrArg (fun q=>some (DV.o 81 (List.length q) c9)) eR,trivial⟩ ⟨rfl,congrArg (fun q=>some (49,ao aC q++rs)) eR,trivial⟩ rfl) ?_
   refine cB (t:=6) (m:=66) (us:=ao aC (bW k L)) rfl rfl (jw (n:=(bW k L).length) (by first|exact am ak _|exact am ai _|exact dN) (by first|assumption|simp) (by omega)) (by omega) (by assumption) (gn (by first|exact am ak _|exact am ai _|exact dN)) ?_
   refine bi<|aa<|ag ?_
   refine DL.mk<|pE (j9 (n:=((bW k L).length)) Zs rfl rfl (by omega) (by omega) rfl) rfl<|dZ ?_
   refine aa<|ag<|aa<|aa<|ag<|aE<|bn (ι:={n:Nat // n≤(bW k L).length}) (fun i=>⟨188,[(1,.v (.c (.s L.length (ao aV L)))),(2,.p 2 0),(6,.v (.c (.s (((bW k L)).length) (ao aC ((bW k L)))))),(16,.o 84 ((bW k L).length) ((bW k L).length)),(17,.v (.c (.i .i64 (((Ny e i.1:Nat):Int))))),(18,.v (.c (.i .i64 (i.1:Int))))],[(2,40,aV k),(84,4,nO e (bW k L).length i.1++[])]⟩) (fun i=>(bW k L).length-i.1) ⟨0,eF _⟩ (ap ⟨rfl,rfl,rfl,rfl,rfl,rfl,trivial⟩ ⟨rfl,congrArg (fun q=>some (4,q)) Kg,trivial⟩ rfl) ?_
   rintro⟨n,h2⟩
   replace h2:n≤(bW k L).length:=h2
   dsimp only
   refine aa<|aa<|ag ?_
   refine aJ rfl (fun hc27=>?_) (fun hc27=>?_)
   ·have g1:n<(bW k L).length:=by have:=of_decide_eq_true hc27;omega
    obtain⟨gm,om⟩:=hm n g1
    have cl:=JX (e:=e) (n:=n)
    refine aA<|aa<|aE<|aa<|bm<|bU 4<|aU (fl aX ai g1 gP rfl)<|aU (iK ai bO rfl)<|aU (cb rfl (om))<|bU 1<|aU (cb rfl (fp (c:=e n) (ac9 hL lL gm) (he n g1).symm))<|aU (bo A6 rfl rfl (by omega) rfl) ?_
    refine gi (aY (us:=nO e (bW k L).length (n+1)++[]) lW rfl rfl rfl rfl (by rw[iZ,zj];omega) (FW g1) rfl) ?_
    refine bt<|aa<|bm<|bU 2<|aU (bo A6 rfl rfl (by omega) rfl) ?_
    refine aU (nT lW rfl rfl (TS g1) rfl) ?_
    refine bt ?_
    refine aJ rfl (fun hc28=>?_) (fun hc28=>?_)
    ·have g2:e n=true:=hc28
     refine ag<|ar (ci (((Ny e n+1:Nat):Int)) ((bh (by omega) (by omega)).trans (congrArg some (by omega))) rfl)<|ag<|ar (ca (by omega) rfl) ?_
     exact⟨⟨n+1,g1⟩,ap ⟨rfl,rfl,rfl,rfl,congrArg (fun q:Nat=>some (DV.v (.c (.i .i64 (q:Int))))) ((L4 g2).symm),rfl,trivial⟩ ⟨rfl,rfl,trivial⟩ rfl,by show(bW k L).length-(n+1)<(bW k L).length-n;omega⟩
    ·have g2:e n=false:=hc28
     refine aA<|ag<|ar (ca (by omega) rfl) ?_
     exact⟨⟨n+1,g1⟩,ap ⟨rfl,rfl,rfl,rfl,congrArg (fun q:Nat=>some (DV.v (.c (.i .i64 (q:Int))))) ((Qb g2).symm),rfl,trivial⟩ ⟨rfl,rfl,trivial⟩ rfl,by show(bW k L).length-(n+1)<(bW k L).length-n;omega⟩
   ·have hp:n=(bW k L).length:=by have:=of_decide_eq_false hc27;omega
    refine lh (σ':=⟨188,[(1,.v (.c (.s L.length (ao aV L)))),(2,.p 2 0),(6,.v (.c (.s (((bW k L)).length) (ao aC ((bW k L)))))),(16,.o 84 ((bW k L).length) ((bW k L).length)),(17,.v (.c (.i .i64 (((Ny e ((bW k L).length):Nat):Int)))))],[(2,40,aV k),(84,4,tE e (bW k L).length++[])]⟩) (ap ⟨rfl,rfl,rfl,rfl,congrArg (fun q:Nat=>some (DV.v (.c (.i .i64 (q:Int))))) (congrArg (Ny e) hp),trivial⟩ ⟨rfl,congrArg (fun q=>some (4,q++[])) (by rw[hp];exact DR),trivial⟩ rfl) ?_
    refine cB (t:=16) (m:=1) (us:=tE e (bW k L).length) rfl rfl (jw (n:=(bW k L).length) (by first|exact am ak _|exact am ai _|exact dN) (by first|assumption|simp) (by omega)) (by omega) (by assumption) (gn (by first|exact am ak _|exact am ai _|exact dN)) ?_
    refine bi<|aa<|aa<|ag ?_
    refine aJ rfl (fun hc29=>?_) (fun hc29=>?_)
    ·obtain⟨ru,rz,_⟩:=hZ.elim id fun h=>absurd (Mf (e:=e) (n:=(bW k L).length) (by have:=of_decide_eq_true hc29;omega)) fun q=>h.2.2.2.1.elim fun s hs=>absurd (q s hs.1) (by rw[hs.2];decide)
     subst ru rz
     refine aa<|ag<|a7 ?_
     exact ah (az (az ae))
    ·obtain⟨ru,rz,hr,⟨s,hs,es⟩,hG⟩:=hZ.elim (fun h=>absurd hc29 (by rw[O3 h.2.2];simp)) id
     subst ru rz
     refine aA<|aa<|bm<|aU (eg rfl) ?_
     refine bt<|aa<|aa<|ag<|aE ?_
     refine bn (ι:=Sum ({n:Nat // n≤(bW k L).length∧(jk (bW k L) e n)=[]}) ({x9:Nat×Nat×List CellD // x9.1≤(bW k L).length∧(jk (bW k L) e x9.1).length≤x9.2.1∧x9.2.1≤maxLen∧x9.2.2.length=(x9.2.1-(jk (bW k L) e x9.1).length)*66})) (fun i=>match i with| .inl i=>⟨188,[(6,.v (.c (.s (((bW k L)).length) (ao aC ((bW k L)))))),(16,.v (.c (.s ((bW k L).length) (tE e (bW k L).length)))),(20,.v (.c (.i .i64 (i.1:Int)))),(19,.z)],[]⟩| .inr i=>⟨188,[(6,.v (.c (.s (((bW k L)).length) (ao aC ((bW k L)))))),(16,.v (.c (.s ((bW k L).length) (tE e (bW k L).length)))),(20,.v (.c (.i .i64 (i.1.1:Int)))),(19,.o 186 ((jk (bW k L) e i.1.1).length) i.1.2.1)],[(186,49,ao aC (jk (bW k L) e i.1.1)++i.1.2.2)]⟩) (fun i=>match i with| .inl i=>(bW k L).length-i.1| .inr i=>(bW k L).length-i.1.1) (.inl ⟨0,eF _,rfl⟩) (ap ⟨rfl,rfl,rfl,rfl,trivial⟩ trivial rfl) ?_
     rintro(⟨n,i2,i3⟩|⟨⟨n,c9,rs⟩,i2,i3,i4,i5⟩)
     ·replace i2:n≤(bW k L).length:=i2
      replace i3:(jk (bW k L) e n)=[]:=i3
      dsimp only
      refine aa<|aa<|ag ?_
      refine aJ rfl (fun hc30=>?_) (fun hc30=>?_)
      ·have g1:n<(bW k L).length:=by have:=of_decide_eq_true hc30;omega
       obtain⟨kb,hkb⟩: ∃x,x=(n+(bW k L).length-1)%(bW k L).length:=⟨_,rfl⟩
       have gb:kb<(bW k L).length:=hkb▸r7 _ hr.pos
       have eb:e kb=e (n+(bW k L).length-1):=by rw[hkb,hr.mod]
       obtain⟨kc,hkc⟩: ∃x,x=(n+1)%(bW k L).length:=⟨_,rfl⟩
       refine aA<|aa<|aE<|aa<|ag ?_
       refine ar (ci (((n+(bW k L).length:Nat):Int)) ((bh (by omega) (by omega)).trans (congrArg some (by omega))) rfl)<|ar (ci (((n+(bW k L).length-1:Nat):Int)) ((bK (by omega) (by omega)).trans (congrArg some (by omega))) rfl) ?_
       refine ar (gD (r:=(kb:Int)) rfl rfl (by omega) (by rw[hkb];exact(vT _ _).symm) rfl) ?_
       refine aa<|aa<|ag<|ar (bI (us:=[CellD.b (e n)]++(tE e (bW k L).length).drop (n+1)) A6 rfl rfl (by omega) (dN) (pP g1) rfl) ?_
       refine ar (b7 lW rfl rfl rfl) ?_
       refine jU (bE rfl) (fun c31 hb31=>?_)
       cases c31
       ·refine ar (bI (us:=[CellD.b (e kb)]++(tE e (bW k L).length).drop (kb+1)) A6 rfl rfl (by omega) (dN) (pP gb) rfl) ?_
        refine ar (b7 lW rfl rfl rfl) ?_
        refine aJ rfl (fun hc32=>?_) (fun hc32=>?_)
        ·have o3:(e n&& !e (n+(bW k L).length-1))=false:=by have h8:e kb=true:=hc32;rw[eb] at h8;rw[h8];simp
         refine bi<|ag<|ar (ca (by omega) rfl) ?_
         exact⟨.inl ⟨n+1,g1,(xz o3).trans i3⟩,ap ⟨rfl,rfl,rfl,rfl,trivial⟩ trivial rfl,by show(bW k L).length-(n+1)<(bW k L).length-n;omega⟩
        ·have o1:e n=true:=by have h8:(!e n)=false:=hb31;simpa using h8
         have o2:e (n+(bW k L).length-1)=false:=by have h8:e kb=false:=hc32;rw[←eb];exact h8
         have vX:CvV (jV (bW k L) e n):=hG n g1 o1 o2
         have eI:(jk (bW k L) e (n+1))=ua (jk (bW k L) e n) (jV (bW k L) e n):=WV o1 o2
         refine aA<|aa<|ag<|ar (fl aX ai g1 gP rfl)<|ar (iK ai bO rfl)<|pu (cZ bO rfl rfl rfl (ai _) rfl rfl) ?_
         refine aa<|aa<|ag<|ar (ca (by omega) rfl) ?_
         refine ar (gD (r:=(kc:Int)) rfl rfl (by omega) (by rw[hkc];exact(vT _ _).symm) rfl) ?_
         refine aE<|bn (ι:={x9:Nat×Nat // x9.1≤(bW k L).length∧(∀j,j<x9.1→e (n+1+j)=true)∧x9.2=(n+1+x9.1)%(bW k L).length}) (fun i=>⟨188,[(6,.v (.c (.s (((bW k L)).length) (ao aC ((bW k L)))))),(16,.v (.c (.s ((bW k L).length) (tE e (bW k L).length)))),(20,.v (.c (.i .i64 (n:Int)))),(19,.z),(22,.p 22 0),(23,.v (.c (.i .i64 (i.1.2:Int))))],[(22,49,aC ((uI (bW k L) n (n+i.1.1))))]⟩) (fun i=>(bW k L).length-i.1.1) ⟨(0,kc),eF _,fun j hj=>absurd hj (by omega),hkc⟩ (ap ⟨rfl,rfl,rfl,rfl,rfl,rfl,trivial⟩ ⟨congrArg (fun q=>some (49,aC q)) (W9 g1).symm,trivial⟩ rfl) ?_
         rintro⟨⟨j,kx⟩,j2,j3,j4⟩
         dsimp only at j2 j3 j4
         have gkx:kx<(bW k L).length:=j4▸r7 _ hr.pos
         have ekx:e kx=e (n+1+j):=by rw[j4,hr.mod]
         dsimp only
         refine aa<|aa<|ag<|ar (bI (us:=[CellD.b (e kx)]++(tE e (bW k L).length).drop (kx+1)) A6 rfl rfl (by omega) (dN) (pP gkx) rfl) ?_
         refine ar (b7 lW rfl rfl rfl) ?_
         refine aJ rfl (fun hc33=>?_) (fun hc33=>?_)
         ·have g4:e (n+1+j)=true:=by rw[←ekx];exact hc33
          have g5:j+1≤(bW k L).length:=Nat.succ_le_of_lt ((gO j (bW k L).length).elim id fun q=>absurd (WX hr g1 hs fun i hi=>j3 i (by omega)) (by rw[es];decide))
          refine aA<|aa<|aE<|bm<|bU 2<|aU (fl aX ai gkx gP rfl)<|aU (qp AD rfl rfl rfl) ?_
          refine aU (ck (us:=aj ((bW k L).getD kx aX).q) bq rfl (yK _ _) (ak _) rfl) ?_
          refine bU 1<|gi (aY (us:=aC (((uI (bW k L) n (n+j))).ends ((uI (bW k L) n (n+j))).p ((((bW k L).getD kx aX).q)))) bq rfl rfl rfl rfl (by rw[ai];decide) (wz _ _) rfl) ?_
          refine bt<|ag<|ar (ca (by omega) rfl) ?_
          refine ar (gD (r:=(((kx+1)%(bW k L).length:Nat):Int)) rfl rfl (by omega) ((vT _ _).symm) rfl) ?_
          exact⟨⟨(j+1,(kx+1)%(bW k L).length),g5,fun i hi=>(gO i j).elim (j3 i) fun q=>(show i=j by omega)▸g4,by show(kx+1)%(bW k L).length=(n+1+(j+1))%(bW k L).length;rw[j4,Nat.mod_add_mod];rfl⟩,ap ⟨rfl,rfl,rfl,rfl,rfl,rfl,trivial⟩ ⟨congrArg (fun q=>some (49,aC q)) (by rw[←HH,j4,show n+1+j=n+(j+1) from by omega]),trivial⟩ rfl,by show(bW k L).length-(j+1)<(bW k L).length-j;omega⟩
         ·have g4:e (n+1+j)=false:=by rw[←ekx];exact hc33
          have eX:(uI (bW k L) n (n+j))=(jV (bW k L) e n):=by
           show uI _ n (n+j)=uI _ n (n+r6 e n (bW k L).length)
           rw[DH j2 j3 (.inr g4)]
          have eA:(jk (bW k L) e (n+1))=[(jV (bW k L) e n)]:=by rw[eI,i3];rfl
          refine lh (σ':=⟨188,[(6,.v (.c (.s (((bW k L)).length) (ao aC ((bW k L)))))),(16,.v (.c (.s ((bW k L).length) (tE e (bW k L).length)))),(20,.v (.c (.i .i64 (n:Int)))),(19,.z),(22,.p 22 0)],[(22,49,aC ((jV (bW k L) e n)))]⟩) (ap ⟨rfl,rfl,rfl,rfl,rfl,trivial⟩ ⟨congrArg (fun q=>some (49,aC q)) eX,trivial⟩ rfl) ?_
          refine bi<|aa<|ag<|aa<|aE ?_
          refine bn (ι:=Nat) (fun i=>match i with|_=>⟨188,[(6,.v (.c (.s (((bW k L)).length) (ao aC ((bW k L)))))),(16,.v (.c (.s ((bW k L).length) (tE e (bW k L).length)))),(20,.v (.c (.i .i64 (n:Int)))),(19,.z),(22,.p 22 0),(24,.v (.c (.i .i64 0)))],[(22,49,aC ((jV (bW k L) e n)))]⟩) (fun i=>0-i) 0 (ap ⟨rfl,rfl,rfl,rfl,rfl,rfl,trivial⟩ ⟨rfl,trivial⟩ rfl) ?_
          intro i
          match i with
          |_=>
           show Dw _ _ ⟨188,[(6,.v (.c (.s (((bW k L)).length) (ao aC ((bW k L)))))),(16,.v (.c (.s ((bW k L).length) (tE e (bW k L).length)))),(20,.v (.c (.i .i64 (n:Int)))),(19,.z),(22,.p 22 0),(24,.v (.c (.i .i64 0)))],[(22,49,aC ((jV (bW k L) e n)))]⟩ _
           refine aa<|aa<|dC 15 []<|aq (Oi gP rfl rfl) ?_
           refine aq (bE rfl)<|bz rfl<|bi<|dC 9 []<|aq (G9 gP rfl rfl rfl) ?_
           refine aq (kV (ai _) bO rfl)<|aq (uE (us:=aC (jV (bW k L) e n)) lp rfl (vh rfl (ai _)) (d7 (ai _)) (by decide) (by decide) rfl) ?_
           refine aq (GC gP rfl rfl rfl) ?_
           refine aq (Gt lp rfl rfl (d7 (ai _)) (by decide) (by decide) (by decide) (by decide) rfl) ?_
           refine DL.mk<|wC (q:=1) (ys:=aC (jV (bW k L) e n)) (zs':=aC (jV (bW k L) e n)) lp rfl rfl (d7 (ai _)) (by decide) (by decide) (by decide) rfl (rfl) rfl (fun cg34 rg34 hga34 hgb34 hgc34=>dZ ?_)
           refine ag<|ar (ca (by omega) rfl) ?_
           exact⟨.inr ⟨⟨n+1,cg34,rg34⟩,g1,by show(jk (bW k L) e (n+1)).length≤cg34;rw[eA];exact hga34,hgb34,by show rg34.length=(cg34-(jk (bW k L) e (n+1)).length)*66;rw[eA];exact hgc34⟩,ap ⟨rfl,rfl,rfl,congrArg (fun q=>some (DV.o 186 (List.length q) cg34)) eA.symm,trivial⟩ ⟨congrArg (fun q=>some (49,q++rg34)) (show _=ao aC (jk (bW k L) e (n+1)) from by rw[eA,dW]),trivial⟩ rfl,by show(bW k L).length-(n+1)<(bW k L).length-n;omega⟩
       ·have o3:(e n&& !e (n+(bW k L).length-1))=false:=by have h8:(!e n)=true:=hb31;simp at h8;rw[h8];rfl
        refine dO rfl<|bi<|ag<|ar (ca (by omega) rfl) ?_
        exact⟨.inl ⟨n+1,g1,(xz o3).trans i3⟩,ap ⟨rfl,rfl,rfl,rfl,trivial⟩ trivial rfl,by show(bW k L).length-(n+1)<(bW k L).length-n;omega⟩
      ·have hp:n=(bW k L).length:=by have:=of_decide_eq_false hc30;omega
       refine vg (t:=19) rfl<|bi<|aa<|ag<|a7 ?_
       rw[show(jk (bW k L) e ((bW k L).length))=[] from hp▸i3]
       exact ah (az (az ae))
     ·dsimp only at i2 i3 i4 i5
      have i6:(jk (bW k L) e n).length≤n:=Vw
      dsimp only
      refine aa<|aa<|ag ?_
      refine aJ rfl (fun hc35=>?_) (fun hc35=>?_)
      ·have g1:n<(bW k L).length:=by have:=of_decide_eq_true hc35;omega
       obtain⟨kb,hkb⟩: ∃x,x=(n+(bW k L).length-1)%(bW k L).length:=⟨_,rfl⟩
       have gb:kb<(bW k L).length:=hkb▸r7 _ hr.pos
       have eb:e kb=e (n+(bW k L).length-1):=by rw[hkb,hr.mod]
       obtain⟨kc,hkc⟩: ∃x,x=(n+1)%(bW k L).length:=⟨_,rfl⟩
       refine aA<|aa<|aE<|aa<|ag ?_
       refine ar (ci (((n+(bW k L).length:Nat):Int)) ((bh (by omega) (by omega)).trans (congrArg some (by omega))) rfl)<|ar (ci (((n+(bW k L).length-1:Nat):Int)) ((bK (by omega) (by omega)).trans (congrArg some (by omega))) rfl) ?_
       refine ar (gD (r:=(kb:Int)) rfl rfl (by omega) (by rw[hkb];exact(vT _ _).symm) rfl) ?_
       refine aa<|aa<|ag<|ar (bI (us:=[CellD.b (e n)]++(tE e (bW k L).length).drop (n+1)) A6 rfl rfl (by omega) (dN) (pP g1) rfl) ?_
       refine ar (b7 lW rfl rfl rfl) ?_
       refine jU (bE rfl) (fun c36 hb36=>?_)
       cases c36
       ·refine ar (bI (us:=[CellD.b (e kb)]++(tE e (bW k L).length).drop (kb+1)) A6 rfl rfl (by omega) (dN) (pP gb) rfl) ?_
        refine ar (b7 lW rfl rfl rfl) ?_
        refine aJ rfl (fun hc37=>?_) (fun hc37=>?_)
        ·have o3:(e n&& !e (n+(bW k L).length-1))=false:=by have h8:e kb=true:=hc37;rw[eb] at h8;rw[h8];simp
         refine bi<|ag<|ar (ca (by omega) rfl) ?_
         exact⟨.inr ⟨⟨n+1,c9,rs⟩,g1,by show(jk (bW k L) e (n+1)).length≤c9;rw[xz o3];exact i3,i4,by show rs.length=(c9-(jk (bW k L) e (n+1)).length)*66;rw[xz o3];exact i5⟩,ap ⟨rfl,rfl,rfl,congrArg (fun q=>some (DV.o 186 (List.length q) c9)) (xz o3).symm,trivial⟩ ⟨congrArg (fun q=>some (49,ao aC q++rs)) (xz o3).symm,trivial⟩ rfl,by show(bW k L).length-(n+1)<(bW k L).length-n;omega⟩
        ·have o1:e n=true:=by have h8:(!e n)=false:=hb36;simpa using h8
         have o2:e (n+(bW k L).length-1)=false:=by have h8:e kb=false:=hc37;rw[←eb];exact h8
         have vX:CvV (jV (bW k L) e n):=hG n g1 o1 o2
         have eI:(jk (bW k L) e (n+1))=ua (jk (bW k L) e n) (jV (bW k L) e n):=WV o1 o2
         refine aA<|aa<|ag<|ar (fl aX ai g1 gP rfl)<|ar (iK ai bO rfl)<|pu (cZ bO rfl rfl rfl (ai _) rfl rfl) ?_
         refine aa<|aa<|ag<|ar (ca (by omega) rfl) ?_
         refine ar (gD (r:=(kc:Int)) rfl rfl (by omega) (by rw[hkc];exact(vT _ _).symm) rfl) ?_
         refine aE<|bn (ι:={x9:Nat×Nat // x9.1≤(bW k L).length∧(∀j,j<x9.1→e (n+1+j)=true)∧x9.2=(n+1+x9.1)%(bW k L).length}) (fun i=>⟨188,[(6,.v (.c (.s (((bW k L)).length) (ao aC ((bW k L)))))),(16,.v (.c (.s ((bW k L).length) (tE e (bW k L).length)))),(20,.v (.c (.i .i64 (n:Int)))),(19,.o 186 ((jk (bW k L) e n).length) c9),(22,.p 22 0),(23,.v (.c (.i .i64 (i.1.2:Int))))],[(186,49,ao aC (jk (bW k L) e n)++rs),(22,49,aC ((uI (bW k L) n (n+i.1.1))))]⟩) (fun i=>(bW k L).length-i.1.1) ⟨(0,kc),eF _,fun j hj=>absurd hj (by omega),hkc⟩ (ap ⟨rfl,rfl,rfl,rfl,rfl,rfl,trivial⟩ ⟨rfl,congrArg (fun q=>some (49,aC q)) (W9 g1).symm,trivial⟩ rfl) ?_
         rintro⟨⟨j,kx⟩,j2,j3,j4⟩
         dsimp only at j2 j3 j4
         have gkx:kx<(bW k L).length:=j4▸r7 _ hr.pos
         have ekx:e kx=e (n+1+j):=by rw[j4,hr.mod]
         dsimp only
         refine aa<|aa<|ag<|ar (bI (us:=[CellD.b (e kx)]++(tE e (bW k L).length).drop (kx+1)) A6 rfl rfl (by omega) (dN) (pP gkx) rfl) ?_
         refine ar (b7 lW rfl rfl rfl) ?_
         refine aJ rfl (fun hc38=>?_) (fun hc38=>?_)
         ·have g4:e (n+1+j)=true:=by rw[←ekx];exact hc38
          have g5:j+1≤(bW k L).length:=Nat.succ_le_of_lt ((gO j (bW k L).length).elim id fun q=>absurd (WX hr g1 hs fun i hi=>j3 i (by omega)) (by rw[es];decide))
          refine aA<|aa<|aE<|bm<|bU 2<|aU (fl aX ai gkx gP rfl)<|aU (qp AD rfl rfl rfl) ?_
          refine aU (ck (us:=aj ((bW k L).getD kx aX).q) bq rfl (yK _ _) (ak _) rfl) ?_
          refine bU 1<|gi (aY (us:=aC (((uI (bW k L) n (n+j))).ends ((uI (bW k L) n (n+j))).p ((((bW k L).getD kx aX).q)))) bq rfl rfl rfl rfl (by rw[ai];decide) (wz _ _) rfl) ?_
          refine bt<|ag<|ar (ca (by omega) rfl) ?_
          refine ar (gD (r:=(((kx+1)%(bW k L).length:Nat):Int)) rfl rfl (by omega) ((vT _ _).symm) rfl) ?_
          exact⟨⟨(j+1,(kx+1)%(bW k L).length),g5,fun i hi=>(gO i j).elim (j3 i) fun q=>(show i=j by omega)▸g4,by show(kx+1)%(bW k L).length=(n+1+(j+1))%(bW k L).length;rw[j4,Nat.mod_add_mod];rfl⟩,ap ⟨rfl,rfl,rfl,rfl,rfl,rfl,trivial⟩ ⟨rfl,congrArg (fun q=>some (49,aC q)) (by rw[←HH,j4,show n+1+j=n+(j+1) from by omega]),trivial⟩ rfl,by show(bW k L).length-(j+1)<(bW k L).length-j;omega⟩
         ·have g4:e (n+1+j)=false:=by rw[←ekx];exact hc38
          have eX:(uI (bW k L) n (n+j))=(jV (bW k L) e n):=by
           show uI _ n (n+j)=uI _ n (n+r6 e n (bW k L).length)
           rw[DH j2 j3 (.inr g4)]
          refine lh (σ':=⟨188,[(6,.v (.c (.s (((bW k L)).length) (ao aC ((bW k L)))))),(16,.v (.c (.s ((bW k L).length) (tE e (bW k L).length)))),(20,.v (.c (.i .i64 (n:Int)))),(19,.o 186 ((jk (bW k L) e n).length) c9),(22,.p 22 0)],[(186,49,ao aC (jk (bW k L) e n)++rs),(22,49,aC ((jV (bW k L) e n)))]⟩) (ap ⟨rfl,rfl,rfl,rfl,rfl,trivial⟩ ⟨rfl,congrArg (fun q=>some (49,aC q)) eX,trivial⟩ rfl) ?_
          refine bi<|aa<|ag<|aa<|aE<|bn (ι:={q:Nat // q≤(jk (bW k L) e n).length∧ ∀r,r<q→dh ((jk (bW k L) e n).getD r aX) (jV (bW k L) e n)<0}) (fun i=>⟨188,[(6,.v (.c (.s (((bW k L)).length) (ao aC ((bW k L)))))),(16,.v (.c (.s ((bW k L).length) (tE e (bW k L).length)))),(20,.v (.c (.i .i64 (n:Int)))),(19,.o 186 ((jk (bW k L) e n).length) c9),(22,.p 22 0),(24,.v (.c (.i .i64 (i.1:Int))))],[(22,49,aC ((jV (bW k L) e n))),(186,49,ao aC (jk (bW k L) e n)++rs)]⟩) (fun i=>(jk (bW k L) e n).length-i.1) ⟨0,eF _,fun r h=>absurd h (yc r)⟩ (ap ⟨rfl,rfl,rfl,rfl,rfl,rfl,trivial⟩ ⟨rfl,rfl,trivial⟩ rfl) ?_
          rintro⟨q,q2,q3⟩
          replace q2:q≤(jk (bW k L) e n).length:=q2
          replace q3: ∀r,r<q→dh ((jk (bW k L) e n).getD r aX) (jV (bW k L) e n)<0:=q3
          dsimp only
          refine aa<|aa<|dC 15 []<|aq (iq gP rfl rfl) ?_
          refine BD (bE rfl) (fun c39 hb39=>?_)
          cases c39
          ·have eS:vH (jV (bW k L) e n) (jk (bW k L) e n)=q:=Cq _ q2 q3 (.inl (by have:=of_decide_eq_false hb39;omega))
           have eA:(jk (bW k L) e (n+1))=ua (jk (bW k L) e n) (jV (bW k L) e n):=eI
           refine bz rfl<|bi<|dC 9 []<|aq (ou (q:=q) gP rfl rfl (by omega) rfl) ?_
           refine aq (kV (ai _) bO rfl)<|aq (uE (us:=aC (jV (bW k L) e n)) lp rfl (vh rfl (ai _)) (d7 (ai _)) (by decide) (by decide) rfl) ?_
           refine aq (rK (q:=q) gP rfl rfl (by omega) (by omega) rfl) ?_
           refine aq (Bt (q:=(jk (bW k L) e n).length-q) (ys:=ao aC ((jk (bW k L) e n).drop q)) lp rfl rfl rfl (Pb rfl q2 i3) (Q0 rfl q2 i5 i3) (by omega) (by omega) (d7 (ai _)) (by rw[am ai,fS]) (by decide) (by decide) (by omega) (iQ (by omega)) rfl) ?_
           refine DL.mk<|vt (n:=q) (c:=c9) (q:=1+((jk (bW k L) e n).length-q)) (us:=ao aC ((jk (bW k L) e n).take q)) (rest:=ao aC ((jk (bW k L) e n).drop q)++rs) (N':=(jk (bW k L) e n).length+1) (zs':=ao aC (ua (jk (bW k L) e n) (jV (bW k L) e n))) lp rfl rfl rfl (Gq q) (by rw[am ai,dH,il q2]) (by rw[dt,am ai,fS,i5];omega) (by rw[dt,ai,am ai,fS];omega) (by decide) (by omega) (by assumption) (by omega) (iQ (by omega)) (.inl rfl) (by omega) (Em eS) rfl (fun cg40 rg40 hga40 hgb40 hgc40=>dZ ?_)
           refine ag<|ar (ca (by omega) rfl) ?_
           exact⟨.inr ⟨⟨n+1,cg40,rg40⟩,g1,by show(jk (bW k L) e (n+1)).length≤cg40;rw[eA,sE];exact hga40,hgb40,by show rg40.length=(cg40-(jk (bW k L) e (n+1)).length)*66;rw[eA,sE];exact hgc40⟩,ap ⟨rfl,rfl,rfl,congrArg (fun q=>some (DV.o 186 q cg40)) (show _=(jk (bW k L) e (n+1)).length from by rw[eA,sE]),trivial⟩ ⟨congrArg (fun q=>some (49,ao aC q++rg40)) eA.symm,trivial⟩ rfl,by show(bW k L).length-(n+1)<(bW k L).length-n;omega⟩
          ·have g6:q<(jk (bW k L) e n).length:=by have:=of_decide_eq_true hb39;omega
           obtain⟨i9,l9,a9,b9,x9⟩:=Tq (bd (d:=aX) g6)
           have vO:CvV ((jk (bW k L) e n).getD q aX):=x9▸hG i9 (by omega) a9 b9
           refine aq (bo gP rfl rfl (by omega) rfl) ?_
           refine aq (ce (us:=aj ((jk (bW k L) e n).getD q aX).p) bq rfl rfl (Zq g6) (ak _) rfl) ?_
           refine aq (ce (us:=aj ((jV (bW k L) e n)).p) bq rfl rfl (mY _) rfl rfl) ?_
           refine aK rfl (AI (iT vO.g) (iT vX.g)) ?_
           refine aJ rfl (fun hc41=>?_) (fun hc41=>?_)
           ·have g7:dh ((jk (bW k L) e n).getD q aX) (jV (bW k L) e n)<0:=of_decide_eq_true hc41
            refine aA<|aE<|ag<|ar (ca (by omega) rfl) ?_
            exact⟨⟨q+1,g6,fun r hr2=>(Nat.lt_succ_iff_lt_or_eq.1 hr2).elim (q3 r) (fun e9=>by rw[e9];exact g7)⟩,ap ⟨rfl,rfl,rfl,rfl,rfl,rfl,trivial⟩ ⟨rfl,rfl,trivial⟩ rfl,by show(jk (bW k L) e n).length-(q+1)<(jk (bW k L) e n).length-q;omega⟩
           ·have eS:vH (jV (bW k L) e n) (jk (bW k L) e n)=q:=Cq _ q2 q3 (.inr (of_decide_eq_false hc41))
            have eA:(jk (bW k L) e (n+1))=ua (jk (bW k L) e n) (jV (bW k L) e n):=eI
            refine bi<|dC 9 []<|aq (ou (q:=q) gP rfl rfl (by omega) rfl) ?_
            refine aq (kV (ai _) bO rfl)<|aq (uE (us:=aC (jV (bW k L) e n)) lp rfl (vh rfl (ai _)) (d7 (ai _)) (by decide) (by decide) rfl) ?_
            refine aq (rK (q:=q) gP rfl rfl (by omega) (by omega) rfl) ?_
            refine aq (Bt (q:=(jk (bW k L) e n).length-q) (ys:=ao aC ((jk (bW k L) e n).drop q)) lp rfl rfl rfl (Pb rfl q2 i3) (Q0 rfl q2 i5 i3) (by omega) (by omega) (d7 (ai _)) (by rw[am ai,fS]) (by decide) (by decide) (by omega) (iQ (by omega)) rfl) ?_
            refine DL.mk<|vt (n:=q) (c:=c9) (q:=1+((jk (bW k L) e n).length-q)) (us:=ao aC ((jk (bW k L) e n).take q)) (rest:=ao aC ((jk (bW k L) e n).drop q)++rs) (N':=(jk (bW k L) e n).length+1) (zs':=ao aC (ua (jk (bW k L) e n) (jV (bW k L) e n))) lp rfl rfl rfl (Gq q) (by rw[am ai,dH,il q2]) (by rw[dt,am ai,fS,i5];omega) (by rw[dt,ai,am ai,fS];omega) (by decide) (by omega) (by assumption) (by omega) (iQ (by omega)) (.inl rfl) (by omega) (Em eS) rfl (fun cg42 rg42 hga42 hgb42 hgc42=>dZ ?_)
            refine ag<|ar (ca (by omega) rfl) ?_
            exact⟨.inr ⟨⟨n+1,cg42,rg42⟩,g1,by show(jk (bW k L) e (n+1)).length≤cg42;rw[eA,sE];exact hga42,hgb42,by show rg42.length=(cg42-(jk (bW k L) e (n+1)).length)*66;rw[eA,sE];exact hgc42⟩,ap ⟨rfl,rfl,rfl,congrArg (fun q=>some (DV.o 186 q cg42)) (show _=(jk (bW k L) e (n+1)).length from by rw[eA,sE]),trivial⟩ ⟨congrArg (fun q=>some (49,ao aC q++rg42)) eA.symm,trivial⟩ rfl,by show(bW k L).length-(n+1)<(bW k L).length-n;omega⟩
       ·have o3:(e n&& !e (n+(bW k L).length-1))=false:=by have h8:(!e n)=true:=hb36;simp at h8;rw[h8];rfl
        refine dO rfl<|bi<|ag<|ar (ca (by omega) rfl) ?_
        exact⟨.inr ⟨⟨n+1,c9,rs⟩,g1,by show(jk (bW k L) e (n+1)).length≤c9;rw[xz o3];exact i3,i4,by show rs.length=(c9-(jk (bW k L) e (n+1)).length)*66;rw[xz o3];exact i5⟩,ap ⟨rfl,rfl,rfl,congrArg (fun q=>some (DV.o 186 (List.length q) c9)) (xz o3).symm,trivial⟩ ⟨congrArg (fun q=>some (49,ao aC q++rs)) (xz o3).symm,trivial⟩ rfl,by show(bW k L).length-(n+1)<(bW k L).length-n;omega⟩
      ·have hp:n=(bW k L).length:=by have:=of_decide_eq_false hc35;omega
       refine cB (t:=19) (m:=66) (us:=ao aC (jk (bW k L) e n)) rfl rfl (jw (n:=(jk (bW k L) e n).length) (by first|exact am ak _|exact am ai _|exact dN) (by first|assumption|simp) (by omega)) (by omega) (by assumption) (gn (by first|exact am ak _|exact am ai _|exact dN)) ?_
       refine bi<|aa<|ag<|a7 ?_
       rw[←hp]
       exact ah (az (az ae))
theorem Vo (hk:RK k) (hL: ∀d∈L,RK d) (lL:L.length≤4): ∃(G R:List Cv) (al:Bool),Ok Tryz.prog 9 [.a (aV k),.c (.s L.length (ao aV L))] [.c (.s G.length (ao aC G)),.c (.b al)]∧
 Ok Tryz.prog 12 [.a (aV k),.c (.s L.length (ao aV L))] [.c (.s R.length (ao aC R)),.c (.b al)]∧G.length=R.length∧G.length≤12∧(∀x∈G,CvV x∧x.cw=false)∧(∀x∈R,CvV x)∧ ∀i,i<G.length→eqC (G.getD i aX) (R.getD i aX)=true:=by
 have S:=Fl hk hL
 obtain⟨m,hm⟩:=SH hk hL
 have hmr: ∀i,i<(bW k L).length→GB (m i)∧Ok Tryz.prog 56 [.a (aC ((bW k L).getD i aX))] [.a (aj (m i))]:=fun i hi=>⟨(hm i (by rw[S.len];exact hi)).1,(hm i (by rw[S.len];exact hi)).2.2.1⟩
 have her: ∀i,i<(bW k L).length→Lk k L m i=qg L (m i):=fun i hi=>Kc (by rw[S.len];exact hi)
 rcases Mu hk hL lL (fun i hi=>⟨(hm i hi).1,(hm i hi).2.1⟩) with⟨h1,hP⟩|⟨s,h1,_,h3,hP⟩
 ·exact⟨[],[],true,hP,WL hk hk.pos hL lL hmr her (.inl ⟨rfl,rfl,fun i hi=>h1 i (by rw[S.len];exact hi)⟩),rfl,eF _,(fun x hx=>nomatch hx),(fun x hx=>nomatch hx),fun i hi=>absurd hi (yc i)⟩
 ·have hrn:=MX (k:=k) (L:=L) (m:=m) (by omega)
  have hR:=WL hk hk.pos hL lL hmr her (.inr ⟨rfl,rfl,S.len▸hrn,⟨s,by rw[←S.len];exact h1,h3⟩,fun i hi g1 g2=>by
   obtain⟨a,b,a',b',q1,q2,_,_,_,v2,_⟩:=KW hk.k hk.pos S hrn (i:=i) (by rw[S.len];exact hi) g1 (by rw[S.len];exact g2)
   rw[q2];exact v2⟩)
  obtain⟨a1,a2,a3,a4⟩:=G7 hk.k hk.pos S hrn h1 h3
  have hN:(bj k L).length≤9*2:=BY lL (cg _)
  refine⟨_,_,_,hP,hR,a1,?_,fun x hx=>⟨(a2 x hx).1,(a2 x hx).2.1⟩,a3,a4⟩
  have hh:=IA (P:=bj k L) (e:=Lk k L m) (s:=s) (n:=(bj k L).length)
  rw[fL]
  omega
theorem K9 {W:List Rn}(hW: ∀r∈W,RnB r):(∀d∈(W.take 4).map Cb,RK d)∧((W.take 4).map Cb).length≤4:=by
 refine⟨fun d hd=>?_,by rw[oN,dH];omega⟩
 obtain⟨x,hx,rfl⟩:=nB.1 hd
 exact Qg (hW x (Cm hx))
end Go.Proofs.YtegpmhlfjkhjmaaGreat
