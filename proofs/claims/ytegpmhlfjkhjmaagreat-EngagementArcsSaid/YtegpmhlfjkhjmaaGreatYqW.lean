/-Monotone pieces:the program. -/
import Derived.Test.YtegpmhlfjkhjmaaGreatYqV
namespace Go.Proofs.YtegpmhlfjkhjmaaGreat
open Go Go.RowKit
variable {d k:Ci}{c p x:Cv}{L:List Ci}{G O R o:List Cv}{W:List Rn}{N i j n:Nat}{e:Nat→Bool}{m:Nat→Pt}{f t:Pt}{r:Rn}
theorem NK (_hr:RnB r) (hW: ∀r∈W,RnB r) (hA:Ok Tryz.prog 7 [] [.c (.b true)]) (h4:decide (W.length≤4)=false):Ok Tryz.prog 3 [.a (([.i .i16 r.x]++[.i .i16 r.y]++[.i .u16 r.q]++[.i .u8 r.d])),.c (.s W.length (aw uy W))] [.c (.b true)]:=by
 refine ca Tryz.func3 rfl<|ac rfl (hA)<|qQ rfl<|ac rfl ((by have h9:=Zi hW;rw[h4] at h9;exact h9)) ?_
 refine tg rfl ?_
 exact ah (az ae)
theorem WK (hr:RnB r) (hW: ∀r∈W,RnB r) (hA:Ok Tryz.prog 7 [] [.c (.b true)]) (h4:decide (W.length≤4)=true) {al:Bool}(hP:Ok Tryz.prog 9 [.a (aX (Bw r)),.c (.s ((((W.take 4).map Bw)).length) (aw aX (((W.take 4).map Bw))))] [.c (.s ((G).length) (aw aD (G))),.c (.b al)]) (hR:Ok Tryz.prog 12 [.a (aX (Bw r)),.c (.s ((((W.take 4).map Bw)).length) (aw aX (((W.take 4).map Bw))))] [.c (.s ((R).length) (aw aD (R))),.c (.b al)]) (hl:G.length=R.length) (l12:G.length≤12) (vG: ∀x∈G,CvV x∧x.cw=false) (vR: ∀x∈R,CvV x) (hE: ∀i,i<G.length→Mu (G.getD i aY) (R.getD i aY)=true):Ok Tryz.prog 3 [.a (([.i .i16 r.x]++[.i .i16 r.y]++[.i .u16 r.q]++[.i .u8 r.d])),.c (.s W.length (aw uy W))] [.c (.b true)]:=by
 have lL4:((W.take 4).map Bw).length≤4:=by rw[oJ,dE];omega
 refine eH Tryz.func3 77 [.tmp 4] rfl<|aa<|ag<|aa<|aa<|ag<|ac rfl (hA)<|a8 rfl<|aA<|aa<|ag<|ac rfl ((by have h9:=Zi hW;rw[h4] at h9;exact h9)) ?_
 refine aa<|aa<|ag<|a8 rfl<|aA<|aa<|ag ?_
 refine ac rfl (Tf hr) ?_
 refine ac rfl (acx lL4) ?_
 refine ac rfl (hP)<|aa<|ag ?_
 refine ac rfl (Tf hr) ?_
 refine ac rfl (hR) ?_
 refine aa<|aa<|bg<|bK 2<|aR (aP (c:=false) (gV rfl rfl gO rfl) (by simp)) ?_
 refine bK 5<|aR (aP (c:=false) (dF rfl) (by simp[hl])) ?_
 refine ex<|a8 rfl<|aA<|aa<|aa<|ag ?_
 refine aB<|bh (ι:={n:Nat // n≤G.length}) (fun i=>⟨77,[(7,.v (.c (.s ((G).length) (aw aD (G))))),(9,.v (.c (.s ((R).length) (aw aD (R))))),(46,.v (.c (.s ((G).length) (aw aD (G))))),(47,.v (.c (.i .i64 (G.length:Int)))),(48,.v (.c (.i .i64 (i.1:Int))))],[]⟩) (fun i=>G.length-i.1) ⟨0,eK _⟩ (ao ⟨rfl,rfl,rfl,rfl,rfl,trivial⟩ trivial rfl) ?_
 rintro⟨n,h2⟩
 replace h2:n≤G.length:=h2
 dsimp only
 refine aa<|ag<|aa ?_
 refine aI rfl (fun hc1=>?_) (fun hc1=>?_)
 ·have g1:n<G.length:=by have:=of_decide_eq_true hc1;omega
  have g1r:n<R.length:=by omega
  obtain⟨vg,hcw⟩:=vG _ (bj (d:=aY) g1)
  have vr:=vR _ (bj (d:=aY) g1r)
  refine aA<|aa<|aB<|aa<|ag<|aa<|ln 25 rfl rfl<|dt 2<|bD (eM aY ai g1 gF rfl)<|bD (ip ai bW rfl)<|bD (cj rfl (UV vg))<|dt 4<|bD (eM aY ai g1 gF rfl)<|bD (ip ai bW rfl) ?_
  refine dt 2<|bD (eM aY ai g1r gF rfl)<|bD (ip ai bW rfl)<|bD (cj rfl (ez (c:=true) (aa6 vg.g vr.g) (hE n g1)))<|dt 5<|bD (eM aY ai g1 gF rfl)<|bD (nO Xq rfl rfl rfl) ?_
  refine bD (aP (c:=false) (b5 kP rfl (Pg _ _) rfl) hcw) ?_
  refine yo<|dk<|ba<|a8 rfl<|aA<|ag<|ar (cb (by omega) rfl) ?_
  exact⟨⟨n+1,g1⟩,ao ⟨rfl,rfl,rfl,rfl,rfl,trivial⟩ trivial rfl,by show G.length-(n+1)<G.length-n;omega⟩
 ·refine a7<|aa<|ag<|aZ ?_
  exact ah (az ae)
section
variable {x y:Pt}(gx:GP x) (gy:GP y) (h:cP x y=0)
include gx gy h
theorem QG:mp k x=mp k y:=by
 rw[An gx,An gy]
 congr 1
 refine dP ?_
 have h1:=(fj.1 h).1
 rw[pN (co gx) (co gy)] at h1
 have h2:=(fj.1 h).2
 rw[tw (co gx) (co gy)] at h2
 rw[show xf k x-xf k y=(pX x-pX y)*(pX x+pX y-Re.of k.x-Re.of k.x)+(pY x-pY y)*(pY x+pY y-Re.of k.y-Re.of k.y) from bt fun n=>by unfold xf;simp only[aU,aG,aT,bi];grind]
 rw[dO _ (by rw[bJ,h2,qk]),bJ,h1,qk]
theorem zr (gf:GP f):fG k x f=fG k y f∧fG k f x=fG k f y:=by
 have a1:=ww (co gx) (co gy) h (co gf)
 have a2:=CU (co gx) (co gy) h k
 have a3:=d9 (co gx) (co gf)
 have a4:=d9 (co gy) (co gf)
 have a5:cx f x=cx f y:=by omega
 unfold fG
 rw[a1,a2,a5]
 exact⟨rfl,rfl⟩
theorem QH (gf:GP f) (gt:GP t):(Cv.arc k false f t).on x=(Cv.arc k false f t).on y:=by
 show((mp k x==0)&&decide (r9 k f f x≤0)&&decide (r9 k f x t≤0))=((mp k y==0)&&decide (r9 k f f y≤0)&&decide (r9 k f y t≤0))
 unfold r9
 rw[QG gx gy h,(zr gx gy h gf).1,(zr gx gy h gf).2,(zr gx gy h gt).1]
end
def fm (k:Ci) (L:List Ci) (c:Cv):List Pt:=L.flatMap fun d=>(bG k d).filter c.on
def Bx (k:Ci) (L:List Ci) (c:Cv):List Cv:=je c (fm k L c)
def b4 (k:Ci) (L:List Ci):List Cv:=(ap k).flatMap (Bx k L)
section
variable {k:Ci}{L:List Ci}(hk:RK k) (hL: ∀d∈L,RK d)
include hk hL
theorem wO: ∀p∈fm k L c,GP p∧c.on p=true:=fun p hp=>by
 obtain⟨d,hd,h⟩:=List.mem_flatMap.1 hp
 obtain⟨h1,h2⟩:=my.1 h
 exact⟨lG hk.k (hL d hd).k p h1,h2⟩
theorem K1: ∀p∈ns k L c,GP p∧c.on p=true:=fun p hp=>by
 obtain⟨h1,h2⟩:=my.1 hp
 exact⟨Iq hk hL p h1,h2⟩
theorem Ij (gf:GP f) (gt:GP t):(∀x∈ns k L (.arc k false f t),∃y∈fm k L (.arc k false f t),cP x y=0)∧ ∀y∈fm k L (.arc k false f t),∃x∈ns k L (.arc k false f t),cP y x=0:=by
 refine⟨fun x hx=>?_,fun y hy=>?_⟩
 ·obtain⟨h1,h2⟩:=my.1 hx
  obtain⟨d,hd,h3⟩:=List.mem_flatMap.1 h1
  obtain⟨y,hy,e⟩:=(D5 hk (hL d hd)).1 x h3
  have gx:=Bj hk (hL d hd) x h3
  have gy:=lG hk.k (hL d hd).k y hy
  exact⟨y,List.mem_flatMap.2 ⟨d,hd,my.2 ⟨hy,(QH gx gy e gf gt).symm.trans h2⟩⟩,e⟩
 ·obtain⟨d,hd,h3⟩:=List.mem_flatMap.1 hy
  obtain⟨h1,h2⟩:=my.1 h3
  obtain⟨x,hx,e⟩:=(D5 hk (hL d hd)).2 y h1
  have gx:=Bj hk (hL d hd) x hx
  have gy:=lG hk.k (hL d hd).k y h1
  exact⟨x,my.2 ⟨List.mem_flatMap.2 ⟨d,hd,hx⟩,(QH gy gx e gf gt).symm.trans h2⟩,e⟩
theorem EA:Sim k (bm k L) (b4 k L):=by
 have h0:=hk.pos
 have gL:=rN hk.k h0
 have gR:=rS hk.k h0
 have sL:=l5 (co gL)
 have sR:=l5 (co gR)
 obtain⟨sA1,sA2⟩:=Ij hk hL gL gR
 obtain⟨sB1,sB2⟩:=Ij hk hL gR gL
 obtain⟨T,T',hA,_⟩:=QJ hk.k h0 (Ve hk.k h0) (fun x hx=>by rcases hx with rfl|rfl;exact .inl sL;exact .inr sR) (K1 hk hL) (wO hk hL) sA1 sA2
 obtain⟨T2,T2',hB,_⟩:=QJ hk.k h0 (Vm hk.k h0) (fun x hx=>by rcases hx with rfl|rfl;exact .inr sL;exact .inl sR) (K1 hk hL) (wO hk hL) sB1 sB2
 have h:=Xl hk.k h0 hA hB
 have e1:bm k L=t6 (.arc k false (jS k) (jI k)) (mi (.arc k false (jS k) (jI k)) (ns k L (.arc k false (jS k) (jI k))))++t6 (.arc k false (jI k) (jS k)) (mi (.arc k false (jI k) (jS k)) (ns k L (.arc k false (jI k) (jS k)))):=by
  show _++(_++[])=_
  rw[jc];rfl
 have e2:b4 k L=je (.arc k false (jS k) (jI k)) (fm k L (.arc k false (jS k) (jI k)))++je (.arc k false (jI k) (jS k)) (fm k L (.arc k false (jI k) (jS k))):=by
  show _++(_++[])=_
  rw[jc];rfl
 rw[e1,e2]
 exact h
end
theorem Qb (hk:RK k) (hL: ∀d∈L,RK d): ∃m:Nat→Pt,∀i,i<(bm k L).length→
 GB (m i)∧Ok Tryz.prog 43 [.a (aD ((bm k L).getD i aY))] [.a (aj (m i))]∧Ok Tryz.prog 56 [.a (aD ((b4 k L).getD i aY))] [.a (aj (m i))]∧ ∃x,m i=wZ ((bm k L).getD i aY).fwd x∧mS ((bm k L).getD i aY).fwd.p x<0∧0<mS ((bm k L).getD i aY).fwd.q x:=by
 have S:=EA hk hL
 have key: ∀i,∃m:Pt,i<(bm k L).length→GB m∧Ok Tryz.prog 43 [.a (aD ((bm k L).getD i aY))] [.a (aj m)]∧Ok Tryz.prog 56 [.a (aD ((b4 k L).getD i aY))] [.a (aj m)]∧ ∃x,m=wZ ((bm k L).getD i aY).fwd x∧mS ((bm k L).getD i aY).fwd.p x<0∧0<mS ((bm k L).getD i aY).fwd.q x:=fun i=>by
  by_cases hi:i<(bm k L).length
  ·obtain⟨a,b,a',b',e1,e2,⟨oa,ob⟩,⟨oa',ob'⟩,z1,z2,ne,inn⟩:=S.at_ i hi
   have ee:=ED (bn oa) (bn ob) (bn oa') (bn ob') z1 z2
   have vP:CvV (.arc k false a b):=⟨⟨hk.k,oa.1,ob.1⟩,hk.pos,b7.2 oa.2,b7.2 ob.2,ne⟩
   have vR:CvV (.arc k false a' b'):=⟨⟨hk.k,oa'.1,ob'.1⟩,hk.pos,b7.2 oa'.2,b7.2 ob'.2,fun q=>ne (ee.trans q)⟩
   obtain⟨m,h1,h2,h3,h4⟩:=Ub vP vR z1 z2 inn
   exact⟨m,fun _=>⟨h1,e1▸h2,e2▸h3,e1▸h4⟩⟩
  ·exact⟨dPt,fun h=>absurd h hi⟩
 exact Classical.axiomOfChoice key
def KY (k:Ci) (L:List Ci) (m:Nat→Pt) (i:Nat):Bool:=qd L (m (i%(bm k L).length))
theorem I9 (h:i<(bm k L).length):KY k L m i=qd L (m i):=by unfold KY;rw[rc h]
theorem KL (h:0<(bm k L).length):Rnd (KY k L m) (bm k L).length:=⟨h,fun x=>by unfold KY;rw[Nat.add_mod_right]⟩
theorem W7:(∀i,i<N→e i=true)∨ ∃s,s<N∧(∀i,i<s→e i=true)∧e s=false:=by
 induction N with
 |zero=>exact .inl fun i hi=>absurd hi (by omega)
 |succ n ih=>
  rcases ih with h|⟨s,h1,h2,h3⟩
  ·cases g:e n with
   |true=>exact .inl fun i hi=>(io i n).elim (h i) fun q=>(show i=n by omega)▸g
   |false=>exact .inr ⟨n,by omega,h,g⟩
  ·exact .inr ⟨s,by omega,h2,h3⟩
theorem Km (hk:RK k) (hL: ∀d∈L,RK d) (lL:L.length≤4) (hm: ∀i,i<(bm k L).length→GB (m i)∧Ok Tryz.prog 43 [.a (aD ((bm k L).getD i aY))] [.a (aj (m i))]):
 ((∀i,i<(bm k L).length→KY k L m i=true)∧Ok Tryz.prog 9 [.a (aX k),.c (.s L.length (aw aX L))] [.c (.s 0 []),.c (.b true)])∨
 ∃s,s<(bm k L).length∧(∀i,i<s→KY k L m i=true)∧KY k L m s=false∧
  Ok Tryz.prog 9 [.a (aX k),.c (.s L.length (aw aX L))] [.c (.s (bp aY cY (ni (bm k L) (KY k L m) s (bm k L).length)).length (aw aD (bp aY cY (ni (bm k L) (KY k L m) s (bm k L).length)))),.c (.b false)]:=by
 have S:=EA hk hL
 rcases W7 (e:=KY k L m) (N:=(bm k L).length) with h|⟨s,h1,h2,h3⟩
 ·exact .inl ⟨h,Sn hk hk.pos hL lL hm (fun i hi=>I9 hi) h⟩
 ·have hr:=KL (k:=k) (L:=L) (m:=m) (by omega)
  have hv:=(Ge hk.k hk.pos S hr h1 h3).2.1
  exact .inr ⟨s,h1,h2,h3,TH hk hk.pos hL lL hm (fun i hi=>I9 hi) hr h1 h2 h3 fun x hx=>(hv x ((kT _).mem_iff.2 hx)).1⟩
section
variable {k:Ci}{L:List Ci}{c:Cv}{i j:Nat}
def cU (k:Ci) (L:List Ci) (c:Cv) (j i:Nat):List Pt:=fm k (L.take j) c++((bG k (L.getD j dK)).take i).filter c.on
theorem rZ:cU k L c j 0=fm k (L.take j) c:=jc _
theorem fK (h:j<L.length):cU k L c j (bG k (L.getD j dK)).length=fm k (L.take (j+1)) c:=by
 unfold cU fm
 rw[lJ,jJ (d:=dK) h]
theorem gP (g:i<(bG k (L.getD j dK)).length) (o:c.on ((bG k (L.getD j dK)).getD i dPt)=true):cU k L c j (i+1)=cU k L c j i++[(bG k (L.getD j dK)).getD i dPt]:=by
 unfold cU
 rw[oM g o,mV]
theorem jK (g:i<(bG k (L.getD j dK)).length) (o:c.on ((bG k (L.getD j dK)).getD i dPt)=false):cU k L c j (i+1)=cU k L c j i:=by
 unfold cU
 rw[vp g o]
theorem pV:(bG k d).length≤2:=by
 unfold bG jg
 repeat' split
 all_goals simp
theorem uL: ∀ {L:List Ci},(fm k L c).length≤2*L.length
 |[]=>ce _
 |d::L=>by
  have h:=uL (L:=L)
  have h2:((bG k d).filter c.on).length≤2:=iK (sB _ _) pV
  unfold fm at h⊢
  rw[List.flatMap_cons,dm,tC]
  omega
theorem yF:(cU k L c j i).length≤2*j+2:=by
 have h1:=uL (k:=k) (c:=c) (L:=L.take j)
 have h2:(((bG k (L.getD j dK)).take i).filter c.on).length≤2:=iK (sB _ _) (iK (List.length_take_le' _ _) pV)
 rw[dE] at h1
 unfold cU
 rw[dm]
 omega
end
def uH (k:Ci) (L:List Ci) (n:Nat):List Cv:=((ap k).take n).flatMap (Bx k L)
theorem A5 (lL:L.length≤4):(Bx k L c).length≤9:=by
 have h1:(Bx k L c).length≤(fm k L c).length+1:=IK
 have h2:=uL (k:=k) (c:=c) (L:=L)
 omega
theorem KJ (lL:L.length≤4) (hn:n≤2):(uH k L n).length≤9*n:=by
 have hA:=A5 (k:=k) (c:=.arc k false (jS k) (jI k)) lL
 have hB:=A5 (k:=k) (c:=.arc k false (jI k) (jS k)) lL
 match n,hn with
 |0,_=>exact ce _
 |1,_=>
  show(Bx k L (.arc k false (jS k) (jI k))++[]).length≤9
  rw[jc];exact hA
 |2,_=>
  show(Bx k L (.arc k false (jS k) (jI k))++(Bx k L (.arc k false (jI k) (jS k))++[])).length≤18
  rw[jc,dm];omega
def MI (e:Nat→Bool):Nat→Nat
 |0=>0
 |n+1=>if e n then MI e n+1 else MI e n
theorem Kg (h:e n=true):MI e (n+1)=MI e n+1:=if_pos h
theorem Ra (h:e n=false):MI e (n+1)=MI e n:=if_neg (by rw[h];decide)
theorem JC {e:Nat→Bool}: ∀ {n:Nat},MI e n≤n
 |0=>ce _
 |n+1=>by
  have:=JC (e:=e) (n:=n)
  cases h:e n with
  |true=>rw[Kg h];omega
  |false=>rw[Ra h];omega
theorem Ka {e:Nat→Bool}: ∀ {n:Nat},MI e n=n→ ∀i,i<n→e i=true
 |0,_,i,hi=>absurd hi (by omega)
 |n+1,h,i,hi=>by
  have hl:=JC (e:=e) (n:=n)
  cases g:e n with
  |false=>rw[Ra g] at h;omega
  |true=>
   rw[Kg g] at h
   by_cases q:i=n
   ·rw[q];exact g
   ·exact Ka (n:=n) (by omega) i (by omega)
theorem NP {e:Nat→Bool}: ∀ {n:Nat},(∀i,i<n→e i=true)→MI e n=n
 |0,_=>rfl
 |n+1,h=>by rw[Kg (h n (by omega)),NP fun i hi=>h i (by omega)]
section
variable {R:List Cv}{e:Nat→Bool}{n:Nat}
theorem US (h:e n=true) (g:e (n+R.length-1)=false):jl R e (n+1)=tH (jl R e n) (jU R e n):=by
 unfold jl
 rw[List.range_succ,uZ,o5,List.foldl_append]
 simp[h,g]
theorem xg (h:(e n&& !e (n+R.length-1))=false):jl R e (n+1)=jl R e n:=by
 unfold jl
 rw[List.range_succ,uZ,List.filter_cons_of_neg (by simpa using h),List.filter_nil,jc]
theorem SX:(jl R e n).length≤n:=by
 unfold jl
 rw[(qc _ _).length_eq,nI,oJ]
 exact iK (sB _ _) (by simp)
theorem Sg (h:x∈jl R e n): ∃i,i<n∧e i=true∧e (i+R.length-1)=false∧x=jU R e i:=by
 unfold jl at h
 have h1:=(qc _ _).mem_iff.1 h
 rw[nI] at h1
 obtain⟨i,hi,rfl⟩:=ny.1 h1
 obtain⟨h2,h3⟩:=my.1 hi
 rw[dN,qf] at h3
 exact⟨i,lP.1 h2,h3.1,h3.2,rfl⟩
theorem VM {s:Nat}(hr:Rnd e N) (hn:n<N) (hs:s<N) (h: ∀j,j<N→e (n+1+j)=true):e s=true:=by
 by_cases hq:n+1≤s
 ·have:=h (s-(n+1)) (by omega)
  rwa [show n+1+(s-(n+1))=s from by omega] at this
 ·have:=h (s+N-(n+1)) (by omega)
  rwa [show n+1+(s+N-(n+1))=s+N from by omega,hr.per] at this
theorem TJ (h:n<N):(nL e N (n+1)++[])[n*1]? =some (CellD.b (e n)):=by
 rw[jc,vH]
 unfold nL
 rw[s9,List.getElem?_range h]
 simp
theorem YL {rs:List CellD}(h:j<O.length):((aw aD O++rs).drop (j*66+26)).take 20=aj (O.getD j aY).p:=by
 rw[←xN,←lr (O.getD j aY),←Zb (rs:=rs) h,List.drop_take,List.take_take]
 rfl
theorem Ee (h:uW p o=j):aw aD (o.take j)++(aD p++aw aD (o.drop j))=aw aD (tH o p):=by
 unfold tH
 rw[h,dB];rfl
theorem UT (h:n<R.length):uu R n n=R.getD n aY:=by
 unfold uu
 rw[rc h,LV]
theorem Ho:(uu R n (n+j)).ends (uu R n (n+j)).p (R.getD ((n+(j+1))%R.length) aY).q=uu R n (n+(j+1)):=by
 unfold uu
 rw[Gp]
end
end Go.Proofs.YtegpmhlfjkhjmaaGreat
