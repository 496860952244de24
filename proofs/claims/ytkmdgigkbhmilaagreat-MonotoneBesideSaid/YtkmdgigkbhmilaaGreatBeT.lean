/-Plain:the program's pieces:parts of the walk. -/
import Derived.Test.YtkmdgigkbhmilaaGreatBeS
namespace Go.Proofs.YtkmdgigkbhmilaaGreat
open Go Go.RowKit
variable {c d e:Cv}{P Q m n q:Int}{L:List Pt}{l:Ln}{K k ka kb km:Nat}{f p t:Pt}{B M U V a b x y z:Rat}{S S':Rat→Prop}{X Y u:Re}
theorem tW:type_of% @Rat.mul_le_mul_of_nonneg_right:=@Rat.mul_le_mul_of_nonneg_right
theorem wV:type_of% @Rat.mul_le_mul_of_nonneg_left:=@Rat.mul_le_mul_of_nonneg_left
theorem y6:type_of% @Rat.mul_lt_mul_of_pos_right:=@Rat.mul_lt_mul_of_pos_right
theorem Dh (c:Cv) (q:Pt):(ap c).take 46++aj q++(ap c).drop (46+20)=ap (c.ends c.p q):=by cases c<;>rfl
theorem Mg (c:Cv):c.ends c.p c.q=c:=by cases c<;>rfl
theorem Mj (c:Cv) (x q P:Pt):(c.ends x q).ends (c.ends x q).p P=c.ends x P:=by cases c<;>rfl
theorem MG (c:Cv) (x q P:Pt):(c.ends x q).setp P=c.ends P q:=by cases c<;>rfl
theorem M8 (c:Cv) (P:Pt):c.setp P=c.ends P c.q:=by cases c<;>rfl
theorem HL (h:c.inner p=true):c.on p=true:=by unfold Cv.inner at h;rw[dT] at h;exact h.1
theorem rI (hc:c.good) (hp:GP p) (h:c.inner p=true):cP p c.p≠0∧cP p c.q≠0:=by
 unfold Cv.inner at h
 have h1:=eo (bz (cn hc)) (bz hp)
 have h2:=eo (bz (dy hc)) (bz hp)
 grind
theorem Wn {e:Pt}{C:Pt→Pt→Int}(hG: ∀p∈L,GP p) (h:L.Pairwise fun a b=>cP a b≠0): ∀i,i+1<(bO e C L).length→cP ((bO e C L).getD (i+1) dPt) ((bO e C L).getD i dPt)≠0:=fun i hi=>by
 have hp:=mI (e:=e) (C:=C) L
 have hG2: ∀p∈bO e C L,GP p:=fun p h=>hG p (hp.mem_iff.1 h)
 have h2:(bO e C L).Pairwise fun a b=>cP a b≠0:=by
  have h3:L.Pairwise fun a b=>cP a b≠0∧GP a∧GP b:=by
   refine List.Pairwise.imp_of_mem (fun{a b} ha hb g=>⟨g,hG a ha,hG b hb⟩) h
  have h4:=hp.symm.pairwise h3 (fun{a b} g=>⟨fun e=>g.1 (by rw[eo (bz g.2.2) (bz g.2.1),e];rfl),g.2.2,g.2.1⟩)
  exact h4.imp fun g=>g.1
 have h5:=(List.pairwise_iff_getElem.1 h2) i (i+1) (by omega) hi (by omega)
 have g1:(bO e C L).getD (i+1) dPt=(bO e C L)[i+1]:=by grind
 have g2:(bO e C L).getD i dPt=(bO e C L)[i]:=by grind
 rw[g1,g2]
 exact fun e=>h5 (by rw[eo (bz (hG2 _ (wS hi))) (bz (hG2 _ (wS _))),e];rfl)
def Dc (R:List Cv) (n:Nat):List Cv:=(R.take n).map Cv.fwd++R.drop n
section
variable {R:List Cv}{n:Nat}
theorem qm (h:n≤R.length):(Dc R n).length=R.length:=by unfold Dc;rw[fp,List.length_map,fQ,fP];omega
theorem Jp (h:n<R.length):(Dc R n).getD n bV=R.getD n bV:=by
 unfold Dc
 grind
theorem Fz (h:n<R.length):(Dc R n).set n (R.getD n bV).fwd=Dc R (n+1):=by
 unfold Dc
 have hl:((R.take n).map Cv.fwd).length=n:=by grind
 rw[List.set_append_right _ _ (by omega),hl,Nat.sub_self,oh (d:=bV) h,List.map_append,tE,pr h]
 rfl
theorem H8 (h:n<R.length) (e:(R.getD n bV).fwd=R.getD n bV):Dc R n=Dc R (n+1):=by
 rw[←Fz h,e]
 apply List.ext_getElem?
 intro j
 rw[List.getElem?_set]
 split
 ·rename_i g
  subst g
  rw[if_pos (by rw[qm (Nat.le_of_lt h)];exact h),←Jp h,eJ (by rw[qm (Nat.le_of_lt h)];exact h)]
 ·rfl
theorem LV:Dc R R.length=R.map Cv.fwd:=by unfold Dc;simp
theorem VW:Dc R 0=R:=by unfold Dc;simp
end
theorem fL (h:c.isArc=true):cJ c=nl c (bO dPt (co c) (iP c)):=by unfold cJ;rw[if_pos h]
theorem BC (h:c.isArc=false):cJ c=[c]:=by unfold cJ;rw[if_neg (by rw[h];decide)]
theorem aba {k:Ci}(hk:GK k) (h0:0<k.q):cP (mh k) (ln k)≠0:=fun e=>by
 have h1:=(iM.1 e).1
 have kL:=Rh (k:=k) h0
 have kR:=Pr (k:=k) h0
 rcases EG (Cy hk h0) (BL hk h0) kL.1 kL.2 with⟨_,b,_⟩|⟨_,b⟩
 ·have:=kR.2;omega
 ·omega
theorem rn: ∀p∈iP c,c.inner p=true:=fun p hp=>by
 cases c with
 |seg l f t=>cases hp
 |arc k w f t=>
  rcases lj.1 hp with hp|hp
  ·split at hp
   ·rename_i e;cases kw.1 hp;exact e
   ·cases hp
  ·split at hp
   ·rename_i e;cases kw.1 hp;exact e
   ·cases hp
theorem vm (vc:CvV c):(iP c).Pairwise fun a b=>cP a b≠0:=by
 cases c with
 |seg l f t=>exact List.Pairwise.nil
 |arc k w f t=>
  have h:=aba vc.g.1 vc.pos
  show((if _ then[mh k] else[])++(if _ then[ln k] else[])).Pairwise _
  split<;>split<;>simp[h]
theorem I9 (vc:CvV c): ∀d∈cJ c,CvV d:=fun d hd=>by
 cases ha:c.isArc with
 |false=>rw[BC ha] at hd;rw[kw.1 hd];exact vc
 |true=>
  rw[fL ha] at hd
  have hp:=mI (e:=dPt) (C:=co c) (iP c)
  have hS: ∀p∈bO dPt (co c) (iP c),GP p∧c.inner p=true:=fun p h=>⟨(fg vc p (hp.mem_iff.1 h)).1,rn p (hp.mem_iff.1 h)⟩
  have hpw:(bO dPt (co c) (iP c)).Pairwise fun a b=>cP a b≠0:=by
   have h3:(iP c).Pairwise fun a b=>cP a b≠0∧GP a∧GP b:=List.Pairwise.imp_of_mem (fun{a b} ha hb g=>⟨g,(fg vc a ha).1,(fg vc b hb).1⟩) (vm vc)
   have h4:=hp.symm.pairwise h3 (fun{a b} g=>⟨fun e=>g.1 (by rw[eo (bz g.2.2) (bz g.2.1),e];rfl),g.2.2,g.2.1⟩)
   exact h4.imp fun g=>g.1
  generalize bO dPt (co c) (iP c)=S at hd hS hpw
  have key: ∀x∈c.p::(S++[c.q]),GP x∧c.supp x=true:=fun x hx=>by
   rcases gD.1 hx with rfl|hx
   ·exact⟨cn vc.g,vc.sp⟩
   ·rcases lj.1 hx with hx|hx
    ·exact⟨(hS x hx).1,o5 (HL (hS x hx).2)⟩
    ·rw[kw.1 hx];exact⟨dy vc.g,vc.sq⟩
  have all:(c.p::(S++[c.q])).Pairwise fun a b=>cP a b≠0:=by
   refine tP.2 ⟨fun x hx=>?_,List.pairwise_append.2 ⟨hpw,List.pairwise_singleton _ _,fun x hx y hy=>?_⟩⟩
   ·rcases lj.1 hx with hx|hx
    ·have:=(rI vc.g (hS x hx).1 (hS x hx).2).1
     exact fun e=>this (by rw[eo (bz (cn vc.g)) (bz (hS x hx).1),e];rfl)
    ·rw[kw.1 hx];exact vc.ne
   ·rw[kw.1 hy];exact(rI vc.g (hS x hx).1 (hS x hx).2).2
  obtain⟨A,p,q,B,e,rfl⟩:=qB hd
  have hp1:=key p (by rw[e];simp)
  have hq1:=key q (by rw[e];simp)
  have hne:cP p q≠0:=by
   rw[e] at all
   exact(tP.1 (List.pairwise_append.1 all).2.1).1 q (by simp)
  have hg:=D9 vc.g hp1.1 hq1.1
  cases c with
  |seg l f t=>cases ha
  |arc k w f t=>exact⟨hg,vc.pos,hp1.2,hq1.2,hne⟩
theorem Gk:0<(cJ c).length:=by
 cases ha:c.isArc with
 |false=>rw[BC ha];exact Nat.zero_lt_one
 |true=>rw[fL ha,Cc];omega
theorem GM:(cJ c).length≤3:=by
 cases ha:c.isArc with
 |false=>rw[BC ha];exact dV rfl
 |true=>rw[fL ha,Cc,dD];have:=Du c;omega
theorem Mo (c:Cv):(te c).Perm ((cJ c).map Cv.fwd):=mI _
theorem P6 (vc:CvV c): ∀d∈te c,CvV d:=fun d hd=>by
 obtain⟨x,hx,rfl⟩:=vf.1 ((Mo c).mem_iff.1 hd)
 exact Ah (I9 vc x hx)
theorem Hj (c:Cv) (r:List CellD):((ap c++r).drop (0+25))[0]? =some (.b c.cw):=by cases c<;>rfl
theorem XT {k:Ci}{w:Bool}{x:Pt}(gx:GP x) (h:(Cv.arc k w f t).on x=true):OnK k x:=⟨gx,bD.1 (o5 h)⟩
section
variable {k:Ci}{w:Bool}{f t:Pt}(vc:CvV (.arc k w f t))
include vc
theorem TK:OnK k f∧OnK k t:=⟨⟨vc.g.2.1,bD.1 vc.sp⟩,⟨vc.g.2.2,bD.1 vc.sq⟩⟩
end
theorem ZK {a b c:Int}(h:T3 a b c):M7 a b c=true:=by
 obtain⟨h1,h2,h3⟩:=h
 unfold M7
 grind
theorem y7 (p q:Pt):(Cv.seg l f t).ord p q=if cP f t>0 then-cP p q else cP p q:=by
 show(if decide (cP f t>0)=true then-cP p q else cP p q)=_
 by_cases h:cP f t>0
 ·grind
 grind
theorem Gc {q:Pt}(hp:GP p) (hq:GP q):(Cv.seg l f t).ord q p= -(Cv.seg l f t).ord p q:=by
 have:=eo (bz hp) (bz hq)
 rw[y7,y7];split<;>omega
theorem RF {q r:Pt}(hp:GP p) (hq:GP q) (hr:GP r):M7 ((Cv.seg l f t).ord p q) ((Cv.seg l f t).ord q r) ((Cv.seg l f t).ord p r)=true:=by
 refine ZK ?_
 rw[y7,y7,y7]
 split
 ·have h:=VK (bz hr) (bz hq) (bz hp)
  have a1:=eo (bz hp) (bz hq)
  have a2:=eo (bz hq) (bz hr)
  have a3:=eo (bz hp) (bz hr)
  unfold T3 at*
  omega
 ·exact VK (bz hp) (bz hq) (bz hr)
theorem mM {x:Pt}:c.inner x=true↔c.on x=true∧cP c.p x≠0∧cP c.q x≠0:=by
 unfold Cv.inner
 grind
theorem zg {x:Pt}:c.on x=true↔c.supp x=true∧c.ord c.p x≤0∧c.ord x c.q≤0:=by
 unfold Cv.on
 grind
theorem Iw (vc:CvV c) (hL: ∀y∈L,GP y∧c.on y=true) (hd:d∈fk c L) {x:Pt}(gx:GP x) (hi:d.inner x=true):c.inner x=true∧ ∀y∈L,cP y x≠0:=by
 obtain⟨i1,i2,i3⟩:=mM.1 hi
 obtain⟨j1,j2,j3⟩:=zg.1 i1
 cases c with
 |seg l f t=>
  have gf:=vc.g.2.1
  have gt:=vc.g.2.2
  have tr:=fun p q r (hp:GP p∧(Cv.seg l f t).ord f p≤0) (hq:GP q∧(Cv.seg l f t).ord f q≤0) (hr:GP r∧(Cv.seg l f t).ord f r≤0)=>RF (l:=l) (f:=f) (t:=t) hp.1 hq.1 hr.1
  have ff:(Cv.seg l f t).ord f f≤0:=by have:=Gc (l:=l) (f:=f) (t:=t) gf gf;omega
  have ft:(Cv.seg l f t).ord f t≤0:=by
   have hne:cP f t≠0:=vc.ne
   rw[y7];split<;>omega
  obtain⟨p,q,hp,hq,rfl,hpq,key⟩:=RL (c:=.seg l f t) (G:=fun p=>GP p∧(Cv.seg l f t).ord f p≤0) (fun p h=>bz h.1) (fun p q h g=>Gc h.1 g.1) tr (fun p q h g e=>by rw[y7] at e;split at e<;>omega) vc (fun p h=>h.1) ⟨gf,ff⟩ ⟨gt,ft⟩
   (fun y hy=>⟨⟨(hL y hy).1,(zg.1 (hL y hy).2).2.1⟩,(hL y hy).2⟩) (fun y h=>h.2) hd
  have j2:(Cv.seg l p q).ord p x≤0:=j2
  have j3:(Cv.seg l p q).ord x q≤0:=j3
  have i2:cP p x≠0:=i2
  have i3:cP q x≠0:=i3
  have ax:=eo (bz hq.1) (bz gx)
  rw[y7] at j2 j3 hpq
  have h1:(Cv.seg l f t).ord p x<0∧(Cv.seg l f t).ord x q<0:=by
   rw[y7,y7]
   grind
  have fx:(Cv.seg l f t).ord f x<0:=CR (RF gf hp.1 gx) hp.2 h1.1
  obtain⟨k1,k2,k3⟩:=key x ⟨gx,q5 fx⟩ h1.1 h1.2
  have n1:=uM vc.g gf gx k1
  have n2:=uM vc.g gx gt k2
  have a2:=eo (bz gx) (bz gt)
  exact⟨mM.2 ⟨zg.2 ⟨j1,q5 k1,q5 k2⟩,n1,by show cP t x≠0;omega⟩,k3⟩
 |arc k w f t=>
  have h0:0<k.q:=vc.pos
  have of:=(TK vc).1
  have ot:=(TK vc).2
  obtain⟨p,q,op,oq,rfl,hpq,key⟩:=RL (c:=.arc k w f t) (G:=OnK k) (fun p h=>b8 h) (fun p q h g=>pA of h g) (fun p q r h g e=>zT of h g e) (fun p q h g e=>G0 h0 of h g e) vc (fun p h=>h.1) of ot
   (fun y hy=>⟨XT (hL y hy).1 (hL y hy).2,(hL y hy).2⟩) (fun y h=>FU of h) hd
  have ox:OnK k x:=⟨gx,bD.1 j1⟩
  have b1:(Cv.arc k w p q).ord p x≤0:=j2
  have b2:(Cv.arc k w p q).ord x q≤0:=j3
  have n1:cP p x≠0:=i2
  have n2:cP q x≠0:=i3
  rw[nw] at b1 b2
  have hl2:=hpq
  rw[nw] at hl2
  have a1:=eo (b8 op) (b8 ox)
  have a2:=eo (b8 oq) (b8 ox)
  obtain⟨r1,r2⟩:=Kj (YH w h0) (of.by w) (op.by w) (oq.by w) (ox.by w) hl2 b1 b2 (fun e=>n1 (by have:=(GQ w (b8 ox) (b8 op)).1 e;omega)) (fun e=>n2 (by have:=(GQ w (b8 ox) (b8 oq)).1 e;omega))
  rw[←nw (t:=t)] at r1 r2
  obtain⟨k1,k2,k3⟩:=key x ox r1 r2
  have m1:=uM vc.g of.1 gx k1
  have m2:=uM vc.g gx ot.1 k2
  have a3:=eo (bz gx) (b8 ot)
  exact⟨mM.2 ⟨zg.2 ⟨j1,q5 k1,q5 k2⟩,m1,by show cP t x≠0;omega⟩,k3⟩
def Cv.bas:Cv→Cv
 | .seg l _ _=>.seg l dPt dPt
 | .arc k _ _ _=>.arc k true dPt dPt
theorem vv (c d:Cv):j9 c d=j9 c.bas d.bas:=by cases c<;>cases d<;>rfl
theorem Ge (c:Cv) (p q:Pt):(c.ends p q).bas=c.bas:=by cases c<;>rfl
theorem SS (c:Cv):c.rev.bas=c.bas:=by cases c<;>rfl
theorem TO (c:Cv):c.fwd.bas=c.bas:=by
 unfold Cv.fwd;split
 ·exact SS c
 ·rfl
theorem Aq (h:i7 c d=true):j9 c d=[]:=by
 cases c with
 |seg l f t=>
  cases d with
  |arc k w f2 t2=>cases h
  |seg m f2 t2=>
   have h:(tD (l.a*m.b) (l.b*m.a)&&tD (l.a*m.c) (l.c*m.a)&&tD (l.b*m.c) (l.c*m.b))=true:=h
   rw[dT,dT] at h
   have e:=OV h.1.1
   show ko l m=[]
   unfold ko rQ
   rw[if_neg]
   rw[show l.a*m.b-m.a*l.b=0 by grind,gF];decide
 |arc k w f t=>
  cases d with
  |seg m f2 t2=>cases h
  |arc k2 w2 f2 t2=>
   have h:(tD k.x k2.x&&tD k.y k2.y&&tD k.q k2.q)=true:=h
   show ob k k2=[]
   unfold ob tg
   grind
theorem Eq (h:c.bas=d.bas):j9 c d=[]:=by
 rw[vv,h]
 refine Aq ?_
 cases d with
 |seg l f t=>
  show(tD (l.a*l.b) (l.b*l.a)&&tD (l.a*l.c) (l.c*l.a)&&tD (l.b*l.c) (l.c*l.b))=true
  rw[DP (by grind),DP (by grind),DP (by grind)];rfl
 |arc k w f t=>
  show(tD k.x k.x&&tD k.y k.y&&tD k.q k.q)=true
  rw[DP rfl,DP rfl,DP rfl];rfl
theorem Mz (vd:CvV d) {x:Pt}(gx:GP x) (h:d.fwd.inner x=true):d.inner x=true:=by
 unfold Cv.fwd at h
 split at h
 ·cases d with
  |arc k w f t=>
   have hs:=o5 (mM.1 h).1
   rw[←zF vd.pos (TK vd).1 (TK vd).2 ⟨gx,(bD (k:=k) (w:= !w) (f:=t) (t:=f)).1 hs⟩]
   exact h
  |seg l f t=>
   rename_i hc
   have hc:cP f t>0:=of_decide_eq_true hc
   obtain⟨h1,h2,h3⟩:=mM.1 h
   obtain⟨j1,j2,j3⟩:=zg.1 h1
   have j2:(Cv.seg l t f).ord t x≤0:=j2
   have j3:(Cv.seg l t f).ord x f≤0:=j3
   have a0:=eo (bz vd.g.2.1) (bz vd.g.2.2)
   have a1:=eo (bz vd.g.2.1) (bz gx)
   have a2:=eo (bz vd.g.2.2) (bz gx)
   rw[y7,if_neg (by omega)] at j2 j3
   refine mM.2 ⟨zg.2 ⟨j1,?_,?_⟩,h3,h2⟩
   ·show(Cv.seg l f t).ord f x≤0
    rw[y7,if_pos hc];omega
   ·show(Cv.seg l f t).ord x t≤0
    rw[y7,if_pos hc];omega
 grind
theorem NA (ve:CvV e) (hc:c∈oG e) {x:Pt}(gx:GP x) (h:c.inner x=true):e.inner x=true∧c.bas=e.bas:=by
 obtain⟨d,hd,rfl⟩:=u7 hc
 have h2:=Mz (s7 ve d hd) gx h
 rw[TO]
 unfold bk at hd
 split at hd
 ·obtain⟨p,q,_,_,e2⟩:=yV hd
  exact⟨(Iw ve (fun y hy=>fg ve y hy) hd gx h2).1,by rw[e2,Ge]⟩
 grind
theorem DN: ∀(L:List Pt) {S:List Pt},(∀y∈L,0≤y.c)→(∀y∈S,y∈L.foldl (gg c) S)∧ ∀y∈L,∃z∈L.foldl (gg c) S,cP z y=0
 |[],S,_=>⟨fun y hy=>hy,fun y hy=>by cases hy⟩
 |x::L,S,hL=>by
  obtain⟨h2,h3⟩:=DN L (S:=gg c S x) (fun y hy=>hL y (by simp[hy]))
  obtain⟨g1,y,g2,g3⟩:=xX (c:=c) (x:=x) (hL x (by simp)) (S:=S)
  rw[uU]
  refine⟨fun z hz=>h2 z (g1 z hz),fun z hz=>?_⟩
  rcases gD.1 hz with e|e
  ·rw[e];exact⟨y,h2 y g2,g3⟩
  ·exact h3 z e
theorem vq {a b:Cv}(va:CvV a) (vb:CvV b) (he:e∈fk a (cG a b)) (hc:c∈oG e) {x:Pt}(gx:GP x) (h:c.inner x=true):a.on x=true∧c.bas=a.bas∧ ∀y∈cG a b,cP y x≠0:=by
 have hL: ∀y∈cG a b,GP y∧a.on y=true:=fun y hy=>⟨pv va.g vb.g y hy,yh y hy⟩
 have ve:CvV e:=yK va (fun y hy=>(hL y hy).1) (fun y hy=>o5 (hL y hy).2) e he
 obtain⟨h1,h2⟩:=NA ve hc gx h
 obtain⟨g1,g2⟩:=Iw va hL he gx h1
 obtain⟨p,q,_,_,e2⟩:=yV he
 exact⟨(mM.1 g1).1,by rw[h2,e2,Ge],g2⟩
theorem QQ {a b:Cv}(va:CvV a) (vb:CvV b) {x:Pt}(_gx:GP x) (ha:a.on x=true) (hb:b.on x=true) (hm: ∀y∈cG a b,cP y x≠0): ¬x∈j9 a b:=fun hx=>by
 cases hs:i7 a b with
 |true=>rw[Aq hs] at hx;cases hx
 |false=>
  have h1:x∈(bh a b).filter (dM a b):=by
   rw[Ir hs]
   unfold dM
   grind
  obtain⟨z,hz,e⟩:=(DN (c:=a) ((bh a b).filter (dM a b)) (S:=[]) (fun y hy=>bz (zj va.g vb.g y (zi.1 hy).1))).2 x h1
  exact hm z hz e
theorem Qd {a b:Cv}(va:CvV a) (vb:CvV b) (hc:c∈jn (d9 a b)) (hd:d∈jn (d9 a b)) {x:Pt}(gx:GP x) (ic:c.inner x=true) (id:d.inner x=true): ¬x∈j9 c d:=fun hx=>by
 obtain⟨e,he,hc⟩:=List.mem_flatMap.1 hc
 obtain⟨e',he',hd⟩:=List.mem_flatMap.1 hd
 rcases lj.1 he with h|h<;>rcases lj.1 he' with g|g
 ·obtain⟨_,b1,_⟩:=vq va vb h hc gx ic
  obtain⟨_,b2,_⟩:=vq va vb g hd gx id
  rw[Eq (b1.trans b2.symm)] at hx;cases hx
 ·obtain⟨a1,b1,m1⟩:=vq va vb h hc gx ic
  obtain⟨a2,b2,_⟩:=vq vb va g hd gx id
  rw[vv,b1,b2,←vv] at hx
  exact QQ va vb gx a1 a2 m1 hx
 ·obtain⟨a1,b1,m1⟩:=vq vb va h hc gx ic
  obtain⟨a2,b2,_⟩:=vq va vb g hd gx id
  rw[vv,b1,b2,←vv] at hx
  exact QQ vb va gx a1 a2 m1 hx
 ·obtain⟨_,b1,_⟩:=vq vb va h hc gx ic
  obtain⟨_,b2,_⟩:=vq vb va g hd gx id
  rw[Eq (b1.trans b2.symm)] at hx;cases hx
theorem xF {x:Pt}(ho:c.on x=true) (gc:c.good) (gx:GP x) (h1:cx c.p x<0) (h2:cx x c.q<0):c.inner x=true:=by
 have a:=eo (bz gx) (bz (dy gc))
 have e2:=MX (p:=x) (q:=c.q) (by omega)
 exact mM.2 ⟨ho,by rw[MX (by omega)];omega,by omega⟩
section
variable {a b c d:Cv}(va:CvV a) (vb:CvV b) (hc:c∈t6 a b) (hd:d∈t6 a b) {x:Rat}(nc:c.vert=false) (nd:d.vert=false)
include va vb hc hd nc nd
theorem Mh (e0:cP c.p d.p=0) (h1:lp c.p x<0) (h2:0<lp c.q x) (h3:0<lp d.q x):cy (r9 c x) (r9 d x)=rc c d:=by
 have mc:=u9 hc
 have md:=u9 hd
 have V: ∀e∈jn (d9 a b),CvV e∧e.mono=true:=fun e he=>by
  obtain⟨u,hu,he⟩:=List.mem_flatMap.1 he
  have vu:=zU va vb u hu
  exact⟨IL vu e he,Aa vu e he⟩
 obtain⟨vc,oc⟩:=V c mc
 obtain⟨vd,od⟩:=V d md
 exact MM vc vd oc od nc nd e0 h1 h2 h3 fun A mA gA s1 s2 k1 k2 k3 k4=>Qd va vb mc md gA (xF s1 vc.g gA k1 k2) (xF s2 vd.g gA k3 k4) mA
theorem Pk (e0:cP c.q d.q=0) (h1:0<lp c.q x) (h2:lp c.p x<0) (h3:lp d.p x<0):cy (r9 c x) (r9 d x)=AH c d:=by
 have mc:=u9 hc
 have md:=u9 hd
 have V: ∀e∈jn (d9 a b),CvV e∧e.mono=true:=fun e he=>by
  obtain⟨u,hu,he⟩:=List.mem_flatMap.1 he
  have vu:=zU va vb u hu
  exact⟨IL vu e he,Aa vu e he⟩
 obtain⟨vc,oc⟩:=V c mc
 obtain⟨vd,od⟩:=V d md
 exact N0 vc vd oc od nc nd e0 h1 h2 h3 fun A mA gA s1 s2 k1 k2 k3 k4=>Qd va vb mc md gA (xF s1 vc.g gA k1 k2) (xF s2 vd.g gA k3 k4) mA
end
theorem jf {U:Re}(hX:0≤aw X) (h:cH Y U):cH (X*Y) (X*U):=by
 unfold cH at*
 rw[show X*U-X*Y=X*(U-Y) from aS fun k=>by simp only[ak,am];grind,aQ]
 exact f9 hX h
theorem kh {x y z:Re}(h:aw (y-z)=0) (g:cH x y):cH x z:=by
 unfold cH at*
 rw[←dJ (x:=y-x) (y:=z-x) (by rw[show y-x-(z-x)=y-z from aS fun k=>by simp only[ak];grind];exact h)]
 grind
theorem TE {x y:Re}(h:cH x y):cH (-y) (-x):=by
 unfold cH at*
 rw[show-x- -y=y-x from aS fun k=>by simp only[ak,aD];grind];exact h
theorem iy (x:Re):cH x x:=by
 unfold cH
 have h:aw (Re.of 0)=0:=by rw[cj];decide
 rw[show x-x=Re.of 0 from aS fun k=>by simp only[ak,aE];grind,h];exact mV _
theorem LK {W:Re}{e:Rat}(hX:aw X=1) (hw:aw (X*Y-W)=0) (hU1:cH Y (Re.of U)) (hU2:cH (-Y) (Re.of U)) (he:cH (Re.of e) W∨cH (Re.of e) (-W)):cH (Re.of e) (Re.of U*X):=by
 have hc:Re.of U*X=X*Re.of U:=aS fun k=>by simp only[am];grind
 rw[hc]
 rcases he with he|he
 ·have h1:aw (W-X*Y)=0:=by rw[show W-X*Y= -(X*Y-W) from aS fun k=>by simp only[ak,aD];grind,br,hw];rfl
  exact fb (kh h1 he) (jf (by omega) hU1)
 ·have h1:aw (-W-X* -Y)=0:=by rw[show-W-X* -Y=X*Y-W from aS fun k=>by simp only[ak,aD,am];grind];exact hw
  exact fb (kh h1 he) (jf (by omega) hU2)
theorem IS (h:Rz k x) (hx:0<x):1/((pw k:Int):Rat)≤x:=by
 have hp:=dw k
 have hpr:(0:Rat)<((pw k:Int):Rat):=kO.2 hp
 apply gT
 intro hn
 have h1:=y6 (show x<1/((pw k:Int):Rat) by grind) hpr
 have hd:=den_pos x
 have hdr:(0:Rat)<((x.den:Int):Rat):=kO.2 hd
 have h2:((x.den:Int):Rat)≤((pw k:Int):Rat):=gm.2 (by obtain⟨g1,g2⟩:=h.d;omega)
 have h3:=wV h2 (show 0≤x by grind)
 rw[t5] at h3
 have h0:0<x.num:=by
  have:=sS hx hdr
  rw[t5] at this
  exact kO.1 (show((0:Int):Rat)<((x.num:Int):Rat) from this)
 have h4:((1:Int):Rat)≤((x.num:Int):Rat):=gm.2 (by omega)
 grind
theorem yP (h:Rz k x):x≤((pw k:Int):Rat)∧ -((pw k:Int):Rat)≤x:=by
 have hd:=den_pos x
 have hdr:((1:Int):Rat)≤((x.den:Int):Rat):=gm.2 (by omega)
 have hn1:((x.num:Int):Rat)≤((pw k:Int):Rat):=gm.2 (by obtain⟨g1,g2⟩:=h.n;omega)
 have hn2:((-(pw k):Int):Rat)≤((x.num:Int):Rat):=gm.2 (by obtain⟨g1,g2⟩:=h.n;omega)
 have e:=t5 x
 constructor
 ·apply gT
  intro hn
  have h1:=wV hdr (show 0≤x by grind)
  grind
 ·apply gT
  intro hn
  have h1:=wV hdr (show 0≤ -x by grind)
  grind
theorem abb (h:0≤M):cH (Re.rt M) (Re.of (M+1)):=by
 refine pQ (u5 M) (by rw[cj];exact kH (by grind)) ?_
 have e:aw (Re.of (M+1)*Re.of (M+1)-Re.rt M*Re.rt M)=aw (Re.of ((M+1)*(M+1)-M)):=dJ (by
  rw[show Re.of (M+1)*Re.of (M+1)-Re.rt M*Re.rt M-Re.of ((M+1)*(M+1)-M)= -(Re.rt M*Re.rt M-Re.of M) from aS fun k=>by simp only[ak,am,aE,aD];grind,br,ng h];rfl)
 rw[e,cj]
 exact kH (by have:=jW h h;grind)
theorem JB (h:0≤M) (h1:b*(M+1)≤V) (h0:0≤V):cH (Re.of b*Re.rt M) (Re.of V):=by
 by_cases hb:0≤b
 ·have:=jf (X:=Re.of b) (by rw[cj];exact kH hb) (abb h)
  exact fb this (by rw[fK];exact of_le h1)
 ·have h2:cH (Re.of b*Re.rt M) (Re.of 0):=by
   unfold cH
   rw[show Re.of 0-Re.of b*Re.rt M=Re.of (-b)*Re.rt M from aS fun k=>by simp only[ak,am,aE];grind,aQ]
   exact f9 (by rw[cj];exact kH (by grind)) (u5 M)
  exact fb h2 (of_le h0)
theorem Ll (h:0≤M) (h1:b*(M+1)≤U-a) (h0:a≤U):cH (aA a b M) (Re.of U):=by
 have:=JB (b:=b) h h1 (by grind)
 have h2:=fH (iy (Re.of a)) this
 unfold aA
 refine fb h2 ?_
 rw[show Re.of a+Re.of (U-a)=Re.of U from aS fun k=>by simp only[ao,aE];grind]
 exact iy _
theorem Mx (h:0≤M):aw (aA a b M*aA a (-b) M-Re.of (a*a-b*b*M))=0:=by
 rw[show aA a b M*aA a (-b) M-Re.of (a*a-b*b*M)=Re.of (-(b*b))*(Re.rt M*Re.rt M-Re.of M) from aS fun k=>by simp only[aA,ak,am,aE,ao];grind,aQ,ng h,mH]
theorem jK (a b M:Rat):aA (-a) (-b) M= -(aA a b M):=aS fun k=>by simp only[aA,ao,am,aE,aD];grind
theorem F6 (a b:Nat):((pw (a+b):Int):Rat)=((pw a:Int):Rat)*((pw b:Int):Rat):=by rw[←eg,pP]
theorem oU (k:Nat):(0:Rat)<((pw k:Int):Rat):=kO.2 (dw k)
theorem Fe (k:Nat):(1:Rat)≤((pw k:Int):Rat):=by
 have h:((1:Int):Rat)≤((pw k:Int):Rat):=gm.2 (by have:=dw k;omega)
 grind
theorem O1 {c C:Rat}(h1:b≤B) (h2: -B≤b) (c0:0≤c) (c1:c≤C):b*c≤B*C∧ -(B*C)≤b*c:=by
 have g1:b*c≤B*c:=tW h1 c0
 have g2:B*c≤B*C:=wV c1 (by grind)
 have g3: -B*c≤b*c:=tW h2 c0
 grind
theorem Fr (ha:Rz ka a) (hb:Rz kb b) (hm:Rz km M) (h0:0≤M) (hU:((pw ka:Int):Rat)+((pw kb:Int):Rat)*(((pw km:Int):Rat)+1)≤U):cH (aA a b M) (Re.of U)∧cH (-(aA a b M)) (Re.of U):=by
 obtain⟨a1,a2⟩:=yP ha
 obtain⟨b1,b2⟩:=yP hb
 obtain⟨m1,_⟩:=yP hm
 obtain⟨g1,g2⟩:=O1 (c:=M+1) (C:=((pw km:Int):Rat)+1) b1 b2 (by grind) (by grind)
 refine⟨Ll h0 (by grind) (by grind),?_⟩
 rw[←jK]
 exact Ll h0 (by grind) (by grind)
theorem WH (hx:0<x) (h:x≤y):1/y≤1/x:=by
 apply gT
 intro hn
 have h0:0<1/y:=by
  apply gT
  intro hc
  have:=tW (show 1/y≤0 by grind) (show 0≤y by grind)
  grind
 have h1:=y6 (show 1/x<1/y by grind) hx
 have h2:=wV h (show 0≤1/y by grind)
 grind
theorem Yh (h:0<a):a≤2*a:=by grind
theorem PN (h:x<0):0< -x:=by grind
theorem Uz (h:0<2*a):0<a:=by grind
theorem Kk {c:Rat}(h:0≤c):0≤c+1:=by grind
theorem Sx {c d:Rat}(h:c≤d):c+1≤d+1:=by grind
theorem Tm (h: -y≤x): -x≤y:=by grind
theorem SQ (h:aR x 0=1):0<x:=by
 unfold aR at h
 split at h
 ·cases h
 grind
theorem yX (h:0<x):0≤x:=by grind
theorem Wq (h:x≠0):x<0∨0<x:=by grind
theorem E8 {v:Re}(h:aw u=0) (g:aw v=0):aw (u+v)=0:=by
 rw[dJ (x:=u+v) (y:=v) (by rw[show u+v-v=u from aS fun k=>by simp only[ak,ao];grind];exact h)]
 grind
theorem SY (a b:Nat):1/((pw (a+b):Int):Rat)*((pw b:Int):Rat)=1/((pw a:Int):Rat):=by
 have h2:=oU b
 rw[F6]
 grind
theorem Lt {a b:Nat}(h:cH (Re.of (1/((pw a:Int):Rat))) (Re.of ((pw b:Int):Rat)*X)):cH (Re.of (1/((pw (a+b):Int):Rat))) X:=by
 refine rO (oU b) ?_
 rw[fK,Rat.mul_comm,SY]
 grind
theorem J8 {a b:Nat}(h:a≤b):1/((pw b:Int):Rat)≤1/((pw a:Int):Rat):=WH (oU a) (gm.2 (mJ h))
theorem pw1:((pw 1:Int):Rat)=1000000000:=by
 have:pw 1=1000000000:=by decide+kernel
 rw[this];rfl
theorem EZ (ka kb km:Nat):((pw ka:Int):Rat)+((pw kb:Int):Rat)*(((pw km:Int):Rat)+1)≤((pw (ka+kb+km+1):Int):Rat):=by
 rw[F6,F6,F6,pw1]
 have a:=Fe ka
 have b:=Fe kb
 have m:=Fe km
 generalize ((pw ka:Int):Rat)=x at*
 generalize ((pw kb:Int):Rat)=y at*
 generalize ((pw km:Int):Rat)=z at*
 have h1:=wV b (show 0≤x by grind)
 have h2:=wV m (show 0≤x*y by grind)
 have h3:=tW a (show 0≤y by grind)
 have h4:=tW h3 (show 0≤z by grind)
 grind
def K2 (ka kb km:Nat):Nat:=(ka+ka+(kb+kb+km)+1)+(ka+kb+km+1)
theorem P4 (ha:Rz ka a) (hb:Rz kb b) (hm:Rz km M) (h0:0≤M) (hX:aw (aA a b M)=1):cH (Re.of (1/((pw (K2 ka kb km):Int):Rat))) (aA a b M):=by
 have hr:Rz (ka+ka+(kb+kb+km)+1) (a*a-b*b*M):=(ha.mul ha).sub ((hb.mul hb).mul hm)
 obtain⟨u1,u2⟩:=Fr ha hb.neg hm h0 (EZ ka kb km)
 have hc:=Mx (a:=a) (b:=b) h0
 by_cases hz:a*a-b*b*M=0
 ·--the conjugate is 0
  have hY:aw (aA a (-b) M)=0:=by
   have h1:aw (aA a b M*aA a (-b) M)=0:=by
    rw[dJ hc,cj,hz];decide
   rw[aQ,hX,m8] at h1
   grind
  have h2:aw (aA a b M-Re.of (2*a))=0:=by
   rw[show aA a b M-Re.of (2*a)= -(aA a (-b) M) from aS fun k=>by simp only[aA,ak,ao,am,aE,aD];grind,br,hY];rfl
  have h3:aw (Re.of (2*a))=1:=by rw[←dJ h2];exact hX
  have ha0:0<a:=Uz (SQ (by rw[←cj];exact h3))
  have h4:=IS ha ha0
  have h5:=J8 (a:=ka) (b:=K2 ka kb km) (by unfold K2;omega)
  have h6:cH (Re.of (1/((pw (K2 ka kb km):Int):Rat))) (Re.of (2*a)):=of_le (Rat.le_trans h5 (Rat.le_trans h4 (Yh ha0)))
  refine kh ?_ h6
  rw[show Re.of (2*a)-aA a b M= -(aA a b M-Re.of (2*a)) from aS fun k=>by simp only[ak,aD];grind,br,h2];rfl
 ·refine Lt (LK hX hc u1 u2 ?_)
  rcases Wq hz with h|h
  ·right
   rw[show-Re.of (a*a-b*b*M)=Re.of (-(a*a-b*b*M)) from aS fun k=>by simp only[aD,aE]]
   exact of_le (IS hr.neg (PN h))
  ·left
   exact of_le (IS hr h)
theorem abL (ha:Rz ka a) (hb:Rz kb b) (hm:Rz km M) (h0:0≤M) (hX:aw (aA a b M)≠0):cH (Re.of (1/((pw (K2 ka kb km):Int):Rat))) (aA a b M)∨cH (Re.of (1/((pw (K2 ka kb km):Int):Rat))) (-(aA a b M)):=by
 rcases aU (aA a b M) with h|h|h
 ·exact .inl (P4 ha hb hm h0 h)
 ·grind
 ·right
  rw[←jK]
  exact P4 ha.neg hb.neg hm h0 (by rw[jK,br,h];rfl)
def K4 (kA kB kC kM kN:Nat):Nat:=K2 (kA+kA+(kB+kB+kM)+1+(kC+kC+kN)+1) (1+(kA+kB)) kM+(kA+kB+kM+1+kC+kN+1)
theorem SO (kA kB kC kM kN:Nat):((pw (kA+kB+kM+1):Int):Rat)+((pw kC:Int):Rat)*(((pw kN:Int):Rat)+1)≤((pw (kA+kB+kM+1+kC+kN+1):Int):Rat):=EZ _ kC kN
theorem ab2 {kA kB kC kM kN:Nat}{A C N:Rat}(hA:Rz kA A) (hB:Rz kB B) (hC:Rz kC C) (hM:Rz kM M) (hN:Rz kN N) (m0:0≤M) (n0:0≤N) (hX:aw (mn A B C 0 M N)=1):cH (Re.of (1/((pw (K4 kA kB kC kM kN):Int):Rat))) (mn A B C 0 M N):=by
 have two:Rz 1 (2:Rat):=qe (by decide+kernel)
 have hw1:Rz (kA+kA+(kB+kB+kM)+1+(kC+kC+kN)+1) (A*A+B*B*M-C*C*N):=((hA.mul hA).add ((hB.mul hB).mul hM)).sub ((hC.mul hC).mul hN)
 have hw2:Rz (1+(kA+kB)) (2*(A*B)):=two.mul (hA.mul hB)
 have hconj:aw (mn A B C 0 M N*mn A B (-C) 0 M N-aA (A*A+B*B*M-C*C*N) (2*(A*B)) M)=0:=by
  rw[show mn A B C 0 M N*mn A B (-C) 0 M N-aA (A*A+B*B*M-C*C*N) (2*(A*B)) M=Re.of (B*B)*(Re.rt M*Re.rt M-Re.of M)+Re.of (-(C*C))*(Re.rt N*Re.rt N-Re.of N) from aS fun k=>by simp only[mn,aA,ak,am,aE,ao];grind]
  refine E8 ?_ ?_
  ·rw[aQ,ng m0,mH]
  ·rw[aQ,ng n0,mH]
 have hP:=EZ kA kB kM
 obtain⟨u1,u2⟩:=Fr hA hB hM m0 hP
 obtain⟨c1,c2⟩:=yP hC
 obtain⟨k1,_⟩:=yP hN
 obtain⟨g1,g2⟩:=O1 (c:=N+1) (C:=((pw kN:Int):Rat)+1) c1 c2 (Kk n0) (Sx k1)
 have hQ0:=jW (yX (oU kC)) (Kk (yX (oU kN)))
 have v1:cH (Re.of C*Re.rt N) (Re.of (((pw kC:Int):Rat)*(((pw kN:Int):Rat)+1))):=JB n0 g1 hQ0
 have v2:cH (Re.of (-C)*Re.rt N) (Re.of (((pw kC:Int):Rat)*(((pw kN:Int):Rat)+1))):=JB n0 (by rw[Rat.neg_mul];exact Tm g2) hQ0
 have hS:=of_le (SO kA kB kC kM kN)
 have up1:cH (mn A B (-C) 0 M N) (Re.of ((pw (kA+kB+kM+1+kC+kN+1):Int):Rat)):=by
  refine fb ?_ hS
  have:=fH u1 v2
  rw[show mn A B (-C) 0 M N=aA A B M+Re.of (-C)*Re.rt N from aS fun k=>by simp only[mn,aA,am,aE,ao];grind,
   show Re.of (((pw (kA+kB+kM+1):Int):Rat)+((pw kC:Int):Rat)*(((pw kN:Int):Rat)+1))=Re.of ((pw (kA+kB+kM+1):Int):Rat)+Re.of (((pw kC:Int):Rat)*(((pw kN:Int):Rat)+1)) from aS fun k=>by simp only[aE,ao]]
  grind
 have up2:cH (-(mn A B (-C) 0 M N)) (Re.of ((pw (kA+kB+kM+1+kC+kN+1):Int):Rat)):=by
  refine fb ?_ hS
  have:=fH u2 v1
  rw[show-(mn A B (-C) 0 M N)= -(aA A B M)+Re.of C*Re.rt N from aS fun k=>by simp only[mn,aA,am,aE,ao,aD];grind,
   show Re.of (((pw (kA+kB+kM+1):Int):Rat)+((pw kC:Int):Rat)*(((pw kN:Int):Rat)+1))=Re.of ((pw (kA+kB+kM+1):Int):Rat)+Re.of (((pw kC:Int):Rat)*(((pw kN:Int):Rat)+1)) from aS fun k=>by simp only[aE,ao]]
  grind
 by_cases hz:aw (aA (A*A+B*B*M-C*C*N) (2*(A*B)) M)=0
 ·have hY:aw (mn A B (-C) 0 M N)=0:=by
   have h1:aw (mn A B C 0 M N*mn A B (-C) 0 M N)=0:=by rw[dJ hconj];exact hz
   rw[aQ,hX,m8] at h1
   grind
  have h2:aw (mn A B C 0 M N-Re.of 2*aA A B M)=0:=by
   rw[show mn A B C 0 M N-Re.of 2*aA A B M= -(mn A B (-C) 0 M N) from aS fun k=>by simp only[mn,aA,ak,ao,am,aE,aD];grind,br,hY];rfl
  have h3:aw (aA A B M)=1:=by
   have h4:=dJ h2
   rw[hX,aQ,cj,show aR 2 0=1 from by decide,m8] at h4
   grind
  have h4:=P4 hA hB hM m0 h3
  have h5:cH (aA A B M) (Re.of 2*aA A B M):=by
   unfold cH
   rw[show Re.of 2*aA A B M-aA A B M=aA A B M from aS fun k=>by simp only[ak,am,aE];grind,h3];decide
  have h6:cH (Re.of (1/((pw (K4 kA kB kC kM kN):Int):Rat))) (aA A B M):=fb (of_le (J8 (by unfold K4 K2;omega))) h4
  refine kh ?_ (fb h6 h5)
  rw[show Re.of 2*aA A B M-mn A B C 0 M N= -(mn A B C 0 M N-Re.of 2*aA A B M) from aS fun k=>by simp only[ak,aD];grind,br,h2];rfl
 ·exact Lt (LK hX hconj up1 up2 (abL hw1 hw2 hM m0 hz))
structure Mob (A0 B0 C:Rat) (p q r s:Int) (A B:Rat):Prop where
 e1:((p:Rat)-(r:Rat)*A0)*A-(r:Rat)*B0*B*C=(s:Rat)*A0-(q:Rat)
 e2:((p:Rat)-(r:Rat)*A0)*B-(r:Rat)*B0*A=(s:Rat)*B0
 det:p*s-q*r=1∨p*s-q*r= -1
section
variable {A0 B0 C A B:Rat}{p q r s:Int}
theorem Mob.init (A0 B0 C:Rat):Mob A0 B0 C 1 0 0 1 A0 B0:=by
 refine⟨?_,?_,.inl (by decide)⟩
 ·grind
 grind
theorem Mob.shift (h:Mob A0 B0 C p q r s A B) (n:Int):Mob A0 B0 C p (p*n+q) r (r*n+s) (A-(n:Rat)) B:=by
 obtain⟨e1,e2,hd⟩:=h
 refine⟨?_,?_,?_⟩
 ·grind
 ·grind
 grind
theorem Mob.inv (h:Mob A0 B0 C p q r s A B) {w:Rat}(hw:(A*A-B*B*C)*w=1):Mob A0 B0 C q p s r (A*w) (-B*w):=by
 obtain⟨e1,e2,hd⟩:=h
 refine⟨?_,?_,?_⟩
 ·grind
 ·grind
 grind
theorem Mob.sol (h:Mob A0 B0 C p q r s A B):A*(((p:Rat)-(r:Rat)*A0)*((p:Rat)-(r:Rat)*A0)-(r:Rat)*(r:Rat)*(B0*B0*C))=((s:Rat)*A0-(q:Rat))*((p:Rat)-(r:Rat)*A0)+(s:Rat)*(r:Rat)*(B0*B0*C)∧
 B*(((p:Rat)-(r:Rat)*A0)*((p:Rat)-(r:Rat)*A0)-(r:Rat)*(r:Rat)*(B0*B0*C))=B0*((p*s-q*r:Int):Rat):=by
 obtain⟨e1,e2,hd⟩:=h
 grind
theorem Mob.ne (h:Mob A0 B0 C p q r s A B) (_hv:B0≠0→0<C∧jp C=false):((p:Rat)-(r:Rat)*A0)*((p:Rat)-(r:Rat)*A0)-(r:Rat)*(r:Rat)*(B0*B0*C)≠0:=by
 obtain⟨e1,e2,hd⟩:=h
 have hdr:((p*s-q*r:Int):Rat)≠0:=by
  rcases hd with hd|hd<;>rw[hd]<;>decide
 by_cases hb:B0=0
 ·grind
 grind
theorem Mob.sz (h:Mob A0 B0 C p q r s A B) (hv:B0≠0→0<C∧jp C=false) {m kp kq kr ks:Nat}(hA:Rz m A0) (hB:Rz m B0) (hC:Rz m C) (hp:Rz kp (p:Rat)) (hq:Rz kq (q:Rat)) (hr:Rz kr (r:Rat)) (hs:Rz ks (s:Rat)):
 Rz (((ks+m+kq+1)+(kp+(kr+m)+1)+(ks+kr+(m+m+m))+1)+((kp+(kr+m)+1)+(kp+(kr+m)+1)+(kr+kr+(m+m+m))+1)) A∧Rz ((m+1)+((kp+(kr+m)+1)+(kp+(kr+m)+1)+(kr+kr+(m+m+m))+1)) B:=by
 have hne:=h.ne hv
 obtain⟨s1,s2⟩:=h.sol
 have hd:=h.det
 have z1:=hp.sub (hr.mul hA)
 have z2:=(z1.mul z1).sub ((hr.mul hr).mul ((hB.mul hB).mul hC))
 have z3:=(((hs.mul hA).sub hq).mul z1).add ((hs.mul hr).mul ((hB.mul hB).mul hC))
 have z4:Rz 1 ((p*s-q*r:Int):Rat):=by rcases hd with hd|hd<;>rw[hd]<;>exact qe (by decide+kernel)
 have z5:=(hB.mul z4).div z2 hne
 have z6:=z3.div z2 hne
 grind
theorem Mob.real (h:Mob A0 B0 C p q r s A B) (hc:0≤C):aw (aA A0 B0 C*(Re.of (r:Rat)*aA A B C+Re.of (s:Rat))-(Re.of (p:Rat)*aA A B C+Re.of (q:Rat)))=0:=by
 obtain⟨e1,e2,hd⟩:=h
 rw[show aA A0 B0 C*(Re.of (r:Rat)*aA A B C+Re.of (s:Rat))-(Re.of (p:Rat)*aA A B C+Re.of (q:Rat))=Re.of ((r:Rat)*B0*B)*(Re.rt C*Re.rt C-Re.of C) from aS fun k=>by simp only[aA,ak,ao,am,aE];grind,aQ,ng hc,mH]
end
theorem uQ (v:Re) (h:aw u=0):aw (v*u)=0:=by rw[aQ,h,mH]
theorem rU (h:aw u=0):aw (-u)=0:=by rw[br,h];rfl
theorem BI {x y z:Re}(h:aw (y-x)=0) (g:cH x z):cH y z:=by
 unfold cH at*
 rw[dJ (x:=z-y) (y:=z-x) (by rw[show z-y-(z-x)= -(y-x) from aS fun k=>by simp only[ak,aD];grind];exact rU h)]
 grind
theorem xZ {a b c d:Re}(ha:0≤aw c) (h:cH a b) (hb:0≤aw b) (g:cH c d):cH (a*c) (b*d):=by
 have h1:cH (c*a) (c*b):=jf ha h
 have h2:cH (b*c) (b*d):=jf hb g
 rw[show a*c=c*a from aS fun k=>by simp only[am];grind]
 rw[show c*b=b*c from aS fun k=>by simp only[am];grind] at h1
 exact fb h1 h2
theorem xh {x:Re}(h:cH (Re.of 0) x):0≤aw x:=by
 unfold cH at h
 rw[show x-Re.of 0=x from aS fun k=>by simp only[ak,aE];grind] at h;exact h
theorem xl {x:Re}(h:0≤aw x):cH (Re.of 0) x:=by
 unfold cH
 rw[show x-Re.of 0=x from aS fun k=>by simp only[ak,aE];grind];exact h
theorem D6 (h:0≤x):0≤aw (Re.of x):=by rw[cj];exact kH h
theorem Ag (h:0≤n):(0:Rat)≤(n:Rat):=by
 have:((0:Int):Rat)≤(n:Rat):=gm.2 h
 grind
theorem OO (h:0<x) :1/x*y*x=y:=by grind
theorem JC (h:0<x):0≤1/x:=by
 apply gT
 intro hc
 have:=tW (show 1/x≤0 by grind) (show 0≤x by grind)
 grind
section
variable {X Y V W Z Z':Re}{p q r s n:Int}
theorem FG (hr:0≤r) (h:cH (Re.of (n:Rat)) X):cH (Re.of ((r*n+s:Int):Rat)) (Re.of (r:Rat)*X+Re.of (s:Rat)):=by
 have h1:=jf (X:=Re.of (r:Rat)) (D6 (Ag hr)) h
 have h2:=fH h1 (iy (Re.of (s:Rat)))
 rw[show Re.of (r:Rat)*Re.of (n:Rat)+Re.of (s:Rat)=Re.of ((r*n+s:Int):Rat) from aS fun k=>by simp only[ao,am,aE,i5,eg]] at h2
 grind
theorem LN (hX:aw (V*(Re.of (r:Rat)*X+Re.of (s:Rat))-(Re.of (p:Rat)*X+Re.of (q:Rat)))=0) (hY:aw (W*(Re.of (r:Rat)*Y+Re.of (s:Rat))-(Re.of (p:Rat)*Y+Re.of (q:Rat)))=0):
 aw ((V-W)*((Re.of (r:Rat)*X+Re.of (s:Rat))*(Re.of (r:Rat)*Y+Re.of (s:Rat)))-Re.of ((p*s-q*r:Int):Rat)*(X-Y))=0:=by
 rw[show(V-W)*((Re.of (r:Rat)*X+Re.of (s:Rat))*(Re.of (r:Rat)*Y+Re.of (s:Rat)))-Re.of ((p*s-q*r:Int):Rat)*(X-Y)=
  (Re.of (r:Rat)*Y+Re.of (s:Rat))*(V*(Re.of (r:Rat)*X+Re.of (s:Rat))-(Re.of (p:Rat)*X+Re.of (q:Rat)))+ -((Re.of (r:Rat)*X+Re.of (s:Rat))*(W*(Re.of (r:Rat)*Y+Re.of (s:Rat))-(Re.of (p:Rat)*Y+Re.of (q:Rat)))) from
  aS fun k=>by simp only[ak,ao,am,aE,aD,n6,eg];grind]
 exact E8 (uQ _ hX) (rU (uQ _ hY))
theorem Cq {a b:Re}(h1:cH a (Re.of ((n+1:Int):Rat))) (h2:cH (Re.of (n:Rat)) b):cH (a-b) (Re.of 1):=by
 have:=fH h1 (TE h2)
 rw[show a+ -b=a-b from aS fun k=>by simp only[ak,ao,aD];try grind,show Re.of ((n+1:Int):Rat)+ -Re.of (n:Rat)=Re.of 1 from aS fun k=>by
  simp only[ao,aE,aD,i5];try grind] at this
 grind
theorem DC (hr:0≤r) (hs:0≤s) (hn:0≤n) (hd:p*s-q*r=1∨p*s-q*r= -1)
 (hX:aw (V*(Re.of (r:Rat)*X+Re.of (s:Rat))-(Re.of (p:Rat)*X+Re.of (q:Rat)))=0) (hY:aw (W*(Re.of (r:Rat)*Y+Re.of (s:Rat))-(Re.of (p:Rat)*Y+Re.of (q:Rat)))=0)
 (x0:cH (Re.of (n:Rat)) X) (x1:cH X (Re.of ((n+1:Int):Rat))) (y0:cH (Re.of (n:Rat)) Y) (y1:cH Y (Re.of ((n+1:Int):Rat)))
 (he:cH (Re.of (1/((pw K:Int):Rat))) (V-W)):(r*n+s)*(r*n+s)≤pw K:=by
 have hR0:0≤r*n+s:=by have:=f9 hr hn;omega
 have e1:=LN hX hY
 have lx:=FG (s:=s) hr x0
 have ly:=FG (s:=s) hr y0
 have nR:=D6 (Ag hR0)
 have zx:0≤aw (Re.of (r:Rat)*X+Re.of (s:Rat)):=xh (fb (of_le (Ag hR0)) lx)
 have m1:=xZ nR lx zx ly
 have hp:=oU K
 have ie:(0:Rat)≤1/((pw K:Int):Rat):=JC hp
 have dp:0≤aw (V-W):=xh (fb (of_le ie) he)
 have nRR:0≤aw (Re.of ((r*n+s:Int):Rat)*Re.of ((r*n+s:Int):Rat)):=by rw[aQ];exact f9 nR nR
 have m2:=xZ nRR he dp m1
 have t1:cH (Re.of ((p*s-q*r:Int):Rat)*(X-Y)) (Re.of 1):=by
  rcases hd with hd|hd<;>rw[hd]
  ·rw[show Re.of ((1:Int):Rat)*(X-Y)=X-Y from aS fun k=>by
    have h1:((1:Int):Rat)=1:=rfl
    simp only[ak,am,aE,h1];grind]
   exact Cq x1 y0
  ·rw[show Re.of ((-1:Int):Rat)*(X-Y)=Y-X from aS fun k=>by
    have h1:((-1:Int):Rat)= -1:=rfl
    simp only[ak,am,aE,h1];grind]
   exact Cq y1 x0
 have m3:=fb m2 (BI e1 t1)
 rw[fK,fK,←eg] at m3
 have m4:=gK m3
 have m5:=tW m4 (yX hp)
 rw[OO hp,Rat.one_mul] at m5
 exact gm.1 m5
theorem Vi {U:Int}(hq:0≤q) (hs:0≤s) (hr:0≤r) (hX:aw (V*(Re.of (r:Rat)*X+Re.of (s:Rat))-(Re.of (p:Rat)*X+Re.of (q:Rat)))=0) (x1:cH (Re.of 1) X) (v0:0≤aw V) (v1:cH V (Re.of (U:Rat))):p≤U*(r+s):=by
 have xp:0<aw X:=by
  have h1:cH (Re.of 1) X:=x1
  rcases aU X with h|h|h
  ·omega
  ·exfalso
   have h2:cH (Re.of 1) (Re.of 0):=kh (by rw[show X-Re.of 0=X from aS fun k=>by simp only[ak,aE];grind];exact h) h1
   exact absurd (gK h2) (by decide)
  ·exfalso
   have h3:cH X (Re.of 0):=by unfold cH;rw[show Re.of 0-X= -X from aS fun k=>by simp only[ak,aE,aD];grind,br,h];decide
   exact absurd (gK (fb h1 h3)) (by decide)
 have a1:cH (Re.of (p:Rat)*X) (Re.of (p:Rat)*X+Re.of (q:Rat)):=by
  unfold cH
  rw[show Re.of (p:Rat)*X+Re.of (q:Rat)-Re.of (p:Rat)*X=Re.of (q:Rat) from aS fun k=>by simp only[ak,ao,aE];grind]
  exact D6 (Ag hq)
 have a2:=kh (z:=V*(Re.of (r:Rat)*X+Re.of (s:Rat))) (by rw[show Re.of (p:Rat)*X+Re.of (q:Rat)-V*(Re.of (r:Rat)*X+Re.of (s:Rat))= -(V*(Re.of (r:Rat)*X+Re.of (s:Rat))-(Re.of (p:Rat)*X+Re.of (q:Rat))) from aS fun k=>by simp only[ak,aD];grind];exact rU hX) a1
 have a3:cH (Re.of (r:Rat)*X+Re.of (s:Rat)) (Re.of ((r+s:Int):Rat)*X):=by
  have h1:=jf (X:=Re.of (s:Rat)) (D6 (Ag hs)) x1
  have h2:=fH (iy (Re.of (r:Rat)*X)) h1
  rw[show Re.of (s:Rat)*Re.of 1=Re.of (s:Rat) from aS fun k=>by simp only[am,aE];grind,show Re.of (r:Rat)*X+Re.of (s:Rat)*X=Re.of ((r+s:Int):Rat)*X from aS fun k=>by simp only[am,ao,aE,i5];grind] at h2
  grind
 have a4:=jf v0 a3
 have rsX:0≤aw (Re.of ((r+s:Int):Rat)*X):=by rw[aQ];exact f9 (D6 (Ag (by omega))) (by omega)
 have a5:cH (V*(Re.of ((r+s:Int):Rat)*X)) (Re.of (U:Rat)*(Re.of ((r+s:Int):Rat)*X)):=by
  have:=jf rsX v1
  rw[show Re.of ((r+s:Int):Rat)*X*V=V*(Re.of ((r+s:Int):Rat)*X) from aS fun k=>by simp only[am];grind,show Re.of ((r+s:Int):Rat)*X*Re.of (U:Rat)=Re.of (U:Rat)*(Re.of ((r+s:Int):Rat)*X) from aS fun k=>by simp only[am];grind] at this
  grind
 have a6:=fb a2 (fb a4 a5)
 unfold cH at a6
 rw[show Re.of (U:Rat)*(Re.of ((r+s:Int):Rat)*X)-Re.of (p:Rat)*X=Re.of ((U*(r+s)-p:Int):Rat)*X from aS fun k=>by simp only[ak,am,aE,n6,eg];grind,aQ] at a6
 apply gT
 intro hn
 have h7:aw (Re.of ((U*(r+s)-p:Int):Rat))= -1:=by
  rw[cj]
  unfold aR
  rw[if_pos (by
   have:((U*(r+s)-p:Int):Rat)<((0:Int):Rat):=kO.2 (by omega)
   exact this)]
 grind
end
def fr (p q:Int):Rat:=(p:Rat)/(q:Rat)
theorem sU (h:0<q):(0:Rat)<(q:Rat):=kO.2 h
theorem K8 (h:q≠0):(q:Rat)≠0:=fun e=>h (Rat.intCast_inj.1 (e.trans Rat.intCast_zero.symm))
theorem kP {p:Int}(h:0<q):fr p q*(q:Rat)=(p:Rat):=tH (K8 (by omega))
theorem yI {p:Int}(h:0<q) (e:x*(q:Rat)=(p:Rat)):fr p q=x:=by
 have h1:=kP (p:=p) h
 have h2:(fr p q-x)*(q:Rat)=0:=by grind
 rcases Rat.mul_eq_zero.1 h2 with h3|h3
 ·grind
 ·exact absurd h3 (K8 (by omega))
theorem WK (x:Rat):fr x.num (x.den:Int)=x:=yI (by have:=x.den_pos;omega) (by
 have:=Rat.num_divInt_den x
 rw[zp] at this
 have h2:=tH (a:=(x.num:Rat)) (b:=((x.den:Int):Rat)) (K8 (by have:=x.den_pos;omega))
 rw[this] at h2;exact h2)
structure TMin (S:Rat→Prop) (P Q:Int):Prop where
 p:0<P
 q:0<Q
 mem:S (fr P Q)
 min: ∀p q:Int,0<q→S (fr p q)→P≤p∧Q≤q
theorem yw (hP:0<P) (hQ:0<Q):fr (n*P+Q) P=(n:Rat)+1/fr P Q:=by
 refine yI hP ?_
 have h1:=kP (p:=P) hQ
 have h0:fr P Q≠0:=by
  have:=sU hP
  grind
 grind
theorem TMin.step (hn:0≤n) (h:TMin S' P Q) (h1: ∀x,S x↔(n:Rat)<x∧S' (1/(x-(n:Rat)))):TMin S (n*P+Q) P:=by
 have hP:=h.p
 have hQ:=h.q
 have hf:=kP (p:=P) hQ
 have hfp:0<fr P Q:=by
  apply gT
  intro hn
  have:=tW (show fr P Q≤0 by grind) (show 0≤(Q:Rat) by have:=sU hQ;grind)
  have:=sU hP
  grind
 have hi:1/fr P Q*fr P Q=1:=by grind
 have hip:0<1/fr P Q:=by
  apply gT
  intro hn
  have:=tW (show 1/fr P Q≤0 by grind) (show 0≤fr P Q by grind)
  grind
 refine⟨by have:=f9 hn (show 0≤P by omega);omega,hP,?_,fun p q hq hs=>?_⟩
 ·rw[h1,yw hP hQ]
  refine⟨by grind,?_⟩
  rw[show(n:Rat)+1/fr P Q-(n:Rat)=1/fr P Q by grind]
  rw[show 1/(1/fr P Q)=fr P Q from by
   have h3:1/(1/fr P Q)*(1/fr P Q)*fr P Q=fr P Q:=by grind
   rw[Rat.mul_assoc,hi,Rat.mul_one] at h3
   exact h3]
  exact h.mem
 ·obtain⟨g1,g2⟩:=(h1 _).1 hs
  have e1:=kP (p:=p) hq
  have hqp:=sU hq
  have hk:0<p-n*q:=by
   have:=y6 g1 hqp
   rw[e1,←eg] at this
   have:=kO.1 this
   omega
  have e2:fr q (p-n*q)=1/(fr p q-(n:Rat)):=by
   refine yI hk ?_
   grind
  rw[←e2] at g2
  obtain⟨m1,m2⟩:=h.min q (p-n*q) hk g2
  have:=nh m1 hn
  omega
theorem TMin.whole (hn:0≤n) (h1:S ((n+1:Int):Rat)) (h2: ∀x,S x→(n:Rat)<x):TMin S (n+1) 1:=by
 refine⟨by omega,by omega,?_,fun p q hq hs=>⟨?_,by omega⟩⟩
 ·rw[show fr (n+1) 1=((n+1:Int):Rat) from yI (by omega) (by rw[Rat.intCast_one,Rat.mul_one])];exact h1
 ·have e1:=kP (p:=p) hq
  have:=y6 (h2 _ hs) (sU hq)
  rw[e1,←eg] at this
  have h3:=kO.1 this
  have:=nh (show 1≤q by omega) hn
  omega
theorem TMin.den (h:TMin S P Q):(fr P Q).num=P∧((fr P Q).den:Int)=Q:=by
 have e:=WK (fr P Q)
 have hd:0<((fr P Q).den:Int):=by have:=(fr P Q).den_pos;omega
 have hm:=h.min (fr P Q).num ((fr P Q).den:Int) hd (by rw[e];exact h.mem)
 have h1:=kP (p:=P) h.q
 have h2:=kP (p:=(fr P Q).num) hd
 have h3:P*((fr P Q).den:Int)=(fr P Q).num*Q:=by
  have:((P*((fr P Q).den:Int):Int):Rat)=(((fr P Q).num*Q:Int):Rat):=by grind
  exact Rat.intCast_inj.1 this
 have h4:(fr P Q).num.natAbs∣P.natAbs*(fr P Q).den:=⟨Q.natAbs,by
  have:=congrArg Int.natAbs h3
  rw[zl,zl,Int.natAbs_natCast] at this
  exact this⟩
 have h5:=Nat.le_of_dvd (by have:=h.p;omega) (Nat.Coprime.dvd_of_dvd_mul_right (fr P Q).reduced h4)
 have hP:(fr P Q).num=P:=by have:=h.p;omega
 refine⟨hP,?_⟩
 rw[hP] at h3
 have:=h.p
 exact Int.eq_of_mul_eq_mul_left (by omega) h3
theorem Md (hc: ∀x y z:Rat,S x→S y→x≤z→z≤y→S z) {k:Int}(hQ:2≤Q) (hm:S (fr m Q)) (hk:S (fr k Q)) (hmin: ∀p q:Int,0<q→S (fr p q)→Q≤q):m=k:=by
 have key: ∀m k:Int,S (fr m Q)→S (fr k Q)→m<k→False:=by
  intro m k hm hk hlt
  have e1:Q*(m/Q)+m%Q=m:=q6 m Q
  have r0:0≤m%Q:=oO m (by omega)
  have r1:m%Q<Q:=nQ m (by omega)
  generalize m/Q=t at e1
  generalize m%Q=r at e1 r0 r1
  have hQ1:0<Q-1:=by omega
  have hfm:=kP (p:=m) (q:=Q) (by omega)
  have hfk:=kP (p:=k) (q:=Q) (by omega)
  have hfj:=kP (p:=t*(Q-1)+r) (q:=Q-1) hQ1
  have p1:=sU (show 0<Q by omega)
  have p2:=sU hQ1
  have le1:fr m Q≤fr (t*(Q-1)+r) (Q-1):=by
   apply gT
   intro hn
   have h1:=y6 (show fr (t*(Q-1)+r) (Q-1)<fr m Q by grind) (sS p1 p2)
   have h2:fr (t*(Q-1)+r) (Q-1)*((Q:Rat)*((Q-1:Int):Rat))=(((t*(Q-1)+r)*Q:Int):Rat):=by grind
   have h3:fr m Q*((Q:Rat)*((Q-1:Int):Rat))=((m*(Q-1):Int):Rat):=by grind
   rw[h2,h3] at h1
   have h4:=kO.1 h1
   have h5:(t*(Q-1)+r)*Q=m*(Q-1)+r:=by grind
   omega
  have le2:fr (t*(Q-1)+r) (Q-1)≤fr k Q:=by
   have h1:=y6 (show fr k Q<fr (t*(Q-1)+r) (Q-1) by grind) (sS p1 p2)
   have h2:fr (t*(Q-1)+r) (Q-1)*((Q:Rat)*((Q-1:Int):Rat))=(((t*(Q-1)+r)*Q:Int):Rat):=by grind
   have h3:fr k Q*((Q:Rat)*((Q-1:Int):Rat))=((k*(Q-1):Int):Rat):=by grind
   rw[h2,h3] at h1
   have h4:=kO.1 h1
   have h5:(t*(Q-1)+r)*Q=m*(Q-1)+r:=by grind
   have h6:=Int.mul_le_mul_of_nonneg_right (show m+1≤k by omega) (show 0≤Q-1 by omega)
   grind
  grind
 rcases qJ m k with h|h|h
 ·grind
 ·exact h
 grind
theorem Kr (h:aR x 0=0):x=0:=E3 (by rw[h];rfl)
section
variable {x y z:Rat}
theorem RO (hz:0≤z) (hv:y≠0→0<z):vp x y z=aw (aA x y z):=by
 rw[←fZ hz]
 unfold vp bi pj
 have e:aR y 0*aR z 0=aR y 0:=by
  by_cases hy:y=0
  ·subst hy;rw[show aR 0 0=0 from by decide];omega
  ·rw[show aR z 0=1 from by unfold aR;rw[if_neg (by have:=hv hy;grind),if_pos (hv hy)]];omega
 rw[e,lI]
end
def BW (a b:Re) (x:Rat):Prop:=aw (Re.of x-a)=1∧aw (b-Re.of x)=1
theorem xw (h:0<x):aw (Re.of x)=1:=by rw[cj];unfold aR;rw[if_neg (by grind),if_pos h]
theorem y9 {u':Re}(h:aw (u*u'-Re.of 1)=0) (hu:aw u'=1) {t:Rat}(ht:0<t):aw (Re.of t-u)=aw (u'-Re.of (1/t)):=by
 have h1:aw ((Re.of t-u)*u'-Re.of t*(u'-Re.of (1/t)))=0:=by
  rw[show(Re.of t-u)*u'-Re.of t*(u'-Re.of (1/t))= -(u*u'-Re.of 1) from aS fun k=>by
   simp only[ak,am,aE,aD]
   grind]
  exact rU h
 have h2:=dJ h1
 rw[aQ,aQ,hu,xw ht,Int.mul_one,m8] at h2
 grind
theorem pS {a:Re}(ha:cH (Re.of (n:Rat)) a) (h:aw (Re.of x-a)=1):(n:Rat)<x:=by
 have h1:cH a (Re.of x):=by unfold cH;omega
 have h2:=gK (fb ha h1)
 apply gT
 intro hn
 have he:x=(n:Rat):=by grind
 subst he
 have h3:0≤aw (a-Re.of (n:Rat)):=ha
 rw[show a-Re.of (n:Rat)= -(Re.of (n:Rat)-a) from aS fun k=>by simp only[ak,aD];grind,br,h] at h3
 omega
section
variable {a b a' b':Re}{n:Int}
theorem Ct (x:Rat):Re.of x-a=Re.of (x-(n:Rat))-(a-Re.of (n:Rat)):=aS fun k=>by simp only[ak,aE];grind
theorem vV (x:Rat):b-Re.of x= -(Re.of (x-(n:Rat))-(b-Re.of (n:Rat))):=aS fun k=>by simp only[ak,aE,aD];grind
theorem dS (u v:Re):aw (u-v)= -aw (v-u):=by rw[←br];exact congrArg aw (aS fun k=>by simp only[ak,aD];grind)
theorem Rs (ha:cH (Re.of (n:Rat)) a) (h1:aw ((a-Re.of (n:Rat))*a'-Re.of 1)=0) (ha':aw a'=1) (h2:aw ((b-Re.of (n:Rat))*b'-Re.of 1)=0) (hb':aw b'=1) (x:Rat):
 BW a b x↔(n:Rat)<x∧BW b' a' (1/(x-(n:Rat))):=by
 constructor
 ·intro ⟨g1,g2⟩
  have hx:=pS ha g1
  have ht:0<x-(n:Rat):=by grind
  refine⟨hx,?_,?_⟩
  ·rw[vV (n:=n),br,y9 h2 hb' ht] at g2
   rw[dS];exact g2
  ·rw[Ct (n:=n),y9 h1 ha' ht] at g1;exact g1
 ·intro ⟨hx,g1,g2⟩
  have ht:0<x-(n:Rat):=by grind
  refine⟨?_,?_⟩
  ·rw[Ct (n:=n),y9 h1 ha' ht];exact g2
  ·rw[vV (n:=n),br,y9 h2 hb' ht,←dS];exact g1
theorem OK (ha:aw (a-Re.of (n:Rat))=0) (h2:aw ((b-Re.of (n:Rat))*b'-Re.of 1)=0) (hb':aw b'=1) (x:Rat):
 BW a b x↔(n:Rat)<x∧aw (Re.of (1/(x-(n:Rat)))-b')=1:=by
 have hl:cH (Re.of (n:Rat)) a:=by unfold cH;omega
 constructor
 ·intro ⟨g1,g2⟩
  have hx:=pS hl g1
  have ht:0<x-(n:Rat):=by grind
  refine⟨hx,?_⟩
  rw[vV (n:=n),br,y9 h2 hb' ht] at g2
  rw[dS];exact g2
 ·intro ⟨hx,g1⟩
  have ht:0<x-(n:Rat):=by grind
  refine⟨?_,?_⟩
  ·rw[Ct (n:=n)]
   have h3:aw (Re.of (x-(n:Rat))-(a-Re.of (n:Rat)))=aw (Re.of (x-(n:Rat))):=dJ (by
    rw[show Re.of (x-(n:Rat))-(a-Re.of (n:Rat))-Re.of (x-(n:Rat))= -(a-Re.of (n:Rat)) from aS fun k=>by simp only[ak,aD];grind]
    exact rU ha)
   rw[h3];exact xw ht
  ·rw[vV (n:=n),br,y9 h2 hb' ht,←dS];exact g1
theorem I4 (hn:0≤n) (ha:cH (Re.of (n:Rat)) a) (h1:aw (Re.of ((n+1:Int):Rat)-a)=1) (h2:aw (b-Re.of ((n+1:Int):Rat))=1):TMin (BW a b) (n+1) 1:=
 TMin.whole hn ⟨h1,h2⟩ fun _x hx=>pS ha hx.1
theorem Kc (hm:0≤m) (hb:cH (Re.of (m:Rat)) b') (h1:aw (Re.of ((m+1:Int):Rat)-b')=1):TMin (fun x=>aw (Re.of x-b')=1) (m+1) 1:=
 TMin.whole hm h1 fun _x hx=>pS hb hx
end
theorem Wj (hy:y≠0) (hv:0<z∧jp z=false) (m:Rat):aw (aA x y z-Re.of m)≠0:=by
 obtain⟨z0,zs⟩:=hv
 have hz:0≤z:=by grind
 intro h
 have h8:aw (aA (x-m) y z)=0:=by
  rw[show aA (x-m) y z=aA x y z-Re.of m from aS fun k=>by simp only[aA,ao,am,aE,ak];grind]
  grind
 rw[←RO hz (fun _=>z0)] at h8
 have hyn:aR y 0≠0:=fun e=>hy (Kr e)
 unfold vp at h8
 split at h8
 ·grind
 ·split at h8
  ·grind
  ·rename_i g1 g2
   have h9:aR ((x-m)*(x-m)-y*y*z) 0=0:=(tS.1 h8).resolve_left g2
   have h10:=Kr h9
   have h11:z=(x-m)/y*((x-m)/y):=by grind
   rw[h11,FM] at zs
   grind
theorem vr (hz:0≤z) (hv:y≠0→0<z∧jp z=false):aw (Re.of ((oB x y z+1:Int):Rat)-aA x y z)=1:=by
 have h:=(sF (a:=x) (b:=y) hz).2
 have h0:0≤aw (Re.of ((oB x y z+1:Int):Rat)-aA x y z):=h
 by_cases hy:y=0
 ·subst hy
  have hd:=den_pos x
  rw[VT rfl] at*
  have hf:=(Le (Z:=x.num) hd).2
  rw[show Re.of (((x.num.fdiv (x.den:Int)+1:Int)):Rat)-aA x 0 z=Re.of (((x.num.fdiv (x.den:Int)+1:Int):Rat)-x) from aS fun k=>by simp only[aA,ak,ao,am,aE];grind]
  refine xw ?_
  apply gT
  intro hn
  have h2:=tW (show((x.num.fdiv (x.den:Int)+1:Int):Rat)≤x by grind) (Ag (show 0≤(x.den:Int) by omega))
  rw[t5,←eg] at h2
  have h3:=gm.1 h2
  omega
 ·have h1:=Wj (x:=x) hy (hv hy) ((oB x y z+1:Int):Rat)
  rw[dS] at h1
  rcases aU (Re.of ((oB x y z+1:Int):Rat)-aA x y z) with g|g|g<;>omega
end Go.Proofs.YtkmdgigkbhmilaaGreat
