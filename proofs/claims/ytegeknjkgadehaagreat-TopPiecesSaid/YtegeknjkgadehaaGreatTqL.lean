/-Data:a region with a chain of appends,in any order. -/
import Derived.Test.YtegeknjkgadehaaGreatTqK
namespace Go.Proofs.YtegeknjkgadehaaGreat
open Go Go.RowKit
section
variable {f1 f2 f3:Array Edge}{eO:Array Oper}{B:BF}{k:Ci}{c:Cv}{A D j u:Int}{tm0:List (Nat×DV)}{bx:List (Nat×TypeId×List CellD)}{us us' xs ys ys1 ys2 zs zs':List CellD}{l:List Pt}{N' by_ i1 i2 id m n n' q1 q2 r sz t1 t2 ty1 ty2:Nat}{o:Oper}{h x x0 y y1 y2:Operand}{P:Program}{p q:Pt}{a b d f:Rat}{p1 p2:String}{T:TF}{U e:TypeId}
variable {ty:TypeId}{pos:String}{af:Array Edge}{g:Option (Nat×Bool)}{dst:Option Nat}
theorem wI:type_of% @List.filter_append:=@List.filter_append
theorem xp:type_of% @Rat.div_mul_cancel:=@Rat.div_mul_cancel
theorem QB {sz:Nat}: ∀ {l:List AppS},(∀a∈l,a.ys.length=a.q*sz)->(uA l).length=nA l*sz
 |[],_=>by simp[uA,nA]
 |a::r,h=>by show(a.ys++uA r).length=(a.q+nA r)*sz;rw[dB,h a fC,QB fun b I=>h b (fv _ I),mS]
theorem zV {I:Type}{b:I}: ∀(a:I) (r:List I),b∈r-> ∃l p J,a::r=l++p::b::J
 |a,c::r,h=>by
  rcases dt.1 h with e|h;·subst e;exact⟨[],a,r,rfl⟩
  .obtain⟨l,p,J,e⟩:=zV c r h;exact⟨a::l,p,J,by rw[e];rfl⟩
section
variable {P:Program}{eO:Array Oper}{Q:Exit->Act->World->Prop}{av:Nat->Prop}{w0:Ent}{m n:Nat}
set_option linter.unusedVariables false in
theorem Yn (hc:Chk eO m n) {C:List Nat}{ch:List AppS}{opn:List (Nat×Nat×DV)} (b3: ∀i d x,(i,d,x)∈opn->C.any (Nat.beq i)=false/\jR x=none/\i<m/\ ∃o,eO[i]? =some o/\o.dst=some d/\Sem P eO o (fun s=>look s (t8 (fun j=>decide (j<i)) opn tm0)) (fun k=>look k bx) (.r x)) (v2: ∀i,i<m->C.any (Nat.beq i)=false-> ∃d x,(i,d,x)∈opn) (l4: ∀i d x d' x',(i,d,x)∈opn->(i,d',x')∈opn->d=d'/\x=x') (V:ChainA P eO C m U e sz by_ zs x0 tm0 (t8 (fun _=>true) opn tm0) bx ch) (m2: ∀t x k,look t tm0=some x->jR x=some k->look k bx≠none) (hQ: ∀c eD β a w et,nA ch<=c->c<=maxLen->eD.length=(c-nA ch)*sz->eO.size-m<=et-> Rel av w0 n (fun s=>look s (A6 c ch++t8 (fun _=>true) opn tm0)) (fun k=>look k (GM e eD ch++bx)) β a w->wpAny P .any eO Q et (cW eO.size m) a w):∀(et:Nat) (dp:Array Bool) (β:Nat->Nat) (a:Act) (w:World) (dn td:List AppS) (c:Nat) (eD:List CellD),dp.size=eO.size->Lq dp<=et-> (∀i o j,dp.getD i false=true->eO[i]? =some o->j∈bP o->dp.getD j false=true)->(∀t,m<=t->dp.getD t false=false)-> ch=dn++td->(∀b∈dn,dp.getD b.i false=true)->(∀b∈td,dp.getD b.i false=false)->nA dn<=c/\c<=maxLen/\eD.length=(c-nA dn)*sz-> Rel av w0 n (fun s=>look s (A6 c dn++t8 (fun j=>dp.getD j false) opn tm0)) (fun k=>look k (GM e eD dn++bx)) β a w->wpAny P .any eO Q et dp a w:=by
 have k5: ∀b∈ch,C.any (Nat.beq b.i)=true:=fun b R=>jO.2 (by rw[<-V.hC];exact List.mem_map_of_mem R)
 have g8: ∀b∈ch,∃o,eO[b.i]? =some o/\o.dst=some b.t:=fun b R=>by obtain⟨l,r,e1⟩:=List.append_of_mem R;obtain⟨ty,pos,af,h⟩:=V.op l b r e1;exact⟨_,h,rfl⟩
 have x3: ∀ {i j d x y},(i,d,x)∈opn->(j,d,y)∈opn->i=j/\y=x:=by intro i j d x y h1 h2;obtain⟨_,_,hi,oi,q1,q2,_⟩:=b3 i d x h1;obtain⟨_,_,hj,oj,q3,q4,_⟩:=b3 j d y h2;have:=hc.dist i j oi oj d hi hj q1 q3 q2 q4;subst this;exact⟨rfl,(l4 i d y d x h2 h1).2⟩
 have n0: ∀b∈ch,∀i x,(i,b.t,x)∉opn:=by intro b R i x hm;obtain⟨q0,_,hi,oi,q1,q2,_⟩:=b3 i b.t x hm;obtain⟨o,g1,g2⟩:=g8 b R;have:=hc.dist i b.i oi o b.t hi (V.lt b R) q1 g1 q2 g2;subst this;rw[k5 b R] at q0;cases q0
 have l5: ∀(L:Nat->Bool),∀b∈ch,look b.t (t8 L opn tm0)=none:=by intro L b R;rw[f8,Gc fun i x hm=>absurd hm (n0 b R i x),(V.new b R).1];rfl
 have h8: ∀(c:Nat) (l r:List AppS) t,ch=l++r->(∀b∈ch,b.t≠t)->look t (A6 c l)=none:=by
  intro c l r t e1 h;unfold A6;cases hg:l.getLast? with
  |none=>rfl
  |some b=>
   have R:b∈ch:=by rw[e1];exact wQ _ (List.mem_of_getLast? hg)
   show look t [(b.t,_)]=none;rw[aW,if_neg (h b R)];rfl
 have n2: ∀(eD:List CellD) (l r:List AppS) k c,ch=l++r->look k bx=some c->look k (GM e eD l)=none:=by
  intro eD l r k c e1 h;unfold GM;cases hg:l.getLast? with
  |none=>rfl
  |some b=>
   have R:b∈ch:=by rw[e1];exact wQ _ (List.mem_of_getLast? hg)
   show look k [(b.t,_)]=none;rw[aW,if_neg (fun h2=>by subst h2;rw[(V.new b R).2] at h;cases h)];rfl
 have m0: ∀ {L:Nat->Bool}{i:Nat}{o:Oper}{y:Operand}{v:DV}{c:Nat}{l r:List AppS},ch=l++r->eO[i]? =some o->(∀j,j∈bP o->L j=true)->pQ eO C m i y=true->
  cE (fun s=>look s (t8 (fun _=>true) opn tm0)) y=some v->cE (fun s=>look s (A6 c l++t8 L opn tm0)) y=some v:=by
  intro L i o y v c l r e1 ho R f4 hv
  cases y with
  |tmp u=>
   have hv:look u (t8 (fun _=>true) opn tm0)=some v:=hv
   show look u (A6 c l++t8 L opn tm0)=some v
   unfold pQ at f4
   rw[ho] at f4
   dsimp only at f4
   have i6: ∀j p,j<m->eO[j]? =some p->p.dst=some u->C.any (Nat.beq j)=false/\L j=true:=by intro j p hj hp hd;have h1:=mJ.1 f4 j (qE.2 hj);rw[hp] at h1;dsimp only at h1;rw[hd] at h1;dsimp only at h1;rw[tN] at h1;simp only[Bool.not_true,u9,di] at h1;refine⟨by simpa using h1.1,R j (jO.1 h1.2)⟩
   rw[ci,h8 c l r u e1 (fun b b4 e2=>by obtain⟨o2,g1,g2⟩:=g8 b b4;have:=(i6 b.i o2 (V.lt b b4) g1 (by rw[g2,e2])).1;rw[k5 b b4] at this;cases this),qr,<-hv,f8,f8]
   congr 1
   refine vN fun j x hm=>?_
   obtain⟨_,_,hj,oj,q1,q2,_⟩:=b3 j u x hm
   exact(i6 j oj hj q1 q2).2
  |const z9=>exact hv
  |func z9=>exact hv
  |global z9=>exact hv
 intro et
 have j1: ∀(et:Nat) (dp:Array Bool) (β:Nat->Nat) (a:Act) (w:World) (dn td:List AppS) (c:Nat) (eD:List CellD),dp.size=eO.size->eO.size-m<=et->
  (∀t,m<=t->dp.getD t false=false)->ch=dn++td->(∀b∈td,dp.getD b.i false=false)->nA dn<=c/\c<=maxLen/\eD.length=(c-nA dn)*sz->(∀i,i<m->dp.getD i false=true)->
  Rel av w0 n (fun s=>look s (A6 c dn++t8 (fun j=>dp.getD j false) opn tm0)) (fun k=>look k (GM e eD dn++bx)) β a w->wpAny P .any eO Q et dp a w:=by
  intro et dp β a w dn td c eD c5 r6 hp hs c3 R hl hr
  have m3:td=[]:=by
   cases td with
   |nil=>rfl
   |cons b r=>have h1:=c3 b fC;rw[hl b.i (V.lt b (by rw[hs];simp))] at h1;cases h1
  subst m3
  rw[ws] at hs
  subst hs
  have e1:dp=cW eO.size m:=by
   apply Array.ext (by simp[cW,c5]);intro i h1 h2;by_cases a5:i<m
   .have h3:=hl i a5;simp[Array.getD,h1] at h3;rw[h3];simp[cW,a5]
   .have h3:=hp i (by omega);simp[Array.getD,h1] at h3;rw[h3];simp[cW];cases R:Nat.blt i m with
    |false=>rfl
    |true=>have:=dj.1 R;omega
  have e2:(fun s=>look s (A6 c ch++t8 (fun j=>dp.getD j false) opn tm0))=fun s=>look s (A6 c ch++t8 (fun _=>true) opn tm0):=by funext t;rw[ci,ci,f8,f8];congr 2;refine vN fun j x hm=>?_;obtain⟨_,_,hj,_⟩:=b3 j t x hm;exact hl j hj
  rw[e2] at hr
  rw[e1]
  exact hQ c eD β a w et R.1 R.2.1 R.2.2 r6 hr
 induction et with
 |zero=>
  intro dp β a w dn td c eD c5 hu g5 hp hs e5 c3 R hr
  have hm:m=eO.size:=by
   rcases nT m eO.size with h|h;·have:=xw (dp:=dp) (i:=m) (by omega) (by rw[lk (by omega) true false];exact hp m (bk _));omega
   .exact Nat.le_antisymm hc.le h
  exact j1 0 dp β a w dn td c eD c5 (by omega) hp hs c3 R (fun i hi=>by
   cases h:dp.getD i false with
   |true=>rfl
   |false=>have:=xw (dp:=dp) (i:=i) (by omega) (by rw[lk (by omega) true false];exact h);omega) hr
 |succ et ih=>
  intro dp β a w dn td c eD c5 hu g5 hp hs e5 c3 R hr
  by_cases hl: ∀i,i<m->dp.getD i false=true
  .have x7:eO.size-m<=Lq dp:=by
    have e1:dp=cW eO.size m:=by
     apply Array.ext (by simp[cW,c5]);intro i h1 h2;by_cases a5:i<m
     .have h3:=hl i a5;simp[Array.getD,h1] at h3;rw[h3];simp[cW,a5]
     .have h3:=hp i (by omega);simp[Array.getD,h1] at h3;rw[h3];simp[cW];cases R:Nat.blt i m with
      |false=>rfl
      |true=>have:=dj.1 R;omega
    rw[e1];unfold Lq cW;have:(List.map (fun i=>Nat.blt i m) (List.range eO.size))=List.replicate m true++List.replicate (eO.size-m) false:=by
     apply Ai (by simp;have:=hc.le;omega);intro i h1 h2;simp at h1;by_cases a5:i<m;·rw[List.getElem_append_left (by simpa using a5)];simp[a5]
     .rw[List.getElem_append_right (by simpa using a5)];simp;cases R:Nat.blt i m with
      |false=>rfl
      |true=>have:=dj.1 R;omega
    simp[this,List.countP_append,List.countP_replicate]
   exact j1 (et+1) dp β a w dn td c eD c5 (by omega) hp hs c3 R hl hr
  .refine⟨fun h0=>?_,fun i hi=>?_⟩
   .exfalso
    have r5: ∃p,p<m/\dp.getD p false=false/\ ∀q,q<p->dp.getD q false=true:=by
     have j4: ∀d p,p<=d->p<m->dp.getD p false=false-> ∃p,p<m/\dp.getD p false=false/\ ∀q,q<p->dp.getD q false=true:=by
      intro d;induction d with
      |zero=>intro p hd a6 e6;exact⟨p,a6,e6,fun q hq=>by omega⟩
      |succ d k4=>
       intro p hd a6 e6;by_cases hq: ∀q,q<p->dp.getD q false=true;·exact⟨p,a6,e6,hq⟩
       .obtain⟨q,hq⟩:=Aa.1 hq;obtain⟨x6,hq⟩:=Ap.1 hq;exact k4 q (by omega) (by omega) (by simpa using hq)
     obtain⟨p,d6⟩:=Aa.1 hl;obtain⟨a6,d6⟩:=Ap.1 d6;exact j4 p p (bk _) a6 (by simpa using d6)
    obtain⟨p,a6,e6,hq⟩:=r5
    have k9:p<eO.size:=by have:=hc.le;omega
    have q5:p∈Region.ready .any eO dp:=mem_ready.2 ⟨by rw[lk (by omega) true false];exact e6,eO[p],uw k9,fun e he R=>
     hq e.on (hc.low p _ e.on (uw k9) (uN he R))⟩
    rw[h0] at q5;cases q5
   .obtain⟨q6,o,ho,n3⟩:=mem_ready.1 hi
    have s4:i<eO.size:=(lH.1 ho).1
    have d4:dp.getD i false=false:=by rw[lk (by omega) false true];exact q6
    have c6: ∀j,j∈bP o->dp.getD j false=true:=fun j hj=>by obtain⟨e',s2,a4,rfl⟩:=jp hj;exact n3 e' s2 a4
    have a5:i<m:=by
     rcases nT i m with h|h;·exact h
     .exfalso;rcases hc.tl i o h ho with⟨j,hj,x2⟩|p4
      .have:=c6 j hj;rw[hp _ x2] at this;cases this
      .apply hl;have j4: ∀d p,m-p<=d->p<m->dp.getD p false=true:=by
        intro d;induction d with
        |zero=>intro p hd a6;omega
        |succ d k4=>
         intro p hd a6;rcases p4 p a6 with R|⟨q,oq,x5,w5,w8,R⟩;·exact c6 p R
         .exact g5 q oq p (k4 q (by omega) w5) w8 R
       exact fun p a6=>j4 (m-p) p (bk _) a6
    have b6: ∀j,(dp.setIfInBounds i true).getD j false=if j=i then true else dp.getD j false:=by
     intro j;by_cases b7:j=i;·subst b7;simp[Array.getD,c5,s4]
     .rw[if_neg b7,getD_set_ne false (fun e=>b7 e.symm)]
    have j2: ∀i' o' j,(dp.setIfInBounds i true).getD i' false=true->eO[i']? =some o'->j∈bP o'->(dp.setIfInBounds i true).getD j false=true:=by
     intro i' o' j' h1 h2 h3;rw[b6] at h1⊢;by_cases b7:j'=i;·rw[if_pos b7]
     .rw[if_neg b7];by_cases r1:i'=i
      .subst r1;rw[ho] at h2;injection h2 with h2;subst h2;exact c6 j' h3
      .rw[if_neg r1] at h1;exact g5 i' o' j' h1 h2 h3
    have d6: ∀t,m<=t->(dp.setIfInBounds i true).getD t false=false:=fun t ht=>by rw[b6,if_neg (by omega)];exact hp t ht
    have k7:Lq (dp.setIfInBounds i true)<=et:=by have:=BR (dp:=dp) (i:=i) (by omega) q6;omega
    have i8:(dp.setIfInBounds i true).size=eO.size:=by simpa using c5
    unfold wpOp
    rw[ho]
    cases g0:C.any (Nat.beq i) with
    |false=>
     obtain⟨d,x,d3⟩:=v2 i a5 g0
     obtain⟨_,x4,_,o',g7,p3,k8⟩:=b3 i d x d3
     rw[ho] at g7
     injection g7 with g7
     subst g7
     have o3: ∀b∈ch,b.i≠i:=fun b R e1=>by have:=k5 b R;rw[e1,g0] at this;cases this
     refine hr.step k8 (fun t ht=>hc.dn i o t ho ht) ?_ ?_ (fun U cs sl hE=>by cases hE) (fun b5 a' w' c7=>?_)
     .intro t x' x1 I
      have I:look t (t8 (fun j=>decide (j<i)) opn tm0)=some x':=I
      show look t (A6 c dn++t8 (fun j=>dp.getD j false) opn tm0)=some x'
      have v3: ∀b∈ch,b.t≠t:=fun b R e1=>by rw[<-e1,l5 _ b R] at I;cases I
      rw[ci,h8 c dn td t hs v3,qr,<-I,f8,f8]
      congr 1
      refine vN fun j y hm=>?_
      obtain⟨_,_,w4,oj,j3,w9,_⟩:=b3 j t y hm
      by_cases b7:j=i
      .subst b7;rw[d4];simp
      .rcases hc.dep i j o oj t a5 w4 (fun e=>b7 e.symm) ho j3 w9 x1 with b4|b4
       .have i4:=hc.low i o j ho b4
        rw[c6 j b4];simpa using i4
       .have i4:=hc.low j oj i j3 b4
        have h1:dp.getD j false=false:=by
         cases r4:dp.getD j false with
         |false=>rfl
         |true=>have:=g5 j oj i r4 j3 b4;rw[d4] at this;cases this
        rw[h1];simp;omega
     .intro k cc W
      have W:look k bx=some cc:=W
      show look k (GM e eD dn++bx)=some cc
      rw[ci,n2 eD dn td k cc hs W,qr];exact W
     .refine ih _ b5 a' w' dn td c eD i8 k7 j2 d6 hs (fun b R=>?_) (fun b R=>?_) R ?_
      .rw[b6];split
       .rfl
       .exact e5 b R
      .rw[b6,if_neg (o3 b (by rw[hs];exact List.mem_append_right _ R))];exact c3 b R
      .refine c7.congr (fun t=>?_) (fun k=>rfl)
       show _=if o.dst=some t then some x else _
       rw[ci,f8]
       by_cases k3:d=t
       .subst k3
        rw[if_pos p3,h8 c dn td d hs (fun b R e1=>n0 b R i x (by rw[e1];exact d3)),qr,S7 (fun i j y h1 h2=>(x3 h1 h2).2) d3 (by rw[b6,if_pos rfl])]
        rfl
       .rw[if_neg (by rw[p3];simpa using k3)]
        show _=look t (A6 c dn++t8 _ opn tm0)
        rw[ci,f8]
        congr 2
        refine vN fun j y hm=>?_
        rw[b6,if_neg]
        intro e1
        subst e1
        exact k3 (l4 _ _ _ _ _ d3 hm).1
    |true=>
     have e3:=jO.1 g0
     rw[<-V.hC] at e3
     obtain⟨b,d5,rfl⟩:=nZ.1 e3
     have i0:b∈td:=by
      rw[hs] at d5;rcases lh.1 d5 with h|h;·have:=e5 b h;rw[d4] at this;cases this
      .exact h
     obtain⟨a9,r,m6⟩: ∃a9 r,td=a9::r:=by
      cases td with
      |nil=>cases i0
      |cons a9 r=>exact⟨a9,r,rfl⟩
     subst m6
     have s1:b=a9:=by
      rcases dt.1 i0 with h|h;·exact h
      .exfalso;obtain⟨l,p,r',e1⟩:=zV a9 r h;have h1:=V.nx (dn++l) p b r' (by rw[hs,e1,oE]) o ho;have h2:=c6 _ h1;rw[c3 p (by rw[e1];simp)] at h2;cases h2
     subst s1
     obtain⟨ty,pos,af,h4⟩:=V.op dn b r hs
     rw[ho] at h4
     injection h4 with h4
     subst h4
     obtain⟨t4,n1,w7⟩:=V.y b d5
     have hy:=m0 (c:=c) hs ho c6 w7 t4
     have j0:nA dn+b.q<=nA ch:=by have h1:nA (dn++[b])<=nA (dn++[b]++r):=afv;rw[vU,oE] at h1;rw[hs];exact h1
     have e9:(nA dn+b.q)*by_<=140737488355328:=gG (nD _ j0) V.big.1
     have e4:nA dn+b.q<=maxLen:=gG j0 V.big.2
     obtain⟨u2,d7⟩:=V.new b d5
     have m5: ∀(b5:Nat->Nat) (a':Act) (w':World) (σ':St) (c':Nat) (J:List CellD),σ'.n=n->nA dn+b.q<=c'->c'<=maxLen->J.length=(c'-(nA dn+b.q))*sz->
      (∀t x,look t (A6 c' (dn++[b])++t8 (fun j=>dp.getD j false) opn tm0)=some x->look t σ'.tm=some x)->(∀k cc,look k (GM e J (dn++[b])++bx)=some cc->look k σ'.bx=some cc)->
      Rel av w0 σ'.n σ'.T σ'.B b5 a' w'->wpAny P .any eO Q et (dp.setIfInBounds b.i true) a' w':=by
      intro b5 a' w' σ' c' J k6 g1 g2 g3 u8 n4 c7
      have hL:(fun s=>look s (A6 c' (dn++[b])++t8 (fun j=>(dp.setIfInBounds b.i true).getD j false) opn tm0))=fun s=>look s (A6 c' (dn++[b])++t8 (fun j=>dp.getD j false) opn tm0):=by funext t;rw[ci,ci,f8,f8];congr 2;refine vN fun j x hm=>?_;rw[b6,if_neg];intro e1;have:=(b3 j t x hm).1;rw[e1,g0] at this;cases this
      refine ih _ b5 a' w' (dn++[b]) r c' J i8 k7 j2 d6 (by rw[hs,oE];rfl) (fun b' a4=>?_) (fun b' a4=>?_) ⟨by rw[vU];exact g1,g2,by rw[vU];exact g3⟩ ?_
      .rw[b6];split
       .rfl
       .rename_i p0
        rcases lh.1 a4 with h|h
        .exact e5 b' h
        .rw[gZ] at h;exact absurd (by rw[h]) p0
      .rw[b6,if_neg]
       .exact c3 b' (fv _ a4)
       .intro e1
        obtain⟨l,p,r',e2⟩:=zV b r a4
        have h0:=ho
        rw[<-e1] at h0
        have h1:=V.nx (dn++l) p b' r' (by rw[hs,e2,oE]) _ h0
        have h2:=c6 _ h1
        rw[c3 p (by rw[e2];simp)] at h2;cases h2
      .rw[hL]
       have l3:Sub σ' ⟨n,A6 c' (dn++[b])++t8 (fun j=>dp.getD j false) opn tm0,GM e J (dn++[b])++bx⟩:=by
        refine⟨k6.symm,u8,n4,fun t x k I W=>?_⟩;show look k (GM e J (dn++[b])++bx)≠none;have I:look t (A6 c' (dn++[b])++t8 (fun j=>dp.getD j false) opn tm0)=some x:=I;rw[xG] at I;rw[ci,uu];rw[ci,aW] at I;by_cases a3:b.t=t
        .rw[if_pos a3] at I;injection I with I;subst I;injection W with W;subst W;rw[aW,if_pos rfl];simp
        .rw[if_neg a3] at I;have I:(look t []:Option DV).or (look t (t8 (fun j=>dp.getD j false) opn tm0))=some x:=I;rw[show(look t []:Option DV)=none from rfl,qr,f8] at I;cases c8:oF (fun j=>dp.getD j false) opn t with
         |some x9=>rw[c8] at I;injection I with I;subst I;obtain⟨j,g4,_⟩:=yR c8;rw[(b3 _ _ _ g4).2.1] at W;cases W
         |none=>
          rw[c8,qr] at I;have h5:=m2 t x k I W;cases h6:look k bx with
          |none=>exact absurd h6 h5
          |some cc=>cases h7:look k [(b.t,e,uA dn++b.ys++J)]<;>simp
       exact c7.sub l3
     have r3: ∀t x,look t (t8 (fun j=>dp.getD j false) opn tm0)=some x->(∀b'∈ch,b'.t≠t)/\ ∀b'∈ch,jR x≠some b'.t:=by
      intro t x I;refine⟨fun b' a4 e1=>(by rw[<-e1,l5 _ b' a4] at I;cases I),fun b' a4 W=>?_⟩;rw[f8] at I;cases c8:oF (fun j=>dp.getD j false) opn t with
      |some x9=>rw[c8] at I;injection I with I;subst I;obtain⟨j,g4,_⟩:=yR c8;rw[(b3 _ _ _ g4).2.1] at W;cases W
      |none=>rw[c8,qr] at I;exact m2 t x _ I W (V.new b' a4).2
     have h9:=hc.dn b.i _ b.t ho rfl
     rcases List.eq_nil_or_concat dn with d2|⟨l,p,d2⟩
     .subst d2
      obtain⟨x8,k2⟩:=V.base
      obtain⟨l0,w3⟩:=V.bx0 b r hs
      have I:=m0 (c:=c) hs ho c6 l0 k2
      have hG:=Ch (eO:=eO) (N:=n) (ty:=ty) (pos:=pos) (af:=af) (g:=none) V.hU I hy n1 w3 (by simpa [nA] using e9) (by simpa [nA] using e4) d7 rfl
      obtain⟨hw,hg⟩:=hG av w0 β a w hr (fun t ht=>by injection ht with ht;subst ht;exact h9)
      refine(if_pos hw).mpr (.inl (hg.wp fun v w' ⟨σ',b5,⟨c',J,q1,q2,q3,q4⟩,k6,c7⟩=>?_))
      subst q4
      refine m5 b5 _ w' ⟨n,(b.t,.o b.t b.q c')::(A6 c []++t8 (fun j=>dp.getD j false) opn tm0),(b.t,e,b.ys++J)::(GM e eD []++bx)⟩ c' J rfl (by simpa [nA] using q1) q2 (by simpa [nA] using q3) (fun t x I=>?_) (fun k cc W=>?_) c7
      .rw[xG] at I
       rw[ci,aW] at I
       show look t ((b.t,_)::(t8 _ opn tm0))=some x
       rw[aW]
       by_cases a3:b.t=t
       .rw[if_pos a3] at I⊢;simpa [nA] using I
       .rw[if_neg a3] at I⊢;simpa [look] using I
      .rw[uu] at W
       rw[ci,aW] at W
       show look k ((b.t,_)::bx)=some cc
       rw[aW]
       by_cases a3:b.t=k
       .rw[if_pos a3] at W⊢;simpa [uA] using W
       .rw[if_neg a3] at W⊢;simpa [look] using W
     .rw[List.concat_eq_append] at d2
      subst d2
      have g6:p∈ch:=by rw[hs];simp
      have k1:Om x0 (l++[p])=.tmp p.t:=by unfold Om;rw[List.getLast?_concat]
      have v4:p.t≠b.t:=by intro e1;obtain⟨o1,g1,g2⟩:=g8 p g6;obtain⟨o2,g3,g4⟩:=g8 b d5;have h1:=hc.dist p.i b.i o1 o2 b.t (V.lt p g6) (V.lt b d5) g1 g3 (by rw[g2,e1]) g4;have h2:=e5 p (by simp);rw[h1,d4] at h2;cases h2
      have I:cE (fun s=>look s (A6 c (l++[p])++t8 (fun j=>dp.getD j false) opn tm0)) (Om x0 (l++[p]))=some (.o p.t (nA (l++[p])) c):=by rw[k1];show look p.t _=_;rw[xG,ci,aW,if_pos rfl,vU];rfl
      have l8:look p.t (GM e eD (l++[p])++bx)=some (e,uA (l++[p])++eD):=by rw[uu,ci,aW,if_pos rfl,FJ];rfl
      have m4:(uA (l++[p])).length=nA (l++[p])*sz:=QB fun b' a4=>(V.y b' (by rw[hs];exact wQ _ a4)).2.1
      have hG:=AS (eO:=eO) (N:=n) (ty:=ty) (pos:=pos) (af:=af) (g:=none) V.hU I hy l8 (by rw[dB,m4,R.2.2,<-mS];congr 1;have:=R.1;omega) n1 V.hm R.1 R.2.1 e9 e4 (pre:=uA (l++[p]))
       (by rw[<-m4];simp) (.inr (by rw[uu,ci,aW,if_neg v4];simpa [look] using d7)) rfl
      obtain⟨hw,hg⟩:=hG av w0 β a w hr (fun t ht=>by injection ht with ht;subst ht;exact h9)
      refine(if_pos hw).mpr (.inl (hg.wp fun v w' ⟨σ',b5,⟨c',J,q1,q2,q3,q4⟩,k6,c7⟩=>?_))
      subst q4
      refine m5 b5 _ w' ⟨n,(b.t,.o b.t (nA (l++[p])+b.q) c')::jQ p.t (A6 c (l++[p])++t8 (fun j=>dp.getD j false) opn tm0),(b.t,e,uA (l++[p])++b.ys++J)::jf p.t (GM e eD (l++[p])++bx)⟩ c' J rfl q1 q2 q3 (fun t x I=>?_) (fun k cc W=>?_) c7
      .rw[xG] at I
       rw[ci,aW] at I
       show look t ((b.t,_)::jQ p.t _)=some x
       rw[aW]
       by_cases a3:b.t=t
       .rw[if_pos a3] at I⊢;simpa using I
       .rw[if_neg a3] at I⊢
        have I:look t (t8 (fun j=>dp.getD j false) opn tm0)=some x:=by simpa [look] using I
        obtain⟨g1,g2⟩:=r3 t x I
        rw[lv,ci,h8 c (l++[p]) (b::r) t hs g1,qr,I]
        dsimp only
        rw[if_neg (g2 p g6)]
      .rw[uu] at W
       rw[ci,aW] at W
       show look k ((b.t,_)::jf p.t _)=some cc
       rw[aW]
       by_cases a3:b.t=k
       .rw[if_pos a3] at W⊢;simpa using W
       .rw[if_neg a3] at W⊢
        have W:look k bx=some cc:=by simpa [look] using W
        rw[j5,if_neg (fun e1=>by rw[e1,(V.new p g6).2] at W;cases W),ci,n2 eD (l++[p]) (b::r) k cc hs W,qr];exact W
theorem F8 {l pre tail:List Oper}{Q:Exit->St->Prop}(m:Nat) (C:List Nat) (hm:P.follows .mixedOrders=true) (hc:KI l.toArray m n=true) (R:l.take m=pre) (J:l.drop m=tail) (h:da P l.toArray C bx 0 pre tm0 fun tm=> ∃(U e:TypeId) (sz by_:Nat) (zs:List CellD) (x0:Operand) (I:List AppS),ChainA P l.toArray C m U e sz by_ zs x0 tm0 tm bx I/\ ∀c eD,nA I<=c->c<=maxLen->eD.length=(c-nA I)*sz->dl P l.toArray tail ⟨n,A6 c I++tm,GM e eD I++bx⟩ (Q .normal)):Dw P (.region id l.toArray true) ⟨n,tm0,bx⟩ Q:=fun av w0 β a w V=>by
 have hC:=Chk.of hc
 subst R J
 obtain⟨opn,h1,h2,h4,U,e,sz,by_,zs,x0,I,a5,b3⟩:=B6 _ _ _ h
 have b6:m<=l.length:=by simpa using hC.le
 have b4: ∀ {i:Nat}{o:Oper},(l.take m)[i]? =some o->i<m/\l.toArray[i]? =some o:=by intro i o hi;grind
 refine wp_region_any hm ?_
 refine Yn (av:=av) (w0:=w0) hC ?_ ?_ h4 a5 (fun t x k hx hk=>V.wf t x k hx hk) ?_ l.toArray.size (Array.replicate l.toArray.size false) β a _ [] I 0 [] (by simp) (by unfold Lq;refine gG List.countP_le_length ?_;simp) ?_ ?_ rfl (fun b hb=>by cases hb) ?_ ?_ ?_
 .intro i d x b5
  grind
 .intro i a6 W
  have a3:i<l.length:=by omega
  have:=h2 i l[i] (by rw[kS,if_pos a6];exact gI a3) (by rw[dN];exact W)
  grind
 .intro c eD β a w et g1 g2 g3 hf a4
  refine yE hC (fun σ' β a w hn hq V=>⟨σ',β,hn,hq,by rw[hn];exact V⟩) (l.drop m) m ⟨n,A6 c I++t8 (fun _=>true) opn tm0,GM e eD I++bx⟩ et β a w (bk _) (fun j=>by simp) (by simp;omega) rfl (b3 c eD g1 g2 g3) a4 (by simpa using hf)
 .intro i o j hi
  simp[Array.getD] at hi
 .intro t _
  simp[Array.getD]
  try (split<;>rfl)
 .intro b _
  simp[Array.getD]
  try (split<;>rfl)
 .exact⟨Nat.le_refl _,iB _,by simp[nA]⟩
 .refine V.drew.congr (fun t=>?_) (fun k=>rfl)
  show look t (A6 0 []++t8 _ opn tm0)=look t tm0
  rw[ci]
  show(look t []).or _=_
  rw[show(look t []:Option DV)=none from rfl,qr,f8,Gc,qr]
  simp[Array.getD]
  try (split<;>rfl)
end
section
variable {P:Program}{eO:Array Oper}{T:TF}{B:BF}
theorem m8  (hU:uV P U=some (e,m,by_,zs)) (hg:gd eO ⟨dst,.buildSlice U 0 #[],ty,pos,af,g⟩ T=some true):Sem P eO ⟨dst,.buildSlice U 0 #[],ty,pos,af,g⟩ T B (.r (.f 0 [])):=by
 refine⟨qV rfl,fun V β a w hs=>⟨eK hs hg,?_⟩⟩
 obtain⟨R,i,z,hi,hz,W,a4,a3,a5⟩:=i5 hU
 have I:(execOp a.eval ⟨dst,.buildSlice U 0 #[],ty,pos,af,g⟩).run P w=.ok (.value (.slice (some ⟨w.heap.size,0,none⟩) 0 0)) (w.alloc (.cells #[] e)):=by
  have J: ∀w,(sizeOf e).run P w=.ok i.size w:=fun w=>by unfold sizeOf typeInfo;simp[program,Sem.run,hi]
  simp[execOp,Instr.buildSlice,run_underlying R,J,Instr.fill,newRow];grind
 unfold Gives
 rw[I]
 exact⟨⟨⟨_,rfl⟩,.s0 _ _ (by decide)⟩,(fe _ w).alloc (bk _) _⟩
theorem rj  (hU:uV P U=some (e,m,by_,zs)) (hx:cE T x=some (.f 0 us)) (hy:cE T y=some (.v (.c (.s 0 ys)))) (hg:gd eO ⟨dst,.call ⟨.builtin .append,#[x,y],#[U,U]⟩,ty,pos,af,g⟩ T=some true):Sem P eO ⟨dst,.call ⟨.builtin .append,#[x,y],#[U,U]⟩,ty,pos,af,g⟩ T B (.r (.f 0 us)):=by
 refine⟨qV rfl,fun V β a w hs=>⟨eK hs hg,?_⟩⟩
 obtain⟨⟨A,e1⟩,W⟩:(∃A,a.eval x=.slice A 0 0)/\RdV V w (a.eval x) (.c (.s 0 us)):=ap hs (by simp[Op.operands,Call.operands]) hx
 have h2:RdC V w (a.eval y) (.s 0 ys):=ap hs (by simp[Op.operands,Call.operands]) hy
 have a6:ys=[]:=by
  generalize a.eval y=vy at h2;cases h2 with
  |s0=>rfl
  |s b off c sz n' a9 cv h0=>omega
 subst a6
 obtain⟨er,I,_⟩:=uG hU h2 (by simp)
 obtain⟨hu,i,z,hi,hz,a5,b3,_,b4⟩:=i5 hU
 subst a5
 have a4:er=[]:=jM.1 (by rw[I.newsLen,Nat.zero_mul])
 subst a4
 rw[e1] at W
 have a3:(Builtin.append_ #[U,U] ty #[.slice A 0 0,a.eval y]).run P w=.ok (.slice A 0 0) w:=by
  cases A with
  |none=>rcases I.kind with⟨e',R⟩|R<;>simp[Builtin.append_,run_underlying hu,sizeOf,typeInfo,hi,I.len,I.cells]<;>rfl
  |some A=>rcases I.kind with⟨e',R⟩|R<;>simp[Builtin.append_,run_underlying hu,sizeOf,typeInfo,hi,I.len,I.cells]<;>rfl
 have J:(execOp a.eval ⟨dst,.call ⟨.builtin .append,#[x,y],#[U,U]⟩,ty,pos,af,g⟩).run P w=.ok (.value (.slice A 0 0)) w:=by simp only[execOp,resolve,invoke,builtin,fh,dA,ft,qe,lQ,qv,e1];rw[a3];rfl
 unfold Gives
 rw[J]
 exact⟨⟨⟨A,rfl⟩,W⟩,fe _ w⟩
theorem F0 {q:Nat} (hU:uV P U=some (e,m,by_,zs)) (hx:cE T x=some (.f n us)) (hy:cE T y=some (.v (.c (.s q ys)))) (R:us.length=n*m) (J:ys.length=q*m) (hm:0<m) (W:0<n) (I:(n+q)*by_<=140737488355328) (a3:n+q<=maxLen) (hg:gd eO ⟨dst,.call ⟨.builtin .append,#[x,y],#[U,U]⟩,ty,pos,af,g⟩ T=some true):Sem P eO ⟨dst,.call ⟨.builtin .append,#[x,y],#[U,U]⟩,ty,pos,af,g⟩ T B (.r (.v (.c (.s (n+q) (us++ys))))):=
 FN hU hx (fun V β a w hs=>uG hU (ap hs (by simp[Op.operands,Call.operands]) hy) J) R J hm W I a3 hg
theorem qH {ki:IntKind} (hU:pT P U=some m) (hx:cE T x=some (.v (.c (.s n xs)))) (hh:cE T h=some (.v (.c (.i ki j)))) (hj:0<=j/\j<=n) (hl:xs.length=n*m) (b5:n-j.toNat=n') (hu:xs.drop (j.toNat*m)=us) (hg:gd eO ⟨dst,.slice U x (some h) none none,ty,pos,af,g⟩ T=some true):Sem P eO ⟨dst,.slice U x (some h) none none,ty,pos,af,g⟩ T B (.r (.v (.c (.s n' us)))):=
 bv hg (qV rfl) (fun V β a w hs=>by
  subst b5;have h1:=ap hs (by simp[Op.operands]) hx;generalize hv:a.eval x=v at h1;have h1:RdC V w v (.s n xs):=h1;unfold pT at hU;split at hU;case h_2=>cases hU
  rename_i el a6;cases I:P.info? el with
  |none=>rw[I] at hU;cases hU
  |some b7=>
   rw[I] at hU;simp at hU;have b3: ∀w,(sizeOf el).run P w=.ok m w:=fun w=>by unfold sizeOf typeInfo;simp[program,Sem.run,I,hU]
   have W: ∀(A:Option Addr) (c:Nat),a.eval x=.slice A n c->n<=c->(execOp a.eval ⟨dst,.slice U x (some h) none none,ty,pos,af,g⟩).run P w=.ok (.value (.slice (if c=j.toNat then A else A.map (·.add (j.toNat*m))) (n-j.toNat) (c-j.toNat))) w:=by
    intro A c e a3;have a4:j<=c:=by omega
    simp[execOp,Instr.sliceAt,Instr.slice,run_underlying a6,e,gY (ap hs (by simp[Op.operands]) hh),Instr.sliceBounds,Instr.sliceBound,asIntOf,hj.1,hj.2,b3]
   cases h1 with
   |s0 A c hc=>
    have b4:j.toNat=0:=by omega
    refine⟨_,W A c hv (by omega),?_⟩;rw[<-hu,b4];simp;exact .s0 _ c hc
   |s b off c sz _ _ cv h0 a3 c3 J hb a9 hc hr=>
    have a5:sz=m:=by rw[hl] at J;exact(GO h0 J).symm
    subst a5;refine⟨_,W _ c hv a3,?_⟩;rcases nT j.toNat n with R|R
    .rw[if_neg (by omega),show((some ⟨b,off,none⟩:Option Addr).map (·.add (j.toNat*sz)))=some ⟨b,off+j.toNat*sz,none⟩ from by simp[Addr.add]];have b6:j.toNat*sz+(n-j.toNat)*sz=n*sz:=by rw[<-mS];congr 1;omega
     refine .s b (off+j.toNat*sz) (c-j.toNat) sz (n-j.toNat) us (fun q=>cv (j.toNat*sz+q)) (by omega) (by omega) (by omega) ?_ hb a9 (fun q hq=>?_) (fun q u hq=>?_);·grind
     .grind
     grind
    .have e9:n-j.toNat=0:=by omega
     rw[e9,<-hu,qM (by rw[J];exact nD _ R)];exact .s0 _ _ (by omega))
end
theorem wW (h:Sem P eO o T B (.r (.v (.c (.s n us))))) (e1:n=n') (I:us=us'):Sem P eO o T B (.r (.v (.c (.s n' us')))):=by subst e1 I;exact h
def nxB (eO:Array Oper) (i j:Nat):Bool:=match eO[j]? with
 |none=>false
 |some o=>(bP o).any (Nat.beq i)
theorem KE {i j:Nat}(h:nxB eO i j=true) (I:eO[j]? =some o):i∈bP o:=by unfold nxB at h;rw[I] at h;exact jO.1 h
section
variable {P:Program}{eO:Array Oper}{tail:List Oper}{K:St->Prop}{m n:Nat}{tm0 tm:List (Nat×DV)}{bx:List (Nat×TypeId×List CellD)}
theorem J5 {i3 t3 W Yd:Nat}{p3:String}{R:List CellD}{y3:Operand} (hU:uV P U=some (e,sz,by_,zs)) (hm:0<sz) (hb:cE (fun s=>look s tm) x0=some (.f 0 us)) (o1:eO[i1]? =some ⟨some t1,.call ⟨.builtin .append,#[x0,y1],#[U,U]⟩,ty1,p1,f1,none⟩) (o2:eO[i2]? =some ⟨some t2,.call ⟨.builtin .append,#[.tmp t1,y2],#[U,U]⟩,ty2,p2,f2,none⟩) (o3:eO[i3]? =some ⟨some t3,.call ⟨.builtin .append,#[.tmp t2,y3],#[U,U]⟩,Yd,p3,f3,none⟩) (lt:(Nat.blt i1 m&&Nat.blt i2 m&&Nat.blt i3 m)=true) (d1:cE (fun s=>look s tm) y1=some (.v (.c (.s q1 ys1)))) (d2:cE (fun s=>look s tm) y2=some (.v (.c (.s q2 ys2)))) (d3:cE (fun s=>look s tm) y3=some (.v (.c (.s W R)))) (l1:ys1.length=q1*sz) (l2:ys2.length=q2*sz) (l3:R.length=W*sz) (b0:(pQ eO [i1,i2,i3] m i1 x0&&pQ eO [i1,i2,i3] m i1 y1&&pQ eO [i1,i2,i3] m i2 y2&&pQ eO [i1,i2,i3] m i3 y3)=true) (nx:(nxB eO i1 i2&&nxB eO i2 i3)=true) (hq:0<q1) (w1:look t1 tm0=none) (w2:look t2 tm0=none) (w3:look t3 tm0=none) (v1:look t1 bx=none) (v2:look t2 bx=none) (v3:look t3 bx=none) (hN:q1+q2+W=N') (hz:ys1++ys2++R=zs') (V:N'*by_<=140737488355328) (a4:N'<=maxLen) (hk: ∀c eD,N'<=c->c<=maxLen->eD.length=(c-N')*sz->dl P eO tail ⟨n,(t3,.o t3 N' c)::tm,(t3,e,zs'++eD)::bx⟩ K):∃(U e:TypeId) (sz by_:Nat) (zs:List CellD) (x0:Operand) (ch:List AppS),ChainA P eO [i1,i2,i3] m U e sz by_ zs x0 tm0 tm bx ch/\ ∀c eD,nA ch<=c->c<=maxLen->eD.length=(c-nA ch)*sz->dl P eO tail ⟨n,A6 c ch++tm,GM e eD ch++bx⟩ K:=by
 simp only[di] at lt b0 nx
 have a3:nA [⟨i1,t1,y1,q1,ys1⟩,⟨i2,t2,y2,q2,ys2⟩,⟨i3,t3,y3,W,R⟩]=N':=by show q1+(q2+(W+0))=N';omega
 have a5:uA [⟨i1,t1,y1,q1,ys1⟩,⟨i2,t2,y2,q2,ys2⟩,⟨i3,t3,y3,W,R⟩]=zs':=by show ys1++(ys2++(R++[]))=zs';rw[<-hz];simp
 refine⟨U,e,sz,by_,zs,x0,[⟨i1,t1,y1,q1,ys1⟩,⟨i2,t2,y2,q2,ys2⟩,⟨i3,t3,y3,W,R⟩],⟨hU,hm,⟨us,hb⟩,rfl,?_,?_,?_,?_,?_,?_,by rw[a3];exact⟨V,a4⟩⟩,fun c eD g1 g2 g3=>?_⟩
 .intro l a r h
  match l,h with
  |[],h=>injection h with h _;subst h;exact⟨_,_,_,o1⟩
  |[x],h=>injection h with h I;injection I with I _;subst h I;exact⟨_,_,_,o2⟩
  |[x,y],h=>injection h with h I;injection I with I J;injection J with J _;subst h I J;exact⟨_,_,_,o3⟩
  |x::y::z'::l,h=>have:=congrArg List.length h;simp at this<;>omega
 .simp_all
 .grind
 .grind
 .intro l a b r h o ho
  match l,h with
  |[],h=>injection h with h I;injection I with I _;subst h I;exact KE nx.1 ho
  |[x],h=>injection h with h I;injection I with I J;injection J with J _;subst h I J;exact KE nx.2 ho
  |x::y::l,h=>have:=congrArg List.length h;simp at this<;>omega
 .grind
 .rw[a3] at g1 g3
  show dl P eO tail ⟨n,[(t3,.o t3 (nA _) c)]++tm,[(t3,e,uA _++eD)]++bx⟩ K
  grind
theorem IM  (hU:uV P U=some (e,sz,by_,zs)) (hm:0<sz) (hb:cE (fun s=>look s tm) x0=some (.f 0 us)) (o1:eO[i1]? =some ⟨some t1,.call ⟨.builtin .append,#[x0,y1],#[U,U]⟩,ty1,p1,f1,none⟩) (o2:eO[i2]? =some ⟨some t2,.call ⟨.builtin .append,#[.tmp t1,y2],#[U,U]⟩,ty2,p2,f2,none⟩) (lt:(Nat.blt i1 m&&Nat.blt i2 m)=true) (d1:cE (fun s=>look s tm) y1=some (.v (.c (.s q1 ys1)))) (d2:cE (fun s=>look s tm) y2=some (.v (.c (.s q2 ys2)))) (l1:ys1.length=q1*sz) (l2:ys2.length=q2*sz) (b0:(pQ eO [i1,i2] m i1 x0&&pQ eO [i1,i2] m i1 y1&&pQ eO [i1,i2] m i2 y2)=true) (nx:nxB eO i1 i2=true) (hq:0<q1) (w1:look t1 tm0=none) (w2:look t2 tm0=none) (v1:look t1 bx=none) (v2:look t2 bx=none) (hN:q1+q2=N') (hz:ys1++ys2=zs') (I:N'*by_<=140737488355328) (W:N'<=maxLen) (hk: ∀c eD,N'<=c->c<=maxLen->eD.length=(c-N')*sz->dl P eO tail ⟨n,(t2,.o t2 N' c)::tm,(t2,e,zs'++eD)::bx⟩ K):∃(U e:TypeId) (sz by_:Nat) (zs:List CellD) (x0:Operand) (V:List AppS),ChainA P eO [i1,i2] m U e sz by_ zs x0 tm0 tm bx V/\ ∀c eD,nA V<=c->c<=maxLen->eD.length=(c-nA V)*sz->dl P eO tail ⟨n,A6 c V++tm,GM e eD V++bx⟩ K:=by
 have R:nA [⟨i1,t1,y1,q1,ys1⟩,⟨i2,t2,y2,q2,ys2⟩]=N':=by show q1+(q2+0)=N';omega
 have a3:uA [⟨i1,t1,y1,q1,ys1⟩,⟨i2,t2,y2,q2,ys2⟩]=zs':=by show ys1++(ys2++[])=zs';rw[<-hz];simp
 refine⟨U,e,sz,by_,zs,x0,[⟨i1,t1,y1,q1,ys1⟩,⟨i2,t2,y2,q2,ys2⟩],⟨hU,hm,⟨us,hb⟩,rfl,?_,?_,?_,?_,?_,?_,by rw[R];exact⟨I,W⟩⟩,fun c eD g1 g2 g3=>?_⟩
 .intro l a r h
  match l,h with
  |[],h=>injection h with h _;subst h;exact⟨_,_,_,o1⟩
  |[x],h=>injection h with h J;injection J with J _;subst h J;exact⟨_,_,_,o2⟩
  |x::y::l,h=>have:=congrArg List.length h;simp at this<;>omega
 .simp_all
 .grind
 .grind
 .intro l a b r h o ho
  match l,h with
  |[],h=>injection h with h J;injection J with J _;subst h J;exact KE nx ho
  |x::l,h=>have:=congrArg List.length h;simp at this<;>omega
 .grind
 .rw[R] at g1 g3
  show dl P eO tail ⟨n,[(t2,.o t2 (nA _) c)]++tm,[(t2,e,uA _++eD)]++bx⟩ K
  grind
end
theorem ag1 (a b c d:Pt):ah a++ah b++ah c++ah d=aD ah [a,b,c,d]:=by simp[aD]
section
variable {c d:Cv}
theorem Tg (h:lF c d=true):aX c d=[c.p,c.q,d.p,d.q]:=by unfold aX;rw[if_pos h]
theorem Ri (h:lF c d=false):aX c d=oD c d:=by unfold aX;rw[if_neg (by rw[h];decide)]
theorem UZ {I:Type}{B:I->Bool}{M:List I}{x:I}(h:n<M.length) (J:B (M.getD n x)=true):(M.take (n+1)).filter B=(M.take n).filter B++[M.getD n x]:=by rw[i7 (d:=x) h,wI];grind
theorem G4 {I:Type}{B:I->Bool}{M:List I}{x:I}(h:n<M.length) (J:B (M.getD n x)=false):(M.take (n+1)).filter B=(M.take n).filter B:=by rw[i7 h,wI,List.filter_cons,if_neg (by rw[J];decide)];simp
theorem Vc (h:c.on p=true) (g:d.on p=true):eG c d p=true:=by unfold eG;rw[h,g];rfl
theorem MK (h:c.on p=false):eG c d p=false:=by unfold eG;rw[h];rfl
theorem Ov (g:d.on p=false):eG c d p=false:=by unfold eG;rw[g,sE]
theorem agZ (h:Pz d l r=true):Pz d l (r+1)=true:=by show(Pz d l r||_)=true;rw[h];rfl
theorem afY (h:Pz d l r=false):Pz d l (r+1)=decide (d.ord (l.getD r dPt) (l.getD (r+1) dPt)<0):=by show(Pz d l r||_)=_;rw[h];rfl
theorem YD (h:lF c d=false):CV c d=false:=by unfold CV;rw[if_neg (by rw[h];decide)]
theorem V9 (h:lF c d=true) (I:(en c d).length-1=r):CV c d=Pz (jg c d) (en c d) r:=by unfold CV;rw[if_pos h,I]
theorem LM (I:d.good):(jg c d).good:=by
 unfold jg;split;·exact C9 I
 .exact I
end
theorem kH {x y m n:Int}(h1: -m<=x/\x<=m) (I: -n<=y/\y<=n): -(m*n)<=x*y/\x*y<=m*n:=by
 have hm:(x.natAbs:Int)<=m:=by omega
 have hn:(y.natAbs:Int)<=n:=by omega
 have h:(x*y).natAbs=x.natAbs*y.natAbs:=Int.natAbs_mul x y;have J:((x.natAbs*y.natAbs:Nat):Int)<=m*n:=by exact qJ hm hn (by omega) (by omega)
 omega
def qD (A u:Int):Rat:=Rat.divInt A u
theorem bQ (h: -128<=A/\A<=127) (I:1<=u/\u<=4):Rz 1 (qD A u):=Rz.of (qP (by omega) (by omega)) (qP (by omega) (by omega)) (by omega)
def WE (a b c d:Rat):Ln:=⟨b-d,c-a,(b-d)*a+(c-a)*b⟩
def rP (a b:Rat):Pt:=⟨a,0,b,0,0⟩
theorem X6 {c:Rat}(J:Rz 1 a) (I:Rz 1 b) (V:Rz 1 c) (R:Rz 1 d) (h: ¬(b-d=0/\c-a=0)):GL (WE a b c d):=
 ⟨(I.sub R).mono (by decide),(V.sub J).mono (by decide),(((I.sub R).mul J).add ((V.sub J).mul I)).mono (by decide),fun e=>h (Na e)⟩
theorem Ml (I:Rz 1 a) (J:Rz 1 b):GP (rP a b):=GP.rat (I.mono (by decide)) (J.mono (by decide))
theorem HO {c:Rat}(h:cP (rP a b) (rP c d)=0):a=c/\b=d:=by
 have h:nR a 0 b 0 0 c 0 d 0 0=0:=h;unfold nR at h;split at h;·grind
 .rename_i g;have h1:=fY.1 (kU g);have I:=fY.1 h;grind
def p8 (a b c d e f:Rat):Rat:=(c-a)*(f-b)-(d-b)*(e-a)
def B9 (a b c d e f:Rat):Rat:=(((c-a)*(c-a)+(d-b)*(d-b))*(f-b)-((e-a)*(e-a)+(f-b)*(f-b))*(d-b))/(p8 a b c d e f+p8 a b c d e f)
def DN (a b c d e f:Rat):Rat:=(((e-a)*(e-a)+(f-b)*(f-b))*(c-a)-((c-a)*(c-a)+(d-b)*(d-b))*(e-a))/(p8 a b c d e f+p8 a b c d e f)
def Zu (a b c d e f:Rat):Ci:=⟨a+B9 a b c d e f,b+DN a b c d e f,B9 a b c d e f*B9 a b c d e f+DN a b c d e f*DN a b c d e f⟩
theorem LS {N:Int}{x:Rat}(hD:D≠0) (h:x*(D:Rat)=(N:Rat)):x=Rat.divInt N D:=by
 have I:(D:Rat)≠0:=by simpa using hD
 rw[uc,<-h,Rat.mul_div_cancel I]
theorem aby {B C E F:Int}(hA: -128<=A/\A<=127) (hB: -128<=B/\B<=127) (hC: -128<=C/\C<=127) (hD: -128<=D/\D<=127) (hE: -128<=E/\E<=127) (hF: -128<=F/\F<=127) (hu:1<=u/\u<=4) (hn:p8 (qD A u) (qD B u) (qD C u) (qD D u) (qD E u) (qD F u)≠0):GK (Zu (qD A u) (qD B u) (qD C u) (qD D u) (qD E u) (qD F u)):=by
 have a9:(u:Rat)≠0:=by have:u≠0:=by omega
                       simpa using this
 have q: ∀X:Int,qD X u*(u:Rat)=(X:Rat):=fun X=>by unfold qD;rw[uc,xp a9]
 obtain⟨V,c5⟩: ∃V,V=C-A:=⟨_,rfl⟩
 obtain⟨R,c7⟩: ∃R,R=D-B:=⟨_,rfl⟩
 obtain⟨qx,b7⟩: ∃qx,qx=E-A:=⟨_,rfl⟩
 obtain⟨W,c3⟩: ∃W,W=F-B:=⟨_,rfl⟩
 obtain⟨I,hI⟩: ∃I,I=V*W-R*qx:=⟨_,rfl⟩
 obtain⟨NX,b6⟩: ∃NX,NX=(V*V+R*R)*W-(qx*qx+W*W)*R:=⟨_,rfl⟩
 obtain⟨NY,c6⟩: ∃NY,NY=(qx*qx+W*W)*V-(V*V+R*R)*qx:=⟨_,rfl⟩
 have b1: -255<=V/\V<=255:=by omega
 have b2: -255<=R/\R<=255:=by omega
 have b3: -255<=qx/\qx<=255:=by omega
 have b4: -255<=W/\W<=255:=by omega
 have m1:=kH b1 b4
 have m2:=kH b2 b3
 have m3:=kH b1 b1
 have m4:=kH b2 b2
 have m5:=kH b3 b3
 have m6:=kH b4 b4
 have bI: -130050<=I/\I<=130050:=by omega
 have n1:=kH (x:=V*V+R*R) (m:=130050) (by omega) b4
 have n2:=kH (x:=qx*qx+W*W) (m:=130050) (by omega) b2
 have n3:=kH (x:=qx*qx+W*W) (m:=130050) (by omega) b1
 have n4:=kH (x:=V*V+R*R) (m:=130050) (by omega) b3
 have bX: -66325500<=NX/\NX<=66325500:=by omega
 have bY: -66325500<=NY/\NY<=66325500:=by omega
 have bA:=kH (x:=A) (m:=128) (by omega) bI
 have bB:=kH (x:=B) (m:=128) (by omega) bI
 have bu:=kH (x:=u) (m:=4) (by omega) bI
 have sX:=kH bX bX
 have sY:=kH bY bY
 have r1:=q A;have r2:=q B;have r3:=q C;have r4:=q D;have r5:=q E;have r6:=q F
 generalize qD A u=a at*
 generalize qD B u=b at*
 generalize qD C u=c at*
 generalize qD D u=d at*
 generalize qD E u=e at*
 generalize qD F u=f at*
 have a3:(c-a)*(u:Rat)=(V:Rat):=by rw[c5,sV,<-r3,<-r1];grind
 have a6:(d-b)*(u:Rat)=(R:Rat):=by rw[c7,sV,<-r4,<-r2];grind
 have a5:(e-a)*(u:Rat)=(qx:Rat):=by rw[b7,sV,<-r5,<-r1];grind
 have a4:(f-b)*(u:Rat)=(W:Rat):=by rw[c3,sV,<-r6,<-r2];grind
 have cI:p8 a b c d e f*((u:Rat)*(u:Rat))=(I:Rat):=by rw[hI,sV,ja,ja,<-a3,<-a6,<-a5,<-a4];unfold p8;grind
 have c8:I≠0:=by
  intro e0;rw[e0] at cI;have h1:p8 a b c d e f*((u:Rat)*(u:Rat))=0:=by rw[cI];rfl
  rcases zT.1 h1 with h2|h2;·exact hn h2
  .rcases zT.1 h2 with h3|h3<;>exact a9 h3
 have b5:p8 a b c d e f+p8 a b c d e f≠0:=fun h=>hn (by grind)
 have cX:B9 a b c d e f*((2*u*I:Int):Rat)=(NX:Rat):=by
  have h1:B9 a b c d e f*(p8 a b c d e f+p8 a b c d e f)=((c-a)*(c-a)+(d-b)*(d-b))*(f-b)-((e-a)*(e-a)+(f-b)*(f-b))*(d-b):=by unfold B9;exact xp b5
  have h2:((2*u*I:Int):Rat)=(p8 a b c d e f+p8 a b c d e f)*((u:Rat)*(u:Rat)*(u:Rat)):=by rw[ja,ja,<-cI];show(2:Rat)*_*_=_;grind
  rw[h2,<-Rat.mul_assoc,h1,b6];simp only[sV,ja,sN];rw[<-a3,<-a6,<-a5,<-a4];grind
 have cY:DN a b c d e f*((2*u*I:Int):Rat)=(NY:Rat):=by
  have h1:DN a b c d e f*(p8 a b c d e f+p8 a b c d e f)=((e-a)*(e-a)+(f-b)*(f-b))*(c-a)-((c-a)*(c-a)+(d-b)*(d-b))*(e-a):=by unfold DN;exact xp b5
  have h2:((2*u*I:Int):Rat)=(p8 a b c d e f+p8 a b c d e f)*((u:Rat)*(u:Rat)*(u:Rat)):=by rw[ja,ja,<-cI];show(2:Rat)*_*_=_;grind
  rw[h2,<-Rat.mul_assoc,h1,c6];simp only[sV,ja,sN];rw[<-a3,<-a6,<-a5,<-a4];grind
 have J:2*u*I≠0:=by
  rw[Int.mul_assoc];intro h;rcases sD.1 h with h|h;·omega
  .rcases sD.1 h with h|h;·omega
   .exact c8 h
 have eM:2*u*I=2*(u*I):=by rw[Int.mul_assoc]
 have bM: -1040400<=2*u*I/\2*u*I<=1040400:=by rw[eM];omega
 obtain⟨M,hM⟩: ∃M,M=2*u*I:=⟨_,rfl⟩
 rw[<-hM] at cX cY J bM
 have cA:a*(M:Rat)=((2*(A*I):Int):Rat):=by rw[hM,ja,ja,ja,ja,<-r1];show a*((2:Rat)*_*_)=(2:Rat)*_;grind
 have cB:b*(M:Rat)=((2*(B*I):Int):Rat):=by rw[hM,ja,ja,ja,ja,<-r2];show b*((2:Rat)*_*_)=(2:Rat)*_;grind
 have e1:a+B9 a b c d e f=Rat.divInt (2*(A*I)+NX) M:=LS J (by rw[sN,<-cA,<-cX];grind)
 have e2:b+DN a b c d e f=Rat.divInt (2*(B*I)+NY) M:=LS J (by rw[sN,<-cB,<-cY];grind)
 have e3:B9 a b c d e f*B9 a b c d e f+DN a b c d e f*DN a b c d e f=Rat.divInt (NX*NX+NY*NY) (M*M):=
  LS (fun h=>by rcases sD.1 h with h|h<;>exact J h) (by rw[sN,ja,ja,ja,<-cX,<-cY];grind)
 have d2:=kH bM bM
 have p2:pw 2=1000000000000000000:=by decide+kernel
 have s2: ∀x:Int,-1000000000000000000<x->x<1000000000000000000->Sz 2 x:=fun x h h'=>⟨by omega,by omega⟩
 refine⟨?_,?_,?_⟩
 .show Rz 1 (a+B9 a b c d e f)
  rw[e1]
  exact Rz.of (qP (by omega) (by omega)) (qP (by omega) (by omega)) J
 .show Rz 1 (b+DN a b c d e f)
  rw[e2]
  exact Rz.of (qP (by omega) (by omega)) (qP (by omega) (by omega)) J
 .show Rz 2 (B9 a b c d e f*B9 a b c d e f+DN a b c d e f*DN a b c d e f)
  rw[e3]
  exact Rz.of (s2 _ (by omega) (by omega)) (s2 _ (by omega) (by omega)) (fun h=>by rcases sD.1 h with h|h<;>exact J h)
def se (k:Ci):Pt:=iP k.x (-1) k.y 0 k.q
def sv (k:Ci):Pt:=iP k.x 1 k.y 0 k.q
theorem ny:Rz 1 (1:Rat):=⟨by rw[show(1:Rat).num=1 from rfl];exact qP (by decide) (by decide),by rw[show((1:Rat).den:Int)=1 from rfl];exact Sz.one (by decide)⟩
theorem At (I:GK k) (h0:0<k.q):GP (se k):=Bv (I.x.mono (by decide)) (ny.neg.mono (by decide)) (I.y.mono (by decide)) (iH (by decide)) (I.q.mono (by decide)) h0 (fun e=>absurd e.1 (by decide))
theorem Af (I:GK k) (h0:0<k.q):GP (sv k):=Bv (I.x.mono (by decide)) (ny.mono (by decide)) (I.y.mono (by decide)) (iH (by decide)) (I.q.mono (by decide)) h0 (fun e=>absurd e.1 (by decide))
def AF:List CellD:=H6++H6++H6++H6++H6
theorem ZT {q:Rat}(h0:0<q) (hs:jy q=true):rt q≠0:=by
 intro h;have I:=hs;unfold jy Bw at I;simp only[di,beq_iff_eq] at I;have V:bm (q.den:Int)≠0:=by have:=yv (den_pos q);omega
 have J:((bm (q.den:Int):Int):Rat)≠0:=by simpa using V
 have h1:((bm q.num:Int):Rat)=0:=by
  have h2:rt q*((bm (q.den:Int):Int):Rat)=((bm q.num:Int):Rat):=by unfold rt;rw[uc,xp J]
  grind
 have W:bm q.num=0:=by simpa using h1
 have R:=I.1;rw[W,uR] at R;have h5:q=0:=Rat.num_eq_zero.1 R.symm;grind
theorem Yh (h0:0<k.q):cP (se k) (sv k)≠0/\cP (sv k) (se k)≠0:=by
 have hq:0<=k.q:=by grind
 cases hs:jy k.q with
 |true=>
  have e1:se k=rP (k.x+ -1*rt k.q) (k.y+0*rt k.q):=by unfold se iP;rw[hs];rfl
  have W:sv k=rP (k.x+1*rt k.q) (k.y+0*rt k.q):=by unfold sv iP;rw[hs];rfl
  have hr:=ZT h0 hs;rw[e1,W];exact⟨fun h=>hr (by have:=(HO h).1;grind),fun h=>hr (by have:=(HO h).1;grind)⟩
 |false=>
  have e1:se k=⟨k.x,-1,k.y,0,k.q⟩:=by unfold se iP;rw[hs];rfl
  have W:sv k=⟨k.x,1,k.y,0,k.q⟩:=by unfold sv iP;rw[hs];rfl
  have z1:zc (-1:Rat) k.q=k.q:=by unfold zc;rw[if_neg (by decide)]
  have z2:zc (1:Rat) k.q=k.q:=by unfold zc;rw[if_neg (by decide)]
  have a3:bz (Re.rt k.q)≠0:=by intro h;have h1:=pe (CO hq);rw[cU,h,fZ] at h1;exact absurd (fY.1 h1.symm) (by grind)
  have J: ∀s:Rat,s≠0->zc s k.q=k.q->zc (-s) k.q=k.q->Bh k.x (-s) k.q k.x s k.q≠0:=by
   intro s a4 V R;rw[pp hq hq];unfold y7 fE;rw[V,R];have e:(Re.of k.x+Re.of (-s)*Re.rt k.q)-(Re.of k.x+Re.of s*Re.rt k.q)=Re.of (-2*s)*Re.rt k.q:=fj fun n=>by simp only[bF,bo,bV,dy];grind
   rw[e,cU,fZ];intro h;rcases sD.1 h with h|h;·have:=fY.1 h;grind
   grind
  have I: ∀ {p q:Pt},cx p q≠0->cP p q≠0:=by intro p q h;show nR _ _ _ _ _ _ _ _ _ _≠0;unfold nR;rw[if_pos (show Bh p.a1 p.b1 p.c q.a1 q.b1 q.c≠0 from h)];exact h
  rw[e1,W];exact⟨I (J 1 (by decide) z2 z1),I (by have:=J (-1) (by decide) z1 (by rw[Rat.neg_neg];exact z2);rw[Rat.neg_neg] at this;exact this)⟩
def uD (U:Int):Int:=U%4+1
def C0 (k:Ci):List Cv:=[.arc k false (se k) (sv k),.arc k false (sv k) (se k)]
def ac2 (a b c d e f:Rat):Cv:=.arc (Zu a b c d e f) (decide (aG ((c-a)*(f-b)) ((d-b)*(e-a))<0)) (rP a b) (rP e f)
def abm (a b c d:Rat):Cv:=.seg (WE a b c d) (rP a b) (rP c d)
def yF (K U A B C D E F:Int):List Cv:=
 if K%3=2 then(if 0<qD C (uD U) then C0 ⟨qD A (uD U),qD B (uD U),qD C (uD U)⟩ else[])
 else if K%3=1 then(if p8 (qD A (uD U)) (qD B (uD U)) (qD C (uD U)) (qD D (uD U)) (qD E (uD U)) (qD F (uD U))=0 then[] else[ac2 (qD A (uD U)) (qD B (uD U)) (qD C (uD U)) (qD D (uD U)) (qD E (uD U)) (qD F (uD U))])
 else(if qD B (uD U)-qD D (uD U)=0/\qD C (uD U)-qD A (uD U)=0 then[] else[abm (qD A (uD U)) (qD B (uD U)) (qD C (uD U)) (qD D (uD U))])
structure CvG (c:Cv):Prop where
 g:c.good
 ne:cP c.p c.q≠0
theorem UB {c e:Rat}:aG ((c-a)*(f-b)) ((d-b)*(e-a))=0↔p8 a b c d e f=0:=by rw[show aG ((c-a)*(f-b)) ((d-b)*(e-a))=aG (p8 a b c d e f) 0 from(pc _ _).symm,fY]
theorem Xp {c e:Rat}(h:p8 a b c d e f≠0):cP (rP a b) (rP e f)≠0:=by intro h1;obtain⟨rfl,rfl⟩:=HO h1;exact h (by unfold p8;grind)
theorem Jw {U:Int}(_h:0<=U):1<=uD U/\uD U<=4:=by unfold uD;omega
section
variable {K U A B C D E F:Int}(hU:0<=U) (hA: -128<=A/\A<=127) (hB: -128<=B/\B<=127) (hC: -128<=C/\C<=127) (hD: -128<=D/\D<=127) (hE: -128<=E/\E<=127) (hF: -128<=F/\F<=127)
include hU hA hB hC hD hE hF
theorem Ds: ∀c∈yF K U A B C D E F,CvG c:=by
 intro c J;have I:=Jw hU;unfold yF at J;split at J
 .split at J
  .rename_i h0;have R:GK ⟨qD A (uD U),qD B (uD U),qD C (uD U)⟩:=⟨bQ hA I,bQ hB I,(bQ hC I).mono (by decide)⟩;have W:=At R h0;have g2:=Af R h0;have V:=Yh (k:=⟨qD A (uD U),qD B (uD U),qD C (uD U)⟩) h0;rcases dt.1 J with e|e;·subst e;exact⟨⟨R,W,g2⟩,V.1⟩
   .rw[gZ] at e;subst e;exact⟨⟨R,g2,W⟩,V.2⟩
  grind
 .split at J
  .split at J;·grind
   .rename_i h0;rw[gZ] at J;subst J;exact⟨⟨aby hA hB hC hD hE hF I h0,Ml (bQ hA I) (bQ hB I),Ml (bQ hE I) (bQ hF I)⟩,Xp h0⟩
  .split at J;·grind
   .rename_i h0;rw[gZ] at J;subst J;refine⟨⟨X6 (bQ hA I) (bQ hB I) (bQ hC I) (bQ hD I) h0,Ml (bQ hA I) (bQ hB I),Ml (bQ hC I) (bQ hD I)⟩,fun h=>h0 ?_⟩;obtain⟨e1,e2⟩:=HO h;grind
omit hU hA hB hC hD hE hF in
theorem Y5:(yF K U A B C D E F).length<=2:=by
 unfold yF C0;repeat' split
 all_goals simp
end
def fW (c:Cv) (l:List Cv):List Pt:=l.flatMap (en c)
theorem mv {l:List Cv}(h:n<l.length):fW c (l.take (n+1))=fW c (l.take n)++en c (l.getD n db):=by unfold fW;rw[i7 (d:=db) h,List.flatMap_append];grind
theorem By {c:Cv}(I:c.good): ∀ {l:List Cv},(∀d∈l,d.good)-> ∀p∈fW c l,GP p/\c.on p=true
 |[],_,p,hp=>by cases hp
 |d::l,h,p,hp=>by
  unfold fW at hp;rw[List.flatMap_cons] at hp;rcases lh.1 hp with hp|hp
  .refine⟨Jv I (h d fC) p hp,?_⟩;have h1:=(u6.1 (nk hp)).2;unfold eG at h1;exact(di _ _▸h1).1
  .exact By I (fun d J=>h d (fv _ J)) p hp
theorem CQ {c:Cv}: ∀ {l:List Cv},(fW c l).length<=4*l.length
 |[]=>bk _
 |d::l=>by have h1:=CQ (c:=c) (l:=l);have I:=rM (a:=c) (c:=d);unfold fW at*;rw[List.flatMap_cons,dB];show _<=4*(l.length+1);omega
theorem Sk (h:cP p q≠0):(iO c (iO c [] p) q).length=2:=by unfold iO;grind
theorem Fm (h:cP p q≠0):2<=(cj c ([p,q]++l)).length:=by have h1:=(Do (c:=c) l (iO c (iO c [] p) q)).1;rw[Sk h] at h1;exact h1
def Ga (A0 Bl:List Cv):List Cv:=um (A0.getD 0 db) (fW (A0.getD 0 db) Bl)
theorem JK {A0 Bl:List Cv}(h:cP (A0.getD 0 db).p (A0.getD 0 db).q≠0):0<(Ga A0 Bl).length:=by unfold Ga um;rw[lN];have:=Fm (c:=A0.getD 0 db) (l:=fW (A0.getD 0 db) Bl) h;omega
theorem Ei {q:Nat} (hU:uV P U=some (e,m,by_,zs)) (hx:cE T x=some .z) (hy:cE T y=some (.v (.c (.s q ys)))) (hq:q=0) (hg:gd eO ⟨dst,.call ⟨.builtin .append,#[x,y],#[U,U]⟩,ty,pos,af,g⟩ T=some true):Sem P eO ⟨dst,.call ⟨.builtin .append,#[x,y],#[U,U]⟩,ty,pos,af,g⟩ T B (.r .z):=by
 subst hq
 refine⟨qV rfl,fun V β a w hs=>⟨eK hs hg,?_⟩⟩
 have e1:a.eval x=.slice none 0 0:=ap hs (by simp[Op.operands,Call.operands]) hx
 have W:RdC V w (a.eval y) (.s 0 ys):=ap hs (by simp[Op.operands,Call.operands]) hy
 have a5:ys=[]:=by
  generalize a.eval y=vy at W;cases W with
  |s0=>rfl
  |s b off c sz n' a6 cv h0=>omega
 subst a5
 obtain⟨er,I,_⟩:=uG hU W (by simp)
 obtain⟨hu,i,z,hi,hz,a4,a9,_,b3⟩:=i5 hU
 subst a4
 have a3:er=[]:=jM.1 (by rw[I.newsLen,Nat.zero_mul])
 subst a3
 have R:(Builtin.append_ #[U,U] ty #[.slice none 0 0,a.eval y]).run P w=.ok (.slice none 0 0) w:=by rcases I.kind with⟨e',hk⟩|hk<;>simp[Builtin.append_,run_underlying hu,sizeOf,typeInfo,hi,I.len,I.cells]<;>rfl
 have J:(execOp a.eval ⟨dst,.call ⟨.builtin .append,#[x,y],#[U,U]⟩,ty,pos,af,g⟩).run P w=.ok (.value (.slice none 0 0)) w:=by simp only[execOp,resolve,invoke,builtin,fh,dA,ft,qe,lQ,qv,e1];rw[R];rfl
 unfold Gives
 rw[J]
 exact⟨rfl,fe _ w⟩
end
section
def uK (k:Fin 4):Bool:=k==0||k==1
def uF (k:Fin 4):Bool:=k==2||k==1
def Dh (u v:Bool) (n:Int):Int:=if u !=v then(if v then-1 else 1) else if u then-n else n
def Bm (u v:Bool) (n:Int):Int:=if u !=v then(if u then-1 else 1) else if u then-n else n
def GU (a1 a2 I:Int):Int:=if decide (a1<0) !=decide (a2<0) then(if decide (a2<0) then-1 else 1) else I
def Pj (b:Int):Int:=if b=0 then 0 else if b>0 then 1 else 2
def sg1 (n:Int):Int:=min 1 (max (-1) n)
def uZ (b1 b2 I:Int):Int:=if Pj b1≠Pj b2 then sg1 (Pj b1-Pj b2) else sg1 I
def i3 (i:Fin 3):Int:=(i.val:Int)-1
def BI (I R J:Int):Bool:=(R !=0||J==I)&&(I !=0||J== -R)&&(I != -R||J==I)
def ow (k l:Fin 4) (n:Int):Bool:=
 if k=0 then n==(if l=0 then 0 else 1) else if k=2 then n==(if l=2 then 0 else-1)
 else if l=0 then n== -1 else if l=2 then n==1 else true
theorem Qi: ∀(I up J:Bool) (i j l:Fin 3),BI (i3 i) (i3 j) (i3 l)=true-> GU (Dh up I (i3 i)) (Dh J I (i3 j)) (Dh up J (i3 l))=uZ (Bm up I (i3 i)) (Bm J I (i3 j)) (Bm up J (i3 l)):=by decide+kernel
def cwR (I J V:Fin 4) (R n2 W:Int):Bool:=
 decide (GU (Dh (uF I) (uF I) 0) (Dh (uF J) (uF I) (-R)) (Dh (uF I) (uF J) R)<=0)&&
 decide (GU (Dh (uF J) (uF I) (-R)) (Dh (uF V) (uF I) (-n2)) (Dh (uF J) (uF V) (-W))<=0)
def cwP (J R I:Fin 4) (W n2 V:Int):Bool:=
 decide (uZ (Bm (uK R) (uK I) V) (Bm (uK J) (uK I) (-n2)) (Bm (uK R) (uK J) W)<=0)
theorem Yo: ∀(J R I:Fin 4) (i j l:Fin 3),BI (i3 i) (i3 j) (i3 l)=true->ow R J (i3 i)=true->ow I J (i3 j)=true->ow R I (i3 l)=true-> cwR J R I (i3 i) (i3 j) (i3 l)=cwP J R I (i3 i) (i3 j) (i3 l):=by decide+kernel
def aiJ (I up R:Bool) (J W V:Int):Bool:=
 decide (GU (Dh I I 0) (Dh up I J) (Dh I up (-J))<=0)&&decide (GU (Dh up I J) (Dh R I W) (Dh up R V)<=0)
def ahM (J up I:Bool) (V W R:Int):Bool:=decide (uZ (Bm up J V) (Bm I J W) (Bm up I R)<=0)
theorem Ur: ∀(I up J:Bool) (i j l:Fin 3),BI (i3 i) (i3 j) (i3 l)=true->aiJ I up J (i3 i) (i3 j) (i3 l)=ahM I up J (i3 i) (i3 j) (i3 l):=by decide+kernel
end
section
variable {k:Ci}{c:Cv}{L l:List Pt}{f o p q t x:Pt}{a b:Rat}
def pX (p:Pt):Re:=y7 p.a1 p.b1 p.c
def pY (p:Pt):Re:=y7 p.a2 p.b2 p.c
theorem cD (h:GP p):0<=p.c:=ye h.v
theorem ng (hp:0<=p.c) (hq:0<=q.c):cx p q=bz (pX p-pX q):=pp hp hq
theorem F1 (hp:0<=p.c) (hq:0<=q.c):cy p q=bz (pY p-pY q):=pp hp hq
theorem CH (hp:0<=p.c) (v:Rat):zX p v=bz (pX p-Re.of v):=by unfold zX;rw[io (lP hp)];exact congrArg bz (fj fun n=>by unfold pX y7 fE;simp only[bF,bo,bV,dy];grind)
theorem DC (hp:0<=p.c) (v:Rat):mh p v=bz (pY p-Re.of v):=by unfold mh;rw[io (lP hp)];exact congrArg bz (fj fun n=>by unfold pY y7 fE;simp only[bF,bo,bV,dy];grind)
theorem gw (hp:0<=p.c) (hq:0<=q.c):cx q p= -cx p q:=by rw[ng hp hq,ng hq hp,AD]
theorem BA (hp:0<=p.c):cx p p=0:=by rw[ng hp hp,BZ]
theorem W4 {A B c:Rat}(I:0<=c) (b1 b2 x y:Rat) (hA:A=MB x y b1 b2 c) (hB:B=Pw x y b1 b2):bz (fE A B (zc B c)-(y7 x b1 c*y7 x b1 c+y7 y b2 c*y7 y b2 c))=0:=by
 subst hA hB
 rw[show fE (MB x y b1 b2 c) (Pw x y b1 b2) (zc (Pw x y b1 b2) c)=y7 (MB x y b1 b2 c) (Pw x y b1 b2) c from rfl,Dd,Dd,Dd]
 have e:Re.of (MB x y b1 b2 c)+Re.of (Pw x y b1 b2)*Re.rt c-((Re.of x+Re.of b1*Re.rt c)*(Re.of x+Re.of b1*Re.rt c)+(Re.of y+Re.of b2*Re.rt c)*(Re.of y+Re.of b2*Re.rt c))=Re.of (-(b1*b1+b2*b2))*(Re.rt c*Re.rt c-Re.of c):=fj fun n=>by unfold MB Pw;simp only[bF,bo,bV,dy];grind
 rw[e,cU,CO I,uR]
def Ae (k:Ci) (p:Pt):Re:=(pX p-Re.of k.x)*(pX p-Re.of k.x)+(pY p-Re.of k.y)*(pY p-Re.of k.y)-Re.of k.q
theorem EU (a b c v:Rat):y7 (a-v) b c=y7 a b c-Re.of v:=fj fun n=>by unfold y7 fE;simp only[bF,bo,bV,dy];grind
theorem aax (hp:0<=p.c):bz (fE (PU k p) (HC k p) (zc (HC k p) p.c))=bz (Ae k p):=by apply pe;rw[<-(W4 (B:=HC k p) hp p.b1 p.b2 (p.a1-k.x) (p.a2-k.y) rfl rfl)];refine congrArg bz (fj fun n=>?_);unfold Ae pX pY;rw[EU,EU];unfold PU fE;simp only[bF,bo,bV,dy];grind
theorem G3 (I:xm p.b1 p.b2 p.c=true):kq k p= -bz (Ae k p):=by unfold kq;rw[<-aax (ye I),Tq (lP (ye I))];intro J;have h:=RT I J;rw[show zc (HC k p) p.c=p.c from by unfold zc;rw[if_neg J]];grind
theorem Hr (hp:GP p):kq k p= -bz (Ae k p):=G3 hp.v
theorem N8 (k:Ci) (p:Pt): -1<=kq k p/\kq k p<=1:=by have:=U8 (PU k p) (HC k p) (zc (HC k p) p.c);unfold kq;omega
def OnK (k:Ci) (p:Pt):Prop:=GP p/\kq k p=0
theorem bW {w:Bool}:(Cv.arc k w f t).supp p=true↔kq k p=0:=by show(kq k p==0)=true↔_;simp
def kd (k:Ci) (p:Pt):Fin 4:=if mh p k.y>0 then 1 else if mh p k.y=0 then(if zX p k.x>0 then 0 else 2) else 3
theorem jt (k:Ci) (p:Pt):kv k p=uK (kd k p):=by
 unfold kv kd uK;by_cases h:mh p k.y>0;·grind
 grind
section
variable {k:Ci}{p:Pt}(hq:0<k.q) (hp:OnK k p)
include hp
theorem bJ:0<=p.c:=cD hp.1
theorem zW:bz (Ae k p)=0:=by have h1:=Hr (k:=k) hp.1;rw[hp.2] at h1;omega
include hq
theorem Qk (h:mh p k.y=0):zX p k.x≠0:=by
 intro I;rw[DC (bJ hp)] at h;rw[CH (bJ hp)] at I;have e:Re.of k.q=((pX p-Re.of k.x)*(pX p-Re.of k.x)+(pY p-Re.of k.y)*(pY p-Re.of k.y))+ -Ae k p:=fj fun n=>by unfold Ae;simp only[bF,bo,bV,dy,cr];grind
 have J:bz (Re.of k.q)=0:=by rw[e,dE _ (by rw[fq,zW hp];rfl),dE _ (by rw[cU,h,nQ]),cU,I,nQ]
 rw[fZ] at J;have:=fY.1 J;grind
end
theorem BQ (p:Pt):pX p.flip= -pX p:=fj fun n=>by
 show(y7 (-p.a1) (-p.b1) p.c).s n=_;unfold pX y7 fE;have:zc (-p.b1) p.c=zc p.b1 p.c:=by
  by_cases h:p.b1=0;·grind
  .rw[j6 h,j6 (by grind)]
 simp only[bF,bV,dy,cr];grind
theorem Xd (p:Pt):pY p.flip=pY p:=rfl
theorem CR (hp:0<=p.c):zX p.flip k.mir.x= -zX p k.x:=by rw[CH (show 0<=p.flip.c from hp),CH hp,BQ,<-fq];exact congrArg bz (fj fun n=>by show _+ -(-k.x)=_;simp only[bo,dy,cr];grind)
theorem Dm (k:Ci) (p:Pt):mh p.flip k.mir.y=mh p k.y:=rfl
theorem mj (hp:0<=p.c) (hq:0<=q.c):cx p.flip q.flip= -cx p q:=by rw[ng (show 0<=p.flip.c from hp) (show 0<=q.flip.c from hq),ng hp hq,BQ,BQ,<-fq];exact congrArg bz (fj fun n=>by simp only[bo,cr];grind)
theorem rT (hq:0<k.q) (hp:OnK k p):kv k.mir p.flip=uF (kd k p):=by
 have I:=Qk hq hp;unfold kv kd uF;rw[CR (k:=k) (bJ hp),Dm];by_cases h:mh p k.y>0;·grind
 grind
theorem fA (k:Ci) (p q:Pt):gE k p q=Dh (kv k p) (kv k q) (cx p q):=rfl
def nG (k:Ci) (p q:Pt):Int:=Bm (kv k p) (kv k q) (cx p q)
def rF (k:Ci) (f p:Pt):Int:=Pj (nG k p f)
def vo (k:Ci) (f p q:Pt):Int:=uZ (nG k p f) (nG k q f) (nG k p q)
theorem rN (k:Ci) (f p q:Pt):tG k f p q=GU (gE k p f) (gE k q f) (gE k p q):=rfl
theorem eo {n:Int}(h: -1<=n/\n<=1): ∃i:Fin 3,n=i3 i:=by
 rcases(by omega:n= -1\/n=0\/n=1) with h|h|h;·exact⟨0,h⟩
 .exact⟨1,h⟩
 .exact⟨2,h⟩
theorem gO (R:0<=f.c) (hp:0<=p.c) (J:0<=t.c):BI (cx p f) (cx t f) (cx p t)=true:=by
 rw[ng hp R,ng J R,ng hp J];have I:pX p-pX t=(pX p-pX f)+ -(pX t-pX f):=fj fun n=>by simp only[bF,bo,cr];grind
 unfold BI;simp only[di,rV,bne_iff_ne,beq_iff_eq];refine⟨⟨?_,?_⟩,?_⟩
 .by_cases h:bz (pX t-pX f)=0;·right;rw[I];exact dE _ (by rw[fq,h];rfl)
  grind
 .by_cases h:bz (pX p-pX f)=0;·right;rw[I,nO h,fq]
  grind
 .by_cases h:bz (pX p-pX f)= -bz (pX t-pX f);·right;rw[I,ml (by rw[fq];exact h)]
  grind
theorem aco (X:Re):bz (X+X)=bz X:=ml rfl
theorem Ca {l:Pt}(hp:OnK k p) (hl:OnK k l) (h0:mh p k.y=0) (h1:zX p k.x>0):(mh l k.y=0/\zX l k.x>0/\cx p l=0)\/(¬(mh l k.y=0/\zX l k.x>0)/\cx p l=1):=by
 have R:=bJ hp
 have cl:=bJ hl
 rw[DC R] at h0
 rw[CH R] at h1
 rw[DC cl,CH cl,ng R cl]
 generalize hP:pX p-Re.of k.x=P at*
 generalize hL:pX l-Re.of k.x=L at*
 generalize hY:pY p-Re.of k.y=Y at*
 generalize hZ:pY l-Re.of k.y=Z at*
 have d:pX p-pX l=P-L:=by rw[<-hP,<-hL];exact fj fun n=>by simp only[bo];grind
 rw[d]
 have w1:Ae k p=P*P+Y*Y-Re.of k.q:=by rw[<-hP,<-hY];rfl
 have w2:Ae k l=L*L+Z*Z-Re.of k.q:=by rw[<-hL,<-hZ];rfl
 have e:(P-L)*(P+L)=(Z*Z+(P*P+Y*Y-Re.of k.q))+(-(L*L+Z*Z-Re.of k.q)+ -(Y*Y)):=fj fun n=>by simp only[bF,bo,bV,dy,cr];grind
 have z1:bz (-(L*L+Z*Z-Re.of k.q)+ -(Y*Y))=0:=by rw[dE _ (by rw[fq,cU,h0];rfl),fq,<-w2,zW hl];rfl
 have I:bz (P-L)*bz (P+L)=bz Z*bz Z:=by rw[<-cU,e,dE _ z1,dE _ (by rw[<-w1];exact zW hp),cU]
 have s2:(P-L)+(P+L)=P+P:=fj fun n=>by simp only[bF,bo];grind
 have a3:bz (P+P)=1:=by rw[aco];have:=dD P;omega
 have W:L=P+ -(P-L):=fj fun n=>by simp only[bF,bo,cr];grind
 have J:L= -P+(P+L):=fj fun n=>by simp only[bF,cr];grind
 rcases dD Z with c|c|c
 .right
  refine⟨fun h=>by omega,?_⟩
  rcases dD (P-L) with a|a|a
  .exact a
  .grind
  .exfalso
   have:bz (P+L)= -1:=by grind
   have:=ml (x:=P-L) (y:=P+L) (by omega)
   grind
 .rw[c] at I
  rcases dD (P-L) with a|a|a
  .right
   have V:bz (P+L)=0:=by grind
   have:bz L= -bz P:=by rw[J,dE _ V,fq]
   omega
  .left
   have:bz L=bz P:=by rw[W,dE _ (by rw[fq,a];rfl)]
   grind
  .exfalso
   have V:bz (P+L)=0:=by grind
   have:=dE (P-L) V
   grind
 .right
  refine⟨fun h=>by omega,?_⟩
  rcases dD (P-L) with a|a|a
  .exact a
  .grind
  .exfalso
   have:bz (P+L)= -1:=by grind
   have:=ml (x:=P-L) (y:=P+L) (by omega)
   grind
theorem SS (_hp:0<=p.c):bz (Ae k.mir p.flip)=bz (Ae k p):=by refine congrArg bz (fj fun n=>?_);unfold Ae;rw[BQ,Xd];simp only[Ci.mir,bF,bo,bV,dy,cr];grind
theorem OnK.flip (hp:OnK k p):OnK k.mir p.flip:=by refine⟨hp.1.flip,?_⟩;rw[Hr hp.1.flip,SS (bJ hp),zW hp];rfl
theorem Ha {l:Pt}(hp:OnK k p) (hl:OnK k l) (h0:mh p k.y=0) (h1:zX p k.x<0):(mh l k.y=0/\zX l k.x<0/\cx p l=0)\/(¬(mh l k.y=0/\zX l k.x<0)/\cx p l= -1):=by
 have h:=Ca hp.flip hl.flip (by rw[Dm];exact h0) (by rw[CR (bJ hp)];omega)
 rw[Dm,CR (bJ hl),mj (bJ hp) (bJ hl)] at h
 grind
theorem rO (hq:0<k.q) (hp:OnK k p):(kd k p=0/\mh p k.y=0/\zX p k.x>0)\/(kd k p=1/\mh p k.y>0)\/(kd k p=2/\mh p k.y=0/\zX p k.x<0)\/(kd k p=3/\mh p k.y<0):=by have I:=Qk hq hp;unfold kd;grind
theorem gh {l:Pt}(hq:0<k.q) (hp:OnK k p) (hl:OnK k l):ow (kd k p) (kd k l) (cx p l)=true:=by
 have J:=Ca hl hp;have V:=Ha hl hp;rw[gw (bJ hp) (bJ hl)] at J V;rcases rO hq hp with⟨e1,a1,a2⟩|⟨e1,a1⟩|⟨e1,a1,a2⟩|⟨e1,a1⟩<;>rcases rO hq hl with⟨I,b1,b2⟩|⟨I,b1⟩|⟨I,b1,b2⟩|⟨I,b1⟩<;>rw[e1,I]<;>simp[ow]
 all_goals first
  |(have h:=(Ca hp hl) a1 a2;omega)
  |(have h:=(Ha hp hl) a1 a2;omega)
  |(have h:=J b1 b2;omega)
  |(have h:=V b1 b2;omega)
theorem xb (hf:GP f) (J:GP t) (hp:GP p):(decide ((Cv.arc k false f t).ord f p<=0)&&decide ((Cv.arc k false f t).ord p t<=0))=decide (vo k f p t<=0):=by have I:=cD hf;have V:=cD hp;show(decide (tG k f f p<=0)&&decide (tG k f p t<=0))=_;obtain⟨i,hi⟩:=eo (dO p f);obtain⟨j,R⟩:=eo (dO t f);obtain⟨l,hl⟩:=eo (dO p t);have h:=Ur (kv k f) (kv k p) (kv k t) i j l (by rw[<-hi,<-R,<-hl];exact (gO I V (cD J)));rw[<-hi,<-R,<-hl] at h;rw[rN,rN,fA,fA,fA,fA,fA,BA I,gw V I];exact h
theorem yd (hq:0<k.q) (V:OnK k f) (W:OnK k t) (hp:OnK k p):(decide ((Cv.arc k true f t).ord f p<=0)&&decide ((Cv.arc k true f t).ord p t<=0))=decide (vo k t p f<=0):=by have I:=bJ V;have R:=bJ W;have J:=bJ hp;show(decide (tG k.mir f.flip f.flip p.flip<=0)&&decide (tG k.mir f.flip p.flip t.flip<=0))=_;have m1:=gh hq hp V;have m2:=gh hq W V;have m3:=gh hq hp W;obtain⟨i,hi⟩:=eo (dO p f);obtain⟨j,hj⟩:=eo (dO t f);obtain⟨l,hl⟩:=eo (dO p t);rw[hi] at m1;rw[hj] at m2;rw[hl] at m3;have h:=Yo (kd k f) (kd k p) (kd k t) i j l (by rw[<-hi,<-hj,<-hl];exact (gO I J R)) m1 m2 m3;rw[<-hi,<-hj,<-hl] at h;unfold cwR cwP at h;rw[rN,rN,fA,fA,fA,fA,fA,mj I I,mj J I,mj I J,mj R I,mj J R,BA I,gw J I,Int.neg_zero,Int.neg_neg,rT hq V,rT hq hp,rT hq W,h];unfold vo nG;rw[gw R I,jt,jt,jt]
theorem acm (k:Ci) (f p q:Pt): -1<=vo k f p q/\vo k f p q<=1:=by unfold vo uZ sg1;split<;>omega
theorem VS (J:GP f) (hp:GP p) (hq:GP q):(Cv.arc k false f t).ord p q=vo k f p q:=by obtain⟨i,hi⟩:=eo (dO p f);obtain⟨j,I⟩:=eo (dO q f);obtain⟨l,hl⟩:=eo (dO p q);have h:=Qi (kv k f) (kv k p) (kv k q) i j l (by rw[<-hi,<-I,<-hl];exact (gO (cD J) (cD hp) (cD hq)));rw[<-hi,<-I,<-hl] at h;exact h
theorem QK (a b c:Rat):dU a b c<=dV a b c:=by
 cases h:eu a b c with
 |true=>have hi:=In h;exact s5.1 (zL (ag0 hi.1 hi.2))
 |false=>rw[(qd h).1,(qd h).2];exact qG _
theorem UR (a b c:Rat):Bd (dU a b c)/\Bd (dV a b c):=by
 cases h:eu a b c with
 |false=>rw[(qd h).1,(qd h).2];exact⟨Bd.zero,Bd.zero⟩
 |true=>
  have J:=QK a b c;have I:=h;unfold eu V4 at I;simp only[di,rV] at I;unfold dU dV at*;rw[if_pos h,if_pos h] at*;have R:=EQ I.1;split;·exact⟨⟨R.1,R.2.1⟩,R.2.2⟩
  .rename_i g;rw[if_neg g,if_neg g] at J;have V:=Oq (I.2.resolve_left g).2.2.2.2;unfold Bd;omega
theorem aaz (a b c:Rat):Bd (dU a b c):=(UR a b c).1
theorem aat (a b c:Rat):Bd (dV a b c):=(UR a b c).2
theorem Bd.neg {x:Int}(h:Bd x):Bd (-x):=by unfold Bd at*;omega
theorem LT {lo hi:Int}{X:Re}(h:sJ lo hi X):sJ (-hi) (-lo) (-X):=by
 refine⟨rS (fun k=>?_) h.2,rS (fun k=>?_) h.1⟩;·simp only[bo,bV,dy,cr,Rat.intCast_neg];grind
 .simp only[bo,bV,dy,cr,Rat.intCast_neg];grind
theorem aaC {x y:Int}(h:x<=y): -y<= -x:=by omega
def Bf (a b c v:Rat):Bool:=eu a b c&&iE v
def Fr (a b c v:Rat):Int:=if Bf a b c v then aL (dU a b c) (dV a b c) (-gH v) (-gL v) else 0
def Ft (a b c v:Rat):Int:=if Bf a b c v then aH (dU a b c) (dV a b c) (-gH v) (-gL v) else 0
def KB (a b c v:Rat):Bool:=Bf a b c v&&vn (dU a b c+ -gH v) (dV a b c+ -gL v)
section
variable {a b c v:Rat}
theorem E9 (h:Bf a b c v=false):Fr a b c v=0/\Ft a b c v=0/\KB a b c v=false:=by unfold Fr Ft KB;rw[h];exact⟨rfl,rfl,rfl⟩
theorem F9 (h:Bf a b c v=true):Fr a b c v=aL (dU a b c) (dV a b c) (-gH v) (-gL v)/\Ft a b c v=aH (dU a b c) (dV a b c) (-gH v) (-gL v)/\KB a b c v=vn (dU a b c+ -gH v) (dV a b c+ -gL v):=by unfold Fr Ft KB;rw[h];exact⟨rfl,rfl,rfl⟩
theorem Hh (a b c v:Rat):Bd (Fr a b c v):=by
 unfold Fr;split;·exact If (QK _ _ _) (aaC (D5 _))
 .exact Bd.zero
theorem HL (a b c v:Rat):Bd (Ft a b c v):=by
 unfold Ft;split;·exact JN (QK _ _ _) (aaC (D5 _))
 .exact Bd.zero
theorem Z8 (h:KB a b c v=true):sJ (Fr a b c v) (Ft a b c v) (fE a b c+ -Re.of v):=by have h0:=h;unfold KB at h;rw[di] at h;obtain⟨e1,J,_⟩:=F9 h.1;rw[e1,J];have I:=h.1;unfold Bf at I;rw[di] at I;exact I9 (In I.1) (LT (D8 I.2)) h.2
end
section
variable (k:Ci) (p:Pt)
def Uw:Int:=pL (Fr p.a1 p.b1 p.c k.x) (Ft p.a1 p.b1 p.c k.x) (Fr p.a1 p.b1 p.c k.x) (Ft p.a1 p.b1 p.c k.x)
def SX:Int:=pH (Fr p.a1 p.b1 p.c k.x) (Ft p.a1 p.b1 p.c k.x) (Fr p.a1 p.b1 p.c k.x) (Ft p.a1 p.b1 p.c k.x)
def Xx:Bool:=xR (Fr p.a1 p.b1 p.c k.x) (Ft p.a1 p.b1 p.c k.x) (Fr p.a1 p.b1 p.c k.x) (Ft p.a1 p.b1 p.c k.x) 4
def QG:Int:=pL (Fr p.a2 p.b2 p.c k.y) (Ft p.a2 p.b2 p.c k.y) (Fr p.a2 p.b2 p.c k.y) (Ft p.a2 p.b2 p.c k.y)
def Se:Int:=pH (Fr p.a2 p.b2 p.c k.y) (Ft p.a2 p.b2 p.c k.y) (Fr p.a2 p.b2 p.c k.y) (Ft p.a2 p.b2 p.c k.y)
def ab0:Bool:=xR (Fr p.a2 p.b2 p.c k.y) (Ft p.a2 p.b2 p.c k.y) (Fr p.a2 p.b2 p.c k.y) (Ft p.a2 p.b2 p.c k.y) 4
def smL:Int:=aL (Uw k p) (SX k p) (QG k p) (Se k p)
def smH:Int:=aH (Uw k p) (SX k p) (QG k p) (Se k p)
def smK:Bool:=vn (Uw k p+QG k p) (SX k p+Se k p)
def rsL:Int:=aL (smL k p) (smH k p) (-gH k.q) (-gL k.q)
def rsH:Int:=aH (smL k p) (smH k p) (-gH k.q) (-gL k.q)
def rsK:Bool:=vn (smL k p+ -gH k.q) (smH k p+ -gL k.q)
def Vp:Bool:=KB p.a1 p.b1 p.c k.x&&(KB p.a2 p.b2 p.c k.y&&iE k.q)
def MQ:Bool:=Vp k p&&(Xx k p&&ab0 k p)
def Kz:Bool:=MQ k p&&smK k p
def D2:Bool:=Kz k p&&rsK k p
def Zw:Bool:=D2 k p&&LG (rsL k p) (rsH k p)
def ZO:Int:=if D2 k p then Lx (rsL k p) (rsH k p) else 0
end
section
variable {k:Ci}{p:Pt}
theorem qu (h:D2 k p=false):ZO k p=0/\Zw k p=false:=by unfold ZO Zw;rw[h];exact⟨rfl,rfl⟩
theorem LR (h:D2 k p=true):ZO k p=Lx (rsL k p) (rsH k p)/\Zw k p=LG (rsL k p) (rsH k p):=by unfold ZO Zw;rw[h];exact⟨rfl,rfl⟩
theorem v3z {c:Rat}:fE a b (zc b c)=fE a b c:=fj fun n=>by
 unfold fE zc;by_cases h:b=0;·subst h;simp only[bF,bV,dy];grind
 .rw[if_neg h]
theorem VJ (h:Zw k p=true):ZO k p=bz (Ae k p):=by unfold Zw at h;rw[di] at h;obtain⟨I,hs⟩:=h;rw[(LR I).1];unfold D2 Kz MQ Vp at I;simp only[di] at I;obtain⟨⟨⟨⟨J,k2,k3⟩,k4,k5⟩,k6⟩,W⟩:=I;have i1:=Z8 J;have i2:=Z8 k2;have j1:sJ (Uw k p) (SX k p) _:=KU i1 i1 k4;have V:sJ (QG k p) (Se k p) _:=KU i2 i2 k5;have j3:sJ (smL k p) (smH k p) _:=I9 j1 V k6;have R:sJ (rsL k p) (rsH k p) _:=I9 j3 (LT (D8 k3)) W;rw[Ht R hs];refine congrArg bz (fj fun n=>?_);unfold Ae pX pY y7;rw[v3z,v3z];simp only[bF,bo,bV,dy,cr]
theorem Ox:Bd (Uw k p)/\Bd (SX k p):=⟨Ck _ _ _ _,CF _ _ _ _⟩
theorem Mp:Bd (QG k p)/\Bd (Se k p):=⟨Ck _ _ _ _,CF _ _ _ _⟩
theorem Qy:Bd (smL k p)/\Bd (smH k p):=⟨If (zY _ _ _ _) (zY _ _ _ _),JN (zY _ _ _ _) (zY _ _ _ _)⟩
theorem afM (I:xm p.b1 p.b2 p.c=true) (h:Zw k p=true): -ZO k p=kq k p:=by rw[VJ h,G3 I]
theorem aeT (I:xm p.b1 p.b2 p.c=true): -b8 (PU k p) (HC k p) p.c=kq k p:=by rw[io (ye I),G3 I,<-aax (ye I),v3z]
end
def Ef (l:Ln) (p:Pt):Re:=Re.of l.a*pX p+Re.of l.b*pY p-Re.of l.c
theorem U5 {l:Ln}:fE (vA l p) (vB l p) p.c=Ef l p:=fj fun n=>by unfold Ef pX pY y7;rw[v3z,v3z];unfold fE vA vB;simp only[bF,bo,bV,dy];grind
theorem FO {l:Ln}(V:xm p.b1 p.b2 p.c=true):gf l p=bz (Ef l p):=by
 unfold gf;by_cases R:vB l p=0
 .rw[XU (.inl R),V1 (.inl R),Tq (by decide) (fun h=>absurd rfl h),<-U5];refine congrArg bz (fj fun n=>?_);unfold fE;simp only[bF,bV,dy];grind
 .have J:0<p.c/\jy p.c=false:=by
   unfold xm at V;split at V
   .rename_i e;exact absurd (by unfold vB;rw[e.1,e.2];grind) R
   grind
  have I:p.c≠0:=by have:=J.1;grind
  have e1:rB (vB l p) p.c=vB l p:=by unfold rB;rw[if_neg (by rintro(h|h);exact R h;exact I h)]
  have e2:rC (vB l p) p.c=p.c:=by unfold rC;rw[if_neg (by rintro(h|h);exact R h;exact I h)]
  rw[e1,e2,Tq (ye V) (fun _=>J),U5]
theorem y9 {l:Ln}(hp:GP p):gf l p=bz (Ef l p):=FO hp.v
theorem abp {l:Ln}(I:xm p.b1 p.b2 p.c=true):b8 (vA l p) (vB l p) p.c=gf l p:=by rw[io (ye I),U5,FO I]
theorem WT (l:Ln) (p:Pt): -1<=gf l p/\gf l p<=1:=U8 _ _ _
def Be (n a b c:Rat):Bool:=eu a b c&&iE n
def Ky (n a b c:Rat):Int:=if Be n a b c then pL (gL n) (gH n) (dU a b c) (dV a b c) else 0
def KA (n a b c:Rat):Int:=if Be n a b c then pH (gL n) (gH n) (dU a b c) (dV a b c) else 0
def Kv (n a b c:Rat):Bool:=Be n a b c&&xR (gL n) (gH n) (dU a b c) (dV a b c) 4
section
variable {n a b c:Rat}
theorem Em (h:Be n a b c=false):Ky n a b c=0/\KA n a b c=0/\Kv n a b c=false:=by unfold Ky KA Kv;rw[h];exact⟨rfl,rfl,rfl⟩
theorem GI (h:Be n a b c=true):Ky n a b c=pL (gL n) (gH n) (dU a b c) (dV a b c)/\KA n a b c=pH (gL n) (gH n) (dU a b c) (dV a b c)/\Kv n a b c=xR (gL n) (gH n) (dU a b c) (dV a b c) 4:=by unfold Ky KA Kv;rw[h];exact⟨rfl,rfl,rfl⟩
theorem Us (n a b c:Rat):Bd (Ky n a b c):=by
 unfold Ky;split;·exact Ck _ _ _ _
 .exact Bd.zero
theorem RY (n a b c:Rat):Bd (KA n a b c):=by
 unfold KA;split;·exact CF _ _ _ _
 .exact Bd.zero
theorem NR (n a b c:Rat):Ky n a b c<=KA n a b c:=by
 unfold Ky KA;split;·exact zY _ _ _ _
 .exact qG _
theorem aaK (h:Kv n a b c=true):sJ (Ky n a b c) (KA n a b c) (Re.of n*fE a b c):=by unfold Kv at h;rw[di] at h;obtain⟨e1,J,_⟩:=GI h.1;rw[e1,J];have I:=h.1;unfold Be at I;rw[di] at I;exact KU (D8 I.2) (In I.1) h.2
end
section
variable (l:Ln) (p:Pt)
def lsL:Int:=aL (Ky l.a p.a1 p.b1 p.c) (KA l.a p.a1 p.b1 p.c) (Ky l.b p.a2 p.b2 p.c) (KA l.b p.a2 p.b2 p.c)
def lsH:Int:=aH (Ky l.a p.a1 p.b1 p.c) (KA l.a p.a1 p.b1 p.c) (Ky l.b p.a2 p.b2 p.c) (KA l.b p.a2 p.b2 p.c)
def lsK:Bool:=vn (Ky l.a p.a1 p.b1 p.c+Ky l.b p.a2 p.b2 p.c) (KA l.a p.a1 p.b1 p.c+KA l.b p.a2 p.b2 p.c)
def lrL:Int:=aL (lsL l p) (lsH l p) (-gH l.c) (-gL l.c)
def lrH:Int:=aH (lsL l p) (lsH l p) (-gH l.c) (-gL l.c)
def lrK:Bool:=vn (lsL l p+ -gH l.c) (lsH l p+ -gL l.c)
def Vt:Bool:=Kv l.a p.a1 p.b1 p.c&&(Kv l.b p.a2 p.b2 p.c&&iE l.c)
def P5:Bool:=Vt l p&&lsK l p
def JP:Bool:=P5 l p&&lrK l p
def lqK:Bool:=JP l p&&LG (lrL l p) (lrH l p)
def lqS:Int:=if JP l p then Lx (lrL l p) (lrH l p) else 0
end
section
variable {l:Ln}{p:Pt}
theorem wu (h:JP l p=false):lqS l p=0/\lqK l p=false:=by unfold lqS lqK;rw[h];exact⟨rfl,rfl⟩
theorem L7 (h:JP l p=true):lqS l p=Lx (lrL l p) (lrH l p)/\lqK l p=LG (lrL l p) (lrH l p):=by unfold lqS lqK;rw[h];exact⟨rfl,rfl⟩
theorem RE:Bd (lsL l p)/\Bd (lsH l p):=⟨If (NR _ _ _ _) (NR _ _ _ _),JN (NR _ _ _ _) (NR _ _ _ _)⟩
theorem WW (hv:xm p.b1 p.b2 p.c=true) (h:lqK l p=true):lqS l p=gf l p:=by unfold lqK at h;rw[di] at h;obtain⟨I,hs⟩:=h;rw[(L7 I).1];unfold JP P5 Vt at I;simp only[di] at I;obtain⟨⟨⟨V,W,J⟩,R⟩,k5⟩:=I;have j3:sJ (lsL l p) (lsH l p) _:=I9 (aaK V) (aaK W) R;have j4:sJ (lrL l p) (lrH l p) _:=I9 j3 (LT (D8 J)) k5;rw[Ht j4 hs,FO hv];refine congrArg bz (fj fun n=>?_);unfold Ef pX pY y7;rw[v3z,v3z];simp only[bF,bo,bV,dy,cr]
end
def Cv.pos:Cv->Prop
 | .seg ..=>True
 | .arc k _ _ _=>0<k.q
structure CvV (c:Cv):Prop where
 g:c.good
 pos:c.pos
 sp:c.supp c.p=true
 sq:c.supp c.q=true
 ne:cP c.p c.q≠0
theorem jP:cP p q=0↔cx p q=0/\cy p q=0:=by show(if cx p q≠0 then cx p q else cy p q)=0↔_;grind
theorem ez (hp:0<=p.c) (hq:0<=q.c):cP q p= -cP p q:=KR hp hq
theorem Bq (hp:0<=p.c):cP p p=0:=LC hp
theorem CvV.rev (h:CvV c):CvV c.rev:=by
 have hp:=cD (ew h.g);have hq:=cD (f5 h.g);cases c with
 |seg l p q=>exact⟨C9 h.g,trivial,h.sq,h.sp,fun e=>h.ne (by have:=ez hp hq;have J:cP q p=0:=e;show cP p q=0;have I:cP q p= -cP p q:=this;omega)⟩
 |arc k w p q=>exact⟨C9 h.g,h.pos,h.sq,h.sp,fun e=>h.ne (by have:=ez hp hq;have J:cP q p=0:=e;show cP p q=0;have I:cP q p= -cP p q:=this;omega)⟩
theorem FY {x y:Re}(h:bz (x-y)=0) (v:Re):bz (x-v)=bz (y-v):=pe (by rw[<-h];exact congrArg bz (fj fun n=>by simp only[bo];grind))
section
variable {p q:Pt}(hp:0<=p.c) (hq:0<=q.c) (h:cP p q=0)
include hp hq h
theorem XK (I:0<=f.c):cx p f=cx q f:=by have h1:=(jP.1 h).1;rw[ng hp hq] at h1;rw[ng hp I,ng hq I];exact FY h1 _
theorem Rw (v:Rat):zX p v=zX q v:=by have h1:=(jP.1 h).1;rw[ng hp hq] at h1;rw[CH hp,CH hq];exact FY h1 _
theorem Vn (v:Rat):mh p v=mh q v:=by have h1:=(jP.1 h).2;rw[F1 hp hq] at h1;rw[DC hp,DC hq];exact FY h1 _
theorem R9 (k:Ci):kv k p=kv k q:=by unfold kv;rw[Rw hp hq h,Vn hp hq h]
theorem Ir (I:0<=f.c):tG k f p q=0:=by rw[rN,fA,fA,fA,XK hp hq h I,R9 hp hq h,(jP.1 h).1];unfold GU;unfold Dh;simp
theorem DD (J:c.good):c.ord p q=0:=by
 have I:=cD (ew J);cases c with
 |seg l f t=>show(if decide (cP f t>0)=true then-cP p q else cP p q)=0;grind
 |arc k w f t=>
  show(if (!w)=true then tG k f p q else tG k.mir f.flip p.flip q.flip)=0;split;·exact Ir hp hq h I
  .refine Ir hp hq (jP.2 ⟨?_,?_⟩) I;·rw[mj hp hq,(jP.1 h).1];rfl
   .exact(jP.1 h).2
end
theorem HM (I:c.good) (hp:GP p) (hq:GP q) (h:c.ord p q<0):cP p q≠0:=fun e=>by have:=DD (cD hp) (cD hq) e I;omega
theorem IR:iO c [] x=[x]:=rfl
theorem Bt (h:c.ord o x<0):iO c (o::l) x=o::iO c l x:=by
 have e:od c x (o::l)=od c x l+1:=by show(if c.ord o x<0 then od c x l+1 else 0)=_;rw[if_pos h]
 unfold iO;grind
theorem BE (h: ¬c.ord o x<0):iO c (o::l) x=if cP o x=0 then o::l else x::o::l:=by
 have e:od c x (o::l)=0:=by show(if c.ord o x<0 then od c x l+1 else 0)=_;rw[if_neg h]
 unfold iO;grind
def yO:List Pt->Prop
 |p::q::l=>cP p q≠0/\yO (q::l)
 |_=>True
theorem QH (h:yO (o::l)):yO l:=by
 cases l with
 |nil=>trivial
 |cons p l=>exact h.2
theorem JI {c:Cv}(R:c.good) {x:Pt}(J:GP x): ∀ {l:List Pt},(∀p∈l,GP p)->yO l->yO (iO c l x)
 |[],_,_=>trivial
 |o::l,hl,h=>by
  by_cases g:c.ord o x<0
  .rw[Bt g];have I:=JI R J (fun p hp=>hl p (fv _ hp)) (QH h);have V:=HM R (hl o fC) J g;cases l with
   |nil=>exact⟨V,trivial⟩
   |cons p l=>
    by_cases W:c.ord p x<0;·rw[Bt W] at I⊢;exact⟨h.1,I⟩
    .rw[BE W] at I⊢;by_cases e:cP p x=0;·rw[if_pos e];exact h
     .rw[if_neg e] at I⊢;exact⟨V,I⟩
  .rw[BE g];by_cases e:cP o x=0;·rw[if_pos e];exact h
   .rw[if_neg e];refine⟨fun e2=>e ?_,h⟩;rw[ez (cD J) (cD (hl o fC)),e2];rfl
theorem Jo {c:Cv}(I:c.good): ∀ {l out:List Pt},(∀p∈l,GP p)->(∀p∈out,GP p)->yO out->yO (l.foldl (iO c) out)
 |[],_,_,_,h=>h
 |x::l,out,hl,ho,h=>by
  refine Jo I (l:=l) (fun p hp=>hl p (fv _ hp)) (fun p hp=>?_) (JI I (hl x fC) ho h);rcases xH hp with e|e;·exact ho p e
  .rw[e];exact hl x fC
theorem PV (I:c.good) (hl: ∀p∈l,GP p):yO (cj c l):=Jo I hl (fun p hp=>by cases hp) trivial
theorem EM {c:Cv}: ∀ {l:List Pt}{d:Cv},yO l->d∈ia c l-> ∃p q,p∈l/\q∈l/\cP p q≠0/\d=c.ends p q
 |p::q::l,d,ha,h=>by
  rcases dt.1 (show d∈c.ends p q::ia c (q::l) from h) with h|h;·exact⟨p,q,fC,fv _ fC,ha.1,h⟩
  .obtain⟨V,R,h1,I,W,J⟩:=EM ha.2 h;exact⟨V,R,fv _ h1,fv _ I,W,J⟩
 |[_],d,_,h=>by cases h
 |[],d,_,h=>by cases h
theorem Th (c:Cv) (p q:Pt):(c.ends p q).p=p:=by cases c<;>rfl
theorem Uv (c:Cv) (p q:Pt):(c.ends p q).q=q:=by cases c<;>rfl
theorem Fy (c:Cv) (p q x:Pt):(c.ends p q).supp x=c.supp x:=by cases c<;>rfl
theorem UT (h:c.pos) (p q:Pt):(c.ends p q).pos:=by cases c<;>exact h
theorem oN (h:c.on p=true):c.supp p=true:=by unfold Cv.on at h;grind
theorem Oe (h:CvV c) (hL: ∀p∈L,GP p) (hs: ∀p∈L,c.supp p=true): ∀d∈um c L,CvV d:=by
 intro d W;have I: ∀p∈ [c.p,c.q]++L,GP p:=by
  intro p hp;simp only[wY,qZ,dt] at hp;rcases hp with e|e|e;·rw[e];exact ew h.g
  .rw[e];exact f5 h.g
  grind
 have J: ∀p∈ [c.p,c.q]++L,c.supp p=true:=by
  intro p hp;simp only[wY,qZ,dt] at hp;rcases hp with e|e|e;·rw[e];exact h.sp
  .rw[e];exact h.sq
  grind
 obtain⟨p,q,h1,V,h3,rfl⟩:=EM (PV h.g I) W;have m1:=nk h1;have R:=nk V;exact⟨zF h.g (I p m1) (I q R),UT h.pos p q,by rw[Th,Fy];exact J p m1,by rw[Uv,Fy];exact J q R,by rw[Th,Uv];exact h3⟩
theorem ZW (a b:Rat):pX (rP a b)=Re.of a:=fj fun n=>by unfold pX y7 fE;simp only[bF,bV,dy,rP];grind
theorem aae (a b:Rat):pY (rP a b)=Re.of b:=fj fun n=>by unfold pY y7 fE;simp only[bF,bV,dy,rP];grind
theorem NQ {l:Ln}(hp:GP (rP a b)) (h:l.a*a+l.b*b=l.c):gf l (rP a b)=0:=by rw[y9 hp];unfold Ef;rw[ZW,aae,nf,nf,Uz,xg,fZ,h];exact fY.2 (by grind)
theorem L5 (hp:GP (rP a b)) (h:(a-k.x)*(a-k.x)+(b-k.y)*(b-k.y)=k.q):kq k (rP a b)=0:=by rw[Hr hp];unfold Ae;rw[ZW,aae,xg,xg,nf,nf,Uz,xg,fZ,h,fY.2 (show k.q-k.q=0 by grind)];rfl
theorem abq {q:Rat}(_h0:0<q) (hs:jy q=true):rt q*rt q=q:=by
 have I:=hs;unfold jy Bw at I;simp only[di,beq_iff_eq] at I;have R:bm (q.den:Int)≠0:=by have:=yv (den_pos q);omega
 have J:((bm (q.den:Int):Int):Rat)≠0:=by simpa using R
 have V:rt q*((bm (q.den:Int):Int):Rat)=((bm q.num:Int):Rat):=by unfold rt;rw[uc,xp J]
 have W:=Mr q;have e1:((q.num:Int):Rat)=((bm q.num:Int):Rat)*((bm q.num:Int):Rat):=by rw[<-ja,I.1]
 have e2:(((q.den:Int)):Rat)=((bm (q.den:Int):Int):Rat)*((bm (q.den:Int):Int):Rat):=by rw[<-ja,I.2]
 grind
theorem Rm (s:Rat) (hs:s*s=1) (h0:0<k.q) (hp:GP (iP k.x s k.y 0 k.q)):kq k (iP k.x s k.y 0 k.q)=0:=by
 cases hq:jy k.q with
 |true=>
  have e:iP k.x s k.y 0 k.q=rP (k.x+s*rt k.q) (k.y+0*rt k.q):=by unfold iP;rw[hq];rfl
  rw[e] at hp⊢;refine L5 hp ?_;have:=abq h0 hq;grind
 |false=>
  have e:iP k.x s k.y 0 k.q=⟨k.x,s,k.y,0,k.q⟩:=by unfold iP;rw[hq];rfl
  rw[Hr hp];have I:(0:Rat)<=k.q:=by grind
  have h:=CO I;have J:Ae k ⟨k.x,s,k.y,0,k.q⟩=Re.rt k.q*Re.rt k.q-Re.of k.q:=fj fun n=>by unfold Ae pX pY;rw[Dd,Dd];simp only[bF,bo,bV,dy];grind
  grind
theorem Gl (I:GK k) (h0:0<k.q):kq k (se k)=0:=Rm (-1) (by decide+kernel) h0 (At I h0)
theorem GR (I:GK k) (h0:0<k.q):kq k (sv k)=0:=Rm 1 (by decide+kernel) h0 (Af I h0)
section
variable {a b c d e f:Rat}(hn:p8 a b c d e f≠0)
include hn
theorem ZI:B9 a b c d e f*(p8 a b c d e f+p8 a b c d e f)=((c-a)*(c-a)+(d-b)*(d-b))*(f-b)-((e-a)*(e-a)+(f-b)*(f-b))*(d-b)/\ DN a b c d e f*(p8 a b c d e f+p8 a b c d e f)=((e-a)*(e-a)+(f-b)*(f-b))*(c-a)-((c-a)*(c-a)+(d-b)*(d-b))*(e-a):=by
 have I:p8 a b c d e f+p8 a b c d e f≠0:=by grind
 exact⟨by unfold B9;exact xp I,by unfold DN;exact xp I⟩
theorem aaW:(e-(a+B9 a b c d e f))*(e-(a+B9 a b c d e f))+(f-(b+DN a b c d e f))*(f-(b+DN a b c d e f))=B9 a b c d e f*B9 a b c d e f+DN a b c d e f*DN a b c d e f:=by
 obtain⟨h1,I⟩:=ZI hn;generalize hD:p8 a b c d e f+p8 a b c d e f=D at*;have J:D=((c-a)*(f-b)-(d-b)*(e-a))+((c-a)*(f-b)-(d-b)*(e-a)):=by rw[<-hD];rfl
 grind
theorem adC:0<B9 a b c d e f*B9 a b c d e f+DN a b c d e f*DN a b c d e f:=by
 obtain⟨h1,V⟩:=ZI hn;have q1:=Wp (B9 a b c d e f);have q2:=Wp (DN a b c d e f);by_cases h:B9 a b c d e f*B9 a b c d e f+DN a b c d e f*DN a b c d e f=0
 .exfalso;obtain⟨W,hy⟩:=Na h;have I:((c-a)*(c-a)+(d-b)*(d-b))*(p8 a b c d e f)=0:=by show _*((c-a)*(f-b)-(d-b)*(e-a))=0;grind
  rcases zT.1 I with g|g
  .obtain⟨J,R⟩:=Na g;exact hn (by unfold p8;rw[J,R];grind)
  grind
 grind
end
theorem ac9 (a b x y:Rat):(a-(a+x))*(a-(a+x))+(b-(b+y))*(b-(b+y))=x*x+y*y:=by grind
theorem abB (a b c d:Rat):(b-d)*c+(c-a)*d=(b-d)*a+(c-a)*b:=by grind
section
variable {K U A B C D E F:Int}(hU:0<=U) (hA: -128<=A/\A<=127) (hB: -128<=B/\B<=127) (hC: -128<=C/\C<=127) (hD: -128<=D/\D<=127) (hE: -128<=E/\E<=127) (hF: -128<=F/\F<=127)
include hU hA hB hC hD hE hF
theorem ag9: ∀c∈yF K U A B C D E F,CvV c:=by
 intro c J;have I:=Ds hU hA hB hC hD hE hF c J;unfold yF at J;split at J
 .split at J
  .rename_i h0;rcases dt.1 J with e|e
   .subst e;have R:GK _:=I.g.1;exact⟨I.g,h0,bW.2 (Gl R h0),bW.2 (GR R h0),I.ne⟩
   .rw[gZ] at e;subst e;have R:GK _:=I.g.1;exact⟨I.g,h0,bW.2 (GR R h0),bW.2 (Gl R h0),I.ne⟩
  grind
 .split at J
  .split at J;·grind
   .rename_i h0;rw[gZ] at J;subst J;exact⟨I.g,adC h0,bW.2 (L5 I.g.2.1 (ac9 _ _ _ _)),bW.2 (L5 I.g.2.2 (aaW h0)),I.ne⟩
  .split at J;·grind
   .rw[gZ] at J;subst J;refine⟨I.g,trivial,?_,?_,I.ne⟩
    .show(gf _ (rP _ _)==0)=true;rw[NQ I.g.2.1 rfl];rfl
    .show(gf _ (rP _ _)==0)=true;rw[NQ I.g.2.2 (abB _ _ _ _)];rfl
end
theorem abM {A0 Bl:List Cv}(I:CvV (A0.getD 0 db)) (hB: ∀d∈Bl,d.good): ∀c∈Ga A0 Bl,CvV c:=
 Oe I (fun p hp=>(By I.g hB p hp).1) (fun p hp=>oN (By I.g hB p hp).2)
end
end Go.Proofs.YtegeknjkgadehaaGreat
