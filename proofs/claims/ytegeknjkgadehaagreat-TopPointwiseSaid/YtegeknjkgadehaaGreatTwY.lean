/-A run on known values:a region whose order is open:the run stands for every order. -/
import Derived.Test.YtegeknjkgadehaaGreatTwX
import Derived.LoopN
namespace Go.Proofs.YtegeknjkgadehaaGreat
open Go Go.RowKit
noncomputable section
variable {c:(Exit->Act->World->Prop)->Act->World->Prop}{a:Act}{args:Array Value}{pu:Bool}{lr lw:Ds}{κ:Ds->Ds->Ro}{E:Env}{e e':Exit}{fn:Func}{y:Int}{f:Int->Int->Option (List XD)}{g:Lg}{us:List CellD}{ks ms:List Nat}{ds xs:List XD}{vs:List XV}{N N' fuel j k mk n t:Nat}{β β':Nat->Pl}{A A' V Z Z':Nat->Prop}{P:Program}{r:Rp}{H H' H1:Tr Bx}{T T' T1:Tr XV}{v:Value}{w:World}{d:XD}{F:XF}{x:XV}{call ih:fF}
theorem F6:type_of% @List.eq_nil_of_length_eq_zero:=@List.eq_nil_of_length_eq_zero
section
variable {P:Program}{ops:Array Oper}{n m:Nat}{call:fF}
def oJ (lr lw:Ds) (j:Nat) (g:Lg):Prop:=(j,g)∈lw\/((j,g)∈lr/\ ∃b,g=.r b)
theorem Sp {b:Bool}{x:Ro}(h:bI b x .no≠ .no):b=true:=by
 cases b with
 |true=>rfl
 |false=>exact absurd rfl h
theorem Oz (h:Fc mk k g lr lw κ≠ .no):Fc mk k g lr lw κ=κ lr ((k,g)::lw)/\ ∀j I J D K u,oJ lr lw j I->mk.testBit j=false->o7 J D I->o7 K u g->Clear J D K u:=by
 have U:=Sp (b:=yy mk g lw) (x:=bI (yy mk g lr) (κ lr ((k,g)::lw)) .no) h;have e1:Fc mk k g lr lw κ=bI (yy mk g lr) (κ lr ((k,g)::lw)) .no:=by unfold Fc;rw[U];rfl
 rw[e1] at h;have W:=Sp h;refine⟨by rw[e1,W];rfl,fun j I J D K u hl R f1 f2=>?_⟩;rcases hl with hl|⟨hl,_⟩;·exact pV f1 f2 (uS U j I hl R)
 ·exact pV f1 f2 (uS W j I hl R)
theorem Nw (h:Vh mk k g lr lw κ≠ .no): ∃D I,Vh mk k g lr lw κ=κ D I/\(∀j u,oJ lr lw j u->oJ D I j u)/\(g=.p\/oJ D I k g)/\
 ∀j u W R U J,oJ lr lw j u->mk.testBit j=false->o7 W R u->o7 U J g->Clear W R U J:=by
 have hB: ∀ {g:Lg},Fc mk k g lr lw κ≠ .no-> ∃D I,Fc mk k g lr lw κ=κ D I/\(∀j u,oJ lr lw j u->oJ D I j u)/\(g=.p\/oJ D I k g)/\
  ∀j u W R U J,oJ lr lw j u->mk.testBit j=false->o7 W R u->o7 U J g->Clear W R U J:=fun{g} h=>by
  obtain⟨h1,h2⟩:=Oz h
  exact⟨lr,(k,g)::lw,h1,fun j u hl=>hl.imp (fun q=>gF _ q) id,.inr (.inl (f7 ..)),h2⟩
 cases g with
 |p=>exact⟨lr,lw,rfl,fun _ _ h=>h,.inl rfl,fun j u W R U J _ _ _ f2=>by obtain⟨rfl,rfl⟩:=f2;exact rQ.symm⟩
 |r b=>
  have h1:=Sp (b:=yy mk (.r b) lw) (x:=κ ((k,.r b)::lr) lw) h
  refine⟨(k,.r b)::lr,lw,?_,fun j u hl=>hl.imp id fun q=>⟨List.mem_cons_of_mem _ q.1,q.2⟩,.inr (.inr ⟨List.mem_cons_self ..,b,rfl⟩),fun j u W R U J hl hb f1 f2=>?_⟩
  ·show bI (yy mk (.r b) lw) (κ ((k,.r b)::lr) lw) .no=_
   rw[h1];rfl
  ·rcases hl with hl|⟨hl,b',rfl⟩
   ·exact pV f1 f2 (uS h1 j u hl hb)
   ·exact pV f1 f2 rfl
 |w b=>exact hB h
 |nw b=>exact hB h
 |c K K'=>exact hB h
def PM (ops:Array Oper) (j i:Nat):Prop:=((nU ops.toList).getD i 0).testBit j=true
structure InvD (P:Program) (ops:Array Oper) (T0:TX) (H0:HF) (N0:Nat) (full:List PE) (N:Nat):Prop where
 all: ∀(j:Nat) (p:PE),full[j]? =some p-> ∃Tl,(Tt P ops p.1 Tl p.2\/GX ops p.1 Tl p.2)/\(∀t x,Tl t=some x->fT (full.take j) T0 t=some x)/\ ∀k c,p.2.Hv k=some c->fH (full.take j) H0 k=some c
 nm: ∀(j:Nat) (p:PE),full[j]? =some p->N0<=p.2.N/\p.2.N<=p.2.N'/\p.2.N'<=N
 mono: ∀(j i:Nat) (p q:PE),j<i->full[j]? =some p->full[i]? =some q->p.2.N'<=q.2.N
 con: ∀(j i:Nat) (p q:PE),j<i-> ¬PM ops j i->full[j]? =some p->full[i]? =some q->Clear p.2.Hv p.2.Hv' q.2.Hv q.2.Hv'
theorem VV (l:List PE) (p:PE) (T:TX):fT (l++[p]) T=F2 p.1.dst p.2.x (fT l T):=by unfold fT;rw[List.foldl_append];rfl
theorem V9 (l:List PE) (p:PE) (H:HF):fH (l++[p]) H=gU (fH l H) p.2.Hv p.2.Hv':=by unfold fH;rw[List.foldl_append];rfl
theorem SY {d:Option Nat}{T1 D:TX}(h: ∀t y,T1 t=some y->D t=some y): ∀t y,F2 d x T1 t=some y->F2 d x D t=some y:=by
 intro t y u;unfold F2 at u⊢;split at u;·rename_i e;rw[if_pos e];exact u
 ·rename_i e;rw[if_neg e];exact h t y u
theorem NF {H1 I D u:HF}(h: ∀k c,H1 k=some c->I k=some c): ∀k c,gU H1 D u k=some c->gU I D u k=some c:=by
 intro k c R;rcases yM R with r|⟨K,r2,J⟩;·unfold gU;rw[r]
 ·unfold gU;rw[K,r2];exact h k c J
theorem B5 (W:jK P call) {T0:TX}{H0:HF}{N0:Nat}: ∀(l:List Oper) (ms:List Nat) (js:List XJ) (pre:List PE) (L:LX) (T:Tr XV) (N:Nat) (H:Tr Bx) (lr lw:Ds),
 tI P n m ops ms l=some js->ms.length=l.length->(∀k,k<l.length->ms[k]? =(nU ops.toList)[pre.length+k]?)->ops.toList=pre.map Prod.fst++l->
 lm (TS m L T)->jp H->jx N H->N0<=N->InvD P ops T0 H0 N0 pre N->(∀t y,TS m L T t=some y->fT pre T0 t=some y)->(∀k c,HS H k=some c->fH pre H0 k=some c)->
 (∀(j:Nat) (p:PE),pre[j]? =some p->(p.2.Hv=e0/\p.2.Hv'=e0)\/ ∃g,o7 p.2.Hv p.2.Hv' g/\oJ lr lw j g)->Fj call js pre.length L T N H lr lw≠ .no->
 ∃D T' N' H',Fj call js pre.length L T N H lr lw=.n T' N' H'/\N<=N'/\InvD P ops T0 H0 N0 D N'/\D.map Prod.fst=ops.toList/\lm (TS m [] T')/\jp H'/\jx N' H'/\
  (∀t y,TS m [] T' t=some y->fT D T0 t=some y)/\ ∀k c,HS H' k=some c->fH D H0 k=some c
 |[],ms,js,pre,L,T,N,H,lr,lw,R,hml,hms,ho,hT,hO,hL,hN,hi,hts,hhs,hlg,hr=>by
  have:js=[]:=by
   cases ms with
   |nil=>injection R with R;exact R.symm
   |cons a b=>simp at hml
  subst this;refine⟨pre,T,N,H,rfl,bd _,hi,by rw[ho];simp,fun t y h=>hT t y (E2 h),hO,hL,fun t y h=>hts t y (E2 h),hhs⟩
 |o::l,[],js,pre,L,T,N,H,lr,lw,R,hml,hms,ho,hT,hO,hL,hN,hi,hts,hhs,hlg,hr=>by simp at hml
 |o::l,mk::ms,js,pre,L,T,N,H,lr,lw,R,hml,hms,ho,hT,hO,hL,hN,hi,hts,hhs,hlg,hr=>by
  unfold tI at R;split at R;·cases R
  ·rename_i x hx;split at R;·cases R
   ·rename_i xs b1;injection R with R;subst R;have e1:Fj call (⟨x,F0 o.op,mk⟩::xs) pre.length L T N H lr lw=Oa call x (@Bool.rec (fun _=>List Nat) [] (adu mk lw) (F0 o.op)) L T N H fun L T N H g=>Vh mk pre.length g lr lw fun lr lw=>Fj call xs (pre.length+1) L T N H lr lw:=rfl;rw[e1] at hr;obtain⟨e,L',T',H',g,e2,K⟩:=J8 (ops:=ops) (n:=n) hT hO hL W hx hr;rw[e2] at hr;obtain⟨a5,a6,e3,g1,g2,g3⟩:=Nw hr;rw[e3] at hr;have b0:(nU ops.toList)[pre.length]? =some mk:=by have:=hms 0 (by simp);simpa using this.symm
    have U:(pre++[(o,e)]).length=pre.length+1:=by simp
    have I: ∀(j:Nat) (p:PE),(pre++[(o,e)])[j]? =some p->(j<pre.length/\pre[j]? =some p)\/(j=pre.length/\p=(o,e)):=by
     intro j p u;by_cases J:j<pre.length;·rw[uJ J] at u;exact .inl ⟨J,u⟩
     ·have h1:=(fb.1 u).1;have ej:j=pre.length:=by simp at h1;omega
      subst ej;rw[tL (bd _)] at u;simp at u;exact .inr ⟨rfl,u.symm⟩
    have a2: ∀j,j<=pre.length->(pre++[(o,e)]).take j=pre.take j:=fun j u=>sM u;have a0:N<=e.N':=K.le;have a9:InvD P ops T0 H0 N0 (pre++[(o,e)]) e.N':=by
     refine⟨fun j p u=>?_,fun j p u=>?_,fun j i p q a1 u hq=>?_,fun j i p q a1 a4 u hq=>?_⟩
     ·rcases I j p u with⟨J,u⟩|⟨rfl,rfl⟩;·rw[a2 j (Nat.le_of_lt J)];exact hi.all j p u
      ·rw[a2 pre.length (bd _),ud];exact⟨TS m L T,K.run,hts,fun k c hk=>hhs k c (K.sub k c hk)⟩
     ·rcases I j p u with⟨J,u⟩|⟨rfl,rfl⟩;·have:=hi.nm j p u;exact⟨this.1,this.2.1,fw this.2.2 a0⟩
      ·refine⟨by show N0<=e.N;rw[K.nm];exact hN,by show e.N<=e.N';rw[K.nm];exact a0,bd _⟩
     ·rcases I i q hq with⟨J,hq⟩|⟨rfl,rfl⟩
      ·rcases I j p u with⟨_,u⟩|⟨rfl,rfl⟩;·exact hi.mono j i p q a1 u hq
       ·omega
      ·rcases I j p u with⟨_,u⟩|⟨rfl,rfl⟩
       ·show p.2.N'<=e.N;rw[K.nm];exact(hi.nm j p u).2.2
       ·omega
     ·rcases I i q hq with⟨J,hq⟩|⟨rfl,rfl⟩
      ·rcases I j p u with⟨_,u⟩|⟨rfl,rfl⟩;·exact hi.con j i p q a1 a4 u hq
       ·omega
      ·rcases I j p u with⟨_,u⟩|⟨rfl,rfl⟩
       ·rcases hlg j p u with⟨h1,h2⟩|⟨g',f1,hl⟩;·rw[h1,h2];exact rQ
        ·refine g3 j g' _ _ _ _ hl ?_ f1 K.foot;cases hb:mk.testBit j with
         |false=>rfl
         |true=>
          exfalso;apply a4;unfold PM;rw[Bi,b0];exact hb
       ·omega
    have a3: ∀(j:Nat) (p:PE),(pre++[(o,e)])[j]? =some p->(p.2.Hv=e0/\p.2.Hv'=e0)\/ ∃g,o7 p.2.Hv p.2.Hv' g/\oJ a5 a6 j g:=by
     intro j p u;rcases I j p u with⟨J,u⟩|⟨rfl,rfl⟩
     ·rcases hlg j p u with h|⟨g',f1,hl⟩;·exact .inl h
      ·exact .inr ⟨g',f1,g1 j g' hl⟩
     ·rcases g2 with rfl|h;·exact .inl K.foot
      ·exact .inr ⟨g,K.foot,h⟩
    rw[<-U] at hr;obtain⟨D,T2,N2,H2,e4,k1,k2,k3,k4,k5,k6,k7,k8⟩:=B5 W l ms xs (pre++[(o,e)]) L' T' e.N' H' a5 a6 b1 (by simpa using hml) (fun k hk=>by
     have:=hms (k+1) (by simpa using hk);rw[U,show pre.length+1+k=pre.length+(k+1) by omega];simpa using this) (by rw[ho];simp) K.tok K.hok K.hlt (fw hN a0) a9
     (fun t y h=>by rw[VV];exact SY hts t y (K.tmp t y h)) (fun k c h=>by rw[V9];exact NF hhs k c (K.put k c h)) a3 hr
    rw[U] at e4;exact⟨D,T2,N2,H2,e1.trans (e2.trans (e3.trans e4)),fw a0 k1,k2,k3,k4,k5,k6,k7,k8⟩
end
section
variable {P:Program}{ops:Array Oper}{n m N:Nat}{T:Tr XV}{H:Tr Bx}{call:fF}
theorem DZ: ∀ {ms:List Nat}{l:List Oper}{I:List XJ},tI P n m ops ms l=some I->ms.length=l.length-> ∀o∈l,∃x,XB P n m ops o=some x
 |_,[],_,_,_,o,u=>by cases u
 |[],_::_,_,_,hl,o,u=>by simp at hl
 |mk::ms,o'::l,I,h,hl,o,u=>by
  unfold tI at h;split at h;·cases h
  ·rename_i x J;split at h;·cases h
   ·rename_i xs D;rcases dO.1 u with rfl|u;·exact⟨x,J⟩
    ·exact DZ D (by simpa using hl) o u
theorem CW {d:Option Nat}{l:List Nat}(h:M9 d l=false): ∀t,d=some t->t∉l:=by intro t D u;subst D;have:l.any (Nat.beq t)=true:=jt.2 u;rw[show M9 (some t) l=l.any (Nat.beq t) from rfl,this] at h;cases h
theorem TV {l:List Oper}{i:Nat}{q:Oper}(h:unB ops ms l i=true) (D:l[i]? =some q):(∀j∈bL q,j<i)/\ ∀j p,j<i->(ms.getD i 0).testBit j=false->l[j]? =some p->Vz ops p q=true:=by unfold unB at h;rw[D] at h;dsimp only at h;rw[de] at h;refine⟨fun j K=>cJ.1 (lj.1 h.1 j K),fun j p u I J=>?_⟩;have:=lj.1 h.2 j (iC.2 u);rw[I,J] at this;simpa using this
theorem ES (b6:P.follows .mixedOrders=true) (a6:jK P call) (b4:(List.range ops.size).all (unB ops (nU ops.toList) ops.toList)=true) {js:List XJ}(hw:tI P n m ops (nU ops.toList) ops.toList=some js)
 (hT:lm (TS m [] T)) (hO:jp H) (hL:jx N H) (hr:Fj call js 0 [] T N H [] []≠ .no) {Q:Exit->Act->World->Prop}{id:Nat}:
 ∃T' N' H',Fj call js 0 [] T N H [] []=.n T' N' H'/\N<=N'/\lm (TS m [] T')/\jp H'/\jx N' H'/\ ∀V A β a w,(∀k,A k-> ¬(N<=k/\k<N'))->StX V A n (TS m [] T) (HS H) β a w->
  (∀a' w',Ends P n m V A N (HS H) β w N' (TS m [] T') (HS H') a' w'->Q .normal a' w')->(Code.region id ops true).wp P Q a w:=by
 obtain⟨hM,a1⟩:=A9 (ops:=ops) ops.toList [] (fun k hk=>by simp) (fun i mk h=>by simp at h)
 have a1:(nU ops.toList).length=ops.toList.length:=by rw[show(nU ops.toList).length=_ from a1];simp
 have c7:InvD P ops (TS m [] T) (HS H) N [] N:=⟨fun j p h=>by simp at h,fun j p h=>by simp at h,fun j i p q _ h=>by simp at h,fun j i p q _ _ h=>by simp at h⟩
 obtain⟨D,T',N',H',e1,k1,k2,k3,k4,k5,k6,k7,k8⟩:=B5 (P:=P) (ops:=ops) (n:=n) a6 (T0:=TS m [] T) (H0:=HS H) (N0:=N) ops.toList (nU ops.toList) js [] [] T N H [] [] hw a1 (fun k _=>by simp) rfl hT hO hL (bd _) c7
  (fun t y h=>h) (fun k c h=>h) (fun j p h=>by simp at h) hr
 refine⟨T',N',H',e1,k1,k4,k5,k6,fun V A β a w hA a2 hQ=>?_⟩
 have c0:D.length=ops.size:=by have:=congrArg List.length k3;simpa using this
 have b2: ∀ {i:Nat}{o:Oper}{e:Evt},ops[i]? =some o->(D.map Prod.snd)[i]? =some e->D[i]? =some (o,e):=by
  intro i o e U J;have h1:(D.map Prod.fst)[i]? =some o:=by rw[k3,kj];exact U
  rw[lu] at h1 J;cases hf:D[i]? with
  |none=>rw[hf] at J;cases J
  |some p=>
   rw[hf] at h1 J;injection h1 with h1;injection J with J;rw[<-h1,<-J]
 have I: ∀ {i:Nat}{e:Evt},(D.map Prod.snd)[i]? =some e-> ∃o,D[i]? =some (o,e):=by
  intro i e J;rw[lu] at J;cases hf:D[i]? with
  |none=>rw[hf] at J;cases J
  |some p=>rw[hf] at J;injection J with J;exact⟨p.1,by rw[<-J]⟩
 have hU:wm ops.toList (D.map Prod.snd)=D.map fun p=>P7 p.1.dst p.2:=by rw[<-k3];exact Dv (fun(o:Oper) e=>P7 o.dst e) D
 have hV:AB (D.map Prod.snd)=D.map fun p=>uH p.2:=by unfold AB;rw[List.map_map];rfl
 have c6: ∀i,gN (fun j=>decide (j<i)) 0 (wm ops.toList (D.map Prod.snd)) (TS m [] T)=fT (D.take i) (TS m [] T):=fun i=>by rw[hU,Bm,<-List.map_take,Pk]
 have d0: ∀i,gN (fun j=>decide (j<i)) 0 (AB (D.map Prod.snd)) (HS H)=fH (D.take i) (HS H):=fun i=>by
  rw[hV,Bm,<-List.map_take];refine SP _ _ (fun j p hj k c hk=>?_);have R:j<i:=by have:=(fb.1 hj).1;simp at this;omega
  rw[j6,if_pos R] at hj;obtain⟨_,_,_,W⟩:=k2.all j p hj;rw[uj,dK (Nat.le_of_lt R)];exact W k c hk
 have c3:gN (fun _=>true) 0 (wm ops.toList (D.map Prod.snd)) (TS m [] T)=fT D (TS m [] T):=by rw[hU,Gu,Pk]
 have b1:gN (fun _=>true) 0 (AB (D.map Prod.snd)) (HS H)=fH D (HS H):=by rw[hV,Gu];refine SP _ _ (fun j p hj k c hk=>?_);obtain⟨_,_,_,W⟩:=k2.all j p hj;exact W k c hk
 have b3: ∀ {i:Nat}{o:Oper},ops[i]? =some o->(∀j∈bL o,j<i)/\ ∀j p,j<i->((nU ops.toList).getD i 0).testBit j=false->ops.toList[j]? =some p->Vz ops p o=true:=fun{i o} U=>by have c8:=(ll.1 U).1;exact TV (lj.1 b4 i (iC.2 c8)) (by rw[kj];exact U)
 refine wp_region_any b6 ?_
 have a9:StX V A n (TS m [] T) (HS H) β a w.drew:=by refine⟨GV a2.mem,a2.dfr,a2.siz,fun t x ht=>?_⟩;obtain⟨v,e,hr⟩:=a2.tmp t x ht;have c1:Keep (Zs V (HS H) β) (Zs V (HS H) β) w w.drew:=⟨Nat.le_refl _,fun _ _ _=>rfl,fun _ _ h=>h⟩;exact⟨v,e,hr.mono c1 (fun _ h=>h) (fun _ _=>rfl)⟩
 have K: ∀j,(Array.replicate ops.size false).getD j false=false:=fun j=>by simp[Array.getD]
 have c5:gN (fun j=>(Array.replicate ops.size false).getD j false) 0 (wm ops.toList (D.map Prod.snd)) (TS m [] T)=TS m [] T:=funext fun t=>iA _ _ _ fun j u _ hm=>by rw[K] at hm;cases hm
 have b5:gN (fun j=>(Array.replicate ops.size false).getD j false) 0 (AB (D.map Prod.snd)) (HS H)=HS H:=funext fun t=>iA _ _ _ fun j u _ hm=>by rw[K] at hm;cases hm
 refine Ns (P:=P) (V:=V) (n:=n) (Q:=Q) (fun i o j U hj=>(b3 U).1 j hj) (fun i o t U ht=>?_) (PM ops) (fun j i hp=>?_) (fun j i oj oi R a5 b8 c9=>?_) (es:=D.map Prod.snd) (by simp[c0]) (T0:=TS m [] T) (H0:=HS H) (N0:=N) (Nn:=N') (A0:=A) (β0:=β) (w0:=w)
  (fun i o e U J=>?_) (fun i e J=>?_) (fun j i ej ei R a3 b0=>?_) (fun j i ej ei R a5 a3 b0=>?_) k1 hA (fun A' β' a' w' h1 h2 W h4=>?_) ops.size (Array.replicate ops.size false) A β a w.drew (by simp) (by unfold KR;refine fw List.countP_le_length ?_;simp) (fun i o j hi=>by rw[K] at hi;cases hi) (fun _ h=>h) (fun _ h=>.inl h) ?_ ?_
 ·obtain⟨x,hx⟩:=DZ hw a1 o (yx.2 (Array.mem_of_getElem? U))
  exact(Ij hx).1 t ht
 ·unfold PM at hp
  cases hq:(nU ops.toList)[i]? with
  |none=>rw[Bi,hq] at hp;simp at hp
  |some mk=>rw[Bi,hq] at hp;exact hM i mk hq j hp
 ·have hb:((nU ops.toList).getD i 0).testBit j=false:=by
   cases hb:((nU ops.toList).getD i 0).testBit j with
   |false=>rfl
   |true=>exact absurd hb a5
  have a0:=(b3 c9).2 j oj R hb (by rw[kj];exact b8)
  unfold Vz at a0
  simp only[de,wa] at a0
  obtain⟨⟨h1,h2⟩,W⟩:=a0
  refine⟨fun d hd=>⟨CW h1 d hd,fun J=>?_⟩,fun d hd=>CW h2 d hd⟩
  rw[hd,J] at W
  have W:Nat.beq d d=false:=W
  rw[vT] at W;cases W
 ·obtain⟨Tl,g1,g2,g3⟩:=k2.all i (o,e) (b2 U J)
  exact⟨Tl,g1,fun t x _ hx=>by rw[c6];exact g2 t x hx,fun k c hk=>by rw[d0];exact g3 k c hk⟩
 ·obtain⟨o,U⟩:=I J
  have:=k2.nm i (o,e) U
  exact⟨this.1,this.2.2⟩
 ·obtain⟨o,U⟩:=I a3
  obtain⟨o2,a4⟩:=I b0
  exact k2.mono j i _ _ R U a4
 ·obtain⟨o,U⟩:=I a3
  obtain⟨o2,a4⟩:=I b0
  exact k2.con j i _ _ R a5 U a4
 ·rw[b1] at W
  rw[c3,b1] at h4
  exact hQ a' w' ⟨A',β',h1,h2,W.less k8,h4.less k7 k8⟩
 ·rw[b5]
  exact⟨rfl,rfl,rfl,bd _,fun _ _ _=>rfl,fun _ _=>rfl,fun k hk=>.inr ⟨k,hk,rfl⟩,fun _ h=>.inl h⟩
 ·rw[c5,b5];exact a9
end
section
variable {P:Program}{n m:Nat}{call:fF}
abbrev Oc:=Exit×Tr XV×Nat×Tr Bx
def Ro.out:Ro->Option Oc
 | .no=>none
 | .n T N H=>some (.normal,T,N,H)
 | .x id T N H=>some (.exit id,T,N,H)
 | .r T N H=>some (.ret,T,N,H)
def Does (P:Program) (n m:Nat) (c:(Exit->Act->World->Prop)->Act->World->Prop) (T:Tr XV) (N:Nat) (H:Tr Bx) (o:Oc):Prop:=
 N<=o.2.2.1/\lm (TS m [] o.2.1)/\jp o.2.2.2/\jx o.2.2.1 o.2.2.2/\ ∀Q V A β a w,(∀k,A k-> ¬(N<=k/\k<o.2.2.1))->StX V A n (TS m [] T) (HS H) β a w->
  (∀h w',Ends P n m V A N (HS H) β w o.2.2.1 (TS m [] o.2.1) (HS o.2.2.2) h w'->Q o.1 h w')->c Q a w
def Sw (P:Program) (n m:Nat) (c:Code) (h:sy):Prop:= ∀call,jK P call-> ∀f T N H o,lm (TS m [] T)->jp H->jx N H->(h call f T N H).out=some o->Does P n m (fun Q=>c.wp P Q) T N H o
theorem Ends.refl {T:TX}{H:HF}(h:StX V A n T H β a w):Ends P n m V A N H β w N T H a w:=
 ⟨A,β,fun _ h=>h,fun _ h=>.inl h,Hst.refl,h⟩
theorem Does.skip (K:lm (TS m [] T)) (I:jp H) (D:jx N H) (h: ∀Q a w,Q e a w->c Q a w):Does P n m c T N H (e,T,N,H):=
 ⟨Nat.le_refl _,K,I,D,fun Q _V _A _β a w _ u J=>h Q a w (J a w (Ends.refl u))⟩
theorem Does.seq {N1:Nat}{o:Oc}{d b:(Exit->Act->World->Prop)->Act->World->Prop}(h1:Does P n m c T N H (e,T1,N1,H1)) (h2:Does P n m d T1 N1 H1 o)
 (h: ∀Q a w,(∀D,(∀a' w',d Q a' w'->D e a' w')->c D a w)->b Q a w):Does P n m b T N H o:=by
 obtain⟨I,k2,k3,k4,k5⟩:=h1
 obtain⟨l1,l2,l3,l4,l5⟩:=h2
 refine⟨Nat.le_trans I l1,l2,l3,l4,fun Q V A β a w W K hQ=>h Q a w fun D J=>?_⟩
 refine k5 D V A β a w (fun k u hh=>W k u ⟨hh.1,kE hh.2 l1⟩) K fun a1 w1 ⟨A1,U,f1,f2,f3,f4⟩=>J a1 w1 ?_
 refine l5 Q V A1 U a1 w1 (BC W f2 I) f4 fun a2 w2 ⟨A2,R,g1,g2,g3,g4⟩=>?_
 exact hQ a2 w2 ⟨A2,R,fun k u=>g1 k (f1 k u),fun k u=>PB f2 I l1 k (g2 k u),(f3.wide (bd _) l1).trans f1 (g3.wide I (bd _)),g4⟩
theorem Does.as {o:Oc}{b:(Exit->Act->World->Prop)->Act->World->Prop}(h1:Does P n m c T N H o)
 (h: ∀Q a w,(∀D,(∀u w',Q e' u w'->D o.1 u w')->c D a w)->b Q a w):Does P n m b T N H (e',o.2):=by
 obtain⟨k1,W,R,k4,k5⟩:=h1
 exact⟨k1,W,R,k4,fun Q V A β a w K J hQ=>h Q a w fun D I=>k5 D V A β a w K J fun u w' U=>I u w' (hQ u w' U)⟩
def L4 (c:sy) (call:fF) (F:Nat) (g:Nat):Tr XV->Nat->Tr Bx->Ro:=@Nat.rec (fun _=>Tr XV->Nat->Tr Bx->Ro) (fun _ _ _=>.no) (fun _ ih T N H=>@Ro.rec (fun _=>Ro) .no (fun T N H=>ih T N H) (fun id T N H=>.x id T N H) (fun T N H=>.r T N H) (c call F T N H)) g
theorem BZ {c:Code}{u:sy}(hc:Sw P n m c u) (I:jK P call) {F:Nat}: ∀(g:Nat) (T:Tr XV) (N:Nat) (H:Tr Bx) (o:Oc),lm (TS m [] T)->jp H->jx N H->(L4 u call F g T N H).out=some o->Does P n m (fun Q=>Code.rounds P c Q g) T N H o
 |0,T,N,H,o,_,_,_,h=>by cases h
 |g+1,T,N,H,o,hT,hO,hL,h=>by
  have e:L4 u call F (g+1) T N H= @Ro.rec (fun _=>Ro) .no (fun T N H=>L4 u call F g T N H) (fun id T N H=>.x id T N H) (fun T N H=>.r T N H) (u call F T N H):=rfl;rw[e] at h;have D:=hc call I F T N H;cases K:u call F T N H with
  |no=>rw[K] at h;cases h
  |n T1 U H1=>
   rw[K] at h D;have R:=D _ hT hO hL rfl;refine R.seq (BZ hc I g T1 U H1 o R.2.1 R.2.2.1 R.2.2.2.1 h) fun Q a w J=>?_;exact J (Exit.then (Code.rounds P c Q g) Q) fun W w' h=>h
  |x id T1 U H1=>
   rw[K] at h D;injection h with h;subst h;exact(D _ hT hO hL rfl).as fun Q a w J=>J (Exit.then (Code.rounds P c Q g) Q) fun W w' h=>h
  |r T1 U H1=>
   rw[K] at h D;injection h with h;subst h;exact(D _ hT hO hL rfl).as fun Q a w J=>J (Exit.then (Code.rounds P c Q g) Q) fun W w' h=>h
theorem iV (R:P.follows .mixedOrders=true): ∀(c:Code) {K:sy},cC P n m c=some K->Sw P n m c K
 | .skip,K,h=>by injection h with h;subst h;intro call u f T N H o W U hL D;injection D with D;subst D;exact Does.skip W U hL fun Q a w h=>wp_skip h
 | .exit id,K,h=>by injection h with h;subst h;intro call u f T N H o W U hL D;injection D with D;subst D;exact Does.skip W U hL fun Q a w h=>wp_exit h
 | .ret,K,h=>by injection h with h;subst h;intro call u f T N H o W U hL D;injection D with D;subst D;exact Does.skip W U hL fun Q a w h=>wp_ret h
 | .region id ops false,K,h=>by
   unfold cC at h;dsimp only at h;cases hl:kS (XB P n m ops) ops.toList with
   |none=>rw[hl] at h;cases h
   |some is=>
    rw[hl] at h;injection h with h;subst h;intro call u f T N H o W U hL D;have D:(JG call is [] T N H).out=some o:=D;have a2:JG call is [] T N H≠ .no:=fun e=>by rw[e] at D;cases D
    obtain⟨T',N',H',e1,k1,k2,k3,k4,_⟩:=wh (ops:=ops) u (Q:=fun _ _ _=>True) ops.toList is [] T N H hl W U hL a2;rw[e1] at D;injection D with D;subst D;refine⟨k1,k2,k3,k4,fun Q V A β a w hA J hQ=>?_⟩;obtain⟨T2,N2,H2,e2,_,_,_,_,k5⟩:=wh (ops:=ops) u (Q:=Q) ops.toList is [] T N H hl W U hL a2;rw[e1] at e2;injection e2 with a4 a5 a3;subst a4 a5 a3;exact wp_region_list (k5 V A β a w hA J hQ)
 | .region id ops true,K,h=>by
   unfold cC at h;dsimp only at h;cases a1:(List.range ops.size).all (unB ops (nU ops.toList) ops.toList) with
   |false=>rw[a1] at h;cases h
   |true=>
    rw[a1] at h;cases hl:tI P n m ops (nU ops.toList) ops.toList with
    |none=>rw[hl] at h;cases h
    |some js=>
     rw[hl] at h;injection h with h;subst h;intro call u f T N H o W U hL D;have D:(Fj call js 0 [] T N H [] []).out=some o:=D;have a2:Fj call js 0 [] T N H [] []≠ .no:=fun e=>by rw[e] at D;cases D
     obtain⟨T',N',H',e1,k1,k2,k3,k4,_⟩:=ES R u a1 hl W U hL a2 (Q:=fun _ _ _=>True) (id:=id);rw[e1] at D;injection D with D;subst D;refine⟨k1,k2,k3,k4,fun Q V A β a w hA J hQ=>?_⟩;obtain⟨T2,N2,H2,e2,_,_,_,_,k5⟩:=ES R u a1 hl W U hL a2 (Q:=Q) (id:=id);rw[e1] at e2;injection e2 with a4 a5 a3;subst a4 a5 a3;exact k5 V A β a w hA J hQ
 | .seq x y,K,h=>by
   unfold cC at h;cases hx:cC P n m x with
   |none=>rw[hx] at h;cases h
   |some rx=>
    cases hy:cC P n m y with
    |none=>rw[hx,hy] at h;cases h
    |some ry=>
     rw[hx,hy] at h;injection h with h;subst h;have ix:=iV R x hx;have iy:=iV R y hy;intro call u f T N H o W U hL D;have e:aed rx ry call f T N H= @Ro.rec (fun _=>Ro) .no (fun T N H=>ry call f T N H) (fun id T N H=>.x id T N H) (fun T N H=>.r T N H) (rx call f T N H):=rfl;rw[e] at D;have a0:=ix call u f T N H;cases hq:rx call f T N H with
     |no=>rw[hq] at D;cases D
     |n T1 N1 H1=>
      rw[hq] at D a0;have h1:=a0 _ W U hL rfl;exact h1.seq (iy call u f T1 N1 H1 o h1.2.1 h1.2.2.1 h1.2.2.2.1 D) fun Q a w hq=>wp_seq (hq (Exit.then (y.wp P Q) Q) fun a' w' h=>h)
     |x id T1 N1 H1=>
      rw[hq] at D a0;injection D with D;subst D;exact(a0 _ W U hL rfl).as fun Q a w hq=>wp_seq (hq (Exit.then (y.wp P Q) Q) fun a' w' h=>h)
     |r T1 N1 H1=>
      rw[hq] at D a0;injection D with D;subst D;exact(a0 _ W U hL rfl).as fun Q a w hq=>wp_seq (hq (Exit.then (y.wp P Q) Q) fun a' w' h=>h)
 | .cond (.tmp t) x y,K,h=>by
   unfold cC at h;cases hx:cC P n m x with
   |none=>rw[hx] at h;cases h
   |some rx=>
    cases hy:cC P n m y with
    |none=>rw[hx,hy] at h;cases h
    |some ry=>
     rw[hx,hy] at h;dsimp only at h;cases hb:m.testBit t with
     |true=>rw[hb] at h;cases h
     |false=>
      rw[hb] at h;injection h with h;subst h;have ix:=iV R x hx;have iy:=iV R y hy;intro call u f T N H o W U hL D;have e:Zn t rx ry call f T N H= @Option.rec Bool (fun _=>Ro) .no (fun v=>@Bool.rec (fun _=>Ro) (ry call f T N H) (rx call f T N H) v) (oO (T.get t) fun v=>xB v some):=rfl;rw[e] at D;cases hv:(oO (T.get t) fun v=>xB v some) with
      |none=>rw[hv] at D;cases D
      |some v=>
       rw[hv] at D;obtain⟨z,hz,h2⟩:=aC hv;obtain⟨b,rfl,h3⟩:=sn h2;injection h3 with h3;subst h3;have a9:TS m [] T t=some (.c (.b b)):=by unfold TS;rw[hb];exact hz
       have a6: ∀ {V A β a w},StX V A n (TS m [] T) (HS H) β a w->a.eval (.tmp t)=.bool b:=by
        intro V A β a w J;obtain⟨v',e,D⟩:=J.tmp t _ a9;have:a.eval (.tmp t)=v':=by show a.tmps.getD t undef=v';obtain⟨b0,e⟩:=ll.1 e;simp[Array.getD,b0,e]
        rw[this];exact RdA.b_eq D
       cases b with
       |true=>
        obtain⟨k1,k2,k3,k4,k5⟩:=ix call u f T N H o W U hL D;exact⟨k1,k2,k3,k4,fun Q V A β a w hA J hQ=>wp_cond_true (a6 J) (k5 Q V A β a w hA J hQ)⟩
       |false=>
        obtain⟨k1,k2,k3,k4,k5⟩:=iy call u f T N H o W U hL D;exact⟨k1,k2,k3,k4,fun Q V A β a w hA J hQ=>wp_cond_false (a6 J) (k5 Q V A β a w hA J hQ)⟩
 | .block id c,K,h=>by
   unfold cC at h;cases hx:cC P n m c with
   |none=>rw[hx] at h;cases h
   |some rx=>
    rw[hx] at h;injection h with h;subst h;have ix:=iV R c hx;intro call u f T N H o W U hL D;have e:RT id rx call f T N H= @Ro.rec (fun _=>Ro) .no (fun T N H=>.n T N H) (fun I T N H=>@Bool.rec (fun _=>Ro) (.x I T N H) (.n T N H) (Nat.beq I id)) (fun T N H=>.r T N H) (rx call f T N H):=rfl;rw[e] at D;have a0:=ix call u f T N H;cases hq:rx call f T N H with
    |no=>rw[hq] at D;cases D
    |n T1 N1 H1=>
     rw[hq] at D a0;injection D with D;subst D;exact(a0 _ W U hL rfl).as fun Q a w hq=>wp_block (hq (Exit.inBlock id Q) fun a' w' h=>h)
    |r T1 N1 H1=>
     rw[hq] at D a0;injection D with D;subst D;exact(a0 _ W U hL rfl).as fun Q a w hq=>wp_block (hq (Exit.inBlock id Q) fun a' w' h=>h)
    |x I T1 N1 H1=>
     rw[hq] at D a0;cases hb:Nat.beq I id with
     |true=>
      have D:(match Nat.beq I id with|true=>Ro.n T1 N1 H1|false=>Ro.x I T1 N1 H1).out=some o:=by rw[hb];rw[show(@Ro.rec (fun _=>Ro) .no (fun T N H=>.n T N H) (fun I T N H=>@Bool.rec (fun _=>Ro) (.x I T N H) (.n T N H) (Nat.beq I id)) (fun T N H=>.r T N H) (.x I T1 N1 H1))= @Bool.rec (fun _=>Ro) (.x I T1 N1 H1) (.n T1 N1 H1) (Nat.beq I id) from rfl,hb] at D;exact D
      rw[hb] at D;injection D with D;subst D;exact(a0 _ W U hL rfl).as fun Q a w hq=>wp_block (hq (Exit.inBlock id Q) fun a' w' h=>by show if I=id then Q .normal a' w' else Q (.exit I) a' w';rw[if_pos (fe hb)];exact h)
     |false=>
      rw[show(@Ro.rec (fun _=>Ro) .no (fun T N H=>.n T N H) (fun I T N H=>@Bool.rec (fun _=>Ro) (.x I T N H) (.n T N H) (Nat.beq I id)) (fun T N H=>.r T N H) (.x I T1 N1 H1))= @Bool.rec (fun _=>Ro) (.x I T1 N1 H1) (.n T1 N1 H1) (Nat.beq I id) from rfl,hb] at D;injection D with D;subst D;exact(a0 _ W U hL rfl).as fun Q a w hq=>wp_block (hq (Exit.inBlock id Q) fun a' w' h=>by show if I=id then Q .normal a' w' else Q (.exit I) a' w';rw[if_neg (Nat.ne_of_beq_eq_false hb)];exact h)
 | .loop c,K,h=>by
   unfold cC at h;cases hx:cC P n m c with
   |none=>rw[hx] at h;cases h
   |some rx=>
    rw[hx] at h;injection h with h;subst h;have ix:=iV R c hx;intro call u f T N H o W U hL D;have D:(L4 rx call f f T N H).out=some o:=D;obtain⟨k1,k2,k3,k4,k5⟩:=BZ ix u f T N H o W U hL D;exact⟨k1,k2,k3,k4,fun Q V A β a w hA J hQ=>wp_loop_rounds f (k5 Q V A β a w hA J hQ)⟩
 | .cond (.const v) x y,K,h=>by
   cases v with
   |bool b=>
    cases b with
    |true=>
     have ix:=iV R x (show cC P n m x=some K from h);intro call u f T N H o W U hL D;obtain⟨k1,k2,k3,k4,k5⟩:=ix call u f T N H o W U hL D;exact⟨k1,k2,k3,k4,fun Q V A β a w hA J hQ=>wp_cond_true rfl (k5 Q V A β a w hA J hQ)⟩
    |false=>
     have iy:=iV R y (show cC P n m y=some K from h);intro call u f T N H o W U hL D;obtain⟨k1,k2,k3,k4,k5⟩:=iy call u f T N H o W U hL D;exact⟨k1,k2,k3,k4,fun Q V A β a w hA J hQ=>wp_cond_false rfl (k5 Q V A β a w hA J hQ)⟩
   |_=>cases h
 | .cond (.func _) x y,K,h=>by cases h
 | .goto l,K,h=>by cases h
 | .label l,K,h=>by cases h
end
section
variable {P:Program}{n m:Nat}{T:Tr XV}{N:Nat}{H:Tr Bx}
theorem QW {v:XV}(h:toD v=some d):v=Wz d:=by
 cases v with
 |c x=>injection h with h;subst h;rfl
 |a k r=>injection h with h;subst h;rfl
 |t ds=>cases h
 |u=>cases h
theorem yX:RdX2 A Z w β v (Wz d)↔RdD A Z w β v d:=by cases d<;>exact Iff.rfl
theorem T4:Ai (Wz d)↔BM d:=by cases d<;>exact Iff.rfl
theorem StX.look {T:TX}{H:HF}(h:StX V A n T H β a w) (I:T t=some x):RdX2 A (Zs V H β) w β (a.tmps.getD t undef) x:=by
 obtain⟨v,e,D⟩:=h.tmp t x I;obtain⟨u,e⟩:=ll.1 e;have:a.tmps.getD t undef=v:=by simp[Array.getD,u,e]
 rw[this];exact D
theorem Rq (hT:lm (TS m [] T)) (hO:jp H) {rv:ResultVar}{r:XR}(u:cR2 P m rv=some r) (h:aaK T H r=some d):BM d/\ ∀V A β a w,StX V A n (TS m [] T) (HS H) β a w->
 ∃v,(nF a rv).run P w=.ok v w/\RdD A (Zs V (HS H) β) w β v d:=by
 have W: ∀ {t x},m.testBit t=false->T.get t=some x->TS m [] T t=some x:=fun R h=>by unfold TS;rw[R];exact h
 cases rv with
 |tmp t=>
  unfold cR2 at u
  dsimp only at u
  cases R:m.testBit t with
  |true=>rw[R] at u;cases u
  |false=>
   rw[R] at u
   injection u with u
   subst u
   obtain⟨v,K,h2⟩:=aC (show oO (T.get t) toD=some d from h)
   have e:=QW h2
   subst e
   have hs:=W R K
   exact⟨T4.1 (hT t _ hs),fun V A β a w D=>⟨_,rfl,yX.1 (D.look hs)⟩⟩
 |cell t U=>
  unfold cR2 at u
  dsimp only at u
  cases R:m.testBit t with
  |true=>rw[R] at u;cases u
  |false=>
   rw[R] at u
   dsimp only[cond_false] at u
   split at u
   ·rename_i k hU
    injection u with u
    subst u
    obtain⟨v,K,h⟩:=aC (show oO (T.get t) (fun v=>xP v fun k' off=>oO (H.get k') fun b=>bT (Nat.ble (Nat.add off k) b.n) (some (XD.a k (iB b.r b.n off k))))=some d from h)
    obtain⟨j,off,rfl,h⟩:=p8 h
    obtain⟨b,I,h⟩:=aC h
    obtain⟨hn,h⟩:=bv h
    rw[dN] at hn
    injection h with h
    subst h
    obtain⟨a0,a2⟩:=hO j b I
    obtain⟨g1,g2⟩:=jW b.r b.n off k a0 a2 hn
    have b0:off+k<=b.r.flat.length:=by rw[<-a2];exact hn
    refine⟨⟨g1,by rw[g2];simp;omega⟩,fun V A β a w D=>?_⟩
    obtain⟨e1,hk⟩:=RdA.p_eq (D.look (W R K))
    obtain⟨vs,ev,hz,hl,hr⟩:=D.mem.box j b.U b.r.flat (qh I)
    have a4:=(hr.drop off).take k
    have a3:((vs.toList.take b.r.flat.length).drop off).take k=((vs.toList.drop off).take k):=by rw[tz,uj,dK (by omega)]
    rw[a3] at a4
    have J:=jm (P:=P) (w:=w) hU (b:=(β j).b) (off:=off) (vs:=(vs.toList.drop off).take k) (by simp;omega) (fun j v K=>by
     rw[j6] at K;split at K;·rw[bE ev,<-K];simp
     ·cases K)
    refine⟨.agg ((vs.toList.drop off).take k).toArray,?_,((vs.toList.drop off).take k).toArray,rfl,by rw[g2];simpa using a4⟩
    simp only[nF,e1,asAddr,fq,dx,dd,J]
   ·rename_i k hU
    injection u with u
    subst u
    obtain⟨v,K,h⟩:=aC (show oO (T.get t) (fun v=>xP v fun k' off=>oO (H.get k') fun b=>oO (qw b.r off) fun a=>some (XD.c a))=some d from h)
    obtain⟨j,off,rfl,h⟩:=p8 h
    obtain⟨b,I,h⟩:=aC h
    obtain⟨c,a1,h⟩:=aC h
    injection h with h
    subst h
    obtain⟨a0,a2⟩:=hO j b I
    rw[qE b.r off a0] at a1
    have a6:=(fb.1 a1).1
    refine⟨trivial,fun V A β a w D=>?_⟩
    obtain⟨e1,hk⟩:=RdA.p_eq (D.look (W R K))
    obtain⟨vs,ev,hz,hl,hr⟩:=D.mem.box j b.U b.r.flat (qh I)
    have a5:vs.toList[off]? =some (vs.toList[off]'(by simp;omega)):=dY _
    have a9:=hr.2 off (vs.toList[off]'(by simp;omega)) c (by rw[j6,if_pos a6];exact a5) a1
    have J:=je (P:=P) (w:=w) hU (b:=(β j).b) (off:=off) (by rw[bE ev,<-kj,a5])
    refine⟨_,?_,a9⟩
    simp only[nF,e1,asAddr,fq,dx,dd,J]
   ·cases u
theorem uY (hT:lm (TS m [] T)) (hO:jp H): ∀(D:List ResultVar) (rs:List XR) (ds:List XD),kS (cR2 P m) D=some rs->te T H rs=some ds->(∀d∈ds,BM d)/\ ∀V A β a w,StX V A n (TS m [] T) (HS H) β a w->
 ∃vs:List Value,(D.mapM (nF a)).run P w=.ok vs w/\RdDs A (Zs V (HS H) β) w β vs ds
 |[],rs,ds,u,h=>by injection u with u;subst u;injection h with h;subst h;exact⟨fun d U=>(by cases U),fun V A β a w _=>⟨[],rfl,rfl,fun j v d hv=>by simp at hv⟩⟩
 |rv::D,rs,ds,u,h=>by
  unfold kS at u;split at u;·cases u
  ·rename_i r hr;split at u;·cases u
   ·rename_i K W;injection u with u;subst u;obtain⟨d,U,h⟩:=aC (show oO (aaK T H r) (fun d=>oO (te T H K) fun ds=>some (d::ds))=some ds from h);obtain⟨a1,a0,h⟩:=aC h;injection h with h;subst h;obtain⟨k1,k2⟩:=Rq (n:=n) hT hO hr U;obtain⟨l1,l2⟩:=uY hT hO D K a1 W a0;refine⟨fun x I=>?_,fun V A β a w J=>?_⟩
    ·rcases dO.1 I with rfl|I;·exact k1
     ·exact l1 x I
    ·obtain⟨v,e1,r1⟩:=k2 V A β a w J;obtain⟨vs,e2,r2,r3⟩:=l2 V A β a w J;refine⟨v::vs,?_,by simp[r2],fun j y x R I=>?_⟩
     ·rw[List.mapM_cons];simp only[fq,e1,dd,e2,dx]
     ·cases j with
      |zero=>simp at R I;subst R I;exact r1
      |succ j=>simp at R I;exact r3 j y x R I
theorem BP (h: ∀d∈ds,BM d):Ai (pE ds):=by
 match ds,h with
 |[],_=>exact show ∀d∈([]:List XD),BM d from fun d u=>by cases u
 |[d],h=>exact T4.2 (h d (f7 ..))
 |d::d'::r,h=>exact show ∀x∈d::d'::r,BM x from h
theorem zJ {vs:List Value}(h:RdDs A Z w β vs ds):RdX2 A Z w β (if h:vs.toArray.size=1 then vs.toArray[0] else .tuple vs.toArray) (pE ds):=by
 match vs,ds,h with
 |[],[],h=>exact⟨_,rfl,h⟩
 |[v],[d],h=>exact yX.2 (h.2 0 v d rfl rfl)
 |v::v'::vs',d::d'::ds',h=>exact⟨(v::v'::vs').toArray,dif_neg (by simp),by simpa using h⟩
 |[],d::ds,h=>exact absurd h.1 (by simp)
 |v::vs,[],h=>exact absurd h.1 (by simp)
 |[v],d::d'::ds,h=>exact absurd h.1 (by simp)
 |v::v'::vs,[d],h=>exact absurd h.1 (by simp)
theorem F3 {vs:List Value}(u:(fn.results.toList.mapM (nF a)).run P w=.ok vs w):
 (results fn a.tmps).run P w=.ok (if h:vs.toArray.size=1 then vs.toArray[0] else .tuple vs.toArray) w:=by
 have D: ∀g:ResultVar->Go.Sem Value,(∀r,g r=nF a r)->(do let vs <-fn.results.mapM g;pure (if h:vs.size=1 then vs[0] else .tuple vs):Go.Sem Value).run P w=.ok (if h:vs.toArray.size=1 then vs.toArray[0] else .tuple vs.toArray) w:=by intro g I;rw[funext I];simp[Array.mapM_eq_mapM_toList,u]
 unfold results
 exact D _ (fun r=>by cases r<;>rfl)
theorem CI: ∀(vs:List XV) (k:Nat) (t:Tr XV) (j:Nat) (x:XV),(qr vs k t).get j=some x->(k<=j/\vs[j-k]? =some x)\/t.get j=some x
 |[],k,t,j,x,h=>.inr h
 |v::vs,k,t,j,x,h=>by
  rcases CI vs (k+1) (t.set v k) j x h with⟨J,I⟩|h
  ·refine .inl ⟨by omega,?_⟩;rw[show j-k=(j-(k+1))+1 by omega];simpa using I
  ·rcases Tr.set_get t k j h with⟨D,u⟩|⟨_,h⟩;·subst D u;exact .inl ⟨Nat.le_refl _,by simp⟩
   ·exact .inr h
theorem GY (h:(qr vs 0 .e).get j=some x):vs[j]? =some x:=by
 rcases CI vs 0 .e j x h with⟨_,h⟩|h;·simpa using h
 ·cases h
theorem LT (h:TS m [] (qr vs 0 .e) t=some x):vs[t]? =some x:=by
 unfold TS at h;cases u:m.testBit t with
 |true=>rw[u] at h;cases h
 |false=>rw[u] at h;exact GY h
theorem EF: ∀(vs:List XV) (n:Nat),aas vs n=true->vs.length<=n
 |[],n,_=>eo _
 |v::vs,0,h=>by cases h
 |v::vs,n+1,h=>Nat.succ_le_succ (EF vs n h)
theorem II (h: ∀v∈vs,Ai v):lm (TS m [] (qr vs 0 .e)):=fun _ x u=>h x (sC (LT u))
theorem aeF {u:HF}(K:Mem V A u β w) (D:Di A (Zs V u β) w β args.toList vs) (U:vs.length<=n):
 StX V A n (TS m [] (qr vs 0 .e)) u β {tmps:=args++Array.replicate (n-args.size) undef,defers:=[]} w:=by
 have hl:args.size=vs.length:=by have:=D.1;simpa using this
 refine⟨K,rfl,by simp;omega,fun t x R=>?_⟩
 have I:=LT R
 have h:t<args.size:=by rw[hl];exact(fb.1 I).1
 have J:args.toList[t]? =some args[t]:=by rw[kj];exact qS h
 refine⟨args[t],?_,D.2 t _ x J I⟩
 show(args++Array.replicate (n-args.size) undef)[t]? =_
 rw[Array.getElem?_append_left h];exact qS h
theorem RdA.pure (R:Keep Z Z' w w) {x:AV}(h:RdA A Z w β v x) (D:puA x=true):RdA A' Z' w β' v x:=by
 cases h with
 |b v=>exact .b v
 |i k n=>exact .i k n
 |l v x h=>exact .l v x (h.keep R)
 |p k off=>cases D
 |s=>cases D
 |z=>exact .z
 |ev a c u I=>exact .ev a c u I
 |np=>exact .np
 |f g cs xs y u I W=>
  cases x with
  |f0 J=>
   injection u with u;injection u with u U;subst u U;exact .f J cs [] (.f0 J) rfl I fun j v x _ K=>by simp at K
  |fc=>cases D
  |_=>cases u
theorem RdD.pure (I:Keep Z Z' w w) (h:RdD A Z w β v d) (K:BM d) (u:Zz (Wz d)=true):RdD A' Z' w β' v d:=by
 cases d with
 |c x=>exact RdA.pure I h u
 |a k r=>
  obtain⟨cs,e,R,U⟩:=h;exact⟨cs,e,R,fun j v x J D=>(U j v x J D).pure I (AZ K.1 u x (sC D))⟩
theorem RdX2.pure (I:Keep Z Z' w w) (h:RdX2 A Z w β v x) (J:Ai x) (D:Zz x=true):RdX2 A' Z' w β' v x:=by
 cases x with
 |c x=>exact RdA.pure I h D
 |a k r=>exact RdD.pure (d:=.a k r) I h J D
 |t ds=>cases D
 |u=>cases D
theorem ob {a b:Bool}(h:bA a b=true):a=true/\b=true:=by cases a<;>simp[bA] at h⊢ <;>exact h
theorem I4: ∀ {vs:List XV},puL vs=true-> ∀v∈vs,Zz v=true
 |[],_,v,u=>by cases u
 |u0::vs,h,v,u=>by
  obtain⟨D,I⟩:=ob (show bA (Zz u0) (puL vs)=true from h);rcases dO.1 u with rfl|u;·exact D
  ·exact I4 I v u
theorem Jj: ∀ {ds:List XD},puD ds=true-> ∀d∈ds,Zz (Wz d)=true
 |[],_,v,u=>by cases u
 |d0::vs,h,v,u=>by
  obtain⟨D,I⟩:=ob (show bA (Zz (Wz d0)) (puD vs)=true from h);rcases dO.1 u with rfl|u;·exact D
  ·exact Jj I v u
end
section
variable {P:Program}{n m:Nat}{T:Tr XV}{N:Nat}{H:Tr Bx}
theorem vg {κ:Tr XV->Nat->Tr Bx->Cr}{r:Ro}{y:Cr}(h:Tk F κ r=y) (u:y≠ .no): ∃e T N H,r.out=some (e,T,N,H)/\(e=.normal\/e=.ret)/\κ T N H=y:=by
 cases r with
 |no=>exact absurd h.symm u
 |n T N H=>exact⟨_,T,N,H,rfl,.inl rfl,h⟩
 |x id T N H=>exact absurd h.symm u
 |r T N H=>exact⟨_,T,N,H,rfl,.inr rfl,h⟩
theorem Xl (h:cF P pu m fn=some F): ∃c,fn.body=some c/\cC P fn.ntmps m c=some F.run/\kS (cR2 P m) fn.results.toList=some F.rs/\F.na=fn.ntmps:=by
 unfold cF at h;split at h;·cases h
 ·rename_i c D;split at h
  ·rename_i x rs u I;injection h with h;subst h;exact⟨c,D,u,I,rfl⟩
  ·cases h
theorem FL:jp .e:=fun k b h=>by cases h
theorem FI:jx 0 .e:=fun k b h=>by cases h
theorem CD {c:Code}{K:FuncId}{rs:List XR}
 (hf:P.funcs[K]? =some fn) (hb:fn.body=some c) (R:kS (cR2 P m) fn.results.toList=some rs) (he:e=.normal\/e=.ret) (U:te T' H' rs=some ds)
 (hd:Does P fn.ntmps m (fun Q=>c.wp P Q) (qr vs 0 .e) N H (e,T',N',H')) (hA: ∀k,A k-> ¬(N<=k/\k<N')) (hm:Mem V A (HS H) β w) (hr:Di A (Zs V (HS H) β) w β args.toList vs) (hn:vs.length<=fn.ntmps):
 Calls P K args w fun e w'=> ∃v A' β',e=.returned v/\(∀k,A k->A' k)/\(∀k,A' k->Ad A N N' k)/\Mem V A' (HS H') β' w'/\Hst N N' A (HS H) β w (HS H') β' w'/\ ∃us:List Value,RdDs A' (Zs V (HS H') β') w' β' us ds/\v=(if h:us.toArray.size=1 then us.toArray[0] else .tuple us.toArray):=by
 refine calls_of_wp hf hb ?_
 obtain⟨k1,k2,k3,k4,k5⟩:=hd
 refine k5 (bodyPost P fn _) V A β _ w hA (aeF hm hr hn) fun a' w' ⟨A',β',f1,f2,W,D⟩=>?_
 obtain⟨g1,g2⟩:=uY (n:=fn.ntmps) k2 k3 _ _ _ R U
 obtain⟨us,I,J⟩:=g2 V A' β' a' w' D
 have u:=F3 I
 rcases he with rfl|rfl
 ·exact⟨D.dfr,_,u,_,A',β',rfl,f1,f2,D.mem,W,us,J,rfl⟩
 ·exact⟨D.dfr,_,u,_,A',β',rfl,f1,f2,D.mem,W,us,J,rfl⟩
theorem zQ (a9:P.follows .mixedOrders=true) (a6:jK P ih) {g:FuncId}(hF:cF P pu m fn=some F) (hf:P.funcs[g]? =some fn) (a2:fv P g=true) (a3: ∀v∈vs,Ai v) (hO:jp H) (hL:jx N H):
 (∀x,zT F ih fuel vs N H=.p x->CallP P g vs x)/\ ∀x N' H',zT F ih fuel vs N H=.h x N' H'->CallH P g vs N H x N' H':=by
 obtain⟨c,hb,hc,W,b2⟩:=Xl hF
 have R:=iV a9 c hc
 have a1: ∀ {y},zT F ih fuel vs N H=y->y≠ .no->vs.length<=fn.ntmps/\(@Bool.rec (fun _=>Cr)
  (Tk F (fun T N' H'=>@Option.rec (List XD) (fun _=>Cr) .no (fun ds=>.h (pE ds) N' H') (te T H' F.rs)) (F.run ih fuel (qr vs 0 .e) N H))
  (Tk F (fun T _ H'=>@Option.rec (List XD) (fun _=>Cr) .no (fun ds=>@Bool.rec (fun _=>Cr) .no (.p (pE ds)) (puD ds)) (te T H' F.rs)) (F.run ih fuel (qr vs 0 .e) 0 .e))
  (bA F.pure (puL vs)))=y:=by
  intro y h hy
  unfold zT at h
  cases hl:aas vs F.na with
  |false=>rw[hl] at h;exact absurd h.symm hy
  |true=>rw[hl] at h;exact⟨by rw[<-b2];exact EF _ _ hl,h⟩
 refine⟨fun x h=>?_,fun x N' H' h=>?_⟩
 ·obtain⟨hn,h⟩:=a1 h (by simp)
  cases hp:bA F.pure (puL vs) with
  |false=>
   rw[hp] at h
   obtain⟨e,T1,N1,H1,_,_,h⟩:=vg h (by simp)
   cases J:te T1 H1 F.rs with
   |none=>rw[J] at h;cases h
   |some ds=>rw[J] at h;cases h
  |true=>
   rw[hp] at h
   have b0:=I4 (ob hp).2
   obtain⟨e,T1,N1,H1,ho,he,h⟩:=vg h (by simp)
   cases J:te T1 H1 F.rs with
   |none=>rw[J] at h;cases h
   |some ds=>
    rw[J] at h
    dsimp only at h
    cases hq:puD ds with
    |false=>rw[hq] at h;cases h
    |true=>
     rw[hq] at h
     injection h with h
     subst h
     have u:=R ih a6 fuel _ _ _ _ (II (m:=m) a3) FL FI ho
     have K:=(uY (n:=fn.ntmps) u.2.1 u.2.2.1 _ _ _ W J).1
     refine⟨a2,BP K,fun Z A β args w hZ hr=>?_⟩
     have hm:Mem Z (fun _=>False) (HS .e) β w:=⟨hZ,fun k I=>absurd rfl I,fun k I=>I.elim,fun k l I=>absurd rfl I,fun k I=>absurd rfl I,fun k U cs I=>by cases I⟩
     have b4:Keep Z (Zs Z (HS .e) β) w w:=⟨Nat.le_refl _,fun _ _ _=>rfl,fun b _ hb=>by
      rcases hb with hb|⟨k,I,_⟩;·exact hb
      ·exact absurd rfl I⟩
     have b3:Di (fun _=>False) (Zs Z (HS .e) β) w β args.toList vs:=⟨hr.1,fun j v x hv hx=>(hr.2 j v x hv hx).pure b4 (a3 x (sC hx)) (b0 x (sC hx))⟩
     refine(CD hf hb W he J u (V:=Z) (A:=fun _=>False) (β:=β) (fun k I=>I.elim) hm b3 hn).mono fun e' w' hh=>?_
     obtain⟨v,A',β',rfl,_,_,a5,D,us,a0,rfl⟩:=hh
     have b1:Keep (Zs Z (HS H1) β') Z w' w':=⟨Nat.le_refl _,fun _ _ _=>rfl,fun b _ hb=>.inl hb⟩
     refine⟨_,rfl,fun A2 b5=>zJ ⟨a0.1,fun j v d hv a4=>(a0.2 j v d hv a4).pure b1 (K d (sC a4)) (Jj hq d (sC a4))⟩,D.os,D.tape,D.output,D.size,fun k I=>D.blk k I fun j hj=>absurd rfl hj⟩
 ·obtain⟨hn,h⟩:=a1 h (by simp)
  cases hp:bA F.pure (puL vs) with
  |true=>
   rw[hp] at h
   obtain⟨e,T1,N1,H1,_,_,h⟩:=vg h (by simp)
   cases J:te T1 H1 F.rs with
   |none=>rw[J] at h;cases h
   |some ds=>
    rw[J] at h
    dsimp only at h
    cases hq:puD ds with
    |false=>rw[hq] at h;cases h
    |true=>rw[hq] at h;cases h
  |false=>
   rw[hp] at h
   obtain⟨e,T1,N1,H1,ho,he,h⟩:=vg h (by simp)
   cases J:te T1 H1 F.rs with
   |none=>rw[J] at h;cases h
   |some ds=>
    rw[J] at h
    injection h with h1 h2 h3
    subst h1 h2 h3
    have u:=R ih a6 fuel _ _ _ _ (II (m:=m) a3) hO hL ho
    have K:=(uY (n:=fn.ntmps) u.2.1 u.2.2.1 _ _ _ W J).1
    refine⟨u.1,a2,BP K,u.2.2.1,u.2.2.2.1,fun V A β args w hA hm hr=>?_⟩
    refine(CD hf hb W he J u hA hm hr hn).mono fun e' w' hh=>?_
    obtain⟨v,A',β',rfl,g1,g2,a5,D,us,a0,rfl⟩:=hh
    exact⟨_,A',β',rfl,g1,g2,a5,D,zJ a0⟩
structure EnvOk (P:Program) (E:Env):Prop where
 pr: ∀g p vs ds,E.pr.get g=some p->(∀v∈vs,Ai v)->p vs=some ds->CallP P g vs (pE ds)
 fs: ∀g F,E.fs.get g=some (some F)-> ∃pu m fn,cF P pu m fn=some F/\P.funcs[g]? =some fn/\fv P g=true
theorem uk (u:P.follows .mixedOrders=true) {E:Env}(J:EnvOk P E) {fuel:Nat}: ∀depth,jK P (Qk E fuel depth)
 |0=>fun f vs N H _ _ _=>⟨fun x h=>(by cases h),fun x N' H' h=>(by cases h)⟩
 |d+1=>fun f vs N H D W hL=>by
  have U:Qk E fuel (d+1) f vs N H= @Option.rec (List XD) (fun _=>Cr) (@Option.rec XF (fun _=>Cr) .no (fun F=>zT F (Qk E fuel d) fuel vs N H) (oO (E.fs.get f) fun x=>x)) (fun ds=>.p (pE ds)) (oO (E.pr.get f) fun p=>p vs):=rfl;cases I:(oO (E.pr.get f) fun p=>p vs) with
  |some ds=>
   rw[U,I];obtain⟨p,K,R⟩:=aC I;refine⟨fun x h=>?_,fun x N' H' h=>(by cases h)⟩;injection h with h;subst h;exact J.pr f p vs ds K D R
  |none=>
   rw[U,I];cases hF:(oO (E.fs.get f) fun x=>x) with
   |none=>exact⟨fun x h=>(by cases h),fun x N' H' h=>(by cases h)⟩
   |some F=>
    obtain⟨y,K,R⟩:=aC hF;subst R;obtain⟨pu,m,fn,h3,h4,h5⟩:=J.fs f F K;exact zQ u (uk u J d) h3 h4 h5 D W hL
end
section
variable {β:Type}
def aLm (x:AV) (f:Nat->Option β):Option β:=@AV.rec (fun _=>Option β) (fun _=>none) (fun _ _=>none) f (fun _ _=>none) (fun _ _ _ _ _ _=>none) (f 0) none none (fun _=>none) (fun _ _ _ _=>none) x
def aZ (s x:AV) (f:Int->Option β):Option β:=aB s fun b=>aLm x fun n=>@Bool.rec (fun _=>Option β) (f (.ofNat n)) (@Nat.rec (fun _=>Option β) none (fun m _=>f (.negSucc m)) n) b
def aF (x:AV) (y:Option β):Option β:=aB x fun b=>@Bool.rec (fun _=>Option β) y none b
def rCc (r:Rp) (f:AV->Option β):Option β:=@Rp.rec (fun _=>Option β) none f (fun _ _ _ _ _ _=>none) r
def r2 (r:Rp) (f:AV->AV->Option β):Option β:=@Rp.rec (fun _=>Option β) none (fun _=>none) (fun _ _ l r _ _=>rCc l fun x=>rCc r fun y=>f x y) r
end
def c2 (r:Rp):Option (AV×AV):=@Option.rec (AV×AV) (fun _=>Option (AV×AV)) (oO (qw r 0) fun x=>oO (qw r 1) fun y=>some (x,y)) some (r2 r fun x y=>some (x,y))
def c4f (r:Rp):Option (AV×AV×AV×AV):=@Rp.rec (fun _=>Option (AV×AV×AV×AV)) none (fun _=>none) (fun _ _ l r _ _=>r2 l fun s x=>r2 r fun t y=>some (s,x,t,y)) r
def c4 (r:Rp):Option (AV×AV×AV×AV):=@Option.rec (AV×AV×AV×AV) (fun _=>Option (AV×AV×AV×AV)) (oO (qw r 0) fun x=>oO (qw r 1) fun y=>oO (qw r 2) fun t=>oO (qw r 3) fun w=>some (x,y,t,w)) some (c4f r)
def XU (n:Nat):Bool:=Nat.blt n 1000000000000000000000000000000000000000000000000000000000000000000000000
def dZ {β:Type}(v:XV) (f:Int->Option β):Option β:=xA v fun n r=>bT (Nat.beq n 2) (oO (c2 r) fun p=>aZ p.1 p.2 fun z=>bT (XU z.natAbs) (f z))
def UM {β:Type}(v:XV) (f:Int->Nat->Option β):Option β:=xA v fun n r=>bT (Nat.beq n 4) (oO (c4 r) fun p=>aZ p.1 p.2.1 fun z=>aF p.2.2.1 (aLm p.2.2.2 fun d=>
 bT (Nat.blt 0 d) (bT (Nat.beq (Nat.gcd z.natAbs d) 1) (bT (XU z.natAbs) (bT (XU d) (f z d))))))
def dW {β:Type}(v:XV) (f:Int->Option β):Option β:=xI v fun k x=>bT (Nat.beq (kN k) 3) (bI (wb x (-9223372036854775808)) none (bI (wb 9223372036854775807 x) none (f x)))
def rZ (z:Int):Rp:=@Int.rec (fun _=>Rp) (fun n=>.n 1 true (.c (.b false)) (.c (.l n))) (fun n=>.n 1 true (.c (.b true)) (.c (.l (Nat.succ n)))) z
def xZ (z:Int):XD:=.a 2 (rZ z)
def xQ (z:Int) (d:Nat):XD:=.a 4 (.n 2 true (rZ z) (.n 1 true (.c (.b false)) (.c (.l d))))
def dvZ (z:Int) (g:Nat):Int:=@Int.rec (fun _=>Int) (fun n=>.ofNat (Nat.div n g)) (fun n=>Int.neg (.ofNat (Nat.div (Nat.succ n) g))) z
def agd (z:Int) (d g:Nat):XD:=xQ (dvZ z g) (Nat.div d g)
def Yt (z:Int) (d:Nat):XD:=agd z d (Nat.gcd z.natAbs d)
def Zk (y z:Int):Int:=@Int.rec (fun _=>Int) (fun _=>z) (fun _=>Int.neg z) y
def xW (n:Int):XD:=.c (.i .i64 n)
def OM (b:Bool):XD:=.c (.b b)
def cmZ (x y:Int):Int:=bI (wb x y) (-1) (bI (wb y x) 1 0)
abbrev sS:=List XV->Option (List XD)
def l1 (f:XV->Option (List XD)):sS:=fun vs=>@List.rec XV (fun _=>Option (List XD)) none (fun v r _=>@List.rec XV (fun _=>Option (List XD)) (f v) (fun _ _ _=>none) r) vs
def l2 (f:XV->XV->Option (List XD)):sS:=fun vs=>@List.rec XV (fun _=>Option (List XD)) none (fun v r _=>@List.rec XV (fun _=>Option (List XD)) none (fun h r2 _=>@List.rec XV (fun _=>Option (List XD)) (f v h) (fun _ _ _=>none) r2) r) vs
def q1 (f:Int->Nat->Option (List XD)):sS:=l1 fun v=>UM v f
def q2 (f:Int->Nat->Int->Nat->Option (List XD)):sS:=l2 fun v h=>UM v fun a b=>UM h fun c d=>f a b c d
def z1 (f:Int->Option (List XD)):sS:=l1 fun v=>dZ v f
def z2 (f:Int->Int->Option (List XD)):sS:=l2 fun v h=>dZ v fun a=>dZ h fun b=>f a b
def w1 (f:Int->Option (List XD)):sS:=l1 fun v=>dW v f
def w2 (f:Int->Int->Option (List XD)):sS:=l2 fun v h=>dW v fun a=>dW h fun b=>f a b
def afR (n:Nat) (k:Nat):Nat->Nat:=@Nat.rec (fun _=>Nat->Nat) (fun s=>s) (fun j ih s=>bI (Nat.ble (Nat.mul (Nat.add s (Nat.pow 2 j)) (Nat.add s (Nat.pow 2 j))) n) (ih (Nat.add s (Nat.pow 2 j))) (ih s)) k
def sqT (n s:Nat) (f:Nat->Option (List XD)):Option (List XD):=bT (Nat.ble (Nat.mul s s) n) (bT (Nat.blt n (Nat.mul (Nat.succ s) (Nat.succ s))) (f s))
def YT (n:Nat) (f:Nat->Option (List XD)):Option (List XD):=sqT n (afR n (Nat.succ (Nat.div (Nat.log2 n) 2)) 0) f
def sqZ (z:Int) (f:Nat->Option (List XD)):Option (List XD):=@Int.rec (fun _=>Option (List XD)) (fun n=>YT n f) (fun _=>none) z
def Qc:sS:=q2 fun a b c d=>some [Yt (Int.add (Int.mul a d) (Int.mul c b)) (Nat.mul b d)]
def PD:sS:=q2 fun a b c d=>some [Yt (Int.sub (Int.mul a d) (Int.mul c b)) (Nat.mul b d)]
def QM:sS:=q2 fun a b c d=>some [Yt (Int.mul a c) (Nat.mul b d)]
def Q5:sS:=q2 fun a b c d=>bI (JB c 0) none (some [Yt (Zk c (Int.mul a d)) (Nat.mul b c.natAbs),xW 0])
def Rt:sS:=q1 fun a b=>some [xQ (Int.neg a) b]
def Py:sS:=q2 fun a b c d=>some [xW (cmZ (Int.mul a d) (Int.mul c b))]
def KM:sS:=q1 fun a _=>some [xW (cmZ a 0)]
def JE:sS:=w1 fun a=>some [xQ a 1]
def LS:sS:=q1 fun a b=>some [xZ (@Int.rec (fun _=>Int) (fun n=>.ofNat (Nat.div n b)) (fun n=>.negSucc (Nat.div n b)) a)]
def Pu:sS:=z2 fun a b=>bI (JB b 0) none (some [Yt (Zk b a) b.natAbs,xW 0])
def Pw:sS:=w2 fun a b=>bI (JB b 0) none (some [Yt (Zk b a) b.natAbs])
def Uj (z w:Int):XD:=.a 4 (.n 2 true (rZ z) (rZ w))
def JO:sS:=q1 fun a b=>@Int.rec (fun _=>Option (List XD)) (fun n=>YT n fun s=>YT b fun t=>bI (bA (Nat.beq (Nat.mul s s) n) (Nat.beq (Nat.mul t t) b)) (some [Uj s t,OM true]) (some [Uj 0 0,OM false])) (fun _=>some [Uj 0 0,OM false]) a
def MV:sS:=q1 fun _ _=>some [OM true]
def S4:sS:=z1 fun a=>some [xW (cmZ a 0)]
def XS:sS:=z2 fun a b=>some [xW (cmZ a b)]
def RH:sS:=w1 fun a=>some [xZ a]
def X2:sS:=z1 fun a=>some [xZ (Int.neg a)]
def YJ:sS:=z2 fun a b=>some [xZ (Int.mul a b)]
def Zd:sS:=z2 fun a b=>some [xZ (Int.add a b)]
def Ib:sS:=z2 fun a b=>bI (JB b 0) none (some [xZ (Int.fdiv a b),xZ (Int.fmod a b),xW 0])
def Zy:sS:=z2 fun a b=>some [xZ (.ofNat (Nat.gcd a.natAbs b.natAbs))]
def PA:sS:=z1 fun a=>sqZ a fun s=>some [xZ (.ofNat s),xW 0]
def Lb:sS:=z1 fun a=>bI (wb a (-9223372036854775808)) none (bI (wb 9223372036854775807 a) none (some [xW a,OM true]))
section
variable {P:Program}
def AC (x:AV) (u:CellD):Prop:= ∀A Z w β v,RdA A Z w β v x->RdC Z w v u
def CA (u:CellD) (x:AV):Prop:= ∀A Z w β v,RdC Z w v u->RdA A Z w β v x
theorem AC.b (b:Bool):AC (.b b) (.b b):=fun A Z w β v h=>by
 cases h with
 |b=>exact .b b
 |f _ _ _ _ u=>cases u
theorem AC.i (k:IntKind) (n:Int):AC (.i k n) (.i k n):=fun A Z w β v h=>by
 cases h with
 |i=>exact .i k n
 |f _ _ _ _ u=>cases u
theorem AC.l (n:Nat):AC (.l n) (cL n):=fun A Z w β v h=>by
 cases h with
 |l _ _ h=>exact h
 |f _ _ _ _ u=>cases u
theorem VU:cL ((0:Nat):Int)=.s 0 []:=by
 have:cX (0:Nat)=[]:=by unfold cX;rfl
 show CellD.s (cX 0).length ((cX 0).map (CellD.i .u32))=_;rw[this];rfl
theorem AC.z:AC .z (cL ((0:Nat):Int)):=fun A Z w β v h=>by
 cases h with
 |z=>rw[VU];exact .s0 none 0 (by omega)
 |f _ _ _ _ u=>cases u
theorem CA.b (b:Bool):CA (.b b) (.b b):=fun A Z w β v h=>by cases h with
 |b=>exact .b b
theorem CA.i (k:IntKind) (n:Int):CA (.i k n) (.i k n):=fun A Z w β v h=>by cases h with
 |i=>exact .i k n
theorem CA.l (n:Nat):CA (cL n) (.l n):=fun _A _Z _w _β v h=>.l v n h
def ACs:List AV->List CellD->Prop
 |[],[]=>True
 |x::xs,u::us=>AC x u/\ACs xs us
 |_,_=>False
def CAs:List CellD->List AV->Prop
 |[],[]=>True
 |u::us,x::xs=>CA u x/\CAs us xs
 |_,_=>False
theorem ACs.reads: ∀ {xs:List AV}{us:List CellD}{vs:List Value},ACs xs us->RdAs A Z w β vs xs->RdCs Z w vs us
 |[],[],vs,_,h=>by have:vs=[]:=F6 h.1;subst this;exact nl
 |x::xs,y::us,[],_,h=>absurd h.1 (by simp)
 |x::xs,y::us,v::vs,hc,h=>by obtain⟨u,D⟩:=h.uncons;exact iM (hc.1 _ _ _ _ _ u) (hc.2.reads D)
 |[],_::_,_,hc,_=>hc.elim
 |_::_,[],_,hc,_=>hc.elim
theorem CAs.len: ∀ {us:List CellD}{xs:List AV},CAs us xs->us.length=xs.length
 |[],[],_=>rfl
 |_::us,_::xs,h=>by simp[h.2.len]
 |[],_::_,h=>h.elim
 |_::_,[],h=>h.elim
theorem CAs.at: ∀ {us:List CellD}{xs:List AV},CAs us xs-> ∀ {j:Nat}{x:AV},xs[j]? =some x-> ∃y,us[j]? =some y/\CA y x
 |[],[],_,j,x,h=>by simp at h
 |y::us,x0::xs,h,0,x,hx=>by simp at hx;subst hx;exact⟨y,rfl,h.1⟩
 |y::us,x0::xs,h,j+1,x,hx=>by simpa using h.2.at (by simpa using hx)
 |[],_::_,h,_,_,_=>h.elim
 |_::_,[],h,_,_,_=>h.elim
theorem CAs.reads {xs:List AV}{vs:List Value}(u:CAs us xs) (h:RdCs Z w vs us):RdAs A Z w β vs xs:=by refine⟨h.1.trans u.len,fun j v x D I=>?_⟩;obtain⟨y,J,K⟩:=u.at I;exact K _ _ _ _ _ (h.2 j v y D J)
def InD (x:XV) (d:D0):Prop:= ∀A Z w β v,RdX2 A Z w β v x->RdV Z w v d
def yD (d:D0) (x:XD):Prop:=BM x/\ ∀A Z w β v,RdV Z w v d->RdD A Z w β v x
def InL:List XV->List D0->Prop
 |[],[]=>True
 |x::xs,u::us=>InD x u/\InL xs us
 |_,_=>False
def OutL:List D0->List XD->Prop
 |[],[]=>True
 |u::us,x::xs=>yD u x/\OutL us xs
 |_,_=>False
theorem InL.reads: ∀ {xs:List XV}{us:List D0}{vs:List Value},InL xs us->Di A Z w β vs xs->RdL Z w vs us
 |[],[],vs,_,h=>by have:vs=[]:=F6 h.1;subst this;exact RdL.nil
 |x::xs,y::us,[],_,h=>absurd h.1 (by simp)
 |x::xs,y::us,v::vs,hc,h=>by exact qG (hc.1 _ _ _ _ _ (h.2 0 v x rfl rfl)) (hc.2.reads ⟨by have:=h.1;simpa using this,fun j u z I D=>h.2 (j+1) u z (by simpa using I) (by simpa using D)⟩)
 |[],_::_,_,hc,_=>hc.elim
 |_::_,[],_,hc,_=>hc.elim
theorem OutL.ok: ∀ {us:List D0}{xs:List XD},OutL us xs-> ∀d∈xs,BM d
 |[],[],_,d,h=>by cases h
 |_::us,x::xs,h,d,u=>by
  rcases dO.1 u with rfl|u;·exact h.1.1
  ·exact h.2.ok d u
 |[],_::_,h,_,_=>h.elim
 |_::_,[],h,_,_=>h.elim
theorem OutL.reads: ∀ {us:List D0}{xs:List XD}{vs:List Value},OutL us xs->RdL Z w vs us->RdDs A Z w β vs xs
 |[],[],vs,_,h=>by have:vs=[]:=F6 h.1;subst this;exact⟨rfl,fun j v d K=>by simp at K⟩
 |y::us,x::xs,[],_,h=>absurd h.1 (by simp)
 |y::us,x::xs,v::vs,hc,h=>by
  obtain⟨R,U⟩:=h.uncons;have J:=hc.2.reads U;refine⟨by simp[J.1],fun j u d I D=>?_⟩;cases j with
  |zero=>simp at I D;subst I D;exact hc.1.2 _ _ _ _ _ R
  |succ j=>simp at I D;exact J.2 j u d I D
 |[],_::_,_,hc,_=>hc.elim
 |_::_,[],_,hc,_=>hc.elim
theorem afM {us:List D0}(u:OutL us xs) (h:Y7 Z w v us):RdX2 A Z w β v (pE xs):=by
 match us,xs,u,h with
 |[d],[x],u,h=>exact yX.2 (u.1.2 _ _ _ _ _ h)
 |[],[],u,h=>
  obtain⟨vs,e,h⟩:=h;exact⟨vs,e,u.reads h⟩
 |d::d'::us,x::x'::xs,u,h=>
  obtain⟨vs,e,h⟩:=h;exact⟨vs,e,u.reads h⟩
 |[],_::_,u,_=>exact u.elim
 |_::_,[],u,_=>exact u.elim
 |[d],x::x'::xs,u,_=>exact u.2.elim
 |d::d'::us,[x],u,_=>exact u.2.elim
theorem qW {f:FuncId}{us rs:List D0}(u:Ok P f us rs) (hi:InL vs us) (D:OutL rs xs):CallP P f vs (pE xs):=by refine⟨u.cal,BP D.ok,fun Z A β args w J I=>?_⟩;refine(u.run Z args w J (hi.reads I)).mono fun e w' h=>?_;obtain⟨v,rfl,K,R⟩:=h;exact⟨v,rfl,fun A' β'=>afM D K,R⟩
theorem Iu {β:Type}{x:AV}{f:Nat->Option β}{y:β}(h:aLm x f=some y): ∃n:Nat,AC x (cL n)/\f n=some y:=by
 cases x with
 |l n=>exact⟨n,AC.l n,h⟩
 |z=>exact⟨0,AC.z,h⟩
 |_=>cases h
theorem Mg {β:Type}{s x:AV}{f:Int->Option β}{y:β}(h:aZ s x f=some y): ∃z:Int,AC s (.b (decide (z<0)))/\AC x (cL z)/\f z=some y:=by
 obtain⟨b,rfl,h⟩:=AW h;obtain⟨n,u,h⟩:=Iu h;cases b with
 |false=>exact⟨(n:Int),by rw[show decide ((n:Int)<0)=false by simp];exact AC.b _,u,h⟩
 |true=>
  cases n with
  |zero=>cases h
  |succ m=>
   refine⟨.negSucc m,by rw[show decide (Int.negSucc m<0)=true from decide_eq_true (BK m)];exact AC.b _,?_,h⟩;have:cL (Int.negSucc m)=cL ((m+1:Nat):Int):=by unfold cL;rfl
   rw[this];exact u
theorem FY {β:Type}{f:AV->AV->Option β}{y:β}(h:r2 r f=some y): ∃a b,r.flat=[a,b]/\f a b=some y:=by
 cases r with
 |n ls pu l r=>
  cases l with
  |c a=>
   cases r with
   |c b=>exact⟨a,b,rfl,h⟩
   |_=>cases h
  |_=>cases h
 |_=>cases h
theorem Wi {p:AV×AV}(R:r.ok) (hl:r.flat.length=2) (h:c2 r=some p):r.flat=[p.1,p.2]:=by
 unfold c2 at h;cases I:(r2 r fun x y=>some (x,y)) with
 |some q=>
  rw[I] at h;injection h with h;subst h;obtain⟨a,b,e,J⟩:=FY I;injection J with J;subst J;exact e
 |none=>
  rw[I] at h;obtain⟨x,u,h⟩:=aC (show(oO (qw r 0) fun x=>oO (qw r 1) fun y=>some (x,y))=some p from h);obtain⟨y,D,h⟩:=aC h;injection h with h;subst h;rw[qE _ _ R] at u D;match K:r.flat,hl with
  |[a,b],_=>rw[K] at u D;simp at u D;rw[u,D]
theorem Xg {p:AV×AV×AV×AV}(W:r.ok) (hl:r.flat.length=4) (h:c4 r=some p):r.flat=[p.1,p.2.1,p.2.2.1,p.2.2.2]:=by
 unfold c4 at h;cases K:c4f r with
 |some q=>
  rw[K] at h;injection h with h;subst h;cases r with
  |n ls pu l r=>
   obtain⟨a,b,e1,h2⟩:=FY (show(r2 l fun s x=>r2 r fun t y=>some (s,x,t,y))=some q from K);obtain⟨c,d,e2,R⟩:=FY h2;injection R with R;subst R;show l.flat++r.flat=_;rw[e1,e2];rfl
  |_=>cases K
 |none=>
  rw[K] at h;obtain⟨x,u,h⟩:=aC (show(oO (qw r 0) fun x=>oO (qw r 1) fun y=>oO (qw r 2) fun t=>oO (qw r 3) fun w=>some (x,y,t,w))=some p from h);obtain⟨y,J,h⟩:=aC h;obtain⟨t,I,h⟩:=aC h;obtain⟨w,D,h⟩:=aC h;injection h with h;subst h;rw[qE _ _ W] at u J I D;match U:r.flat,hl with
  |[a,b,c,d],_=>rw[U] at u J I D;simp at u J I D;rw[u,J,I,D]
theorem inA (h:ACs r.flat us):InD (.a n r) (.a us):=fun A Z w β v u=>by obtain⟨cs,e,D⟩:=u;exact⟨cs,e,h.reads D⟩
theorem E8 {β:Type}{v:XV}{f:Int->Option β}{y:β}(D:Ai v) (h:dZ v f=some y): ∃z:Int,InD v (dI z)/\XU z.natAbs=true/\f z=some y:=by
 cases v with
 |a n r=>
  obtain⟨u,h⟩:=bv (show bT (Nat.beq n 2) (oO (c2 r) fun p=>aZ p.1 p.2 fun z=>bT (XU z.natAbs) (f z))=some y from h);obtain⟨p,I,h⟩:=aC h;obtain⟨z,R,U,h⟩:=Mg h;obtain⟨J,h⟩:=bv h;have u:=fe u;have K:=Wi D.1 (by rw[<-D.2];exact u) I;exact⟨z,inA (by rw[K];exact⟨R,U,trivial⟩),J,h⟩
 |_=>cases h
end
section
variable {P:Program}{g:FuncId}
theorem CR (u:8<=k) {z:Int}(h:XU z.natAbs=true):Sz k z:=by
 have I:z.natAbs<1000000000000000000000000000000000000000000000000000000000000000000000000:=cJ.1 h;have D:=nN u;have e:pw 8=1000000000000000000000000000000000000000000000000000000000000000000000000:=by decide+kernel
 rw[e] at D;exact⟨by omega,by omega⟩
theorem A3 {β:Type}{v:XV}{f:Int->Nat->Option β}{y:β}(D:Ai v) (h:UM v f=some y): ∃x:Rat,InD v (dR x)/\Rz 300 x/\f x.num x.den=some y:=by
 cases v with
 |a n r=>
  obtain⟨u,h⟩:=bv (show bT (Nat.beq n 4) (oO (c4 r) fun p=>aZ p.1 p.2.1 fun z=>aF p.2.2.1 (aLm p.2.2.2 fun d=>
   bT (Nat.blt 0 d) (bT (Nat.beq (Nat.gcd z.natAbs d) 1) (bT (XU z.natAbs) (bT (XU d) (f z d))))))=some y from h)
  obtain⟨p,hp,h⟩:=aC h;obtain⟨z,h1,h2,h⟩:=Mg h;obtain⟨b,hb,h⟩:=AW h;cases b with
  |true=>cases h
  |false=>
   obtain⟨d,W,h⟩:=Iu h;obtain⟨g1,h⟩:=bv h;obtain⟨K,h⟩:=bv h;obtain⟨I,h⟩:=bv h;obtain⟨g4,h⟩:=bv h;have u:=fe u;have J:=Xg D.1 (by rw[<-D.2];exact u) hp;have R:0<d:=cJ.1 g1;have U:Nat.gcd z.natAbs d=1:=fe K;refine⟨⟨z,d,by omega,U⟩,inA (by rw[J];refine⟨h1,h2,?_,W,trivial⟩;rw[hb,show decide (((d:Nat):Int)<0)=false by simp];exact AC.b _),⟨CR (by decide) I,CR (by decide) (by simpa using g4)⟩,h⟩
 |_=>cases h
theorem FD {β:Type}{v:XV}{f:Int->Option β}{y:β}(h:dW v f=some y): ∃x:Int,InD v (.c (.i .i64 x))/\ -9223372036854775808<=x/\x<=9223372036854775807/\f x=some y:=by
 obtain⟨k,x,rfl,U⟩:=mn (show xI v (fun k x=>bT (Nat.beq (kN k) 3) (bI (wb x (-9223372036854775808)) none (bI (wb 9223372036854775807 x) none (f x))))=some y from h);obtain⟨K,u⟩:=bv U;have K:k=.i64:=by cases k<;>first|rfl|cases K
 subst K;cases I:wb x (-9223372036854775808) with
 |true=>rw[I] at u;cases u
 |false=>
  rw[I] at u;have D:bI (wb 9223372036854775807 x) none (f x)=some y:=u;cases J:wb 9223372036854775807 x with
  |true=>rw[J] at D;cases D
  |false=>
   rw[J] at D;rw[mQ] at I J;simp only[decide_eq_false_iff_not] at I J;exact⟨x,fun A Z w β v R=>AC.i _ _ _ _ _ _ _ R,by omega,by omega,D⟩
theorem F9 {f:XV->Option (List XD)}(h:l1 f vs=some ds): ∃v,vs=[v]/\f v=some ds:=by
 match vs,h with
 |[v],h=>exact⟨v,rfl,h⟩
theorem Gw {f:XV->XV->Option (List XD)}(h:l2 f vs=some ds): ∃v r,vs=[v,r]/\f v r=some ds:=by
 match vs,h with
 |[v,r],h=>exact⟨v,r,rfl,h⟩
def kV (P:Program) (g:FuncId) (p:sS):Prop:= ∀vs ds,(∀v∈vs,Ai v)->p vs=some ds->CallP P g vs (pE ds)
theorem GT {f:Int->Nat->Option (List XD)}(h: ∀(x:Rat) ds,Rz 300 x->f x.num x.den=some ds-> ∃rs,Ok P g [dR x] rs/\OutL rs ds):kV P g (q1 f):=fun vs ds u I=>by obtain⟨v,rfl,D⟩:=F9 I;obtain⟨x,J,R,D⟩:=A3 (u v (by simp)) D;obtain⟨rs,K,hl⟩:=h x ds R D;exact qW K ⟨J,trivial⟩ hl
theorem GI {f:Int->Nat->Int->Nat->Option (List XD)}(h: ∀(x y:Rat) ds,Rz 300 x->Rz 300 y->f x.num x.den y.num y.den=some ds-> ∃rs,Ok P g [dR x,dR y] rs/\OutL rs ds):kV P g (q2 f):=fun vs ds u W=>by obtain⟨v,I,rfl,D⟩:=Gw W;obtain⟨x,K,U,D⟩:=A3 (u v (by simp)) D;obtain⟨y,i2,J,D⟩:=A3 (u I (by simp)) D;obtain⟨rs,R,hl⟩:=h x y ds U J D;exact qW R ⟨K,i2,trivial⟩ hl
theorem No {f:Int->Option (List XD)}(h: ∀(x:Int) ds,(∀k,8<=k->Sz k x)->f x=some ds-> ∃rs,Ok P g [dI x] rs/\OutL rs ds):kV P g (z1 f):=fun vs ds u I=>by obtain⟨v,rfl,D⟩:=F9 I;obtain⟨x,J,R,D⟩:=E8 (u v (by simp)) D;obtain⟨rs,K,hl⟩:=h x ds (fun k U=>CR U R) D;exact qW K ⟨J,trivial⟩ hl
theorem EC (h: ∀(x y:Int) ds,(∀k,8<=k->Sz k x)->(∀k,8<=k->Sz k y)->f x y=some ds-> ∃rs,Ok P g [dI x,dI y] rs/\OutL rs ds):kV P g (z2 f):=fun vs ds u hp=>by obtain⟨v,J,rfl,D⟩:=Gw hp;obtain⟨x,R,W,D⟩:=E8 (u v (by simp)) D;obtain⟨y,i2,K,D⟩:=E8 (u J (by simp)) D;obtain⟨rs,U,hl⟩:=h x y ds (fun k I=>CR I W) (fun k I=>CR I K) D;exact qW U ⟨R,i2,trivial⟩ hl
theorem X6 {f:Int->Option (List XD)}(h: ∀(x:Int) ds,-9223372036854775808<=x->x<=9223372036854775807->f x=some ds-> ∃rs,Ok P g [.c (.i .i64 x)] rs/\OutL rs ds):kV P g (w1 f):=fun vs ds I D=>by obtain⟨v,rfl,u⟩:=F9 D;obtain⟨x,J,R,U,u⟩:=FD u;obtain⟨rs,K,hl⟩:=h x ds R U u;exact qW K ⟨J,trivial⟩ hl
theorem aep (h: ∀(x y:Int) ds,-9223372036854775808<=x->x<=9223372036854775807-> -9223372036854775808<=y->y<=9223372036854775807->f x y=some ds-> ∃rs,Ok P g [.c (.i .i64 x),.c (.i .i64 y)] rs/\OutL rs ds):kV P g (w2 f):=fun vs ds U R=>by obtain⟨v,v2,rfl,u⟩:=Gw R;obtain⟨x,J,a1,b1,u⟩:=FD u;obtain⟨y,W,D,I,u⟩:=FD u;obtain⟨rs,K,hl⟩:=h x y ds a1 b1 D I u;exact qW K ⟨J,W,trivial⟩ hl
theorem MD (n:Int):yD (.c (.i .i64 n)) (xW n):=⟨trivial,fun _A _Z _w _β _v h=>CA.i _ _ _ _ _ _ _ h⟩
theorem Jq (b:Bool):yD (.c (.b b)) (OM b):=⟨trivial,fun _A _Z _w _β _v h=>CA.b _ _ _ _ _ _ h⟩
theorem Ga (z:Int):(rZ z).ok/\CAs (cI z) (rZ z).flat/\(rZ z).flat.length=2/\ ∀x∈(rZ z).flat,puA x=true:=by
 cases z with
 |ofNat n=>exact⟨⟨rfl,trivial,trivial,fun _ x h=>by rcases dO.1 h with rfl|h;rfl;rw[nT.1 h];rfl⟩,⟨by rw[show decide (Int.ofNat n<0)=false by simp];exact CA.b _,CA.l n,trivial⟩,rfl,fun x h=>by rcases dO.1 h with rfl|h;rfl;rw[nT.1 h];rfl⟩
 |negSucc n=>exact⟨⟨rfl,trivial,trivial,fun _ x h=>by rcases dO.1 h with rfl|h;rfl;rw[nT.1 h];rfl⟩,⟨by rw[show decide (Int.negSucc n<0)=true from decide_eq_true (BK n)];exact CA.b _,(by
   have:cL (Int.negSucc n)=cL ((n+1:Nat):Int):=by unfold cL;rfl
   rw[this];exact CA.l _),trivial⟩,rfl,fun x h=>by rcases dO.1 h with rfl|h;rfl;rw[nT.1 h];rfl⟩
theorem Yu (J:r.ok) (D:n=r.flat.length) (h:CAs us r.flat):yD (.a us) (.a n r):=⟨⟨J,D⟩,fun A Z w β v u=>by obtain⟨cs,e,I⟩:=u;exact⟨cs,e,h.reads I⟩⟩
theorem zU (z:Int):yD (dI z) (xZ z):=by obtain⟨h,D,u,_⟩:=Ga z;exact Yu h u.symm D
theorem CAs.append: ∀ {us us':List CellD}{xs u:List AV},CAs us xs->CAs us' u->CAs (us++us') (xs++u)
 |[],_,[],_,_,h=>h
 |_::_,_,_::_,_,h,h'=>⟨h.1,h.2.append h'⟩
 |[],_,_::_,_,h,_=>h.elim
 |_::_,_,[],_,h,_=>h.elim
theorem TG (z t:Int):yD (dQ z t) (Uj z t):=by
 obtain⟨K,U,u,W⟩:=Ga z;obtain⟨J,R,D,I⟩:=Ga t;refine Yu (r:=.n 2 true (rZ z) (rZ t)) ⟨u.symm,K,J,fun _ x h=>?_⟩ ?_ (U.append R)
 ·rcases iN.1 h with h|h;·exact W x h
  ·exact I x h
 ·show 4=((rZ z).flat++(rZ t).flat).length;simp[u,D]
theorem T5 {x:Rat}{n:Int}{d:Nat}(u:x.num=n) (h:x.den=d):yD (dR x) (xQ n d):=by subst u h;exact TG x.num (x.den:Int)
theorem aa3 {z:Int}{g:Nat}(u:(g:Int)∣z):dvZ z g=z/g:=by
 cases z with
 |ofNat n=>rfl
 |negSucc n=>
  show-((((n+1)/g:Nat):Int))=_;obtain⟨c,h⟩:=u;by_cases I:g=0;·subst I;simp at h
  ·have D:((n+1:Nat):Int)=g*(-c):=by rw[Int.mul_neg,<-h];rfl
   rw[h,Int.mul_ediv_cancel_left _ (by omega),Int.natCast_ediv,D,Int.mul_ediv_cancel_left _ (by omega),Int.neg_neg]
theorem CC (n:Int) {d:Nat}(h:d≠0):yD (dR (mkRat n d)) (Yt n d):=by
 refine T5 ?_ ?_
 ·rw[Rat.num_mkRat,if_neg h,Nat.gcd_comm];exact(aa3 (Int.ofNat_dvd_left.2 (Nat.gcd_dvd_left _ _))).symm
 ·rw[Rat.den_mkRat,if_neg h,Nat.gcd_comm];rfl
theorem RQ (h: ∀ {x y:Rat},Rz 300 x->Rz 300 y->Ok P g [dR x,dR y] [dR (x+y)]):kV P g Qc:=GI fun x y ds D I u=>by injection u with u;subst u;exact⟨_,h D I,by rw[Rat.add_def'];exact CC _ (Nat.mul_ne_zero x.den_nz y.den_nz),trivial⟩
theorem Sx (h: ∀ {x y:Rat},Rz 300 x->Rz 300 y->Ok P g [dR x,dR y] [dR (x-y)]):kV P g PD:=GI fun x y ds D I u=>by injection u with u;subst u;exact⟨_,h D I,by rw[Rat.sub_def'];exact CC _ (Nat.mul_ne_zero x.den_nz y.den_nz),trivial⟩
theorem RY (h: ∀ {x y:Rat},Rz 300 x->Rz 300 y->Ok P g [dR x,dR y] [dR (x*y)]):kV P g QM:=GI fun x y ds D I u=>by injection u with u;subst u;exact⟨_,h D I,by rw[Rat.mul_def'];exact CC _ (Nat.mul_ne_zero x.den_nz y.den_nz),trivial⟩
theorem SR (h: ∀ {x:Rat},Rz 300 x->Ok P g [dR x] [dR (-x)]):kV P g Rt:=GT fun x ds D u=>by injection u with u;subst u;exact⟨_,h D,T5 rfl rfl,trivial⟩
theorem SL (h: ∀ {x:Rat},Rz 300 x->Ok P g [dR x] [.c (.b true)]):kV P g MV:=GT fun x ds D u=>by injection u with u;subst u;exact⟨_,h D,Jq true,trivial⟩
end
section
variable {P:Program}{g:FuncId}
theorem FU (x y:Int):cmZ x y=dC x y:=by
 unfold cmZ dC;rw[mQ,mQ];by_cases h:x<y;·rw[decide_eq_true h,if_pos h];rfl
 ·rw[decide_eq_false h,if_neg h];by_cases u:y<x;·rw[decide_eq_true u,if_pos u];rfl
  ·rw[decide_eq_false u,if_neg u];rfl
theorem zr {a b:Int}(h:a=b):yD (.c (.i .i64 a)) (xW b):=by subst h;exact MD a
theorem abr {a b:Bool}(h:a=b):yD (.c (.b a)) (OM b):=by subst h;exact Jq a
theorem SD {a b:Int}(h:a=b):yD (dI a) (xZ b):=by subst h;exact zU a
theorem QC (h: ∀ {x y:Rat},Rz 300 x->Rz 300 y->Ok P g [dR x,dR y] [.c (.i .i64 (aJ x y))]):kV P g Py:=GI fun x y ds D I u=>by injection u with u;subst u;exact⟨_,h D I,zr (by rw[FU];exact sB.symm),trivial⟩
theorem Lh (h: ∀ {x:Rat},Ok P g [dR x] [.c (.i .i64 (aJ x 0))]):kV P g KM:=GT fun x ds D u=>by injection u with u;subst u;exact⟨_,h,zr (by rw[FU,<-uz]),trivial⟩
theorem MZ (h: ∀ {n:Int},-9223372036854775808<=n->n<=9223372036854775807->Ok P g [.c (.i .i64 n)] [dR (n:Rat)]):kV P g JE:=X6 fun x ds D I u=>by injection u with u;subst u;exact⟨_,h D I,T5 rfl rfl,trivial⟩
theorem P3 (h: ∀ {x:Int},Ok P g [dI x] [.c (.i .i64 (dC x 0))]):kV P g S4:=No fun x ds D u=>by injection u with u;subst u;exact⟨_,h,zr (FU _ _).symm,trivial⟩
theorem Vt (h: ∀ {x y:Int},Sz 100000000 x->Sz 100000000 y->Ok P g [dI x,dI y] [.c (.i .i64 (dC x y))]):kV P g XS:=EC fun x y ds D I u=>by injection u with u;subst u;exact⟨_,h (D _ (by decide)) (I _ (by decide)),zr (FU _ _).symm,trivial⟩
theorem Tp (h: ∀ {x:Int},-9223372036854775808<=x->x<=9223372036854775807->Ok P g [.c (.i .i64 x)] [dI x]):kV P g RH:=X6 fun x ds D I u=>by injection u with u;subst u;exact⟨_,h D I,zU _,trivial⟩
theorem UD (h: ∀ {x:Int},Sz 100000000 x->Ok P g [dI x] [dI (-x)]):kV P g X2:=No fun x ds D u=>by injection u with u;subst u;exact⟨_,h (D _ (by decide)),zU _,trivial⟩
theorem UG (h: ∀ {x y:Int},Sz 40000000 x->Sz 40000000 y->Ok P g [dI x,dI y] [dI (x*y)]):kV P g YJ:=EC fun x y ds D I u=>by injection u with u;subst u;exact⟨_,h (D _ (by decide)) (I _ (by decide)),zU _,trivial⟩
theorem XA (h: ∀ {x y:Int},Sz 90000000 x->Sz 90000000 y->Ok P g [dI x,dI y] [dI (x+y)]):kV P g Zd:=EC fun x y ds D I u=>by injection u with u;subst u;exact⟨_,h (D _ (by decide)) (I _ (by decide)),zU _,trivial⟩
theorem UL (h: ∀ {x y:Int},Sz 100000 x->Sz 100000 y->Ok P g [dI x,dI y] [dI (Int.gcd x y:Int)]):kV P g Zy:=EC fun x y ds D I u=>by injection u with u;subst u;exact⟨_,h (D _ (by decide)) (I _ (by decide)),zU _,trivial⟩
theorem Ke (h: ∀ {x y:Int},Sz 100000 x->Sz 100000 y->y≠0->Ok P g [dI x,dI y] [dI (x.fdiv y),dI (x.fmod y),.c (.i .i64 0)]):kV P g Ib:=EC fun x y ds J K u=>by
 cases D:JB y 0 with
 |true=>rw[D] at u;cases u
 |false=>
  rw[D] at u;injection u with u;subst u;have I:y≠0:=fun e=>by subst e;cases D
  exact⟨_,h (J _ (by decide)) (K _ (by decide)) I,zU _,zU _,MD 0,trivial⟩
end
section
variable {P:Program}{g:FuncId}
theorem DH (x y:Int):Rat.divInt x y=mkRat (Zk y x) y.natAbs:=by
 cases y with
 |ofNat n=>rfl
 |negSucc n=>exact Rat.normalize_eq_mkRat (num:= -x) (den:=n.succ) (by omega)
theorem Bo (h:JB y 0=false):y≠0:=fun e=>by subst e;cases h
theorem RS {x:Int}(h:y≠0):yD (dR (Rat.divInt x y)) (Yt (Zk y x) y.natAbs):=by rw[DH];exact CC _ (by omega)
theorem UJ (h: ∀ {x y:Int},Sz 999 x->Sz 999 y->y≠0->Ok P g [dI x,dI y] [dR (Rat.divInt x y),.c (.i .i64 0)]):kV P g Pu:=EC fun x y ds I J u=>by
 cases D:JB y 0 with
 |true=>rw[D] at u;cases u
 |false=>
  rw[D] at u;injection u with u;subst u;exact⟨_,h (I _ (by decide)) (J _ (by decide)) (Bo D),RS (Bo D),MD 0,trivial⟩
theorem U6 (h: ∀ {n d:Int},-9223372036854775808<=n->n<=9223372036854775807-> -9223372036854775808<=d->d<=9223372036854775807->d≠0->Ok P g [.c (.i .i64 n),.c (.i .i64 d)] [dR (Rat.divInt n d)]):kV P g Pw:=aep fun x y ds J K I R u=>by
 cases D:JB y 0 with
 |true=>rw[D] at u;cases u
 |false=>
  rw[D] at u;injection u with u;subst u;exact⟨_,h J K I R (Bo D),RS (Bo D),trivial⟩
theorem WA (c a d:Int):Zk c (a*d)=a*Zk c d:=by
 cases c with
 |ofNat n=>rfl
 |negSucc n=>exact(Int.mul_neg a d).symm
theorem aaZ (x y:Rat):x/y=mkRat (Zk y.num (x.num*(y.den:Int))) (x.den*y.num.natAbs):=by rw[Rat.div_def,Rat.inv_def,DH,WA,<-Rat.mkRat_mul_mkRat,Rat.mkRat_self]
theorem Ty (h: ∀ {x y:Rat},Rz 300 x->Rz 300 y->y≠0->Ok P g [dR x,dR y] [dR (x/y),.c (.i .i64 0)]):kV P g Q5:=GI fun x y ds J R u=>by
 cases D:JB y.num 0 with
 |true=>rw[D] at u;cases u
 |false=>
  rw[D] at u;injection u with u;subst u;have K:=Bo D;have I:y≠0:=fun e=>K (by subst e;rfl);exact⟨_,h J R I,by rw[aaZ];exact CC _ (Nat.mul_ne_zero x.den_nz (by omega)),MD 0,trivial⟩
theorem P6 (a:Int) {b:Nat}(h:b≠0):a.fdiv (b:Int)= @Int.rec (fun _=>Int) (fun n=>.ofNat (Nat.div n b)) (fun n=>.negSucc (Nat.div n b)) a:=by
 cases b with
 |zero=>exact absurd rfl h
 |succ b=>
  cases a with
  |ofNat n=>
   cases n with
   |zero=>show(0:Int)=Int.ofNat (0/(b+1));simp
   |succ n=>rfl
  |negSucc n=>rfl
theorem Rl (h: ∀ {x:Rat},Rz 300 x->Ok P g [dR x] [dI (x.num.fdiv (x.den:Int))]):kV P g LS:=GT fun x ds D u=>by injection u with u;subst u;exact⟨_,h D,SD (P6 _ x.den_nz),trivial⟩
end
section
variable {P:Program}{g:FuncId}
theorem CH {f:Nat->Option (List XD)}(h:YT n f=some ds): ∃s:Nat,bp (n:Int)=(s:Int)/\f s=some ds:=by
 unfold YT sqT at h;obtain⟨D,I⟩:=bv h;obtain⟨u,J⟩:=bv I;refine⟨_,pC (by omega) (by omega) ?_ ?_,J⟩;·have:=eQ D;exact_mod_cast this
 ·have:=cJ.1 u;exact_mod_cast this
theorem QQ (h: ∀ {x:Int},Sz 999 x->Ok P g [dI x] [dI (bp x),.c (.i .i64 (if x<0 then 7 else 0))]):kV P g PA:=No fun x ds I D=>by
 cases x with
 |negSucc n=>cases D
 |ofNat n=>
  obtain⟨s,J,u⟩:=CH (show YT n (fun s=>some [xZ (.ofNat s),xW 0])=some ds from D);injection u with u;subst u;exact⟨_,h (I _ (by decide)),SD J,zr (if_neg (by simp)),trivial⟩
theorem L1 {s:Nat}(h:bp (n:Int)=(s:Int)):At (n:Int)=Nat.beq (Nat.mul s s) n:=by
 unfold At;rw[h];cases u:Nat.beq (Nat.mul s s) n with
 |true=>
  have:=fe u;rw[beq_iff_eq];exact_mod_cast this
 |false=>
  have:=Nat.ne_of_beq_eq_false u;rw[beq_eq_false_iff_ne];exact fun e=>this (by exact_mod_cast e)
theorem EV {z t z' h:Int}(u:z=z') (D:t=h):yD (dQ z t) (Uj z' h):=by subst u D;exact TG z t
theorem MM (h: ∀ {x:Rat},Rz 300 x->Ok P g [dR x] [dQ (if jB x then bp x.num else 0) (if jB x then bp (x.den:Int) else 0),.c (.b (jB x))]):kV P g JO:=GT fun x ds U D=>by
 refine⟨_,h U,?_⟩;cases I:x.num with
 |negSucc n=>
  rw[I] at D;have D:some [Uj 0 0,OM false]=some ds:=D;injection D with D;subst D;have hs:jB x=false:=by unfold jB;rw[I,GA (BK n)];rfl
  rw[hs];exact⟨EV (if_neg (by simp)) (if_neg (by simp)),Jq false,trivial⟩
 |ofNat n=>
  rw[I] at D;obtain⟨s,R,W⟩:=CH (show YT n (fun s=>YT x.den fun t=>bI (bA (Nat.beq (Nat.mul s s) n) (Nat.beq (Nat.mul t t) x.den)) (some [Uj s t,OM true]) (some [Uj 0 0,OM false]))=some ds from D);obtain⟨t,K,u⟩:=CH W;have hs:jB x=bA (Nat.beq (Nat.mul s s) n) (Nat.beq (Nat.mul t t) x.den):=by unfold jB;rw[I,show Int.ofNat n=(n:Int) from rfl,L1 R,L1 K];cases Nat.beq (Nat.mul s s) n<;>rfl
  cases J:bA (Nat.beq (Nat.mul s s) n) (Nat.beq (Nat.mul t t) x.den) with
  |true=>
   rw[J] at u hs;have u:some [Uj s t,OM true]=some ds:=u;injection u with u;subst u;rw[hs];exact⟨EV ((if_pos rfl).trans R) ((if_pos rfl).trans K),Jq true,trivial⟩
  |false=>
   rw[J] at u hs;have u:some [Uj 0 0,OM false]=some ds:=u;injection u with u;subst u;rw[hs];exact⟨EV (if_neg (by simp)) (if_neg (by simp)),Jq false,trivial⟩
end
def cF2 (P:Program) (r:Nat×Bool×Nat):Option XF:=match P.funcs[r.1]? with
 |some fn=>cF P r.2.1 r.2.2 fn
 |none=>none
def XP (P:Program) (ps:List (Nat×sS)) (rs:List (Nat×Bool×Nat)):Env:=⟨TW ps,TW (rs.map fun r=>(r.1,cF2 P r))⟩
def PrAll (P:Program):List (Nat×sS)->Prop
 |[]=>True
 |p::r=>kV P p.1 p.2/\PrAll P r
theorem PrAll.get: ∀ {l:List (Nat×sS)},PrAll P l-> ∀ {k:Nat}{p:sS},(k,p)∈l->kV P k p
 |[],_,_,_,h=>by cases h
 |q::r,hl,k,p,h=>by
  rcases dO.1 h with e|h
  ·have u:=hl.1;rw[<-e] at u;exact u
  ·exact hl.2.get h
theorem PU {ps:List (Nat×sS)}{rs:List (Nat×Bool×Nat)}(hp:PrAll P ps) (U:(rs.all fun r=>fv P r.1)=true):EnvOk P (XP P ps rs):=by
 refine⟨fun g p vs ds D K W=>hp.get (CM ps g D) vs ds K W,fun g F D=>?_⟩;have hm:=CM _ g D;obtain⟨r,R,e⟩:=nC.1 hm;injection e with J h;have u:fv P g=true:=by rw[<-J];exact lj.1 U r R
 unfold cF2 at h;rw[J] at h;cases I:P.funcs[g]? with
 |none=>rw[I] at h;cases h
 |some fn=>rw[I] at h;exact⟨r.2.1,r.2.2,fn,h,rfl,u⟩
structure Mm where
 g:Nat
 ns:List Int
 N:Nat
 H:Tr Bx
 x:XV
 N':Nat
 H':Tr Bx
def Np:List Int->List XV
 |[]=>[]
 |n::ns=>.c (.i .i64 n)::Np ns
def wEq (n:Int):XV->Bool
 | .c (.i k i)=>Nat.beq (kN k) 3&&JB n i
 |_=>false
def aav (h:List Int):List XV->Bool:=@List.rec Int (fun _=>List XV->Bool) (fun vs=>@List.rec XV (fun _=>Bool) true (fun _ _ _=>false) vs) (fun n _ ih vs=>@List.rec XV (fun _=>Bool) false (fun v vs _=>bA (wEq n v) (ih vs)) vs) h
def Wo (H:Tr Bx):Tr Bx->Bool:=@Tr.rec Bx (fun _=>Tr Bx->Bool) (fun K=>@Tr.rec Bx (fun _=>Bool) true (fun _ _ _ _ _=>false) K) (fun _ v _ D h K=>@Tr.rec Bx (fun _=>Bool) false (fun I u J _ _=>bA (D I) (bA (Dp v u) (h J))) K) H
theorem aaw {n:Int}{v:XV}(h:wEq n v=true):v=.c (.i .i64 n):=by
 unfold wEq at h;split at h
 ·rename_i k i;rw[de] at h;have D:k=.i64:=by cases k<;>first|rfl|exact absurd h.1 (by decide)
  have u:=h.2;rw[Cd] at u;have I:n=i:=by simpa using u
  rw[D,I]
 ·cases h
theorem K6: ∀ {u:List Int}{vs:List XV},aav u vs=true->vs=Np u
 |[],[],_=>rfl
 |n::u,v::vs,h=>by have h:=ob (show bA (wEq n v) (aav u vs)=true from h);rw[aaw h.1,K6 h.2];rfl
 |[],_::_,h=>by cases h
 |_::_,[],h=>by cases h
theorem Fk: ∀ {H K:Tr Bx},Wo H K=true-> ∀k,Dp (H.get k) (K.get k)=true
 | .e,.e,_,k=>rfl
 | .n l v r,.n l' v' r',h,k=>by
   obtain⟨u,D⟩:=ob (show bA (Wo l l') (bA (Dp v v') (Wo r r'))=true from h);obtain⟨I,J⟩:=ob D;show Dp (@Bool.rec (fun _=>Option Bx) (@Bool.rec (fun _=>Option Bx) (r.get (Nat.div k 2)) (l.get (Nat.div k 2)) (Nat.beq (Nat.mod k 2) 1)) v (Nat.beq k 0)) (@Bool.rec (fun _=>Option Bx) (@Bool.rec (fun _=>Option Bx) (r'.get (Nat.div k 2)) (l'.get (Nat.div k 2)) (Nat.beq (Nat.mod k 2) 1)) v' (Nat.beq k 0))=true;cases Nat.beq k 0 with
   |true=>exact I
   |false=>
    cases Nat.beq (Nat.mod k 2) 1 with
    |true=>exact Fk u _
    |false=>exact Fk J _
 | .e,.n _ _ _,h,_=>by cases h
 | .n _ _ _,.e,h,_=>by cases h
def aaT (m:Mm) (g:Nat) (vs:List XV) (N:Nat) (H:Tr Bx):Bool:=bA (Nat.beq m.g g) (bA (aav m.ns vs) (bA (Nat.beq m.N N) (Wo m.H H)))
def HK (ms:List Mm) (g:Nat) (vs:List XV) (N:Nat) (H:Tr Bx):Option Cr:=@List.rec Mm (fun _=>Option Cr) none (fun m _ ih=>@Bool.rec (fun _=>Option Cr) ih (some (.h m.x m.N' m.H')) (aaT m g vs N H)) ms
def LO (E:Env) (fuel:Nat) (ih:fF):fF:=fun g vs N H=>
 @Option.rec (List XD) (fun _=>Cr) (@Option.rec XF (fun _=>Cr) .no (fun F=>zT F ih fuel vs N H) (oO (E.fs.get g) fun x=>x)) (fun ds=>.p (pE ds)) (oO (E.pr.get g) fun p=>p vs)
def M5 (E:Env) (ms:List Mm) (fuel depth:Nat):fF:=
 @Nat.rec (fun _=>fF) (fun _ _ _ _=>.no) (fun _ ih g vs N H=>@Option.rec Cr (fun _=>Cr) (LO E fuel ih g vs N H) (fun c=>c) (HK ms g vs N H)) depth
section
variable {P:Program}
def Wv (P:Program) (ms:List Mm):Prop:= ∀m∈ms,CallH P m.g (Np m.ns) m.N m.H m.x m.N' m.H'
theorem IX (D:P.follows .mixedOrders=true) (W:EnvOk P E) (I:jK P ih):jK P (LO E fuel ih):=fun f vs N H u hO hL=>by
 have U:LO E fuel ih f vs N H= @Option.rec (List XD) (fun _=>Cr) (@Option.rec XF (fun _=>Cr) .no (fun F=>zT F ih fuel vs N H) (oO (E.fs.get f) fun x=>x)) (fun ds=>.p (pE ds)) (oO (E.pr.get f) fun p=>p vs):=rfl;cases J:(oO (E.pr.get f) fun p=>p vs) with
 |some ds=>
  rw[U,J];obtain⟨p,K,R⟩:=aC J;refine⟨fun x h=>?_,fun x N' H' h=>(by cases h)⟩;injection h with h;subst h;exact W.pr f p vs ds K u R
 |none=>
  rw[U,J];cases hF:(oO (E.fs.get f) fun x=>x) with
  |none=>exact⟨fun x h=>(by cases h),fun x N' H' h=>(by cases h)⟩
  |some F=>
   obtain⟨y,K,R⟩:=aC hF;subst R;obtain⟨pu,m,fn,h3,h4,h5⟩:=W.fs f F K;exact zQ D I h3 h4 h5 u hO hL
theorem CallH.same {f:FuncId}{K:Tr Bx}(h:CallH P f vs N H x N' H') (e:HS H=HS K):CallH P f vs N K x N' H':=by obtain⟨J,R,D,U,I,u⟩:=h;rw[e] at u;exact⟨J,R,D,U,I,u⟩
theorem Kj {ms:List Mm}(R:Wv P ms) {g:Nat}{c:Cr}(h:HK ms g vs N H=some c): ∃x N' H',c=.h x N' H'/\CallH P g vs N H x N' H':=by
 induction ms with
 |nil=>cases h
 |cons m ms ih=>
  have u: @Bool.rec (fun _=>Option Cr) (HK ms g vs N H) (some (.h m.x m.N' m.H')) (aaT m g vs N H)=some c:=h;clear h;cases D:aaT m g vs N H with
  |false=>rw[D] at u;exact ih (fun W U=>R W (gF _ U)) u
  |true=>
   rw[D] at u;have I:some (Cr.h m.x m.N' m.H')=some c:=u;injection I with J;obtain⟨q1,q2⟩:=ob D;obtain⟨q3,q4⟩:=ob q2;obtain⟨K,q6⟩:=ob q4;have q1:=fe q1;have K:=fe K;subst q1 K;rw[K6 q3];exact⟨_,_,_,J.symm,(R m (f7 ..)).same (funext fun k=>FB (Fk q6 k))⟩
theorem zV (u:P.follows .mixedOrders=true) {E:Env}(J:EnvOk P E) {ms:List Mm}(I:Wv P ms) {fuel:Nat}: ∀depth,jK P (M5 E ms fuel depth)
 |0=>fun f vs N H _ _ _=>⟨fun x h=>(by cases h),fun x N' H' h=>(by cases h)⟩
 |d+1=>fun f vs N H D R hL=>by
  have e1:M5 E ms fuel (d+1) f vs N H= @Option.rec Cr (fun _=>Cr) (LO E fuel (M5 E ms fuel d) f vs N H) (fun c=>c) (HK ms f vs N H):=rfl;rw[e1];cases W:HK ms f vs N H with
  |none=>exact IX u J (zV u J I d) f vs N H D R hL
  |some c=>
   obtain⟨x,N',H',rfl,hc⟩:=Kj I W;refine⟨fun y h=>(by cases h),fun y M K h=>?_⟩;injection h with h1 h2 U;subst h1 h2 U;exact hc
def XK (H:Tr Bx) (ks:List Nat):Option (List Bx):=@List.rec Nat (fun _=>Option (List Bx)) (some []) (fun k _ ih=>oO (H.get k) fun b=>oO ih fun h=>some (b::h)) ks
def crP (c:Cr) (ks:List Nat):Option (XV×Nat×List Bx):=@Cr.rec (fun _=>Option (XV×Nat×List Bx)) none (fun _=>none) (fun x N H=>oO (XK H ks) fun h=>some (x,N,h)) c
def x4:List Nat->List Bx->Tr Bx
 |k::ks,b::bs=>(x4 ks bs).set b k
 |_,_=>.e
theorem D6 {H:Tr Bx}: ∀ {ks:List Nat}{u:List Bx},XK H ks=some u-> ∀k b,(x4 ks u).get k=some b->H.get k=some b
 |[],u,h,k,b,hk=>by injection h with h;subst h;cases hk
 |k0::ks,u,h,k,b,hk=>by
  obtain⟨b0,R,W⟩:=aC (show oO (H.get k0) (fun b=>oO (XK H ks) fun u=>some (b::u))=some u from h);obtain⟨D,K,J⟩:=aC W;injection J with J;subst J;rcases Tr.set_get (x4 ks D) k0 k hk with⟨U,I⟩|⟨_,I⟩;·rw[U,I];exact R
  ·exact D6 K k b I
theorem Ms (hc:jK P call) {f:FuncId}{I:List Bx}(a1: ∀v∈vs,Ai v) (hO:jp H) (hL:jx N H) (h:crP (call f vs N H) ks=some (x,N',I)):
 CallH P f vs N H x N' (x4 ks I):=by
 cases J:call f vs N H with
 |no=>rw[J] at h;cases h
 |p y=>rw[J] at h;cases h
 |h y M K=>
  rw[J] at h
  obtain⟨D,h1,W⟩:=aC (show oO (XK K ks) (fun I=>some (y,M,I))=some (x,N',I) from h)
  injection W with W
  injection W with h3 R
  injection R with R h5
  subst h3 R h5
  have U:=D6 h1
  have hs: ∀k c,HS (x4 ks D) k=some c->HS K k=some c:=by
   intro k c u;unfold HS at u⊢;cases h9:(x4 ks D).get k with
   |none=>rw[h9] at u;cases u
   |some b=>rw[h9] at u;rw[U k b h9];exact u
  obtain⟨q1,q2,q3,q4,q5,q6⟩:=(hc f vs N H a1 hO hL).2 _ _ _ J
  refine⟨q1,q2,q3,fun k b u=>q4 k b (U k b u),fun k b u=>q5 k b (U k b u),fun V A β args w hA hm hx=>?_⟩
  refine(q6 V A β args w hA hm hx).mono fun e w' ⟨v,A',β',e1,e2,e3,e4,e5,e6⟩=>?_
  have a0:Keep (Zs V (HS K) β') (Zs V (HS (x4 ks D)) β') w' w':=⟨Nat.le_refl _,fun _ _ _=>rfl,fun b _ hb=>hb.imp id fun⟨k,u,e⟩=>⟨k,(by
   cases q:HS (x4 ks D) k with
   |none=>exact absurd q u
   |some c=>rw[hs k c q];simp),e⟩⟩
  exact⟨v,A',β',e1,e2,e3,e4.sub hs,e5.less hs,e6.mono a0 (fun _ h=>h) (fun _ _=>rfl)⟩
theorem Gg: ∀ {u:List Int}(v:XV),v∈Np u->Ai v
 |[],v,h=>by cases h
 |n::u,v,h=>by
  rcases dO.1 h with rfl|h;·trivial
  ·exact Gg v h
theorem On {ms:List Mm}(u:P.follows .mixedOrders=true) (hE:EnvOk P E) (hm:Wv P ms) {depth f:Nat}{v:Bool}(h:M5 E ms fuel depth f [] 0 .e=.p (.c (.b v))):Ok P f [] [.c (.b v)]:=by have J:=((zV u hE hm depth) f [] 0 .e (fun v D=>by cases D) FL FI).1 _ h;refine⟨J.cal,fun av vs w I W=>?_⟩;have U:vs.toList=[]:=F6 W.1;refine(J.run av (fun _=>False) (fun _=>⟨0,0⟩) vs w I (by rw[U];exact⟨rfl,fun j v x D=>by simp at D⟩)).mono fun e w' ⟨K,h1,h2,R⟩=>?_;refine⟨K,h1,?_,R⟩;have h4:RdA (fun _=>False) av w' (fun _=>⟨0,0⟩) K (.b v):=h2 _ _;exact AC.b v _ _ _ _ _ h4
end
section
variable {P:Program}{g:FuncId}
theorem Tx (h: ∀ {x:Int},Sz 100000000 x->Ok P g [dI x] [.c (.i .i64 (if t8 x then x else 0)),.c (.b (t8 x))]):kV P g Lb:=No fun x ds K u=>by
 have u:bI (wb x (-9223372036854775808)) none (bI (wb 9223372036854775807 x) none (some [xW x,OM true]))=some ds:=u;rw[ig,ig,mQ,mQ] at u;by_cases D:x< -9223372036854775808;·rw[decide_eq_true D,if_pos rfl] at u;cases u
 ·rw[decide_eq_false D,if_neg (by decide)] at u;by_cases I:9223372036854775807<x;·rw[decide_eq_true I,if_pos rfl] at u;cases u
  ·rw[decide_eq_false I,if_neg (by decide)] at u;injection u with u;subst u;have J:=Kz D I;exact⟨_,h (K _ (by decide)),zr (by rw[J];exact if_pos rfl),abr J,trivial⟩
end
end
end Go.Proofs.YtegeknjkgadehaaGreat
