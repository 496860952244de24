/-A run on known values:a region whose order is open,as code. -/
import Derived.Test.YtegeknjkgadehaaGreatTqW
import Derived.LoopN
namespace Go.Proofs.YtegeknjkgadehaaGreat
open Go Go.RowKit
section
noncomputable section
variable {c:(Exit->Act->World->Prop)->Act->World->Prop}{a:Act}{args:Array Value}{pu:Bool}{E:Env}{e e':Exit}{fn:Func}{fid g:FuncId}{y:Int}{f:Int->Int->Option (List XD)}{us:List CellD}{ks ms:List Nat}{ds xs:List XD}{vs:List XV}{N N' et j k n t:Nat}{β β':Nat->Pl}{A A' V Z Z':Nat->Prop}{P:Program}{r:Rp}{H H' H1:Tr Bx}{T T' T1:Tr XV}{v:Value}{w:World}{d:XD}{F:XF}{x:XV}{call ih:fV}
theorem Hg:type_of% @List.eq_nil_of_length_eq_zero:=@List.eq_nil_of_length_eq_zero
section
variable {P:Program}{eO:Array Oper}{n m N:Nat}{T:Tr XV}{H:Tr Bx}{call:fV}
theorem E7: ∀ {ms:List Nat}{l:List Oper}{J:List XJ},vb P n m eO ms l=some J->ms.length=l.length-> ∀o∈l,∃x,Xc P n m eO o=some x
 |_,[],_,_,_,o,D=>by cases D
 |[],_::_,_,_,hl,o,D=>by simp at hl
 |mk::ms,o'::l,J,h,hl,o,D=>by
  unfold vb at h;split at h;·cases h
  .rename_i x R;split at h;·cases h
   .rename_i xs I;rcases dt.1 D with rfl|D;·exact⟨x,R⟩
    .exact E7 I (by simpa using hl) o D
theorem Cn {d:Option Nat}{l:List Nat}(h:MC d l=false): ∀t,d=some t->t∉l:=by intro t D hm;subst D;have:l.any (Nat.beq t)=true:=jO.2 hm;rw[show MC (some t) l=l.any (Nat.beq t) from rfl,this] at h;grind
theorem Ug {l:List Oper}{i:Nat}{q:Oper}(h:unB eO ms l i=true) (I:l[i]? =some q):(∀j∈bP q,j<i)/\ ∀j p,j<i->(ms.getD i 0).testBit j=false->l[j]? =some p->VO eO p q=true:=by unfold unB at h;rw[I] at h;rw[di] at h;refine⟨fun j D=>dj.1 (mJ.1 h.1 j D),fun j p J W R=>?_⟩;grind
theorem Fq (c6:P.follows .mixedOrders=true) (b4:jU P call) (c5:(List.range eO.size).all (unB eO (ol eO.toList) eO.toList)=true) {js:List XJ}(hw:vb P n m eO (ol eO.toList) eO.toList=some js) (hT:l6 (TS m [] T)) (hO:jJ H) (hL:jN N H) (hr:FP call js 0 [] T N H [] []≠ .no) {Q:Exit->Act->World->Prop}{id:Nat}:∃T' N' H',FP call js 0 [] T N H [] []=.n T' N' H'/\N<=N'/\l6 (TS m [] T')/\jJ H'/\jN N' H'/\ ∀V A β a w,(∀k,A k-> ¬(N<=k/\k<N'))->StX V A n (TS m [] T) (HS H) β a w-> (∀a' w',Ends P n m V A N (HS H) β w N' (TS m [] T') (HS H') a' w'->Q .normal a' w')->(Code.region id eO true).wp P Q a w:=by
 obtain⟨hM,a5⟩:=BV (eO:=eO) eO.toList [] (fun k hk=>by simp) (fun i mk h=>by simp at h)
 have a5:(ol eO.toList).length=eO.toList.length:=by rw[show(ol eO.toList).length=_ from a5];simp
 have d3:InvD P eO (TS m [] T) (HS H) N [] N:=⟨fun j p h=>by simp at h,fun j p h=>by simp at h,fun j i p q _ h=>by simp at h,fun j i p q _ _ h=>by simp at h⟩
 obtain⟨D,T',N',H',e1,k1,k2,k3,k4,k5,k6,k7,k8⟩:=B7 b4 eO.toList (ol eO.toList) js [] [] T N H [] [] hw a5 (fun k _=>by simp) rfl hT hO hL (bk _) d3
  (fun t y h=>h) (fun k c h=>h) (fun j p h=>by simp at h) hr
 refine⟨T',N',H',e1,k1,k4,k5,k6,fun V A β a w hA a4 hQ=>?_⟩
 have d4:D.length=eO.size:=by have:=congrArg List.length k3;simpa using this
 have b7: ∀ {i:Nat}{o:Oper}{e:Evt},eO[i]? =some o->(D.map Prod.snd)[i]? =some e->D[i]? =some (o,e):=by
  intro i o e ho J;have h1:(D.map Prod.fst)[i]? =some o:=by rw[k3,mW];exact ho
  rw[pU] at h1 J;cases hf:D[i]? with
  |none=>rw[hf] at J;cases J
  |some p=>rw[hf] at h1 J;injection h1 with h1;injection J with J;rw[<-h1,<-J]
 have I: ∀ {i:Nat}{e:Evt},(D.map Prod.snd)[i]? =some e-> ∃o,D[i]? =some (o,e):=by
  intro i e J;rw[pU] at J;cases hf:D[i]? with
  |none=>rw[hf] at J;cases J
  |some p=>rw[hf] at J;injection J with J;exact⟨p.1,by rw[<-J]⟩
 have hU:wM eO.toList (D.map Prod.snd)=D.map fun p=>Sy p.1.dst p.2:=by rw[<-k3];exact Ep (fun(o:Oper) e=>Sy o.dst e) D
 have hV:BC (D.map Prod.snd)=D.map fun p=>uH p.2:=by unfold BC;rw[List.map_map];rfl
 have d2: ∀i,iq (fun j=>decide (j<i)) 0 (wM eO.toList (D.map Prod.snd)) (TS m [] T)=fT (D.take i) (TS m [] T):=fun i=>by rw[hU,CT,<-List.map_take,Up]
 have d7: ∀i,iq (fun j=>decide (j<i)) 0 (BC (D.map Prod.snd)) (HS H)=fH (D.take i) (HS H):=fun i=>by
  rw[hV,CT,<-List.map_take];refine Q8 _ _ (fun j p hj k c hk=>?_);have W:j<i:=by have:=(fM.1 hj).1;simp at this;omega
  rw[kS,if_pos W] at hj;obtain⟨_,_,_,h3⟩:=k2.all j p hj;rw[xk,jh (xl W)];exact h3 k c hk
 have e3:iq (fun _=>true) 0 (wM eO.toList (D.map Prod.snd)) (TS m [] T)=fT D (TS m [] T):=by rw[hU,Gd,Up]
 have c3:iq (fun _=>true) 0 (BC (D.map Prod.snd)) (HS H)=fH D (HS H):=by rw[hV,Gd];refine Q8 _ _ (fun j p hj k c hk=>?_);obtain⟨_,_,_,h3⟩:=k2.all j p hj;exact h3 k c hk
 have b6: ∀ {i:Nat}{o:Oper},eO[i]? =some o->(∀j∈bP o,j<i)/\ ∀j p,j<i->((ol eO.toList).getD i 0).testBit j=false->eO.toList[j]? =some p->VO eO p o=true:=fun{i o} ho=>by exact Ug (mJ.1 c5 i (qE.2 ((lH.1 ho).1))) (by rw[mW];exact ho)
 refine wp_region_any c6 ?_
 have e2:StX V A n (TS m [] T) (HS H) β a w.drew:=by refine⟨IS a4.mem,a4.dfr,a4.siz,fun t x ht=>?_⟩;obtain⟨v,e,hr⟩:=a4.tmp t x ht;have d5:Keep (Zs V (HS H) β) (Zs V (HS H) β) w w.drew:=⟨Nat.le_refl _,fun _ _ _=>rfl,fun _ _ h=>h⟩;exact⟨v,e,hr.mono d5 (fun _ h=>h) (fun _ _=>rfl)⟩
 have R: ∀j,(Array.replicate eO.size false).getD j false=false:=fun j=>by simp[Array.getD]
 have e4:iq (fun j=>(Array.replicate eO.size false).getD j false) 0 (wM eO.toList (D.map Prod.snd)) (TS m [] T)=TS m [] T:=funext fun t=>iV _ _ _ fun j u _ hm=>by rw[R] at hm;cases hm
 have c7:iq (fun j=>(Array.replicate eO.size false).getD j false) 0 (BC (D.map Prod.snd)) (HS H)=HS H:=funext fun t=>iV _ _ _ fun j u _ hm=>by rw[R] at hm;cases hm
 refine OY (V:=V) (n:=n) (fun i o j ho hj=>(b6 ho).1 j hj) (fun i o t ho ht=>?_) (PM eO) (fun j i hp=>?_) (fun j i oj oi W b5 c8 d6=>?_) (es:=D.map Prod.snd) (by simp[d4]) (T0:=TS m [] T) (H0:=HS H) (β0:=β) (w0:=w)
  (fun i o e ho J=>?_) (fun i e J=>?_) (fun j i ej ei W a9 b3=>?_) (fun j i ej ei W b5 a9 b3=>?_) k1 hA (fun A' β' a' w' h1 h2 h3 h4=>?_) eO.size (Array.replicate eO.size false) A β a w.drew (by simp) (by unfold Lq;refine gG List.countP_le_length ?_;simp) (fun i o j hi=>by rw[R] at hi;cases hi) (fun _ h=>h) (fun _ h=>.inl h) ?_ ?_
 .obtain⟨x,hx⟩:=E7 hw a5 o (tz.2 (Array.mem_of_getElem? ho))
  exact(JC hx).1 t ht
 .unfold PM at hp
  cases hq:(ol eO.toList)[i]? with
  |none=>rw[BW,hq] at hp;simp at hp
  |some mk=>rw[BW,hq] at hp;exact hM i mk hq j hp
 .have hb:((ol eO.toList).getD i 0).testBit j=false:=by
   cases hb:((ol eO.toList).getD i 0).testBit j with
   |false=>rfl
   |true=>exact absurd hb b5
  have a3:=(b6 d6).2 j oj W hb (by rw[mW];exact c8)
  unfold VO at a3
  simp only[di,uP] at a3
  obtain⟨⟨h1,h2⟩,h3⟩:=a3
  refine⟨fun d hd=>⟨Cn h1 d hd,fun J=>?_⟩,fun d hd=>Cn h2 d hd⟩
  rw[hd,J] at h3
  have h3:Nat.beq d d=false:=h3
  rw[tN] at h3;cases h3
 .obtain⟨Tl,g1,g2,g3⟩:=k2.all i (o,e) (b7 ho J)
  exact⟨Tl,g1,fun t x _ hx=>by rw[d2];exact g2 t x hx,fun k c hk=>by rw[d7];exact g3 k c hk⟩
 .obtain⟨o,ho⟩:=I J
  have:=k2.nm i (o,e) ho
  grind
 .obtain⟨o,ho⟩:=I a9
  obtain⟨o2,a6⟩:=I b3
  exact k2.mono j i _ _ W ho a6
 .obtain⟨o,ho⟩:=I a9
  obtain⟨o2,a6⟩:=I b3
  exact k2.con j i _ _ W b5 ho a6
 .rw[c3] at h3
  rw[e3,c3] at h4
  exact hQ a' w' ⟨A',β',h1,h2,h3.less k8,h4.less k7 k8⟩
 .rw[c7]
  exact⟨rfl,rfl,rfl,bk _,fun _ _ _=>rfl,fun _ _=>rfl,fun k hk=>.inr ⟨k,hk,rfl⟩,fun _ h=>.inl h⟩
 grind
end
section
variable {P:Program}{n m:Nat}{call:fV}
abbrev Oc:=Exit×Tr XV×Nat×Tr Bx
def Ro.out:Ro->Option Oc
 | .no=>none
 | .n T N H=>some (.normal,T,N,H)
 | .x id T N H=>some (.exit id,T,N,H)
 | .r T N H=>some (.ret,T,N,H)
def Does (P:Program) (n m:Nat) (c:(Exit->Act->World->Prop)->Act->World->Prop) (T:Tr XV) (N:Nat) (H:Tr Bx) (o:Oc):Prop:=
 N<=o.2.2.1/\l6 (TS m [] o.2.1)/\jJ o.2.2.2/\jN o.2.2.1 o.2.2.2/\ ∀Q V A β a w,(∀k,A k-> ¬(N<=k/\k<o.2.2.1))->StX V A n (TS m [] T) (HS H) β a w->
  (∀D w',Ends P n m V A N (HS H) β w o.2.2.1 (TS m [] o.2.1) (HS o.2.2.2) D w'->Q o.1 D w')->c Q a w
def UK (P:Program) (n m:Nat) (c:Code) (run:te):Prop:= ∀call,jU P call-> ∀f T N H o,l6 (TS m [] T)->jJ H->jN N H->(run call f T N H).out=some o->Does P n m (fun Q=>c.wp P Q) T N H o
theorem Ends.refl {T:TX}{H:HF}(h:StX V A n T H β a w):Ends P n m V A N H β w N T H a w:=
 ⟨A,β,fun _ h=>h,fun _ h=>.inl h,Hst.refl,h⟩
theorem Does.skip (W:l6 (TS m [] T)) (I:jJ H) (J:jN N H) (h: ∀Q a w,Q e a w->c Q a w):Does P n m c T N H (e,T,N,H):=
 ⟨Nat.le_refl _,W,I,J,fun Q _V _A _β a w _ D R=>h Q a w (R a w (Ends.refl D))⟩
theorem Does.seq {N1:Nat}{o:Oc}{d b:(Exit->Act->World->Prop)->Act->World->Prop}(h1:Does P n m c T N H (e,T1,N1,H1)) (h2:Does P n m d T1 N1 H1 o) (h: ∀Q a w,(∀J,(∀a' w',d Q a' w'->J e a' w')->c J a w)->b Q a w):Does P n m b T N H o:=by
 obtain⟨I,k2,k3,k4,k5⟩:=h1
 obtain⟨l1,l2,l3,l4,l5⟩:=h2
 refine⟨Nat.le_trans I l1,l2,l3,l4,fun Q V A β a w hA W hQ=>h Q a w fun J a3=>?_⟩
 refine k5 J V A β a w (fun k D hh=>hA k D ⟨hh.1,kW hh.2 l1⟩) W fun a1 w1 ⟨A1,R,f1,f2,f3,f4⟩=>a3 a1 w1 ?_
 refine l5 Q V A1 R a1 w1 (Dv hA f2 I) f4 fun a2 w2 ⟨A2,a4,g1,g2,g3,g4⟩=>?_
 exact hQ a2 w2 ⟨A2,a4,fun k D=>g1 k (f1 k D),fun k D=>Ql f2 I l1 k (g2 k D),(f3.wide (bk _) l1).trans f1 (g3.wide I (bk _)),g4⟩
theorem Does.as {o:Oc}{b:(Exit->Act->World->Prop)->Act->World->Prop}(h1:Does P n m c T N H o) (h: ∀Q a w,(∀I,(∀D w',Q e' D w'->I o.1 D w')->c I a w)->b Q a w):Does P n m b T N H (e',o.2):=by
 obtain⟨W,k2,k3,k4,k5⟩:=h1
 exact⟨W,k2,k3,k4,fun Q V A β a w hA R hQ=>h Q a w fun I J=>k5 I V A β a w hA R fun D w' he=>J D w' (hQ D w' he)⟩
def Vb (c:te) (call:fV) (F:Nat) (g:Nat):Tr XV->Nat->Tr Bx->Ro:=@Nat.rec (fun _=>Tr XV->Nat->Tr Bx->Ro) (fun _ _ _=>.no) (fun _ ih T N H=>@Ro.rec (fun _=>Ro) .no (fun T N H=>ih T N H) (fun id T N H=>.x id T N H) (fun T N H=>.r T N H) (c call F T N H)) g
theorem Dx {c:Code}{run:te}(hc:UK P n m c run) (I:jU P call) {F:Nat}: ∀(g:Nat) (T:Tr XV) (N:Nat) (H:Tr Bx) (o:Oc),l6 (TS m [] T)->jJ H->jN N H->(Vb run call F g T N H).out=some o->Does P n m (fun Q=>Code.rounds P c Q g) T N H o
 |0,T,N,H,o,_,_,_,h=>by cases h
 |g+1,T,N,H,o,hT,hO,hL,h=>by
  have e:Vb run call F (g+1) T N H= @Ro.rec (fun _=>Ro) .no (fun T N H=>Vb run call F g T N H) (fun id T N H=>.x id T N H) (fun T N H=>.r T N H) (run call F T N H):=rfl;rw[e] at h;have D:=hc call I F T N H;cases R:run call F T N H with
  |no=>rw[R] at h;cases h
  |n T1 W H1=>rw[R] at h D;have h1:=D _ hT hO hL rfl;refine h1.seq (Dx hc I g T1 W H1 o h1.2.1 h1.2.2.1 h1.2.2.2.1 h) fun Q a w J=>?_;exact J (Exit.then (Code.rounds P c Q g) Q) fun a' w' h=>h
  |x id T1 W H1=>rw[R] at h D;injection h with h;subst h;exact(D _ hT hO hL rfl).as fun Q a w J=>J (Exit.then (Code.rounds P c Q g) Q) fun a' w' h=>h
  |r T1 W H1=>rw[R] at h D;injection h with h;subst h;exact(D _ hT hO hL rfl).as fun Q a w J=>J (Exit.then (Code.rounds P c Q g) Q) fun a' w' h=>h
theorem jm (W:P.follows .mixedOrders=true): ∀(c:Code) {run:te},cC P n m c=some run->UK P n m c run
 | .skip,run,h=>by injection h with h;subst h;intro call D f T N H o hT hO hL I;injection I with I;subst I;exact Does.skip hT hO hL fun Q a w h=>wp_skip h
 | .exit id,run,h=>by injection h with h;subst h;intro call D f T N H o hT hO hL I;injection I with I;subst I;exact Does.skip hT hO hL fun Q a w h=>wp_exit h
 | .ret,run,h=>by injection h with h;subst h;intro call D f T N H o hT hO hL I;injection I with I;subst I;exact Does.skip hT hO hL fun Q a w h=>wp_ret h
 | .region id eO false,run,h=>by
   unfold cC at h;cases hl:lE (Xc P n m eO) eO.toList with
   |none=>rw[hl] at h;cases h
   |some is=>
    rw[hl] at h;injection h with h;subst h;intro call D f T N H o hT hO hL I;have I:(K7 call is [] T N H).out=some o:=I;have a5:K7 call is [] T N H≠ .no:=fun e=>by rw[e] at I;cases I
    obtain⟨T',N',H',e1,k1,k2,k3,k4,_⟩:=xe D (Q:=fun _ _ _=>True) eO.toList is [] T N H hl hT hO hL a5;rw[e1] at I;injection I with I;subst I;refine⟨k1,k2,k3,k4,fun Q V A β a w hA J hQ=>?_⟩;obtain⟨T2,N2,H2,e2,_,_,_,_,k5⟩:=xe D eO.toList is [] T N H hl hT hO hL a5;rw[e1] at e2;injection e2 with b3 a9 a6;subst b3 a9 a6;exact wp_region_list (k5 V A β a w hA J hQ)
 | .region id eO true,run,h=>by
   unfold cC at h;cases a4:(List.range eO.size).all (unB eO (ol eO.toList) eO.toList) with
   |false=>rw[a4] at h;cases h
   |true=>
    rw[a4] at h;cases hl:vb P n m eO (ol eO.toList) eO.toList with
    |none=>rw[hl] at h;cases h
    |some js=>
     rw[hl] at h;injection h with h;subst h;intro call D f T N H o hT hO hL I;have I:(FP call js 0 [] T N H [] []).out=some o:=I;have a5:FP call js 0 [] T N H [] []≠ .no:=fun e=>by rw[e] at I;cases I
     obtain⟨T',N',H',e1,k1,k2,k3,k4,_⟩:=Fq W D a4 hl hT hO hL a5 (Q:=fun _ _ _=>True) (id:=id);rw[e1] at I;injection I with I;subst I;refine⟨k1,k2,k3,k4,fun Q V A β a w hA J hQ=>?_⟩;obtain⟨T2,N2,H2,e2,_,_,_,_,k5⟩:=Fq W D a4 hl hT hO hL a5;rw[e1] at e2;injection e2 with b3 a9 a6;subst b3 a9 a6;exact k5 V A β a w hA J hQ
 | .seq x y,run,h=>by
   unfold cC at h;cases hx:cC P n m x with
   |none=>rw[hx] at h;cases h
   |some rx=>
    cases hy:cC P n m y with
    |none=>rw[hx,hy] at h;cases h
    |some ry=>
     rw[hx,hy] at h;injection h with h;subst h;intro call D f T N H o hT hO hL I;have e:aeR rx ry call f T N H= @Ro.rec (fun _=>Ro) .no (fun T N H=>ry call f T N H) (fun id T N H=>.x id T N H) (fun T N H=>.r T N H) (rx call f T N H):=rfl;rw[e] at I;have a3:=(jm W x hx) call D f T N H;cases hq:rx call f T N H with
     |no=>rw[hq] at I;cases I
     |n T1 N1 H1=>rw[hq] at I a3;have h1:=a3 _ hT hO hL rfl;exact h1.seq ((jm W y hy) call D f T1 N1 H1 o h1.2.1 h1.2.2.1 h1.2.2.2.1 I) fun Q a w hq=>wp_seq (hq (Exit.then (y.wp P Q) Q) fun a' w' h=>h)
     |x id T1 N1 H1=>rw[hq] at I a3;injection I with I;subst I;exact(a3 _ hT hO hL rfl).as fun Q a w hq=>wp_seq (hq (Exit.then (y.wp P Q) Q) fun a' w' h=>h)
     |r T1 N1 H1=>rw[hq] at I a3;injection I with I;subst I;exact(a3 _ hT hO hL rfl).as fun Q a w hq=>wp_seq (hq (Exit.then (y.wp P Q) Q) fun a' w' h=>h)
 | .cond (.tmp t) x y,run,h=>by
   unfold cC at h;cases hx:cC P n m x with
   |none=>rw[hx] at h;cases h
   |some rx=>
    cases hy:cC P n m y with
    |none=>rw[hx,hy] at h;cases h
    |some ry=>
     rw[hx,hy] at h;cases hb:m.testBit t with
     |true=>rw[hb] at h;cases h
     |false=>
      rw[hb] at h;injection h with h;subst h;intro call D f T N H o hT hO hL I;have e:Z9 t rx ry call f T N H= @Option.rec Bool (fun _=>Ro) .no (fun v=>@Bool.rec (fun _=>Ro) (ry call f T N H) (rx call f T N H) v) (oO (T.get t) fun v=>xB v some):=rfl;rw[e] at I;cases hv:(oO (T.get t) fun v=>xB v some) with
      |none=>rw[hv] at I;cases I
      |some v=>
       rw[hv] at I;obtain⟨z,hz,h2⟩:=aE hv;obtain⟨b,rfl,h3⟩:=tq h2;injection h3 with h3;subst h3;have b5:TS m [] T t=some (.c (.b b)):=by unfold TS;rw[hb];exact hz
       have b4: ∀ {V A β a w},StX V A n (TS m [] T) (HS H) β a w->a.eval (.tmp t)=.bool b:=by
        intro V A β a w J;obtain⟨v',e,I⟩:=J.tmp t _ b5;have:a.eval (.tmp t)=v':=by show a.tmps.getD t undef=v';obtain⟨hlt,e⟩:=lH.1 e;simp[Array.getD,hlt,e]
        rw[this];exact RdA.b_eq I
       cases b with
       |true=>obtain⟨k1,k2,k3,k4,k5⟩:=(jm W x hx) call D f T N H o hT hO hL I;exact⟨k1,k2,k3,k4,fun Q V A β a w hA J hQ=>wp_cond_true (b4 J) (k5 Q V A β a w hA J hQ)⟩
       |false=>obtain⟨k1,k2,k3,k4,k5⟩:=(jm W y hy) call D f T N H o hT hO hL I;exact⟨k1,k2,k3,k4,fun Q V A β a w hA J hQ=>wp_cond_false (b4 J) (k5 Q V A β a w hA J hQ)⟩
 | .block id c,run,h=>by
   unfold cC at h;cases hx:cC P n m c with
   |none=>rw[hx] at h;cases h
   |some rx=>
    rw[hx] at h;injection h with h;subst h;intro call D f T N H o hT hO hL I;have e:QO id rx call f T N H= @Ro.rec (fun _=>Ro) .no (fun T N H=>.n T N H) (fun R T N H=>@Bool.rec (fun _=>Ro) (.x R T N H) (.n T N H) (Nat.beq R id)) (fun T N H=>.r T N H) (rx call f T N H):=rfl;rw[e] at I;have a3:=(jm W c hx) call D f T N H;cases hq:rx call f T N H with
    |no=>rw[hq] at I;cases I
    |n T1 N1 H1=>rw[hq] at I a3;injection I with I;subst I;exact(a3 _ hT hO hL rfl).as fun Q a w hq=>wp_block (hq (Exit.inBlock id Q) fun a' w' h=>h)
    |r T1 N1 H1=>rw[hq] at I a3;injection I with I;subst I;exact(a3 _ hT hO hL rfl).as fun Q a w hq=>wp_block (hq (Exit.inBlock id Q) fun a' w' h=>h)
    |x R T1 N1 H1=>
     rw[hq] at I a3;cases hb:Nat.beq R id with
     |true=>
      have I:(match Nat.beq R id with|true=>Ro.n T1 N1 H1|false=>Ro.x R T1 N1 H1).out=some o:=by simp_all
      rw[hb] at I;injection I with I;subst I;exact(a3 _ hT hO hL rfl).as fun Q a w hq=>wp_block (hq (Exit.inBlock id Q) fun a' w' h=>by show if R=id then Q .normal a' w' else Q (.exit R) a' w';rw[if_pos (dF hb)];exact h)
     |false=>rw[show(@Ro.rec (fun _=>Ro) .no (fun T N H=>.n T N H) (fun R T N H=>@Bool.rec (fun _=>Ro) (.x R T N H) (.n T N H) (Nat.beq R id)) (fun T N H=>.r T N H) (.x R T1 N1 H1))= @Bool.rec (fun _=>Ro) (.x R T1 N1 H1) (.n T1 N1 H1) (Nat.beq R id) from rfl,hb] at I;injection I with I;subst I;exact(a3 _ hT hO hL rfl).as fun Q a w hq=>wp_block (hq (Exit.inBlock id Q) fun a' w' h=>by show if R=id then Q .normal a' w' else Q (.exit R) a' w';rw[if_neg (Nat.ne_of_beq_eq_false hb)];exact h)
 | .loop c,run,h=>by
   unfold cC at h;cases hx:cC P n m c with
   |none=>rw[hx] at h;cases h
   |some rx=>rw[hx] at h;injection h with h;subst h;intro call D f T N H o hT hO hL I;obtain⟨k1,k2,k3,k4,k5⟩:=Dx (jm W c hx) D f T N H o hT hO hL I;exact⟨k1,k2,k3,k4,fun Q V A β a w hA J hQ=>wp_loop_rounds f (k5 Q V A β a w hA J hQ)⟩
 | .cond (.const v) x y,run,h=>by
   cases v with
   |bool b=>
    cases b with
    |true=>intro call D f T N H o hT hO hL I;obtain⟨k1,k2,k3,k4,k5⟩:=(jm W x (show cC P n m x=some run from h)) call D f T N H o hT hO hL I;exact⟨k1,k2,k3,k4,fun Q V A β a w hA J hQ=>wp_cond_true rfl (k5 Q V A β a w hA J hQ)⟩
    |false=>intro call D f T N H o hT hO hL I;obtain⟨k1,k2,k3,k4,k5⟩:=(jm W y (show cC P n m y=some run from h)) call D f T N H o hT hO hL I;exact⟨k1,k2,k3,k4,fun Q V A β a w hA J hQ=>wp_cond_false rfl (k5 Q V A β a w hA J hQ)⟩
   |_=>cases h
 | .cond (.func _) x y,run,h=>by cases h
 | .goto l,run,h=>by cases h
 | .label l,run,h=>by cases h
end
section
variable {P:Program}{n m:Nat}{T:Tr XV}{N:Nat}{H:Tr Bx}
theorem Rf {v:XV}(h:toD v=some d):v=V2 d:=by
 cases v with
 |c x=>injection h with h;subst h;rfl
 |a k r=>injection h with h;subst h;rfl
 |t ds=>cases h
 |u=>cases h
theorem zl:RdX2 A Z w β v (V2 d)↔RdD A Z w β v d:=by cases d<;>exact Iff.rfl
theorem QI:Bc (V2 d)↔CB d:=by cases d<;>exact Iff.rfl
theorem StX.look {T:TX}{H:HF}(h:StX V A n T H β a w) (D:T t=some x):RdX2 A (Zs V H β) w β (a.tmps.getD t undef) x:=by
 obtain⟨v,e,I⟩:=h.tmp t x D;obtain⟨hlt,e⟩:=lH.1 e;have:a.tmps.getD t undef=v:=by simp[Array.getD,hlt,e]
 grind
theorem Ve (hT:l6 (TS m [] T)) (hO:jJ H) {rv:ResultVar}{r:XR}(D:cR2 P m rv=some r) (h:acN T H r=some d):CB d/\ ∀V A β a w,StX V A n (TS m [] T) (HS H) β a w-> ∃v,(kG a rv).run P w=.ok v w/\RdD A (Zs V (HS H) β) w β v d:=by
 have a3: ∀ {t x},m.testBit t=false->T.get t=some x->TS m [] T t=some x:=fun W h=>by unfold TS;rw[W];exact h
 cases rv with
 |tmp t=>
  unfold cR2 at D
  dsimp only at D
  cases W:m.testBit t with
  |true=>rw[W] at D;cases D
  |false=>
   rw[W] at D
   injection D with D
   subst D
   obtain⟨v,hv,h2⟩:=aE (show oO (T.get t) toD=some d from h)
   have e:=Rf h2
   subst e
   have hs:=a3 W hv
   exact⟨QI.1 (hT t _ hs),fun V A β a w I=>⟨_,rfl,zl.1 (I.look hs)⟩⟩
 |cell t U=>
  unfold cR2 at D
  dsimp only at D
  cases W:m.testBit t with
  |true=>rw[W] at D;cases D
  |false=>
   rw[W] at D
   split at D
   .rename_i k hU
    injection D with D
    subst D
    obtain⟨v,hv,h⟩:=aE (show oO (T.get t) (fun v=>xP v fun k' off=>oO (H.get k') fun b=>bT (Nat.ble (Nat.add off k) b.n) (some (XD.a k (iY b.r b.n off k))))=some d from h)
    obtain⟨j,off,rfl,h⟩:=qI h
    obtain⟨b,J,h⟩:=aE h
    obtain⟨hn,h⟩:=bD h
    rw[eL] at hn
    injection h with h
    subst h
    obtain⟨a4,a9⟩:=hO j b J
    obtain⟨g1,g2⟩:=kn b.r b.n off k a4 a9 hn
    have b6:off+k<=b.r.flat.length:=by grind
    refine⟨⟨g1,by rw[g2];simp;omega⟩,fun V A β a w I=>?_⟩
    obtain⟨e1,hk⟩:=RdA.p_eq (I.look (a3 W hv))
    obtain⟨vs,ev,hz,hl,hr⟩:=I.mem.box j b.U b.r.flat (rm J)
    have a6:=(hr.drop off).take k
    have b3:((vs.toList.take b.r.flat.length).drop off).take k=((vs.toList.drop off).take k):=by rw[wH,xk,jh (by omega)]
    rw[b3] at a6
    have R:=iv hU (off:=off) (vs:=(vs.toList.drop off).take k) (by simp;omega) (fun j v hv=>by
     rw[kS] at hv;split at hv;·rw[bR ev,<-hv];simp
     .cases hv)
    refine⟨.agg ((vs.toList.drop off).take k).toArray,?_,((vs.toList.drop off).take k).toArray,rfl,by rw[g2];simpa using a6⟩
    simp only[kG,e1,asAddr,fh,dA,ft,R]
   .rename_i k hU
    injection D with D
    subst D
    obtain⟨v,hv,h⟩:=aE (show oO (T.get t) (fun v=>xP v fun k' off=>oO (H.get k') fun b=>oO (rg b.r off) fun a=>some (XD.c a))=some d from h)
    obtain⟨j,off,rfl,h⟩:=qI h
    obtain⟨b,J,h⟩:=aE h
    obtain⟨c,a5,h⟩:=aE h
    injection h with h
    subst h
    obtain⟨a4,a9⟩:=hO j b J
    rw[sn b.r off a4] at a5
    have hlt:=(fM.1 a5).1
    refine⟨trivial,fun V A β a w I=>?_⟩
    obtain⟨e1,hk⟩:=RdA.p_eq (I.look (a3 W hv))
    obtain⟨vs,ev,hz,hl,hr⟩:=I.mem.box j b.U b.r.flat (rm J)
    have b4:vs.toList[off]? =some (vs.toList[off]'(by simp;omega)):=by grind
    refine⟨_,?_,hr.2 off (vs.toList[off]'(by simp;omega)) c (by rw[kS,if_pos hlt];exact b4) a5⟩
    simp only[kG,e1,asAddr,fh,dA,ft,ip hU (by rw[bR ev,<-mW,b4])]
   grind
theorem vT (hT:l6 (TS m [] T)) (hO:jJ H): ∀(I:List ResultVar) (rs:List XR) (ds:List XD),lE (cR2 P m) I=some rs->uQ T H rs=some ds->(∀d∈ds,CB d)/\ ∀V A β a w,StX V A n (TS m [] T) (HS H) β a w-> ∃vs:List Value,(I.mapM (kG a)).run P w=.ok vs w/\RdDs A (Zs V (HS H) β) w β vs ds
 |[],rs,ds,D,h=>by injection D with D;subst D;injection h with h;subst h;exact⟨fun d hd=>(by cases hd),fun V A β a w _=>⟨[],rfl,rfl,fun j v d hv=>by simp at hv⟩⟩
 |rv::I,rs,ds,D,h=>by
  unfold lE at D;split at D;·cases D
  .rename_i r hr;split at D;·cases D
   .rename_i W a5;injection D with D;subst D;obtain⟨d,hd,h⟩:=aE (show oO (acN T H r) (fun d=>oO (uQ T H W) fun ds=>some (d::ds))=some ds from h);obtain⟨a3,a4,h⟩:=aE h;injection h with h;subst h;obtain⟨k1,k2⟩:=Ve hT hO hr hd;obtain⟨l1,l2⟩:=vT hT hO I W a3 a5 a4;refine⟨fun x J=>?_,fun V A β a w R=>?_⟩
    .rcases dt.1 J with rfl|J;·exact k1
     .exact l1 x J
    .obtain⟨v,e1,r1⟩:=k2 V A β a w R;obtain⟨vs,e2,r2,r3⟩:=l2 V A β a w R;refine⟨v::vs,?_,by simp[r2],fun j y x hu J=>?_⟩
     .rw[List.mapM_cons];simp only[fh,e1,ft,e2,dA]
     .cases j with
      |zero=>simp at hu J;subst hu J;exact r1
      |succ j=>simp at hu J;exact r3 j y x hu J
theorem Dt (h: ∀d∈ds,CB d):Bc (qm ds):=by
 match ds,h with
 |[],_=>exact show ∀d∈([]:List XD),CB d from fun d D=>by cases D
 |[d],h=>exact QI.2 (h d (fC ..))
 |d::d'::r,h=>exact show ∀x∈d::d'::r,CB x from h
theorem AH {vs:List Value}(h:RdDs A Z w β vs ds):RdX2 A Z w β (if h:vs.toArray.size=1 then vs.toArray[0] else .tuple vs.toArray) (qm ds):=by
 match vs,ds,h with
 |[],[],h=>exact⟨_,rfl,h⟩
 |[v],[d],h=>exact zl.2 (h.2 0 v d rfl rfl)
 |v::v'::vs',d::d'::ds',h=>exact⟨(v::v'::vs').toArray,dif_neg (by simp),by simpa using h⟩
 |[],d::ds,h=>exact absurd h.1 (by simp)
 |v::vs,[],h=>exact absurd h.1 (by simp)
 |[v],d::d'::ds,h=>exact absurd h.1 (by simp)
 |v::v'::vs,[d],h=>exact absurd h.1 (by simp)
theorem Gh {vs:List Value}(D:(fn.results.toList.mapM (kG a)).run P w=.ok vs w):(results fn a.tmps).run P w=.ok (if h:vs.toArray.size=1 then vs.toArray[0] else .tuple vs.toArray) w:=by
 have I: ∀g:ResultVar->Go.Sem Value,(∀r,g r=kG a r)->(do let vs <-fn.results.mapM g;pure (if h:vs.size=1 then vs[0] else .tuple vs):Go.Sem Value).run P w=.ok (if h:vs.toArray.size=1 then vs.toArray[0] else .tuple vs.toArray) w:=by intro g J;rw[funext J];simp[Array.mapM_eq_mapM_toList,D]
 exact I _ (fun r=>by cases r<;>rfl)
theorem BX: ∀(vs:List XV) (k:Nat) (t:Tr XV) (j:Nat) (x:XV),(rE vs k t).get j=some x->(k<=j/\vs[j-k]? =some x)\/t.get j=some x
 |[],k,t,j,x,h=>.inr h
 |v::vs,k,t,j,x,h=>by
  rcases BX vs (k+1) (t.set v k) j x h with⟨h1,D⟩|h
  .refine .inl ⟨by omega,?_⟩;rw[show j-k=(j-(k+1))+1 by omega];simpa using D
  .rcases Tr.set_get t k j h with⟨e1,I⟩|⟨_,h⟩;·subst e1 I;exact .inl ⟨Nat.le_refl _,by simp⟩
   .exact .inr h
theorem I7 (h:(rE vs 0 .e).get j=some x):vs[j]? =some x:=by
 rcases BX vs 0 .e j x h with⟨_,h⟩|h;·grind
 .cases h
theorem NE (h:TS m [] (rE vs 0 .e) t=some x):vs[t]? =some x:=by
 unfold TS at h;cases D:m.testBit t with
 |true=>rw[D] at h;cases h
 |false=>rw[D] at h;exact I7 h
theorem E8: ∀(vs:List XV) (n:Nat),abl vs n=true->vs.length<=n
 |[],n,_=>iB _
 |v::vs,0,h=>by cases h
 |v::vs,n+1,h=>Nat.succ_le_succ (E8 vs n h)
theorem I5 (h: ∀v∈vs,Bc v):l6 (TS m [] (rE vs 0 .e)):=fun _ x D=>h x (tT (NE D))
theorem agM {D:HF}(hm:Mem V A D β w) (I:D1 A (Zs V D β) w β args.toList vs) (hn:vs.length<=n):StX V A n (TS m [] (rE vs 0 .e)) D β {tmps:=args++Array.replicate (n-args.size) undef,defers:=[]} w:=by
 have hl:args.size=vs.length:=by have:=I.1;simpa using this
 refine⟨hm,rfl,by simp;omega,fun t x W=>?_⟩
 have J:=NE W
 have hlt:t<args.size:=by grind
 have R:args.toList[t]? =some args[t]:=by grind
 refine⟨args[t],?_,I.2 t _ x R J⟩
 grind
theorem RdA.pure (W:Keep Z Z' w w) {x:AV}(h:RdA A Z w β v x) (I:puA x=true):RdA A' Z' w β' v x:=by
 cases h with
 |b v=>exact .b v
 |i k n=>exact .i k n
 |l v x h=>exact .l v x (h.keep W)
 |p k off=>cases I
 |s=>cases I
 |z=>exact .z
 |ev a c h1 D=>exact .ev a c h1 D
 |np=>exact .np
 |f g cs xs y h1 D h3=>
  cases x with
  |f0 J=>injection h1 with h1;injection h1 with h1 h4;subst h1 h4;exact .f J cs [] (.f0 J) rfl D fun j v x _ R=>by simp at R
  |fc=>cases I
  |_=>cases h1
theorem RdD.pure (J:Keep Z Z' w w) (h:RdD A Z w β v d) (W:CB d) (I:Z5 (V2 d)=true):RdD A' Z' w β' v d:=by
 cases d with
 |c x=>exact RdA.pure J h I
 |a k r=>obtain⟨cs,e,h1,R⟩:=h;exact⟨cs,e,h1,fun j v x hv D=>(R j v x hv D).pure J (CZ W.1 I x (tT D))⟩
theorem RdX2.pure (I:Keep Z Z' w w) (h:RdX2 A Z w β v x) (J:Bc x) (D:Z5 x=true):RdX2 A' Z' w β' v x:=by
 cases x with
 |c x=>exact RdA.pure I h D
 |a k r=>exact RdD.pure (d:=.a k r) I h J D
 |t ds=>cases D
 |u=>cases D
theorem oV {a b:Bool}(h:bA a b=true):a=true/\b=true:=by cases a<;>simp[bA] at h⊢ <;>exact h
theorem Ja: ∀ {vs:List XV},puL vs=true-> ∀v∈vs,Z5 v=true
 |[],_,v,D=>by cases D
 |u0::vs,h,v,D=>by
  obtain⟨h1,I⟩:=oV (show bA (Z5 u0) (puL vs)=true from h);rcases dt.1 D with rfl|D;·exact h1
  .exact Ja I v D
theorem J6: ∀ {ds:List XD},puD ds=true-> ∀d∈ds,Z5 (V2 d)=true
 |[],_,v,D=>by cases D
 |d0::vs,h,v,D=>by
  obtain⟨h1,I⟩:=oV (show bA (Z5 (V2 d0)) (puD vs)=true from h);rcases dt.1 D with rfl|D;·exact h1
  .exact J6 I v D
end
section
variable {P:Program}{n m:Nat}{T:Tr XV}{N:Nat}{H:Tr Bx}
theorem vY {κ:Tr XV->Nat->Tr Bx->Cr}{r:Ro}{y:Cr}(h:Q0 F κ r=y) (D:y≠ .no): ∃e T N H,r.out=some (e,T,N,H)/\(e=.normal\/e=.ret)/\κ T N H=y:=by
 cases r with
 |no=>exact absurd h.symm D
 |n T N H=>exact⟨_,T,N,H,rfl,.inl rfl,h⟩
 |x id T N H=>exact absurd h.symm D
 |r T N H=>exact⟨_,T,N,H,rfl,.inr rfl,h⟩
theorem VQ (h:cF P pu m fn=some F): ∃c,fn.body=some c/\cC P fn.ntmps m c=some F.run/\lE (cR2 P m) fn.results.toList=some F.rs/\F.na=fn.ntmps:=by
 unfold cF at h;split at h;·cases h
 grind
theorem FH:jJ .e:=fun k b h=>by cases h
theorem GT:jN 0 .e:=fun k b h=>by cases h
theorem DO {c:Code}{rs:List XR} (hf:P.funcs[fid]? =some fn) (hb:fn.body=some c) (a3:lE (cR2 P m) fn.results.toList=some rs) (he:e=.normal\/e=.ret) (W:uQ T' H' rs=some ds) (hd:Does P fn.ntmps m (fun Q=>c.wp P Q) (rE vs 0 .e) N H (e,T',N',H')) (hA: ∀k,A k-> ¬(N<=k/\k<N')) (hm:Mem V A (HS H) β w) (hr:D1 A (Zs V (HS H) β) w β args.toList vs) (hn:vs.length<=fn.ntmps):Calls P fid args w fun e w'=> ∃v A' β',e=.returned v/\(∀k,A k->A' k)/\(∀k,A' k->Ad A N N' k)/\Mem V A' (HS H') β' w'/\Hst N N' A (HS H) β w (HS H') β' w'/\ ∃us:List Value,RdDs A' (Zs V (HS H') β') w' β' us ds/\v=(if h:us.toArray.size=1 then us.toArray[0] else .tuple us.toArray):=by
 refine calls_of_wp hf hb ?_
 obtain⟨k1,k2,k3,k4,k5⟩:=hd
 refine k5 (bodyPost P fn _) V A β _ w hA (agM hm hr hn) fun a' w' ⟨A',β',f1,f2,f3,I⟩=>?_
 obtain⟨g1,g2⟩:=vT k2 k3 _ _ _ a3 W
 obtain⟨us,R,J⟩:=g2 V A' β' a' w' I
 have D:=Gh R
 rcases he with rfl|rfl
 .exact⟨I.dfr,_,D,_,A',β',rfl,f1,f2,I.mem,f3,us,J,rfl⟩
 .exact⟨I.dfr,_,D,_,A',β',rfl,f1,f2,I.mem,f3,us,J,rfl⟩
theorem AQ (b5:P.follows .mixedOrders=true) (b6:jU P ih) (hF:cF P pu m fn=some F) (hf:P.funcs[g]? =some fn) (a6:dk P g=true) (b4: ∀v∈vs,Bc v) (hO:jJ H) (hL:jN N H):(∀x,A7 F ih et vs N H=.p x->CallP P g vs x)/\ ∀x N' H',A7 F ih et vs N H=.h x N' H'->CallH P g vs N H x N' H':=by
 obtain⟨c,hb,hc,a5,c3⟩:=VQ hF
 have a3:=jm b5 c hc
 have a9: ∀ {y},A7 F ih et vs N H=y->y≠ .no->vs.length<=fn.ntmps/\(@Bool.rec (fun _=>Cr)
  (Q0 F (fun T N' H'=>@Option.rec (List XD) (fun _=>Cr) .no (fun ds=>.h (qm ds) N' H') (uQ T H' F.rs)) (F.run ih et (rE vs 0 .e) N H))
  (Q0 F (fun T _ H'=>@Option.rec (List XD) (fun _=>Cr) .no (fun ds=>@Bool.rec (fun _=>Cr) .no (.p (qm ds)) (puD ds)) (uQ T H' F.rs)) (F.run ih et (rE vs 0 .e) 0 .e))
  (bA F.pure (puL vs)))=y:=by
  intro y h hy
  unfold A7 at h
  cases hl:abl vs F.na with
  |false=>rw[hl] at h;exact absurd h.symm hy
  |true=>rw[hl] at h;exact⟨by rw[<-c3];exact E8 _ _ hl,h⟩
 refine⟨fun x h=>?_,fun x N' H' h=>?_⟩
 .obtain⟨hn,h⟩:=a9 h (by simp)
  cases hp:bA F.pure (puL vs) with
  |false=>
   rw[hp] at h
   obtain⟨e,T1,N1,H1,_,_,h⟩:=vY h (by simp)
   cases R:uQ T1 H1 F.rs with
   |none=>rw[R] at h;cases h
   |some ds=>rw[R] at h;cases h
  |true=>
   rw[hp] at h
   obtain⟨e,T1,N1,H1,ho,he,h⟩:=vY h (by simp)
   cases R:uQ T1 H1 F.rs with
   |none=>rw[R] at h;cases h
   |some ds=>
    rw[R] at h
    dsimp only at h
    cases hq:puD ds with
    |false=>rw[hq] at h;cases h
    |true=>
     rw[hq] at h
     injection h with h
     subst h
     have D:=a3 ih b6 et _ _ _ _ (I5 b4) FH GT ho
     have W:=(vT (n:=fn.ntmps) D.2.1 D.2.2.1 _ _ _ a5 R).1
     refine⟨a6,Dt W,fun Z A β args w hZ hr=>?_⟩
     have hm:Mem Z (fun _=>False) (HS .e) β w:=⟨hZ,fun k I=>absurd rfl I,fun k I=>I.elim,fun k l I=>absurd rfl I,fun k I=>absurd rfl I,fun k U cs I=>by cases I⟩
     have c8:Keep Z (Zs Z (HS .e) β) w w:=⟨Nat.le_refl _,fun _ _ _=>rfl,fun b _ hb=>by
      rcases hb with hb|⟨k,I,_⟩;·grind
      .exact absurd rfl I⟩
     have c7:D1 (fun _=>False) (Zs Z (HS .e) β) w β args.toList vs:=⟨hr.1,fun j v x hv hx=>(hr.2 j v x hv hx).pure c8 (b4 x (tT hx)) ((Ja (oV hp).2) x (tT hx))⟩
     refine(DO hf hb a5 he R D (fun k I=>I.elim) hm c7 hn).mono fun e' w' hh=>?_
     obtain⟨v,A',β',rfl,_,_,b7,J,us,a4,rfl⟩:=hh
     have c5:Keep (Zs Z (HS H1) β') Z w' w':=⟨Nat.le_refl _,fun _ _ _=>rfl,fun b _ hb=>.inl hb⟩
     refine⟨_,rfl,fun A2 d2=>AH ⟨a4.1,fun j v d hv b3=>(a4.2 j v d hv b3).pure c5 (W d (tT b3)) (J6 hq d (tT b3))⟩,J.os,J.tape,J.output,J.size,fun k I=>J.blk k I fun j hj=>absurd rfl hj⟩
 .obtain⟨hn,h⟩:=a9 h (by simp)
  cases hp:bA F.pure (puL vs) with
  |true=>
   rw[hp] at h
   obtain⟨e,T1,N1,H1,_,_,h⟩:=vY h (by simp)
   cases R:uQ T1 H1 F.rs with
   |none=>rw[R] at h;cases h
   |some ds=>
    rw[R] at h
    dsimp only at h
    cases hq:puD ds with
    |false=>rw[hq] at h;cases h
    |true=>rw[hq] at h;cases h
  |false=>
   rw[hp] at h
   obtain⟨e,T1,N1,H1,ho,he,h⟩:=vY h (by simp)
   cases R:uQ T1 H1 F.rs with
   |none=>rw[R] at h;cases h
   |some ds=>
    rw[R] at h
    injection h with h1 h2 h3
    subst h1 h2 h3
    have D:=a3 ih b6 et _ _ _ _ (I5 b4) hO hL ho
    refine⟨D.1,a6,Dt ((vT (n:=fn.ntmps) D.2.1 D.2.2.1 _ _ _ a5 R).1),D.2.2.1,D.2.2.2.1,fun V A β args w hA hm hr=>?_⟩
    refine(DO hf hb a5 he R D hA hm hr hn).mono fun e' w' hh=>?_
    obtain⟨v,A',β',rfl,g1,g2,b7,J,us,a4,rfl⟩:=hh
    exact⟨_,A',β',rfl,g1,g2,b7,J,AH a4⟩
structure EnvOk (P:Program) (E:Env):Prop where
 pr: ∀g p vs ds,E.pr.get g=some p->(∀v∈vs,Bc v)->p vs=some ds->CallP P g vs (qm ds)
 fs: ∀g F,E.fs.get g=some (some F)-> ∃pu m fn,cF P pu m fn=some F/\P.funcs[g]? =some fn/\dk P g=true
theorem vi (D:P.follows .mixedOrders=true) {E:Env}(W:EnvOk P E) {et:Nat}: ∀depth,jU P (Qe E et depth)
 |0=>fun f vs N H _ _ _=>⟨fun x h=>(by cases h),fun x N' H' h=>(by cases h)⟩
 |d+1=>fun f vs N H I hO hL=>by
  have e1:Qe E et (d+1) f vs N H= @Option.rec (List XD) (fun _=>Cr) (@Option.rec XF (fun _=>Cr) .no (fun F=>A7 F (Qe E et d) et vs N H) (oO (E.fs.get f) fun x=>x)) (fun ds=>.p (qm ds)) (oO (E.pr.get f) fun p=>p vs):=rfl;cases R:(oO (E.pr.get f) fun p=>p vs) with
  |some ds=>rw[e1,R];obtain⟨p,h1,J⟩:=aE R;refine⟨fun x h=>?_,fun x N' H' h=>(by cases h)⟩;injection h with h;subst h;exact W.pr f p vs ds h1 I J
  |none=>
   rw[e1,R];cases hF:(oO (E.fs.get f) fun x=>x) with
   |none=>exact⟨fun x h=>(by cases h),fun x N' H' h=>(by cases h)⟩
   |some F=>obtain⟨y,h1,J⟩:=aE hF;subst J;obtain⟨pu,m,fn,h3,h4,h5⟩:=W.fs f F h1;exact AQ D (vi D W d) h3 h4 h5 I hO hL
end
section
variable {β:Type}
def aLm (x:AV) (f:Nat->Option β):Option β:=@AV.rec (fun _=>Option β) (fun _=>none) (fun _ _=>none) f (fun _ _=>none) (fun _ _ _ _ _ _=>none) (f 0) none none (fun _=>none) (fun _ _ _ _=>none) x
def aZ (s x:AV) (f:Int->Option β):Option β:=aB s fun b=>aLm x fun n=>@Bool.rec (fun _=>Option β) (f (.ofNat n)) (@Nat.rec (fun _=>Option β) none (fun m _=>f (.negSucc m)) n) b
def aF (x:AV) (y:Option β):Option β:=aB x fun b=>@Bool.rec (fun _=>Option β) y none b
def rCc (r:Rp) (f:AV->Option β):Option β:=@Rp.rec (fun _=>Option β) none f (fun _ _ _ _ _ _=>none) r
def r2 (r:Rp) (f:AV->AV->Option β):Option β:=@Rp.rec (fun _=>Option β) none (fun _=>none) (fun _ _ l r _ _=>rCc l fun x=>rCc r fun y=>f x y) r
end
def c2 (r:Rp):Option (AV×AV):=@Option.rec (AV×AV) (fun _=>Option (AV×AV)) (oO (rg r 0) fun x=>oO (rg r 1) fun y=>some (x,y)) some (r2 r fun x y=>some (x,y))
def c4f (r:Rp):Option (AV×AV×AV×AV):=@Rp.rec (fun _=>Option (AV×AV×AV×AV)) none (fun _=>none) (fun _ _ l r _ _=>r2 l fun s x=>r2 r fun t y=>some (s,x,t,y)) r
def c4 (r:Rp):Option (AV×AV×AV×AV):=@Option.rec (AV×AV×AV×AV) (fun _=>Option (AV×AV×AV×AV)) (oO (rg r 0) fun x=>oO (rg r 1) fun y=>oO (rg r 2) fun t=>oO (rg r 3) fun w=>some (x,y,t,w)) some (c4f r)
def Zy (n:Nat):Bool:=Nat.blt n 1000000000000000000000000000000000000000000000000000000000000000000000000
def dZ {β:Type}(v:XV) (f:Int->Option β):Option β:=xA v fun n r=>bT (Nat.beq n 2) (oO (c2 r) fun p=>aZ p.1 p.2 fun z=>bT (Zy z.natAbs) (f z))
def Ws {β:Type}(v:XV) (f:Int->Nat->Option β):Option β:=xA v fun n r=>bT (Nat.beq n 4) (oO (c4 r) fun p=>aZ p.1 p.2.1 fun z=>aF p.2.2.1 (aLm p.2.2.2 fun d=>
 bT (Nat.blt 0 d) (bT (Nat.beq (Nat.gcd z.natAbs d) 1) (bT (Zy z.natAbs) (bT (Zy d) (f z d))))))
def dW {β:Type}(v:XV) (f:Int->Option β):Option β:=xI v fun k x=>bT (Nat.beq (kN k) 3) (bI (xv x (-9223372036854775808)) none (bI (xv 9223372036854775807 x) none (f x)))
def rZ (z:Int):Rp:=@Int.rec (fun _=>Rp) (fun n=>.n 1 true (.c (.b false)) (.c (.l n))) (fun n=>.n 1 true (.c (.b true)) (.c (.l (Nat.succ n)))) z
def xZ (z:Int):XD:=.a 2 (rZ z)
def xQ (z:Int) (d:Nat):XD:=.a 4 (.n 2 true (rZ z) (.n 1 true (.c (.b false)) (.c (.l d))))
def dvZ (z:Int) (g:Nat):Int:=@Int.rec (fun _=>Int) (fun n=>.ofNat (Nat.div n g)) (fun n=>Int.neg (.ofNat (Nat.div (Nat.succ n) g))) z
def aiv (z:Int) (d g:Nat):XD:=xQ (dvZ z g) (Nat.div d g)
def ZK (z:Int) (d:Nat):XD:=aiv z d (Nat.gcd z.natAbs d)
def Zo (y z:Int):Int:=@Int.rec (fun _=>Int) (fun _=>z) (fun _=>Int.neg z) y
def xW (n:Int):XD:=.c (.i .i64 n)
def O2 (b:Bool):XD:=.c (.b b)
def cmZ (x y:Int):Int:=bI (xv x y) (-1) (bI (xv y x) 1 0)
abbrev tX:=List XV->Option (List XD)
def l1 (f:XV->Option (List XD)):tX:=fun vs=>@List.rec XV (fun _=>Option (List XD)) none (fun v r _=>@List.rec XV (fun _=>Option (List XD)) (f v) (fun _ _ _=>none) r) vs
def l2 (f:XV->XV->Option (List XD)):tX:=fun vs=>@List.rec XV (fun _=>Option (List XD)) none (fun v r _=>@List.rec XV (fun _=>Option (List XD)) none (fun D r2 _=>@List.rec XV (fun _=>Option (List XD)) (f v D) (fun _ _ _=>none) r2) r) vs
def q1 (f:Int->Nat->Option (List XD)):tX:=l1 fun v=>Ws v f
def q2 (f:Int->Nat->Int->Nat->Option (List XD)):tX:=l2 fun v D=>Ws v fun a b=>Ws D fun c d=>f a b c d
def z1 (f:Int->Option (List XD)):tX:=l1 fun v=>dZ v f
def z2 (f:Int->Int->Option (List XD)):tX:=l2 fun v D=>dZ v fun a=>dZ D fun b=>f a b
def w1 (f:Int->Option (List XD)):tX:=l1 fun v=>dW v f
def w2 (f:Int->Int->Option (List XD)):tX:=l2 fun v D=>dW v fun a=>dW D fun b=>f a b
def aiP (n:Nat) (k:Nat):Nat->Nat:=@Nat.rec (fun _=>Nat->Nat) (fun s=>s) (fun j ih s=>bI (Nat.ble (Nat.mul (Nat.add s (Nat.pow 2 j)) (Nat.add s (Nat.pow 2 j))) n) (ih (Nat.add s (Nat.pow 2 j))) (ih s)) k
def sqT (n s:Nat) (f:Nat->Option (List XD)):Option (List XD):=bT (Nat.ble (Nat.mul s s) n) (bT (Nat.blt n (Nat.mul (Nat.succ s) (Nat.succ s))) (f s))
def Z1 (n:Nat) (f:Nat->Option (List XD)):Option (List XD):=sqT n (aiP n (Nat.succ (Nat.div (Nat.log2 n) 2)) 0) f
def sqZ (z:Int) (f:Nat->Option (List XD)):Option (List XD):=@Int.rec (fun _=>Option (List XD)) (fun n=>Z1 n f) (fun _=>none) z
def R7:tX:=q2 fun a b c d=>some [ZK (Int.add (Int.mul a d) (Int.mul c b)) (Nat.mul b d)]
def R2:tX:=q2 fun a b c d=>some [ZK (Int.sub (Int.mul a d) (Int.mul c b)) (Nat.mul b d)]
def Rv:tX:=q2 fun a b c d=>some [ZK (Int.mul a c) (Nat.mul b d)]
def SD:tX:=q2 fun a b c d=>bI (LH c 0) none (some [ZK (Zo c (Int.mul a d)) (Nat.mul b c.natAbs),xW 0])
def S6:tX:=q1 fun a b=>some [xQ (Int.neg a) b]
def S8:tX:=q2 fun a b c d=>some [xW (cmZ (Int.mul a d) (Int.mul c b))]
def Ls:tX:=q1 fun a _=>some [xW (cmZ a 0)]
def LK:tX:=w1 fun a=>some [xQ a 1]
def Ob:tX:=q1 fun a b=>some [xZ (@Int.rec (fun _=>Int) (fun n=>.ofNat (Nat.div n b)) (fun n=>.negSucc (Nat.div n b)) a)]
def UL:tX:=z2 fun a b=>bI (LH b 0) none (some [ZK (Zo b a) b.natAbs,xW 0])
def UW:tX:=w2 fun a b=>bI (LH b 0) none (some [ZK (Zo b a) b.natAbs])
def Vo (z w:Int):XD:=.a 4 (.n 2 true (rZ z) (rZ w))
def Ll:tX:=q1 fun a b=>@Int.rec (fun _=>Option (List XD)) (fun n=>Z1 n fun s=>Z1 b fun t=>bI (bA (Nat.beq (Nat.mul s s) n) (Nat.beq (Nat.mul t t) b)) (some [Vo s t,O2 true]) (some [Vo 0 0,O2 false])) (fun _=>some [Vo 0 0,O2 false]) a
def NH:tX:=q1 fun _ _=>some [O2 true]
def Rj:tX:=z1 fun a=>some [xW (cmZ a 0)]
def ZV:tX:=z2 fun a b=>some [xW (cmZ a b)]
def SG:tX:=w1 fun a=>some [xZ a]
def Z0:tX:=z1 fun a=>some [xZ (Int.neg a)]
def aal:tX:=z2 fun a b=>some [xZ (Int.mul a b)]
def ZE:tX:=z2 fun a b=>some [xZ (Int.add a b)]
def Kl:tX:=z2 fun a b=>bI (LH b 0) none (some [xZ (Int.fdiv a b),xZ (Int.fmod a b),xW 0])
def ZJ:tX:=z2 fun a b=>some [xZ (.ofNat (Nat.gcd a.natAbs b.natAbs))]
def Uj:tX:=z1 fun a=>sqZ a fun s=>some [xZ (.ofNat s),xW 0]
def Nd:tX:=z1 fun a=>bI (xv a (-9223372036854775808)) none (bI (xv 9223372036854775807 a) none (some [xW a,O2 true]))
section
variable {P:Program}
def AC (x:AV) (u:CellD):Prop:= ∀A Z w β v,RdA A Z w β v x->RdC Z w v u
def CA (u:CellD) (x:AV):Prop:= ∀A Z w β v,RdC Z w v u->RdA A Z w β v x
theorem AC.b (b:Bool):AC (.b b) (.b b):=fun A Z w β v h=>by
 cases h with
 |b=>exact .b b
 |f _ _ _ _ h1=>cases h1
theorem AC.i (k:IntKind) (n:Int):AC (.i k n) (.i k n):=fun A Z w β v h=>by
 cases h with
 |i=>exact .i k n
 |f _ _ _ _ h1=>cases h1
theorem AC.l (n:Nat):AC (.l n) (cL n):=fun A Z w β v h=>by
 cases h with
 |l _ _ h=>exact h
 |f _ _ _ _ h1=>cases h1
theorem W5:cL ((0:Nat):Int)=.s 0 []:=by
 have:dr (0:Nat)=[]:=by unfold dr;rfl
 show CellD.s (dr 0).length ((dr 0).map (CellD.i .u32))=_;grind
theorem AC.z:AC .z (cL ((0:Nat):Int)):=fun A Z w β v h=>by
 cases h with
 |z=>rw[W5];exact .s0 none 0 (by omega)
 |f _ _ _ _ h1=>cases h1
theorem CA.b (b:Bool):CA (.b b) (.b b):=fun A Z w β v h=>by cases h with
 |b=>exact .b b
theorem CA.i (k:IntKind) (n:Int):CA (.i k n) (.i k n):=fun A Z w β v h=>by cases h with
 |i=>exact .i k n
theorem CA.l (n:Nat):CA (cL n) (.l n):=fun _A _Z _w _β v h=>.l v n h
def ACs:List AV->List CellD->Prop
 |[],[]=>True
 |x::xs,u::us=>AC x u/\ACs xs us
 |_,_=>False
def CAs:List CellD->List AV->Prop
 |[],[]=>True
 |u::us,x::xs=>CA u x/\CAs us xs
 |_,_=>False
theorem ACs.reads: ∀ {xs:List AV}{us:List CellD}{vs:List Value},ACs xs us->RdAs A Z w β vs xs->RdCs Z w vs us
 |[],[],vs,_,h=>by have:vs=[]:=Hg h.1;subst this;exact qB
 |x::xs,y::us,[],_,h=>absurd h.1 (by simp)
 |x::xs,y::us,v::vs,hc,h=>by obtain⟨h1,D⟩:=h.uncons;exact lG (hc.1 _ _ _ _ _ h1) (hc.2.reads D)
 |[],_::_,_,hc,_=>hc.elim
 |_::_,[],_,hc,_=>hc.elim
theorem CAs.len: ∀ {us:List CellD}{xs:List AV},CAs us xs->us.length=xs.length
 |[],[],_=>rfl
 |_::us,_::xs,h=>by simp[h.2.len]
 |[],_::_,h=>h.elim
 |_::_,[],h=>h.elim
theorem CAs.at: ∀ {us:List CellD}{xs:List AV},CAs us xs-> ∀ {j:Nat}{x:AV},xs[j]? =some x-> ∃y,us[j]? =some y/\CA y x
 |[],[],_,j,x,h=>by simp at h
 |y::us,x0::xs,h,0,x,hx=>by simp at hx;subst hx;exact⟨y,rfl,h.1⟩
 |y::us,x0::xs,h,j+1,x,hx=>by simpa using h.2.at (by simpa using hx)
 |[],_::_,h,_,_,_=>h.elim
 |_::_,[],h,_,_,_=>h.elim
theorem CAs.reads {xs:List AV}{vs:List Value}(D:CAs us xs) (h:RdCs Z w vs us):RdAs A Z w β vs xs:=by refine⟨h.1.trans D.len,fun j v x R J=>?_⟩;obtain⟨y,h1,I⟩:=D.at J;exact I _ _ _ _ _ (h.2 j v y R h1)
def InD (x:XV) (d:D0):Prop:= ∀A Z w β v,RdX2 A Z w β v x->RdV Z w v d
def zZ (d:D0) (x:XD):Prop:=CB x/\ ∀A Z w β v,RdV Z w v d->RdD A Z w β v x
def InL:List XV->List D0->Prop
 |[],[]=>True
 |x::xs,u::us=>InD x u/\InL xs us
 |_,_=>False
def OutL:List D0->List XD->Prop
 |[],[]=>True
 |u::us,x::xs=>zZ u x/\OutL us xs
 |_,_=>False
theorem InL.reads: ∀ {xs:List XV}{us:List D0}{vs:List Value},InL xs us->D1 A Z w β vs xs->RdL Z w vs us
 |[],[],vs,_,h=>by have:vs=[]:=Hg h.1;subst this;exact RdL.nil
 |x::xs,y::us,[],_,h=>absurd h.1 (by simp)
 |x::xs,y::us,v::vs,hc,h=>by exact qF (hc.1 _ _ _ _ _ (h.2 0 v x rfl rfl)) (hc.2.reads ⟨by have:=h.1;simpa using this,fun j u z D I=>h.2 (j+1) u z (by simpa using D) (by simpa using I)⟩)
 |[],_::_,_,hc,_=>hc.elim
 |_::_,[],_,hc,_=>hc.elim
theorem OutL.ok: ∀ {us:List D0}{xs:List XD},OutL us xs-> ∀d∈xs,CB d
 |[],[],_,d,h=>by cases h
 |_::us,x::xs,h,d,D=>by
  rcases dt.1 D with rfl|D;·exact h.1.1
  .exact h.2.ok d D
 |[],_::_,h,_,_=>h.elim
 |_::_,[],h,_,_=>h.elim
theorem OutL.reads: ∀ {us:List D0}{xs:List XD}{vs:List Value},OutL us xs->RdL Z w vs us->RdDs A Z w β vs xs
 |[],[],vs,_,h=>by have:vs=[]:=Hg h.1;subst this;exact⟨rfl,fun j v d W=>by simp at W⟩
 |y::us,x::xs,[],_,h=>absurd h.1 (by simp)
 |y::us,x::xs,v::vs,hc,h=>by
  obtain⟨h1,R⟩:=h.uncons;have J:=hc.2.reads R;refine⟨by simp[J.1],fun j u d D I=>?_⟩;cases j with
  |zero=>simp at D I;subst D I;exact hc.1.2 _ _ _ _ _ h1
  |succ j=>simp at D I;exact J.2 j u d D I
 |[],_::_,_,hc,_=>hc.elim
 |_::_,[],_,hc,_=>hc.elim
theorem ahy {us:List D0}(D:OutL us xs) (h:Wz Z w v us):RdX2 A Z w β v (qm xs):=by
 match us,xs,D,h with
 |[d],[x],D,h=>exact zl.2 (D.1.2 _ _ _ _ _ h)
 |[],[],D,h=>obtain⟨vs,e,h⟩:=h;exact⟨vs,e,D.reads h⟩
 |d::d'::us,x::x'::xs,D,h=>obtain⟨vs,e,h⟩:=h;exact⟨vs,e,D.reads h⟩
 |[],_::_,D,_=>exact D.elim
 |_::_,[],D,_=>exact D.elim
 |[d],x::x'::xs,D,_=>exact D.2.elim
 |d::d'::us,[x],D,_=>exact D.2.elim
theorem si {f:FuncId}{us rs:List D0}(hok:Ok P f us rs) (hi:InL vs us) (D:OutL rs xs):CallP P f vs (qm xs):=by refine⟨hok.cal,Dt D.ok,fun Z A β args w J R=>?_⟩;refine(hok.run Z args w J (hi.reads R)).mono fun e w' h=>?_;obtain⟨v,rfl,h1,I⟩:=h;exact⟨v,rfl,fun A' β'=>ahy D h1,I⟩
theorem IG {β:Type}{x:AV}{f:Nat->Option β}{y:β}(h:aLm x f=some y): ∃n:Nat,AC x (cL n)/\f n=some y:=by
 cases x with
 |l n=>exact⟨n,AC.l n,h⟩
 |z=>exact⟨0,AC.z,h⟩
 |_=>cases h
theorem Mx {β:Type}{s x:AV}{f:Int->Option β}{y:β}(h:aZ s x f=some y): ∃z:Int,AC s (.b (decide (z<0)))/\AC x (cL z)/\f z=some y:=by
 obtain⟨b,rfl,h⟩:=BH h;obtain⟨n,D,h⟩:=IG h;cases b with
 |false=>exact⟨(n:Int),by rw[show decide ((n:Int)<0)=false by simp];exact AC.b _,D,h⟩
 |true=>
  cases n with
  |zero=>cases h
  |succ m=>
   refine⟨.negSucc m,by rw[show decide (Int.negSucc m<0)=true from decide_eq_true (Int.negSucc_lt_zero m)];exact AC.b _,?_,h⟩;have:cL (Int.negSucc m)=cL ((m+1:Nat):Int):=by unfold cL;rfl
   grind
theorem GY {β:Type}{f:AV->AV->Option β}{y:β}(h:r2 r f=some y): ∃a b,r.flat=[a,b]/\f a b=some y:=by
 cases r with
 |n ls pu l r=>
  cases l with
  |c a=>
   cases r with
   |c b=>exact⟨a,b,rfl,h⟩
   |_=>cases h
  |_=>cases h
 |_=>cases h
theorem XS {p:AV×AV}(J:r.ok) (hl:r.flat.length=2) (h:c2 r=some p):r.flat=[p.1,p.2]:=by
 unfold c2 at h;cases h1:(r2 r fun x y=>some (x,y)) with
 |some q=>rw[h1] at h;obtain⟨a,b,e,W⟩:=GY h1;grind
 |none=>
  rw[h1] at h;obtain⟨x,D,h⟩:=aE (show(oO (rg r 0) fun x=>oO (rg r 1) fun y=>some (x,y))=some p from h);obtain⟨y,I,h⟩:=aE h;injection h with h;subst h;rw[sn _ _ J] at D I;match R:r.flat,hl with
  |[a,b],_=>rw[R] at D I;simp at D I;rw[D,I]
theorem V3 {p:AV×AV×AV×AV}(hr:r.ok) (hl:r.flat.length=4) (h:c4 r=some p):r.flat=[p.1,p.2.1,p.2.2.1,p.2.2.2]:=by
 unfold c4 at h;cases h1:c4f r with
 |some q=>
  rw[h1] at h;cases r with
  |n ls pu l r=>obtain⟨a,b,e1,W⟩:=GY (show(r2 l fun s x=>r2 r fun t y=>some (s,x,t,y))=some q from h1);obtain⟨c,d,e2,h3⟩:=GY W;show l.flat++r.flat=_;grind
  |_=>cases h1
 |none=>
  rw[h1] at h;obtain⟨x,D,h⟩:=aE (show(oO (rg r 0) fun x=>oO (rg r 1) fun y=>oO (rg r 2) fun t=>oO (rg r 3) fun w=>some (x,y,t,w))=some p from h);obtain⟨y,J,h⟩:=aE h;obtain⟨t,R,h⟩:=aE h;obtain⟨w,I,h⟩:=aE h;injection h with h;subst h;rw[sn _ _ hr] at D J R I;match hf:r.flat,hl with
  |[a,b,c,d],_=>rw[hf] at D J R I;simp at D J R I;rw[D,J,R,I]
theorem inA (h:ACs r.flat us):InD (.a n r) (.a us):=fun A Z w β v I=>by obtain⟨cs,e,D⟩:=I;exact⟨cs,e,h.reads D⟩
theorem HT {β:Type}{v:XV}{f:Int->Option β}{y:β}(I:Bc v) (h:dZ v f=some y): ∃z:Int,InD v (dI z)/\Zy z.natAbs=true/\f z=some y:=by
 cases v with
 |a n r=>obtain⟨D,h⟩:=bD (show bT (Nat.beq n 2) (oO (c2 r) fun p=>aZ p.1 p.2 fun z=>bT (Zy z.natAbs) (f z))=some y from h);obtain⟨p,R,h⟩:=aE h;obtain⟨z,h1,J,h⟩:=Mx h;obtain⟨h3,h⟩:=bD h;exact⟨z,inA (by rw[XS I.1 (by rw[<-I.2];exact (dF D)) R];exact⟨h1,J,trivial⟩),h3,h⟩
 |_=>cases h
end
section
variable {P:Program}{g:FuncId}
theorem DJ (D:8<=k) {z:Int}(h:Zy z.natAbs=true):Sz k z:=by
 have h1:z.natAbs<1000000000000000000000000000000000000000000000000000000000000000000000000:=dj.1 h;have I:=nC D;have e:pw 8=1000000000000000000000000000000000000000000000000000000000000000000000000:=by decide+kernel
 exact⟨by omega,by omega⟩
theorem Cs {β:Type}{v:XV}{f:Int->Nat->Option β}{y:β}(I:Bc v) (h:Ws v f=some y): ∃x:Rat,InD v (dR x)/\Rz 300 x/\f x.num x.den=some y:=by
 cases v with
 |a n r=>
  obtain⟨D,h⟩:=bD (show bT (Nat.beq n 4) (oO (c4 r) fun p=>aZ p.1 p.2.1 fun z=>aF p.2.2.1 (aLm p.2.2.2 fun d=>
   bT (Nat.blt 0 d) (bT (Nat.beq (Nat.gcd z.natAbs d) 1) (bT (Zy z.natAbs) (bT (Zy d) (f z d))))))=some y from h)
  obtain⟨p,hp,h⟩:=aE h;obtain⟨z,h1,J,h⟩:=Mx h;obtain⟨b,hb,h⟩:=BH h;cases b with
  |true=>cases h
  |false=>obtain⟨d,R,h⟩:=IG h;obtain⟨g1,h⟩:=bD h;obtain⟨g2,h⟩:=bD h;obtain⟨g3,h⟩:=bD h;obtain⟨W,h⟩:=bD h;have a3:0<d:=dj.1 g1;have hg:Nat.gcd z.natAbs d=1:=dF g2;refine⟨⟨z,d,by omega,hg⟩,inA (by rw[V3 I.1 (by rw[<-I.2];exact (dF D)) hp];refine⟨h1,J,?_,R,trivial⟩;rw[hb,show decide (((d:Nat):Int)<0)=false by simp];exact AC.b _),⟨DJ (by decide) g3,DJ (by decide) (by simpa using W)⟩,h⟩
 |_=>cases h
theorem F7 {β:Type}{v:XV}{f:Int->Option β}{y:β}(h:dW v f=some y): ∃x:Int,InD v (.c (.i .i64 x))/\ -9223372036854775808<=x/\x<=9223372036854775807/\f x=some y:=by
 obtain⟨k,x,rfl,W⟩:=mA (show xI v (fun k x=>bT (Nat.beq (kN k) 3) (bI (xv x (-9223372036854775808)) none (bI (xv 9223372036854775807 x) none (f x))))=some y from h);obtain⟨R,J⟩:=bD W;have R:k=.i64:=by cases k<;>first|rfl|cases R
 subst R;cases h1:xv x (-9223372036854775808) with
 |true=>rw[h1] at J;cases J
 |false=>
  rw[h1] at J;have I:bI (xv 9223372036854775807 x) none (f x)=some y:=J;cases D:xv 9223372036854775807 x with
  |true=>rw[D] at I;cases I
  |false=>rw[D] at I;rw[nl] at h1 D;simp only[decide_eq_false_iff_not] at h1 D;exact⟨x,fun A Z w β v hv=>AC.i _ _ _ _ _ _ _ hv,by omega,by omega,I⟩
theorem Gr {f:XV->Option (List XD)}(h:l1 f vs=some ds): ∃v,vs=[v]/\f v=some ds:=by
 match vs,h with
 |[v],h=>exact⟨v,rfl,h⟩
theorem G1 {f:XV->XV->Option (List XD)}(h:l2 f vs=some ds): ∃v D,vs=[v,D]/\f v D=some ds:=by
 match vs,h with
 |[v,D],h=>exact⟨v,D,rfl,h⟩
def ln (P:Program) (g:FuncId) (p:tX):Prop:= ∀vs ds,(∀v∈vs,Bc v)->p vs=some ds->CallP P g vs (qm ds)
theorem IZ {f:Int->Nat->Option (List XD)}(h: ∀(x:Rat) ds,Rz 300 x->f x.num x.den=some ds-> ∃rs,Ok P g [dR x] rs/\OutL rs ds):ln P g (q1 f):=fun vs ds D I=>by obtain⟨v,rfl,h1⟩:=Gr I;obtain⟨x,J,R,h1⟩:=Cs (D v (by simp)) h1;obtain⟨rs,W,hl⟩:=h x ds R h1;exact si W ⟨J,trivial⟩ hl
theorem IH {f:Int->Nat->Int->Nat->Option (List XD)}(h: ∀(x y:Rat) ds,Rz 300 x->Rz 300 y->f x.num x.den y.num y.den=some ds-> ∃rs,Ok P g [dR x,dR y] rs/\OutL rs ds):ln P g (q2 f):=fun vs ds D hp=>by obtain⟨v,R,rfl,h1⟩:=G1 hp;obtain⟨x,I,J,h1⟩:=Cs (D v (by simp)) h1;obtain⟨y,W,s2,h1⟩:=Cs (D R (by simp)) h1;obtain⟨rs,ho,hl⟩:=h x y ds J s2 h1;exact si ho ⟨I,W,trivial⟩ hl
theorem M4 {f:Int->Option (List XD)}(h: ∀(x:Int) ds,(∀k,8<=k->Sz k x)->f x=some ds-> ∃rs,Ok P g [dI x] rs/\OutL rs ds):ln P g (z1 f):=fun vs ds D I=>by obtain⟨v,rfl,h1⟩:=Gr I;obtain⟨x,R,W,h1⟩:=HT (D v (by simp)) h1;obtain⟨rs,ho,hl⟩:=h x ds (fun k J=>DJ J W) h1;exact si ho ⟨R,trivial⟩ hl
theorem Er (h: ∀(x y:Int) ds,(∀k,8<=k->Sz k x)->(∀k,8<=k->Sz k y)->f x y=some ds-> ∃rs,Ok P g [dI x,dI y] rs/\OutL rs ds):ln P g (z2 f):=fun vs ds D hp=>by obtain⟨v,W,rfl,h1⟩:=G1 hp;obtain⟨x,J,R,h1⟩:=HT (D v (by simp)) h1;obtain⟨y,i2,s2,h1⟩:=HT (D W (by simp)) h1;obtain⟨rs,ho,hl⟩:=h x y ds (fun k I=>DJ I R) (fun k I=>DJ I s2) h1;exact si ho ⟨J,i2,trivial⟩ hl
theorem aaB {f:Int->Option (List XD)}(h: ∀(x:Int) ds,-9223372036854775808<=x->x<=9223372036854775807->f x=some ds-> ∃rs,Ok P g [.c (.i .i64 x)] rs/\OutL rs ds):ln P g (w1 f):=fun vs ds R D=>by obtain⟨v,rfl,h1⟩:=Gr D;obtain⟨x,I,a1,b1,h1⟩:=F7 h1;obtain⟨rs,J,hl⟩:=h x ds a1 b1 h1;exact si J ⟨I,trivial⟩ hl
theorem ags (h: ∀(x y:Int) ds,-9223372036854775808<=x->x<=9223372036854775807-> -9223372036854775808<=y->y<=9223372036854775807->f x y=some ds-> ∃rs,Ok P g [.c (.i .i64 x),.c (.i .i64 y)] rs/\OutL rs ds):ln P g (w2 f):=fun vs ds I R=>by obtain⟨v,v2,rfl,h1⟩:=G1 R;obtain⟨x,D,a1,b1,h1⟩:=F7 h1;obtain⟨y,J,a2,b2,h1⟩:=F7 h1;obtain⟨rs,W,hl⟩:=h x y ds a1 b1 a2 b2 h1;exact si W ⟨D,J,trivial⟩ hl
theorem M9 (n:Int):zZ (.c (.i .i64 n)) (xW n):=⟨trivial,fun _A _Z _w _β _v h=>CA.i _ _ _ _ _ _ _ h⟩
theorem JU (b:Bool):zZ (.c (.b b)) (O2 b):=⟨trivial,fun _A _Z _w _β _v h=>CA.b _ _ _ _ _ _ h⟩
theorem Hj (z:Int):(rZ z).ok/\CAs (cI z) (rZ z).flat/\(rZ z).flat.length=2/\ ∀x∈(rZ z).flat,puA x=true:=by
 cases z with
 |ofNat n=>exact⟨⟨rfl,trivial,trivial,fun _ x D=>by rcases dt.1 D with rfl|D;rfl;rw[gZ.1 D];rfl⟩,⟨by rw[show decide (Int.ofNat n<0)=false by simp];exact CA.b _,CA.l n,trivial⟩,rfl,fun x D=>by rcases dt.1 D with rfl|D;rfl;rw[gZ.1 D];rfl⟩
 |negSucc n=>exact⟨⟨rfl,trivial,trivial,fun _ x D=>by rcases dt.1 D with rfl|D;rfl;rw[gZ.1 D];rfl⟩,⟨by rw[show decide (Int.negSucc n<0)=true from decide_eq_true (Int.negSucc_lt_zero n)];exact CA.b _,(by
   have:cL (Int.negSucc n)=cL ((n+1:Nat):Int):=by unfold cL;rfl
   rw[this];exact CA.l _),trivial⟩,rfl,fun x D=>by rcases dt.1 D with rfl|D;rfl;rw[gZ.1 D];rfl⟩
theorem aac (h1:r.ok) (D:n=r.flat.length) (h:CAs us r.flat):zZ (.a us) (.a n r):=⟨⟨h1,D⟩,fun A Z w β v J=>by obtain⟨cs,e,I⟩:=J;exact⟨cs,e,h.reads I⟩⟩
theorem AW (z:Int):zZ (dI z) (xZ z):=by obtain⟨h1,D,I,_⟩:=Hj z;exact aac h1 I.symm D
theorem CAs.append: ∀ {us us':List CellD}{xs D:List AV},CAs us xs->CAs us' D->CAs (us++us') (xs++D)
 |[],_,[],_,_,h=>h
 |_::_,_,_::_,_,h,h'=>⟨h.1,h.2.append h'⟩
 |[],_,_::_,_,h,_=>h.elim
 |_::_,_,[],_,h,_=>h.elim
theorem Vk (z t:Int):zZ (dQ z t) (Vo z t):=by
 obtain⟨h1,I,D,h4⟩:=Hj z;obtain⟨R,W,J,g4⟩:=Hj t;refine aac ⟨D.symm,h1,R,fun _ x hx=>?_⟩ ?_ (I.append W);·grind
 .show 4=((rZ z).flat++(rZ t).flat).length;simp[D,J]
theorem R6 {x:Rat}{n:Int}{d:Nat}(D:x.num=n) (I:x.den=d):zZ (dR x) (xQ n d):=by subst D I;exact Vk x.num (x.den:Int)
theorem acX {z:Int}{g:Nat}(I:(g:Int)∣z):dvZ z g=z/g:=by
 cases z with
 |ofNat n=>rfl
 |negSucc n=>
  show-((((n+1)/g:Nat):Int))=_;obtain⟨c,D⟩:=I;by_cases h0:g=0;·grind
  .have h1:((n+1:Nat):Int)=g*(-c):=by rw[Int.mul_neg,<-D];rfl
   rw[D,Int.mul_ediv_cancel_left _ (by omega),Int.natCast_ediv,h1,Int.mul_ediv_cancel_left _ (by omega),Int.neg_neg]
theorem C8 (n:Int) {d:Nat}(D:d≠0):zZ (dR (mkRat n d)) (ZK n d):=by
 refine R6 ?_ ?_
 .rw[Rat.num_mkRat,if_neg D,Nat.gcd_comm];exact(acX (Int.ofNat_dvd_left.2 (Nat.gcd_dvd_left _ _))).symm
 .rw[Rat.den_mkRat,if_neg D,Nat.gcd_comm];rfl
theorem U4 (h: ∀ {x y:Rat},Rz 300 x->Rz 300 y->Ok P g [dR x,dR y] [dR (x+y)]):ln P g R7:=IH fun x y ds I J D=>by injection D with D;subst D;exact⟨_,h I J,by rw[Rat.add_def'];exact C8 _ (Nat.mul_ne_zero x.den_nz y.den_nz),trivial⟩
theorem Vd (h: ∀ {x y:Rat},Rz 300 x->Rz 300 y->Ok P g [dR x,dR y] [dR (x-y)]):ln P g R2:=IH fun x y ds I J D=>by injection D with D;subst D;exact⟨_,h I J,by rw[Rat.sub_def'];exact C8 _ (Nat.mul_ne_zero x.den_nz y.den_nz),trivial⟩
theorem Ue (h: ∀ {x y:Rat},Rz 300 x->Rz 300 y->Ok P g [dR x,dR y] [dR (x*y)]):ln P g Rv:=IH fun x y ds I J D=>by injection D with D;subst D;exact⟨_,h I J,by rw[Rat.mul_def'];exact C8 _ (Nat.mul_ne_zero x.den_nz y.den_nz),trivial⟩
theorem RB (h: ∀ {x:Rat},Rz 300 x->Ok P g [dR x] [dR (-x)]):ln P g S6:=IZ fun x ds I D=>by injection D with D;subst D;exact⟨_,h I,R6 rfl rfl,trivial⟩
theorem Sm (h: ∀ {x:Rat},Rz 300 x->Ok P g [dR x] [.c (.b true)]):ln P g NH:=IZ fun x ds I D=>by injection D with D;subst D;exact⟨_,h I,JU true,trivial⟩
end
section
variable {P:Program}{g:FuncId}
theorem GH (x y:Int):cmZ x y=dT x y:=by
 unfold cmZ dT;rw[nl,nl];by_cases h:x<y;·rw[decide_eq_true h,if_pos h];rfl
 .rw[decide_eq_false h,if_neg h];by_cases D:y<x;·rw[decide_eq_true D,if_pos D];rfl
  .rw[decide_eq_false D,if_neg D];rfl
theorem zU {a b:Int}(h:a=b):zZ (.c (.i .i64 a)) (xW b):=by subst h;exact M9 a
theorem abZ {a b:Bool}(h:a=b):zZ (.c (.b a)) (O2 b):=by subst h;exact JU a
theorem RP {a b:Int}(h:a=b):zZ (dI a) (xZ b):=by subst h;exact AW a
theorem Qn (h: ∀ {x y:Rat},Rz 300 x->Rz 300 y->Ok P g [dR x,dR y] [.c (.i .i64 (aG x y))]):ln P g S8:=IH fun x y ds I J D=>by injection D with D;subst D;exact⟨_,h I J,zU (by rw[GH];exact tp.symm),trivial⟩
theorem MZ (h: ∀ {x:Rat},Ok P g [dR x] [.c (.i .i64 (aG x 0))]):ln P g Ls:=IZ fun x ds I D=>by injection D with D;subst D;exact⟨_,h,zU (by rw[GH,<-uU]),trivial⟩
theorem NO (h: ∀ {n:Int},-9223372036854775808<=n->n<=9223372036854775807->Ok P g [.c (.i .i64 n)] [dR (n:Rat)]):ln P g LK:=aaB fun x ds h1 I D=>by injection D with D;subst D;exact⟨_,h h1 I,R6 rfl rfl,trivial⟩
theorem Sv (h: ∀ {x:Int},Ok P g [dI x] [.c (.i .i64 (dT x 0))]):ln P g Rj:=M4 fun x ds I D=>by injection D with D;subst D;exact⟨_,h,zU (GH _ _).symm,trivial⟩
theorem YX (h: ∀ {x y:Int},Sz 100000000 x->Sz 100000000 y->Ok P g [dI x,dI y] [.c (.i .i64 (dT x y))]):ln P g ZV:=Er fun x y ds I J D=>by injection D with D;subst D;exact⟨_,h (I _ (by decide)) (J _ (by decide)),zU (GH _ _).symm,trivial⟩
theorem P9 (h: ∀ {x:Int},-9223372036854775808<=x->x<=9223372036854775807->Ok P g [.c (.i .i64 x)] [dI x]):ln P g SG:=aaB fun x ds h1 I D=>by injection D with D;subst D;exact⟨_,h h1 I,AW _,trivial⟩
theorem WA (h: ∀ {x:Int},Sz 100000000 x->Ok P g [dI x] [dI (-x)]):ln P g Z0:=M4 fun x ds I D=>by injection D with D;subst D;exact⟨_,h (I _ (by decide)),AW _,trivial⟩
theorem Yr (h: ∀ {x y:Int},Sz 40000000 x->Sz 40000000 y->Ok P g [dI x,dI y] [dI (x*y)]):ln P g aal:=Er fun x y ds I J D=>by injection D with D;subst D;exact⟨_,h (I _ (by decide)) (J _ (by decide)),AW _,trivial⟩
theorem W0 (h: ∀ {x y:Int},Sz 90000000 x->Sz 90000000 y->Ok P g [dI x,dI y] [dI (x+y)]):ln P g ZE:=Er fun x y ds I J D=>by injection D with D;subst D;exact⟨_,h (I _ (by decide)) (J _ (by decide)),AW _,trivial⟩
theorem VN (h: ∀ {x y:Int},Sz 100000 x->Sz 100000 y->Ok P g [dI x,dI y] [dI (Int.gcd x y:Int)]):ln P g ZJ:=Er fun x y ds I J D=>by injection D with D;subst D;exact⟨_,h (I _ (by decide)) (J _ (by decide)),AW _,trivial⟩
theorem KD (h: ∀ {x y:Int},Sz 100000 x->Sz 100000 y->y≠0->Ok P g [dI x,dI y] [dI (x.fdiv y),dI (x.fmod y),.c (.i .i64 0)]):ln P g Kl:=Er fun x y ds J R D=>by
 cases h0:LH y 0 with
 |true=>rw[h0] at D;cases D
 |false=>
  rw[h0] at D;injection D with D;subst D;have I:y≠0:=fun e=>by subst e;cases h0
  exact⟨_,h (J _ (by decide)) (R _ (by decide)) I,AW _,AW _,M9 0,trivial⟩
end
section
variable {P:Program}{g:FuncId}
theorem Fs (x y:Int):Rat.divInt x y=mkRat (Zo y x) y.natAbs:=by
 cases y with
 |ofNat n=>rfl
 |negSucc n=>exact Rat.normalize_eq_mkRat (by omega)
theorem Dg (h:LH y 0=false):y≠0:=fun e=>by subst e;cases h
theorem R5 {x:Int}(h:y≠0):zZ (dR (Rat.divInt x y)) (ZK (Zo y x) y.natAbs):=by rw[Fs];exact C8 _ (by omega)
theorem Wx (h: ∀ {x y:Int},Sz 999 x->Sz 999 y->y≠0->Ok P g [dI x,dI y] [dR (Rat.divInt x y),.c (.i .i64 0)]):ln P g UL:=Er fun x y ds I J D=>by
 cases h0:LH y 0 with
 |true=>rw[h0] at D;cases D
 |false=>rw[h0] at D;injection D with D;subst D;exact⟨_,h (I _ (by decide)) (J _ (by decide)) (Dg h0),R5 (Dg h0),M9 0,trivial⟩
theorem Y2 (h: ∀ {n d:Int},-9223372036854775808<=n->n<=9223372036854775807-> -9223372036854775808<=d->d<=9223372036854775807->d≠0->Ok P g [.c (.i .i64 n),.c (.i .i64 d)] [dR (Rat.divInt n d)]):ln P g UW:=ags fun x y ds h1 I R J D=>by
 cases h0:LH y 0 with
 |true=>rw[h0] at D;cases D
 |false=>rw[h0] at D;injection D with D;subst D;exact⟨_,h h1 I R J (Dg h0),R5 (Dg h0),trivial⟩
theorem XN (c a d:Int):Zo c (a*d)=a*Zo c d:=by
 cases c with
 |ofNat n=>rfl
 |negSucc n=>exact(Int.mul_neg a d).symm
theorem aa2 (x y:Rat):x/y=mkRat (Zo y.num (x.num*(y.den:Int))) (x.den*y.num.natAbs):=by rw[Rat.div_def,Rat.inv_def,Fs,XN,<-Rat.mkRat_mul_mkRat,Rat.mkRat_self]
theorem Uq (h: ∀ {x y:Rat},Rz 300 x->Rz 300 y->y≠0->Ok P g [dR x,dR y] [dR (x/y),.c (.i .i64 0)]):ln P g SD:=IH fun x y ds J R D=>by
 cases h0:LH y.num 0 with
 |true=>rw[h0] at D;cases D
 |false=>rw[h0] at D;injection D with D;subst D;have W:=Dg h0;have I:y≠0:=fun e=>W (by subst e;rfl);exact⟨_,h J R I,by rw[aa2];exact C8 _ (Nat.mul_ne_zero x.den_nz (by omega)),M9 0,trivial⟩
theorem SY (a:Int) {b:Nat}(D:b≠0):a.fdiv (b:Int)= @Int.rec (fun _=>Int) (fun n=>.ofNat (Nat.div n b)) (fun n=>.negSucc (Nat.div n b)) a:=by
 cases b with
 |zero=>exact absurd rfl D
 |succ b=>
  cases a with
  |ofNat n=>
   cases n with
   |zero=>show(0:Int)=Int.ofNat (0/(b+1));simp
   |succ n=>rfl
  |negSucc n=>rfl
theorem RQ (h: ∀ {x:Rat},Rz 300 x->Ok P g [dR x] [dI (x.num.fdiv (x.den:Int))]):ln P g Ob:=IZ fun x ds I D=>by injection D with D;subst D;exact⟨_,h I,RP (SY _ x.den_nz),trivial⟩
end
section
variable {P:Program}{g:FuncId}
theorem DP {f:Nat->Option (List XD)}(h:Z1 n f=some ds): ∃s:Nat,bm (n:Int)=(s:Int)/\f s=some ds:=by
 unfold Z1 sqT at h;obtain⟨h1,D⟩:=bD h;obtain⟨J,I⟩:=bD D;refine⟨_,qk (by omega) (by omega) ?_ ?_,I⟩;·have:=fU h1;exact_mod_cast this
 .have:=dj.1 J;exact_mod_cast this
theorem T9 (h: ∀ {x:Int},Sz 999 x->Ok P g [dI x] [dI (bm x),.c (.i .i64 (if x<0 then 7 else 0))]):ln P g Uj:=M4 fun x ds J I=>by
 cases x with
 |negSucc n=>cases I
 |ofNat n=>obtain⟨s,h1,D⟩:=DP (show Z1 n (fun s=>some [xZ (.ofNat s),xW 0])=some ds from I);injection D with D;subst D;exact⟨_,h (J _ (by decide)),RP h1,zU (if_neg (by simp)),trivial⟩
theorem Nm {s:Nat}(h:bm (n:Int)=(s:Int)):Bw (n:Int)=Nat.beq (Nat.mul s s) n:=by
 unfold Bw;rw[h];cases D:Nat.beq (Nat.mul s s) n with
 |true=>have:=dF D;rw[beq_iff_eq];exact_mod_cast this
 |false=>have:=Nat.ne_of_beq_eq_false D;rw[beq_eq_false_iff_ne];exact fun e=>this (by exact_mod_cast e)
theorem HB {z t D I:Int}(h1:z=D) (J:t=I):zZ (dQ z t) (Vo D I):=by subst h1 J;exact Vk z t
theorem NA (h: ∀ {x:Rat},Rz 300 x->Ok P g [dR x] [dQ (if jy x then bm x.num else 0) (if jy x then bm (x.den:Int) else 0),.c (.b (jy x))]):ln P g Ll:=IZ fun x ds hx I=>by
 refine⟨_,h hx,?_⟩;cases J:x.num with
 |negSucc n=>
  rw[J] at I;have I:some [Vo 0 0,O2 false]=some ds:=I;injection I with I;subst I;have hs:jy x=false:=by unfold jy;rw[J,HP (Int.negSucc_lt_zero n)];rfl
  rw[hs];exact⟨HB (if_neg (by simp)) (if_neg (by simp)),JU false,trivial⟩
 |ofNat n=>
  rw[J] at I;obtain⟨s,h1,h2⟩:=DP (show Z1 n (fun s=>Z1 x.den fun t=>bI (bA (Nat.beq (Nat.mul s s) n) (Nat.beq (Nat.mul t t) x.den)) (some [Vo s t,O2 true]) (some [Vo 0 0,O2 false]))=some ds from I);obtain⟨t,R,D⟩:=DP h2;have hs:jy x=bA (Nat.beq (Nat.mul s s) n) (Nat.beq (Nat.mul t t) x.den):=by unfold jy;rw[J,show Int.ofNat n=(n:Int) from rfl,Nm h1,Nm R];cases Nat.beq (Nat.mul s s) n<;>rfl
  cases W:bA (Nat.beq (Nat.mul s s) n) (Nat.beq (Nat.mul t t) x.den) with
  |true=>rw[W] at D hs;have D:some [Vo s t,O2 true]=some ds:=D;injection D with D;subst D;rw[hs];exact⟨HB ((if_pos rfl).trans h1) ((if_pos rfl).trans R),JU true,trivial⟩
  |false=>rw[W] at D hs;have D:some [Vo 0 0,O2 false]=some ds:=D;injection D with D;subst D;rw[hs];exact⟨HB (if_neg (by simp)) (if_neg (by simp)),JU false,trivial⟩
end
def cF2 (P:Program) (r:Nat×Bool×Nat):Option XF:=match P.funcs[r.1]? with
 |some fn=>cF P r.2.1 r.2.2 fn
 |none=>none
def ZX (P:Program) (ps:List (Nat×tX)) (rs:List (Nat×Bool×Nat)):Env:=⟨SO ps,SO (rs.map fun r=>(r.1,cF2 P r))⟩
def PrAll (P:Program):List (Nat×tX)->Prop
 |[]=>True
 |p::r=>ln P p.1 p.2/\PrAll P r
theorem PrAll.get: ∀ {l:List (Nat×tX)},PrAll P l-> ∀ {k:Nat}{p:tX},(k,p)∈l->ln P k p
 |[],_,_,_,h=>by cases h
 |q::r,hl,k,p,h=>by
  rcases dt.1 h with e|h
  .have h1:=hl.1;rw[<-e] at h1;exact h1
  .exact hl.2.get h
theorem RH {ps:List (Nat×tX)}{rs:List (Nat×Bool×Nat)}(hp:PrAll P ps) (hc:(rs.all fun r=>dk P r.1)=true):EnvOk P (ZX P ps rs):=by
 refine⟨fun g p vs ds J hv W=>hp.get (CE ps g J) vs ds hv W,fun g F J=>?_⟩;obtain⟨r,hr,e⟩:=nZ.1 (CE _ g J);injection e with e1 D;have I:dk P g=true:=by rw[<-e1];exact mJ.1 hc r hr
 unfold cF2 at D;rw[e1] at D;cases R:P.funcs[g]? with
 |none=>rw[R] at D;cases D
 |some fn=>rw[R] at D;exact⟨r.2.1,r.2.2,fn,D,rfl,I⟩
structure Mm where
 g:Nat
 ns:List Int
 N:Nat
 H:Tr Bx
 x:XV
 N':Nat
 H':Tr Bx
def O8:List Int->List XV
 |[]=>[]
 |n::ns=>.c (.i .i64 n)::O8 ns
def wEq (n:Int):XV->Bool
 | .c (.i k i)=>Nat.beq (kN k) 3&&LH n i
 |_=>false
def abf (ns:List Int):List XV->Bool:=@List.rec Int (fun _=>List XV->Bool) (fun vs=>@List.rec XV (fun _=>Bool) true (fun _ _ _=>false) vs) (fun n _ ih vs=>@List.rec XV (fun _=>Bool) false (fun v vs _=>bA (wEq n v) (ih vs)) vs) ns
def WM (H:Tr Bx):Tr Bx->Bool:=@Tr.rec Bx (fun _=>Tr Bx->Bool) (fun K=>@Tr.rec Bx (fun _=>Bool) true (fun _ _ _ _ _=>false) K) (fun _ v _ R D K=>@Tr.rec Bx (fun _=>Bool) false (fun I v' J _ _=>bA (R I) (bA (Ec v v') (D J))) K) H
theorem aa7 {n:Int}{v:XV}(h:wEq n v=true):v=.c (.i .i64 n):=by
 unfold wEq at h;split at h
 .rename_i k i;rw[di] at h;have h1:k=.i64:=by cases k<;>first|rfl|exact absurd h.1 (by decide)
  have D:=h.2;rw[CN] at D;have I:n=i:=by simpa using D
  rw[h1,I]
 .cases h
theorem M5: ∀ {ns:List Int}{vs:List XV},abf ns vs=true->vs=O8 ns
 |[],[],_=>rfl
 |n::ns,v::vs,h=>by have h:=oV (show bA (wEq n v) (abf ns vs)=true from h);rw[aa7 h.1,M5 h.2];rfl
 |[],_::_,h=>by cases h
 |_::_,[],h=>by cases h
theorem GF: ∀ {H K:Tr Bx},WM H K=true-> ∀k,Ec (H.get k) (K.get k)=true
 | .e,.e,_,k=>rfl
 | .n l v r,.n l' v' r',h,k=>by
   obtain⟨D,R⟩:=oV (show bA (WM l l') (bA (Ec v v') (WM r r'))=true from h);obtain⟨I,J⟩:=oV R;show Ec (@Bool.rec (fun _=>Option Bx) (@Bool.rec (fun _=>Option Bx) (r.get (Nat.div k 2)) (l.get (Nat.div k 2)) (Nat.beq (Nat.mod k 2) 1)) v (Nat.beq k 0)) (@Bool.rec (fun _=>Option Bx) (@Bool.rec (fun _=>Option Bx) (r'.get (Nat.div k 2)) (l'.get (Nat.div k 2)) (Nat.beq (Nat.mod k 2) 1)) v' (Nat.beq k 0))=true;cases Nat.beq k 0 with
   |true=>exact I
   |false=>
    cases Nat.beq (Nat.mod k 2) 1 with
    |true=>exact GF D _
    |false=>exact GF J _
 | .e,.n _ _ _,h,_=>by cases h
 | .n _ _ _,.e,h,_=>by cases h
def adn (m:Mm) (g:Nat) (vs:List XV) (N:Nat) (H:Tr Bx):Bool:=bA (Nat.beq m.g g) (bA (abf m.ns vs) (bA (Nat.beq m.N N) (WM m.H H)))
def J2 (ms:List Mm) (g:Nat) (vs:List XV) (N:Nat) (H:Tr Bx):Option Cr:=@List.rec Mm (fun _=>Option Cr) none (fun m _ ih=>@Bool.rec (fun _=>Option Cr) ih (some (.h m.x m.N' m.H')) (adn m g vs N H)) ms
def Mc (E:Env) (et:Nat) (ih:fV):fV:=fun g vs N H=>
 @Option.rec (List XD) (fun _=>Cr) (@Option.rec XF (fun _=>Cr) .no (fun F=>A7 F ih et vs N H) (oO (E.fs.get g) fun x=>x)) (fun ds=>.p (qm ds)) (oO (E.pr.get g) fun p=>p vs)
def Mw (E:Env) (ms:List Mm) (et depth:Nat):fV:=
 @Nat.rec (fun _=>fV) (fun _ _ _ _=>.no) (fun _ ih g vs N H=>@Option.rec Cr (fun _=>Cr) (Mc E et ih g vs N H) (fun c=>c) (J2 ms g vs N H)) depth
section
variable {P:Program}
def VT (P:Program) (ms:List Mm):Prop:= ∀m∈ms,CallH P m.g (O8 m.ns) m.N m.H m.x m.N' m.H'
theorem Jf (I:P.follows .mixedOrders=true) (hE:EnvOk P E) (R:jU P ih):jU P (Mc E et ih):=fun f vs N H D hO hL=>by
 have e1:Mc E et ih f vs N H= @Option.rec (List XD) (fun _=>Cr) (@Option.rec XF (fun _=>Cr) .no (fun F=>A7 F ih et vs N H) (oO (E.fs.get f) fun x=>x)) (fun ds=>.p (qm ds)) (oO (E.pr.get f) fun p=>p vs):=rfl;cases W:(oO (E.pr.get f) fun p=>p vs) with
 |some ds=>rw[e1,W];obtain⟨p,h1,J⟩:=aE W;refine⟨fun x h=>?_,fun x N' H' h=>(by cases h)⟩;injection h with h;subst h;exact hE.pr f p vs ds h1 D J
 |none=>
  rw[e1,W];cases hF:(oO (E.fs.get f) fun x=>x) with
  |none=>exact⟨fun x h=>(by cases h),fun x N' H' h=>(by cases h)⟩
  |some F=>obtain⟨y,h1,J⟩:=aE hF;subst J;obtain⟨pu,m,fn,h3,h4,h5⟩:=hE.fs f F h1;exact AQ I R h3 h4 h5 D hO hL
theorem CallH.same {f:FuncId}{K:Tr Bx}(h:CallH P f vs N H x N' H') (e:HS H=HS K):CallH P f vs N K x N' H':=by obtain⟨h1,I,W,R,J,D⟩:=h;rw[e] at D;exact⟨h1,I,W,R,J,D⟩
theorem KN {ms:List Mm}(hm:VT P ms) {g:Nat}{c:Cr}(h:J2 ms g vs N H=some c): ∃x N' H',c=.h x N' H'/\CallH P g vs N H x N' H':=by
 induction ms with
 |nil=>cases h
 |cons m ms ih=>
  have D: @Bool.rec (fun _=>Option Cr) (J2 ms g vs N H) (some (.h m.x m.N' m.H')) (adn m g vs N H)=some c:=h;cases R:adn m g vs N H with
  |false=>rw[R] at D;exact ih (fun m' h'=>hm m' (fv _ h')) D
  |true=>rw[R] at D;have I:some (Cr.h m.x m.N' m.H')=some c:=D;injection I with J;obtain⟨q1,q2⟩:=oV R;obtain⟨q3,q4⟩:=oV q2;obtain⟨W,q6⟩:=oV q4;have q1:=dF q1;have W:=dF W;subst q1 W;rw[M5 q3];exact⟨_,_,_,J.symm,(hm m (fC ..)).same (funext fun k=>F4 (GF q6 k))⟩
theorem A3 (D:P.follows .mixedOrders=true) {E:Env}(J:EnvOk P E) {ms:List Mm}(hm:VT P ms) {et:Nat}: ∀depth,jU P (Mw E ms et depth)
 |0=>fun f vs N H _ _ _=>⟨fun x h=>(by cases h),fun x N' H' h=>(by cases h)⟩
 |d+1=>fun f vs N H I W hL=>by
  have e1:Mw E ms et (d+1) f vs N H= @Option.rec Cr (fun _=>Cr) (Mc E et (Mw E ms et d) f vs N H) (fun c=>c) (J2 ms f vs N H):=rfl;rw[e1];cases hf:J2 ms f vs N H with
  |none=>exact Jf D J (A3 D J hm d) f vs N H I W hL
  |some c=>obtain⟨x,N',H',rfl,hc⟩:=KN hm hf;refine⟨fun y h=>(by cases h),fun y M K h=>?_⟩;injection h with h1 R h3;subst h1 R h3;exact hc
def Yp (H:Tr Bx) (ks:List Nat):Option (List Bx):=@List.rec Nat (fun _=>Option (List Bx)) (some []) (fun k _ ih=>oO (H.get k) fun b=>oO ih fun D=>some (b::D)) ks
def crP (c:Cr) (ks:List Nat):Option (XV×Nat×List Bx):=@Cr.rec (fun _=>Option (XV×Nat×List Bx)) none (fun _=>none) (fun x N H=>oO (Yp H ks) fun D=>some (x,N,D)) c
def yT:List Nat->List Bx->Tr Bx
 |k::ks,b::bs=>(yT ks bs).set b k
 |_,_=>.e
theorem EV {H:Tr Bx}: ∀ {ks:List Nat}{D:List Bx},Yp H ks=some D-> ∀k b,(yT ks D).get k=some b->H.get k=some b
 |[],D,h,k,b,hk=>by injection h with h;subst h;cases hk
 |k0::ks,D,h,k,b,hk=>by
  obtain⟨b0,h1,W⟩:=aE (show oO (H.get k0) (fun b=>oO (Yp H ks) fun D=>some (b::D))=some D from h);obtain⟨J,h3,I⟩:=aE W;injection I with I;subst I;rcases Tr.set_get (yT ks J) k0 k hk with⟨e1,R⟩|⟨_,R⟩;·rw[e1,R];exact h1
  .exact EV h3 k b R
theorem N9 (hc:jU P call) {f:FuncId}{J:List Bx}(a3: ∀v∈vs,Bc v) (hO:jJ H) (hL:jN N H) (h:crP (call f vs N H) ks=some (x,N',J)):CallH P f vs N H x N' (yT ks J):=by
 cases R:call f vs N H with
 |no=>rw[R] at h;cases h
 |p y=>rw[R] at h;cases h
 |h y M K=>
  rw[R] at h
  obtain⟨I,h1,W⟩:=aE (show oO (Yp K ks) (fun J=>some (y,M,J))=some (x,N',J) from h)
  injection W with W
  injection W with h3 h4
  injection h4 with h4 h5
  subst h3 h4 h5
  have hg:=EV h1
  have hs: ∀k c,HS (yT ks I) k=some c->HS K k=some c:=by
   intro k c D;unfold HS at D⊢;cases h9:(yT ks I).get k with
   |none=>rw[h9] at D;cases D
   |some b=>rw[h9] at D;rw[hg k b h9];exact D
  obtain⟨q1,q2,q3,q4,q5,q6⟩:=(hc f vs N H a3 hO hL).2 _ _ _ R
  refine⟨q1,q2,q3,fun k b D=>q4 k b (hg k b D),fun k b D=>q5 k b (hg k b D),fun V A β args w hA hm hx=>?_⟩
  refine(q6 V A β args w hA hm hx).mono fun e w' ⟨v,A',β',e1,e2,e3,e4,e5,e6⟩=>?_
  have a4:Keep (Zs V (HS K) β') (Zs V (HS (yT ks I)) β') w' w':=⟨Nat.le_refl _,fun _ _ _=>rfl,fun b _ hb=>hb.imp id fun⟨k,D,e⟩=>⟨k,(by
   cases q:HS (yT ks I) k with
   |none=>exact absurd q D
   |some c=>rw[hs k c q];simp),e⟩⟩
  exact⟨v,A',β',e1,e2,e3,e4.sub hs,e5.less hs,e6.mono a4 (fun _ h=>h) (fun _ _=>rfl)⟩
theorem FV: ∀ {ns:List Int}(v:XV),v∈O8 ns->Bc v
 |[],v,h=>by cases h
 |n::ns,v,h=>by
  rcases dt.1 h with rfl|h;·trivial
  .exact FV v h
theorem O5 {ms:List Mm}(D:P.follows .mixedOrders=true) (hE:EnvOk P E) (hm:VT P ms) {depth f:Nat}{v:Bool}(h:Mw E ms et depth f [] 0 .e=.p (.c (.b v))):Ok P f [] [.c (.b v)]:=by have R:=((A3 D hE hm depth) f [] 0 .e (fun v J=>by cases J) FH GT).1 _ h;refine⟨R.cal,fun av vs w I hr=>?_⟩;have hn:vs.toList=[]:=Hg hr.1;refine(R.run av (fun _=>False) (fun _=>⟨0,0⟩) vs w I (by rw[hn];exact⟨rfl,fun j v x J=>by simp at J⟩)).mono fun e w' ⟨v',h1,W,h3⟩=>?_;refine⟨v',h1,?_,h3⟩;have h4:RdA (fun _=>False) av w' (fun _=>⟨0,0⟩) v' (.b v):=W _ _;exact AC.b v _ _ _ _ _ h4
end
section
variable {P:Program}{g:FuncId}
theorem To (h: ∀ {x:Int},Sz 100000000 x->Ok P g [dI x] [.c (.i .i64 (if ud x then x else 0)),.c (.b (ud x))]):ln P g Nd:=M4 fun x ds R D=>by
 have D:bI (xv x (-9223372036854775808)) none (bI (xv 9223372036854775807 x) none (some [xW x,O2 true]))=some ds:=D;rw[iM,iM,nl,nl] at D;by_cases h1:x< -9223372036854775808;·rw[decide_eq_true h1,if_pos rfl] at D;cases D
 .rw[decide_eq_false h1,if_neg (by decide)] at D;by_cases I:9223372036854775807<x;·rw[decide_eq_true I,if_pos rfl] at D;cases D
  .rw[decide_eq_false I,if_neg (by decide)] at D;injection D with D;subst D;have J:=LA h1 I;exact⟨_,h (R _ (by decide)),zU (by rw[J];exact if_pos rfl),abZ J,trivial⟩
end
def yQ:List (Nat×tX):=[(50,R7),(45,R2),(111,Rv),(288,SD),(112,S6),(42,S8),(38,Ls),(87,LK),(164,Ob),(353,UL),(292,Ll),(94,R7),(269,R2),(95,Rv),(323,SD),(284,S6),(98,S8),(91,Ls),(30,LK),(32,UW),(92,Ll),(232,NH),(105,Rj),(109,ZV),(170,SG),(165,Z0),(110,aal),(118,ZE),(246,Kl),(193,ZJ),(247,Uj),(163,Nd)]
def Ho:List (Nat×Bool×Nat):=[(6,true,1125899906842368),(9,true,2216606850670720),(10,true,2342663876815506890496),(11,true,32760),(12,true,9007164626501504),(13,true,1016),(17,false,4398046510464),(19,true,8160),(21,true,520128),(23,false,128830136002),(24,false,134217528),(25,false,4032),(26,true,274877906880),(27,true,4685400655653207277056),(28,true,2040),(29,true,535820256),(31,true,1073212416),(34,true,137304734720),(35,true,524256),(36,true,1016),(37,true,8796093013888),(39,true,480),(40,true,4722366482869644681216),(41,true,480),(43,true,541030611968),(44,true,1099478007296),(46,true,170141183460469231731651204550052804608),(47,true,16777184),(48,true,32128),(52,false,2658453451316871132205038193350799360),(53,false,72057525310044168),(54,true,4191712),(55,false,8795823538048),(56,false,4397509111564),(57,false,234),(58,true,32736),(59,true,2199023254272),(60,false,4072),(61,true,261920),(65,false,140733191411976),(66,true,262136),(68,true,17045634816),(69,true,130976),(70,true,274876858112),(72,true,18014364149739512),(73,true,2233767818627643138),(74,false,1125898833096642),(75,false,20767918545523485135596689991645186),(76,false,140736280329090),(77,false,590295809224297346050),(78,false,17592185913328),(79,false,880),(80,false,8096),(81,true,492),(82,true,272730422784),(83,true,17112759072),(84,true,72048789883946240),(85,true,524224),(86,true,2040),(88,true,131064),(93,true,120),(96,true,2080640),(100,true,299794640011520261908062208),(101,true,1099478007296),(102,true,224),(103,true,224),(104,true,224),(106,true,120),(107,true,38373713921438564727213981696),(113,true,82412135736188904041465274988559857664),(114,true,224),(115,true,56),(116,true,2),(117,true,536346304),(121,true,8355584),(123,true,4191712),(124,false,1099376359360),(125,true,16777184),(126,false,18446603335147452168),(127,true,520128),(128,true,262136),(129,true,35184303928832),(130,true,16777184),(131,true,4398046511072),(132,false,8379264),(133,false,73786971896790252544),(134,false,144115188038106624),(135,true,457804),(136,true,232),(137,true,2145384448),(138,false,508),(139,true,960),(140,false,73786413310256577292),(141,true,480),(142,true,492),(143,true,112),(144,true,549486788576),(145,true,274877861888),(146,true,492),(147,true,240),(149,true,8386496),(151,false,67645733762),(152,true,224),(153,true,2305838606872215528),(154,true,4194296),(155,true,268435448),(156,true,130976),(157,true,480),(158,true,1065336704),(159,true,536870880),(160,false,38683264972351511461869568),(161,false,2164663252930),(162,false,160991621694332718744134739591712),(166,true,63436),(167,true,1073741634),(168,true,72048728684359692),(175,true,2),(182,true,2),(183,true,133168160),(184,true,1016),(185,true,1048288),(186,true,2),(187,true,1095216644096),(192,true,262056),(194,true,2),(195,true,65472),(198,true,134217664),(199,true,4397912293248),(200,true,2040),(203,true,134217696),(204,true,35184372088800),(205,false,67042176),(206,false,19040581658860040755331072),(207,false,9007130535263744),(208,true,480),(209,true,1016),(210,true,1016),(211,true,511703040),(212,true,4194296),(213,true,4088),(214,true,480),(215,true,524256),(216,true,34359737088),(217,true,2251799813684224),(218,true,224),(219,true,224),(220,true,16320),(221,true,225024),(222,true,58),(223,true,4026268672),(224,false,9205357602911804472),(225,true,457804),(226,true,1073212416),(227,true,549688700800),(228,false,9007182074854640),(230,true,2287828592379265024),(231,true,1208556884733154979333440),(233,true,992),(234,true,480),(235,true,1116892393921035776),(236,true,4194272),(237,false,234),(238,true,3458763964056330252),(239,false,8589868856),(240,false,16364),(241,false,68215103634),(242,false,9007196980433472),(243,true,35184372087552),(244,true,20769177530013426516628044935373064),(245,true,992),(248,true,2251799813668876),(249,true,1002),(264,true,137438683136),(265,true,24),(266,true,224),(267,true,224),(268,true,224),(271,true,524256),(272,true,1152921504606844416),(273,true,2097088),(274,true,16376),(275,true,16320),(276,true,524160),(277,true,224),(278,true,224),(279,true,65504),(280,true,162259276829213363039734289268480),(281,true,2097120),(282,true,64896),(283,true,502529024),(285,true,131064),(286,true,224),(287,true,562949953421184),(289,true,16777152),(290,false,9007182074854640),(291,false,1671831826720280358868393332158590220324288833552426328065262486496),(293,true,32128),(294,true,61432),(296,true,1968),(297,true,536835968),(298,true,536837888),(299,true,2147221184),(300,true,140737488223232),(301,true,4088),(303,true,233701344),(304,true,65504),(305,true,2199023255424),(306,true,295145090429585437760),(307,true,536534912),(308,true,4191712),(309,false,356811880641193946689691826088336933575984096),(310,true,250),(311,false,134152108),(312,true,8388576),(313,true,8998402087972864),(314,true,18446462598728383488),(315,false,4874388766335463507745424384),(316,true,1143913721236427312),(322,true,224),(324,true,4397710966272),(325,true,33554368),(326,true,114560),(327,false,288230376142271456),(330,true,880),(331,true,67108288),(332,true,65504),(333,true,8184),(334,true,16352),(335,true,8388480),(336,true,32760),(337,true,536870624),(338,true,140737488223232),(339,true,4088),(340,true,88),(341,false,1152921496014807280),(342,false,147573917370944446704),(343,true,7890306461253730544),(344,false,17179835632),(345,true,2787571881499075797774052896007796375347440),(346,true,1237938821800130672580355040),(347,true,383123885193474569774374055887950278561850630313329632),(348,true,524010),(349,true,33537770),(350,true,8108),(351,true,549722250112),(352,false,32505728),(354,true,590295528883728907520),(356,true,16352),(357,false,274877897696),(358,true,56),(359,true,4194272),(360,true,1016),(361,true,536837888),(362,true,4080),(363,true,480),(364,true,2),(365,true,67108288),(366,false,4835702990227041035219936),(367,true,122),(368,true,8589934586),(369,true,261872),(370,true,2199023251392),(371,true,18889465913882099754112),(372,true,4290769888),(373,true,2016)]
theorem Ed:PrAll Tryz.prog yQ:=⟨U4 Xm,Vd WG,Ue Xj,Uq WN,RB WH,Qn XL,MZ rK,NO yS,RQ OQ,Wx U7,NA R3,U4 Yk,Vd Wh,Ue YQ,Uq XT,RB VZ,Qn XQ,MZ pf,NO rL,Y2 mF,NA QT,Sm (fun h=>UM (h.mono (by decide))),Sv uj,YX (fun _ _=>mH),P9 mz,WA (fun h=>xx (h.mono (by decide))),Yr (fun h g=>jo (h.mono (by decide)) (g.mono (by decide))),W0 (fun h g=>yg (h.mono (by decide)) (g.mono (by decide))),KD (fun h g=>pg (h.mono (by decide)) (g.mono (by decide))),VN (fun h g=>FU (h.mono (by decide)) (g.mono (by decide))),T9 (fun h=>Dr (h.mono (by decide))),To vD,trivial⟩
theorem o6:EnvOk Tryz.prog (ZX Tryz.prog yQ Ho):=RH Ed (by kernel_rfl)
def qB0 (D:Nat):Rp:=Rp.n 1 true (Rp.c (AV.b false)) (Rp.c (AV.l D))
def WO (D I:Nat):Rp:=Rp.n 2 true (qB0 D) (qB0 I)
def ZR (D I:Nat):Rp:=Rp.n 2 true (Rp.n 1 true (Rp.c (AV.b true)) (Rp.c (AV.l D))) (qB0 I)
def qB3 (R x2 I D J W:Nat):Rp:=Rp.n 4 true (WO R x2) (Rp.n 4 true (WO I D) (WO J W))
def qB4 (x1 x2 R I W x6 x7 J x9 D:Nat):Rp:=Rp.n 4 true (WO x1 x2) (Rp.n 4 true (WO R I) (qB3 W x6 x7 J x9 D))
def Zq (x1 x2 x3 x4 x5 x6 x7 x8 x9 R D b3 a5 a9 a6 J W a3 I a4:Nat):Rp:=Rp.n 1 true (Rp.c (AV.b false)) (Rp.n 1 true (Rp.c AV.z) (Rp.n 1 true (Rp.c (AV.b false)) (Rp.n 1 true (Rp.c AV.z) (Rp.n 1 true (Rp.c (AV.b false)) (Rp.n 1 true (Rp.c AV.z) (Rp.n 1 true (Rp.c (AV.b false)) (Rp.n 1 true (Rp.c AV.z) (Rp.n 1 true (Rp.c (AV.b false)) (Rp.n 1 true (Rp.c AV.z) (Rp.n 1 true (Rp.c (AV.b false)) (Rp.n 1 true (Rp.c AV.z) (Rp.n 1 true (Rp.c (AV.b false)) (Rp.n 20 true (qB4 x1 x2 x3 x4 x5 x6 x7 x8 x9 R) (qB4 D b3 a5 a9 a6 J W a3 I a4))))))))))))))
def ij:Bx:=(.mk 53 264 (Rp.n 198 true (Rp.n 132 true (Rp.n 66 true (Rp.n 1 true (Rp.c (AV.b false)) (Rp.n 12 true (qB3 0 1 2 1 0 1) (Zq 0 1 0 1 0 1 0 1 0 1 2 1 0 1 0 1 0 1 0 1))) (Rp.n 1 true (Rp.c (AV.b false)) (Rp.n 12 true (qB3 2 1 0 1 0 1) (Zq 0 1 0 1 0 1 0 1 0 1 0 1 0 1 2 1 0 1 0 1)))) (Rp.n 1 true (Rp.c (AV.b false)) (Rp.n 12 true (Rp.n 4 true (WO 0 1) (Rp.n 4 true (ZR 2 1) (ZR 4 1))) (Zq 0 1 0 1 2 1 0 1 0 1 2 1 0 1 2 1 0 1 0 1)))) (Rp.n 1 true (Rp.c (AV.b false)) (Rp.n 12 true (Rp.n 4 true (ZR 2 1) (Rp.n 4 true (WO 0 1) (ZR 4 1))) (Zq 2 1 0 1 0 1 0 1 0 1 2 1 0 1 2 1 0 1 0 1)))))
def wz:XV:=(XV.a 1 (Rp.c (AV.s 306 0 4 4 false 66)))
def tY:Bx:=(.mk 53 264 (Rp.n 198 true (Rp.n 132 true (Rp.n 66 true (Rp.n 1 true (Rp.c (AV.b false)) (Rp.n 12 true (qB3 0 1 2 1 2 1) (Zq 1 1 0 1 1 1 0 1 0 1 3 1 0 1 1 1 0 1 0 1))) (Rp.n 1 true (Rp.c (AV.b false)) (Rp.n 12 true (qB3 2 1 0 1 2 1) (Zq 1 1 0 1 1 1 0 1 0 1 1 1 0 1 3 1 0 1 0 1)))) (Rp.n 1 true (Rp.c (AV.b false)) (Rp.n 12 true (Rp.n 4 true (WO 0 1) (Rp.n 4 true (ZR 2 1) (ZR 6 1))) (Zq 1 1 0 1 3 1 0 1 0 1 3 1 0 1 3 1 0 1 0 1)))) (Rp.n 1 true (Rp.c (AV.b false)) (Rp.n 12 true (Rp.n 4 true (ZR 2 1) (Rp.n 4 true (WO 0 1) (ZR 6 1))) (Zq 3 1 0 1 1 1 0 1 0 1 3 1 0 1 3 1 0 1 0 1)))))
def wG:XV:=(XV.a 1 (Rp.c (AV.s 614 0 4 4 false 66)))
set_option maxRecDepth 100000 in
theorem q7:CallH Tryz.prog 24 (O8 [0,0,2]) (0) .e wz (308) (yT [306] [ij]):=N9 (vi (by kernel_rfl) o6 (et:=10000) 60) FV FH GT (by kernel_rfl)
set_option maxRecDepth 100000 in
theorem DU:CallH Tryz.prog 24 (O8 [1,1,2]) (308) (yT [306] [ij]) wG (616) (yT [306,614] [ij,tY]):=N9 (vi (by kernel_rfl) o6 (et:=10000) 60) FV q7.hok q7.hlt (by kernel_rfl)
def wv:List Mm:=[⟨24,[0,0,2],0,.e,wz,308,(yT [306] [ij])⟩,⟨24,[1,1,2],308,(yT [306] [ij]),wG,616,(yT [306,614] [ij,tY])⟩]
theorem D9:VT Tryz.prog wv:=fun m hm=>by
 simp only[wv,dt,rD,or_false] at hm;rcases hm with rfl|rfl;·exact q7
 .exact DU
set_option maxRecDepth 100000 in
theorem tU:cq 6 [] [.c (.b true)]:=O5 (by kernel_rfl) o6 D9 (et:=10000) (depth:=60) (by kernel_rfl)
end
end
section
open Go.ChangeShapes Go.WideShapes Go.ChangeAt Go.RowKit Go.Deep
section
variable {H:Type}{enc:TypeId×Value->H}{w:World}{base:Nat}{spare:Nat->Bool}{held:Bool}
set_option maxRecDepth 100000 in
theorem RR {et:Nat}{cs:List Value}{x:DataW H×List MemPlace}(h:DataW.trod enc Tryz.prog w base spare held et 27 cs=some x): ∃p:PlD,p.Wf/\RdCs NoB w cs (cPl p):=by
 obtain⟨xs,n,_,_,D,J,I⟩:=DataW.trod_struct Tryz.underlying27 h;have D:cs.length=6:=D.trans (by kernel_rfl);have J:xs.length=6:=J.trans (by kernel_rfl);match cs,D with
 |[c0,c1,c2,c3,c4,c5],_=>
  have h0:DataW.trod enc Tryz.prog w base spare held n 24 [c0]=xs[0]? :=I 0 _ rfl;have h1:DataW.trod enc Tryz.prog w base spare held n 24 [c1]=xs[1]? :=I 1 _ rfl;have R:DataW.trod enc Tryz.prog w base spare held n 24 [c2]=xs[2]? :=I 2 _ rfl;have h3:DataW.trod enc Tryz.prog w base spare held n 24 [c3]=xs[3]? :=I 3 _ rfl;have h4:DataW.trod enc Tryz.prog w base spare held n 25 [c4]=xs[4]? :=I 4 _ rfl;have h5:DataW.trod enc Tryz.prog w base spare held n 5 [c5]=xs[5]? :=I 5 _ rfl;rw[gI (by omega)] at h0 h1 R h3 h4 h5;obtain⟨y0,e0,_,b0⟩:=pk Tryz.underlying24 h0;obtain⟨y1,e1,_,b1⟩:=pk Tryz.underlying24 h1;obtain⟨y2,e2,_,b2⟩:=pk Tryz.underlying24 R;obtain⟨y3,e3,_,b3⟩:=pk Tryz.underlying24 h3;obtain⟨y4,e4,_,b4⟩:=pk Tryz.underlying25 h4;obtain⟨y5,W,_,b5⟩:=pk Tryz.underlying5 h5;simp at e0 e1 e2 e3 e4 W;subst e0 e1 e2 e3 e4 W;simp[Lit.wf,IntKind.min,IntKind.max,IntKind.signed,IntKind.bits] at b0 b1 b2 b3 b4 b5
  exact⟨⟨y0,y1,y2,y3,y4,y5⟩,⟨by(dsimp only;omega),by(dsimp only;omega),by(dsimp only;omega),by(dsimp only;omega),by(dsimp only;omega),by(dsimp only;omega),by(dsimp only;omega),by(dsimp only;omega),by(dsimp only;omega),by(dsimp only;omega),by(dsimp only;omega),by(dsimp only;omega)⟩,
   lG (.i _ _) (lG (.i _ _) (lG (.i _ _) (lG (.i _ _) (lG (.i _ _) (lG (.i _ _) qB)))))⟩
end
end
end Go.Proofs.YtegeknjkgadehaaGreat
