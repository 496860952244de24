/-Data:code;a function's contract from its body. -/
import Derived.Test.YtegeknjkgadehaaGreatTwD
import Derived.Laws.MakeOwn
import Derived.Deep.AppendSrc
import Derived.Great.BuildSlice
namespace Go.Proofs.YtegeknjkgadehaaGreat
open Go Go.RowKit
variable {B:BF}{op:BinOp}{b q:Bool}{u z:CellD}{c:Code}{d:D0}{w0:Ent}{Q:Exit->St->Prop}{f:FuncId}{j x y:Int}{kc ki kk kl:IntKind}{tm tm':List (Nat×DV)}{bx bx':List (Nat×TypeId×List CellD)}{cs us zs:List CellD}{ds:List D0}{xs:List Int}{l pre tail:List Oper}{rs:List ResultVar}{vs:List Value}{N by_ c' id k m n n' off:Nat}{a:Nat×TypeId×List CellD}{β:Nat->Nat}{av:Nat->Prop}{ax fo h i:Operand}{A:Option Addr}{σ':St}{T:TF}{U W e t1 t2 xt yt:TypeId}{v:Value}{w:World}
variable {ty:TypeId}{pos:String}{af:Array Edge}{g:Option (Nat×Bool)}{dst:Option Nat}
theorem fN:type_of% @RdC.int_eq:=@RdC.int_eq
theorem iP:type_of% @Nat.add_mul:=@Nat.add_mul
theorem mm:type_of% @List.map_cons:=@List.map_cons
theorem mE:type_of% @Nat.mul_le_mul_right:=@Nat.mul_le_mul_right
theorem tj:type_of% @RdC.bool_eq:=@RdC.bool_eq
theorem qT:type_of% @List.map_toArray:=@List.map_toArray
theorem qy:type_of% @List.map_nil:=@List.map_nil
theorem sO:type_of% @Bool.cond_eq_ite:=@Bool.cond_eq_ite
theorem wd:type_of% @Int.natCast_mul:=@Int.natCast_mul
theorem yH:type_of% @Array.toList_map:=@Array.toList_map
theorem zw:type_of% @List.map_append:=@List.map_append
def Dw (P:Program) (c:Code) (σ:St) (Q:Exit->St->Prop):Prop:= ∀av w0 β a w,Rel av w0 σ.n σ.T σ.B β a w->
 c.wp P (fun e E w'=> ∃σ' D,σ'.n=σ.n/\Q e σ'/\Rel av w0 σ'.n σ'.T σ'.B D E w') a w
def Eb (K:St->Prop) (Q:Exit->St->Prop):Exit->St->Prop
 | .normal,σ=>K σ
 |e,σ=>Q e σ
def Pn (id:Nat) (Q:Exit->St->Prop):Exit->St->Prop
 | .exit id',σ=>bif Nat.beq id' id then Q .normal σ else Q (.exit id') σ
 |e,σ=>Q e σ
section
variable {P:Program}{σ:St}{Q Q':Exit->St->Prop}
theorem Dw.mono (h:Dw P c σ Q) (E: ∀e σ',Q e σ'->Q' e σ'):Dw P c σ Q':=fun av w0 β a w I=>
 Code.wp_mono (fun _ _ _ ⟨σ',D,J,R,H⟩=>⟨σ',D,J,E _ _ R,H⟩) (h av w0 β a w I)
theorem au (h:Q .normal σ):Dw P .skip σ Q:=fun _ _ β _ _ D=>wp_skip ⟨σ,β,rfl,h,D⟩
theorem bc (h:Q .ret σ):Dw P .ret σ Q:=fun _ _ β _ _ D=>wp_ret ⟨σ,β,rfl,h,D⟩
theorem bn (h:Q (.exit id) σ):Dw P (.exit id) σ Q:=fun _ _ β _ _ D=>wp_exit ⟨σ,β,rfl,h,D⟩
theorem ab {x y:Code}(h:Dw P x σ (Eb (fun σ'=>Dw P y σ' Q) Q)):Dw P (.seq x y) σ Q:=fun av w0 β a w hr=>by
 refine wp_seq (Code.wp_mono ?_ (h av w0 β a w hr));rintro e a' w' ⟨σ',H,J,R,I⟩;cases e with
 |normal=>exact Code.wp_mono (fun _ _ _ ⟨E,D,g1,g2,g3⟩=>⟨E,D,g1.trans J,g2,g3⟩) (R av w0 H a' w' I)
 |_=>exact⟨σ',H,J,R,I⟩
theorem aA {t:Tmp}{x y:Code}(hb:look t σ.tm=some (.v (.c (.b b)))) (ht:b=true->Dw P x σ Q) (J:b=false->Dw P y σ Q):Dw P (.cond (.tmp t) x y) σ Q:=fun av w0 β a w D=>by
 obtain⟨v,e,I⟩:=D.sees.tmp t _ trivial hb;have H:=tj I;subst H;have R:a.eval (.tmp t)=.bool b:=by obtain⟨E,e⟩:=ll.1 e;show a.tmps.getD t undef=_;simp[Array.getD,E,e]
 exact wp_cond_split R (fun h=>ht h av w0 β a w D) (fun h=>J h av w0 β a w D)
theorem aw (h:Dw P c σ (Pn id Q)):Dw P (.block id c) σ Q:=fun av w0 β a w hr=>by
 refine wp_block (Code.wp_mono ?_ (h av w0 β a w hr));rintro e a' w' ⟨σ',E,R,H,J⟩;cases e with
 |exit D=>
  show(if D=id then _ else _);have H:(bif Nat.beq D id then Q .normal σ' else Q (.exit D) σ'):=H;cases I:Nat.beq D id with
  |true=>rw[I] at H;rw[if_pos (fe I)];exact⟨σ',E,R,H,J⟩
  |false=>rw[I] at H;rw[if_neg (fun e=>by subst e;rw[vT] at I;cases I)];exact⟨σ',E,R,H,J⟩
 |_=>exact⟨σ',E,R,H,J⟩
structure Sub (σ σ':St):Prop where
 n:σ'.n=σ.n
 tm: ∀t x,look t σ'.tm=some x->look t σ.tm=some x
 bx: ∀k c,look k σ'.bx=some c->look k σ.bx=some c
 wf: ∀t x k,look t σ'.tm=some x->jq x=some k->look k σ'.bx≠none
theorem Rel.sub {a:Act}{σ:St}(h:Rel av w0 σ.n σ.T σ.B β a w) (hs:Sub σ σ'):Rel av w0 σ'.n σ'.T σ'.B β a w:=by
 have I: ∀k,σ'.B k≠none->σ.B k≠none:=by
  intro k E;cases R:σ'.B k with
  |none=>exact absurd R E
  |some c=>rw[show σ.B k=some c from hs.bx k c R];simp
 have D:Keep (fun b=>av b\/ ∃k,σ.B k≠none/\β k=b) (fun b=>av b\/ ∃k,σ'.B k≠none/\β k=b) w w:=
  ⟨Nat.le_refl _,fun _ _ _=>rfl,fun b _ H=>H.imp id fun⟨k,h1,h2⟩=>⟨k,I k h1,h2⟩⟩
 refine⟨h.dfr,by rw[hs.n];exact h.siz,h.bel,h.avl,h.avE,by rw[hs.n];exact h.big,fun b H hK=>h.fix b H (I _ hK),fun k l E hl=>h.inj k l (I k E) (I l hl),fun k E=>h.own k (I k E),hs.wf,?_,?_,?_⟩
 ·rintro b (H|⟨k,E,H⟩);·exact h.sees.av b (.inl H)
  ·exact h.sees.av b (.inr ⟨k,I k E,H⟩)
 ·intro k U cs E;obtain⟨_,vs,e,J⟩:=h.sees.box k U cs (hs.bx k _ E);exact⟨.inr ⟨k,by rw[show σ'.B k=some (U,cs) from E];simp,rfl⟩,vs,e,J.keep D⟩
 ·intro t x hl hx;obtain⟨v,e,J⟩:=h.sees.tmp t x hl (hs.tm t x hx);exact⟨v,e,J.keep D⟩
theorem Dw.weak (hs:Sub σ σ') (h:Dw P c σ' Q):Dw P c σ Q:=fun av w0 β a w I=>
 Code.wp_mono (fun _ _ _ ⟨D,E,J,R,H⟩=>⟨D,E,J.trans hs.n,R,H⟩) (h av w0 β a w (I.sub hs))
def AQ {D:Type}:List (Nat×D)->List (Nat×D)->Prop
 |[],_=>True
 |(t,x)::r,l=>look t l=some x/\AQ r l
def So (bx:List (Nat×TypeId×List CellD)):List (Nat×DV)->Bool
 |[]=>true
 |(_,.p k _)::r=>(look k bx).isSome&&So bx r
 |(_,.o k _ _)::r=>(look k bx).isSome&&So bx r
 |(_,.w k _ _ _)::r=>(look k bx).isSome&&So bx r
 |(_,.tn k _ _ _)::r=>(look k bx).isSome&&So bx r
 |(_,.oe k _ _ _)::r=>(look k bx).isSome&&So bx r
 |_::r=>So bx r
theorem r7 {D:Type}: ∀(r l:List (Nat×D)),AQ r l-> ∀t x,look t r=some x->look t l=some x
 |[],_,_,_,_,h=>by cases h
 |(k,y)::r,l,ha,t,x,h=>by
  rw[aO] at h;split at h;·rename_i e;subst e;rw[<-h];exact ha.1
  ·exact r7 r l ha.2 t x h
theorem Hh {bx:List (Nat×TypeId×List CellD)}: ∀(r:List (Nat×DV)),So bx r=true-> ∀t x k,look t r=some x->jq x=some k->look k bx≠none
 |[],_,_,_,_,h,_=>by cases h
 |(t',y)::r,hw,t,x,k,h,hx=>by
  rw[aO] at h;have D:So bx r=true:=by cases y<;>simp[So] at hw<;>first|exact hw|exact hw.2
  split at h
  ·injection h with h;subst h;intro e;cases y<;>simp[jq] at hx<;>(subst hx;simp[So,e] at hw)
  ·exact Hh r D t x k h hx
theorem al (H:AQ tm' tm) (D:AQ bx' bx) (E:So bx' tm'=true):Sub ⟨n,tm,bx⟩ ⟨n,tm',bx'⟩:=
 ⟨rfl,r7 tm' tm H,r7 bx' bx D,Hh tm' E⟩
theorem bF {ι:Type}(I:ι->St) (μ:ι->Nat) (i0:ι) (h0:Sub σ (I i0))
 (round: ∀i,Dw P c (I i) (Eb (fun σ'=> ∃j,Sub σ' (I j)/\μ j<μ i) Q)):Dw P (.loop c) σ Q:=fun av w0 β a w hr=>by
 have a5:=hr.sub h0
 intro b k cs
 have b0: ∀n i β a w,μ i=n->Rel av w0 (I i).n (I i).T (I i).B β a w->(I i).n=σ.n->
  ∃e a' w',(∃σ' J,σ'.n=σ.n/\Q e σ'/\Rel av w0 σ'.n σ'.T σ'.B J a' w')/\Arrives P (lone (b.at a (.code c:: .inLoop c::k)) cs w) b k cs e a' w':=by
  intro n
  induction n using Nat.strongRecOn with
  |_ n ih=>
   intro i β a w hi hrel R
   obtain⟨e,E,H,⟨σ',J,g1,g2,g3⟩,D⟩:=round i av w0 β a w hrel b (.inLoop c::k) cs
   cases e with
   |normal=>
    obtain⟨j,hs,a9⟩:=g2
    have a6:=g3.sub hs
    obtain⟨a2,a4,a3,a1,a0⟩:=ih (μ j) (hi▸a9) j J E H rfl a6 (by rw[hs.n,g1,R])
    exact⟨a2,a4,a3,a1,.of_steps (Steps.trans D (.one step_inLoop)) a0⟩
   |exit id=>exact⟨_,E,H,⟨σ',J,g1.trans R,g2,g3⟩,.pass (x:=.inLoop c) rfl (fun _ _=>.inl (by simp)) D⟩
   |goto l=>exact⟨_,E,H,⟨σ',J,g1.trans R,g2,g3⟩,.pass (x:=.inLoop c) rfl (fun _ _=>.inl (by simp)) D⟩
   |ret=>exact⟨_,E,H,⟨σ',J,g1.trans R,g2,g3⟩,.pass (x:=.inLoop c) rfl (fun _ _=>.inl (by simp)) D⟩
   |panic ch=>exact⟨_,E,H,⟨σ',J,g1.trans R,g2,g3⟩,.pass (x:=.inLoop c) rfl (fun _ _=>.inl (by simp)) D⟩
   |outgrown=>exact⟨_,E,H,⟨σ',J,g1.trans R,g2,g3⟩,.pass (x:=.inLoop c) rfl (fun _ _=>.inl (by simp)) D⟩
 obtain⟨e,a',w',hq,D⟩:=b0 _ i0 β a w rfl a5 h0.n
 exact⟨e,a',w',hq,.of_steps (.one step_loop) D⟩
def OB (ops:Array Oper) (n:Nat):Bool:=ops.toList.all fun o=>match o.dst with|none=>true|some d=>Nat.blt d n
theorem Od {ops:Array Oper}(h:OB ops n=true): ∀o∈ops.toList,∀t,o.dst=some t->t<n:=by intro o D t E;have:=lj.1 h o D;rw[E] at this;exact cJ.1 this
theorem yr (H:OB l.toArray σ.n=true) (h:dl P l.toArray l σ (Q .normal)):Dw P (.region id l.toArray false) σ Q:=fun av w0 β a w I=>
 wp_region_list (ww l.toArray.toList σ β a w (by simpa using Od H) (by simpa using h) I (fun σ' D a' w' J R E=>⟨σ',D,J,R,E⟩))
def Sq.merge (s:Sq):St:=⟨s.st.n,s.st.tm,s.nb++s.st.bx⟩
theorem rW (m:Nat) (hs:List Nat) (R:P.follows .mixedOrders=true) (hc:Kr l.toArray m σ.n=true) (J:l.take m=pre) (D:l.drop m=tail)
 (h:dq P l.toArray hs pre ⟨σ,[],[]⟩ fun s=>dl P l.toArray tail s.merge (Q .normal)):Dw P (.region id l.toArray true) σ Q:=fun av w0 β a w hr=>by
 have hC:=Chk.of hc
 subst J D
 obtain⟨es,H,E,a0,I,s',h1,h2,h3,h4⟩:=HT _ _ h
 have a4:m<=l.length:=by simpa using hC.le
 refine wp_region_any R ?_
 refine UI (av:=av) (w0:=w0) (Q:=fun e a' w'=> ∃σ' a1,σ'.n=σ.n/\Q e σ'/\Rel av w0 σ'.n σ'.T σ'.B a1 a' w') hC (T0:=σ.T) (B0:=σ.B) (M0:=Sq.M ⟨σ,[],[]⟩) (hs:=hs) (sd:=[]) (fun k c hk=>hk) (es:=es) (by rw[H,eu];omega) a0 I ?_ ?_ l.toArray.size (Array.replicate l.toArray.size false) β a _ (by simp) (by unfold KR;refine fw List.countP_le_length ?_;simp) ?_ ?_ ?_
 ·intro i o e ho he
  exact E i o e (by simpa using ho) he
 ·intro β a w fuel hf a3
  have a2:Rel av w0 σ.n s'.merge.T s'.merge.B β a w:=by
   refine a3.congr (fun t=>?_) (fun k=>?_)
   ·show s'.st.T t=_;rw[h2]
   ·show s'.M k=_;rw[h3]
  refine xg hC (K:=Q .normal) (fun σ' β a w hn hq hr=>⟨σ',β,hn,hq,by rw[hn];exact hr⟩) (l.drop m) m s'.merge fuel β a w (bd _) (fun j=>by simp) (by simp;omega) h1 h4 a2 (by simpa using hf)
 ·intro i o j hi
  simp[Array.getD] at hi
 ·intro t _
  simp[Array.getD]
  try (split<;>rfl)
 ·refine hr.drew.congr (fun t=>?_) (fun k=>?_)
  ·refine iA _ _ _ fun j u _ R=>?_
   simp[Array.getD] at R
  ·refine(iA _ _ _ fun j u _ R=>?_).trans ?_
   ·simp[Array.getD] at R
   ·rfl
def xS:Nat->List D0->List (Nat×DV)
 |_,[]=>[]
 |k,d::ds=>(k,.v d)::xS (k+1) ds
def Ik (P:Program) (σ:St):ResultVar->Option D0
 | .tmp t=>match look t σ.tm with
   |some (.v d)=>some d
   |_=>none
 | .cell t U=>match look t σ.tm with
   |some (.p k off)=>match look k σ.bx,mv P U with
    |some (_,cs),some (true,n)=>if Nat.beq ((cs.drop off).take n).length n then some (.a ((cs.drop off).take n)) else none
    |some (_,cs),some (false,_)=>(cs[off]?).map .c
    |_,_=>none
   |_=>none
def nF (a:Act):ResultVar->Go.Sem Value
 | .tmp t=>pure (a.tmps.getD t undef)
 | .cell t U=>do loadVar U (<-asAddr (a.tmps.getD t undef))
theorem O3 {a:Act}(hr:Rel av w0 σ.n σ.T σ.B β a w) {r:ResultVar}(h:Ik P σ r=some d):
 ∃v,(nF a r).run P w=.ok v w/\RdV (fun b=>av b\/ ∃k,σ.B k≠none/\β k=b) w v d:=by
 have H: ∀ {t x},look t σ.tm=some x-> ∃v,a.tmps.getD t undef=v/\RdX (fun b=>av b\/ ∃k,σ.B k≠none/\β k=b) w β v x:=by intro t x ht;obtain⟨v,e,R⟩:=hr.sees.tmp t x trivial ht;obtain⟨J,e⟩:=ll.1 e;exact⟨v,by simp[Array.getD,J,e],R⟩
 cases r with
 |tmp t=>
  unfold Ik at h
  dsimp only at h
  split at h
  ·rename_i d' hd
   injection h with h
   subst h
   obtain⟨v,e,R⟩:=H hd
   exact⟨v,by show(pure (a.tmps.getD t undef):Go.Sem Value).run P w=_;rw[e];rfl,R⟩
  grind
 |cell t U=>
  unfold Ik at h
  dsimp only at h
  split at h
  ·rename_i k off hp
   obtain⟨v,e,R⟩:=H hp
   subst R
   split at h
   ·rename_i W cs n hb hU
    split at h
    ·rename_i hl
     injection h with h
     subst h
     obtain⟨_,vs,ev,E⟩:=hr.sees.box k W cs hb
     have a0:=(E.drop off).take n
     have D:=jm (P:=P) (w:=w) hU (b:=β k) (off:=off) (vs:=(vs.toList.drop off).take n) (by rw[a0.1];exact fe hl) (fun j v I=>by
      rw[j6] at I;split at I;·rw[bE ev,<-I];simp
      ·cases I)
     refine⟨_,?_,_,rfl,by simpa using a0⟩
     simp only[nF,e,asAddr,fq,dx,dd,D]
    grind
   ·rename_i W cs n hb hU
    cases hc:cs[off]? with
    |none=>rw[hc] at h;cases h
    |some u=>
     rw[hc] at h
     injection h with h
     subst h
     obtain⟨_,vs,ev,E⟩:=hr.sees.box k W cs hb
     have J:off<cs.length:=(fb.1 hc).1
     have I:vs.toList[off]? =some (vs.toList[off]'(by rw[E.1];exact J)):=by grind
     have D:=je (P:=P) (w:=w) hU (b:=β k) (off:=off) (by rw[bE ev,<-kj,I])
     refine⟨_,?_,E.2 off _ _ I hc⟩
     simp only[nF,e,asAddr,fq,dx,dd,D]
   grind
  grind
def rR (P:Program) (σ:St):List ResultVar->Option (List D0)
 |[]=>some []
 |r::rs=>match Ik P σ r,rR P σ rs with
  |some d,some ds=>some (d::ds)
  |_,_=>none
theorem Ir {av:Nat->Prop}{w0:Ent}{w:World}{β:Nat->Nat}{a:Act}(E:Rel av w0 σ.n σ.T σ.B β a w): ∀(rs:List ResultVar) (ds:List D0),rR P σ rs=some ds->
 ∃vs:List Value,(rs.mapM (nF a)).run P w=.ok vs w/\RdL (fun b=>av b\/ ∃k,σ.B k≠none/\β k=b) w vs ds
 |[],ds,h=>by injection h with h;subst h;exact⟨[],rfl,RdL.nil⟩
 |r::rs,ds,h=>by
  unfold rR at h;split at h
  ·rename_i d D I h2;injection h with h;subst h;obtain⟨v,R,H⟩:=O3 E I;obtain⟨vs,J,r2⟩:=Ir E rs D h2;refine⟨v::vs,?_,qG H r2⟩;rw[List.mapM_cons];simp only[fq,R,dd,J,dx]
  ·cases h
theorem afJ {vs:Array Value}(a0:ds.length<=N) (I: ∀b,av b->b<w.heap.size) (E:RdL av w vs.toList ds):
 Rel av ⟨w,fun _=>False,N⟩ (St.n ⟨N,xS 0 ds,[]⟩) (St.T ⟨N,xS 0 ds,[]⟩) (St.B ⟨N,xS 0 ds,[]⟩) (fun _=>0) {tmps:=vs++Array.replicate (N-vs.size) undef,defers:=[]} w:=by
 have a1:vs.size=ds.length:=by rw[<-E.1];simp
 have hT: ∀(k:Nat) (ds:List D0) (t:Nat) (x:DV),look t (xS k ds)=some x-> ∃j d,t=k+j/\ds[j]? =some d/\x=.v d:=by
  intro k ds;induction ds generalizing k with
  |nil=>intro t x h;cases h
  |cons d ds ih=>
   intro t x h;unfold xS at h;rw[aO] at h;split at h;·simp_all
   ·obtain⟨j,d',e1,e2,H⟩:=ih (k+1) t x h;exact⟨j+1,d',by omega,by simpa using e2,H⟩
 refine⟨rfl,by simp;omega,BelE.refl _,I,fun _ _ h=>h,bd _,fun _ h=>h.elim,fun k l D=>absurd rfl D,fun k D=>absurd rfl D,?_,?_,?_,?_⟩
 ·intro t x k J hx
  obtain⟨j,d,_,_,e⟩:=hT 0 ds t _ J
  subst e;cases hx
 ·rintro b (R|⟨k,D,_⟩)
  ·grind
  ·exact absurd rfl D
 ·intro k U cs D;cases D
 ·intro t x _ J
  obtain⟨j,d,e1,e2,H⟩:=hT 0 ds t x J
  have e1:t=j:=by omega
  subst e1 H
  have a2:t<vs.size:=by grind
  have hv:vs.toList[t]? =some vs[t]:=by grind
  refine⟨vs[t],?_,(E.2 t _ d hv e2).keep ⟨Nat.le_refl _,fun _ _ _=>rfl,fun b _ R=>?_⟩⟩
  ·grind
  ·rcases R with R|⟨k,D,_⟩
   ·grind
   ·exact absurd rfl D
theorem G3 {fn:Func}{a:Act}(D:(fn.results.toList.mapM (nF a)).run P w=.ok vs w):(results fn a.tmps).run P w=.ok (if h:vs.toArray.size=1 then vs.toArray[0] else .tuple vs.toArray) w:=by
 have E: ∀g:ResultVar->Go.Sem Value,(∀r,g r=nF a r)->(do let vs <-fn.results.mapM g;pure (if h:vs.size=1 then vs[0] else .tuple vs):Go.Sem Value).run P w=.ok (if h:vs.toArray.size=1 then vs.toArray[0] else .tuple vs.toArray) w:=by intro g H;rw[funext H];simp[Array.mapM_eq_mapM_toList,D]
 exact E _ (fun r=>by cases r<;>rfl)
theorem Ok.of {fn:Func}{rs:List D0}(a1:fv P f=true) (hf:P.funcs[f]? =some fn) (hb:fn.body=some c) (I:Nat.ble ds.length fn.ntmps=true)
 (h:Dw P c ⟨fn.ntmps,xS 0 ds,[]⟩ fun e σ=>(e=.normal\/e=.ret)/\rR P σ fn.results.toList=some rs):Ok P f ds rs:=by
 refine⟨a1,fun av vs w a3 a4=>calls_of_wp hf hb ?_⟩
 have I:=eQ I
 refine Code.wp_mono ?_ (h av ⟨w,fun _=>False,fn.ntmps⟩ (fun _=>0) _ w (afJ I a3 a4))
 rintro e a' w' ⟨σ',a5,hn,⟨he,a0⟩,J⟩
 obtain⟨H,R,a2⟩:=Ir J _ _ a0
 have D:RdL av w' H rs:=a2.keep ⟨Nat.le_refl _,fun _ _ _=>rfl,fun b _ hb=>.inl hb⟩
 have E:=G3 R
 have hR:Y7 av w' (if h:H.toArray.size=1 then H.toArray[0] else .tuple H.toArray) rs:=by
  match H,rs,D with
  |[],[],D=>exact⟨_,rfl,D⟩
  |[v],[d],D=>exact D.uncons.1
  |v::v'::H,d::d'::ds',D=>exact⟨(v::v'::H).toArray,dif_neg (by simp),by simpa using D⟩
  |[],d::ds,D=>exact absurd D.1 (by simp)
  |v::vs,[],D=>exact absurd D.1 (by simp)
  |[v],d::d'::ds,D=>exact absurd D.1 (by simp)
  |v::v'::vs,[d],D=>exact absurd D.1 (by simp)
 rcases he with rfl|rfl
 ·exact⟨J.dfr,_,E,_,rfl,hR,J.bel.to (fun _ h=>h)⟩
 ·exact⟨J.dfr,_,E,_,rfl,hR,J.bel.to (fun _ h=>h)⟩
end
section
variable {P:Program}{ops:Array Oper}{os:List Oper}{n t:Nat}{tm:List (Nat×DV)}{bx nb:List (Nat×TypeId×List CellD)}{K:St->Prop}{K':Sq->Prop}{hs sd:List Nat}
variable {ty:TypeId}{pos:String}{af:Array Edge}{g:Option (Nat×Bool)}{op:Op}
theorem cV {x:DV}(h:Sem P ops ⟨some t,op,ty,pos,af,g⟩ (fun s=>look s tm) (fun k=>look k bx) (.r x)) (D:dl P ops os ⟨n,(t,x)::tm,bx⟩ K):dl P ops (⟨some t,op,ty,pos,af,g⟩::os) ⟨n,tm,bx⟩ K:=
 .inl ⟨.r x,h,fun _ _ _ e=>(by cases e),D⟩
theorem bG {x:DV}(h:Sem P ops ⟨some t,op,ty,pos,af,g⟩ (fun s=>look s tm) (hid hs (fun k=>look k bx)) (.r x)) (D:dq P ops hs os ⟨⟨n,(t,x)::tm,bx⟩,nb,sd⟩ K'):dq P ops hs (⟨some t,op,ty,pos,af,g⟩::os) ⟨⟨n,tm,bx⟩,nb,sd⟩ K':=
 ⟨.r x,.inl h,fun _ _ e=>(by cases e),fun _ _ _ e=>(by cases e),fun _ _ _ _ e=>(by cases e),fun _ _ _ e=>(by cases e),D⟩
theorem vm (h:Sem P ops ⟨some t,op,ty,pos,af,g⟩ (fun s=>look s tm) (fun k=>look k bx) .skip) (D:dl P ops os ⟨n,(t,.u)::tm,bx⟩ K):dl P ops (⟨some t,op,ty,pos,af,g⟩::os) ⟨n,tm,bx⟩ K:=
 .inl ⟨.skip,h,fun _ _ _ e=>(by cases e),D⟩
theorem vi (h:Sem P ops ⟨some t,op,ty,pos,af,g⟩ (fun s=>look s tm) (hid hs (fun k=>look k bx)) .skip) (D:dq P ops hs os ⟨⟨n,(t,.u)::tm,bx⟩,nb,sd⟩ K'):dq P ops hs (⟨some t,op,ty,pos,af,g⟩::os) ⟨⟨n,tm,bx⟩,nb,sd⟩ K':=
 ⟨.skip,.inl h,fun _ _ e=>(by cases e),fun _ _ _ e=>(by cases e),fun _ _ _ _ e=>(by cases e),fun _ _ _ e=>(by cases e),D⟩
theorem tx (h:Sem P ops ⟨some t,op,ty,pos,af,g⟩ (fun s=>look s tm) (fun k=>look k bx) (.a U cs none)) (E:look t bx=none) (D:dl P ops os ⟨n,(t,.p t 0)::tm,(t,U,cs)::bx⟩ K):dl P ops (⟨some t,op,ty,pos,af,g⟩::os) ⟨n,tm,bx⟩ K:=
 .inl ⟨.a U cs none,h,fun _ _ _ _=>⟨t,rfl,E⟩,D⟩
theorem JU (h:Sem P ops ⟨some t,op,ty,pos,af,g⟩ (fun s=>look s tm) (hid hs (fun k=>look k bx)) (.a U cs none)) (E:look t (nb++bx)=none) (D:dq P ops hs os ⟨⟨n,(t,.p t 0)::tm,bx⟩,(t,U,cs)::nb,sd⟩ K'):dq P ops hs (⟨some t,op,ty,pos,af,g⟩::os) ⟨⟨n,tm,bx⟩,nb,sd⟩ K':=
 ⟨.a U cs none,.inl h,fun _ _ e=>(by cases e),fun _ _ _ e=>(by cases e),fun _ _ _ _ e=>(by cases e),fun _ _ _ _=>⟨t,rfl,E⟩,D⟩
theorem tA (h:Sem P ops ⟨some t,op,ty,pos,af,g⟩ (fun s=>look s tm) (fun k=>look k bx) (.a U cs (some m))) (E:look t bx=none) (D:dl P ops os ⟨n,(t,.o t m m)::tm,(t,U,cs)::bx⟩ K):dl P ops (⟨some t,op,ty,pos,af,g⟩::os) ⟨n,tm,bx⟩ K:=
 .inl ⟨.a U cs (some m),h,fun _ _ _ _=>⟨t,rfl,E⟩,D⟩
theorem iQ (h:Sem P ops ⟨none,op,ty,pos,af,g⟩ (fun s=>look s tm) (fun k=>look k bx) (.s k U cs)) (D:dl P ops os ⟨n,tm,(k,U,cs)::bx⟩ K):dl P ops (⟨none,op,ty,pos,af,g⟩::os) ⟨n,tm,bx⟩ K:=
 .inl ⟨.s k U cs,h,fun _ _ _ e=>(by cases e),D⟩
theorem SE {x:DV}(h:Sem P ops ⟨some t,op,ty,pos,af,g⟩ (fun s=>look s tm) (fun k=>look k bx) (.c k x)) (D:dl P ops os ⟨n,(t,x)::hJ k tm,f6 k bx⟩ K):dl P ops (⟨some t,op,ty,pos,af,g⟩::os) ⟨n,tm,bx⟩ K:=
 .inl ⟨.c k x,h,fun _ _ _ e=>(by cases e),D⟩
theorem Mi {x:DV}(h:Sem P ops ⟨some t,op,ty,pos,af,g⟩ (fun s=>look s tm) (fun k=>look k bx) (.rs k U cs x)) (D:dl P ops os ⟨n,(t,x)::tm,(k,U,cs)::bx⟩ K):dl P ops (⟨some t,op,ty,pos,af,g⟩::os) ⟨n,tm,bx⟩ K:=
 .inl ⟨.rs k U cs x,h,fun _ _ _ e=>(by cases e),D⟩
theorem uE {x:DV}(h:Sem P ops ⟨some t,op,ty,pos,af,g⟩ (fun s=>look s tm) (fun l=>bif Nat.beq l k then look l (nb++bx) else hid hs (fun k=>look k bx) l) (.rs k U cs x))
 (h1:hs.any (Nat.beq k)=true) (E:(look k bx).isSome=true) (D:sd.any (Nat.beq k)=false) (h4:os.all (fun o=>o.dst.isSome)=true) (J:iW ⟨some t,op,ty,pos,af,g⟩=true) (I:rU ops=true) (h7:hs.any (Nat.beq 999999)=false)
 (R:dq P ops hs os ⟨⟨n,(t,x)::tm,bx⟩,(k,U,cs)::nb,sd⟩ K'):dq P ops hs (⟨some t,op,ty,pos,af,g⟩::os) ⟨⟨n,tm,bx⟩,nb,sd⟩ K':=
 ⟨.rs k U cs x,.inl h,fun _ _ e=>(by cases e),fun _ _ _ e=>(by cases e),fun _ _ _ _ e=>by injection e with e1;subst e1;exact⟨h1,(fun e=>by have e:look k bx=none:=e;rw[e] at E;cases E),(fun H=>by rw[jt.2 H] at D;cases D),h4,J,I,h7⟩,fun _ _ _ e=>(by cases e),R⟩
theorem ce (h:K ⟨n,tm,bx⟩):dl P ops [] ⟨n,tm,bx⟩ K:=h
theorem kJ (h:Sem P ops ⟨none,op,ty,pos,af,g⟩ (fun s=>look s tm) (fun l=>bif Nat.beq l k then look l (nb++bx) else hid hs (fun k=>look k bx) l) (.s k U cs))
 (J:hs.any (Nat.beq k)=true) (E:(look k bx).isSome=true) (D:sd.any (Nat.beq k)=false) (h4:Ao ⟨none,op,ty,pos,af,g⟩=true) (I:dq P ops hs os ⟨⟨n,tm,bx⟩,(k,U,cs)::nb,k::sd⟩ K'):dq P ops hs (⟨none,op,ty,pos,af,g⟩::os) ⟨⟨n,tm,bx⟩,nb,sd⟩ K':=
 ⟨.s k U cs,.inl h,fun _ _ e=>(by cases e),fun _ _ _ e=>by injection e with R;subst R;exact⟨J,.inl (fun e=>by have e:look k bx=none:=e;rw[e] at E;cases E),(.inl fun H=>by rw[jt.2 H] at D;cases D),h4⟩,fun _ _ _ _ e=>(by cases e),fun _ _ _ e=>(by cases e),I⟩
theorem kI (h:Sem P ops ⟨none,op,ty,pos,af,g⟩ (fun s=>look s tm) (fun l=>bif Nat.beq l k then look l (nb++bx) else hid hs (fun k=>look k bx) l) (.s k U cs))
 (I:hs.any (Nat.beq k)=true) (R:((⟨none,op,ty,pos,af,g⟩:Oper).looksAt ops).any (Nat.beq k)=true) (D:sd.any (Nat.beq k)=false) (h4:Ao ⟨none,op,ty,pos,af,g⟩=true) (H:dq P ops hs os ⟨⟨n,tm,bx⟩,(k,U,cs)::nb,k::sd⟩ K'):dq P ops hs (⟨none,op,ty,pos,af,g⟩::os) ⟨⟨n,tm,bx⟩,nb,sd⟩ K':=
 ⟨.s k U cs,.inl h,fun _ _ e=>(by cases e),fun _ _ _ e=>by injection e with J;subst J;exact⟨I,.inr (jt.1 R),(.inl fun E=>by rw[jt.2 E] at D;cases D),h4⟩,fun _ _ _ _ e=>(by cases e),fun _ _ _ e=>(by cases e),H⟩
theorem Ig (h:Sem P ops ⟨none,op,ty,pos,af,g⟩ (fun s=>look s tm) (fun l=>bif Nat.beq l k then look l (nb++bx) else hid hs (fun k=>look k bx) l) (.s k U cs))
 (I:hs.any (Nat.beq k)=true) (D:(look k bx).isSome=true) (E:pK ops=true) (R:Ao ⟨none,op,ty,pos,af,g⟩=true) (H:dq P ops hs os ⟨⟨n,tm,bx⟩,(k,U,cs)::nb,k::sd⟩ K'):dq P ops hs (⟨none,op,ty,pos,af,g⟩::os) ⟨⟨n,tm,bx⟩,nb,sd⟩ K':=
 ⟨.s k U cs,.inl h,fun _ _ e=>(by cases e),fun _ _ _ e=>by injection e with J;subst J;exact⟨I,.inl (fun e=>by have e:look k bx=none:=e;rw[e] at D;cases D),.inr E,R⟩,fun _ _ _ _ e=>(by cases e),fun _ _ _ e=>(by cases e),H⟩
theorem mP (h:K' ⟨⟨n,tm,bx⟩,nb,sd⟩):dq P ops hs [] ⟨⟨n,tm,bx⟩,nb,sd⟩ K':=h
theorem D5 {x:DV}(D:UU hs ops ⟨some t,op,ty,pos,af,g⟩=true) (h:Sem P ops ⟨some t,op,ty,pos,af,g⟩ (fun s=>look s tm) (fun k=>look k bx) (.r x)) (E:dq P ops hs os ⟨⟨n,(t,x)::tm,bx⟩,nb,sd⟩ K'):dq P ops hs (⟨some t,op,ty,pos,af,g⟩::os) ⟨⟨n,tm,bx⟩,nb,sd⟩ K':=
 ⟨.r x,.inr ⟨D,⟨x,rfl⟩,h⟩,fun _ _ e=>(by cases e),fun _ _ _ e=>(by cases e),fun _ _ _ _ e=>(by cases e),fun _ _ _ e=>(by cases e),E⟩
theorem ae3 (h:Sem P ops ⟨some t,op,ty,pos,af,g⟩ (fun s=>look s tm) (fun k=>look k bx) (.r (.v (.c (.b b))))) (D: ∀c,b=c->dl P ops os ⟨n,(t,.v (.c (.b c)))::tm,bx⟩ K):dl P ops (⟨some t,op,ty,pos,af,g⟩::os) ⟨n,tm,bx⟩ K:=
 cV h (D b rfl)
theorem Ma (h:Sem P ops ⟨some t,op,ty,pos,af,g⟩ (fun s=>look s tm) (hid hs (fun k=>look k bx)) (.r (.v (.c (.b b))))) (D: ∀c,b=c->dq P ops hs os ⟨⟨n,(t,.v (.c (.b c)))::tm,bx⟩,nb,sd⟩ K'):dq P ops hs (⟨some t,op,ty,pos,af,g⟩::os) ⟨⟨n,tm,bx⟩,nb,sd⟩ K':=
 bG h (D b rfl)
theorem dE (h:dl P ops os ⟨n,tm,bx⟩ K):dl P ops os (Sq.merge ⟨⟨n,tm,bx⟩,[],sd⟩) K:=h
theorem ve (h:dl P ops os ⟨n,tm,a::bx⟩ K):dl P ops os (Sq.merge ⟨⟨n,tm,bx⟩,[a],sd⟩) K:=h
theorem OK {b:Nat×TypeId×List CellD}(h:dl P ops os ⟨n,tm,a::b::bx⟩ K):dl P ops os (Sq.merge ⟨⟨n,tm,bx⟩,[a,b],sd⟩) K:=h
theorem gO {x y:Code}(D:look t tm=some (.v (.c (.b true)))) (h:Dw P x ⟨n,tm,bx⟩ Q):Dw P (.cond (.tmp t) x y) ⟨n,tm,bx⟩ Q:=aA D (fun _=>h) (fun e=>by cases e)
theorem cT {x y:Code}(D:look t tm=some (.v (.c (.b false)))) (h:Dw P y ⟨n,tm,bx⟩ Q):Dw P (.cond (.tmp t) x y) ⟨n,tm,bx⟩ Q:=aA D (fun e=>by cases e) (fun _=>h)
theorem aa:rR P ⟨n,tm,bx⟩ []=some []:=rfl
theorem Qy (h:look t tm=some (.v d)) (D:rR P ⟨n,tm,bx⟩ rs=some ds):rR P ⟨n,tm,bx⟩ (.tmp t::rs)=some (d::ds):=by
 have e:Ik P ⟨n,tm,bx⟩ (.tmp t)=some d:=by unfold Ik;simp only[h]
 unfold rR;grind
theorem li (I:mv P U=some (true,m)) (E:look t tm=some (.p k off)) (D:look k bx=some (W,cs)) (J:(cs.drop off).take m=us) (H:us.length=m)
 (R:rR P ⟨n,tm,bx⟩ rs=some ds):rR P ⟨n,tm,bx⟩ (.cell t U::rs)=some (.a us::ds):=by
 have e:Ik P ⟨n,tm,bx⟩ (.cell t U)=some (.a us):=by unfold Ik;simp only[E,D,I,J,H];simp
 unfold rR
 grind
theorem Dn {x:Operand}
 (J:mv P U=some (q,m)) (R:ck T ax=some (.p k 0)) (H:ck T x=some (.v d)) (E:B k=some (W,cs)) (I:d.cells.length=m) (ho:cs.length=m)
 (D:gd ops ⟨none,.store U ax x,ty,pos,af,g⟩ T=some true):Sem P ops ⟨none,.store U ax x,ty,pos,af,g⟩ T B (.s k W d.cells):=by
 refine bh J R H E I (by omega) ?_ D
 grind
theorem bQ {x:Operand}
 (J:mv P U=some (true,m)) (ha:ck T ax=some (.p k 0)) (H:ck T x=some (.v (.a us))) (E:B k=some (W,cs)) (I:us.length=m) (R:cs.length=m)
 (D:gd ops ⟨none,.store U ax x,ty,pos,af,g⟩ T=some true):Sem P ops ⟨none,.store U ax x,ty,pos,af,g⟩ T B (.s k W us):=Dn (d:=.a us) J ha H E I R D
theorem NV {x:Operand}
 (E:ck T x=some (.v (.a us))) (D:gd ops ⟨dst,.box U x,ty,pos,af,g⟩ T=some true):Sem P ops ⟨dst,.box U x,ty,pos,af,g⟩ T B (.a U us none):=ME (d:=.a us) E D
theorem Oe {x:Operand}
 (E:ck T x=some (.v (.c u))) (D:gd ops ⟨dst,.box U x,ty,pos,af,g⟩ T=some true):Sem P ops ⟨dst,.box U x,ty,pos,af,g⟩ T B (.a U [u] none):=ME (d:=.c u) E D
theorem mj {c:Bool}(D:P.underlying xt=some .bool):(Op.equal xt (.bool b) (.bool c)).run P w=.ok (b==c) w:=by unfold Op.equal Op.maxDepth;rw[show(10000:Nat)=9999+1 from rfl,Op.equalIn];simp only[fq,run_underlying D,dd];rfl
theorem xy {x y:Operand}{c:Bool}
 (E:ck T x=some (.v (.c (.b b)))) (H:ck T y=some (.v (.c (.b c)))) (hu:P.underlying xt=some .bool) (D:gd ops ⟨dst,.binOp .eql xt x y yt,ty,pos,af,g⟩ T=some true):
 Sem P ops ⟨dst,.binOp .eql xt x y yt,ty,pos,af,g⟩ T B (.r (.v (.c (.b (b==c))))):=
 bK D (rG rfl) (fun V β a w hs=>by have R:a.eval x=.bool b:=tj (ao hs (x:=x) (by simp[Op.operands]) E);have J:a.eval y=.bool c:=tj (ao hs (x:=y) (by simp[Op.operands]) H);refine⟨.bool (b==c),?_,.b _⟩;have I:(eqGuard .eql xt x y (.bool b) (.bool c)).run P w=.ok () w:=rfl;have h2:binOp .eql xt (.bool b) (.bool c)=(do pure (.bool (<-Op.equal xt (.bool b) (.bool c)))):=rfl;simp only[execOp,R,J,fq,I,dd,h2,mj hu,dx])
theorem go {x y:Operand}{c:Bool}
 (E:ck T x=some (.v (.c (.b b)))) (H:ck T y=some (.v (.c (.b c)))) (hu:P.underlying xt=some .bool) (D:gd ops ⟨dst,.binOp .neq xt x y yt,ty,pos,af,g⟩ T=some true):
 Sem P ops ⟨dst,.binOp .neq xt x y yt,ty,pos,af,g⟩ T B (.r (.v (.c (.b (!(b==c)))))):=
 bK D (rG rfl) (fun V β a w hs=>by have R:a.eval x=.bool b:=tj (ao hs (x:=x) (by simp[Op.operands]) E);have J:a.eval y=.bool c:=tj (ao hs (x:=y) (by simp[Op.operands]) H);refine⟨.bool (!(b==c)),?_,.b _⟩;have I:(eqGuard .neq xt x y (.bool b) (.bool c)).run P w=.ok () w:=rfl;have h2:binOp .neq xt (.bool b) (.bool c)=(do pure (.bool (!(<-Op.equal xt (.bool b) (.bool c))))):=rfl;simp only[execOp,R,J,fq,I,dd,h2,mj hu,dx])
theorem QZ {x:Operand}{I D k:IntKind}{m:Int}
 (J:P.underlying t1=some (.int I)) (h2:P.underlying t2=some (.int D)) (H:ck T x=some (.v (.c (.i k m)))) (E:gd ops ⟨dst,.convert t1 t2 x,ty,pos,af,g⟩ T=some true):
 Sem P ops ⟨dst,.convert t1 t2 x,ty,pos,af,g⟩ T B (.r (.v (.c (.i D (D.wrap m))))):=
 bK E (rG rfl) (fun V β a w hs=>by have R:a.eval x=.int k m:=fN (ao hs (x:=x) (by simp[Op.operands]) H);refine⟨.int D (D.wrap m),?_,.i _ _⟩;simp[execOp,R,convert,run_underlying J,run_underlying h2,Conv.intToInt])
end
def cX (v:Nat):List Int:=if h:v=0 then[] else((v%1000000000:Nat):Int)::cX (v/1000000000)
termination_by v
decreasing_by exact Nat.div_lt_self (Nat.pos_of_ne_zero h) (by omega)
theorem ku:cX 0=[]:=by unfold cX;simp
theorem AF {v:Nat}(h:v≠0):cX v=((v%1000000000:Nat):Int)::cX (v/1000000000):=by rw[cX];simp[h]
theorem bD (v:Nat):Lim (cX v):=by
 induction v using Nat.strongRecOn with
 |_ v D=>
  by_cases h:v=0;·subst h;rw[ku];exact Lim.nil
  ·rw[AF h];exact Lim.cons (by omega) (by omega) (D _ (Nat.div_lt_self (Nat.pos_of_ne_zero h) (by omega)))
theorem bR (v:Nat):val (cX v)=v:=by
 induction v using Nat.strongRecOn with
 |_ v D=>
  by_cases h:v=0;·subst h;rw[ku];rfl
  ·rw[AF h,dG,D _ (Nat.div_lt_self (Nat.pos_of_ne_zero h) (by omega))];omega
theorem dM {v:Nat}:cX v=[]↔v=0:=by
 constructor;·intro h;have:=bR v;rw[h] at this;simp[val] at this;omega
 ·intro h;rw[h,ku]
theorem ID (h:Nrm xs) (D:xs≠ []):Nrm (x::xs):=by obtain⟨ys,y,e,E⟩:=h.last D;rw[e];exact Cw (x::ys) y E
theorem jc (v:Nat):Nrm (cX v):=by
 induction v using Nat.strongRecOn with
 |_ v E=>
  by_cases h:v=0;·subst h;rw[ku];exact Nrm.nil
  ·rw[AF h];by_cases D:v/1000000000=0
   ·rw[D,ku];exact Cw [] _ (by omega)
   ·exact ID (E _ (Nat.div_lt_self (Nat.pos_of_ne_zero h) (by omega))) (fun e=>D (dM.1 e))
theorem J6 (h:Nrm xs) (hl:Lim xs):xs=cX (val xs).toNat:=by have D:=cm hl;exact Nrm.inj h (jc _) hl (bD _) (by rw[bR];omega)
def cL (x:Int):CellD:=.s (cX x.natAbs).length ((cX x.natAbs).map (CellD.i .u32))
def cI (x:Int):List CellD:=[.b (decide (x<0)),cL x]
def dI (x:Int):D0:=.a (cI x)
structure Sz (k:Nat) (x:Int):Prop where
 lt:x<pw k
 gt: -x<pw k
section
variable {av:Nat->Prop}{w w':World}
theorem vY {c:Nat}(h:RdC av w (.slice A n c) (.s xs.length (xs.map (CellD.i .u32)))):RdI .u32 w A n xs/\n<=c/\c<=9223372036854775807/\(∀b off,0<n->A=some ⟨b,off,none⟩-> ¬av b):=by
 generalize hu:CellD.s xs.length (xs.map (CellD.i .u32))=u at h;cases h with
 |s0 _ c R=>
  have:xs=[]:=by grind
  subst this;exact⟨Rd.nil,eo _,R,fun _ _ h=>absurd h (by omega)⟩
 |s b off c sz n us cv h0 a0 a3 D hb a1 H hr=>
  injection hu with h1 h2;subst h1;subst h2;have a2:sz=1:=by simp at D;have:=Gk h0 (D.symm.trans (Nat.mul_one _).symm);grind
  subst a2;refine⟨⟨by simp,fun _=>⟨b,off,rfl,hb,fun j u E=>?_⟩⟩,a0,a3,fun b' a4 _ e=>by injection e with e;injection e with e1 e2;subst e1;exact a1⟩;rw[lu] at E;cases I:xs[j]? with
  |none=>rw[I] at E;cases E
  |some x=>
   rw[I] at E;injection E with E;have a5:j<xs.length:=(fb.1 I).1;have R:=H j (by omega);have J:=hr j (.i .u32 x) (by rw[lu,I];rfl);rw[R,fN J,<-E]
 |_=>cases hu
theorem wC {c:Nat}(h:RdI .u32 w A n xs) (J:n<=c) (E:c<=9223372036854775807) (R: ∀b off,A=some ⟨b,off,none⟩-> ¬av b):
 RdC av w (.slice A n c) (.s n (xs.map (CellD.i .u32))):=by
 have hl:=h.len
 rcases iS n with H|H
 ·subst H
  have:xs=[]:=by grind
  subst this
  exact .s0 A c E
 ·obtain⟨b,off,e,hb,hc⟩:=h.2 H
  subst e
  refine .s b off c 1 n _ (fun j=>.int .u32 (xs.getD j 0)) H J E (by simp[hl]) hb (R b off rfl) (fun j D=>?_) (fun j u D=>?_)
  ·grind
  ·rw[lu] at D
   cases I:xs[j]? with
   |none=>rw[I] at D;cases D
   |some x=>
    rw[I] at D
    injection D with D
    subst D
    simp only[List.getD,I,Option.getD_some]
    exact .i _ _
theorem kw (h:RdV av w v (dI x)): ∃neg A n c,v=.agg #[.bool neg,.slice A n c]/\IsInt w neg A n c x:=by
 obtain⟨cs,rfl,D⟩:=h;have hl:=D.1;obtain⟨cs⟩:=cs;match cs,hl,D with
 |[a,b],_,D=>
  obtain⟨h1,D⟩:=D.uncons;obtain⟨E,_⟩:=D.uncons;unfold cL at E;have e1:=tj h1;subst e1;have: ∃A n c,b=.slice A n c:=by
   generalize hu:CellD.s (cX x.natAbs).length ((cX x.natAbs).map (CellD.i .u32))=u at E;cases E with
   |s0 A c _=>exact⟨A,0,c,rfl⟩
   |s b off c sz n=>exact⟨_,n,c,rfl⟩
   |_=>cases hu
  obtain⟨A,n,c,rfl⟩:=this;obtain⟨J,g2,R,_⟩:=vY E;refine⟨_,A,n,c,rfl,cX x.natAbs,⟨J,g2,R,bD _⟩,jc _,?_,fun hn=>?_⟩
  ·rw[bR];by_cases H:x<0;·simp[H,sg];omega
   ·simp[H,sg];omega
  ·have H:x<0:=by simpa using hn
   have:=J.len;rcases iS n with I|I
   ·rw[I] at this;have:=dM.1 (iv.1 this);omega
   grind
theorem H3 {neg:Bool}{c:Nat}(h:IsInt w neg A n c x) (H: ∀b off,A=some ⟨b,off,none⟩-> ¬av b):RdV av w (.agg #[.bool neg,.slice A n c]) (dI x):=by
 obtain⟨R,s2,s3,s4⟩:=h.sign;obtain⟨xs,hs,J,I,hp⟩:=h;have D:neg=decide (x<0):=by
  cases neg with
  |true=>simp[R rfl]
  |false=>
   rcases iS n with h0|h0;·grind
   grind
 have E:xs=cX x.natAbs:=by
  rw[J6 J hs.2.2.2];congr 1;have:=cm hs.2.2.2;cases neg with
  |true=>rw[fW] at I;omega
  |false=>rw[cr] at I;omega
 have hl:n=(cX x.natAbs).length:=by rw[<-E,hs.len]
 refine⟨_,rfl,iM ?_ (iM ?_ nl)⟩;·rw[D];exact .b _
 ·unfold cL;rw[<-hl,<-E];exact wC hs.1 hs.2.1 hs.2.2.1 H
theorem pc {e:Ending}(E: ∀b,av b->b<w.heap.size) (h:H7 w x e w'): ∃v,e=.returned v/\Y7 av w' v [dI x]/\Below w.heap.size w w':=by obtain⟨neg,A,n,c,rfl,hi,D,I⟩:=h;exact⟨_,rfl,H3 hi (fun b off e H=>by have:=E b H;have:=D b off e;omega),I⟩
theorem IsInt.sz {neg:Bool}{c:Nat}(h:IsInt w neg A n c x) (hs:Sz 100000000 x):n<=100000000:=h.le hs.1 hs.2
end
theorem Sz.mono {l:Nat}(h:Sz k x) (hl:k<=l):Sz l x:=by have:=nN hl;exact⟨by have:=h.1;omega,by have:=h.2;omega⟩
theorem Sz.m_ {l:Nat}(h:Sz k x) (hl:k<=l:=by decide):Sz l x:=h.mono hl
theorem fI {l:Nat}(h:Sz k x) (hl:k<=l:=by decide):Sz l x:=h.mono hl
theorem SF {l:Nat}(h:Sz l x:=by first|assumption|exact Sz.mono (by assumption) (by decide)):Sz l x:=h
theorem Sz.neg (h:Sz k x):Sz k (-x):=⟨h.2,by have:=h.1;omega⟩
theorem Sz.add (h:Sz k x) (D:Sz k y):Sz (k+1) (x+y):=by have:=d5 k;obtain⟨E,I⟩:=h;obtain⟨H,J⟩:=D;constructor<;>omega
theorem Sz.abs:Sz k x↔(x.natAbs:Int)<pw k:=⟨fun h=>by have:=h.lt;have:=h.gt;omega,fun h=>⟨by omega,by omega⟩⟩
theorem Sz.mul {l:Nat}(h:Sz k x) (I:Sz l y):Sz (k+l) (x*y):=by
 rw[Sz.abs] at*;rw[Int.natAbs_mul,wq,wd];have E:=dP k;generalize (x.natAbs:Int)=a at*;have D:0<=(y.natAbs:Int):=by omega
 generalize (y.natAbs:Int)=b at*;generalize pw k=p at*;generalize pw l=q at*;have H:a*b<=(p-1)*(q-1):=qR (by omega) (by omega) D (by omega);grind
theorem Sz.of_le (h:Sz k x) (D:y.natAbs<=x.natAbs):Sz k y:=by rw[Sz.abs] at*;omega
theorem Sz.small (D:3<=k) (E: -9223372036854775808<=x) (I:x<=9223372036854775807):Sz k x:=by
 have H:pw 3=1000000000000000000000000000:=by decide
 have:=nN D;constructor<;>omega
section
theorem wQ:Ok Tryz.prog 105 [dI x] [.c (.i .i64 (dC x 0))]:=⟨by kernel_rfl,fun av vs w E h=>by
 obtain⟨vs⟩:=vs;match vs,h.1,h with
 |[v],_,h=>
  obtain⟨neg,A,n,c,rfl,hi⟩:=kw h.uncons.1;exact(QN neg A n c x w hi).mono fun e w' ⟨H,D⟩=>⟨_,H,.i _ _,D⟩⟩
theorem m5:Ok Tryz.prog 109 [dI x,dI y] [.c (.i .i64 (dC x y))]:=⟨by kernel_rfl,fun av vs w R h=>by
 obtain⟨vs⟩:=vs;match vs,h.1,h with
 |[v,u],_,h=>
  obtain⟨I,E⟩:=h.uncons;replace E:=E.uncons.1;obtain⟨neg,A,n,c,rfl,hi⟩:=kw I;obtain⟨D,J,n',c',rfl,H⟩:=kw E;exact(Qp neg D A J n c n' c' x y w hi H).mono fun e w' ⟨he,hb⟩=>⟨_,he,.i _ _,hb⟩⟩
theorem jP (hx:Sz 100000000 x) (hy:Sz 100000000 y):Ok Tryz.prog 110 [dI x,dI y] [dI (x*y)]:=⟨by kernel_rfl,fun av vs w H h=>by
 obtain⟨vs⟩:=vs;match vs,h.1,h with
 |[v,u],_,h=>
  obtain⟨J,I⟩:=h.uncons;replace I:=I.uncons.1;obtain⟨neg,A,n,c,rfl,hi⟩:=kw J;obtain⟨D,R,n',c',rfl,E⟩:=kw I;exact(PW neg D A R n c n' c' x y w hi E (hi.sz hx) (E.sz hy)).mono fun e w' h=>pc H h⟩
theorem wS (hx:Sz 100000000 x) (hy:Sz 100000000 y):Ok Tryz.prog 118 [dI x,dI y] [dI (x+y)]:=⟨by kernel_rfl,fun av vs w H h=>by
 obtain⟨vs⟩:=vs;match vs,h.1,h with
 |[v,u],_,h=>
  obtain⟨J,I⟩:=h.uncons;replace I:=I.uncons.1;obtain⟨neg,A,n,c,rfl,hi⟩:=kw J;obtain⟨D,R,n',c',rfl,E⟩:=kw I;exact(Bl neg D A R n c n' c' x y w hi E (hi.sz hx) (E.sz hy)).mono fun e w' h=>pc H h⟩
theorem W9 (hx:Sz 100000000 x) (hy:Sz 100000000 y):Ok Tryz.prog 317 [dI x,dI y] [dI (x-y)]:=⟨by kernel_rfl,fun av vs w H h=>by
 obtain⟨vs⟩:=vs;match vs,h.1,h with
 |[v,u],_,h=>
  obtain⟨J,I⟩:=h.uncons;replace I:=I.uncons.1;obtain⟨neg,A,n,c,rfl,hi⟩:=kw J;obtain⟨D,R,n',c',rfl,E⟩:=kw I;exact(QX neg D A R n c n' c' x y w hi E (hi.sz hx) (E.sz hy)).mono fun e w' h=>pc H h⟩
theorem xL (E:Sz 100000000 x):Ok Tryz.prog 165 [dI x] [dI (-x)]:=⟨by kernel_rfl,fun av vs w D h=>by
 obtain⟨vs⟩:=vs;match vs,h.1,h with
 |[v],_,h=>
  obtain⟨neg,A,n,c,rfl,hi⟩:=kw h.uncons.1;exact(TJ neg A n c x w hi (hi.sz E)).mono fun e w' h=>pc D h⟩
theorem lW (E: -9223372036854775808<=x) (H:x<=9223372036854775807):Ok Tryz.prog 170 [.c (.i .i64 x)] [dI x]:=⟨by kernel_rfl,fun av vs w D h=>by
 obtain⟨vs⟩:=vs;match vs,h.1,h with
 |[v],_,h=>
  obtain rfl:=fN h.uncons.1;exact(Jd x w E H).mono fun e w' h=>pc D h⟩
end
section
variable {P:Program}{ops:Array Oper}{o:Oper}{T:TF}{B:BF}{V:Nat->Prop}{β:Nat->Nat}{a:Act}{w w':World}{av:Nat->Prop}
theorem I8 {R:Value->World->Prop}
 (h: ∀(o':Oper) (a':Act) (K:Act->World->Prop) (Q:Exit->Act->World->Prop),o'.op=o.op->a'.eval=a.eval->(∀v w',R v w'->K (a'.put o'.dst v) w')->o'.wp P a' w K Q):Gives P o a w R:=by
 have I:(⟨a.tmps.push undef,a.defers⟩:Act).eval=a.eval:=by
  funext x;cases x with
  |tmp t=>
   show(a.tmps.push undef).getD t undef=a.tmps.getD t undef;by_cases ht:t<a.tmps.size
   ·simp only[Array.getD,ht,Array.size_push,Nat.lt_succ_of_lt ht,dite_true];rw[Array.getInternal_eq_getElem,Array.getInternal_eq_getElem,Array.getElem_push_lt]
   ·by_cases I:t=a.tmps.size;·simp_all
    grind
  |_=>rfl
 have E:=h {o with dst:=some a.tmps.size} ⟨a.tmps.push undef,a.defers⟩ (fun J w'=>J.defers=a.defers/\ ∃v,J.tmps[a.tmps.size]? =some v/\R v w') (fun _ _ _=>False) rfl I (fun v w' hv=>⟨rfl,v,by simp[Act.put],hv⟩)
 unfold Oper.wp at E
 unfold Gives
 rw[I] at E
 have e2:execOp a.eval {o with dst:=some a.tmps.size}=execOp a.eval o:=by cases o;rfl
 rw[e2] at E
 have D: ∀(v:Value) (w':World),(∃u,((⟨a.tmps.push undef,a.defers⟩:Act).put (some a.tmps.size) v).tmps[a.tmps.size]? =some u/\R u w')->R v w':=by rintro v w' ⟨u,hu,hR⟩;simp[Act.put] at hu;grind
 generalize (execOp a.eval o).run P w=r at*
 cases r with
 |ok n w'=>
  cases n<;>simp only[Oper.upon] at E<;>simp only[DI]
  case value v=>exact D v w' E.2
  case skip=>exact D undef w' E.2
  case enter f args=>
   refine E.mono fun e H I=>?_
   cases e with
   |returned v=>exact⟨v,rfl,D v H I.2⟩
   |panicked c=>exact I.elim
   |outgrown=>obtain⟨_,_,h⟩:=I;exact h.elim
  case defer d=>
   have:=E.1
   simp[Act.put] at this
  case row row args=>exact E.mono fun v H hv=>D v H hv.2
 |halt x w'=>cases x<;>simp only[Oper.upon] at E
theorem O5 {x:Operand}{e:Int}
 (hx:ck T x=some (.v (.c (cL e)))) (hs:Sz 100000000 e) (hg:gd ops ⟨dst,.call ⟨.builtin .append,#[.const (.slice none 0 0),x],#[36,36]⟩,ty,pos,af,g⟩ T=some true):
 Sem Tryz.prog ops ⟨dst,.call ⟨.builtin .append,#[.const (.slice none 0 0),x],#[36,36]⟩,ty,pos,af,g⟩ T B (.r (.v (.c (cL e)))):=by
 refine⟨rG rfl,fun V β a w E=>⟨eL E hg,I8 fun o' a' K Q ho he hK=>?_⟩⟩
 have I:RdC V w (a.eval x) (cL e):=ao E (x:=x) (by simp[Op.operands,Call.operands]) hx
 unfold cL at I
 have hf: ∃A n c,a.eval x=.slice A n c:=by
  generalize hu:CellD.s (cX e.natAbs).length ((cX e.natAbs).map (CellD.i .u32))=u at I;generalize a.eval x=v at I;cases I with
  |s0 A c _=>exact⟨A,0,c,rfl⟩
  |s b off c sz n=>exact⟨_,n,c,rfl⟩
  |_=>cases hu
 obtain⟨A,n,c,R⟩:=hf
 rw[R] at I
 obtain⟨g1,g2,g3,g4⟩:=vY I
 have hl:=g1.len
 have hn:n<=100000000:=by rw[<-hl];refine(jc e.natAbs).len (bD _) ?_;rw[bR];exact Sz.abs.1 hs
 refine LC (.const (.slice none 0 0)) x ho A n c (cX e.natAbs) rfl (by rw[he];exact R) ⟨g1,g2,g3,bD _⟩ (by omega) ?_
 intro v' w' D J
 refine hK v' w' ⟨?_,(ef _ w).grown J (bd _) (by intro k hk;cases hk)⟩
 obtain⟨A',c',rfl⟩:=D.form
 have H:=D.sl
 have:=wC (av:=V) H.1 H.2.1 H.2.2.1 (fun b off e hV=>by have:=D.fresh (k:=w.heap.size) (bd _) b off e;have:=E.av b hV;omega)
 show RdC V w' _ (cL e)
 unfold cL
 rw[hl]
 exact this
theorem UW {x y:Operand}{k:IntKind}{m n:Int}
 (D:ck T x=some (.v (.c (.i k m)))) (I:ck T y=some (.v (.c (.i k n)))) (H:n≠0) (E:gd ops ⟨dst,.binOp .quo xt x y yt,ty,pos,af,g⟩ T=some true):
 Sem P ops ⟨dst,.binOp .quo xt x y yt,ty,pos,af,g⟩ T B (.r (.v (.c (.i k (k.wrap (m.tdiv n)))))):=
 bK E (rG rfl) (fun V β a w hs=>by have R:a.eval x=.int k m:=fN (ao hs (x:=x) (by simp[Op.operands]) D);have J:a.eval y=.int k n:=fN (ao hs (x:=y) (by simp[Op.operands]) I);exact⟨.int k (k.wrap (m.tdiv n)),by simp[execOp,R,J,eqGuard,binOp,Op.intDiv,H],.i _ _⟩)
theorem FR {x y:Operand}{k:IntKind}{m n:Int}
 (D:ck T x=some (.v (.c (.i k m)))) (I:ck T y=some (.v (.c (.i k n)))) (H:n≠0) (E:gd ops ⟨dst,.binOp .rem xt x y yt,ty,pos,af,g⟩ T=some true):
 Sem P ops ⟨dst,.binOp .rem xt x y yt,ty,pos,af,g⟩ T B (.r (.v (.c (.i k (m.tmod n))))):=
 bK E (rG rfl) (fun V β a w hs=>by have R:a.eval x=.int k m:=fN (ao hs (x:=x) (by simp[Op.operands]) D);have J:a.eval y=.int k n:=fN (ao hs (x:=y) (by simp[Op.operands]) I);exact⟨.int k (m.tmod n),by simp[execOp,R,J,eqGuard,binOp,Op.intDiv,H],.i _ _⟩)
theorem xq (h:RdC av w v (cL x)): ∃A n c,v=.slice A n c/\Sl w A n c (cX x.natAbs)/\(∀b off,0<n->A=some ⟨b,off,none⟩-> ¬av b):=by
 have D:=h;unfold cL at D;have H: ∃A n c,v=.slice A n c:=by
  generalize hu:CellD.s (cX x.natAbs).length ((cX x.natAbs).map (CellD.i .u32))=u at D;cases D with
  |s0 A c _=>exact⟨A,0,c,rfl⟩
  |s b off c sz n=>exact⟨_,n,c,rfl⟩
  |_=>cases hu
 obtain⟨A,n,c,rfl⟩:=H;obtain⟨J,R,E,I⟩:=vY D;exact⟨A,n,c,rfl,⟨J,R,E,bD _⟩,I⟩
theorem gD (h:Sz k x):(cX x.natAbs).length<=k:=by refine(jc x.natAbs).len (bD _) ?_;rw[bR];exact Sz.abs.1 h
theorem RP {c:Nat}{zs:List Int}{b:Nat}(h:Ow w' b (.slice A n c) n zs) (D: ∀k,av k->k<b):RdC av w' (.slice A n c) (.l (val zs)):=
 .l A n c zs h.sl.1 h.sl.2.1 h.sl.2.2.1 h.sl.2.2.2 (fun E off _ e H=>by have:=h.fresh (bd _) E off e;have:=D E H;omega)
theorem vZ (hx:Sz 100000000 x) (hy:Sz 100000000 y) (h0:y≠0):Ok Tryz.prog 263 [.c (cL x),.c (cL y)] [.c (.l ((x.natAbs:Int)/y.natAbs)),.c (.l ((x.natAbs:Int)%y.natAbs))]:=⟨by kernel_rfl,fun av vs w D h=>by
 obtain⟨vs⟩:=vs;match vs,h.1,h with
 |[v,u],_,h=>
  obtain⟨hv,E⟩:=h.uncons;replace E:=E.uncons.1;obtain⟨A,n,c,rfl,H,_⟩:=xq hv;obtain⟨B,m,d,rfl,J,_⟩:=xq E;have:=H.len;have:=J.len;have:=gD hx;have:=gD hy;refine(JQ A B n c m d _ _ w H J (by omega) (by omega) (by rw[bR];omega)).mono ?_;rintro e w' ⟨A',n',c',zs,B',m',d',ys,rfl,h1,R,h3,I,h5⟩;rw[bR,bR] at R I;refine⟨_,rfl,⟨_,rfl,qG ?_ (qG ?_ RdL.nil)⟩,h5⟩;·rw[<-R];exact RP h1 D
  ·rw[<-I];exact RP h3 D⟩
theorem kW {neg:Bool}:Ok Tryz.prog 190 [.c (.b neg),.c (.l x)] [dI (sg neg x)]:=⟨by kernel_rfl,fun av vs w a1 h=>by
 obtain⟨vs⟩:=vs;match vs,h.1,h with
 |[v,u],_,h=>
  obtain⟨hv,J⟩:=h.uncons;replace J:=J.uncons.1;obtain rfl:=tj hv;have D:RdC av w u (.l x):=J;generalize H:CellD.l x=q at D;cases D with
  |l A n c xs h0 h1 h2 h3 h4=>
   injection H with H;subst H;have E:Sl w A n c xs:=⟨h0,h1,h2,h3⟩;refine(jO neg A n c xs w E).mono ?_;rintro e w' ⟨rfl,hb⟩;refine⟨_,rfl,?_,hb⟩;have hi:=(gT E neg).below hb;obtain⟨a0,g1,g2,g3,g4⟩:=id hi;rcases iS (trm xs).length with R|R
   ·have e0:trm xs=[]:=iv.1 R;have ev:val xs=0:=by rw[<-ip,e0];rfl
    rw[R] at hi⊢;have I:sg neg (val xs)=0:=by rw[ev];cases neg<;>rfl
    rw[I];refine⟨_,rfl,iM ?_ (iM ?_ nl)⟩;·simp;exact .b _
    ·unfold cL;rw[show(0:Int).natAbs=0 from rfl,ku];exact .s0 A 0 (by omega)
   ·have hn:0<n:=by have:=sA xs;have:=h0.len;omega
    exact H3 hi (fun b off e=>h4 b off hn e)
  |_=>cases H⟩
theorem rM {neg:Bool}:Ok Tryz.prog 190 [.c (.b neg),.c (cL x)] [dI (sg neg x.natAbs)]:=⟨kW (neg:=neg) (x:=x.natAbs)|>.cal,fun av vs w H h=>by
 refine kW.run av vs w H ⟨h.1,fun j v d I D=>?_⟩;match j,D with
 |0,D=>exact h.2 0 v d I D
 |1,D=>
  injection D with D;subst D;obtain⟨A,n,c,rfl,hs,E⟩:=xq (h.2 1 v _ I rfl);have:=RdC.l (av:=av) A n c _ hs.1 hs.2.1 hs.2.2.1 hs.2.2.2 E;rw[bR] at this;exact this
 |j+2,D=>cases D⟩
theorem NP {u:Int}(H:0<=u) (R:u<=18446744073709551615):Ok Tryz.prog 250 [.c (.i .u64 u)] [.c (.l u)]:=⟨by kernel_rfl,fun av vs w D h=>by
 obtain⟨vs⟩:=vs;match vs,h.1,h with
 |[v],_,h=>
  obtain rfl:=fN h.uncons.1;refine(ze u w H R (by omega)).mono ?_;rintro e w' ⟨A,c,zs,rfl,I,J,E⟩;exact⟨_,rfl,by rw[<-J];exact RP I D,E⟩⟩
theorem Jl:Ok Tryz.prog 262 [dI x] [.c (.i .u64 (if x.natAbs<1000000000000000000 then x.natAbs else 0)),.c (.b (decide (x.natAbs<1000000000000000000)))]:=⟨by kernel_rfl,fun av vs w a2 h=>by
 obtain⟨vs⟩:=vs;match vs,h.1,h with
 |[v],_,h=>
  obtain⟨cs,R,E⟩:=h.uncons.1;subst R;obtain⟨cs⟩:=cs;match cs,E.1,E with
  |[a,b],_,E=>
   obtain⟨J,E⟩:=E.uncons;have h2:=E.uncons.1;obtain rfl:=tj J;obtain⟨A,n,c,rfl,hs,_⟩:=xq h2;have hl:=hs.len;have a3:pw 2=1000000000000000000:=by decide
   by_cases hn:n<=2
   ·have I:x.natAbs<1000000000000000000:=by have J:=eK (bD x.natAbs);rw[bR] at J;have h3:=nN (n:=(cX x.natAbs).length) (m:=2) (by omega);omega
    have D: ∀(e:Ending) (w':World),e=.returned (.tuple #[.int .u64 (val (cX x.natAbs)),.bool true])/\Below w.heap.size w w'-> ∃v,e=.returned v/\Y7 av w' v [.c (.i .u64 (if x.natAbs<1000000000000000000 then x.natAbs else 0)),.c (.b (decide (x.natAbs<1000000000000000000)))]/\Below w.heap.size w w':=by
     rintro e w' ⟨rfl,hb⟩;refine⟨_,rfl,⟨_,rfl,qG ?_ (qG ?_ RdL.nil)⟩,hb⟩;·rw[if_pos I,bR];exact .i _ _
     ·rw[show decide (x.natAbs<1000000000000000000)=true from by simpa using I];exact .b _
    by_cases a1:n<=1
    ·exact(Pg _ A n c _ w hs a1).mono D
    ·obtain rfl:n=2:=by omega
     exact(TU _ A c _ w hs).mono D
   ·have H: ¬x.natAbs<1000000000000000000:=by
     have a0:cX x.natAbs≠ []:=fun e=>by rw[e] at hl;simp at hl;omega
     have J:=(jc x.natAbs).ge (bD _) a0;rw[bR] at J;have h3:=nN (n:=2) (m:=(cX x.natAbs).length-1) (by omega);omega
    refine(NE _ A n c w (by omega)).mono ?_
    rintro e w' ⟨rfl,hb⟩
    refine⟨_,rfl,⟨_,rfl,qG ?_ (qG ?_ RdL.nil)⟩,hb⟩
    ·rw[if_neg H];exact .i _ _
    ·rw[show decide (x.natAbs<1000000000000000000)=false from by simpa using H];exact .b _⟩
end
def rl (P:Program) (U:TypeId):Option (TypeId×Nat×Nat×List CellD):=
 match P.underlying U with
 |some (.slice e)=>match P.info? e,BW P e with
  |some i,some zs=>if Nat.beq i.size zs.length then some (e,i.size,i.bytes,zs) else none
  |_,_=>none
 |_=>none
section
variable {P:Program}{ops:Array Oper}{o:Oper}{T:TF}{B:BF}{V:Nat->Prop}{β:Nat->Nat}{a:Act}{w w':World}{av:Nat->Prop}
theorem iz (h:rl P U=some (e,m,by_,zs)):P.underlying U=some (.slice e)/\ ∃i z,P.info? e=some i/\i.zero=some z/\i.size=m/\i.bytes=by_/\zs.length=m/\ ∀(V:Nat->Prop) (w:World),RdCs V w z.cells.toList zs:=by
 unfold rl at h;split at h
 ·rename_i e' J;split at h
  ·rename_i i zs' hi H;split at h
   ·rename_i hb;injection h with h;injection h with h1 h;injection h with h2 h;injection h with I h4;subst h1 h2 I h4;have D:=H;unfold BW at D;rw[hi] at D;dsimp only at D;cases E:i.zero with
    |none=>rw[E] at D;cases D
    |some z=>
     refine⟨J,i,z,hi,E,rfl,rfl,(fe hb).symm,fun V w=>?_⟩;obtain⟨it,z',a0,R,hr⟩:=zd (V:=V) (w:=w) H;grind
   grind
  grind
 grind
theorem m9 {l c:Operand}
 (hU:rl P U=some (e,1,by_,[z])) (hl:ck T l=some (.v (.c (.i kl n)))) (hc:ck T c=some (.v (.c (.i kc n)))) (hb:by_*n<=281474976710656) (a3:n<=9223372036854775807)
 (hg:gd ops ⟨dst,.makeSlice U l c,ty,pos,af,g⟩ T=some true):Sem P ops ⟨dst,.makeSlice U l c,ty,pos,af,g⟩ T B (.a e (List.replicate n z) (some n)):=fun V β a w hs=>⟨eL hs hg,by
 obtain⟨hu,i,E,hi,hz,a2,a0,_,hr⟩:=iz hU
 have e1:a.eval l=.int kl n:=fN (ao hs (x:=l) (by simp[Op.operands]) hl)
 have e2:a.eval c=.int kc n:=fN (ao hs (x:=c) (by simp[Op.operands]) hc)
 have R:=run_make (P:=P) w U e i E hu hi hz kl kc n n (by omega) (by omega) (by rw[a0];have h2:((by_*n:Nat):Int)<=281474976710656:=Int.ofNat_le.2 hb;rw[wd] at h2;exact h2) (by omega)
 have J:=hr V w
 unfold Gives
 have:(execOp a.eval ⟨dst,.makeSlice U l c,ty,pos,af,g⟩).run P w=.ok (.value (.slice (some ⟨w.heap.size,0,none⟩) n n)) (w.alloc (.cells (madeCells E.cells (n*1)) e)):=by simp only[execOp,e1,e2,fq,R,dd,dx,a2];simp
 rw[this]
 refine⟨_,rfl,rfl,by simp[madeCells],fun j v u H hu=>?_⟩
 have I:E.cells.size=1:=by have:=J.1;simpa using this
 simp only[madeCells,Nat.mul_one,I,Nat.mod_one,yH,Array.toList_range,lu] at H
 cases hq:(List.range n)[j]? with
 |none=>rw[hq] at H;cases H
 |some q=>
  rw[hq] at H
  injection H with H
  have a1:u=z:=by grind
  subst a1
  have D:0<E.cells.size:=by omega
  have h0:E.cells.toList[0]? =some (E.cells[0]'D):=by grind
  have:=J.2 0 _ u h0 rfl
  rw[<-H]
  have e3:E.cells[0]! =E.cells[0]'D:=by grind
  rw[e3];exact this⟩
theorem mW {x:Operand}{c:Nat}
 (D:om P U=some m) (H:ck T x=some (.o k n c)) (E:gd ops ⟨dst,.call ⟨.builtin .len,#[x],#[U]⟩,ty,pos,af,g⟩ T=some true):
 Sem P ops ⟨dst,.call ⟨.builtin .len,#[x],#[U]⟩,ty,pos,af,g⟩ T B (.r (.v (.c (.i .i64 n)))):=
 bK E (rG rfl) (fun V β a w hs=>by
  have e:a.eval x=.slice (some ⟨β k,0,none⟩) n c:=ao hs (x:=x) (by simp[Op.operands,Call.operands]) H;unfold om at D;split at D
  ·rename_i J I;refine⟨.int .i64 n,?_,.i _ _⟩;simp[execOp,resolve,invoke,builtin,Builtin.len_,e,run_underlying I,goInt]
  ·cases D)
theorem bO {x:Operand}{c:Nat}
 (E:om P U=some m) (J:ck T x=some (.o k n c)) (hi:ck T i=some (.v (.c (.i ki j)))) (hj:0<=j/\j<n) (hg:gd ops ⟨dst,.indexAddr U x i,ty,pos,af,g⟩ T=some true):
 Sem P ops ⟨dst,.indexAddr U x i,ty,pos,af,g⟩ T B (.r (.p k (j.toNat*m))):=
 bK hg (fun k' e=>by
  obtain rfl:k=k':=by injection e
  exact sG (ops:=ops) (o:=⟨dst,.indexAddr U x i,ty,pos,af,g⟩) (by simp[Op.operands]) J rfl) (fun V β a w hs=>by
  have e:a.eval x=.slice (some ⟨β k,0,none⟩) n c:=ao hs (x:=x) (by simp[Op.operands]) J;have h2:=fN (ao hs (x:=i) (by simp[Op.operands]) hi);unfold om at E;split at E;case h_2=>cases E
  rename_i R I;cases D:P.info? R with
  |none=>rw[D] at E;cases E
  |some a0=>
   rw[D] at E;simp at E;refine⟨.pointer (some ⟨β k,j.toNat*m,none⟩),?_,rfl⟩;have H: ∀w,(sizeOf R).run P w=.ok m w:=fun w=>by unfold sizeOf typeInfo;simp[program,Sem.run,D,E]
   simp[execOp,Instr.indexAt,e,h2,asIntOf,run_underlying I,hj.1,hj.2,H,d8])
theorem ni {x:Operand}{xs:List CellD}
 (H:om P U=some m) (hx:ck T x=some (.v (.c (.s n xs)))) (hh:ck T h=some (.v (.c (.i ki j)))) (hj:0<=j/\j<=n) (hl:xs.length=n*m) (hu:xs.take (j.toNat*m)=us) (hg:gd ops ⟨dst,.slice U x none (some h) none,ty,pos,af,g⟩ T=some true):
 Sem P ops ⟨dst,.slice U x none (some h) none,ty,pos,af,g⟩ T B (.r (.v (.c (.s j.toNat us)))):=
 bK hg (rG rfl) (fun V β a w hs=>by
  have h1:=ao hs (x:=x) (by simp[Op.operands]) hx;have h2:=fN (ao hs (x:=h) (by simp[Op.operands]) hh);generalize hv:a.eval x=v at h1;have h1:RdC V w v (.s n xs):=h1;unfold om at H;split at H;case h_2=>cases H
  rename_i el a1;cases D:P.info? el with
  |none=>rw[D] at H;cases H
  |some b0=>
   rw[D] at H;simp at H;have a2: ∀w,(sizeOf el).run P w=.ok m w:=fun w=>by unfold sizeOf typeInfo;simp[program,Sem.run,D,H]
   have J: ∀(A:Option Addr) (c:Nat),a.eval x=.slice A n c->j<=c->(execOp a.eval ⟨dst,.slice U x none (some h) none,ty,pos,af,g⟩).run P w=.ok (.value (.slice A j.toNat c)) w:=by intro A c e a4;simp[execOp,Instr.sliceAt,Instr.slice,run_underlying a1,e,h2,Instr.sliceBounds,Instr.sliceBound,asIntOf,hj.1,a4,a2,Addr.add];try (cases A<;>rfl)
   cases h1 with
   |s0 A c hc=>
    grind
   |s b off c sz _ _ cv h0 a6 R E hb a3 hc hr=>
    have a9:sz=m:=by rw[hl] at E;exact(Gk h0 E).symm
    refine⟨_,J _ c hv (by omega),?_⟩;rcases iS j.toNat with I|I;·rw[<-hu,I];simp;exact .s0 _ c R
    ·have a0:j.toNat<=n:=by omega
     have a5:j.toNat*sz<=n*sz:=mE _ a0;refine .s b off c sz j.toNat us cv I (by omega) R ?_ hb a3 (fun q hq=>hc q (by omega)) (fun q u hq=>?_);·grind
     ·rw[<-hu,j6] at hq;split at hq;·grind
      ·cases hq)
end
section
variable {P:Program}{ops:Array Oper}{o:Oper}{T:TF}{B:BF}{V:Nat->Prop}{β:Nat->Nat}{a:Act}{w w':World}{av:Nat->Prop}
theorem Qd (h:RdCs V w vs us): ∀v∈vs,v.oneCell'=true:=by
 intro v J;obtain⟨j,I⟩:=yI J;have E:j<us.length:=by rw[<-h.1];exact(fb.1 I).1
 have:=h.2 j v _ I (dY E);generalize us[j]=u at this;cases this with
 |x v D H=>cases v<;>first|rfl|exact absurd rfl (D _)|exact absurd rfl (H _)
 |e v D H=>cases v<;>first|rfl|exact absurd rfl (D _)|exact absurd rfl (H _)
 |_=>rfl
theorem KZ {xs:List CellD}(h:RdC V w v (.s n xs)) (hl:xs.length=n*m):
 ∃(A:Option Addr) (c:Nat) (vs:List Value),v=.slice A n c/\RdCs V w vs xs/\(∀(j:Nat) (u:Value),vs[j]? =some u-> ∃b off,A=some ⟨b,off,none⟩/\w.cell? ⟨b,off+j,none⟩=some u):=by
 generalize E:CellD.s n xs=u at h
 cases h with
 |s0 A c hc=>
  injection E with I J
  subst I J
  exact⟨A,c,[],rfl,nl,fun j u R=>by simp at R⟩
 |s b off c sz n' a3 cv h0 a0 a2 D hb a1 H hr=>
  injection E with I J
  subst I J
  refine⟨_,c,(List.range (n*sz)).map cv,rfl,⟨by simp[D],fun j v u hv E=>?_⟩,fun j u R=>?_⟩
  ·grind
  grind
 |_=>cases E
theorem qo {xs:List CellD}(hU:rl P U=some (e,m,by_,zs)) (h:RdC V w v (.s n xs)) (hl:xs.length=n*m): ∃news,Src P m U v n news w/\RdCs V w news xs:=by
 obtain⟨A,c,vs,rfl,I,J⟩:=KZ h hl;obtain⟨hu,_⟩:=iz hU;have E:vs.length=n*m:=by rw[I.1,hl]
 have D: ∀w',(∀a:Addr,w'.cell? a=w.cell? a)->(Builtin.firstCells m n (.slice A n c)).run P w'=.ok vs.toArray w':=by
  intro w' R;cases A with
  |none=>
   have:vs=[]:=by
    cases vs with
    |nil=>rfl
    |cons u us=>obtain⟨b,off,e,_⟩:=J 0 u rfl;cases e
   subst this;rfl
  |some A=>
   have:=run_loadCells_list (P:=P) w' A vs (fun j u hj=>by obtain⟨b,off,e,H⟩:=J j u hj;injection e with e;subst e;rw[d8,R];exact H)
   rw[E] at this;exact this
 exact⟨vs,⟨.inl ⟨e,hu⟩,fun _=>rfl,D w (fun _=>rfl),D w.drew (fun _=>rfl),E,Qd I⟩,I⟩
theorem wI {x y:Operand}{c q:Nat}{ys:List CellD}
 (hU:rl P U=some (e,m,by_,zs)) (hx:ck T x=some (.o k n c)) (hy:ck T y=some (.v (.c (.s q ys)))) (hb:B k=some (e,cs)) (a9:cs.length=c*m) (b2:ys.length=q*m) (hm:0<m)
 (E:c<n+q) (b4:n<=c) (I:(n+q)*by_<=140737488355328) (b3:n+q<=maxLen) (b6:cs.take (n*m)++ys=us)
 (hg:gd ops ⟨dst,.call ⟨.builtin .append,#[x,y],#[U,U]⟩,ty,pos,af,g⟩ T=some true):
 Sem P ops ⟨dst,.call ⟨.builtin .append,#[x,y],#[U,U]⟩,ty,pos,af,g⟩ T B (.c k (.v (.c (.s (n+q) us)))):=by
 refine⟨rfl,by rw[hb];simp,fun V β a w hs=>⟨eL hs hg,?_⟩⟩
 have e1:a.eval x=.slice (some ⟨β k,0,none⟩) n c:=ao hs (x:=x) (by simp[Op.operands,Call.operands]) hx
 have h2:RdC V w (a.eval y) (.s q ys):=ao hs (x:=y) (by simp[Op.operands,Call.operands]) hy
 obtain⟨news,a0,b8⟩:=qo hU h2 b2
 obtain⟨hu,i,z,hi,hz,b5,b0,_,c3⟩:=iz hU
 obtain⟨c0,vs,ev,hr⟩:=hs.box k e cs hb
 subst b5
 have c1:n*i.size<=cs.length:=by rw[a9];exact mE _ b4
 have a4:=hr.take (n*i.size)
 have R:(vs.toList.take (n*i.size)).length=n*i.size:=by rw[a4.1,eu];omega
 have a6:(Builtin.firstCells i.size n (.slice (some ⟨β k,0,none⟩) n c)).run P w.drew=.ok (vs.toList.take (n*i.size)).toArray w.drew:=by
  have:=run_loadCells_list (P:=P) w.drew ⟨β k,0,none⟩ (vs.toList.take (n*i.size)) (fun j u J=>by
   rw[d8,dt];show w.cell? _=_;rw[j6] at J;split at J;·rw[bE ev,<-J];simp
   ·cases J)
  rw[R] at this;exact this
 have a5:=run_append_grow_src (P:=P) (w:=w) U U ty e i z hu hi hz (some ⟨β k,0,none⟩) n c _ a6 (a.eval y) q news a0 E (by have:maxLen=9223372036854775807:=rfl;omega) (growslice_fits E (by rw[b0];exact I))
 have a2:(execOp a.eval ⟨dst,.call ⟨.builtin .append,#[x,y],#[U,U]⟩,ty,pos,af,g⟩).run P w=.ok (.value (.slice (some ⟨w.heap.size,0,none⟩) (n+q) (grownCap w (n+q) c e)))
  (w.drew.alloc (.cells ((vs.toList.take (n*i.size)++news).toArray++Builtin.zeroCells z.cells (grownCap w (n+q) c e-(n+q))) e)):=by
  simp only[execOp,resolve,invoke,builtin,fq,dx,dd,qT,mm,qy,e1]
  rw[a5]
  rfl
 unfold Gives
 rw[a2]
 have D:Below w.heap.size w (w.drew.alloc (.cells ((vs.toList.take (n*i.size)++news).toArray++Builtin.zeroCells z.cells (grownCap w (n+q) c e-(n+q))) e)):=(ef _ w).drew.alloc (bd _) _
 refine⟨?_,D⟩
 have a1:Keep V (fun b=>V b/\b≠β k) w (w.drew.alloc (.cells ((vs.toList.take (n*i.size)++news).toArray++Builtin.zeroCells z.cells (grownCap w (n+q) c e-(n+q))) e)):=⟨D.size,fun b hb _=>D.block b hb,fun _ _ h=>h.1⟩
 have H:=(kG a4 b8).keep a1
 rw[b6] at H
 have a3:(vs.toList.take (n*i.size)++news).length=(n+q)*i.size:=by rw[dc,R,a0.newsLen,iP]
 refine .s w.heap.size 0 (grownCap w (n+q) c e) i.size (n+q) us (fun j=>(vs.toList.take (n*i.size)++news).getD j undef) (by omega) (grownCap_ge _ _ _ _) ?_ (by rw[<-H.1];exact a3) (by simp) (fun h=>by have:=hs.av _ h.1;omega) (fun j J=>?_) (fun j u J=>?_)
 ·exact grownCap_le_maxLen _ _ _ _ b3
 ·have b1:j<(vs.toList.take (n*i.size)++news).length:=by omega
  rw[dt]
  show(w.drew.alloc _).cell? ⟨w.drew.heap.size,j,none⟩=_
  rw[bE (U:=e) (vs:=(vs.toList.take (n*i.size)++news).toArray++Builtin.zeroCells z.cells (grownCap w (n+q) c e-(n+q))) (heap_alloc_new w.drew _)]
  grind
 ·have b1:j<(vs.toList.take (n*i.size)++news).length:=by rw[H.1];exact(fb.1 J).1
  have hv:(vs.toList.take (n*i.size)++news)[j]? =some ((vs.toList.take (n*i.size)++news)[j]):=by grind
  simp only[List.getD,hv,Option.getD_some]
  exact H.2 j _ u hv J
theorem rb {ps:Array (Nat×Operand)}{dps:List (Nat×D0)}
 (hU:rl P U=some (e,m,by_,zs)) (hp:rD T ps.toList=some dps) (hf:tG (fun i=>some (i*m,m)) (List.replicate n zs).flatten dps=some us) (hn:n*m<=16777216) (hm:0<n*m)
 (hg:gd ops ⟨dst,.buildSlice U n ps,ty,pos,af,g⟩ T=some true):Sem P ops ⟨dst,.buildSlice U n ps,ty,pos,af,g⟩ T B (.a e us (some n)):=fun V β a w hs=>⟨eL hs hg,by
 obtain⟨hu,i,z,hi,hz,a1,a4,I,a0⟩:=iz hU
 obtain⟨R,h2⟩:=sI hs ps.toList dps (fun p hp=>by simp only[Op.operands,List.mem_toArray,nC];exact⟨p,hp,rfl⟩) hp
 subst a1
 have H:z.cells.size=i.size:=by have:=(a0 V w).1;rw[I] at this;simpa using this
 have D:RdCs V w ((Array.range (n*i.size)).map (z.cells[· %z.cells.size]!)).toList (List.replicate n zs).flatten:=by
  have a3: ∀(n:Nat),RdCs V w ((List.range (n*i.size)).map (fun j=>z.cells[j%z.cells.size]!)) (List.replicate n zs).flatten:=by
   intro n;induction n with
   |zero=>simp;exact nl
   |succ n ih=>
    rw[Nat.succ_mul,List.range_add,zw,List.replicate_succ',List.flatten_append];refine kG ih ?_;have e2:(List.map (fun x=>n*i.size+x) (List.range i.size)).map (fun j=>z.cells[j%z.cells.size]!)=z.cells.toList:=by apply List.ext_getElem (by simp[H]);intro j R h2;simp at R;simp only[List.getElem_map,List.getElem_range,H];rw[Nat.mul_comm n,Nat.mul_add_mod,Nat.mod_eq_of_lt (by omega),getElem!_pos z.cells j (by omega)];simp
    grind
  have:=a3 n;simpa using this
 obtain⟨cells,J,a2⟩:=v7 _ dps _ _ us R h2 D hf
 have E:=run_buildSlice (P:=P) w U e n (ps.map fun(i,x)=>(i,a.eval x)) cells i z hu hi hz (by have:(2:Nat)^24=16777216:=rfl;omega) (by omega) (by simpa using J)
 unfold Gives
 have:(execOp a.eval ⟨dst,.buildSlice U n ps,ty,pos,af,g⟩).run P w=.ok (.value (.slice (some ⟨w.heap.size,0,none⟩) n n)) (w.alloc (.cells cells e)):=by simp only[execOp,fq,E,dd,dx]
 rw[this]
 exact⟨cells,rfl,rfl,a2⟩⟩
end
section
variable {P:Program}{σ:St}{Q:Exit->St->Prop}
theorem Rel.upd {a:Act}(h:Rel av w0 n T B β a w) {t:Nat}{x:DV}(E:a.tmps[t]? =some v)
 (I:RdX (fun b=>av b\/ ∃k,B k≠none/\β k=b) w β v x) (J:jq x=none):Rel av w0 n (fun s=>if t=s then some x else T s) B β a w:=
 ⟨h.dfr,h.siz,h.bel,h.avl,h.avE,h.big,h.fix,h.inj,h.own,fun s y k hs D=>by
  try dsimp only at hs
  split at hs;·injection hs with hs;subst hs;rw[J] at D;cases D
  ·exact h.wf s y k hs D,h.sees.av,h.sees.box,fun s y H hs=>by
  try dsimp only at hs
  split at hs;·rename_i e;injection hs with hs;subst hs;subst e;exact⟨v,E,I⟩
  ·exact h.sees.tmp s y H hs⟩
theorem iq {ι:Type}{x y:Code}(J:ι->St) (D:Dw P x σ (Eb (fun σ'=> ∃j,Sub σ' (J j)) Q)) (E: ∀j,Dw P y (J j) Q):Dw P (.seq x y) σ Q:=by
 refine ab (D.mono fun e σ' h=>?_);cases e with
 |normal=>obtain⟨j,hs⟩:=h;exact(E j).weak hs
 |_=>exact h
theorem Rel.release {a:Act}{t:Nat}(H:Rel av w0 N (St.T ⟨N,tm,bx⟩) (St.B ⟨N,tm,bx⟩) β a w)
 (ht:look t tm=some (.o k n' c')) (hb:look k bx=some (U,cs)) (hm:cs.length=c'*m) (hn:n'<=c') (hc:c'<=9223372036854775807) (hu:cs.take (n'*m)=us):
 Rel av w0 N (St.T ⟨N,(t,.v (.c (.s n' us)))::hJ k tm,f6 k bx⟩) (St.B ⟨N,(t,.v (.c (.s n' us)))::hJ k tm,f6 k bx⟩) β a w:=by
 obtain⟨v,hv,hx⟩:=H.sees.tmp t _ trivial ht
 have hx:v=.slice (some ⟨β k,0,none⟩) n' c':=hx
 subst hx
 obtain⟨a0,vs,ev,J⟩:=H.sees.box k U cs hb
 have a1:(St.B ⟨N,tm,bx⟩) k≠none:=by rw[show(St.B ⟨N,tm,bx⟩) k=some (U,cs) from hb];simp
 have e:=LU H a1
 have D:Keep (fun b=>av b\/ ∃l,(St.B ⟨N,tm,bx⟩) l≠none/\β l=b) (fun b=>(av b\/ ∃l,(St.B ⟨N,tm,bx⟩) l≠none/\β l=b)/\b≠β k) w w:=⟨Nat.le_refl _,fun _ _ _=>rfl,fun _ _ h=>h.1⟩
 have a2:n'*m<=cs.length:=by rw[hm];exact mE _ hn
 have E:RdC (fun b=>(av b\/ ∃l,(St.B ⟨N,tm,bx⟩) l≠none/\β l=b)/\b≠β k) w (.slice (some ⟨β k,0,none⟩) n' c') (.s n' us):=by
  rcases iS n' with h0|h0
  ·subst h0;rw[<-hu];simp;exact .s0 _ _ hc
  ·have R:=(J.take (n'*m)).keep D;rw[hu] at R;have a3:n'*m<=vs.size:=by have:=J.1;simp at this;omega
   refine .s (β k) 0 c' m n' us (fun j=>vs.getD j undef) h0 hn hc ?_ (H.sees.av _ a0) (fun h=>h.2 rfl) (fun j hj=>?_) (fun j u hj=>?_);·grind
   ·rw[dt,bE ev];have:j<vs.size:=by omega
    simp[Array.getD,this]
   ·have a4:j<us.length:=(fb.1 hj).1;have I:j<n'*m:=by grind
    refine R.2 j _ u ?_ hj;rw[j6,if_pos I,kj];have:j<vs.size:=by omega
    simp[Array.getD,this]
 have h2:=(H.drop k).upd (t:=t) (x:=.v (.c (.s n' us))) hv (by rw[e];exact E) rfl
 refine h2.congr (fun s=>?_) (fun l=>?_)
 ·show look s ((t,.v (.c (.s n' us)))::hJ k tm)=_
  rw[aO]
  split
  ·rfl
  ·rw[iZ]
   show _=oM k (fun s=>look s tm) s
   unfold oM
   grind
 ·exact iU k l bx
theorem cD {t:Nat}
 (ht:look t tm=some (.o k n' c')) (D:look k bx=some (U,cs)) (E:cs.length=c'*m) (H:n'<=c') (J:c'<=9223372036854775807) (R:cs.take (n'*m)=us)
 (h:Dw P c ⟨N,(t,.v (.c (.s n' us)))::hJ k tm,f6 k bx⟩ Q):Dw P c ⟨N,tm,bx⟩ Q:=fun av w0 β a w I=>h av w0 β a w (I.release ht D E H J R)
end
section
variable {P:Program}{ops:Array Oper}{T:TF}{B:BF}{dst:Option Nat}{x y c:Operand}{ty U W xt yt:TypeId}{pos:String}{af:Array Edge}{g:Option (Nat×Bool)}{dv:DV}{k off n m:Nat}{cs us:List CellD}{u:CellD}
theorem aQ (h:(ck T x,gd ops ⟨dst,.move x,ty,pos,af,g⟩ T)=(some dv,some true)):Sem P ops ⟨dst,.move x,ty,pos,af,g⟩ T B (.r dv):=IU (congrArg Prod.fst h) (congrArg Prod.snd h)
theorem acT {f D:Nat}(E:Nk P U f=some D) (h:(ck T x,gd ops ⟨dst,.fieldAddr U x f,ty,pos,af,g⟩ T)=(some (.p k off),some true)):Sem P ops ⟨dst,.fieldAddr U x f,ty,pos,af,g⟩ T B (.r (.p k (off+D))):=
 Eh E (congrArg Prod.fst h) (congrArg Prod.snd h)
theorem dL (D:mv P U=some (false,n)) (h:(ck T x,B k,cs[off]?,gd ops ⟨dst,.load U x,ty,pos,af,g⟩ T)=(some (.p k off),some (W,cs),some u,some true)):Sem P ops ⟨dst,.load U x,ty,pos,af,g⟩ T B (.r (.v (.c u))):=
 cK D (congrArg Prod.fst h) (congrArg (fun q=>q.2.1) h) (congrArg (fun q=>q.2.2.1) h) (congrArg (fun q=>q.2.2.2) h)
theorem qt (us:List CellD) (D:mv P U=some (true,n)) (h:(ck T x,B k,(cs.drop off).take n,us.length,gd ops ⟨dst,.load U x,ty,pos,af,g⟩ T)=(some (.p k off),some (W,cs),us,n,some true)):Sem P ops ⟨dst,.load U x,ty,pos,af,g⟩ T B (.r (.v (.a us))):=
 bb D (congrArg Prod.fst h) (congrArg (fun q=>q.2.1) h) (congrArg (fun q=>q.2.2.1) h) (congrArg (fun q=>q.2.2.2.1) h) (congrArg (fun q=>q.2.2.2.2) h)
theorem dh (us:List CellD) (D:mv P U=some (true,n)) (h:(ck T x,B k,us.length,gd ops ⟨dst,.load U x,ty,pos,af,g⟩ T)=(some (.p k off),some (W,cs),n,some true)) (E:(cs.drop off).take n=us):Sem P ops ⟨dst,.load U x,ty,pos,af,g⟩ T B (.r (.v (.a us))):=
 bb D (congrArg Prod.fst h) (congrArg (fun q=>q.2.1) h) E (congrArg (fun q=>q.2.2.1) h) (congrArg (fun q=>q.2.2.2) h)
theorem jF (D:mv P U=some (true,n)) (h:(ck T x,B k,cs.length,gd ops ⟨dst,.load U x,ty,pos,af,g⟩ T)=(some (.p k 0),some (W,cs),n,some true)):Sem P ops ⟨dst,.load U x,ty,pos,af,g⟩ T B (.r (.v (.a cs))):=
 bb D (congrArg Prod.fst h) (congrArg (fun q=>q.2.1) h) (by rw[lE];exact f9 (Nat.le_of_eq (congrArg (fun q=>q.2.2.1) h))) (congrArg (fun q=>q.2.2.1) h) (congrArg (fun q=>q.2.2.2) h)
theorem eG (D:us.length=n) (E:mv P U=some (true,n)) (h:(ck T x,B k,gd ops ⟨dst,.load U x,ty,pos,af,g⟩ T)=(some (.p k 0),some (W,us),some true)):Sem P ops ⟨dst,.load U x,ty,pos,af,g⟩ T B (.r (.v (.a us))):=
 bb E (congrArg Prod.fst h) (congrArg (fun q=>q.2.1) h) (by rw[lE];exact f9 (Nat.le_of_eq D)) D (congrArg (fun q=>q.2.2) h)
theorem b9 {a e:Int}(r:Int) (D:Bq op kk a e=some r) (h:(ck T x,ck T y,gd ops ⟨dst,.binOp op xt x y yt,ty,pos,af,g⟩ T)=(some (.v (.c (.i kk a))),some (.v (.c (.i kk e))),some true)):Sem P ops ⟨dst,.binOp op xt x y yt,ty,pos,af,g⟩ T B (.r (.v (.c (.i kk r)))):=
 mg (congrArg Prod.fst h) (congrArg (fun q=>q.2.1) h) D (congrArg (fun q=>q.2.2) h)
theorem aar {a e:Int}(h:(ck T x,ck T y,UF op a e,gd ops ⟨dst,.binOp op xt x y yt,ty,pos,af,g⟩ T)=(some (.v (.c (.i kk a))),some (.v (.c (.i kk e))),some b,some true)):
 Sem P ops ⟨dst,.binOp op xt x y yt,ty,pos,af,g⟩ T B (.r (.v (.c (.b b)))):=Nm (congrArg Prod.fst h) (congrArg (fun q=>q.2.1) h) (congrArg (fun q=>q.2.2.1) h) (congrArg (fun q=>q.2.2.2) h)
theorem fJ (D:mv P U=some (true,m)) (h:(ck T ax,ck T x,B k,us.length,cs.length,gd ops ⟨none,.store U ax x,ty,pos,af,g⟩ T)=(some (.p k 0),some (.v (.a us)),some (W,cs),m,m,some true)):
 Sem P ops ⟨none,.store U ax x,ty,pos,af,g⟩ T B (.s k W us):=bQ D (congrArg Prod.fst h) (congrArg (fun q=>q.2.1) h) (congrArg (fun q=>q.2.2.1) h) (congrArg (fun q=>q.2.2.2.1) h) (congrArg (fun q=>q.2.2.2.2.1) h) (congrArg (fun q=>q.2.2.2.2.2) h)
theorem j9 {args:Array Operand}{at_:Array TypeId}{rs:List D0}(h:(ck T fo,wL T args.toList,gd ops ⟨dst,.call ⟨.value fo,args,at_⟩,ty,pos,af,g⟩ T)=(some (.v (.c (.f f))),some ds,some true)) (D:Ok P f ds rs):
 Sem P ops ⟨dst,.call ⟨.value fo,args,at_⟩,ty,pos,af,g⟩ T B (.r (CF rs)):=RI (congrArg Prod.fst h) (congrArg (fun q=>q.2.1) h) D (congrArg (fun q=>q.2.2) h)
end
section
variable {P:Program}{σ:St}{Q:Exit->St->Prop}{n t:Nat}{tm:List (Nat×DV)}{bx:List (Nat×TypeId×List CellD)}{rt:List ResultVar}{ds rs:List D0}
theorem cB (h:dl P l.toArray l σ (Q .normal)) (D:OB l.toArray σ.n=true:=by kernel_rfl):Dw P (.region id l.toArray false) σ Q:=yr D h
theorem Ok.fn {fn:Func}(J:P.funcs[f]? =some fn) (n:Nat) (rt:List ResultVar) (H:fn.body=some c) (h:Dw P c ⟨n,xS 0 ds,[]⟩ fun e σ=>(e=.normal\/e=.ret)/\rR P σ rt=some rs)
 (E:fv P f=true:=by kernel_rfl) (D:Nat.ble ds.length fn.ntmps=true:=by rfl) (I:fn.ntmps=n:=by rfl) (R:fn.results.toList=rt:=by rfl):Ok P f ds rs:=by
 subst I R
 exact Ok.of E J H D h
theorem ah (h:rR P σ rt=some rs):(Exit.ret=.normal\/Exit.ret=.ret)/\rR P σ rt=some rs:=⟨.inr rfl,h⟩
theorem aj (D:rR P ⟨n,tm,bx⟩ rt=some ds) (h:look t tm=some (.v d):=by rfl):rR P ⟨n,tm,bx⟩ (.tmp t::rt)=some (d::ds):=Qy h D
theorem a7 (E:mv P U=some (true,m)) (h:(look t tm,look k bx,(cs.drop off).take m,us.length)=(some (.p k off),some (W,cs),us,m))
 (D:rR P ⟨n,tm,bx⟩ rt=some ds):rR P ⟨n,tm,bx⟩ (.cell t U::rt)=some (.a us::ds):=li E (congrArg Prod.fst h) (congrArg (fun q=>q.2.1) h) (congrArg (fun q=>q.2.2.1) h) (congrArg (fun q=>q.2.2.2) h) D
end
structure Tb where
 ty:Nat->Option (Bool×Nat)
 fd:Nat->Nat->Option Nat
 sl:Nat->Option Nat
structure TbOk (P:Program) (b:Tb):Prop where
 ty: ∀U r,b.ty U=some r->mv P U=some r
 fd: ∀U f r,b.fd U f=some r->Nk P U f=some r
 sl: ∀U r,b.sl U=some r->om P U=some r
inductive SA where
 |sk
 |v (x:DV)
 |bx (U:TypeId) (cs:List CellD)
 |st (k:Nat) (U:TypeId) (cs:List CellD)
def SA.eff:SA->Eff
 | .sk=>.skip
 | .v x=>.r x
 | .bx U cs=>.a U cs none
 | .st k U cs=>.s k U cs
def Mb (b:Tb) (T:TF) (B:BF):Op->Option SA
 | .move x=>match ck T x with
   |some dv=>some (.v dv)
   |none=>none
 | .assign x=>match ck T x with
   |some dv=>some (.v dv)
   |none=>none
 | .extract x i=>match ck T x with
   |some (.t ds)=>match ds[i]? with
    |some d=>some (.v (.v d))
    |none=>none
   |_=>none
 | .binOp op _ x y _=>match ck T x,ck T y with
   |some (.v (.c (.i k1 a))),some (.v (.c (.i k2 e)))=>match decEq k1 k2 with
    | .isTrue _=>match UF op a e with
      |some r=>some (.v (.v (.c (.b r))))
      |none=>none
    | .isFalse _=>none
   |_,_=>none
 | .pick c x y=>match ck T c with
   |some (.v (.c (.b true)))=>match ck T x with
    |some dv=>match jq dv with
     |none=>some (.v dv)
     |some _=>none
    |none=>none
   |some (.v (.c (.b false)))=>match ck T y with
    |some dv=>match jq dv with
     |none=>some (.v dv)
     |some _=>none
    |none=>none
   |_=>none
 | .unOp .not _xt x=>match ck T x with
   |some (.v (.c (.b r)))=>some (.v (.v (.c (.b (!r)))))
   |_=>none
 | .box U x=>match ck T x with
   |some (.v (.a us))=>some (.bx U us)
   |some (.v (.c u))=>some (.bx U [u])
   |_=>none
 | .fieldAddr U x f=>match ck T x,b.fd U f with
   |some (.p k off),some o'=>some (.v (.p k (off+o')))
   |_,_=>none
 | .load U x=>match ck T x with
   |some (.p k off)=>match B k,b.ty U with
    |some (_,cs),some (true,n)=>bif Nat.beq off 0&&Nat.beq cs.length n then some (.v (.v (.a cs))) else none
    |some (_,cs),some (false,_)=>match cs[off]? with
     |some u=>some (.v (.v (.c u)))
     |none=>none
    |_,_=>none
   |_=>none
 | .store U ax x=>match ck T ax,ck T x,b.ty U with
   |some (.p k off),some (.v (.a us)),some (true,m)=>match B k with
    |some (W,cs)=>bif Nat.beq off 0&&Nat.beq us.length m&&Nat.beq cs.length m then some (.st k W us) else none
    |none=>none
   |_,_,_=>none
 | .call ⟨.builtin .len,⟨[x]⟩,⟨[U]⟩⟩=>match ck T x,b.sl U with
   |some (.v (.c (.s n _))),some _=>some (.v (.v (.c (.i .i64 n))))
   |_,_=>none
 |_=>none
def ET (b:Tb) (ops:Array Oper) (T:TF) (B:BF) (o:Oper):Option SA:=
 match gd ops o T with
 |some true=>Mb b T B o.op
 |some false=>some .sk
 |none=>none
section
variable {P:Program}{b:Tb}{ops:Array Oper}{T:TF}{B:BF}
theorem GH (R:TbOk P b) {op:Op}{s:SA}(E:gd ops ⟨dst,op,ty,pos,af,g⟩ T=some true) (h:Mb b T B op=some s)
 (hd: ∀k U cs,s=.st k U cs->dst=none):Sem P ops ⟨dst,op,ty,pos,af,g⟩ T B s.eff:=by
 unfold Mb at h
 split at h
 ·split at h
  ·rename_i e;cases h;exact IU e E
  ·cases h
 ·split at h
  ·rename_i e;cases h;exact JD e E
  ·cases h
 ·split at h
  ·rename_i e
   split at h
   ·rename_i D;cases h;exact I6 e D E
   ·cases h
  ·cases h
 ·split at h
  ·rename_i H D
   split at h
   ·rename_i hk _
    subst hk
    split at h
    ·rename_i I;cases h;exact Nm H D I E
    ·cases h
   grind
  grind
 ·split at h
  ·rename_i e
   split at h
   ·rename_i D
    split at h
    ·rename_i I;cases h;exact HL (b:=true) e D I E
    grind
   grind
  ·rename_i e
   split at h
   ·rename_i D
    split at h
    ·rename_i I;cases h;exact HL (b:=false) e D I E
    grind
   grind
  grind
 ·split at h
  ·rename_i e;cases h;exact Ux e E
  grind
 ·split at h
  ·rename_i e;cases h;exact NV e E
  ·rename_i e;cases h;exact Oe e E
  grind
 ·split at h
  ·rename_i H D;cases h;exact Eh (R.fd _ _ _ D) H E
  grind
 ·split at h
  ·rename_i e
   split at h
   ·rename_i H D
    rw[sO] at h
    split at h
    ·rename_i J
     cases h
     rw[de] at J
     have h0:=fe J.1
     have hl:=fe J.2
     subst h0
     exact bb (R.ty _ _ D) e H (by rw[lE];exact f9 (Nat.le_of_eq hl)) hl E
    grind
   ·rename_i H D
    split at h
    ·rename_i I;cases h;exact cK (R.ty _ _ D) e H I E
    grind
   grind
  grind
 ·split at h
  ·rename_i H D I
   split at h
   ·rename_i e4
    rw[sO] at h
    split at h
    ·rename_i J
     cases h
     rw[de,de] at J
     have h0:=fe J.1.1
     subst h0
     have:=hd _ _ _ rfl
     subst this
     exact bQ (R.ty _ _ I) H D e4 (fe J.1.2) (fe J.2) E
    grind
   grind
  grind
 ·split at h
  ·rename_i H D;cases h;exact Ws (R.sl _ _ D) H E
  grind
 grind
theorem gW (E:TbOk P b) {op:Op}{s:SA}(h:ET b ops T B ⟨dst,op,ty,pos,af,g⟩=some s)
 (D: ∀k U cs,s=.st k U cs->dst=none):Sem P ops ⟨dst,op,ty,pos,af,g⟩ T B s.eff:=by
 unfold ET at h
 split at h
 ·rename_i e;exact GH E e h D
 ·rename_i e;cases h;exact ng e
 grind
end
section
variable (P:Program) (b:Tb) (ops:Array Oper) (K:St->Prop) (n:Nat)
def Z2:Nat->List Oper->List (Nat×DV)->List (Nat×TypeId×List CellD)->Prop
 |0,os,tm,bx=>dl P ops os ⟨n,tm,bx⟩ K
 |_+1,[],_,_=>False
 |k+1,o::os,tm,bx=>match o.dst,ET b ops (fun s=>look s tm) (fun l=>look l bx) o with
  |some t,some .sk=>Z2 k os ((t,.u)::tm) bx
  |some t,some (.v x)=>Z2 k os ((t,x)::tm) bx
  |some t,some (.bx U cs)=>match look t bx with
   |none=>Z2 k os ((t,.p t 0)::tm) ((t,U,cs)::bx)
   |some _=>False
  |none,some (.st j U cs)=>Z2 k os tm ((j,U,cs)::bx)
  |_,_=>False
variable {P b ops K n}
theorem Ua (D:TbOk P b): ∀ {k:Nat}{os:List Oper}{tm:List (Nat×DV)}{bx:List (Nat×TypeId×List CellD)},Z2 P b ops K n k os tm bx->dl P ops os ⟨n,tm,bx⟩ K
 |0,os,tm,bx,h=>h
 |k+1,[],tm,bx,h=>h.elim
 |k+1,⟨dst,op,ty,pos,af,g⟩::os,tm,bx,h=>by
  unfold Z2 at h;split at h
  ·rename_i t H E;cases H;exact vm (gW D E (fun _ _ _ e=>by cases e)) (Ua D h)
  ·rename_i t x H E;cases H;exact cV (gW D E (fun _ _ _ e=>by cases e)) (Ua D h)
  ·rename_i t U cs H E;cases H;split at h;·rename_i I;exact tx (gW D E (fun _ _ _ e=>by cases e)) I (Ua D h)
   ·exact h.elim
  ·rename_i j U cs H E;cases H;exact iQ (gW D E (fun _ _ _ _=>rfl)) (Ua D h)
  ·exact h.elim
end
section
variable (P:Program) (b:Tb) (ops:Array Oper) (K:St->Prop) (n:Nat)
def ste:List Oper->List (Nat×DV)->List (Nat×TypeId×List CellD)->Prop
 |[],tm,bx=>K ⟨n,tm,bx⟩
 |o::os,tm,bx=>match o.dst,ET b ops (fun s=>look s tm) (fun l=>look l bx) o with
  |some t,some .sk=>ste os ((t,.u)::tm) bx
  |some t,some (.v x)=>ste os ((t,x)::tm) bx
  |some t,some (.bx U cs)=>match look t bx with
   |none=>ste os ((t,.p t 0)::tm) ((t,U,cs)::bx)
   |some _=>False
  |none,some (.st j U cs)=>ste os tm ((j,U,cs)::bx)
  |_,_=>False
variable {P b ops K n}
theorem Jb (D:TbOk P b): ∀ {os:List Oper}{tm:List (Nat×DV)}{bx:List (Nat×TypeId×List CellD)},ste b ops K n os tm bx->dl P ops os ⟨n,tm,bx⟩ K
 |[],tm,bx,h=>h
 |⟨dst,op,ty,pos,af,g⟩::os,tm,bx,h=>by
  unfold ste at h;split at h
  ·rename_i t H E;cases H;exact vm (gW D E (fun _ _ _ e=>by cases e)) (Jb D h)
  ·rename_i t x H E;cases H;exact cV (gW D E (fun _ _ _ e=>by cases e)) (Jb D h)
  ·rename_i t U cs H E;cases H;split at h;·rename_i I;exact tx (gW D E (fun _ _ _ e=>by cases e)) I (Jb D h)
   ·exact h.elim
  ·rename_i j U cs H E;cases H;exact iQ (gW D E (fun _ _ _ _=>rfl)) (Jb D h)
  ·exact h.elim
end
section
variable (P:Program) (b:Tb) (ops:Array Oper) (hs:List Nat) (K:Sq->Prop) (n:Nat)
def stq:Nat->List Oper->List (Nat×DV)->List (Nat×TypeId×List CellD)->List (Nat×TypeId×List CellD)->List Nat->Prop
 |0,os,tm,bx,nb,sd=>dq P ops hs os ⟨⟨n,tm,bx⟩,nb,sd⟩ K
 |_+1,[],_,_,_,_=>False
 |k+1,o::os,tm,bx,nb,sd=>match o.dst,ET b ops (fun s=>look s tm) (hid hs (fun l=>look l bx)) o with
  |some t,some .sk=>stq k os ((t,.u)::tm) bx nb sd
  |some t,some (.v x)=>stq k os ((t,x)::tm) bx nb sd
  |some t,some (.bx U cs)=>match look t (nb++bx) with
   |none=>stq k os ((t,.p t 0)::tm) bx ((t,U,cs)::nb) sd
   |some _=>False
  |_,_=>False
variable {P b ops hs K n}
theorem WF (D:TbOk P b): ∀ {k:Nat}{os:List Oper}{tm:List (Nat×DV)}{bx nb:List (Nat×TypeId×List CellD)}{sd:List Nat},stq P b ops hs K n k os tm bx nb sd->dq P ops hs os ⟨⟨n,tm,bx⟩,nb,sd⟩ K
 |0,os,tm,bx,nb,sd,h=>h
 |k+1,[],tm,bx,nb,sd,h=>h.elim
 |k+1,⟨dst,op,ty,pos,af,g⟩::os,tm,bx,nb,sd,h=>by
  unfold stq at h;split at h
  ·rename_i t H E;cases H;exact vi (gW D E (fun _ _ _ e=>by cases e)) (WF D h)
  ·rename_i t x H E;cases H;exact bG (gW D E (fun _ _ _ e=>by cases e)) (WF D h)
  ·rename_i t U cs H E;cases H;split at h;·rename_i I;exact JU (gW D E (fun _ _ _ e=>by cases e)) I (WF D h)
   ·exact h.elim
  ·exact h.elim
end
section
variable (P:Program) (b:Tb) (ops:Array Oper) (hs:List Nat) (K:Sq->Prop) (n:Nat)
def sqe:List Oper->List (Nat×DV)->List (Nat×TypeId×List CellD)->List (Nat×TypeId×List CellD)->List Nat->Prop
 |[],tm,bx,nb,sd=>K ⟨⟨n,tm,bx⟩,nb,sd⟩
 |o::os,tm,bx,nb,sd=>match o.dst,ET b ops (fun s=>look s tm) (hid hs (fun l=>look l bx)) o with
  |some t,some .sk=>sqe os ((t,.u)::tm) bx nb sd
  |some t,some (.v x)=>sqe os ((t,x)::tm) bx nb sd
  |some t,some (.bx U cs)=>match look t (nb++bx) with
   |none=>sqe os ((t,.p t 0)::tm) bx ((t,U,cs)::nb) sd
   |some _=>False
  |_,_=>False
variable {P b ops hs K n}
theorem LL (D:TbOk P b): ∀ {os:List Oper}{tm:List (Nat×DV)}{bx nb:List (Nat×TypeId×List CellD)}{sd:List Nat},sqe b ops hs K n os tm bx nb sd->dq P ops hs os ⟨⟨n,tm,bx⟩,nb,sd⟩ K
 |[],tm,bx,nb,sd,h=>h
 |⟨dst,op,ty,pos,af,g⟩::os,tm,bx,nb,sd,h=>by
  unfold sqe at h;split at h
  ·rename_i t H E;cases H;exact vi (gW D E (fun _ _ _ e=>by cases e)) (LL D h)
  ·rename_i t x H E;cases H;exact bG (gW D E (fun _ _ _ e=>by cases e)) (LL D h)
  ·rename_i t U cs H E;cases H;split at h;·rename_i I;exact JU (gW D E (fun _ _ _ e=>by cases e)) I (LL D h)
   ·exact h.elim
  ·exact h.elim
end
theorem Qa {f:Nat->Bool}(h:(List.range N).all f=true): ∀U,U<N->f U=true:=by grind
theorem TbOk.of {P:Program}{t:Nat->Option (Bool×Nat)}{f:Nat->Nat->Option Nat}{s:Nat->Option Nat}
 (J:((List.range N).all fun U=>match t U with|none=>true|some r=>decide (mv P U=some r))=true)
 (H:((List.range N).all fun U=>(List.range 16).all fun i=>match f U i with|none=>true|some r=>decide (Nk P U i=some r))=true)
 (I:((List.range N).all fun U=>match s U with|none=>true|some r=>decide (om P U=some r))=true):
 TbOk P ⟨fun U=>bif Nat.blt U N then t U else none,fun U i=>bif Nat.blt U N&&Nat.blt i 16 then f U i else none,fun U=>bif Nat.blt U N then s U else none⟩:=by
 have D: ∀ {a c:Nat},Nat.blt a c=true->a<c:=fun h=>eQ h
 refine⟨fun U r h=>?_,fun U i r h=>?_,fun U r h=>?_⟩
 ·grind
 ·dsimp only at h
  rw[sO] at h
  split at h
  ·rename_i E
   rw[de] at E
   have:=Qa (Qa H U (D E.1)) i (D E.2)
   grind
  grind
 grind
end Go.Proofs.YtegeknjkgadehaaGreat
