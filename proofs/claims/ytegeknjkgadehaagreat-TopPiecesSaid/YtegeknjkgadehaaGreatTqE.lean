/-Data:code;a function's contract from its body. -/
import Derived.Test.YtegeknjkgadehaaGreatTqD
import Derived.Laws.MakeOwn
import Derived.Deep.AppendSrc
import Derived.Great.BuildSlice
namespace Go.Proofs.YtegeknjkgadehaaGreat
open Go Go.RowKit
variable {B:BF}{op:BinOp}{b q:Bool}{u z:CellD}{c:Code}{d:D0}{w0:Ent}{Q:Exit->St->Prop}{f:FuncId}{j x y:Int}{kc ki kk kl:IntKind}{tm tm':List (Nat×DV)}{bx bx':List (Nat×TypeId×List CellD)}{cs us zs:List CellD}{ds:List D0}{xs:List Int}{l pre tail:List Oper}{rs:List ResultVar}{vs:List Value}{N by_ c' id k m n n' off:Nat}{a:Nat×TypeId×List CellD}{β:Nat->Nat}{av:Nat->Prop}{ax fo h i:Operand}{A:Option Addr}{σ':St}{T:TF}{U W e t1 t2 xt yt:TypeId}{v:Value}{w:World}
variable {ty:TypeId}{pos:String}{af:Array Edge}{g:Option (Nat×Bool)}{dst:Option Nat}
theorem gY:type_of% @RdC.int_eq:=@RdC.int_eq
theorem kE:type_of% @Nat.le_of_eq:=@Nat.le_of_eq
theorem lQ:type_of% @List.map_cons:=@List.map_cons
theorem mS:type_of% @Nat.add_mul:=@Nat.add_mul
theorem nD:type_of% @Nat.mul_le_mul_right:=@Nat.mul_le_mul_right
theorem ua:type_of% @RdC.bool_eq:=@RdC.bool_eq
theorem qe:type_of% @List.map_toArray:=@List.map_toArray
theorem qv:type_of% @List.map_nil:=@List.map_nil
theorem tZ:type_of% @Bool.cond_eq_ite:=@Bool.cond_eq_ite
theorem q9:type_of% @Array.toList_map:=@Array.toList_map
theorem tK:type_of% @Code.wp_mono:=@Code.wp_mono
theorem y8:type_of% @Int.natCast_mul:=@Int.natCast_mul
theorem zO:type_of% @List.map_append:=@List.map_append
def Dw (P:Program) (c:Code) (σ:St) (Q:Exit->St->Prop):Prop:= ∀av w0 β a w,Rel av w0 σ.n σ.T σ.B β a w-> c.wp P (fun e I w'=> ∃σ' D,σ'.n=σ.n/\Q e σ'/\Rel av w0 σ'.n σ'.T σ'.B D I w') a w
def Fl (K:St->Prop) (Q:Exit->St->Prop):Exit->St->Prop
 | .normal,σ=>K σ
 |e,σ=>Q e σ
def Tf (id:Nat) (Q:Exit->St->Prop):Exit->St->Prop
 | .exit id',σ=>bif Nat.beq id' id then Q .normal σ else Q (.exit id') σ
 |e,σ=>Q e σ
section
variable {P:Program}{σ:St}{Q Q':Exit->St->Prop}
theorem Dw.mono (h:Dw P c σ Q) (R: ∀e σ',Q e σ'->Q' e σ'):Dw P c σ Q':=fun av w0 β a w J=>
 tK (fun _ _ _ ⟨σ',D,h1,I,h3⟩=>⟨σ',D,h1,R _ _ I,h3⟩) (h av w0 β a w J)
theorem aA (h:Q .normal σ):Dw P .skip σ Q:=fun _ _ β _ _ D=>wp_skip ⟨σ,β,rfl,h,D⟩
theorem aU (h:Q .ret σ):Dw P .ret σ Q:=fun _ _ β _ _ D=>wp_ret ⟨σ,β,rfl,h,D⟩
theorem bH (h:Q (.exit id) σ):Dw P (.exit id) σ Q:=fun _ _ β _ _ D=>wp_exit ⟨σ,β,rfl,h,D⟩
theorem ab {x y:Code}(h:Dw P x σ (Fl (fun σ'=>Dw P y σ' Q) Q)):Dw P (.seq x y) σ Q:=fun av w0 β a w hr=>by
 refine wp_seq (tK ?_ (h av w0 β a w hr));rintro e a' w' ⟨σ',J,h1,R,h3⟩;cases e with
 |normal=>exact tK (fun _ _ _ ⟨D,I,g1,g2,g3⟩=>⟨D,I,g1.trans h1,g2,g3⟩) (R av w0 J a' w' h3)
 |_=>exact⟨σ',J,h1,R,h3⟩
theorem aJ {t:Tmp}{x y:Code}(R:look t σ.tm=some (.v (.c (.b b)))) (ht:b=true->Dw P x σ Q) (J:b=false->Dw P y σ Q):Dw P (.cond (.tmp t) x y) σ Q:=fun av w0 β a w D=>by
 obtain⟨v,e,I⟩:=D.sees.tmp t _ trivial R;have hv:=ua I;subst hv;have he:a.eval (.tmp t)=.bool b:=by obtain⟨hlt,e⟩:=lH.1 e;show a.tmps.getD t undef=_;simp[Array.getD,hlt,e]
 exact wp_cond_split he (fun h=>ht h av w0 β a w D) (fun h=>J h av w0 β a w D)
theorem aM (h:Dw P c σ (Tf id Q)):Dw P (.block id c) σ Q:=fun av w0 β a w hr=>by
 refine wp_block (tK ?_ (h av w0 β a w hr));rintro e a' w' ⟨σ',J,h1,I,h3⟩;cases e with
 |exit D=>
  show(if D=id then _ else _);have I:(bif Nat.beq D id then Q .normal σ' else Q (.exit D) σ'):=I;cases R:Nat.beq D id with
  |true=>rw[R] at I;rw[if_pos (dF R)];exact⟨σ',J,h1,I,h3⟩
  |false=>rw[R] at I;rw[if_neg (fun e=>by subst e;rw[tN] at R;cases R)];exact⟨σ',J,h1,I,h3⟩
 |_=>exact⟨σ',J,h1,I,h3⟩
structure Sub (σ σ':St):Prop where
 n:σ'.n=σ.n
 tm: ∀t x,look t σ'.tm=some x->look t σ.tm=some x
 bx: ∀k c,look k σ'.bx=some c->look k σ.bx=some c
 wf: ∀t x k,look t σ'.tm=some x->jR x=some k->look k σ'.bx≠none
theorem Rel.sub {a:Act}{σ:St}(h:Rel av w0 σ.n σ.T σ.B β a w) (hs:Sub σ σ'):Rel av w0 σ'.n σ'.T σ'.B β a w:=by
 have R: ∀k,σ'.B k≠none->σ.B k≠none:=by
  intro k I;cases hc:σ'.B k with
  |none=>exact absurd hc I
  |some c=>rw[show σ.B k=some c from hs.bx k c hc];simp
 have D:Keep (fun b=>av b\/ ∃k,σ.B k≠none/\β k=b) (fun b=>av b\/ ∃k,σ'.B k≠none/\β k=b) w w:=
  ⟨Nat.le_refl _,fun _ _ _=>rfl,fun b _ J=>J.imp id fun⟨k,h1,h2⟩=>⟨k,R k h1,h2⟩⟩
 refine⟨h.dfr,by rw[hs.n];exact h.siz,h.bel,h.avl,h.avE,by rw[hs.n];exact h.big,fun b J hK=>h.fix b J (R _ hK),fun k l I hl=>h.inj k l (R k I) (R l hl),fun k I=>h.own k (R k I),hs.wf,?_,?_,?_⟩
 .rintro b (J|⟨k,I,J⟩);·exact h.sees.av b (.inl J)
  .exact h.sees.av b (.inr ⟨k,R k I,J⟩)
 .intro k U cs I;obtain⟨_,vs,e,hr⟩:=h.sees.box k U cs (hs.bx k _ I);exact⟨.inr ⟨k,by rw[show σ'.B k=some (U,cs) from I];simp,rfl⟩,vs,e,hr.keep D⟩
 .intro t x hl hx;obtain⟨v,e,hr⟩:=h.sees.tmp t x hl (hs.tm t x hx);exact⟨v,e,hr.keep D⟩
theorem Dw.weak (hs:Sub σ σ') (h:Dw P c σ' Q):Dw P c σ Q:=fun av w0 β a w R=>
 tK (fun _ _ _ ⟨D,I,h1,J,h3⟩=>⟨D,I,h1.trans hs.n,J,h3⟩) (h av w0 β a w (R.sub hs))
def xz {D:Type}:List (Nat×D)->List (Nat×D)->Prop
 |[],_=>True
 |(t,x)::r,l=>look t l=some x/\xz r l
def Sd (bx:List (Nat×TypeId×List CellD)):List (Nat×DV)->Bool
 |[]=>true
 |(_,.p k _)::r=>(look k bx).isSome&&Sd bx r
 |(_,.o k _ _)::r=>(look k bx).isSome&&Sd bx r
 |(_,.w k _ _ _)::r=>(look k bx).isSome&&Sd bx r
 |(_,.tn k _ _ _)::r=>(look k bx).isSome&&Sd bx r
 |(_,.oe k _ _ _)::r=>(look k bx).isSome&&Sd bx r
 |_::r=>Sd bx r
theorem sU {D:Type}: ∀(r l:List (Nat×D)),xz r l-> ∀t x,look t r=some x->look t l=some x
 |[],_,_,_,_,h=>by cases h
 |(k,y)::r,l,ha,t,x,h=>by
  rw[aW] at h;split at h;·rename_i e;subst e;rw[<-h];exact ha.1
  .exact sU r l ha.2 t x h
theorem Jc {bx:List (Nat×TypeId×List CellD)}: ∀(r:List (Nat×DV)),Sd bx r=true-> ∀t x k,look t r=some x->jR x=some k->look k bx≠none
 |[],_,_,_,_,h,_=>by cases h
 |(t',y)::r,hw,t,x,k,h,hx=>by
  rw[aW] at h;have D:Sd bx r=true:=by cases y<;>simp[Sd] at hw<;>first|exact hw|exact hw.2
  split at h
  .injection h with h;subst h;intro e;cases y<;>simp[jR] at hx<;>(subst hx;simp[Sd,e] at hw)
  .exact Jc r D t x k h hx
theorem bt {β:Type}{r:List (Nat×β)}: ∀ {a:List (Nat×β)},a.map (fun x=>look x.1 r)=a.map (fun x=>some x.2)->xz a r
 |[],_=>trivial
 |_::_,h=>⟨(List.cons.inj h).1,bt (List.cons.inj h).2⟩
theorem au (D:xz tm' tm) (J:xz bx' bx) (I:Sd bx' tm'=true):Sub ⟨n,tm,bx⟩ ⟨n,tm',bx'⟩:=
 ⟨rfl,sU tm' tm D,sU bx' bx J,Jc tm' I⟩
theorem bK {ι:Type}(I:ι->St) (μ:ι->Nat) (i0:ι) (h0:Sub σ (I i0)) (round: ∀i,Dw P c (I i) (Fl (fun σ'=> ∃j,Sub σ' (I j)/\μ j<μ i) Q)):Dw P (.loop c) σ Q:=fun av w0 β a w hr=>by
 intro b k cs
 have b5: ∀n i β a w,μ i=n->Rel av w0 (I i).n (I i).T (I i).B β a w->(I i).n=σ.n->
  ∃e a' w',(∃σ' a3,σ'.n=σ.n/\Q e σ'/\Rel av w0 σ'.n σ'.T σ'.B a3 a' w')/\Arrives P (lone (b.at a (.code c:: .inLoop c::k)) cs w) b k cs e a' w':=by
  intro n
  induction n using Nat.strongRecOn with
  |_ n ih=>
   intro i β a w hi hrel a4
   obtain⟨e,J,R,⟨σ',a3,g1,g2,g3⟩,D⟩:=round i av w0 β a w hrel b (.inLoop c::k) cs
   cases e with
   |normal=>
    obtain⟨j,hs,hlt⟩:=g2
    obtain⟨b4,a9,b3,a6,a5⟩:=ih (μ j) (hi▸hlt) j a3 J R rfl (g3.sub hs) (by rw[hs.n,g1,a4])
    exact⟨b4,a9,b3,a6,.of_steps (Steps.trans D (.one step_inLoop)) a5⟩
   |exit id=>exact⟨_,J,R,⟨σ',a3,g1.trans a4,g2,g3⟩,.pass rfl (fun _ _=>.inl (by simp)) D⟩
   |goto l=>exact⟨_,J,R,⟨σ',a3,g1.trans a4,g2,g3⟩,.pass rfl (fun _ _=>.inl (by simp)) D⟩
   |ret=>exact⟨_,J,R,⟨σ',a3,g1.trans a4,g2,g3⟩,.pass rfl (fun _ _=>.inl (by simp)) D⟩
   |panic ch=>exact⟨_,J,R,⟨σ',a3,g1.trans a4,g2,g3⟩,.pass rfl (fun _ _=>.inl (by simp)) D⟩
   |outgrown=>exact⟨_,J,R,⟨σ',a3,g1.trans a4,g2,g3⟩,.pass rfl (fun _ _=>.inl (by simp)) D⟩
 obtain⟨e,a',w',hq,D⟩:=b5 _ i0 β a w rfl (hr.sub h0) h0.n
 exact⟨e,a',w',hq,.of_steps (.one step_loop) D⟩
def PN (eO:Array Oper) (n:Nat):Bool:=eO.toList.all fun o=>match o.dst with|none=>true|some d=>Nat.blt d n
theorem OF {eO:Array Oper}(h:PN eO n=true): ∀o∈eO.toList,∀t,o.dst=some t->t<n:=by intro o D t I;have:=mJ.1 h o D;rw[I] at this;exact dj.1 this
theorem An (hn:PN l.toArray σ.n=true) (h:dl P l.toArray l σ (Q .normal)):Dw P (.region id l.toArray false) σ Q:=fun av w0 β a w J=>
 wp_region_list (wT l.toArray.toList σ β a w (by simpa using OF hn) (by simpa using h) J (fun σ' D a' w' h1 I R=>⟨σ',D,h1,I,R⟩))
def Sq.merge (s:Sq):St:=⟨s.st.n,s.st.tm,s.nb++s.st.bx⟩
theorem qo (m:Nat) (hs:List Nat) (hm:P.follows .mixedOrders=true) (hc:KI l.toArray m σ.n=true) (a3:l.take m=pre) (D:l.drop m=tail) (h:dq P l.toArray hs pre ⟨σ,[],[]⟩ fun s=>dl P l.toArray tail s.merge (Q .normal)):Dw P (.region id l.toArray true) σ Q:=fun av w0 β a w hr=>by
 have hC:=Chk.of hc
 subst a3 D
 obtain⟨es,J,a4,R,I,s',h1,h2,h3,h4⟩:=IY _ _ h
 have b3:m<=l.length:=by simpa using hC.le
 refine wp_region_any hm ?_
 refine Xs (av:=av) (w0:=w0) hC (T0:=σ.T) (M0:=Sq.M ⟨σ,[],[]⟩) (hs:=hs) (sd:=[]) (fun k c hk=>hk) (by rw[J,fF];omega) R I ?_ ?_ l.toArray.size (Array.replicate l.toArray.size false) β a _ (by simp) (by unfold Lq;refine gG List.countP_le_length ?_;simp) ?_ ?_ ?_
 .intro i o e ho he
  exact a4 i o e (by simpa using ho) he
 .intro β a w et hf a6
  have a5:Rel av w0 σ.n s'.merge.T s'.merge.B β a w:=by
   refine a6.congr (fun t=>?_) (fun k=>?_)
   .show s'.st.T t=_;rw[h2]
   .show s'.M k=_;rw[h3]
  refine yE hC (fun σ' β a w hn hq hr=>⟨σ',β,hn,hq,by rw[hn];exact hr⟩) (l.drop m) m s'.merge et β a w (bk _) (fun j=>by simp) (by simp;omega) h1 h4 a5 (by simpa using hf)
 .intro i o j hi
  simp[Array.getD] at hi
 .intro t _
  simp[Array.getD]
  try (split<;>rfl)
 .refine hr.drew.congr (fun t=>?_) (fun k=>?_)
  .refine iV _ _ _ fun j u _ hm=>?_
   simp[Array.getD] at hm
  .refine(iV _ _ _ fun j u _ hm=>?_).trans ?_
   .simp[Array.getD] at hm
   .rfl
def mG:Nat->List D0->List (Nat×DV)
 |_,[]=>[]
 |k,d::ds=>(k,.v d)::mG (k+1) ds
def IA (P:Program) (σ:St):ResultVar->Option D0
 | .tmp t=>match look t σ.tm with
   |some (.v d)=>some d
   |_=>none
 | .cell t U=>match look t σ.tm with
   |some (.p k off)=>match look k σ.bx,mT P U with
    |some (_,cs),some (true,n)=>if Nat.beq ((cs.drop off).take n).length n then some (.a ((cs.drop off).take n)) else none
    |some (_,cs),some (false,_)=>(cs[off]?).map .c
    |_,_=>none
   |_=>none
def kG (a:Act):ResultVar->Go.Sem Value
 | .tmp t=>pure (a.tmps.getD t undef)
 | .cell t U=>do loadVar U (<-asAddr (a.tmps.getD t undef))
theorem Rk {a:Act}(hr:Rel av w0 σ.n σ.T σ.B β a w) {r:ResultVar}(h:IA P σ r=some d):∃v,(kG a r).run P w=.ok v w/\RdV (fun b=>av b\/ ∃k,σ.B k≠none/\β k=b) w v d:=by
 have J: ∀ {t x},look t σ.tm=some x-> ∃v,a.tmps.getD t undef=v/\RdX (fun b=>av b\/ ∃k,σ.B k≠none/\β k=b) w β v x:=by intro t x ht;obtain⟨v,e,hx⟩:=hr.sees.tmp t x trivial ht;obtain⟨hlt,e⟩:=lH.1 e;exact⟨v,by simp[Array.getD,hlt,e],hx⟩
 cases r with
 |tmp t=>
  unfold IA at h
  dsimp only at h
  split at h
  .rename_i d' hd
   injection h with h
   subst h
   obtain⟨v,e,hx⟩:=J hd
   exact⟨v,by show(pure (a.tmps.getD t undef):Go.Sem Value).run P w=_;rw[e];rfl,hx⟩
  grind
 |cell t U=>
  unfold IA at h
  dsimp only at h
  split at h
  .rename_i k off hp
   obtain⟨v,e,hx⟩:=J hp
   subst hx
   split at h
   .rename_i W cs n hb hU
    split at h
    .rename_i hl
     injection h with h
     subst h
     obtain⟨_,vs,ev,I⟩:=hr.sees.box k W cs hb
     have a3:=(I.drop off).take n
     have D:=iv hU (off:=off) (by rw[a3.1];exact dF hl) (fun j v R=>by
      rw[kS] at R;split at R;·rw[bR ev,<-R];simp
      .cases R)
     refine⟨_,?_,_,rfl,by simpa using a3⟩
     simp only[kG,e,asAddr,fh,dA,ft,D]
    grind
   .rename_i W cs n hb hU
    cases hc:cs[off]? with
    |none=>rw[hc] at h;cases h
    |some u=>
     rw[hc] at h
     injection h with h
     subst h
     obtain⟨_,vs,ev,I⟩:=hr.sees.box k W cs hb
     have hlt:off<cs.length:=(fM.1 hc).1
     have R:vs.toList[off]? =some (vs.toList[off]'(by rw[I.1];exact hlt)):=by grind
     refine⟨_,?_,I.2 off _ _ R hc⟩
     simp only[kG,e,asAddr,fh,dA,ft,ip hU (by rw[bR ev,<-mW,R])]
   grind
  grind
def p6 (P:Program) (σ:St):List ResultVar->Option (List D0)
 |[]=>some []
 |r::rs=>match IA P σ r,p6 P σ rs with
  |some d,some ds=>some (d::ds)
  |_,_=>none
theorem Ce {av:Nat->Prop}{w0:Ent}{w:World}{β:Nat->Nat}{a:Act}(I:Rel av w0 σ.n σ.T σ.B β a w): ∀(rs:List ResultVar) (ds:List D0),p6 P σ rs=some ds-> ∃vs:List Value,(rs.mapM (kG a)).run P w=.ok vs w/\RdL (fun b=>av b\/ ∃k,σ.B k≠none/\β k=b) w vs ds
 |[],ds,h=>by injection h with h;subst h;exact⟨[],rfl,RdL.nil⟩
 |r::rs,ds,h=>by
  unfold p6 at h;split at h
  .rename_i d D h1 J;injection h with h;subst h;obtain⟨v,e1,r1⟩:=Rk I h1;obtain⟨vs,R,r2⟩:=Ce I rs D J;refine⟨v::vs,?_,qF r1 r2⟩;rw[List.mapM_cons];simp only[fh,e1,ft,R,dA]
  .cases h
theorem afy {vs:Array Value}(a4:ds.length<=N) (a3: ∀b,av b->b<w.heap.size) (I:RdL av w vs.toList ds):Rel av ⟨w,fun _=>False,N⟩ (St.n ⟨N,mG 0 ds,[]⟩) (St.T ⟨N,mG 0 ds,[]⟩) (St.B ⟨N,mG 0 ds,[]⟩) (fun _=>0) {tmps:=vs++Array.replicate (N-vs.size) undef,defers:=[]} w:=by
 have a5:vs.size=ds.length:=by rw[<-I.1];simp
 have hT: ∀(k:Nat) (ds:List D0) (t:Nat) (x:DV),look t (mG k ds)=some x-> ∃j d,t=k+j/\ds[j]? =some d/\x=.v d:=by
  intro k ds;induction ds generalizing k with
  |nil=>intro t x h;cases h
  |cons d ds ih=>
   intro t x h;unfold mG at h;rw[aW] at h;split at h;·simp_all
   .obtain⟨j,d',e1,e2,J⟩:=ih (k+1) t x h;exact⟨j+1,d',by omega,by simpa using e2,J⟩
 refine⟨rfl,by simp;omega,BelE.refl _,a3,fun _ _ h=>h,bk _,fun _ h=>h.elim,fun k l D=>absurd rfl D,fun k D=>absurd rfl D,?_,?_,?_,?_⟩
 .intro t x k ht hx
  obtain⟨j,d,_,_,e⟩:=hT 0 ds t _ ht
  subst e;cases hx
 .rintro b (R|⟨k,D,_⟩)
  .grind
  .exact absurd rfl D
 .intro k U cs D;cases D
 .intro t x _ ht
  obtain⟨j,d,e1,e2,J⟩:=hT 0 ds t x ht
  have e1:t=j:=by omega
  subst e1 J
  have hlt:t<vs.size:=by grind
  have hv:vs.toList[t]? =some vs[t]:=by grind
  refine⟨vs[t],?_,(I.2 t _ d hv e2).keep ⟨Nat.le_refl _,fun _ _ _=>rfl,fun b _ R=>?_⟩⟩
  .grind
  .rcases R with R|⟨k,D,_⟩
   .grind
   .exact absurd rfl D
theorem ub {fn:Func}{a:Act}(D:(fn.results.toList.mapM (kG a)).run P w=.ok vs w):(results fn a.tmps).run P w=.ok (if h:vs.toArray.size=1 then vs.toArray[0] else .tuple vs.toArray) w:=by
 have I: ∀g:ResultVar->Go.Sem Value,(∀r,g r=kG a r)->(do let vs <-fn.results.mapM g;pure (if h:vs.size=1 then vs[0] else .tuple vs):Go.Sem Value).run P w=.ok (if h:vs.toArray.size=1 then vs.toArray[0] else .tuple vs.toArray) w:=by intro g J;rw[funext J];simp[Array.mapM_eq_mapM_toList,D]
 exact I _ (fun r=>by cases r<;>rfl)
theorem Ok.of {fn:Func}{rs:List D0}(a5:dk P f=true) (hf:P.funcs[f]? =some fn) (hb:fn.body=some c) (R:Nat.ble ds.length fn.ntmps=true) (h:Dw P c ⟨fn.ntmps,mG 0 ds,[]⟩ fun e σ=>(e=.normal\/e=.ret)/\p6 P σ fn.results.toList=some rs):Ok P f ds rs:=by
 refine⟨a5,fun av vs w a9 b3=>calls_of_wp hf hb ?_⟩
 refine tK ?_ (h av ⟨w,fun _=>False,fn.ntmps⟩ (fun _=>0) _ w (afy (fU R) a9 b3))
 rintro e a' w' ⟨σ',b4,hn,⟨he,a3⟩,hr⟩
 obtain⟨J,a6,a4⟩:=Ce hr _ _ a3
 have D:RdL av w' J rs:=a4.keep ⟨Nat.le_refl _,fun _ _ _=>rfl,fun b _ hb=>.inl hb⟩
 have I:=ub a6
 have hR:Wz av w' (if h:J.toArray.size=1 then J.toArray[0] else .tuple J.toArray) rs:=by
  match J,rs,D with
  |[],[],D=>exact⟨_,rfl,D⟩
  |[v],[d],D=>exact D.uncons.1
  |v::v'::J,d::d'::ds',D=>exact⟨(v::v'::J).toArray,dif_neg (by simp),by simpa using D⟩
  |[],d::ds,D=>exact absurd D.1 (by simp)
  |v::vs,[],D=>exact absurd D.1 (by simp)
  |[v],d::d'::ds,D=>exact absurd D.1 (by simp)
  |v::v'::vs,[d],D=>exact absurd D.1 (by simp)
 rcases he with rfl|rfl
 .exact⟨hr.dfr,_,I,_,rfl,hR,hr.bel.to (fun _ h=>h)⟩
 .exact⟨hr.dfr,_,I,_,rfl,hR,hr.bel.to (fun _ h=>h)⟩
end
section
variable {P:Program}{eO:Array Oper}{os:List Oper}{n t:Nat}{tm:List (Nat×DV)}{bx nb:List (Nat×TypeId×List CellD)}{K:St->Prop}{K':Sq->Prop}{hs sd:List Nat}
variable {ty:TypeId}{pos:String}{af:Array Edge}{g:Option (Nat×Bool)}{op:Op}
theorem bj {x:DV}(h:Sem P eO ⟨some t,op,ty,pos,af,g⟩ (fun s=>look s tm) (fun k=>look k bx) (.r x)) (D:dl P eO os ⟨n,(t,x)::tm,bx⟩ K):dl P eO (⟨some t,op,ty,pos,af,g⟩::os) ⟨n,tm,bx⟩ K:=
 .inl ⟨.r x,h,fun _ _ _ e=>(by cases e),D⟩
theorem bp {x:DV}(h:Sem P eO ⟨some t,op,ty,pos,af,g⟩ (fun s=>look s tm) (hid hs (fun k=>look k bx)) (.r x)) (D:dq P eO hs os ⟨⟨n,(t,x)::tm,bx⟩,nb,sd⟩ K'):dq P eO hs (⟨some t,op,ty,pos,af,g⟩::os) ⟨⟨n,tm,bx⟩,nb,sd⟩ K':=
 ⟨.r x,.inl h,fun _ _ e=>(by cases e),fun _ _ _ e=>(by cases e),fun _ _ _ _ e=>(by cases e),fun _ _ _ e=>(by cases e),D⟩
theorem vX (h:Sem P eO ⟨some t,op,ty,pos,af,g⟩ (fun s=>look s tm) (fun k=>look k bx) .skip) (D:dl P eO os ⟨n,(t,.u)::tm,bx⟩ K):dl P eO (⟨some t,op,ty,pos,af,g⟩::os) ⟨n,tm,bx⟩ K:=
 .inl ⟨.skip,h,fun _ _ _ e=>(by cases e),D⟩
theorem sM (h:Sem P eO ⟨some t,op,ty,pos,af,g⟩ (fun s=>look s tm) (hid hs (fun k=>look k bx)) .skip) (D:dq P eO hs os ⟨⟨n,(t,.u)::tm,bx⟩,nb,sd⟩ K'):dq P eO hs (⟨some t,op,ty,pos,af,g⟩::os) ⟨⟨n,tm,bx⟩,nb,sd⟩ K':=
 ⟨.skip,.inl h,fun _ _ e=>(by cases e),fun _ _ _ e=>(by cases e),fun _ _ _ _ e=>(by cases e),fun _ _ _ e=>(by cases e),D⟩
theorem ro (h:Sem P eO ⟨some t,op,ty,pos,af,g⟩ (fun s=>look s tm) (fun k=>look k bx) (.a U cs none)) (I:look t bx=none) (D:dl P eO os ⟨n,(t,.p t 0)::tm,(t,U,cs)::bx⟩ K):dl P eO (⟨some t,op,ty,pos,af,g⟩::os) ⟨n,tm,bx⟩ K:=
 .inl ⟨.a U cs none,h,fun _ _ _ _=>⟨t,rfl,I⟩,D⟩
theorem K3 (h:Sem P eO ⟨some t,op,ty,pos,af,g⟩ (fun s=>look s tm) (hid hs (fun k=>look k bx)) (.a U cs none)) (I:look t (nb++bx)=none) (D:dq P eO hs os ⟨⟨n,(t,.p t 0)::tm,bx⟩,(t,U,cs)::nb,sd⟩ K'):dq P eO hs (⟨some t,op,ty,pos,af,g⟩::os) ⟨⟨n,tm,bx⟩,nb,sd⟩ K':=
 ⟨.a U cs none,.inl h,fun _ _ e=>(by cases e),fun _ _ _ e=>(by cases e),fun _ _ _ _ e=>(by cases e),fun _ _ _ _=>⟨t,rfl,I⟩,D⟩
theorem qL (h:Sem P eO ⟨some t,op,ty,pos,af,g⟩ (fun s=>look s tm) (fun k=>look k bx) (.a U cs (some m))) (I:look t bx=none) (D:dl P eO os ⟨n,(t,.o t m m)::tm,(t,U,cs)::bx⟩ K):dl P eO (⟨some t,op,ty,pos,af,g⟩::os) ⟨n,tm,bx⟩ K:=
 .inl ⟨.a U cs (some m),h,fun _ _ _ _=>⟨t,rfl,I⟩,D⟩
theorem ag7 (h:Sem P eO ⟨some t,op,ty,pos,af,g⟩ (fun s=>look s tm) (hid hs (fun k=>look k bx)) (.a U cs (some m))) (I:look t (nb++bx)=none) (D:dq P eO hs os ⟨⟨n,(t,.o t m m)::tm,bx⟩,(t,U,cs)::nb,sd⟩ K'):dq P eO hs (⟨some t,op,ty,pos,af,g⟩::os) ⟨⟨n,tm,bx⟩,nb,sd⟩ K':=
 ⟨.a U cs (some m),.inl h,fun _ _ e=>(by cases e),fun _ _ _ e=>(by cases e),fun _ _ _ _ e=>(by cases e),fun _ _ _ _=>⟨t,rfl,I⟩,D⟩
theorem gS (h:Sem P eO ⟨none,op,ty,pos,af,g⟩ (fun s=>look s tm) (fun k=>look k bx) (.s k U cs)) (D:dl P eO os ⟨n,tm,(k,U,cs)::bx⟩ K):dl P eO (⟨none,op,ty,pos,af,g⟩::os) ⟨n,tm,bx⟩ K:=
 .inl ⟨.s k U cs,h,fun _ _ _ e=>(by cases e),D⟩
theorem ab5 {x:DV}(h:Sem P eO ⟨some t,op,ty,pos,af,g⟩ (fun s=>look s tm) (fun k=>look k bx) (.c k x)) (D:dl P eO os ⟨n,(t,x)::jQ k tm,jf k bx⟩ K):dl P eO (⟨some t,op,ty,pos,af,g⟩::os) ⟨n,tm,bx⟩ K:=
 .inl ⟨.c k x,h,fun _ _ _ e=>(by cases e),D⟩
theorem uy {x:DV}(h:Sem P eO ⟨some t,op,ty,pos,af,g⟩ (fun s=>look s tm) (fun k=>look k bx) (.rs k U cs x)) (D:dl P eO os ⟨n,(t,x)::tm,(k,U,cs)::bx⟩ K):dl P eO (⟨some t,op,ty,pos,af,g⟩::os) ⟨n,tm,bx⟩ K:=
 .inl ⟨.rs k U cs x,h,fun _ _ _ e=>(by cases e),D⟩
theorem vw {x:DV}(h:Sem P eO ⟨some t,op,ty,pos,af,g⟩ (fun s=>look s tm) (fun l=>bif Nat.beq l k then look l (nb++bx) else hid hs (fun k=>look k bx) l) (.rs k U cs x)) (h1:hs.any (Nat.beq k)=true) (D:(look k bx).isSome=true) (I:sd.any (Nat.beq k)=false) (h4:os.all (fun o=>o.dst.isSome)=true) (J:jn ⟨some t,op,ty,pos,af,g⟩=true) (h6:tF eO=true) (h7:hs.any (Nat.beq 999999)=false) (R:dq P eO hs os ⟨⟨n,(t,x)::tm,bx⟩,(k,U,cs)::nb,sd⟩ K'):dq P eO hs (⟨some t,op,ty,pos,af,g⟩::os) ⟨⟨n,tm,bx⟩,nb,sd⟩ K':=
 ⟨.rs k U cs x,.inl h,fun _ _ e=>(by cases e),fun _ _ _ e=>(by cases e),fun _ _ _ _ e=>by injection e with e1;subst e1;exact⟨h1,(fun e=>by have e:look k bx=none:=e;rw[e] at D;cases D),(fun hm=>by rw[jO.2 hm] at I;cases I),h4,J,h6,h7⟩,fun _ _ _ e=>(by cases e),R⟩
theorem bO (h:K ⟨n,tm,bx⟩):dl P eO [] ⟨n,tm,bx⟩ K:=h
theorem ig (h:Sem P eO ⟨none,op,ty,pos,af,g⟩ (fun s=>look s tm) (fun l=>bif Nat.beq l k then look l (nb++bx) else hid hs (fun k=>look k bx) l) (.s k U cs)) (h1:hs.any (Nat.beq k)=true) (D:(look k bx).isSome=true) (I:sd.any (Nat.beq k)=false) (R:Bn ⟨none,op,ty,pos,af,g⟩=true) (J:dq P eO hs os ⟨⟨n,tm,bx⟩,(k,U,cs)::nb,k::sd⟩ K'):dq P eO hs (⟨none,op,ty,pos,af,g⟩::os) ⟨⟨n,tm,bx⟩,nb,sd⟩ K':=
 ⟨.s k U cs,.inl h,fun _ _ e=>(by cases e),fun _ _ _ e=>by injection e with e1;subst e1;exact⟨h1,.inl (fun e=>by have e:look k bx=none:=e;rw[e] at D;cases D),(.inl fun hm=>by rw[jO.2 hm] at I;cases I),R⟩,fun _ _ _ _ e=>(by cases e),fun _ _ _ e=>(by cases e),J⟩
theorem kZ (h:Sem P eO ⟨none,op,ty,pos,af,g⟩ (fun s=>look s tm) (fun l=>bif Nat.beq l k then look l (nb++bx) else hid hs (fun k=>look k bx) l) (.s k U cs)) (h1:hs.any (Nat.beq k)=true) (I:((⟨none,op,ty,pos,af,g⟩:Oper).looksAt eO).any (Nat.beq k)=true) (D:sd.any (Nat.beq k)=false) (R:Bn ⟨none,op,ty,pos,af,g⟩=true) (J:dq P eO hs os ⟨⟨n,tm,bx⟩,(k,U,cs)::nb,k::sd⟩ K'):dq P eO hs (⟨none,op,ty,pos,af,g⟩::os) ⟨⟨n,tm,bx⟩,nb,sd⟩ K':=
 ⟨.s k U cs,.inl h,fun _ _ e=>(by cases e),fun _ _ _ e=>by injection e with e1;subst e1;exact⟨h1,.inr (jO.1 I),(.inl fun hm=>by rw[jO.2 hm] at D;cases D),R⟩,fun _ _ _ _ e=>(by cases e),fun _ _ _ e=>(by cases e),J⟩
theorem Ka (h:Sem P eO ⟨none,op,ty,pos,af,g⟩ (fun s=>look s tm) (fun l=>bif Nat.beq l k then look l (nb++bx) else hid hs (fun k=>look k bx) l) (.s k U cs)) (h1:hs.any (Nat.beq k)=true) (D:(look k bx).isSome=true) (R:qt eO=true) (J:Bn ⟨none,op,ty,pos,af,g⟩=true) (I:dq P eO hs os ⟨⟨n,tm,bx⟩,(k,U,cs)::nb,k::sd⟩ K'):dq P eO hs (⟨none,op,ty,pos,af,g⟩::os) ⟨⟨n,tm,bx⟩,nb,sd⟩ K':=
 ⟨.s k U cs,.inl h,fun _ _ e=>(by cases e),fun _ _ _ e=>by injection e with e1;subst e1;exact⟨h1,.inl (fun e=>by have e:look k bx=none:=e;rw[e] at D;cases D),.inr R,J⟩,fun _ _ _ _ e=>(by cases e),fun _ _ _ e=>(by cases e),I⟩
theorem mD (h:K' ⟨⟨n,tm,bx⟩,nb,sd⟩):dq P eO hs [] ⟨⟨n,tm,bx⟩,nb,sd⟩ K':=h
theorem AM {x:DV}(I:Wd hs eO ⟨some t,op,ty,pos,af,g⟩=true) (h:Sem P eO ⟨some t,op,ty,pos,af,g⟩ (fun s=>look s tm) (fun k=>look k bx) (.r x)) (D:dq P eO hs os ⟨⟨n,(t,x)::tm,bx⟩,nb,sd⟩ K'):dq P eO hs (⟨some t,op,ty,pos,af,g⟩::os) ⟨⟨n,tm,bx⟩,nb,sd⟩ K':=
 ⟨.r x,.inr ⟨I,⟨x,rfl⟩,h⟩,fun _ _ e=>(by cases e),fun _ _ _ e=>(by cases e),fun _ _ _ _ e=>(by cases e),fun _ _ _ e=>(by cases e),D⟩
theorem agl (h:Sem P eO ⟨some t,op,ty,pos,af,g⟩ (fun s=>look s tm) (fun k=>look k bx) (.r (.v (.c (.b b))))) (D: ∀c,b=c->dl P eO os ⟨n,(t,.v (.c (.b c)))::tm,bx⟩ K):dl P eO (⟨some t,op,ty,pos,af,g⟩::os) ⟨n,tm,bx⟩ K:=
 bj h (D b rfl)
theorem Ud (h:Sem P eO ⟨some t,op,ty,pos,af,g⟩ (fun s=>look s tm) (hid hs (fun k=>look k bx)) (.r (.v (.c (.b b))))) (D: ∀c,b=c->dq P eO hs os ⟨⟨n,(t,.v (.c (.b c)))::tm,bx⟩,nb,sd⟩ K'):dq P eO hs (⟨some t,op,ty,pos,af,g⟩::os) ⟨⟨n,tm,bx⟩,nb,sd⟩ K':=
 bp h (D b rfl)
theorem eP (h:dl P eO os ⟨n,tm,bx⟩ K):dl P eO os (Sq.merge ⟨⟨n,tm,bx⟩,[],sd⟩) K:=h
theorem sA (h:dl P eO os ⟨n,tm,a::bx⟩ K):dl P eO os (Sq.merge ⟨⟨n,tm,bx⟩,[a],sd⟩) K:=h
theorem Py {b:Nat×TypeId×List CellD}(h:dl P eO os ⟨n,tm,a::b::bx⟩ K):dl P eO os (Sq.merge ⟨⟨n,tm,bx⟩,[a,b],sd⟩) K:=h
theorem fp {x y:Code}(D:look t tm=some (.v (.c (.b true)))) (h:Dw P x ⟨n,tm,bx⟩ Q):Dw P (.cond (.tmp t) x y) ⟨n,tm,bx⟩ Q:=aJ D (fun _=>h) (fun e=>by cases e)
theorem ck {x y:Code}(D:look t tm=some (.v (.c (.b false)))) (h:Dw P y ⟨n,tm,bx⟩ Q):Dw P (.cond (.tmp t) x y) ⟨n,tm,bx⟩ Q:=aJ D (fun e=>by cases e) (fun _=>h)
theorem aa:p6 P ⟨n,tm,bx⟩ []=some []:=rfl
theorem Tj (h:look t tm=some (.v d)) (D:p6 P ⟨n,tm,bx⟩ rs=some ds):p6 P ⟨n,tm,bx⟩ (.tmp t::rs)=some (d::ds):=by
 have e:IA P ⟨n,tm,bx⟩ (.tmp t)=some d:=by unfold IA;simp only[h]
 unfold p6;grind
theorem fX (hU:mT P U=some (true,m)) (I:look t tm=some (.p k off)) (J:look k bx=some (W,cs)) (D:(cs.drop off).take m=us) (hm:us.length=m) (R:p6 P ⟨n,tm,bx⟩ rs=some ds):p6 P ⟨n,tm,bx⟩ (.cell t U::rs)=some (.a us::ds):=by
 have e:IA P ⟨n,tm,bx⟩ (.cell t U)=some (.a us):=by unfold IA;simp only[I,J,hU,D,hm];simp
 unfold p6
 grind
theorem D4 {x:Operand} (hU:mT P U=some (q,m)) (ha:cE T ax=some (.p k 0)) (D:cE T x=some (.v d)) (R:B k=some (W,cs)) (J:d.cells.length=m) (ho:cs.length=m) (I:gd eO ⟨none,.store U ax x,ty,pos,af,g⟩ T=some true):Sem P eO ⟨none,.store U ax x,ty,pos,af,g⟩ T B (.s k W d.cells):=by
 refine aV hU ha D R J (by omega) ?_ I
 grind
theorem ce {x:Operand} (hU:mT P U=some (true,m)) (ha:cE T ax=some (.p k 0)) (D:cE T x=some (.v (.a us))) (hb:B k=some (W,cs)) (R:us.length=m) (J:cs.length=m) (I:gd eO ⟨none,.store U ax x,ty,pos,af,g⟩ T=some true):Sem P eO ⟨none,.store U ax x,ty,pos,af,g⟩ T B (.s k W us):=D4 hU ha D hb R J I
theorem OR {x:Operand} (D:cE T x=some (.v (.a us))) (I:gd eO ⟨dst,.box U x,ty,pos,af,g⟩ T=some true):Sem P eO ⟨dst,.box U x,ty,pos,af,g⟩ T B (.a U us none):=NU D I
theorem O0 {x:Operand} (D:cE T x=some (.v (.c u))) (I:gd eO ⟨dst,.box U x,ty,pos,af,g⟩ T=some true):Sem P eO ⟨dst,.box U x,ty,pos,af,g⟩ T B (.a U [u] none):=NU D I
theorem mI {c:Bool}(D:P.underlying xt=some .bool):(Op.equal xt (.bool b) (.bool c)).run P w=.ok (b==c) w:=by unfold Op.equal Op.maxDepth;rw[show(10000:Nat)=9999+1 from rfl,Op.equalIn];simp only[fh,run_underlying D,ft];rfl
theorem r9 {x y:Operand}{c:Bool} (I:cE T x=some (.v (.c (.b b)))) (R:cE T y=some (.v (.c (.b c)))) (J:P.underlying xt=some .bool) (hg:gd eO ⟨dst,.binOp .eql xt x y yt,ty,pos,af,g⟩ T=some true):Sem P eO ⟨dst,.binOp .eql xt x y yt,ty,pos,af,g⟩ T B (.r (.v (.c (.b (b==c))))):=
 bv hg (qV rfl) (fun V β a w hs=>by have e1:a.eval x=.bool b:=ua (ap hs (by simp[Op.operands]) I);have e2:a.eval y=.bool c:=ua (ap hs (by simp[Op.operands]) R);refine⟨.bool (b==c),?_,.b _⟩;have h1:(eqGuard .eql xt x y (.bool b) (.bool c)).run P w=.ok () w:=rfl;have D:binOp .eql xt (.bool b) (.bool c)=(do pure (.bool (<-Op.equal xt (.bool b) (.bool c)))):=rfl;simp only[execOp,e1,e2,fh,h1,ft,D,mI J,dA])
theorem eA {x y:Operand}{c:Bool} (I:cE T x=some (.v (.c (.b b)))) (R:cE T y=some (.v (.c (.b c)))) (J:P.underlying xt=some .bool) (hg:gd eO ⟨dst,.binOp .neq xt x y yt,ty,pos,af,g⟩ T=some true):Sem P eO ⟨dst,.binOp .neq xt x y yt,ty,pos,af,g⟩ T B (.r (.v (.c (.b (!(b==c)))))):=
 bv hg (qV rfl) (fun V β a w hs=>by have e1:a.eval x=.bool b:=ua (ap hs (by simp[Op.operands]) I);have e2:a.eval y=.bool c:=ua (ap hs (by simp[Op.operands]) R);refine⟨.bool (!(b==c)),?_,.b _⟩;have h1:(eqGuard .neq xt x y (.bool b) (.bool c)).run P w=.ok () w:=rfl;have D:binOp .neq xt (.bool b) (.bool c)=(do pure (.bool (!(<-Op.equal xt (.bool b) (.bool c))))):=rfl;simp only[execOp,e1,e2,fh,h1,ft,D,mI J,dA])
theorem RI {x:Operand}{R D k:IntKind}{m:Int} (h1:P.underlying t1=some (.int R)) (I:P.underlying t2=some (.int D)) (J:cE T x=some (.v (.c (.i k m)))) (hg:gd eO ⟨dst,.convert t1 t2 x,ty,pos,af,g⟩ T=some true):Sem P eO ⟨dst,.convert t1 t2 x,ty,pos,af,g⟩ T B (.r (.v (.c (.i D (D.wrap m))))):=
 bv hg (qV rfl) (fun V β a w hs=>by have e1:a.eval x=.int k m:=gY (ap hs (by simp[Op.operands]) J);refine⟨.int D (D.wrap m),?_,.i _ _⟩;simp[execOp,e1,convert,run_underlying h1,run_underlying I,Conv.intToInt])
end
def dr (v:Nat):List Int:=if h:v=0 then[] else((v%1000000000:Nat):Int)::dr (v/1000000000)
termination_by v
decreasing_by exact Nat.div_lt_self (Nat.pos_of_ne_zero h) (by omega)
theorem li:dr 0=[]:=by unfold dr;simp
theorem BM {v:Nat}(h:v≠0):dr v=((v%1000000000:Nat):Int)::dr (v/1000000000):=by rw[dr];simp[h]
theorem bL (v:Nat):Lim (dr v):=by
 induction v using Nat.strongRecOn with
 |_ v D=>
  by_cases h:v=0;·subst h;rw[li];exact Lim.nil
  .rw[BM h];exact Lim.cons (by omega) (by omega) (D _ (Nat.div_lt_self (Nat.pos_of_ne_zero h) (by omega)))
theorem bZ (v:Nat):val (dr v)=v:=by
 induction v using Nat.strongRecOn with
 |_ v D=>
  by_cases h:v=0;·subst h;rw[li];rfl
  .rw[BM h,eB,D _ (Nat.div_lt_self (Nat.pos_of_ne_zero h) (by omega))];omega
theorem eI {v:Nat}:dr v=[]↔v=0:=by
 constructor;·intro h;have:=bZ v;rw[h] at this;simp[val] at this;omega
 .intro h;rw[h,li]
theorem IC (h:Nrm xs) (D:xs≠ []):Nrm (x::xs):=by obtain⟨ys,y,e,I⟩:=h.last D;rw[e];exact DH (x::ys) y I
theorem jr (v:Nat):Nrm (dr v):=by
 induction v using Nat.strongRecOn with
 |_ v I=>
  by_cases h:v=0;·subst h;rw[li];exact Nrm.nil
  .rw[BM h];by_cases D:v/1000000000=0
   .rw[D,li];exact DH [] _ (by omega)
   .exact IC (I _ (Nat.div_lt_self (Nat.pos_of_ne_zero h) (by omega))) (fun e=>D (eI.1 e))
theorem LF (h:Nrm xs) (hl:Lim xs):xs=dr (val xs).toNat:=by have h0:=cH hl;exact Nrm.inj h (jr _) hl (bL _) (by rw[bZ];omega)
def cL (x:Int):CellD:=.s (dr x.natAbs).length ((dr x.natAbs).map (CellD.i .u32))
def cI (x:Int):List CellD:=[.b (decide (x<0)),cL x]
def dI (x:Int):D0:=.a (cI x)
structure Sz (k:Nat) (x:Int):Prop where
 lt:x<pw k
 gt: -x<pw k
section
variable {av:Nat->Prop}{w w':World}
theorem wR {c:Nat}(h:RdC av w (.slice A n c) (.s xs.length (xs.map (CellD.i .u32)))):RdI .u32 w A n xs/\n<=c/\c<=9223372036854775807/\(∀b off,0<n->A=some ⟨b,off,none⟩-> ¬av b):=by
 generalize hu:CellD.s xs.length (xs.map (CellD.i .u32))=u at h;cases h with
 |s0 _ c hc=>
  have:xs=[]:=by grind
  subst this;exact⟨Rd.nil,iB _,hc,fun _ _ h=>absurd h (by omega)⟩
 |s b off c sz n us cv h0 a3 a6 D hb a9 I hr=>
  injection hu with h1 h2;subst h1;subst h2;have a4:sz=1:=by simp at D;have:=GO h0 (D.symm.trans (Nat.mul_one _).symm);grind
  subst a4;refine⟨⟨by simp,fun _=>⟨b,off,rfl,hb,fun j u J=>?_⟩⟩,a3,a6,fun b' b3 _ e=>by injection e with e;injection e with e1 e2;subst e1;exact a9⟩;rw[pU] at J;cases R:xs[j]? with
  |none=>rw[R] at J;cases J
  |some x=>rw[R] at J;injection J with J;have hlt:j<xs.length:=(fM.1 R).1;rw[I j (by omega),gY (hr j (.i .u32 x) (by rw[pU,R];rfl)),<-J]
 |_=>cases hu
theorem xj {c:Nat}(h:RdI .u32 w A n xs) (a3:n<=c) (I:c<=9223372036854775807) (R: ∀b off,A=some ⟨b,off,none⟩-> ¬av b):RdC av w (.slice A n c) (.s n (xs.map (CellD.i .u32))):=by
 have hl:=h.len
 rcases je n with h0|h0
 .subst h0
  have:xs=[]:=by grind
  subst this
  exact .s0 A c I
 .obtain⟨b,off,e,hb,hc⟩:=h.2 h0
  subst e
  refine .s b off c 1 n _ (fun j=>.int .u32 (xs.getD j 0)) h0 a3 I (by simp[hl]) hb (R b off rfl) (fun j D=>?_) (fun j u D=>?_)
  .grind
  .rw[pU] at D
   cases J:xs[j]? with
   |none=>rw[J] at D;cases D
   |some x=>
    rw[J] at D
    injection D with D
    subst D
    simp only[List.getD,J,Option.getD_some]
    exact .i _ _
theorem kT (h:RdV av w v (dI x)): ∃neg A n c,v=.agg #[.bool neg,.slice A n c]/\IsInt w neg A n c x:=by
 obtain⟨cs,rfl,D⟩:=h;obtain⟨cs⟩:=cs;match cs,D.1,D with
 |[a,b],_,D=>
  obtain⟨h1,D⟩:=D.uncons;obtain⟨I,_⟩:=D.uncons;unfold cL at I;have e1:=ua h1;subst e1;have: ∃A n c,b=.slice A n c:=by
   generalize hu:CellD.s (dr x.natAbs).length ((dr x.natAbs).map (CellD.i .u32))=u at I;cases I with
   |s0 A c _=>exact⟨A,0,c,rfl⟩
   |s b off c sz n=>exact⟨_,n,c,rfl⟩
   |_=>cases hu
  obtain⟨A,n,c,rfl⟩:=this;obtain⟨R,g2,g3,_⟩:=wR I;refine⟨_,A,n,c,rfl,dr x.natAbs,⟨R,g2,g3,bL _⟩,jr _,?_,fun hn=>?_⟩
  .rw[bZ];by_cases J:x<0;·simp[J,sg];omega
   .simp[J,sg];omega
  .have J:x<0:=by simpa using hn
   have:=R.len;rcases je n with h0|h0
   .rw[h0] at this;have:=eI.1 (jM.1 this);omega
   grind
theorem Iy {neg:Bool}{c:Nat}(h:IsInt w neg A n c x) (J: ∀b off,A=some ⟨b,off,none⟩-> ¬av b):RdV av w (.agg #[.bool neg,.slice A n c]) (dI x):=by
 obtain⟨s1,s2,s3,s4⟩:=h.sign;obtain⟨xs,hs,hn,R,hp⟩:=h;have I:neg=decide (x<0):=by
  cases neg with
  |true=>simp[s1 rfl]
  |false=>
   rcases je n with h0|h0;·grind
   grind
 have D:xs=dr x.natAbs:=by
  rw[LF hn hs.2.2.2];congr 1;have:=cH hs.2.2.2;cases neg with
  |true=>rw[gA] at R;omega
  |false=>rw[cK] at R;omega
 have hl:n=(dr x.natAbs).length:=by rw[<-D,hs.len]
 refine⟨_,rfl,lG ?_ (lG ?_ qB)⟩;·rw[I];exact .b _
 .unfold cL;rw[<-hl,<-D];exact xj hs.1 hs.2.1 hs.2.2.1 J
theorem o7 {e:Ending}(D: ∀b,av b->b<w.heap.size) (h:JZ w x e w'): ∃v,e=.returned v/\Wz av w' v [dI x]/\Below w.heap.size w w':=by obtain⟨neg,A,n,c,rfl,hi,I,R⟩:=h;exact⟨_,rfl,Iy hi (fun b off e J=>by have:=D b J;have:=I b off e;omega),R⟩
theorem IsInt.sz {neg:Bool}{c:Nat}(h:IsInt w neg A n c x) (hs:Sz 100000000 x):n<=100000000:=h.le hs.1 hs.2
end
theorem Sz.mono {l:Nat}(h:Sz k x) (hl:k<=l):Sz l x:=by have:=nC hl;exact⟨by have:=h.1;omega,by have:=h.2;omega⟩
theorem Sz.m_ {l:Nat}(h:Sz k x) (hl:k<=l:=by decide):Sz l x:=h.mono hl
theorem f6 {l:Nat}(h:Sz k x) (hl:k<=l:=by decide):Sz l x:=h.mono hl
theorem UG {l:Nat}(h:Sz l x:=by first|assumption|exact Sz.mono ‹_› (by decide)):Sz l x:=h
theorem Sz.neg (h:Sz k x):Sz k (-x):=⟨h.2,by have:=h.1;omega⟩
theorem Sz.add (h:Sz k x) (D:Sz k y):Sz (k+1) (x+y):=by have:=eZ k;obtain⟨h1,I⟩:=h;obtain⟨J,R⟩:=D;constructor<;>omega
theorem Sz.abs:Sz k x↔(x.natAbs:Int)<pw k:=⟨fun h=>by have:=h.lt;have:=h.gt;omega,fun h=>⟨by omega,by omega⟩⟩
theorem Sz.mul {l:Nat}(h:Sz k x) (J:Sz l y):Sz (k+l) (x*y):=by
 rw[Sz.abs] at*;rw[Int.natAbs_mul,wJ,y8];have h1:=eX k;generalize (x.natAbs:Int)=a at*;have D:0<=(y.natAbs:Int):=by omega
 generalize (y.natAbs:Int)=b at*;generalize pw k=p at*;generalize pw l=q at*;have I:a*b<=(p-1)*(q-1):=qJ (by omega) (by omega) D (by omega);grind
theorem Sz.of_le (h:Sz k x) (D:y.natAbs<=x.natAbs):Sz k y:=by rw[Sz.abs] at*;omega
theorem Sz.small (D:3<=k) (h0: -9223372036854775808<=x) (h1:x<=9223372036854775807):Sz k x:=by
 have I:pw 3=1000000000000000000000000000:=by decide
 have:=nC D;constructor<;>omega
section
abbrev cq:=Ok Tryz.prog
theorem uj:cq 105 [dI x] [.c (.i .i64 (dT x 0))]:=⟨by kernel_rfl,fun av vs w D h=>by
 obtain⟨vs⟩:=vs;match vs,h.1,h with
 |[v],_,h=>obtain⟨neg,A,n,c,rfl,hi⟩:=kT h.uncons.1;exact(R8 neg A n c x w hi).mono fun e w' ⟨J,I⟩=>⟨_,J,.i _ _,I⟩⟩
theorem mH:cq 109 [dI x,dI y] [.c (.i .i64 (dT x y))]:=⟨by kernel_rfl,fun av vs w a3 h=>by
 obtain⟨vs⟩:=vs;match vs,h.1,h with
 |[v,u],_,h=>obtain⟨hv,I⟩:=h.uncons;replace I:=I.uncons.1;obtain⟨neg,A,n,c,rfl,hi⟩:=kT hv;obtain⟨D,A',n',c',rfl,J⟩:=kT I;exact(RA neg D A A' n c n' c' x y w hi J).mono fun e w' ⟨he,R⟩=>⟨_,he,.i _ _,R⟩⟩
theorem jo (hx:Sz 100000000 x) (hy:Sz 100000000 y):cq 110 [dI x,dI y] [dI (x*y)]:=⟨by kernel_rfl,fun av vs w R h=>by
 obtain⟨vs⟩:=vs;match vs,h.1,h with
 |[v,u],_,h=>obtain⟨hv,J⟩:=h.uncons;replace J:=J.uncons.1;obtain⟨neg,A,n,c,rfl,hi⟩:=kT hv;obtain⟨D,A',n',c',rfl,I⟩:=kT J;exact(Sa neg D A A' n c n' c' x y w hi I (hi.sz hx) (I.sz hy)).mono fun e w' h=>o7 R h⟩
theorem yg (hx:Sz 100000000 x) (hy:Sz 100000000 y):cq 118 [dI x,dI y] [dI (x+y)]:=⟨by kernel_rfl,fun av vs w R h=>by
 obtain⟨vs⟩:=vs;match vs,h.1,h with
 |[v,u],_,h=>obtain⟨hv,J⟩:=h.uncons;replace J:=J.uncons.1;obtain⟨neg,A,n,c,rfl,hi⟩:=kT hv;obtain⟨D,A',n',c',rfl,I⟩:=kT J;exact(CI neg D A A' n c n' c' x y w hi I (hi.sz hx) (I.sz hy)).mono fun e w' h=>o7 R h⟩
theorem WP (hx:Sz 100000000 x) (hy:Sz 100000000 y):cq 317 [dI x,dI y] [dI (x-y)]:=⟨by kernel_rfl,fun av vs w R h=>by
 obtain⟨vs⟩:=vs;match vs,h.1,h with
 |[v,u],_,h=>obtain⟨hv,J⟩:=h.uncons;replace J:=J.uncons.1;obtain⟨neg,A,n,c,rfl,hi⟩:=kT hv;obtain⟨D,A',n',c',rfl,I⟩:=kT J;exact(TE neg D A A' n c n' c' x y w hi I (hi.sz hx) (I.sz hy)).mono fun e w' h=>o7 R h⟩
theorem xx (I:Sz 100000000 x):cq 165 [dI x] [dI (-x)]:=⟨by kernel_rfl,fun av vs w D h=>by
 obtain⟨vs⟩:=vs;match vs,h.1,h with
 |[v],_,h=>obtain⟨neg,A,n,c,rfl,hi⟩:=kT h.uncons.1;exact(UN neg A n c x w hi (hi.sz I)).mono fun e w' h=>o7 D h⟩
theorem mz (h0: -9223372036854775808<=x) (h1:x<=9223372036854775807):cq 170 [.c (.i .i64 x)] [dI x]:=⟨by kernel_rfl,fun av vs w D h=>by
 obtain⟨vs⟩:=vs;match vs,h.1,h with
 |[v],_,h=>obtain rfl:=gY h.uncons.1;exact(Iz x w h0 h1).mono fun e w' h=>o7 D h⟩
end
section
variable {P:Program}{eO:Array Oper}{o:Oper}{T:TF}{B:BF}{V:Nat->Prop}{β:Nat->Nat}{a:Act}{w w':World}{av:Nat->Prop}
theorem Jm {R:Value->World->Prop} (h: ∀(o':Oper) (a':Act) (K:Act->World->Prop) (Q:Exit->Act->World->Prop),o'.op=o.op->a'.eval=a.eval->(∀v w',R v w'->K (a'.put o'.dst v) w')->o'.wp P a' w K Q):Gives P o a w R:=by
 have I:(⟨a.tmps.push undef,a.defers⟩:Act).eval=a.eval:=by
  funext x;cases x with
  |tmp t=>
   show(a.tmps.push undef).getD t undef=a.tmps.getD t undef;by_cases ht:t<a.tmps.size
   .simp only[Array.getD,ht,Array.size_push,Nat.lt_succ_of_lt ht,dite_true];rw[Array.getInternal_eq_getElem,Array.getInternal_eq_getElem,Array.getElem_push_lt]
   .by_cases I:t=a.tmps.size;·simp_all
    grind
  |_=>rfl
 have h1:=h {o with dst:=some a.tmps.size} ⟨a.tmps.push undef,a.defers⟩ (fun a3 w'=>a3.defers=a.defers/\ ∃v,a3.tmps[a.tmps.size]? =some v/\R v w') (fun _ _ _=>False) rfl I (fun v w' hv=>⟨rfl,v,by simp[Act.put],hv⟩)
 unfold Oper.wp at h1
 unfold Gives
 rw[I] at h1
 have e2:execOp a.eval {o with dst:=some a.tmps.size}=execOp a.eval o:=by cases o;rfl
 rw[e2] at h1
 have D: ∀(v:Value) (w':World),(∃u,((⟨a.tmps.push undef,a.defers⟩:Act).put (some a.tmps.size) v).tmps[a.tmps.size]? =some u/\R u w')->R v w':=by rintro v w' ⟨u,hu,hR⟩;simp[Act.put] at hu;grind
 generalize (execOp a.eval o).run P w=r at*
 cases r with
 |ok n w'=>
  cases n<;>simp only[Oper.upon] at h1<;>simp only[Fc]
  case value v=>exact D v w' h1.2
  case skip=>exact D undef w' h1.2
  case enter f args=>
   refine h1.mono fun e J I=>?_
   cases e with
   |returned v=>exact⟨v,rfl,D v J I.2⟩
   |panicked c=>exact I.elim
   |outgrown=>obtain⟨_,_,h⟩:=I;exact h.elim
  case defer d=>
   have:=h1.1
   simp[Act.put] at this
  case row row args=>exact h1.mono fun v J hv=>D v J hv.2
 |halt x w'=>cases x<;>simp only[Oper.upon] at h1
theorem RL {x:Operand}{e:Int} (hx:cE T x=some (.v (.c (cL e)))) (hs:Sz 100000000 e) (hg:gd eO ⟨dst,.call ⟨.builtin .append,#[.const (.slice none 0 0),x],#[36,36]⟩,ty,pos,af,g⟩ T=some true):Sem Tryz.prog eO ⟨dst,.call ⟨.builtin .append,#[.const (.slice none 0 0),x],#[36,36]⟩,ty,pos,af,g⟩ T B (.r (.v (.c (cL e)))):=by
 refine⟨qV rfl,fun V β a w D=>⟨eK D hg,Jm fun o' a' K Q ho he hK=>?_⟩⟩
 have h1:RdC V w (a.eval x) (cL e):=ap D (by simp[Op.operands,Call.operands]) hx
 unfold cL at h1
 have hf: ∃A n c,a.eval x=.slice A n c:=by
  generalize hu:CellD.s (dr e.natAbs).length ((dr e.natAbs).map (CellD.i .u32))=u at h1;generalize a.eval x=v at h1;cases h1 with
  |s0 A c _=>exact⟨A,0,c,rfl⟩
  |s b off c sz n=>exact⟨_,n,c,rfl⟩
  |_=>cases hu
 obtain⟨A,n,c,hv⟩:=hf
 rw[hv] at h1
 obtain⟨g1,g2,g3,g4⟩:=wR h1
 have hl:=g1.len
 have hn:n<=100000000:=by rw[<-hl];refine(jr e.natAbs).len (bL _) ?_;rw[bZ];exact Sz.abs.1 hs
 refine Of (.const (.slice none 0 0)) x ho A n c (dr e.natAbs) rfl (by rw[he];exact hv) ⟨g1,g2,g3,bL _⟩ (by omega) ?_
 intro v' w' I R
 refine hK v' w' ⟨?_,(fe _ w).grown R (bk _) (by intro k hk;cases hk)⟩
 obtain⟨A',c',rfl⟩:=I.form
 have J:=I.sl
 have:=xj J.1 J.2.1 J.2.2.1 (fun b off e hV=>by have:=I.fresh (bk _) b off e;have:=D.av b hV;omega)
 unfold cL
 rw[hl]
 exact this
theorem W9 {x y:Operand}{k:IntKind}{m n:Int} (D:cE T x=some (.v (.c (.i k m)))) (I:cE T y=some (.v (.c (.i k n)))) (h0:n≠0) (R:gd eO ⟨dst,.binOp .quo xt x y yt,ty,pos,af,g⟩ T=some true):Sem P eO ⟨dst,.binOp .quo xt x y yt,ty,pos,af,g⟩ T B (.r (.v (.c (.i k (k.wrap (m.tdiv n)))))):=
 bv R (qV rfl) (fun V β a w hs=>by have e1:a.eval x=.int k m:=gY (ap hs (by simp[Op.operands]) D);have J:a.eval y=.int k n:=gY (ap hs (by simp[Op.operands]) I);exact⟨.int k (k.wrap (m.tdiv n)),by simp[execOp,e1,J,eqGuard,binOp,Op.intDiv,h0],.i _ _⟩)
theorem Gp {x y:Operand}{k:IntKind}{m n:Int} (D:cE T x=some (.v (.c (.i k m)))) (I:cE T y=some (.v (.c (.i k n)))) (h0:n≠0) (R:gd eO ⟨dst,.binOp .rem xt x y yt,ty,pos,af,g⟩ T=some true):Sem P eO ⟨dst,.binOp .rem xt x y yt,ty,pos,af,g⟩ T B (.r (.v (.c (.i k (m.tmod n))))):=
 bv R (qV rfl) (fun V β a w hs=>by have e1:a.eval x=.int k m:=gY (ap hs (by simp[Op.operands]) D);have J:a.eval y=.int k n:=gY (ap hs (by simp[Op.operands]) I);exact⟨.int k (m.tmod n),by simp[execOp,e1,J,eqGuard,binOp,Op.intDiv,h0],.i _ _⟩)
theorem xV (h:RdC av w v (cL x)): ∃A n c,v=.slice A n c/\Sl w A n c (dr x.natAbs)/\(∀b off,0<n->A=some ⟨b,off,none⟩-> ¬av b):=by
 have h1:=h;unfold cL at h1;have R: ∃A n c,v=.slice A n c:=by
  generalize D:CellD.s (dr x.natAbs).length ((dr x.natAbs).map (CellD.i .u32))=u at h1;cases h1 with
  |s0 A c _=>exact⟨A,0,c,rfl⟩
  |s b off c sz n=>exact⟨_,n,c,rfl⟩
  |_=>cases D
 obtain⟨A,n,c,rfl⟩:=R;obtain⟨g1,g2,I,J⟩:=wR h1;exact⟨A,n,c,rfl,⟨g1,g2,I,bL _⟩,J⟩
theorem hJ (h:Sz k x):(dr x.natAbs).length<=k:=by refine(jr x.natAbs).len (bL _) ?_;rw[bZ];exact Sz.abs.1 h
theorem Qf {c:Nat}{zs:List Int}{b:Nat}(h:Ow w' b (.slice A n c) n zs) (D: ∀k,av k->k<b):RdC av w' (.slice A n c) (.l (val zs)):=
 .l A n c zs h.sl.1 h.sl.2.1 h.sl.2.2.1 h.sl.2.2.2 (fun I off _ e J=>by have:=h.fresh (bk _) I off e;have:=D I J;omega)
theorem wV (hx:Sz 100000000 x) (hy:Sz 100000000 y) (h0:y≠0):cq 263 [.c (cL x),.c (cL y)] [.c (.l ((x.natAbs:Int)/y.natAbs)),.c (.l ((x.natAbs:Int)%y.natAbs))]:=⟨by kernel_rfl,fun av vs w D h=>by
 obtain⟨vs⟩:=vs;match vs,h.1,h with
 |[v,u],_,h=>
  obtain⟨hv,I⟩:=h.uncons;replace I:=I.uncons.1;obtain⟨A,n,c,rfl,ha,_⟩:=xV hv;obtain⟨B,m,d,rfl,R,_⟩:=xV I;have:=ha.len;have:=R.len;have:=hJ hx;have:=hJ hy;refine(LU A B n c m d _ _ w ha R (by omega) (by omega) (by rw[bZ];omega)).mono ?_;rintro e w' ⟨A',n',c',zs,B',m',d',ys,rfl,h1,J,h3,h4,h5⟩;rw[bZ,bZ] at J h4;refine⟨_,rfl,⟨_,rfl,qF ?_ (qF ?_ RdL.nil)⟩,h5⟩;·rw[<-J];exact Qf h1 D
  .rw[<-h4];exact Qf h3 D⟩
theorem lu {neg:Bool}:cq 190 [.c (.b neg),.c (.l x)] [dI (sg neg x)]:=⟨by kernel_rfl,fun av vs w a4 h=>by
 obtain⟨vs⟩:=vs;match vs,h.1,h with
 |[v,u],_,h=>
  obtain⟨hv,hu⟩:=h.uncons;replace hu:=hu.uncons.1;obtain rfl:=ua hv;have I:RdC av w u (.l x):=hu;generalize J:CellD.l x=q at I;cases I with
  |l A n c xs h0 h1 h2 h3 h4=>
   injection J with J;subst J;have D:Sl w A n c xs:=⟨h0,h1,h2,h3⟩;refine(jZ neg A n c xs w D).mono ?_;rintro e w' ⟨rfl,hb⟩;refine⟨_,rfl,?_,hb⟩;have hi:=(iF D neg).below hb;obtain⟨a3,g1,g2,g3,g4⟩:=id hi;rcases je (trm xs).length with hz|hz
   .have e0:trm xs=[]:=jM.1 hz;have ev:val xs=0:=by rw[<-iT,e0];rfl
    rw[hz] at hi⊢;have R:sg neg (val xs)=0:=by rw[ev];cases neg<;>rfl
    rw[R];refine⟨_,rfl,lG ?_ (lG ?_ qB)⟩;·simp;exact .b _
    .unfold cL;rw[show(0:Int).natAbs=0 from rfl,li];exact .s0 A 0 (by omega)
   .have hn:0<n:=by have:=tu xs;have:=h0.len;omega
    exact Iy hi (fun b off e=>h4 b off hn e)
  |_=>cases J⟩
theorem tD {neg:Bool}:cq 190 [.c (.b neg),.c (cL x)] [dI (sg neg x.natAbs)]:=⟨lu (neg:=neg) (x:=x.natAbs)|>.cal,fun av vs w J h=>by
 refine lu.run av vs w J ⟨h.1,fun j v d R D=>?_⟩;match j,D with
 |0,D=>exact h.2 0 v d R D
 |1,D=>injection D with D;subst D;obtain⟨A,n,c,rfl,hs,I⟩:=xV (h.2 1 v _ R rfl);have:=RdC.l A n c _ hs.1 hs.2.1 hs.2.2.1 hs.2.2.2 I;rw[bZ] at this;exact this
 |j+2,D=>cases D⟩
theorem Po {u:Int}(h0:0<=u) (h1:u<=18446744073709551615):cq 250 [.c (.i .u64 u)] [.c (.l u)]:=⟨by kernel_rfl,fun av vs w D h=>by
 obtain⟨vs⟩:=vs;match vs,h.1,h with
 |[v],_,h=>obtain rfl:=gY h.uncons.1;refine(Az u w h0 h1 (by omega)).mono ?_;rintro e w' ⟨A,c,zs,rfl,J,R,I⟩;exact⟨_,rfl,by rw[<-R];exact Qf J D,I⟩⟩
theorem Ig:cq 262 [dI x] [.c (.i .u64 (if x.natAbs<1000000000000000000 then x.natAbs else 0)),.c (.b (decide (x.natAbs<1000000000000000000)))]:=⟨by kernel_rfl,fun av vs w a5 h=>by
 obtain⟨vs⟩:=vs;match vs,h.1,h with
 |[v],_,h=>
  obtain⟨cs,a4,I⟩:=h.uncons.1;subst a4;obtain⟨cs⟩:=cs;match cs,I.1,I with
  |[a,b],_,I=>
   obtain⟨h1,I⟩:=I.uncons;have h2:=I.uncons.1;obtain rfl:=ua h1;obtain⟨A,n,c,rfl,hs,_⟩:=xV h2;have hl:=hs.len;have a6:pw 2=1000000000000000000:=by decide
   by_cases hn:n<=2
   .have hlt:x.natAbs<1000000000000000000:=by have h1:=fD (bL x.natAbs);rw[bZ] at h1;have h3:=nC (n:=(dr x.natAbs).length) (m:=2) (by omega);omega
    have D: ∀(e:Ending) (w':World),e=.returned (.tuple #[.int .u64 (val (dr x.natAbs)),.bool true])/\Below w.heap.size w w'-> ∃v,e=.returned v/\Wz av w' v [.c (.i .u64 (if x.natAbs<1000000000000000000 then x.natAbs else 0)),.c (.b (decide (x.natAbs<1000000000000000000)))]/\Below w.heap.size w w':=by
     rintro e w' ⟨rfl,hb⟩;refine⟨_,rfl,⟨_,rfl,qF ?_ (qF ?_ RdL.nil)⟩,hb⟩;·rw[if_pos hlt,bZ];exact .i _ _
     .rw[show decide (x.natAbs<1000000000000000000)=true from by simpa using hlt];exact .b _
    by_cases a3:n<=1
    .exact(ST _ A n c _ w hs a3).mono D
    .obtain rfl:n=2:=by omega
     exact(Tu _ A c _ w hs).mono D
   .have J: ¬x.natAbs<1000000000000000000:=by
     have R:dr x.natAbs≠ []:=fun e=>by rw[e] at hl;simp at hl;omega
     have h1:=(jr x.natAbs).ge (bL _) R;rw[bZ] at h1;have h3:=nC (n:=2) (m:=(dr x.natAbs).length-1) (by omega);omega
    refine(Ph _ A n c w (by omega)).mono ?_
    rintro e w' ⟨rfl,hb⟩
    refine⟨_,rfl,⟨_,rfl,qF ?_ (qF ?_ RdL.nil)⟩,hb⟩
    .rw[if_neg J];exact .i _ _
    .rw[show decide (x.natAbs<1000000000000000000)=false from by simpa using J];exact .b _⟩
end
def uV (P:Program) (U:TypeId):Option (TypeId×Nat×Nat×List CellD):=
 match P.underlying U with
 |some (.slice e)=>match P.info? e,Cq P e with
  |some i,some zs=>if Nat.beq i.size zs.length then some (e,i.size,i.bytes,zs) else none
  |_,_=>none
 |_=>none
section
variable {P:Program}{eO:Array Oper}{o:Oper}{T:TF}{B:BF}{V:Nat->Prop}{β:Nat->Nat}{a:Act}{w w':World}{av:Nat->Prop}
theorem i5 (h:uV P U=some (e,m,by_,zs)):P.underlying U=some (.slice e)/\ ∃i z,P.info? e=some i/\i.zero=some z/\i.size=m/\i.bytes=by_/\zs.length=m/\ ∀(V:Nat->Prop) (w:World),RdCs V w z.cells.toList zs:=by
 unfold uV at h;split at h
 .rename_i e' hu;split at h
  .rename_i i zs' hi J;split at h
   .rename_i hb;injection h with h;injection h with h1 h;injection h with R h;injection h with h3 h4;subst h1 R h3 h4;have D:=J;unfold Cq at D;rw[hi] at D;dsimp only at D;cases I:i.zero with
    |none=>rw[I] at D;cases D
    |some z=>refine⟨hu,i,z,hi,I,rfl,rfl,(dF hb).symm,fun V w=>?_⟩;obtain⟨it,z',a4,a3,hr⟩:=Ak (V:=V) (w:=w) J;grind
   grind
  grind
 grind
theorem nB {l c:Operand} (hU:uV P U=some (e,1,by_,[z])) (hl:cE T l=some (.v (.c (.i kl n)))) (hc:cE T c=some (.v (.c (.i kc n)))) (hb:by_*n<=281474976710656) (b3:n<=9223372036854775807) (hg:gd eO ⟨dst,.makeSlice U l c,ty,pos,af,g⟩ T=some true):Sem P eO ⟨dst,.makeSlice U l c,ty,pos,af,g⟩ T B (.a e (List.replicate n z) (some n)):=fun V β a w hs=>⟨eK hs hg,by
 obtain⟨hu,i,I,hi,hz,a9,a6,_,hr⟩:=i5 hU
 have e1:a.eval l=.int kl n:=gY (ap hs (by simp[Op.operands]) hl)
 have e2:a.eval c=.int kc n:=gY (ap hs (by simp[Op.operands]) hc)
 have a3:=hr V w
 unfold Gives
 have:(execOp a.eval ⟨dst,.makeSlice U l c,ty,pos,af,g⟩).run P w=.ok (.value (.slice (some ⟨w.heap.size,0,none⟩) n n)) (w.alloc (.cells (madeCells I.cells (n*1)) e)):=by simp only[execOp,e1,e2,fh,run_make w U e i I hu hi hz kl kc n n (by omega) (by omega) (by rw[a6];have h2:((by_*n:Nat):Int)<=281474976710656:=Int.ofNat_le.2 hb;rw[y8] at h2;exact h2) (by omega),ft,dA,a9];simp
 rw[this]
 refine⟨_,rfl,rfl,by simp[madeCells],fun j v u J hu=>?_⟩
 have R:I.cells.size=1:=by have:=a3.1;simpa using this
 simp only[madeCells,Nat.mul_one,R,Nat.mod_one,q9,Array.toList_range,pU] at J
 cases hq:(List.range n)[j]? with
 |none=>rw[hq] at J;cases J
 |some q=>
  rw[hq] at J
  injection J with J
  have a5:u=z:=by grind
  subst a5
  have D:0<I.cells.size:=by omega
  have h0:I.cells.toList[0]? =some (I.cells[0]'D):=by grind
  have:=a3.2 0 _ u h0 rfl
  rw[<-J]
  have e3:I.cells[0]! =I.cells[0]'D:=by grind
  rw[e3];exact this⟩
theorem ko {x:Operand}{c:Nat} (hU:pT P U=some m) (D:cE T x=some (.o k n c)) (J:gd eO ⟨dst,.call ⟨.builtin .len,#[x],#[U]⟩,ty,pos,af,g⟩ T=some true):Sem P eO ⟨dst,.call ⟨.builtin .len,#[x],#[U]⟩,ty,pos,af,g⟩ T B (.r (.v (.c (.i .i64 n)))):=
 bv J (qV rfl) (fun V β a w hs=>by
  have e:a.eval x=.slice (some ⟨β k,0,none⟩) n c:=ap hs (by simp[Op.operands,Call.operands]) D;unfold pT at hU;split at hU
  .rename_i R I;refine⟨.int .i64 n,?_,.i _ _⟩;simp[execOp,resolve,invoke,builtin,Builtin.len_,e,run_underlying I,goInt]
  .cases hU)
theorem a8 {x:Operand}{c:Nat} (hU:pT P U=some m) (R:cE T x=some (.o k n c)) (hi:cE T i=some (.v (.c (.i ki j)))) (hj:0<=j/\j<n) (hg:gd eO ⟨dst,.indexAddr U x i,ty,pos,af,g⟩ T=some true):Sem P eO ⟨dst,.indexAddr U x i,ty,pos,af,g⟩ T B (.r (.p k (j.toNat*m))):=
 bv hg (fun k' e=>by
  obtain rfl:k=k':=by injection e
  exact oT (by simp[Op.operands]) R rfl) (fun V β a w hs=>by
  have e:a.eval x=.slice (some ⟨β k,0,none⟩) n c:=ap hs (by simp[Op.operands]) R;unfold pT at hU;split at hU;case h_2=>cases hU
  rename_i el I;cases D:P.info? el with
  |none=>rw[D] at hU;cases hU
  |some a3=>
   rw[D] at hU;simp at hU;refine⟨.pointer (some ⟨β k,j.toNat*m,none⟩),?_,rfl⟩;have J: ∀w,(sizeOf el).run P w=.ok m w:=fun w=>by unfold sizeOf typeInfo;simp[program,Sem.run,D,hU]
   simp[execOp,Instr.indexAt,e,gY (ap hs (by simp[Op.operands]) hi),asIntOf,run_underlying I,hj.1,hj.2,J,fI])
theorem nW {x:Operand}{xs:List CellD} (hU:pT P U=some m) (hx:cE T x=some (.v (.c (.s n xs)))) (hh:cE T h=some (.v (.c (.i ki j)))) (hj:0<=j/\j<=n) (hl:xs.length=n*m) (hu:xs.take (j.toNat*m)=us) (hg:gd eO ⟨dst,.slice U x none (some h) none,ty,pos,af,g⟩ T=some true):Sem P eO ⟨dst,.slice U x none (some h) none,ty,pos,af,g⟩ T B (.r (.v (.c (.s j.toNat us)))):=
 bv hg (qV rfl) (fun V β a w hs=>by
  have h1:=ap hs (by simp[Op.operands]) hx;generalize hv:a.eval x=v at h1;have h1:RdC V w v (.s n xs):=h1;unfold pT at hU;split at hU;case h_2=>cases hU
  rename_i el a5;cases D:P.info? el with
  |none=>rw[D] at hU;cases hU
  |some b6=>
   rw[D] at hU;simp at hU;have b3: ∀w,(sizeOf el).run P w=.ok m w:=fun w=>by unfold sizeOf typeInfo;simp[program,Sem.run,D,hU]
   have R: ∀(A:Option Addr) (c:Nat),a.eval x=.slice A n c->j<=c->(execOp a.eval ⟨dst,.slice U x none (some h) none,ty,pos,af,g⟩).run P w=.ok (.value (.slice A j.toNat c)) w:=by intro A c e a4;simp[execOp,Instr.sliceAt,Instr.slice,run_underlying a5,e,gY (ap hs (by simp[Op.operands]) hh),Instr.sliceBounds,Instr.sliceBound,asIntOf,hj.1,a4,b3,Addr.add];try (cases A<;>rfl)
   cases h1 with
   |s0 A c hc=>grind
   |s b off c sz _ _ cv h0 b5 a3 I hb a9 hc hr=>
    have b7:sz=m:=by rw[hl] at I;exact(GO h0 I).symm
    refine⟨_,R _ c hv (by omega),?_⟩;rcases je j.toNat with J|J;·rw[<-hu,J];simp;exact .s0 _ c a3
    .have a6:j.toNat<=n:=by omega
     have b4:j.toNat*sz<=n*sz:=nD _ a6;refine .s b off c sz j.toNat us cv J (by omega) a3 ?_ hb a9 (fun q hq=>hc q (by omega)) (fun q u hq=>?_);·grind
     .rw[<-hu,kS] at hq;split at hq;·grind
      .cases hq)
end
section
variable {P:Program}{eO:Array Oper}{o:Oper}{T:TF}{B:BF}{V:Nat->Prop}{β:Nat->Nat}{a:Act}{w w':World}{av:Nat->Prop}
theorem RU (h:RdCs V w vs us): ∀v∈vs,v.oneCell'=true:=by
 intro v J;obtain⟨j,I⟩:=CS J;have hlt:j<us.length:=by rw[<-h.1];exact(fM.1 I).1
 have:=h.2 j v _ I (gI hlt);generalize us[j]=u at this;cases this with
 |x v h1 D=>cases v<;>first|rfl|exact absurd rfl (h1 _)|exact absurd rfl (D _)
 |e v h1 D=>cases v<;>first|rfl|exact absurd rfl (h1 _)|exact absurd rfl (D _)
 |_=>rfl
theorem Lj {xs:List CellD}(h:RdC V w v (.s n xs)) (hl:xs.length=n*m):∃(A:Option Addr) (c:Nat) (vs:List Value),v=.slice A n c/\RdCs V w vs xs/\(∀(j:Nat) (u:Value),vs[j]? =some u-> ∃b off,A=some ⟨b,off,none⟩/\w.cell? ⟨b,off+j,none⟩=some u):=by
 generalize I:CellD.s n xs=u at h
 cases h with
 |s0 A c hc=>
  injection I with h1 J
  subst h1 J
  exact⟨A,c,[],rfl,qB,fun j u hj=>by simp at hj⟩
 |s b off c sz n' a3 cv h0 a4 a5 D hb a6 R hr=>
  injection I with h1 J
  subst h1 J
  refine⟨_,c,(List.range (n*sz)).map cv,rfl,⟨by simp[D],fun j v u hv I=>?_⟩,fun j u hj=>?_⟩
  .grind
  grind
 |_=>cases I
theorem uG {xs:List CellD}(hU:uV P U=some (e,m,by_,zs)) (h:RdC V w v (.s n xs)) (hl:xs.length=n*m): ∃er,Src P m U v n er w/\RdCs V w er xs:=by
 obtain⟨A,c,vs,rfl,R,hc⟩:=Lj h hl;obtain⟨hu,_⟩:=i5 hU;have I:vs.length=n*m:=by rw[R.1,hl]
 have D: ∀w',(∀a:Addr,w'.cell? a=w.cell? a)->(Builtin.firstCells m n (.slice A n c)).run P w'=.ok vs.toArray w':=by
  intro w' hw;cases A with
  |none=>
   have:vs=[]:=by
    cases vs with
    |nil=>rfl
    |cons u us=>obtain⟨b,off,e,_⟩:=hc 0 u rfl;cases e
   subst this;rfl
  |some A=>
   have:=run_loadCells_list (P:=P) w' A vs (fun j u hj=>by obtain⟨b,off,e,J⟩:=hc j u hj;injection e with e;subst e;rw[fI,hw];exact J)
   rw[I] at this;exact this
 exact⟨vs,⟨.inl ⟨e,hu⟩,fun _=>rfl,D w (fun _=>rfl),D w.drew (fun _=>rfl),I,RU R⟩,R⟩
theorem yL {x y:Operand}{c q:Nat}{ys:List CellD} (hU:uV P U=some (e,m,by_,zs)) (hx:cE T x=some (.o k n c)) (hy:cE T y=some (.v (.c (.s q ys)))) (hb:B k=some (e,cs)) (c5:cs.length=c*m) (c8:ys.length=q*m) (hm:0<m) (I:c<n+q) (b7:n<=c) (J:(n+q)*by_<=140737488355328) (d2:n+q<=maxLen) (b6:cs.take (n*m)++ys=us) (hg:gd eO ⟨dst,.call ⟨.builtin .append,#[x,y],#[U,U]⟩,ty,pos,af,g⟩ T=some true):Sem P eO ⟨dst,.call ⟨.builtin .append,#[x,y],#[U,U]⟩,ty,pos,af,g⟩ T B (.c k (.v (.c (.s (n+q) us)))):=by
 refine⟨rfl,by rw[hb];simp,fun V β a w hs=>⟨eK hs hg,?_⟩⟩
 have e1:a.eval x=.slice (some ⟨β k,0,none⟩) n c:=ap hs (by simp[Op.operands,Call.operands]) hx
 have h2:RdC V w (a.eval y) (.s q ys):=ap hs (by simp[Op.operands,Call.operands]) hy
 obtain⟨er,a4,c6⟩:=uG hU h2 c8
 obtain⟨hu,i,z,hi,hz,c7,c3,_,d5⟩:=i5 hU
 obtain⟨d3,vs,ev,hr⟩:=hs.box k e cs hb
 subst c7
 have d4:n*i.size<=cs.length:=by rw[c5];exact nD _ b7
 have b4:=hr.take (n*i.size)
 have a3:(vs.toList.take (n*i.size)).length=n*i.size:=by rw[b4.1,fF];omega
 have b3:(Builtin.firstCells i.size n (.slice (some ⟨β k,0,none⟩) n c)).run P w.drew=.ok (vs.toList.take (n*i.size)).toArray w.drew:=by
  have:=run_loadCells_list (P:=P) w.drew ⟨β k,0,none⟩ (vs.toList.take (n*i.size)) (fun j u hj=>by
   rw[fI,dN];show w.cell? _=_;rw[kS] at hj;split at hj;·rw[bR ev,<-hj];simp
   .cases hj)
  rw[a3] at this;exact this
 have a9:(execOp a.eval ⟨dst,.call ⟨.builtin .append,#[x,y],#[U,U]⟩,ty,pos,af,g⟩).run P w=.ok (.value (.slice (some ⟨w.heap.size,0,none⟩) (n+q) (grownCap w (n+q) c e)))
  (w.drew.alloc (.cells ((vs.toList.take (n*i.size)++er).toArray++Builtin.zeroCells z.cells (grownCap w (n+q) c e-(n+q))) e)):=by
  simp only[execOp,resolve,invoke,builtin,fh,dA,ft,qe,lQ,qv,e1]
  rw[run_append_grow_src (w:=w) U U ty e i z hu hi hz (some ⟨β k,0,none⟩) n c _ b3 (a.eval y) q er a4 I (by have:maxLen=9223372036854775807:=rfl;omega) (growslice_fits I (by rw[c3];exact J))]
  rfl
 unfold Gives
 rw[a9]
 have D:Below w.heap.size w (w.drew.alloc (.cells ((vs.toList.take (n*i.size)++er).toArray++Builtin.zeroCells z.cells (grownCap w (n+q) c e-(n+q))) e)):=(fe _ w).drew.alloc (bk _) _
 refine⟨?_,D⟩
 have a6:Keep V (fun b=>V b/\b≠β k) w (w.drew.alloc (.cells ((vs.toList.take (n*i.size)++er).toArray++Builtin.zeroCells z.cells (grownCap w (n+q) c e-(n+q))) e)):=⟨D.size,fun b hb _=>D.block b hb,fun _ _ h=>h.1⟩
 have R:=(kP b4 c6).keep a6
 rw[b6] at R
 have a5:(vs.toList.take (n*i.size)++er).length=(n+q)*i.size:=by rw[dB,a3,a4.newsLen,mS]
 refine .s w.heap.size 0 (grownCap w (n+q) c e) i.size (n+q) us (fun j=>(vs.toList.take (n*i.size)++er).getD j undef) (by omega) (grownCap_ge _ _ _ _) ?_ (by rw[<-R.1];exact a5) (by simp) (fun h=>by have:=hs.av _ h.1;omega) (fun j hj=>?_) (fun j u hj=>?_)
 .exact grownCap_le_maxLen _ _ _ _ d2
 .have hlt:j<(vs.toList.take (n*i.size)++er).length:=by omega
  rw[dN]
  show(w.drew.alloc _).cell? ⟨w.drew.heap.size,j,none⟩=_
  rw[bR (heap_alloc_new w.drew _)]
  grind
 .have hlt:j<(vs.toList.take (n*i.size)++er).length:=by rw[R.1];exact(fM.1 hj).1
  have hv:(vs.toList.take (n*i.size)++er)[j]? =some ((vs.toList.take (n*i.size)++er)[j]):=by grind
  simp only[List.getD,hv,Option.getD_some]
  exact R.2 j _ u hv hj
theorem kO {ps:Array (Nat×Operand)}{dps:List (Nat×D0)} (hU:uV P U=some (e,m,by_,zs)) (hp:tc T ps.toList=some dps) (hf:vu (fun i=>some (i*m,m)) (List.replicate n zs).flatten dps=some us) (hn:n*m<=16777216) (hm:0<n*m) (hg:gd eO ⟨dst,.buildSlice U n ps,ty,pos,af,g⟩ T=some true):Sem P eO ⟨dst,.buildSlice U n ps,ty,pos,af,g⟩ T B (.a e us (some n)):=fun V β a w hs=>⟨eK hs hg,by
 obtain⟨hu,i,z,hi,hz,a5,b3,a3,a4⟩:=i5 hU
 obtain⟨h1,h2⟩:=sZ hs ps.toList dps (fun p hp=>by simp only[Op.operands,List.mem_toArray,nZ];exact⟨p,hp,rfl⟩) hp
 subst a5
 have I:z.cells.size=i.size:=by have:=(a4 V w).1;rw[a3] at this;simpa using this
 have D:RdCs V w ((Array.range (n*i.size)).map (z.cells[· %z.cells.size]!)).toList (List.replicate n zs).flatten:=by
  have R: ∀(n:Nat),RdCs V w ((List.range (n*i.size)).map (fun j=>z.cells[j%z.cells.size]!)) (List.replicate n zs).flatten:=by
   intro n;induction n with
   |zero=>simp;exact qB
   |succ n ih=>
    rw[Nat.succ_mul,List.range_add,zO,List.replicate_succ',List.flatten_append];refine kP ih ?_;have e2:(List.map (fun x=>n*i.size+x) (List.range i.size)).map (fun j=>z.cells[j%z.cells.size]!)=z.cells.toList:=by apply Ai (by simp[I]);intro j h1 h2;simp at h1;simp only[List.getElem_map,Cu,I];rw[Nat.mul_comm n,Nat.mul_add_mod,Nat.mod_eq_of_lt (by omega),getElem!_pos z.cells j (by omega)];simp
    grind
  have:=R n;simpa using this
 obtain⟨cells,a6,a9⟩:=wN _ dps _ _ us h1 h2 D hf
 unfold Gives
 have:(execOp a.eval ⟨dst,.buildSlice U n ps,ty,pos,af,g⟩).run P w=.ok (.value (.slice (some ⟨w.heap.size,0,none⟩) n n)) (w.alloc (.cells cells e)):=by simp only[execOp,fh,run_buildSlice w U e n (ps.map fun(i,x)=>(i,a.eval x)) cells i z hu hi hz (by have:(2:Nat)^24=16777216:=rfl;omega) (by omega) (by simpa using a6),ft,dA]
 rw[this]
 exact⟨cells,rfl,rfl,a9⟩⟩
end
section
variable {P:Program}{σ:St}{Q:Exit->St->Prop}
theorem Rel.upd {a:Act}(h:Rel av w0 n T B β a w) {t:Nat}{x:DV}(hv:a.tmps[t]? =some v) (I:RdX (fun b=>av b\/ ∃k,B k≠none/\β k=b) w β v x) (R:jR x=none):Rel av w0 n (fun s=>if t=s then some x else T s) B β a w:=
 ⟨h.dfr,h.siz,h.bel,h.avl,h.avE,h.big,h.fix,h.inj,h.own,fun s y k hs D=>by
  try dsimp only at hs
  split at hs;·injection hs with hs;subst hs;rw[R] at D;cases D
  .exact h.wf s y k hs D,h.sees.av,h.sees.box,fun s y J hs=>by
  try dsimp only at hs
  split at hs;·rename_i e;injection hs with hs;subst hs;subst e;exact⟨v,hv,I⟩
  .exact h.sees.tmp s y J hs⟩
theorem mB {ι:Type}{x y:Code}(J:ι->St) (h1:Dw P x σ (Fl (fun σ'=> ∃j,Sub σ' (J j)) Q)) (D: ∀j,Dw P y (J j) Q):Dw P (.seq x y) σ Q:=by
 refine ab (h1.mono fun e σ' h=>?_);cases e with
 |normal=>obtain⟨j,hs⟩:=h;exact(D j).weak hs
 |_=>exact h
theorem Rel.release {a:Act}{t:Nat}(J:Rel av w0 N (St.T ⟨N,tm,bx⟩) (St.B ⟨N,tm,bx⟩) β a w) (ht:look t tm=some (.o k n' c')) (hb:look k bx=some (U,cs)) (hm:cs.length=c'*m) (hn:n'<=c') (hc:c'<=9223372036854775807) (hu:cs.take (n'*m)=us):Rel av w0 N (St.T ⟨N,(t,.v (.c (.s n' us)))::jQ k tm,jf k bx⟩) (St.B ⟨N,(t,.v (.c (.s n' us)))::jQ k tm,jf k bx⟩) β a w:=by
 obtain⟨v,hv,hx⟩:=J.sees.tmp t _ trivial ht
 have hx:v=.slice (some ⟨β k,0,none⟩) n' c':=hx
 subst hx
 obtain⟨a5,vs,ev,a3⟩:=J.sees.box k U cs hb
 have a6:(St.B ⟨N,tm,bx⟩) k≠none:=by rw[show(St.B ⟨N,tm,bx⟩) k=some (U,cs) from hb];simp
 have D:Keep (fun b=>av b\/ ∃l,(St.B ⟨N,tm,bx⟩) l≠none/\β l=b) (fun b=>(av b\/ ∃l,(St.B ⟨N,tm,bx⟩) l≠none/\β l=b)/\b≠β k) w w:=⟨Nat.le_refl _,fun _ _ _=>rfl,fun _ _ h=>h.1⟩
 have a9:n'*m<=cs.length:=by rw[hm];exact nD _ hn
 have I:RdC (fun b=>(av b\/ ∃l,(St.B ⟨N,tm,bx⟩) l≠none/\β l=b)/\b≠β k) w (.slice (some ⟨β k,0,none⟩) n' c') (.s n' us):=by
  rcases je n' with h0|h0
  .subst h0;rw[<-hu];simp;exact .s0 _ _ hc
  .have R:=(a3.take (n'*m)).keep D;rw[hu] at R;have b3:n'*m<=vs.size:=by have:=a3.1;simp at this;omega
   refine .s (β k) 0 c' m n' us (fun j=>vs.getD j undef) h0 hn hc ?_ (J.sees.av _ a5) (fun h=>h.2 rfl) (fun j hj=>?_) (fun j u hj=>?_);·grind
   .rw[dN,bR ev];have:j<vs.size:=by omega
    simp[Array.getD,this]
   .have hlt:j<us.length:=(fM.1 hj).1;have a4:j<n'*m:=by grind
    refine R.2 j _ u ?_ hj;rw[kS,if_pos a4,mW];have:j<vs.size:=by omega
    simp[Array.getD,this]
 refine ((J.drop k).upd (x:=.v (.c (.s n' us))) hv (by rw[Gx J a6];exact I) rfl).congr (fun s=>?_) (fun l=>?_)
 .show look s ((t,.v (.c (.s n' us)))::jQ k tm)=_
  rw[aW]
  split
  .rfl
  .rw[lv]
   show _=nN k (fun s=>look s tm) s
   unfold nN
   grind
 .exact j5 k l bx
theorem fa {t:Nat} (J:look t tm=some (.o k n' c')) (hb:look k bx=some (U,cs)) (hm:cs.length=c'*m) (R:n'<=c') (hc:c'<=9223372036854775807) (D:cs.take (n'*m)=us) (h:Dw P c ⟨N,(t,.v (.c (.s n' us)))::jQ k tm,jf k bx⟩ Q):Dw P c ⟨N,tm,bx⟩ Q:=fun av w0 β a w I=>h av w0 β a w (I.release J hb hm R hc D)
end
section
variable {P:Program}{eO:Array Oper}{T:TF}{B:BF}{dst:Option Nat}{x y c:Operand}{ty U W xt yt:TypeId}{pos:String}{af:Array Edge}{g:Option (Nat×Bool)}{dv:DV}{k off n m:Nat}{cs us:List CellD}{u:CellD}
theorem aY (h:(cE T x,gd eO ⟨dst,.move x,ty,pos,af,g⟩ T)=(some dv,some true)):Sem P eO ⟨dst,.move x,ty,pos,af,g⟩ T B (.r dv):=Jn (congrArg Prod.fst h) (congrArg Prod.snd h)
theorem bg (hU:mT P U=some (false,n)) (h:(cE T x,B k,cs[off]?,gd eO ⟨dst,.load U x,ty,pos,af,g⟩ T)=(some (.p k off),some (W,cs),some u,some true)):Sem P eO ⟨dst,.load U x,ty,pos,af,g⟩ T B (.r (.v (.c u))):=
 cT hU (congrArg Prod.fst h) (congrArg (fun q=>q.2.1) h) (congrArg (fun q=>q.2.2.1) h) (congrArg (fun q=>q.2.2.2) h)
theorem jj (us:List CellD) (hU:mT P U=some (true,n)) (h:(cE T x,B k,(cs.drop off).take n,us.length,gd eO ⟨dst,.load U x,ty,pos,af,g⟩ T)=(some (.p k off),some (W,cs),us,n,some true)):Sem P eO ⟨dst,.load U x,ty,pos,af,g⟩ T B (.r (.v (.a us))):=
 aR hU (congrArg Prod.fst h) (congrArg (fun q=>q.2.1) h) (congrArg (fun q=>q.2.2.1) h) (congrArg (fun q=>q.2.2.2.1) h) (congrArg (fun q=>q.2.2.2.2) h)
theorem df (us:List CellD) (hU:mT P U=some (true,n)) (h:(cE T x,B k,us.length,gd eO ⟨dst,.load U x,ty,pos,af,g⟩ T)=(some (.p k off),some (W,cs),n,some true)) (D:(cs.drop off).take n=us):Sem P eO ⟨dst,.load U x,ty,pos,af,g⟩ T B (.r (.v (.a us))):=
 aR hU (congrArg Prod.fst h) (congrArg (fun q=>q.2.1) h) D (congrArg (fun q=>q.2.2.1) h) (congrArg (fun q=>q.2.2.2) h)
theorem lW (hU:mT P U=some (true,n)) (h:(cE T x,B k,cs.length,gd eO ⟨dst,.load U x,ty,pos,af,g⟩ T)=(some (.p k 0),some (W,cs),n,some true)):Sem P eO ⟨dst,.load U x,ty,pos,af,g⟩ T B (.r (.v (.a cs))):=
 aR hU (congrArg Prod.fst h) (congrArg (fun q=>q.2.1) h) (by rw[mU];exact dS (kE (congrArg (fun q=>q.2.2.1) h))) (congrArg (fun q=>q.2.2.1) h) (congrArg (fun q=>q.2.2.2) h)
theorem eY (D:us.length=n) (hU:mT P U=some (true,n)) (h:(cE T x,B k,gd eO ⟨dst,.load U x,ty,pos,af,g⟩ T)=(some (.p k 0),some (W,us),some true)):Sem P eO ⟨dst,.load U x,ty,pos,af,g⟩ T B (.r (.v (.a us))):=
 aR hU (congrArg Prod.fst h) (congrArg (fun q=>q.2.1) h) (by rw[mU];exact dS (kE D)) D (congrArg (fun q=>q.2.2) h)
theorem ca {a e:Int}(r:Int) (D:Ct op kk a e=some r) (h:(cE T x,cE T y,gd eO ⟨dst,.binOp op xt x y yt,ty,pos,af,g⟩ T)=(some (.v (.c (.i kk a))),some (.v (.c (.i kk e))),some true)):Sem P eO ⟨dst,.binOp op xt x y yt,ty,pos,af,g⟩ T B (.r (.v (.c (.i kk r)))):=
 tO (congrArg Prod.fst h) (congrArg (fun q=>q.2.1) h) D (congrArg (fun q=>q.2.2) h)
theorem sx {a e:Int}(h:(cE T x,cE T y,Y3 op a e,gd eO ⟨dst,.binOp op xt x y yt,ty,pos,af,g⟩ T)=(some (.v (.c (.i kk a))),some (.v (.c (.i kk e))),some b,some true)):Sem P eO ⟨dst,.binOp op xt x y yt,ty,pos,af,g⟩ T B (.r (.v (.c (.b b)))):=Mu (congrArg Prod.fst h) (congrArg (fun q=>q.2.1) h) (congrArg (fun q=>q.2.2.1) h) (congrArg (fun q=>q.2.2.2) h)
theorem ff (hU:mT P U=some (true,m)) (h:(cE T ax,cE T x,B k,us.length,cs.length,gd eO ⟨none,.store U ax x,ty,pos,af,g⟩ T)=(some (.p k 0),some (.v (.a us)),some (W,cs),m,m,some true)):Sem P eO ⟨none,.store U ax x,ty,pos,af,g⟩ T B (.s k W us):=ce hU (congrArg Prod.fst h) (congrArg (fun q=>q.2.1) h) (congrArg (fun q=>q.2.2.1) h) (congrArg (fun q=>q.2.2.2.1) h) (congrArg (fun q=>q.2.2.2.2.1) h) (congrArg (fun q=>q.2.2.2.2.2) h)
theorem iW {args:Array Operand}{at_:Array TypeId}{rs:List D0}(h:(cE T fo,pE T args.toList,gd eO ⟨dst,.call ⟨.value fo,args,at_⟩,ty,pos,af,g⟩ T)=(some (.v (.c (.f f))),some ds,some true)) (hok:Ok P f ds rs):Sem P eO ⟨dst,.call ⟨.value fo,args,at_⟩,ty,pos,af,g⟩ T B (.r (wL rs)):=Ry (congrArg Prod.fst h) (congrArg (fun q=>q.2.1) h) hok (congrArg (fun q=>q.2.2) h)
end
section
variable {P:Program}{σ:St}{Q:Exit->St->Prop}{n t:Nat}{tm:List (Nat×DV)}{bx:List (Nat×TypeId×List CellD)}{rt:List ResultVar}{ds rs:List D0}
theorem bN (h:dl P l.toArray l σ (Q .normal)) (D:PN l.toArray σ.n=true:=by kernel_rfl):Dw P (.region id l.toArray false) σ Q:=An D h
theorem Ok.fn {fn:Func}(R:P.funcs[f]? =some fn) (n:Nat) (rt:List ResultVar) (hb:fn.body=some c) (h:Dw P c ⟨n,mG 0 ds,[]⟩ fun e σ=>(e=.normal\/e=.ret)/\p6 P σ rt=some rs) (I:dk P f=true:=by kernel_rfl) (D:Nat.ble ds.length fn.ntmps=true:=by rfl) (hn:fn.ntmps=n:=by rfl) (J:fn.results.toList=rt:=by rfl):Ok P f ds rs:=by
 subst hn J
 exact Ok.of I R hb D h
theorem ae (h:p6 P σ rt=some rs):(Exit.ret=.normal\/Exit.ret=.ret)/\p6 P σ rt=some rs:=⟨.inr rfl,h⟩
theorem Qd (h:p6 P σ rt=some rs):(Exit.normal=.normal\/Exit.normal=.ret)/\p6 P σ rt=some rs:=⟨.inl rfl,h⟩
theorem aj (D:p6 P ⟨n,tm,bx⟩ rt=some ds) (h:look t tm=some (.v d):=by rfl):p6 P ⟨n,tm,bx⟩ (.tmp t::rt)=some (d::ds):=Tj h D
theorem aN (hU:mT P U=some (true,m)) (h:(look t tm,look k bx,(cs.drop off).take m,us.length)=(some (.p k off),some (W,cs),us,m)) (D:p6 P ⟨n,tm,bx⟩ rt=some ds):p6 P ⟨n,tm,bx⟩ (.cell t U::rt)=some (.a us::ds):=fX hU (congrArg Prod.fst h) (congrArg (fun q=>q.2.1) h) (congrArg (fun q=>q.2.2.1) h) (congrArg (fun q=>q.2.2.2) h) D
end
structure Tb where
 ty:Nat->Option (Bool×Nat)
 fd:Nat->Nat->Option Nat
 sl:Nat->Option Nat
structure TbOk (P:Program) (b:Tb):Prop where
 ty: ∀U r,b.ty U=some r->mT P U=some r
 fd: ∀U f r,b.fd U f=some r->VA P U f=some r
 sl: ∀U r,b.sl U=some r->pT P U=some r
inductive SA where
 |sk
 |v (x:DV)
 |bx (U:TypeId) (cs:List CellD)
 |st (k:Nat) (U:TypeId) (cs:List CellD)
def SA.eff:SA->Eff
 | .sk=>.skip
 | .v x=>.r x
 | .bx U cs=>.a U cs none
 | .st k U cs=>.s k U cs
def NB (b:Tb) (T:TF) (B:BF):Op->Option SA
 | .move x=>match cE T x with
   |some dv=>some (.v dv)
   |none=>none
 | .assign x=>match cE T x with
   |some dv=>some (.v dv)
   |none=>none
 | .extract x i=>match cE T x with
   |some (.t ds)=>match ds[i]? with
    |some d=>some (.v (.v d))
    |none=>none
   |_=>none
 | .binOp op _ x y _=>match cE T x,cE T y with
   |some (.v (.c (.i k1 a))),some (.v (.c (.i k2 e)))=>match decEq k1 k2 with
    | .isTrue _=>match Y3 op a e with
      |some r=>some (.v (.v (.c (.b r))))
      |none=>none
    | .isFalse _=>none
   |_,_=>none
 | .pick c x y=>match cE T c with
   |some (.v (.c (.b true)))=>match cE T x with
    |some dv=>match jR dv with
     |none=>some (.v dv)
     |some _=>none
    |none=>none
   |some (.v (.c (.b false)))=>match cE T y with
    |some dv=>match jR dv with
     |none=>some (.v dv)
     |some _=>none
    |none=>none
   |_=>none
 | .unOp .not _xt x=>match cE T x with
   |some (.v (.c (.b r)))=>some (.v (.v (.c (.b (!r)))))
   |_=>none
 | .box U x=>match cE T x with
   |some (.v (.a us))=>some (.bx U us)
   |some (.v (.c u))=>some (.bx U [u])
   |_=>none
 | .fieldAddr U x f=>match cE T x,b.fd U f with
   |some (.p k off),some o'=>some (.v (.p k (off+o')))
   |_,_=>none
 | .load U x=>match cE T x with
   |some (.p k off)=>match B k,b.ty U with
    |some (_,cs),some (true,n)=>bif Nat.beq off 0&&Nat.beq cs.length n then some (.v (.v (.a cs))) else none
    |some (_,cs),some (false,_)=>match cs[off]? with
     |some u=>some (.v (.v (.c u)))
     |none=>none
    |_,_=>none
   |_=>none
 | .store U ax x=>match cE T ax,cE T x,b.ty U with
   |some (.p k off),some (.v (.a us)),some (true,m)=>match B k with
    |some (W,cs)=>bif Nat.beq off 0&&Nat.beq us.length m&&Nat.beq cs.length m then some (.st k W us) else none
    |none=>none
   |_,_,_=>none
 | .call ⟨.builtin .len,⟨[x]⟩,⟨[U]⟩⟩=>match cE T x,b.sl U with
   |some (.v (.c (.s n _))),some _=>some (.v (.v (.c (.i .i64 n))))
   |_,_=>none
 |_=>none
def EF (b:Tb) (eO:Array Oper) (T:TF) (B:BF) (o:Oper):Option SA:=
 match gd eO o T with
 |some true=>NB b T B o.op
 |some false=>some .sk
 |none=>none
section
variable {P:Program}{b:Tb}{eO:Array Oper}{T:TF}{B:BF}
theorem JQ (hb:TbOk P b) {op:Op}{s:SA}(I:gd eO ⟨dst,op,ty,pos,af,g⟩ T=some true) (h:NB b T B op=some s) (hd: ∀k U cs,s=.st k U cs->dst=none):Sem P eO ⟨dst,op,ty,pos,af,g⟩ T B s.eff:=by
 unfold NB at h
 split at h
 .split at h
  .rename_i e;cases h;exact Jn e I
  .cases h
 .split at h
  .rename_i e;cases h;exact KS e I
  .cases h
 .split at h
  .rename_i e
   split at h
   .rename_i D;cases h;exact Iq e D I
   .cases h
  .cases h
 .split at h
  .rename_i e1 D
   split at h
   .rename_i hk _
    subst hk
    split at h
    .rename_i J;cases h;exact Mu e1 D J I
    .cases h
   grind
  grind
 .split at h
  .rename_i e
   split at h
   .rename_i D
    split at h
    .rename_i J;cases h;exact Kj e D J I
    grind
   grind
  .rename_i e
   split at h
   .rename_i D
    split at h
    .rename_i J;cases h;exact Kj e D J I
    grind
   grind
  grind
 .split at h
  .rename_i e;cases h;exact X7 e I
  grind
 .split at h
  .rename_i e;cases h;exact OR e I
  .rename_i e;cases h;exact O0 e I
  grind
 .split at h
  .rename_i e1 D;cases h;exact PR (hb.fd _ _ _ D) e1 I
  grind
 .split at h
  .rename_i e
   split at h
   .rename_i e1 D
    rw[tZ] at h
    split at h
    .rename_i R
     cases h
     rw[di] at R
     have h0:=dF R.1
     have hl:=dF R.2
     subst h0
     exact aR (hb.ty _ _ D) e e1 (by rw[mU];exact dS (kE hl)) hl I
    grind
   .rename_i e1 D
    split at h
    .rename_i J;cases h;exact cT (hb.ty _ _ D) e e1 J I
    grind
   grind
  grind
 .split at h
  .rename_i e1 D J
   split at h
   .rename_i e4
    rw[tZ] at h
    split at h
    .rename_i R
     cases h
     rw[di,di] at R
     have h0:=dF R.1.1
     subst h0
     have:=hd _ _ _ rfl
     subst this
     exact ce (hb.ty _ _ J) e1 D e4 (dF R.1.2) (dF R.2) I
    grind
   grind
  grind
 .split at h
  .rename_i e1 D;cases h;exact V8 (hb.sl _ _ D) e1 I
  grind
 grind
theorem iA (I:TbOk P b) {op:Op}{s:SA}(h:EF b eO T B ⟨dst,op,ty,pos,af,g⟩=some s) (D: ∀k U cs,s=.st k U cs->dst=none):Sem P eO ⟨dst,op,ty,pos,af,g⟩ T B s.eff:=by
 unfold EF at h
 split at h
 .rename_i e;exact JQ I e h D
 .rename_i e;cases h;exact mu e
 grind
end
section
variable (P:Program) (b:Tb) (eO:Array Oper) (K:St->Prop) (n:Nat)
def stp:Nat->List Oper->List (Nat×DV)->List (Nat×TypeId×List CellD)->Prop
 |0,os,tm,bx=>dl P eO os ⟨n,tm,bx⟩ K
 |_+1,[],_,_=>False
 |k+1,o::os,tm,bx=>match o.dst,EF b eO (fun s=>look s tm) (fun l=>look l bx) o with
  |some t,some .sk=>stp k os ((t,.u)::tm) bx
  |some t,some (.v x)=>stp k os ((t,x)::tm) bx
  |some t,some (.bx U cs)=>match look t bx with
   |none=>stp k os ((t,.p t 0)::tm) ((t,U,cs)::bx)
   |some _=>False
  |none,some (.st j U cs)=>stp k os tm ((j,U,cs)::bx)
  |_,_=>False
variable {P b eO K n}
theorem U3 (D:TbOk P b): ∀ {k:Nat}{os:List Oper}{tm:List (Nat×DV)}{bx:List (Nat×TypeId×List CellD)},stp P b eO K n k os tm bx->dl P eO os ⟨n,tm,bx⟩ K
 |0,os,tm,bx,h=>h
 |k+1,[],tm,bx,h=>h.elim
 |k+1,⟨dst,op,ty,pos,af,g⟩::os,tm,bx,h=>by
  unfold stp at h;split at h
  .rename_i t e1 I;cases e1;exact vX (iA D I (fun _ _ _ e=>by cases e)) (U3 D h)
  .rename_i t x e1 I;cases e1;exact bj (iA D I (fun _ _ _ e=>by cases e)) (U3 D h)
  .rename_i t U cs e1 I;cases e1;split at h;·rename_i J;exact ro (iA D I (fun _ _ _ e=>by cases e)) J (U3 D h)
   .exact h.elim
  .rename_i j U cs e1 I;cases e1;exact gS (iA D I (fun _ _ _ _=>rfl)) (U3 D h)
  .exact h.elim
end
section
variable (P:Program) (b:Tb) (eO:Array Oper) (K:St->Prop) (n:Nat)
def ste:List Oper->List (Nat×DV)->List (Nat×TypeId×List CellD)->Prop
 |[],tm,bx=>K ⟨n,tm,bx⟩
 |o::os,tm,bx=>match o.dst,EF b eO (fun s=>look s tm) (fun l=>look l bx) o with
  |some t,some .sk=>ste os ((t,.u)::tm) bx
  |some t,some (.v x)=>ste os ((t,x)::tm) bx
  |some t,some (.bx U cs)=>match look t bx with
   |none=>ste os ((t,.p t 0)::tm) ((t,U,cs)::bx)
   |some _=>False
  |none,some (.st j U cs)=>ste os tm ((j,U,cs)::bx)
  |_,_=>False
variable {P b eO K n}
theorem IJ (D:TbOk P b): ∀ {os:List Oper}{tm:List (Nat×DV)}{bx:List (Nat×TypeId×List CellD)},ste b eO K n os tm bx->dl P eO os ⟨n,tm,bx⟩ K
 |[],tm,bx,h=>h
 |⟨dst,op,ty,pos,af,g⟩::os,tm,bx,h=>by
  unfold ste at h;split at h
  .rename_i t e1 I;cases e1;exact vX (iA D I (fun _ _ _ e=>by cases e)) (IJ D h)
  .rename_i t x e1 I;cases e1;exact bj (iA D I (fun _ _ _ e=>by cases e)) (IJ D h)
  .rename_i t U cs e1 I;cases e1;split at h;·rename_i J;exact ro (iA D I (fun _ _ _ e=>by cases e)) J (IJ D h)
   .exact h.elim
  .rename_i j U cs e1 I;cases e1;exact gS (iA D I (fun _ _ _ _=>rfl)) (IJ D h)
  .exact h.elim
end
section
variable (P:Program) (b:Tb) (eO:Array Oper) (hs:List Nat) (K:Sq->Prop) (n:Nat)
def stq:Nat->List Oper->List (Nat×DV)->List (Nat×TypeId×List CellD)->List (Nat×TypeId×List CellD)->List Nat->Prop
 |0,os,tm,bx,nb,sd=>dq P eO hs os ⟨⟨n,tm,bx⟩,nb,sd⟩ K
 |_+1,[],_,_,_,_=>False
 |k+1,o::os,tm,bx,nb,sd=>match o.dst,EF b eO (fun s=>look s tm) (hid hs (fun l=>look l bx)) o with
  |some t,some .sk=>stq k os ((t,.u)::tm) bx nb sd
  |some t,some (.v x)=>stq k os ((t,x)::tm) bx nb sd
  |some t,some (.bx U cs)=>match look t (nb++bx) with
   |none=>stq k os ((t,.p t 0)::tm) bx ((t,U,cs)::nb) sd
   |some _=>False
  |_,_=>False
variable {P b eO hs K n}
theorem W6 (D:TbOk P b): ∀ {k:Nat}{os:List Oper}{tm:List (Nat×DV)}{bx nb:List (Nat×TypeId×List CellD)}{sd:List Nat},stq P b eO hs K n k os tm bx nb sd->dq P eO hs os ⟨⟨n,tm,bx⟩,nb,sd⟩ K
 |0,os,tm,bx,nb,sd,h=>h
 |k+1,[],tm,bx,nb,sd,h=>h.elim
 |k+1,⟨dst,op,ty,pos,af,g⟩::os,tm,bx,nb,sd,h=>by
  unfold stq at h;split at h
  .rename_i t e1 I;cases e1;exact sM (iA D I (fun _ _ _ e=>by cases e)) (W6 D h)
  .rename_i t x e1 I;cases e1;exact bp (iA D I (fun _ _ _ e=>by cases e)) (W6 D h)
  .rename_i t U cs e1 I;cases e1;split at h;·rename_i J;exact K3 (iA D I (fun _ _ _ e=>by cases e)) J (W6 D h)
   .exact h.elim
  .exact h.elim
end
section
variable (P:Program) (b:Tb) (eO:Array Oper) (hs:List Nat) (K:Sq->Prop) (n:Nat)
def sqe:List Oper->List (Nat×DV)->List (Nat×TypeId×List CellD)->List (Nat×TypeId×List CellD)->List Nat->Prop
 |[],tm,bx,nb,sd=>K ⟨⟨n,tm,bx⟩,nb,sd⟩
 |o::os,tm,bx,nb,sd=>match o.dst,EF b eO (fun s=>look s tm) (hid hs (fun l=>look l bx)) o with
  |some t,some .sk=>sqe os ((t,.u)::tm) bx nb sd
  |some t,some (.v x)=>sqe os ((t,x)::tm) bx nb sd
  |some t,some (.bx U cs)=>match look t (nb++bx) with
   |none=>sqe os ((t,.p t 0)::tm) bx ((t,U,cs)::nb) sd
   |some _=>False
  |_,_=>False
variable {P b eO hs K n}
theorem M1 (D:TbOk P b): ∀ {os:List Oper}{tm:List (Nat×DV)}{bx nb:List (Nat×TypeId×List CellD)}{sd:List Nat},sqe b eO hs K n os tm bx nb sd->dq P eO hs os ⟨⟨n,tm,bx⟩,nb,sd⟩ K
 |[],tm,bx,nb,sd,h=>h
 |⟨dst,op,ty,pos,af,g⟩::os,tm,bx,nb,sd,h=>by
  unfold sqe at h;split at h
  .rename_i t e1 I;cases e1;exact sM (iA D I (fun _ _ _ e=>by cases e)) (M1 D h)
  .rename_i t x e1 I;cases e1;exact bp (iA D I (fun _ _ _ e=>by cases e)) (M1 D h)
  .rename_i t U cs e1 I;cases e1;split at h;·rename_i J;exact K3 (iA D I (fun _ _ _ e=>by cases e)) J (M1 D h)
   .exact h.elim
  .exact h.elim
end
theorem S5 {f:Nat->Bool}(h:(List.range N).all f=true): ∀U,U<N->f U=true:=by grind
theorem TbOk.of {P:Program}{t:Nat->Option (Bool×Nat)}{f:Nat->Nat->Option Nat}{s:Nat->Option Nat} (h1:((List.range N).all fun U=>match t U with|none=>true|some r=>decide (mT P U=some r))=true) (I:((List.range N).all fun U=>(List.range 16).all fun i=>match f U i with|none=>true|some r=>decide (VA P U i=some r))=true) (J:((List.range N).all fun U=>match s U with|none=>true|some r=>decide (pT P U=some r))=true):TbOk P ⟨fun U=>bif Nat.blt U N then t U else none,fun U i=>bif Nat.blt U N&&Nat.blt i 16 then f U i else none,fun U=>bif Nat.blt U N then s U else none⟩:=by
 have hlt: ∀ {a c:Nat},Nat.blt a c=true->a<c:=fun h=>fU h
 refine⟨fun U r h=>?_,fun U i r h=>?_,fun U r h=>?_⟩
 .grind
 .dsimp only at h
  rw[tZ] at h
  split at h
  .rename_i D
   rw[di] at D
   have:=S5 (S5 I U (hlt D.1)) i (hlt D.2)
   grind
  grind
 grind
end Go.Proofs.YtegeknjkgadehaaGreat
