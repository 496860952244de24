/-Data:code;a function's contract from its body. -/
import Derived.Test.YtegpmhlfjkhjmaaGreatTaD
import Derived.Laws.MakeOwn
import Derived.Deep.AppendSrc
import Derived.Great.BuildSlice
import Derived.Test.YtegpmhlfjkhjmaaGreatRows
import Derived.Deep.Slices
import Derived.ProofKit
import Derived.OpenShut
import Derived.Carry
namespace Go.Proofs.YtegpmhlfjkhjmaaGreat
open Go Go.RowKit
variable {B:BF}{b q:Bool}{u z:CellD}{c:Code}{d:D0}{w0:Ent}{Q:Exit→St→Prop}{j x y:Int}{kc ki kl:IntKind}{tm tm':List (Nat×DV)}{bx bx':List (Nat×TypeId×List CellD)}{cs us zs:List CellD}{ds:List D0}{xs:List Int}{rs:List ResultVar}{vs:List Value}{N by_ c' id k l m n n' t:Nat}{a:Nat×TypeId×List CellD}{β:Nat→Nat}{av:Nat→Prop}{ax h i:Operand}{A:Option Addr}{σ':St}{T:TF}{U W e t1 t2 xt yt:TypeId}{v:Value}{w:World}
variable {ty:TypeId}{pos:String}{af:Array Edge}{g:Option (Nat×Bool)}{dst:Option Nat}
theorem fO:type_of% @RdC.int_eq:=@RdC.int_eq
theorem pS:type_of% @Int.natAbs_mul:=@Int.natAbs_mul
theorem vZ:type_of% @RdC.bool_eq:=@RdC.bool_eq
theorem ru:type_of% @List.map_cons:=@List.map_cons
theorem sN:type_of% @Nat.mod_eq_of_lt:=@Nat.mod_eq_of_lt
theorem qe:type_of% @Nat.le_of_eq:=@Nat.le_of_eq
theorem rI:type_of% @Nat.mul_le_mul_right:=@Nat.mul_le_mul_right
theorem rV:type_of% @List.map_append:=@List.map_append
theorem r6:type_of% @DataW.trod_int:=@DataW.trod_int
theorem uO:type_of% @Code.wp_mono:=@Code.wp_mono
theorem uw:type_of% @List.map_toArray:=@List.map_toArray
theorem uk:type_of% @List.map_nil:=@List.map_nil
theorem tY:type_of% @Nat.add_mul:=@Nat.add_mul
theorem vr:type_of% @Tryz.underlying2:=@Tryz.underlying2
theorem yH:type_of% @Array.toList_map:=@Array.toList_map
def Dw (P:Program) (c:Code) (σ:St) (Q:Exit→St→Prop):Prop:= ∀av w0 β a w,Rel av w0 σ.n σ.T σ.B β a w→
 c.wp P (fun e a' w'=> ∃σ' β',σ'.n=σ.n∧Q e σ'∧Rel av w0 σ'.n σ'.T σ'.B β' a' w') a w
def Fh (K:St→Prop) (Q:Exit→St→Prop):Exit→St→Prop
 | .normal,σ=>K σ
 |e,σ=>Q e σ
def Sk (id:Nat) (Q:Exit→St→Prop):Exit→St→Prop
 | .exit id',σ=>bif Nat.beq id' id then Q .normal σ else Q (.exit id') σ
 |e,σ=>Q e σ
section
variable {P:Program}{σ:St}{Q Q':Exit→St→Prop}
theorem Dw.mono (h:Dw P c σ Q) (hq: ∀e σ',Q e σ'→Q' e σ'):Dw P c σ Q':=fun av w0 β a w hr=>
 uO (fun _ _ _ ⟨σ',β',h1,h2,h3⟩=>⟨σ',β',h1,hq _ _ h2,h3⟩) (h av w0 β a w hr)
theorem aA (h:Q .normal σ):Dw P .skip σ Q:=fun _ _ β _ _ hr=>wp_skip ⟨σ,β,rfl,h,hr⟩
theorem ba (h:Q .ret σ):Dw P .ret σ Q:=fun _ _ β _ _ hr=>wp_ret ⟨σ,β,rfl,h,hr⟩
theorem bV (h:Q (.exit id) σ):Dw P (.exit id) σ Q:=fun _ _ β _ _ hr=>wp_exit ⟨σ,β,rfl,h,hr⟩
theorem ae {x y:Code}(h:Dw P x σ (Fh (fun σ'=>Dw P y σ' Q) Q)):Dw P (.seq x y) σ Q:=fun av w0 β a w hr=>by
 refine wp_seq (uO ?_ (h av w0 β a w hr))
 rintro e a' w' ⟨σ',β',h1,h2,h3⟩
 cases e with
 |normal=>exact uO (fun _ _ _ ⟨σ'',β'',g1,g2,g3⟩=>⟨σ'',β'',g1.trans h1,g2,g3⟩) (h2 av w0 β' a' w' h3)
 |_=>exact⟨σ',β',h1,h2,h3⟩
theorem aP {t:Tmp}{x y:Code}(hb:aQ t σ.tm=some (.v (.c (.b b)))) (ht:b=true→Dw P x σ Q) (hf:b=false→Dw P y σ Q):Dw P (.cond (.tmp t) x y) σ Q:=fun av w0 β a w hr=>by
 obtain⟨v,e,hx⟩:=hr.sees.tmp t _ trivial hb
 have hv:=vZ hx
 subst hv
 have he:a.eval (.tmp t)=.bool b:=by
  obtain⟨hlt,e⟩:=uS.1 e
  show a.tmps.getD t undef=_
  simp[Array.getD,hlt,e]
 exact wp_cond_split he (fun h=>ht h av w0 β a w hr) (fun h=>hf h av w0 β a w hr)
theorem aG (h:Dw P c σ (Sk id Q)):Dw P (.block id c) σ Q:=fun av w0 β a w hr=>by
 refine wp_block (uO ?_ (h av w0 β a w hr))
 rintro e a' w' ⟨σ',β',h1,h2,h3⟩
 cases e with
 |exit id'=>
  show(if id'=id then _ else _)
  have h2:(bif Nat.beq id' id then Q .normal σ' else Q (.exit id') σ'):=h2
  cases hb:Nat.beq id' id with
  |true=>rw[hb] at h2;rw[if_pos (jv hb)];exact⟨σ',β',h1,h2,h3⟩
  |false=>rw[hb] at h2;rw[if_neg (fun e=>by subst e;rw[Nat.beq_refl] at hb;cases hb)];exact⟨σ',β',h1,h2,h3⟩
 |_=>exact⟨σ',β',h1,h2,h3⟩
structure Sub (σ σ':St):Prop where
 n:σ'.n=σ.n
 tm: ∀t x,aQ t σ'.tm=some x→aQ t σ.tm=some x
 bx: ∀k c,aQ k σ'.bx=some c→aQ k σ.bx=some c
 wf: ∀t x k,aQ t σ'.tm=some x→mN x=some k→aQ k σ'.bx≠none
theorem Rel.sub {a:Act}{σ:St}(h:Rel av w0 σ.n σ.T σ.B β a w) (hs:Sub σ σ'):Rel av w0 σ'.n σ'.T σ'.B β a w:=by
 have hB: ∀k,σ'.B k≠none→σ.B k≠none:=by
  intro k hk
  cases hc:σ'.B k with
  |none=>exact absurd hc hk
  |some c=>rw[show σ.B k=some c from hs.bx k c hc];simp
 have hkeep:Keep (fun b=>av b∨ ∃k,σ.B k≠none∧β k=b) (fun b=>av b∨ ∃k,σ'.B k≠none∧β k=b) w w:=
  ⟨Nat.le_refl _,fun _ _ _=>rfl,fun b _ hb=>hb.imp id fun⟨k,h1,h2⟩=>⟨k,hB k h1,h2⟩⟩
 refine⟨h.dfr,by rw[hs.n];exact h.siz,h.bel,h.avl,h.avE,by rw[hs.n];exact h.big,fun b hb hK=>h.fix b hb (hB _ hK),fun k l hk hl=>h.inj k l (hB k hk) (hB l hl),fun k hk=>h.own k (hB k hk),hs.wf,?_,?_,?_⟩
 ·rintro b (hb|⟨k,hk,hb⟩)
  ·exact h.sees.av b (.inl hb)
  ·exact h.sees.av b (.inr ⟨k,hB k hk,hb⟩)
 ·intro k U cs hk
  obtain⟨_,vs,e,hr⟩:=h.sees.box k U cs (hs.bx k _ hk)
  exact⟨.inr ⟨k,by rw[show σ'.B k=some (U,cs) from hk];simp,rfl⟩,vs,e,hr.keep hkeep⟩
 ·intro t x hl hx
  obtain⟨v,e,hr⟩:=h.sees.tmp t x hl (hs.tm t x hx)
  exact⟨v,e,hr.keep hkeep⟩
theorem Dw.weak (hs:Sub σ σ') (h:Dw P c σ' Q):Dw P c σ Q:=fun av w0 β a w hr=>
 uO (fun _ _ _ ⟨σ'',β',h1,h2,h3⟩=>⟨σ'',β',h1.trans hs.n,h2,h3⟩) (h av w0 β a w (hr.sub hs))
def zV {α:Type}:List (Nat×α)→List (Nat×α)→Prop
 |[],_=>True
 |(t,x)::r,l=>aQ t l=some x∧zV r l
def Qd (bx:List (Nat×TypeId×List CellD)):List (Nat×DV)→Bool
 |[]=>true
 |(_,.p k _)::r=>(aQ k bx).isSome&&Qd bx r
 |(_,.o k _ _)::r=>(aQ k bx).isSome&&Qd bx r
 |(_,.w k _ _ _)::r=>(aQ k bx).isSome&&Qd bx r
 |(_,.tn k _ _ _)::r=>(aQ k bx).isSome&&Qd bx r
 |(_,.oe k _ _ _)::r=>(aQ k bx).isSome&&Qd bx r
 |_::r=>Qd bx r
theorem uy {α:Type}: ∀(r l:List (Nat×α)),zV r l→ ∀t x,aQ t r=some x→aQ t l=some x
 |[],_,_,_,_,h=>by cases h
 |(k,y)::r,l,ha,t,x,h=>by
  rw[b7] at h
  split at h
  ·rename_i e;subst e;rw[←h];exact ha.1
  ·exact uy r l ha.2 t x h
theorem IB {bx:List (Nat×TypeId×List CellD)}: ∀(r:List (Nat×DV)),Qd bx r=true→ ∀t x k,aQ t r=some x→mN x=some k→aQ k bx≠none
 |[],_,_,_,_,h,_=>by cases h
 |(t',y)::r,hw,t,x,k,h,hx=>by
  rw[b7] at h
  have hr:Qd bx r=true:=by
   cases y<;>simp[Qd] at hw<;>first|exact hw|exact hw.2
  split at h
  ·injection h with h
   subst h
   intro e
   cases y<;>simp[mN] at hx<;>(subst hx;simp[Qd,e] at hw)
  ·exact IB r hr t x k h hx
theorem bo {β:Type}{r:List (Nat×β)}: ∀ {a:List (Nat×β)},a.map (fun x=>aQ x.1 r)=a.map (fun x=>some x.2)→zV a r
 |[],_=>trivial
 |_::_,h=>⟨(List.cons.inj h).1,bo (List.cons.inj h).2⟩
theorem ap (ht:zV tm' tm) (hb:zV bx' bx) (hw:Qd bx' tm'=true):Sub ⟨n,tm,bx⟩ ⟨n,tm',bx'⟩:=
 ⟨rfl,uy tm' tm ht,uy bx' bx hb,IB tm' hw⟩
theorem bv {ι:Type}(I:ι→St) (μ:ι→Nat) (i0:ι) (h0:Sub σ (I i0))
 (round: ∀i,Dw P c (I i) (Fh (fun σ'=> ∃j,Sub σ' (I j)∧μ j<μ i) Q)):Dw P (.loop c) σ Q:=fun av w0 β a w hr=>by
 have hr0:=hr.sub h0
 intro b k cs
 have key: ∀n i β a w,μ i=n→Rel av w0 (I i).n (I i).T (I i).B β a w→(I i).n=σ.n→
  ∃e a' w',(∃σ' β',σ'.n=σ.n∧Q e σ'∧Rel av w0 σ'.n σ'.T σ'.B β' a' w')∧Arrives P (lone (b.at a (.code c:: .inLoop c::k)) cs w) b k cs e a' w':=by
  intro n
  induction n using Nat.strongRecOn with
  |_ n ih=>
   intro i β a w hi hrel hni
   obtain⟨e,a₁,w₁,⟨σ',β',g1,g2,g3⟩,harr⟩:=round i av w0 β a w hrel b (.inLoop c::k) cs
   cases e with
   |normal=>
    obtain⟨j,hs,hlt⟩:=g2
    have hrj:=g3.sub hs
    obtain⟨e₂,a₂,w₂,hq₂,harr₂⟩:=ih (μ j) (hi▸hlt) j β' a₁ w₁ rfl hrj (by rw[hs.n,g1,hni])
    exact⟨e₂,a₂,w₂,hq₂,.of_steps (Steps.trans harr (.one step_inLoop)) harr₂⟩
   |exit id=>exact⟨_,a₁,w₁,⟨σ',β',g1.trans hni,g2,g3⟩,.pass (x:=.inLoop c) rfl (fun _ _=>.inl (by simp)) harr⟩
   |goto l=>exact⟨_,a₁,w₁,⟨σ',β',g1.trans hni,g2,g3⟩,.pass (x:=.inLoop c) rfl (fun _ _=>.inl (by simp)) harr⟩
   |ret=>exact⟨_,a₁,w₁,⟨σ',β',g1.trans hni,g2,g3⟩,.pass (x:=.inLoop c) rfl (fun _ _=>.inl (by simp)) harr⟩
   |panic ch=>exact⟨_,a₁,w₁,⟨σ',β',g1.trans hni,g2,g3⟩,.pass (x:=.inLoop c) rfl (fun _ _=>.inl (by simp)) harr⟩
   |outgrown=>exact⟨_,a₁,w₁,⟨σ',β',g1.trans hni,g2,g3⟩,.pass (x:=.inLoop c) rfl (fun _ _=>.inl (by simp)) harr⟩
 obtain⟨e,a',w',hq,harr⟩:=key _ i0 β a w rfl hr0 h0.n
 exact⟨e,a',w',hq,.of_steps (.one step_loop) harr⟩
def NM (ops:Array Oper) (n:Nat):Bool:=ops.toList.all fun o=>match o.dst with|none=>true|some d=>Nat.blt d n
theorem Oo {ops:Array Oper}(h:NM ops n=true): ∀o∈ops.toList,∀t,o.dst=some t→t<n:=by
 intro o ho t ht
 have:=jV.1 h o ho
 rw[ht] at this
 exact l9.1 this
theorem AB {l:List Oper}(hn:NM l.toArray σ.n=true) (h:dl P l.toArray l σ (Q .normal)):Dw P (.region id l.toArray false) σ Q:=fun av w0 β a w hr=>
 wp_region_list (yF l.toArray.toList σ β a w (by simpa using Oo hn) (by simpa using h) hr (fun σ' β' a' w' h1 h2 h3=>⟨σ',β',h1,h2,h3⟩))
def Sq.merge (s:Sq):St:=⟨s.st.n,s.st.tm,s.nb++s.st.bx⟩
theorem xr {l pre tail:List Oper}(m:Nat) (hs:List Nat) (hm:P.follows .mixedOrders=true) (hc:N2 l.toArray m σ.n=true) (hpre:l.take m=pre) (htail:l.drop m=tail)
 (h:dq P l.toArray hs pre ⟨σ,[],[]⟩ fun s=>dl P l.toArray tail s.merge (Q .normal)):Dw P (.region id l.toArray true) σ Q:=fun av w0 β a w hr=>by
 have hC:=Chk.of hc
 subst hpre htail
 obtain⟨es,hlen,hall,hdis,hmix,s',h1,h2,h3,h4⟩:=Hp _ _ h
 have hml:m≤l.length:=by simpa using hC.le
 refine wp_region_any hm ?_
 refine TA (av:=av) (w0:=w0) (Q:=fun e a' w'=> ∃σ' β',σ'.n=σ.n∧Q e σ'∧Rel av w0 σ'.n σ'.T σ'.B β' a' w') hC (T0:=σ.T) (B0:=σ.B) (M0:=Sq.M ⟨σ,[],[]⟩) (hs:=hs) (sd:=[]) (fun k c hk=>hk) (es:=es) (by rw[hlen,gX];omega) hdis hmix ?_ ?_ l.toArray.size (Array.replicate l.toArray.size false) β a _ (by simp) (by unfold Xy;refine nF List.countP_le_length ?_;simp) ?_ ?_ ?_
 ·intro i o e ho he
  exact hall i o e (by simpa using ho) he
 ·intro β a w fuel hf hr'
  have hr2:Rel av w0 σ.n s'.merge.T s'.merge.B β a w:=by
   refine hr'.congr (fun t=>?_) (fun k=>?_)
   ·show s'.st.T t=_
    rw[h2]
   ·show s'.M k=_
    rw[h3]
  refine DU hC (K:=Q .normal) (fun σ' β a w hn hq hr=>⟨σ',β,hn,hq,by rw[hn];exact hr⟩) (l.drop m) m s'.merge fuel β a w (ck _) (fun j=>by simp) (by simp;omega) h1 h4 hr2 (by simpa using hf)
 ·intro i o j hi
  simp[Array.getD] at hi
 ·intro t _
  simp[Array.getD]
  try (split<;>rfl)
 ·refine hr.drew.congr (fun t=>?_) (fun k=>?_)
  ·refine l5 _ _ _ fun j u _ hm=>?_
   simp[Array.getD] at hm
  ·refine(l5 _ _ _ fun j u _ hm=>?_).trans ?_
   ·simp[Array.getD] at hm
   ·rfl
def mU:Nat→List D0→List (Nat×DV)
 |_,[]=>[]
 |k,d::ds=>(k,.v d)::mU (k+1) ds
def I4 (P:Program) (σ:St):ResultVar→Option D0
 | .tmp t=>match aQ t σ.tm with
   |some (.v d)=>some d
   |_=>none
 | .cell t U=>match aQ t σ.tm with
   |some (.p k off)=>match aQ k σ.bx,sG P U with
    |some (_,cs),some (true,n)=>if Nat.beq ((cs.drop off).take n).length n then some (.a ((cs.drop off).take n)) else none
    |some (_,cs),some (false,_)=>(cs[off]?).map .c
    |_,_=>none
   |_=>none
def rN (a:Act):ResultVar→Go.Sem Value
 | .tmp t=>pure (a.tmps.getD t undef)
 | .cell t U=>do loadVar U (←asAddr (a.tmps.getD t undef))
theorem Qb {a:Act}(hr:Rel av w0 σ.n σ.T σ.B β a w) {r:ResultVar}(h:I4 P σ r=some d):
 ∃v,(rN a r).run P w=.ok v w∧RdV (fun b=>av b∨ ∃k,σ.B k≠none∧β k=b) w v d:=by
 have hget: ∀ {t x},aQ t σ.tm=some x→ ∃v,a.tmps.getD t undef=v∧RdX (fun b=>av b∨ ∃k,σ.B k≠none∧β k=b) w β v x:=by
  intro t x ht
  obtain⟨v,e,hx⟩:=hr.sees.tmp t x trivial ht
  obtain⟨hlt,e⟩:=uS.1 e
  exact⟨v,by simp[Array.getD,hlt,e],hx⟩
 cases r with
 |tmp t=>
  unfold I4 at h
  dsimp only at h
  split at h
  ·rename_i d' hd
   injection h with h
   subst h
   obtain⟨v,e,hx⟩:=hget hd
   exact⟨v,by show(pure (a.tmps.getD t undef):Go.Sem Value).run P w=_;rw[e];rfl,hx⟩
  grind
 |cell t U=>
  unfold I4 at h
  dsimp only at h
  split at h
  ·rename_i k off hp
   obtain⟨v,e,hx⟩:=hget hp
   subst hx
   split at h
   ·rename_i W cs n hb hU
    split at h
    ·rename_i hl
     injection h with h
     subst h
     obtain⟨_,vs,ev,hrd⟩:=hr.sees.box k W cs hb
     have hr2:=(hrd.drop off).take n
     have hrun:=l8 (P:=P) (w:=w) hU (b:=β k) (off:=off) (vs:=(vs.toList.drop off).take n) (by rw[hr2.1];exact jv hl) (fun j v hv=>by
      rw[tH] at hv
      split at hv
      ·rw[dr ev,←hv];simp
      ·cases hv)
     refine⟨_,?_,_,rfl,by simpa using hr2⟩
     simp only[rN,e,asAddr,eM,gK,fi,hrun]
    grind
   ·rename_i W cs n hb hU
    cases hc:cs[off]? with
    |none=>rw[hc] at h;cases h
    |some u=>
     rw[hc] at h
     injection h with h
     subst h
     obtain⟨_,vs,ev,hrd⟩:=hr.sees.box k W cs hb
     have hlt:off<cs.length:=(j9.1 hc).1
     have hv:vs.toList[off]? =some (vs.toList[off]'(by rw[hrd.1];exact hlt)):=by grind
     have hrun:=mg (P:=P) (w:=w) hU (b:=β k) (off:=off) (by rw[dr ev,←vE,hv])
     refine⟨_,?_,hrd.2 off _ _ hv hc⟩
     simp only[rN,e,asAddr,eM,gK,fi,hrun]
   grind
  grind
def qP (P:Program) (σ:St):List ResultVar→Option (List D0)
 |[]=>some []
 |r::rs=>match I4 P σ r,qP P σ rs with
  |some d,some ds=>some (d::ds)
  |_,_=>none
theorem Cu {av:Nat→Prop}{w0:Ent}{w:World}{β:Nat→Nat}{a:Act}(hr:Rel av w0 σ.n σ.T σ.B β a w): ∀(rs:List ResultVar) (ds:List D0),qP P σ rs=some ds→
 ∃vs:List Value,(rs.mapM (rN a)).run P w=.ok vs w∧RdL (fun b=>av b∨ ∃k,σ.B k≠none∧β k=b) w vs ds
 |[],ds,h=>by injection h with h;subst h;exact⟨[],rfl,RdL.nil⟩
 |r::rs,ds,h=>by
  unfold qP at h
  split at h
  ·rename_i d ds' h1 h2
   injection h with h
   subst h
   obtain⟨v,e1,r1⟩:=Qb hr h1
   obtain⟨vs,e2,r2⟩:=Cu hr rs ds' h2
   refine⟨v::vs,?_,tw r1 r2⟩
   rw[List.mapM_cons]
   simp only[eM,e1,fi,e2,gK]
  ·cases h
theorem acS {vs:Array Value}(hlen:ds.length≤N) (hav: ∀b,av b→b<w.heap.size) (hrd:RdL av w vs.toList ds):
 Rel av ⟨w,fun _=>False,N⟩ (St.n ⟨N,mU 0 ds,[]⟩) (St.T ⟨N,mU 0 ds,[]⟩) (St.B ⟨N,mU 0 ds,[]⟩) (fun _=>0) {tmps:=vs++Array.replicate (N-vs.size) undef,defers:=[]} w:=by
 have hvl:vs.size=ds.length:=by rw[←hrd.1];simp
 have hT: ∀(k:Nat) (ds:List D0) (t:Nat) (x:DV),aQ t (mU k ds)=some x→ ∃j d,t=k+j∧ds[j]? =some d∧x=.v d:=by
  intro k ds
  induction ds generalizing k with
  |nil=>intro t x h;cases h
  |cons d ds ih=>
   intro t x h
   unfold mU at h
   rw[b7] at h
   split at h
   ·simp_all
   ·obtain⟨j,d',e1,e2,e3⟩:=ih (k+1) t x h
    exact⟨j+1,d',by omega,by simpa using e2,e3⟩
 refine⟨rfl,by simp;omega,BelE.refl _,hav,fun _ _ h=>h,ck _,fun _ h=>h.elim,fun k l hk=>absurd rfl hk,fun k hk=>absurd rfl hk,?_,?_,?_,?_⟩
 ·intro t x k ht hx
  obtain⟨j,d,_,_,e⟩:=hT 0 ds t _ ht
  subst e;cases hx
 ·rintro b (hb|⟨k,hk,_⟩)
  ·grind
  ·exact absurd rfl hk
 ·intro k U cs hk;cases hk
 ·intro t x _ ht
  obtain⟨j,d,e1,e2,e3⟩:=hT 0 ds t x ht
  have e1:t=j:=by omega
  subst e1 e3
  have hlt:t<vs.size:=by grind
  have hv:vs.toList[t]? =some vs[t]:=by grind
  refine⟨vs[t],?_,(hrd.2 t _ d hv e2).keep ⟨Nat.le_refl _,fun _ _ _=>rfl,fun b _ hb=>?_⟩⟩
  ·grind
  ·rcases hb with hb|⟨k,hk,_⟩
   ·grind
   ·exact absurd rfl hk
theorem vw {fn:Func}{a:Act}(hrun:(fn.results.toList.mapM (rN a)).run P w=.ok vs w):(results fn a.tmps).run P w=.ok (if h:vs.toArray.size=1 then vs.toArray[0] else .tuple vs.toArray) w:=by
 have key: ∀g:ResultVar→Go.Sem Value,(∀r,g r=rN a r)→(do let vs ←fn.results.mapM g;pure (if h:vs.size=1 then vs[0] else .tuple vs):Go.Sem Value).run P w=.ok (if h:vs.toArray.size=1 then vs.toArray[0] else .tuple vs.toArray) w:=by
  intro g hg
  rw[funext hg]
  simp[Array.mapM_eq_mapM_toList,hrun]
 exact key _ (fun r=>by cases r<;>rfl)
theorem Ok.of {f:FuncId}{fn:Func}{rs:List D0}(hcal:fT P f=true) (hf:P.funcs[f]? =some fn) (hb:fn.body=some c) (hlen:Nat.ble ds.length fn.ntmps=true)
 (h:Dw P c ⟨fn.ntmps,mU 0 ds,[]⟩ fun e σ=>(e=.normal∨e=.ret)∧qP P σ fn.results.toList=some rs):Ok P f ds rs:=by
 refine⟨hcal,fun av vs w hav hrd=>calls_of_wp hf hb ?_⟩
 have hlen:=gj hlen
 refine uO ?_ (h av ⟨w,fun _=>False,fn.ntmps⟩ (fun _=>0) _ w (acS hlen hav hrd))
 rintro e a' w' ⟨σ',β',hn,⟨he,hres⟩,hr⟩
 obtain⟨vs',hrun,hrl0⟩:=Cu hr _ _ hres
 have hrl:RdL av w' vs' rs:=hrl0.keep ⟨Nat.le_refl _,fun _ _ _=>rfl,fun b _ hb=>.inl hb⟩
 have hresults:=vw hrun
 have hR:Xk av w' (if h:vs'.toArray.size=1 then vs'.toArray[0] else .tuple vs'.toArray) rs:=by
  match vs',rs,hrl with
  |[],[],hrl=>exact⟨_,rfl,hrl⟩
  |[v],[d],hrl=>exact hrl.uncons.1
  |v::v'::vs',d::d'::ds',hrl=>exact⟨(v::v'::vs').toArray,dif_neg (by simp),by simpa using hrl⟩
  |[],d::ds,hrl=>exact absurd hrl.1 (by simp)
  |v::vs,[],hrl=>exact absurd hrl.1 (by simp)
  |[v],d::d'::ds,hrl=>exact absurd hrl.1 (by simp)
  |v::v'::vs,[d],hrl=>exact absurd hrl.1 (by simp)
 rcases he with rfl|rfl
 ·exact⟨hr.dfr,_,hresults,_,rfl,hR,hr.bel.to (fun _ h=>h)⟩
 ·exact⟨hr.dfr,_,hresults,_,rfl,hR,hr.bel.to (fun _ h=>h)⟩
end
section
variable {P:Program}{ops:Array Oper}{os:List Oper}{n t:Nat}{tm:List (Nat×DV)}{bx nb:List (Nat×TypeId×List CellD)}{K:St→Prop}{K':Sq→Prop}{hs sd:List Nat}
variable {ty:TypeId}{pos:String}{af:Array Edge}{g:Option (Nat×Bool)}{op:Op}
theorem aO {x:DV}(h:Sem P ops ⟨some t,op,ty,pos,af,g⟩ (fun s=>aQ s tm) (fun k=>aQ k bx) (.r x)) (hk:dl P ops os ⟨n,(t,x)::tm,bx⟩ K):dl P ops (⟨some t,op,ty,pos,af,g⟩::os) ⟨n,tm,bx⟩ K:=
 .inl ⟨.r x,h,fun _ _ _ e=>(by cases e),hk⟩
theorem cK {x:DV}(h:Sem P ops ⟨some t,op,ty,pos,af,g⟩ (fun s=>aQ s tm) (hid hs (fun k=>aQ k bx)) (.r x)) (hk:dq P ops hs os ⟨⟨n,(t,x)::tm,bx⟩,nb,sd⟩ K'):dq P ops hs (⟨some t,op,ty,pos,af,g⟩::os) ⟨⟨n,tm,bx⟩,nb,sd⟩ K':=
 ⟨.r x,.inl h,fun _ _ e=>(by cases e),fun _ _ _ e=>(by cases e),fun _ _ _ _ e=>(by cases e),fun _ _ _ e=>(by cases e),hk⟩
theorem xq (h:Sem P ops ⟨some t,op,ty,pos,af,g⟩ (fun s=>aQ s tm) (fun k=>aQ k bx) .skip) (hk:dl P ops os ⟨n,(t,.u)::tm,bx⟩ K):dl P ops (⟨some t,op,ty,pos,af,g⟩::os) ⟨n,tm,bx⟩ K:=
 .inl ⟨.skip,h,fun _ _ _ e=>(by cases e),hk⟩
theorem B7 (h:Sem P ops ⟨some t,op,ty,pos,af,g⟩ (fun s=>aQ s tm) (hid hs (fun k=>aQ k bx)) .skip) (hk:dq P ops hs os ⟨⟨n,(t,.u)::tm,bx⟩,nb,sd⟩ K'):dq P ops hs (⟨some t,op,ty,pos,af,g⟩::os) ⟨⟨n,tm,bx⟩,nb,sd⟩ K':=
 ⟨.skip,.inl h,fun _ _ e=>(by cases e),fun _ _ _ e=>(by cases e),fun _ _ _ _ e=>(by cases e),fun _ _ _ e=>(by cases e),hk⟩
theorem rQ (h:Sem P ops ⟨some t,op,ty,pos,af,g⟩ (fun s=>aQ s tm) (fun k=>aQ k bx) (.a U cs none)) (hf:aQ t bx=none) (hk:dl P ops os ⟨n,(t,.p t 0)::tm,(t,U,cs)::bx⟩ K):dl P ops (⟨some t,op,ty,pos,af,g⟩::os) ⟨n,tm,bx⟩ K:=
 .inl ⟨.a U cs none,h,fun _ _ _ _=>⟨t,rfl,hf⟩,hk⟩
theorem AU (h:Sem P ops ⟨some t,op,ty,pos,af,g⟩ (fun s=>aQ s tm) (hid hs (fun k=>aQ k bx)) (.a U cs none)) (hf:aQ t (nb++bx)=none) (hk:dq P ops hs os ⟨⟨n,(t,.p t 0)::tm,bx⟩,(t,U,cs)::nb,sd⟩ K'):dq P ops hs (⟨some t,op,ty,pos,af,g⟩::os) ⟨⟨n,tm,bx⟩,nb,sd⟩ K':=
 ⟨.a U cs none,.inl h,fun _ _ e=>(by cases e),fun _ _ _ e=>(by cases e),fun _ _ _ _ e=>(by cases e),fun _ _ _ _=>⟨t,rfl,hf⟩,hk⟩
theorem qa (h:Sem P ops ⟨some t,op,ty,pos,af,g⟩ (fun s=>aQ s tm) (fun k=>aQ k bx) (.a U cs (some m))) (hf:aQ t bx=none) (hk:dl P ops os ⟨n,(t,.o t m m)::tm,(t,U,cs)::bx⟩ K):dl P ops (⟨some t,op,ty,pos,af,g⟩::os) ⟨n,tm,bx⟩ K:=
 .inl ⟨.a U cs (some m),h,fun _ _ _ _=>⟨t,rfl,hf⟩,hk⟩
theorem jk (h:Sem P ops ⟨none,op,ty,pos,af,g⟩ (fun s=>aQ s tm) (fun k=>aQ k bx) (.s k U cs)) (hk:dl P ops os ⟨n,tm,(k,U,cs)::bx⟩ K):dl P ops (⟨none,op,ty,pos,af,g⟩::os) ⟨n,tm,bx⟩ K:=
 .inl ⟨.s k U cs,h,fun _ _ _ e=>(by cases e),hk⟩
theorem Y5 {x:DV}(h:Sem P ops ⟨some t,op,ty,pos,af,g⟩ (fun s=>aQ s tm) (fun k=>aQ k bx) (.c k x)) (hk:dl P ops os ⟨n,(t,x)::kX k tm,jT k bx⟩ K):dl P ops (⟨some t,op,ty,pos,af,g⟩::os) ⟨n,tm,bx⟩ K:=
 .inl ⟨.c k x,h,fun _ _ _ e=>(by cases e),hk⟩
theorem tE {x:DV}(h:Sem P ops ⟨some t,op,ty,pos,af,g⟩ (fun s=>aQ s tm) (fun k=>aQ k bx) (.rs k U cs x)) (hk:dl P ops os ⟨n,(t,x)::tm,(k,U,cs)::bx⟩ K):dl P ops (⟨some t,op,ty,pos,af,g⟩::os) ⟨n,tm,bx⟩ K:=
 .inl ⟨.rs k U cs x,h,fun _ _ _ e=>(by cases e),hk⟩
theorem wl {x:DV}(h:Sem P ops ⟨some t,op,ty,pos,af,g⟩ (fun s=>aQ s tm) (fun l=>bif Nat.beq l k then aQ l (nb++bx) else hid hs (fun k=>aQ k bx) l) (.rs k U cs x))
 (h1:hs.any (Nat.beq k)=true) (h2:(aQ k bx).isSome=true) (h3:sd.any (Nat.beq k)=false) (h4:os.all (fun o=>o.dst.isSome)=true) (h5:jw ⟨some t,op,ty,pos,af,g⟩=true) (h6:tL ops=true) (h7:hs.any (Nat.beq 999999)=false)
 (hk:dq P ops hs os ⟨⟨n,(t,x)::tm,bx⟩,(k,U,cs)::nb,sd⟩ K'):dq P ops hs (⟨some t,op,ty,pos,af,g⟩::os) ⟨⟨n,tm,bx⟩,nb,sd⟩ K':=
 ⟨.rs k U cs x,.inl h,fun _ _ e=>(by cases e),fun _ _ _ e=>(by cases e),fun _ _ _ _ e=>by
  injection e with e1
  subst e1
  exact⟨h1,(fun e=>by have e:aQ k bx=none:=e;rw[e] at h2;cases h2),(fun hm=>by rw[pG.2 hm] at h3;cases h3),h4,h5,h6,h7⟩,fun _ _ _ e=>(by cases e),hk⟩
theorem bt (h:K ⟨n,tm,bx⟩):dl P ops [] ⟨n,tm,bx⟩ K:=h
theorem jE (h:Sem P ops ⟨none,op,ty,pos,af,g⟩ (fun s=>aQ s tm) (fun l=>bif Nat.beq l k then aQ l (nb++bx) else hid hs (fun k=>aQ k bx) l) (.s k U cs))
 (h1:hs.any (Nat.beq k)=true) (h2:(aQ k bx).isSome=true) (h3:sd.any (Nat.beq k)=false) (h4:BC ⟨none,op,ty,pos,af,g⟩=true) (hk:dq P ops hs os ⟨⟨n,tm,bx⟩,(k,U,cs)::nb,k::sd⟩ K'):dq P ops hs (⟨none,op,ty,pos,af,g⟩::os) ⟨⟨n,tm,bx⟩,nb,sd⟩ K':=
 ⟨.s k U cs,.inl h,fun _ _ e=>(by cases e),fun _ _ _ e=>by
  injection e with e1
  subst e1
  exact⟨h1,.inl (fun e=>by have e:aQ k bx=none:=e;rw[e] at h2;cases h2),(.inl fun hm=>by rw[pG.2 hm] at h3;cases h3),h4⟩,fun _ _ _ _ e=>(by cases e),fun _ _ _ e=>(by cases e),hk⟩
theorem gD (h:Sem P ops ⟨none,op,ty,pos,af,g⟩ (fun s=>aQ s tm) (fun l=>bif Nat.beq l k then aQ l (nb++bx) else hid hs (fun k=>aQ k bx) l) (.s k U cs))
 (h1:hs.any (Nat.beq k)=true) (h2:((⟨none,op,ty,pos,af,g⟩:Oper).looksAt ops).any (Nat.beq k)=true) (h3:sd.any (Nat.beq k)=false) (h4:BC ⟨none,op,ty,pos,af,g⟩=true) (hk:dq P ops hs os ⟨⟨n,tm,bx⟩,(k,U,cs)::nb,k::sd⟩ K'):dq P ops hs (⟨none,op,ty,pos,af,g⟩::os) ⟨⟨n,tm,bx⟩,nb,sd⟩ K':=
 ⟨.s k U cs,.inl h,fun _ _ e=>(by cases e),fun _ _ _ e=>by
  injection e with e1
  subst e1
  exact⟨h1,.inr (pG.1 h2),(.inl fun hm=>by rw[pG.2 hm] at h3;cases h3),h4⟩,fun _ _ _ _ e=>(by cases e),fun _ _ _ e=>(by cases e),hk⟩
theorem WI (h:Sem P ops ⟨none,op,ty,pos,af,g⟩ (fun s=>aQ s tm) (fun l=>bif Nat.beq l k then aQ l (nb++bx) else hid hs (fun k=>aQ k bx) l) (.s k U cs))
 (h1:hs.any (Nat.beq k)=true) (h2:(aQ k bx).isSome=true) (h3:rF ops=true) (h4:BC ⟨none,op,ty,pos,af,g⟩=true) (hk:dq P ops hs os ⟨⟨n,tm,bx⟩,(k,U,cs)::nb,k::sd⟩ K'):dq P ops hs (⟨none,op,ty,pos,af,g⟩::os) ⟨⟨n,tm,bx⟩,nb,sd⟩ K':=
 ⟨.s k U cs,.inl h,fun _ _ e=>(by cases e),fun _ _ _ e=>by
  injection e with e1
  subst e1
  exact⟨h1,.inl (fun e=>by have e:aQ k bx=none:=e;rw[e] at h2;cases h2),.inr h3,h4⟩,fun _ _ _ _ e=>(by cases e),fun _ _ _ e=>(by cases e),hk⟩
theorem wd (h:K' ⟨⟨n,tm,bx⟩,nb,sd⟩):dq P ops hs [] ⟨⟨n,tm,bx⟩,nb,sd⟩ K':=h
theorem Lb {x:DV}(hv:Vv hs ops ⟨some t,op,ty,pos,af,g⟩=true) (h:Sem P ops ⟨some t,op,ty,pos,af,g⟩ (fun s=>aQ s tm) (fun k=>aQ k bx) (.r x)) (hk:dq P ops hs os ⟨⟨n,(t,x)::tm,bx⟩,nb,sd⟩ K'):dq P ops hs (⟨some t,op,ty,pos,af,g⟩::os) ⟨⟨n,tm,bx⟩,nb,sd⟩ K':=
 ⟨.r x,.inr ⟨hv,⟨x,rfl⟩,h⟩,fun _ _ e=>(by cases e),fun _ _ _ e=>(by cases e),fun _ _ _ _ e=>(by cases e),fun _ _ _ e=>(by cases e),hk⟩
theorem OL (h:Sem P ops ⟨some t,op,ty,pos,af,g⟩ (fun s=>aQ s tm) (fun k=>aQ k bx) (.r (.v (.c (.b b))))) (hk: ∀c,b=c→dl P ops os ⟨n,(t,.v (.c (.b c)))::tm,bx⟩ K):dl P ops (⟨some t,op,ty,pos,af,g⟩::os) ⟨n,tm,bx⟩ K:=
 aO h (hk b rfl)
theorem RO (h:Sem P ops ⟨some t,op,ty,pos,af,g⟩ (fun s=>aQ s tm) (hid hs (fun k=>aQ k bx)) (.r (.v (.c (.b b))))) (hk: ∀c,b=c→dq P ops hs os ⟨⟨n,(t,.v (.c (.b c)))::tm,bx⟩,nb,sd⟩ K'):dq P ops hs (⟨some t,op,ty,pos,af,g⟩::os) ⟨⟨n,tm,bx⟩,nb,sd⟩ K':=
 cK h (hk b rfl)
theorem iC (h:dl P ops os ⟨n,tm,bx⟩ K):dl P ops os (Sq.merge ⟨⟨n,tm,bx⟩,[],sd⟩) K:=h
theorem At (h:dl P ops os ⟨n,tm,a::bx⟩ K):dl P ops os (Sq.merge ⟨⟨n,tm,bx⟩,[a],sd⟩) K:=h
theorem EX {b:Nat×TypeId×List CellD}(h:dl P ops os ⟨n,tm,a::b::bx⟩ K):dl P ops os (Sq.merge ⟨⟨n,tm,bx⟩,[a,b],sd⟩) K:=h
theorem cz {x y:Code}(hb:aQ t tm=some (.v (.c (.b true)))) (h:Dw P x ⟨n,tm,bx⟩ Q):Dw P (.cond (.tmp t) x y) ⟨n,tm,bx⟩ Q:=aP hb (fun _=>h) (fun e=>by cases e)
theorem bh {x y:Code}(hb:aQ t tm=some (.v (.c (.b false)))) (h:Dw P y ⟨n,tm,bx⟩ Q):Dw P (.cond (.tmp t) x y) ⟨n,tm,bx⟩ Q:=aP hb (fun e=>by cases e) (fun _=>h)
theorem ag:qP P ⟨n,tm,bx⟩ []=some []:=rfl
theorem Sj (h:aQ t tm=some (.v d)) (hr:qP P ⟨n,tm,bx⟩ rs=some ds):qP P ⟨n,tm,bx⟩ (.tmp t::rs)=some (d::ds):=by
 have e:I4 P ⟨n,tm,bx⟩ (.tmp t)=some d:=by unfold I4;simp only[h]
 unfold qP
 grind
theorem mw {off:Nat}(hU:sG P U=some (true,m)) (hp:aQ t tm=some (.p k off)) (hb:aQ k bx=some (W,cs)) (hu:(cs.drop off).take m=us) (hm:us.length=m)
 (hr:qP P ⟨n,tm,bx⟩ rs=some ds):qP P ⟨n,tm,bx⟩ (.cell t U::rs)=some (.a us::ds):=by
 have e:I4 P ⟨n,tm,bx⟩ (.cell t U)=some (.a us):=by
  unfold I4
  simp only[hp,hb,hU,hu,hm]
  simp
 unfold qP
 grind
theorem Ei {x:Operand}
 (hU:sG P U=some (q,m)) (ha:cO T ax=some (.p k 0)) (hx:cO T x=some (.v d)) (hb:B k=some (W,cs)) (hn:d.cells.length=m) (ho:cs.length=m)
 (hg:gd ops ⟨none,.store U ax x,ty,pos,af,g⟩ T=some true):Sem P ops ⟨none,.store U ax x,ty,pos,af,g⟩ T B (.s k W d.cells):=by
 refine br hU ha hx hb hn (by omega) ?_ hg
 grind
theorem dN {x:Operand}
 (hU:sG P U=some (true,m)) (ha:cO T ax=some (.p k 0)) (hx:cO T x=some (.v (.a us))) (hb:B k=some (W,cs)) (hn:us.length=m) (ho:cs.length=m)
 (hg:gd ops ⟨none,.store U ax x,ty,pos,af,g⟩ T=some true):Sem P ops ⟨none,.store U ax x,ty,pos,af,g⟩ T B (.s k W us):=Ei (d:=.a us) hU ha hx hb hn ho hg
theorem Ot {x:Operand}
 (hx:cO T x=some (.v (.a us))) (hg:gd ops ⟨dst,.box U x,ty,pos,af,g⟩ T=some true):Sem P ops ⟨dst,.box U x,ty,pos,af,g⟩ T B (.a U us none):=Mq (d:=.a us) hx hg
theorem Oe {x:Operand}
 (hx:cO T x=some (.v (.c u))) (hg:gd ops ⟨dst,.box U x,ty,pos,af,g⟩ T=some true):Sem P ops ⟨dst,.box U x,ty,pos,af,g⟩ T B (.a U [u] none):=Mq (d:=.c u) hx hg
theorem wE {c:Bool}(hu:P.underlying xt=some .bool):(Op.equal xt (.bool b) (.bool c)).run P w=.ok (b==c) w:=by
 unfold Op.equal Op.maxDepth
 rw[show(10000:Nat)=9999+1 from rfl,Op.equalIn]
 simp only[eM,run_underlying hu,fi]
 rfl
theorem Di {x y:Operand}{c:Bool}
 (hx:cO T x=some (.v (.c (.b b)))) (hy:cO T y=some (.v (.c (.b c)))) (hu:P.underlying xt=some .bool) (hg:gd ops ⟨dst,.binOp .eql xt x y yt,ty,pos,af,g⟩ T=some true):
 Sem P ops ⟨dst,.binOp .eql xt x y yt,ty,pos,af,g⟩ T B (.r (.v (.c (.b (b==c))))):=
 bI hg (pF rfl) (fun V β a w hs=>by
  have e1:a.eval x=.bool b:=vZ (aC hs (x:=x) (by simp[Op.operands]) hx)
  have e2:a.eval y=.bool c:=vZ (aC hs (x:=y) (by simp[Op.operands]) hy)
  refine⟨.bool (b==c),?_,.b _⟩
  have h1:(eqGuard .eql xt x y (.bool b) (.bool c)).run P w=.ok () w:=rfl
  have h2:binOp .eql xt (.bool b) (.bool c)=(do pure (.bool (←Op.equal xt (.bool b) (.bool c)))):=rfl
  simp only[execOp,e1,e2,eM,h1,fi,h2,wE hu,gK])
theorem kG {x y:Operand}{c:Bool}
 (hx:cO T x=some (.v (.c (.b b)))) (hy:cO T y=some (.v (.c (.b c)))) (hu:P.underlying xt=some .bool) (hg:gd ops ⟨dst,.binOp .neq xt x y yt,ty,pos,af,g⟩ T=some true):
 Sem P ops ⟨dst,.binOp .neq xt x y yt,ty,pos,af,g⟩ T B (.r (.v (.c (.b (!(b==c)))))):=
 bI hg (pF rfl) (fun V β a w hs=>by
  have e1:a.eval x=.bool b:=vZ (aC hs (x:=x) (by simp[Op.operands]) hx)
  have e2:a.eval y=.bool c:=vZ (aC hs (x:=y) (by simp[Op.operands]) hy)
  refine⟨.bool (!(b==c)),?_,.b _⟩
  have h1:(eqGuard .neq xt x y (.bool b) (.bool c)).run P w=.ok () w:=rfl
  have h2:binOp .neq xt (.bool b) (.bool c)=(do pure (.bool (!(←Op.equal xt (.bool b) (.bool c))))):=rfl
  simp only[execOp,e1,e2,eM,h1,fi,h2,wE hu,gK])
theorem SJ {x:Operand}{k1 k2 k:IntKind}{m:Int}
 (h1:P.underlying t1=some (.int k1)) (h2:P.underlying t2=some (.int k2)) (hx:cO T x=some (.v (.c (.i k m)))) (hg:gd ops ⟨dst,.convert t1 t2 x,ty,pos,af,g⟩ T=some true):
 Sem P ops ⟨dst,.convert t1 t2 x,ty,pos,af,g⟩ T B (.r (.v (.c (.i k2 (k2.wrap m))))):=
 bI hg (pF rfl) (fun V β a w hs=>by
  have e1:a.eval x=.int k m:=fO (aC hs (x:=x) (by simp[Op.operands]) hx)
  refine⟨.int k2 (k2.wrap m),?_,.i _ _⟩
  simp[execOp,e1,convert,run_underlying h1,run_underlying h2,Conv.intToInt])
end
def dJ (v:Nat):List Int:=if h:v=0 then[] else((v%1000000000:Nat):Int)::dJ (v/1000000000)
termination_by v
decreasing_by exact Nat.div_lt_self (Nat.pos_of_ne_zero h) (by omega)
theorem lT:dJ 0=[]:=by unfold dJ;simp
theorem BX {v:Nat}(h:v≠0):dJ v=((v%1000000000:Nat):Int)::dJ (v/1000000000):=by rw[dJ];simp[h]
theorem b8 (v:Nat):Lim (dJ v):=by
 induction v using Nat.strongRecOn with
 |_ v ih=>
  by_cases h:v=0
  ·subst h;rw[lT];exact Lim.nil
  ·rw[BX h]
   exact Lim.cons (by omega) (by omega) (ih _ (Nat.div_lt_self (Nat.pos_of_ne_zero h) (by omega)))
theorem co (v:Nat):val (dJ v)=v:=by
 induction v using Nat.strongRecOn with
 |_ v ih=>
  by_cases h:v=0
  ·subst h;rw[lT];rfl
  ·rw[BX h,ed,ih _ (Nat.div_lt_self (Nat.pos_of_ne_zero h) (by omega))]
   omega
theorem eZ {v:Nat}:dJ v=[]↔v=0:=by
 constructor
 ·intro h;have:=co v;rw[h] at this;simp[val] at this;omega
 ·intro h;rw[h,lT]
theorem IP (h:Nrm xs) (hx:xs≠ []):Nrm (x::xs):=by
 obtain⟨ys,y,e,hy⟩:=h.last hx
 rw[e]
 exact DB (x::ys) y hy
theorem jU (v:Nat):Nrm (dJ v):=by
 induction v using Nat.strongRecOn with
 |_ v ih=>
  by_cases h:v=0
  ·subst h;rw[lT];exact Nrm.nil
  ·rw[BX h]
   by_cases h2:v/1000000000=0
   ·rw[h2,lT]
    exact DB [] _ (by omega)
   ·exact IP (ih _ (Nat.div_lt_self (Nat.pos_of_ne_zero h) (by omega))) (fun e=>h2 (eZ.1 e))
theorem JS (h:Nrm xs) (hl:Lim xs):xs=dJ (val xs).toNat:=by
 have h0:=cS hl
 exact Nrm.inj h (jU _) hl (b8 _) (by rw[co];omega)
def cL (x:Int):CellD:=.s (dJ x.natAbs).length ((dJ x.natAbs).map (CellD.i .u32))
def cI (x:Int):List CellD:=[.b (decide (x<0)),cL x]
def dI (x:Int):D0:=.a (cI x)
structure Sz (k:Nat) (x:Int):Prop where
 lt:x<pw k
 gt: -x<pw k
section
variable {av:Nat→Prop}{w w':World}
theorem yD {c:Nat}(h:RdC av w (.slice A n c) (.s xs.length (xs.map (CellD.i .u32)))):RdI .u32 w A n xs∧n≤c∧c≤9223372036854775807∧(∀b off,0<n→A=some ⟨b,off,none⟩→ ¬av b):=by
 generalize hu:CellD.s xs.length (xs.map (CellD.i .u32))=u at h
 cases h with
 |s0 _ c hc=>
  have:xs=[]:=by grind
  subst this
  exact⟨Rd.nil,iW _,hc,fun _ _ h=>absurd h (by omega)⟩
 |s b off c sz n us cv h0 hnc hcm hlen hb hav hcell hr=>
  injection hu with h1 h2
  subst h1
  subst h2
  have hsz:sz=1:=by
   simp at hlen
   have:=Nat.eq_of_mul_eq_mul_left h0 (hlen.symm.trans (Nat.mul_one _).symm)
   grind
  subst hsz
  refine⟨⟨by simp,fun _=>⟨b,off,rfl,hb,fun j u hj=>?_⟩⟩,hnc,hcm,fun b' off' _ e=>by injection e with e;injection e with e1 e2;subst e1;exact hav⟩
  rw[r8] at hj
  cases hx:xs[j]? with
  |none=>rw[hx] at hj;cases hj
  |some x=>
   rw[hx] at hj
   injection hj with hj
   have hlt:j<xs.length:=(j9.1 hx).1
   have hc:=hcell j (by omega)
   have hrr:=hr j (.i .u32 x) (by rw[r8,hx];rfl)
   rw[hc,fO hrr,←hj]
 |_=>cases hu
theorem yp {c:Nat}(h:RdI .u32 w A n xs) (hnc:n≤c) (hcm:c≤9223372036854775807) (hav: ∀b off,A=some ⟨b,off,none⟩→ ¬av b):
 RdC av w (.slice A n c) (.s n (xs.map (CellD.i .u32))):=by
 have hl:=h.len
 rcases li n with h0|h0
 ·subst h0
  have:xs=[]:=by grind
  subst this
  exact .s0 A c hcm
 ·obtain⟨b,off,e,hb,hc⟩:=h.2 h0
  subst e
  refine .s b off c 1 n _ (fun j=>.int .u32 (xs.getD j 0)) h0 hnc hcm (by simp[hl]) hb (hav b off rfl) (fun j hj=>?_) (fun j u hj=>?_)
  ·grind
  ·rw[r8] at hj
   cases hx:xs[j]? with
   |none=>rw[hx] at hj;cases hj
   |some x=>
    rw[hx] at hj
    injection hj with hj
    subst hj
    simp only[List.getD,hx,Option.getD_some]
    exact .i _ _
theorem lH (h:RdV av w v (dI x)): ∃neg A n c,v=.agg #[.bool neg,.slice A n c]∧IsInt w neg A n c x:=by
 obtain⟨cs,rfl,hr⟩:=h
 have hl:=hr.1
 obtain⟨cs⟩:=cs
 match cs,hl,hr with
 |[a,b],_,hr=>
  obtain⟨h1,hr⟩:=hr.uncons
  obtain⟨h2,_⟩:=hr.uncons
  unfold cL at h2
  have e1:=vZ h1
  subst e1
  have: ∃A n c,b=.slice A n c:=by
   generalize hu:CellD.s (dJ x.natAbs).length ((dJ x.natAbs).map (CellD.i .u32))=u at h2
   cases h2 with
   |s0 A c _=>exact⟨A,0,c,rfl⟩
   |s b off c sz n=>exact⟨_,n,c,rfl⟩
   |_=>cases hu
  obtain⟨A,n,c,rfl⟩:=this
  obtain⟨g1,g2,g3,_⟩:=yD h2
  refine⟨_,A,n,c,rfl,dJ x.natAbs,⟨g1,g2,g3,b8 _⟩,jU _,?_,fun hn=>?_⟩
  ·rw[co]
   by_cases hx:x<0
   ·simp[hx,sg];omega
   ·simp[hx,sg];omega
  ·have hx:x<0:=by simpa using hn
   have:=g1.len
   rcases li n with h0|h0
   ·rw[h0] at this
    have:=eZ.1 (nJ.1 this);omega
   grind
theorem IL {neg:Bool}{c:Nat}(h:IsInt w neg A n c x) (hav: ∀b off,A=some ⟨b,off,none⟩→ ¬av b):RdV av w (.agg #[.bool neg,.slice A n c]) (dI x):=by
 obtain⟨s1,s2,s3,s4⟩:=h.sign
 obtain⟨xs,hs,hn,hx,hp⟩:=h
 have hneg:neg=decide (x<0):=by
  cases neg with
  |true=>simp[s1 rfl]
  |false=>
   rcases li n with h0|h0
   ·grind
   grind
 have hxs:xs=dJ x.natAbs:=by
  rw[JS hn hs.2.2.2]
  congr 1
  have:=cS hs.2.2.2
  cases neg with
  |true=>rw[gV] at hx;omega
  |false=>rw[cW] at hx;omega
 have hl:n=(dJ x.natAbs).length:=by rw[←hxs,hs.len]
 refine⟨_,rfl,nE ?_ (nE ?_ ro)⟩
 ·rw[hneg];exact .b _
 ·unfold cL
  rw[←hl,←hxs]
  exact yp hs.1 hs.2.1 hs.2.2.1 hav
theorem pW {e:Ending}(hav: ∀b,av b→b<w.heap.size) (h:Ii w x e w'): ∃v,e=.returned v∧Xk av w' v [dI x]∧Below w.heap.size w w':=by
 obtain⟨neg,A,n,c,rfl,hi,hfr,hb⟩:=h
 exact⟨_,rfl,IL hi (fun b off e hv=>by have:=hav b hv;have:=hfr b off e;omega),hb⟩
theorem IsInt.sz {neg:Bool}{c:Nat}(h:IsInt w neg A n c x) (hs:Sz 100000000 x):n≤100000000:=h.le hs.1 hs.2
end
theorem Sz.mono (h:Sz k x) (hl:k≤l):Sz l x:=by
 have:=mv hl
 exact⟨by have:=h.1;omega,by have:=h.2;omega⟩
theorem Sz.m_ (h:Sz k x) (hl:k≤l:=by decide):Sz l x:=h.mono hl
theorem eP (h:Sz k x) (hl:k≤l:=by decide):Sz l x:=h.mono hl
theorem Tm (h:Sz l x:=by first|assumption|exact Sz.mono (by assumption) (by decide)):Sz l x:=h
theorem Sz.neg (h:Sz k x):Sz k (-x):=⟨h.2,by have:=h.1;omega⟩
theorem Sz.add (h:Sz k x) (h':Sz k y):Sz (k+1) (x+y):=by
 have:=dT k
 obtain⟨h1,h2⟩:=h
 obtain⟨h3,h4⟩:=h'
 constructor<;>omega
theorem Sz.abs:Sz k x↔(x.natAbs:Int)<pw k:=⟨fun h=>by have:=h.lt;have:=h.gt;omega,fun h=>⟨by omega,by omega⟩⟩
theorem Sz.mul (h:Sz k x) (h':Sz l y):Sz (k+l) (x*y):=by
 rw[Sz.abs] at*
 rw[pS,qv,Int.natCast_mul]
 have h1:=cU k
 generalize (x.natAbs:Int)=a at*
 have hb0:0≤(y.natAbs:Int):=by omega
 generalize (y.natAbs:Int)=b at*
 generalize pw k=p at*
 generalize pw l=q at*
 have h3:a*b≤(p-1)*(q-1):=qS (by omega) (by omega) hb0 (by omega)
 grind
theorem Sz.of_le (h:Sz k x) (hy:y.natAbs≤x.natAbs):Sz k y:=by
 rw[Sz.abs] at*;omega
theorem Sz.small (hk:3≤k) (h0: -9223372036854775808≤x) (h1:x≤9223372036854775807):Sz k x:=by
 have h3:pw 3=1000000000000000000000000000:=by decide
 have:=mv hk
 constructor<;>omega
section
theorem Co:Ok Tryz.prog 161 [dI x] [.c (.i .i64 (fk x 0))]:=⟨by kernel_rfl,fun av vs w hav h=>by
 obtain⟨vs⟩:=vs
 match vs,h.1,h with
 |[v],_,h=>
  obtain⟨neg,A,n,c,rfl,hi⟩:=lH h.uncons.1
  exact(PY neg A n c x w hi).mono fun e w' ⟨he,hb⟩=>⟨_,he,.i _ _,hb⟩⟩
theorem pq:Ok Tryz.prog 165 [dI x,dI y] [.c (.i .i64 (fk x y))]:=⟨by kernel_rfl,fun av vs w hav h=>by
 obtain⟨vs⟩:=vs
 match vs,h.1,h with
 |[v,u],_,h=>
  obtain⟨hv,hu⟩:=h.uncons
  replace hu:=hu.uncons.1
  obtain⟨neg,A,n,c,rfl,hi⟩:=lH hv
  obtain⟨neg',A',n',c',rfl,hi'⟩:=lH hu
  exact(QA neg neg' A A' n c n' c' x y w hi hi').mono fun e w' ⟨he,hb⟩=>⟨_,he,.i _ _,hb⟩⟩
theorem gU (hx:Sz 100000000 x) (hy:Sz 100000000 y):Ok Tryz.prog 166 [dI x,dI y] [dI (x*y)]:=⟨by kernel_rfl,fun av vs w hav h=>by
 obtain⟨vs⟩:=vs
 match vs,h.1,h with
 |[v,u],_,h=>
  obtain⟨hv,hu⟩:=h.uncons
  replace hu:=hu.uncons.1
  obtain⟨neg,A,n,c,rfl,hi⟩:=lH hv
  obtain⟨neg',A',n',c',rfl,hi'⟩:=lH hu
  exact(OO neg neg' A A' n c n' c' x y w hi hi' (hi.sz hx) (hi'.sz hy)).mono fun e w' h=>pW hav h⟩
theorem uL (hx:Sz 100000000 x) (hy:Sz 100000000 y):Ok Tryz.prog 291 [dI x,dI y] [dI (x+y)]:=⟨by kernel_rfl,fun av vs w hav h=>by
 obtain⟨vs⟩:=vs
 match vs,h.1,h with
 |[v,u],_,h=>
  obtain⟨hv,hu⟩:=h.uncons
  replace hu:=hu.uncons.1
  obtain⟨neg,A,n,c,rfl,hi⟩:=lH hv
  obtain⟨neg',A',n',c',rfl,hi'⟩:=lH hu
  exact(Dy neg neg' A A' n c n' c' x y w hi hi' (hi.sz hx) (hi'.sz hy)).mono fun e w' h=>pW hav h⟩
theorem UP (hx:Sz 100000000 x) (hy:Sz 100000000 y):Ok Tryz.prog 376 [dI x,dI y] [dI (x-y)]:=⟨by kernel_rfl,fun av vs w hav h=>by
 obtain⟨vs⟩:=vs
 match vs,h.1,h with
 |[v,u],_,h=>
  obtain⟨hv,hu⟩:=h.uncons
  replace hu:=hu.uncons.1
  obtain⟨neg,A,n,c,rfl,hi⟩:=lH hv
  obtain⟨neg',A',n',c',rfl,hi'⟩:=lH hu
  exact(Pa neg neg' A A' n c n' c' x y w hi hi' (hi.sz hx) (hi'.sz hy)).mono fun e w' h=>pW hav h⟩
theorem Aa (hx:Sz 100000000 x):Ok Tryz.prog 167 [dI x] [dI (-x)]:=⟨by kernel_rfl,fun av vs w hav h=>by
 obtain⟨vs⟩:=vs
 match vs,h.1,h with
 |[v],_,h=>
  obtain⟨neg,A,n,c,rfl,hi⟩:=lH h.uncons.1
  exact(Ps neg A n c x w hi (hi.sz hx)).mono fun e w' h=>pW hav h⟩
theorem jj (h0: -9223372036854775808≤x) (h1:x≤9223372036854775807):Ok Tryz.prog 163 [.c (.i .i64 x)] [dI x]:=⟨by kernel_rfl,fun av vs w hav h=>by
 obtain⟨vs⟩:=vs
 match vs,h.1,h with
 |[v],_,h=>
  obtain rfl:=fO h.uncons.1
  exact(IQ x w h0 h1).mono fun e w' h=>pW hav h⟩
end
section
variable {P:Program}{ops:Array Oper}{o:Oper}{T:TF}{B:BF}{V:Nat→Prop}{β:Nat→Nat}{a:Act}{w w':World}{av:Nat→Prop}
theorem Jf {R:Value→World→Prop}
 (h: ∀(o':Oper) (a':Act) (K:Act→World→Prop) (Q:Exit→Act→World→Prop),o'.op=o.op→a'.eval=a.eval→(∀v w',R v w'→K (a'.put o'.dst v) w')→o'.wp P a' w K Q):Gives P o a w R:=by
 have he:(⟨a.tmps.push undef,a.defers⟩:Act).eval=a.eval:=by
  funext x
  cases x with
  |tmp t=>
   show(a.tmps.push undef).getD t undef=a.tmps.getD t undef
   by_cases ht:t<a.tmps.size
   ·simp only[Array.getD,ht,Array.size_push,Nat.lt_succ_of_lt ht,dite_true]
    rw[Array.getInternal_eq_getElem,Array.getInternal_eq_getElem,Array.getElem_push_lt]
   ·by_cases he:t=a.tmps.size
    ·simp_all
    grind
  |_=>rfl
 have h1:=h {o with dst:=some a.tmps.size} ⟨a.tmps.push undef,a.defers⟩ (fun a'' w'=>a''.defers=a.defers∧ ∃v,a''.tmps[a.tmps.size]? =some v∧R v w') (fun _ _ _=>False) rfl he (fun v w' hv=>⟨rfl,v,by simp[Act.put],hv⟩)
 unfold Oper.wp at h1
 unfold Gives
 rw[he] at h1
 have e2:execOp a.eval {o with dst:=some a.tmps.size}=execOp a.eval o:=by cases o;rfl
 rw[e2] at h1
 have hput: ∀(v:Value) (w':World),(∃u,((⟨a.tmps.push undef,a.defers⟩:Act).put (some a.tmps.size) v).tmps[a.tmps.size]? =some u∧R u w')→R v w':=by
  rintro v w' ⟨u,hu,hR⟩
  simp[Act.put] at hu
  grind
 generalize (execOp a.eval o).run P w=r at*
 cases r with
 |ok n w'=>
  cases n<;>simp only[Oper.upon] at h1<;>simp only[Ey]
  case value v=>exact hput v w' h1.2
  case skip=>exact hput undef w' h1.2
  case enter f args=>
   refine h1.mono fun e w'' he=>?_
   cases e with
   |returned v=>exact⟨v,rfl,hput v w'' he.2⟩
   |panicked c=>exact he.elim
   |outgrown=>obtain⟨_,_,h⟩:=he;exact h.elim
  case defer d=>
   have:=h1.1
   simp[Act.put] at this
  case row row args=>exact h1.mono fun v w'' hv=>hput v w'' hv.2
 |halt x w'=>cases x<;>simp only[Oper.upon] at h1
theorem RC {x:Operand}{e:Int}
 (hx:cO T x=some (.v (.c (cL e)))) (hs:Sz 100000000 e) (hg:gd ops ⟨dst,.call ⟨.builtin .append,#[.const (.slice none 0 0),x],#[34,34]⟩,ty,pos,af,g⟩ T=some true):
 Sem Tryz.prog ops ⟨dst,.call ⟨.builtin .append,#[.const (.slice none 0 0),x],#[34,34]⟩,ty,pos,af,g⟩ T B (.r (.v (.c (cL e)))):=by
 refine⟨pF rfl,fun V β a w hsee=>⟨eL hsee hg,Jf fun o' a' K Q ho he hK=>?_⟩⟩
 have h1:RdC V w (a.eval x) (cL e):=aC hsee (x:=x) (by simp[Op.operands,Call.operands]) hx
 unfold cL at h1
 have hf: ∃A n c,a.eval x=.slice A n c:=by
  generalize hu:CellD.s (dJ e.natAbs).length ((dJ e.natAbs).map (CellD.i .u32))=u at h1
  generalize a.eval x=v at h1
  cases h1 with
  |s0 A c _=>exact⟨A,0,c,rfl⟩
  |s b off c sz n=>exact⟨_,n,c,rfl⟩
  |_=>cases hu
 obtain⟨A,n,c,hv⟩:=hf
 rw[hv] at h1
 obtain⟨g1,g2,g3,g4⟩:=yD h1
 have hl:=g1.len
 have hn:n≤100000000:=by
  rw[←hl]
  refine(jU e.natAbs).len (b8 _) ?_
  rw[co];exact Sz.abs.1 hs
 refine KZ (.const (.slice none 0 0)) x ho A n c (dJ e.natAbs) rfl (by rw[he];exact hv) ⟨g1,g2,g3,b8 _⟩ (by omega) ?_
 intro v' w' hown hgr
 refine hK v' w' ⟨?_,(fJ _ w).grown hgr (ck _) (by intro k hk;cases hk)⟩
 obtain⟨A',c',rfl⟩:=hown.form
 have hsl:=hown.sl
 have:=yp (av:=V) hsl.1 hsl.2.1 hsl.2.2.1 (fun b off e hV=>by have:=hown.fresh (k:=w.heap.size) (ck _) b off e;have:=hsee.av b hV;omega)
 show RdC V w' _ (cL e)
 unfold cL
 rw[hl]
 exact this
theorem Ub {x y:Operand}{k:IntKind}{m n:Int}
 (hx:cO T x=some (.v (.c (.i k m)))) (hy:cO T y=some (.v (.c (.i k n)))) (h0:n≠0) (hg:gd ops ⟨dst,.binOp .quo xt x y yt,ty,pos,af,g⟩ T=some true):
 Sem P ops ⟨dst,.binOp .quo xt x y yt,ty,pos,af,g⟩ T B (.r (.v (.c (.i k (k.wrap (m.tdiv n)))))):=
 bI hg (pF rfl) (fun V β a w hs=>by
  have e1:a.eval x=.int k m:=fO (aC hs (x:=x) (by simp[Op.operands]) hx)
  have e2:a.eval y=.int k n:=fO (aC hs (x:=y) (by simp[Op.operands]) hy)
  exact⟨.int k (k.wrap (m.tdiv n)),by simp[execOp,e1,e2,eqGuard,binOp,Op.intDiv,h0],.i _ _⟩)
theorem FA {x y:Operand}{k:IntKind}{m n:Int}
 (hx:cO T x=some (.v (.c (.i k m)))) (hy:cO T y=some (.v (.c (.i k n)))) (h0:n≠0) (hg:gd ops ⟨dst,.binOp .rem xt x y yt,ty,pos,af,g⟩ T=some true):
 Sem P ops ⟨dst,.binOp .rem xt x y yt,ty,pos,af,g⟩ T B (.r (.v (.c (.i k (m.tmod n))))):=
 bI hg (pF rfl) (fun V β a w hs=>by
  have e1:a.eval x=.int k m:=fO (aC hs (x:=x) (by simp[Op.operands]) hx)
  have e2:a.eval y=.int k n:=fO (aC hs (x:=y) (by simp[Op.operands]) hy)
  exact⟨.int k (m.tmod n),by simp[execOp,e1,e2,eqGuard,binOp,Op.intDiv,h0],.i _ _⟩)
theorem Af (h:RdC av w v (cL x)): ∃A n c,v=.slice A n c∧Sl w A n c (dJ x.natAbs)∧(∀b off,0<n→A=some ⟨b,off,none⟩→ ¬av b):=by
 have h1:=h
 unfold cL at h1
 have hf: ∃A n c,v=.slice A n c:=by
  generalize hu:CellD.s (dJ x.natAbs).length ((dJ x.natAbs).map (CellD.i .u32))=u at h1
  cases h1 with
  |s0 A c _=>exact⟨A,0,c,rfl⟩
  |s b off c sz n=>exact⟨_,n,c,rfl⟩
  |_=>cases hu
 obtain⟨A,n,c,rfl⟩:=hf
 obtain⟨g1,g2,g3,g4⟩:=yD h1
 exact⟨A,n,c,rfl,⟨g1,g2,g3,b8 _⟩,g4⟩
theorem iO (h:Sz k x):(dJ x.natAbs).length≤k:=by
 refine(jU x.natAbs).len (b8 _) ?_
 rw[co];exact Sz.abs.1 h
theorem Sx {c:Nat}{zs:List Int}{b:Nat}(h:Ow w' b (.slice A n c) n zs) (hav: ∀k,av k→k<b):RdC av w' (.slice A n c) (.l (val zs)):=
 .l A n c zs h.sl.1 h.sl.2.1 h.sl.2.2.1 h.sl.2.2.2 (fun b' off _ e hV=>by have:=h.fresh (ck _) b' off e;have:=hav b' hV;omega)
theorem yg (hx:Sz 100000000 x) (hy:Sz 100000000 y) (h0:y≠0):Ok Tryz.prog 348 [.c (cL x),.c (cL y)] [.c (.l ((x.natAbs:Int)/y.natAbs)),.c (.l ((x.natAbs:Int)%y.natAbs))]:=⟨by kernel_rfl,fun av vs w hav h=>by
 obtain⟨vs⟩:=vs
 match vs,h.1,h with
 |[v,u],_,h=>
  obtain⟨hv,hu⟩:=h.uncons
  replace hu:=hu.uncons.1
  obtain⟨A,n,c,rfl,ha,_⟩:=Af hv
  obtain⟨B,m,d,rfl,hb,_⟩:=Af hu
  have:=ha.len
  have:=hb.len
  have:=iO hx
  have:=iO hy
  refine(Kt A B n c m d _ _ w ha hb (by omega) (by omega) (by rw[co];omega)).mono ?_
  rintro e w' ⟨A',n',c',zs,B',m',d',ys,rfl,h1,h2,h3,h4,h5⟩
  rw[co,co] at h2 h4
  refine⟨_,rfl,⟨_,rfl,tw ?_ (tw ?_ RdL.nil)⟩,h5⟩
  ·rw[←h2];exact Sx h1 hav
  ·rw[←h4];exact Sx h3 hav⟩
theorem mq {neg:Bool}:Ok Tryz.prog 277 [.c (.b neg),.c (.l x)] [dI (sg neg x)]:=⟨by kernel_rfl,fun av vs w hav h=>by
 obtain⟨vs⟩:=vs
 match vs,h.1,h with
 |[v,u],_,h=>
  obtain⟨hv,hu⟩:=h.uncons
  replace hu:=hu.uncons.1
  obtain rfl:=vZ hv
  have hu0:RdC av w u (.l x):=hu
  generalize hq:CellD.l x=q at hu0
  cases hu0 with
  |l A n c xs h0 h1 h2 h3 h4=>
   injection hq with hq
   subst hq
   have hsl:Sl w A n c xs:=⟨h0,h1,h2,h3⟩
   refine(kh neg A n c xs w hsl).mono ?_
   rintro e w' ⟨rfl,hb⟩
   refine⟨_,rfl,?_,hb⟩
   have hi:=(iS hsl neg).below hb
   obtain⟨xs',g1,g2,g3,g4⟩:=id hi
   rcases li (trm xs).length with hz|hz
   ·have e0:trm xs=[]:=nJ.1 hz
    have ev:val xs=0:=by rw[←ja,e0];rfl
    rw[hz] at hi⊢
    have hsv:sg neg (val xs)=0:=by rw[ev];cases neg<;>rfl
    rw[hsv]
    refine⟨_,rfl,nE ?_ (nE ?_ ro)⟩
    ·simp;exact .b _
    ·unfold cL
     rw[show(0:Int).natAbs=0 from rfl,lT]
     exact .s0 A 0 (by omega)
   ·have hn:0<n:=by have:=uo xs;have:=h0.len;omega
    exact IL hi (fun b off e=>h4 b off hn e)
  |_=>cases hq⟩
theorem uv {neg:Bool}:Ok Tryz.prog 277 [.c (.b neg),.c (cL x)] [dI (sg neg x.natAbs)]:=⟨mq (neg:=neg) (x:=x.natAbs)|>.cal,fun av vs w hav h=>by
 refine mq.run av vs w hav ⟨h.1,fun j v d hv hd=>?_⟩
 match j,hd with
 |0,hd=>exact h.2 0 v d hv hd
 |1,hd=>
  injection hd with hd
  subst hd
  obtain⟨A,n,c,rfl,hs,hav'⟩:=Af (h.2 1 v _ hv rfl)
  have:=RdC.l (av:=av) A n c _ hs.1 hs.2.1 hs.2.2.1 hs.2.2.2 hav'
  rw[co] at this
  exact this
 |j+2,hd=>cases hd⟩
theorem NR {u:Int}(h0:0≤u) (h1:u≤18446744073709551615):Ok Tryz.prog 278 [.c (.i .u64 u)] [.c (.l u)]:=⟨by kernel_rfl,fun av vs w hav h=>by
 obtain⟨vs⟩:=vs
 match vs,h.1,h with
 |[v],_,h=>
  obtain rfl:=fO h.uncons.1
  refine(A5 u w h0 h1 (by omega)).mono ?_
  rintro e w' ⟨A,c,zs,rfl,g1,g2,g3⟩
  exact⟨_,rfl,by rw[←g2];exact Sx g1 hav,g3⟩⟩
theorem HA:Ok Tryz.prog 347 [dI x] [.c (.i .u64 (if x.natAbs<1000000000000000000 then x.natAbs else 0)),.c (.b (decide (x.natAbs<1000000000000000000)))]:=⟨by kernel_rfl,fun av vs w hav h=>by
 obtain⟨vs⟩:=vs
 match vs,h.1,h with
 |[v],_,h=>
  obtain⟨cs,hcs,hr⟩:=h.uncons.1
  subst hcs
  obtain⟨cs⟩:=cs
  match cs,hr.1,hr with
  |[a,b],_,hr=>
   obtain⟨h1,hr⟩:=hr.uncons
   have h2:=hr.uncons.1
   obtain rfl:=vZ h1
   obtain⟨A,n,c,rfl,hs,_⟩:=Af h2
   have hl:=hs.len
   have hp2:pw 2=1000000000000000000:=by decide
   by_cases hn:n≤2
   ·have hlt:x.natAbs<1000000000000000000:=by
     have h1:=fR (b8 x.natAbs)
     rw[co] at h1
     have h3:=mv (n:=(dJ x.natAbs).length) (m:=2) (by omega)
     omega
    have hfin: ∀(e:Ending) (w':World),e=.returned (.tuple #[.int .u64 (val (dJ x.natAbs)),.bool true])∧Below w.heap.size w w'→ ∃v,e=.returned v∧Xk av w' v [.c (.i .u64 (if x.natAbs<1000000000000000000 then x.natAbs else 0)),.c (.b (decide (x.natAbs<1000000000000000000)))]∧Below w.heap.size w w':=by
     rintro e w' ⟨rfl,hb⟩
     refine⟨_,rfl,⟨_,rfl,tw ?_ (tw ?_ RdL.nil)⟩,hb⟩
     ·rw[if_pos hlt,co];exact .i _ _
     ·rw[show decide (x.natAbs<1000000000000000000)=true from by simpa using hlt];exact .b _
    by_cases hn1:n≤1
    ·exact(PS _ A n c _ w hs hn1).mono hfin
    ·obtain rfl:n=2:=by omega
     exact(QO _ A c _ w hs).mono hfin
   ·have hge: ¬x.natAbs<1000000000000000000:=by
     have hne:dJ x.natAbs≠ []:=fun e=>by rw[e] at hl;simp at hl;omega
     have h1:=(jU x.natAbs).ge (b8 _) hne
     rw[co] at h1
     have h3:=mv (n:=2) (m:=(dJ x.natAbs).length-1) (by omega)
     omega
    refine(No _ A n c w (by omega)).mono ?_
    rintro e w' ⟨rfl,hb⟩
    refine⟨_,rfl,⟨_,rfl,tw ?_ (tw ?_ RdL.nil)⟩,hb⟩
    ·rw[if_neg hge];exact .i _ _
    ·rw[show decide (x.natAbs<1000000000000000000)=false from by simpa using hge];exact .b _⟩
end
def xF (P:Program) (U:TypeId):Option (TypeId×Nat×Nat×List CellD):=
 match P.underlying U with
 |some (.slice e)=>match P.info? e,AQ P e with
  |some i,some zs=>if Nat.beq i.size zs.length then some (e,i.size,i.bytes,zs) else none
  |_,_=>none
 |_=>none
section
variable {P:Program}{ops:Array Oper}{o:Oper}{T:TF}{B:BF}{V:Nat→Prop}{β:Nat→Nat}{a:Act}{w w':World}{av:Nat→Prop}
theorem jB (h:xF P U=some (e,m,by_,zs)):P.underlying U=some (.slice e)∧ ∃i z,P.info? e=some i∧i.zero=some z∧i.size=m∧i.bytes=by_∧zs.length=m∧ ∀(V:Nat→Prop) (w:World),RdCs V w z.cells.toList zs:=by
 unfold xF at h
 split at h
 ·rename_i e' hu
  split at h
  ·rename_i i zs' hi hz
   split at h
   ·rename_i hb
    injection h with h
    injection h with h1 h
    injection h with h2 h
    injection h with h3 h4
    subst h1 h2 h3 h4
    have hzc:=hz
    unfold AQ at hzc
    rw[hi] at hzc
    dsimp only at hzc
    cases hz0:i.zero with
    |none=>rw[hz0] at hzc;cases hzc
    |some z=>
     refine⟨hu,i,z,hi,hz0,rfl,rfl,(jv hb).symm,fun V w=>?_⟩
     obtain⟨it,z',hi',hz',hr⟩:=xu (V:=V) (w:=w) hz
     grind
   grind
  grind
 grind
theorem lU {l c:Operand}
 (hU:xF P U=some (e,1,by_,[z])) (hl:cO T l=some (.v (.c (.i kl n)))) (hc:cO T c=some (.v (.c (.i kc n)))) (hb:by_*n≤281474976710656) (h63:n≤9223372036854775807)
 (hg:gd ops ⟨dst,.makeSlice U l c,ty,pos,af,g⟩ T=some true):Sem P ops ⟨dst,.makeSlice U l c,ty,pos,af,g⟩ T B (.a e (List.replicate n z) (some n)):=fun V β a w hs=>⟨eL hs hg,by
 obtain⟨hu,i,zv,hi,hz,hsz,hby,_,hr⟩:=jB hU
 have e1:a.eval l=.int kl n:=fO (aC hs (x:=l) (by simp[Op.operands]) hl)
 have e2:a.eval c=.int kc n:=fO (aC hs (x:=c) (by simp[Op.operands]) hc)
 have hrun:=run_make (P:=P) w U e i zv hu hi hz kl kc n n (by omega) (by omega) (by rw[hby];have h2:((by_*n:Nat):Int)≤281474976710656:=Int.ofNat_le.2 hb;rw[Int.natCast_mul] at h2;exact h2) (by omega)
 have hrr:=hr V w
 unfold Gives
 have:(execOp a.eval ⟨dst,.makeSlice U l c,ty,pos,af,g⟩).run P w=.ok (.value (.slice (some ⟨w.heap.size,0,none⟩) n n)) (w.alloc (.cells (madeCells zv.cells (n*1)) e)):=by
  simp only[execOp,e1,e2,eM,hrun,fi,gK,hsz]
  simp
 rw[this]
 refine⟨_,rfl,rfl,by simp[madeCells],fun j v u hv hu=>?_⟩
 have hlen:zv.cells.size=1:=by have:=hrr.1;simpa using this
 simp only[madeCells,Nat.mul_one,hlen,Nat.mod_one,yH,Array.toList_range,r8] at hv
 cases hq:(List.range n)[j]? with
 |none=>rw[hq] at hv;cases hv
 |some q=>
  rw[hq] at hv
  injection hv with hv
  have hu2:u=z:=by grind
  subst hu2
  have hpos:0<zv.cells.size:=by omega
  have h0:zv.cells.toList[0]? =some (zv.cells[0]'hpos):=by grind
  have:=hrr.2 0 _ u h0 rfl
  rw[←hv]
  have e3:zv.cells[0]! =zv.cells[0]'hpos:=by grind
  rw[e3];exact this⟩
theorem jm {x:Operand}{c:Nat}
 (hU:xU P U=some m) (hx:cO T x=some (.o k n c)) (hg:gd ops ⟨dst,.call ⟨.builtin .len,#[x],#[U]⟩,ty,pos,af,g⟩ T=some true):
 Sem P ops ⟨dst,.call ⟨.builtin .len,#[x],#[U]⟩,ty,pos,af,g⟩ T B (.r (.v (.c (.i .i64 n)))):=
 bI hg (pF rfl) (fun V β a w hs=>by
  have e:a.eval x=.slice (some ⟨β k,0,none⟩) n c:=aC hs (x:=x) (by simp[Op.operands,Call.operands]) hx
  unfold xU at hU
  split at hU
  ·rename_i el hu
   refine⟨.int .i64 n,?_,.i _ _⟩
   simp[execOp,resolve,invoke,builtin,Builtin.len_,e,run_underlying hu,goInt]
  ·cases hU)
theorem bE {x:Operand}{c:Nat}
 (hU:xU P U=some m) (hx:cO T x=some (.o k n c)) (hi:cO T i=some (.v (.c (.i ki j)))) (hj:0≤j∧j<n) (hg:gd ops ⟨dst,.indexAddr U x i,ty,pos,af,g⟩ T=some true):
 Sem P ops ⟨dst,.indexAddr U x i,ty,pos,af,g⟩ T B (.r (.p k (j.toNat*m))):=
 bI hg (fun k' e=>by
  obtain rfl:k=k':=by injection e
  exact oi (ops:=ops) (o:=⟨dst,.indexAddr U x i,ty,pos,af,g⟩) (by simp[Op.operands]) hx rfl) (fun V β a w hs=>by
  have e:a.eval x=.slice (some ⟨β k,0,none⟩) n c:=aC hs (x:=x) (by simp[Op.operands]) hx
  have h2:=fO (aC hs (x:=i) (by simp[Op.operands]) hi)
  unfold xU at hU
  split at hU
  case h_2=>cases hU
  rename_i el hul
  cases hinf:P.info? el with
  |none=>rw[hinf] at hU;cases hU
  |some inf=>
   rw[hinf] at hU
   simp at hU
   refine⟨.pointer (some ⟨β k,j.toNat*m,none⟩),?_,rfl⟩
   have hso: ∀w,(sizeOf el).run P w=.ok m w:=fun w=>by unfold sizeOf typeInfo;simp[program,Sem.run,hinf,hU]
   simp[execOp,Instr.indexAt,e,h2,asIntOf,run_underlying hul,hj.1,hj.2,hso,kw])
theorem Bm {x:Operand}{xs:List CellD}
 (hU:xU P U=some m) (hx:cO T x=some (.v (.c (.s n xs)))) (hh:cO T h=some (.v (.c (.i ki j)))) (hj:0≤j∧j≤n) (hl:xs.length=n*m) (hu:xs.take (j.toNat*m)=us) (hg:gd ops ⟨dst,.slice U x none (some h) none,ty,pos,af,g⟩ T=some true):
 Sem P ops ⟨dst,.slice U x none (some h) none,ty,pos,af,g⟩ T B (.r (.v (.c (.s j.toNat us)))):=
 bI hg (pF rfl) (fun V β a w hs=>by
  have h1:=aC hs (x:=x) (by simp[Op.operands]) hx
  have h2:=fO (aC hs (x:=h) (by simp[Op.operands]) hh)
  generalize hv:a.eval x=v at h1
  have h1:RdC V w v (.s n xs):=h1
  unfold xU at hU
  split at hU
  case h_2=>cases hU
  rename_i el hul
  cases hinf:P.info? el with
  |none=>rw[hinf] at hU;cases hU
  |some inf=>
   rw[hinf] at hU
   simp at hU
   have hso: ∀w,(sizeOf el).run P w=.ok m w:=fun w=>by unfold sizeOf typeInfo;simp[program,Sem.run,hinf,hU]
   have hgen: ∀(A:Option Addr) (c:Nat),a.eval x=.slice A n c→j≤c→(execOp a.eval ⟨dst,.slice U x none (some h) none,ty,pos,af,g⟩).run P w=.ok (.value (.slice A j.toNat c)) w:=by
    intro A c e hjc
    simp[execOp,Instr.sliceAt,Instr.slice,run_underlying hul,e,h2,Instr.sliceBounds,Instr.sliceBound,asIntOf,hj.1,hjc,hso,Addr.add]
    try (cases A<;>rfl)
   cases h1 with
   |s0 A c hc=>
    grind
   |s b off c sz _ _ cv h0 hnc hcm hlen hb hav hc hr=>
    have hsz:sz=m:=by
     rw[hl] at hlen
     exact(Nat.eq_of_mul_eq_mul_left h0 hlen).symm
    refine⟨_,hgen _ c hv (by omega),?_⟩
    rcases li j.toNat with hj0|hj0
    ·rw[←hu,hj0];simp;exact .s0 _ c hcm
    ·have hjn:j.toNat≤n:=by omega
     have hmul:j.toNat*sz≤n*sz:=rI _ hjn
     refine .s b off c sz j.toNat us cv hj0 (by omega) hcm ?_ hb hav (fun q hq=>hc q (by omega)) (fun q u hq=>?_)
     ·grind
     ·rw[←hu,tH] at hq
      split at hq
      ·grind
      ·cases hq)
end
section
variable {P:Program}{ops:Array Oper}{o:Oper}{T:TF}{B:BF}{V:Nat→Prop}{β:Nat→Nat}{a:Act}{w w':World}{av:Nat→Prop}
theorem S1 (h:RdCs V w vs us): ∀v∈vs,v.oneCell'=true:=by
 intro v hv
 obtain⟨j,hj⟩:=List.getElem?_of_mem hv
 have hlt:j<us.length:=by rw[←h.1];exact(j9.1 hj).1
 have:=h.2 j v _ hj (gE hlt)
 generalize us[j]=u at this
 cases this with
 |x v h1 h2=>cases v<;>first|rfl|exact absurd rfl (h1 _)|exact absurd rfl (h2 _)
 |e v h1 h2=>cases v<;>first|rfl|exact absurd rfl (h1 _)|exact absurd rfl (h2 _)
 |_=>rfl
theorem KN {xs:List CellD}(h:RdC V w v (.s n xs)) (hl:xs.length=n*m):
 ∃(A:Option Addr) (c:Nat) (vs:List Value),v=.slice A n c∧RdCs V w vs xs∧(∀(j:Nat) (u:Value),vs[j]? =some u→ ∃b off,A=some ⟨b,off,none⟩∧w.cell? ⟨b,off+j,none⟩=some u):=by
 generalize hu:CellD.s n xs=u at h
 cases h with
 |s0 A c hc=>
  injection hu with h1 h2
  subst h1 h2
  exact⟨A,c,[],rfl,ro,fun j u hj=>by simp at hj⟩
 |s b off c sz n' xs' cv h0 hnc hcm hlen hb hav hcell hr=>
  injection hu with h1 h2
  subst h1 h2
  refine⟨_,c,(List.range (n*sz)).map cv,rfl,⟨by simp[hlen],fun j v u hv hu=>?_⟩,fun j u hj=>?_⟩
  ·grind
  grind
 |_=>cases hu
theorem Aw {xs:List CellD}(hU:xF P U=some (e,m,by_,zs)) (h:RdC V w v (.s n xs)) (hl:xs.length=n*m): ∃news,Src P m U v n news w∧RdCs V w news xs:=by
 obtain⟨A,c,vs,rfl,hr,hc⟩:=KN h hl
 obtain⟨hu,_⟩:=jB hU
 have hlen:vs.length=n*m:=by rw[hr.1,hl]
 have hcells: ∀w',(∀a:Addr,w'.cell? a=w.cell? a)→(Builtin.firstCells m n (.slice A n c)).run P w'=.ok vs.toArray w':=by
  intro w' hw
  cases A with
  |none=>
   have:vs=[]:=by
    cases vs with
    |nil=>rfl
    |cons u us=>obtain⟨b,off,e,_⟩:=hc 0 u rfl;cases e
   subst this;rfl
  |some A=>
   have:=run_loadCells_list (P:=P) w' A vs (fun j u hj=>by
    obtain⟨b,off,e,hcell⟩:=hc j u hj
    injection e with e
    subst e
    rw[kw,hw];exact hcell)
   rw[hlen] at this
   exact this
 exact⟨vs,⟨.inl ⟨e,hu⟩,fun _=>rfl,hcells w (fun _=>rfl),hcells w.drew (fun _=>rfl),hlen,S1 hr⟩,hr⟩
theorem zC {x y:Operand}{c q:Nat}{ys:List CellD}
 (hU:xF P U=some (e,m,by_,zs)) (hx:cO T x=some (.o k n c)) (hy:cO T y=some (.v (.c (.s q ys)))) (hb:B k=some (e,cs)) (hcs:cs.length=c*m) (hys:ys.length=q*m) (hm:0<m)
 (hgrow:c<n+q) (hnc:n≤c) (hbytes:(n+q)*by_≤140737488355328) (h63:n+q≤maxLen) (hus:cs.take (n*m)++ys=us)
 (hg:gd ops ⟨dst,.call ⟨.builtin .append,#[x,y],#[U,U]⟩,ty,pos,af,g⟩ T=some true):
 Sem P ops ⟨dst,.call ⟨.builtin .append,#[x,y],#[U,U]⟩,ty,pos,af,g⟩ T B (.c k (.v (.c (.s (n+q) us)))):=by
 refine⟨rfl,by rw[hb];simp,fun V β a w hs=>⟨eL hs hg,?_⟩⟩
 have e1:a.eval x=.slice (some ⟨β k,0,none⟩) n c:=aC hs (x:=x) (by simp[Op.operands,Call.operands]) hx
 have h2:RdC V w (a.eval y) (.s q ys):=aC hs (x:=y) (by simp[Op.operands,Call.operands]) hy
 obtain⟨news,hsrc,hrn⟩:=Aw hU h2 hys
 obtain⟨hu,i,z,hi,hz,hsz,hby,_,hzr⟩:=jB hU
 obtain⟨hvk,vs,ev,hr⟩:=hs.box k e cs hb
 subst hsz
 have hle:n*i.size≤cs.length:=by rw[hcs];exact rI _ hnc
 have hr2:=hr.take (n*i.size)
 have hlen:(vs.toList.take (n*i.size)).length=n*i.size:=by rw[hr2.1,gX];omega
 have hold:(Builtin.firstCells i.size n (.slice (some ⟨β k,0,none⟩) n c)).run P w.drew=.ok (vs.toList.take (n*i.size)).toArray w.drew:=by
  have:=run_loadCells_list (P:=P) w.drew ⟨β k,0,none⟩ (vs.toList.take (n*i.size)) (fun j u hj=>by
   rw[kw,iV]
   show w.cell? _=_
   rw[tH] at hj
   split at hj
   ·rw[dr ev,←hj];simp
   ·cases hj)
  rw[hlen] at this
  exact this
 have hrun:=run_append_grow_src (P:=P) (w:=w) U U ty e i z hu hi hz (some ⟨β k,0,none⟩) n c _ hold (a.eval y) q news hsrc hgrow (by have:maxLen=9223372036854775807:=rfl;omega) (growslice_fits hgrow (by rw[hby];exact hbytes))
 have hexec:(execOp a.eval ⟨dst,.call ⟨.builtin .append,#[x,y],#[U,U]⟩,ty,pos,af,g⟩).run P w=.ok (.value (.slice (some ⟨w.heap.size,0,none⟩) (n+q) (grownCap w (n+q) c e)))
  (w.drew.alloc (.cells ((vs.toList.take (n*i.size)++news).toArray++Builtin.zeroCells z.cells (grownCap w (n+q) c e-(n+q))) e)):=by
  simp only[execOp,resolve,invoke,builtin,eM,gK,fi,uw,ru,uk,e1]
  rw[hrun]
  rfl
 unfold Gives
 rw[hexec]
 have hbel:Below w.heap.size w (w.drew.alloc (.cells ((vs.toList.take (n*i.size)++news).toArray++Builtin.zeroCells z.cells (grownCap w (n+q) c e-(n+q))) e)):=(fJ _ w).drew.alloc (ck _) _
 refine⟨?_,hbel⟩
 have hkeep:Keep V (fun b=>V b∧b≠β k) w (w.drew.alloc (.cells ((vs.toList.take (n*i.size)++news).toArray++Builtin.zeroCells z.cells (grownCap w (n+q) c e-(n+q))) e)):=⟨hbel.size,fun b hb _=>hbel.block b hb,fun _ _ h=>h.1⟩
 have hrd:=(o8 hr2 hrn).keep hkeep
 rw[hus] at hrd
 have hlenr:(vs.toList.take (n*i.size)++news).length=(n+q)*i.size:=by rw[d6,hlen,hsrc.newsLen,tY]
 refine .s w.heap.size 0 (grownCap w (n+q) c e) i.size (n+q) us (fun j=>(vs.toList.take (n*i.size)++news).getD j undef) (by omega) (grownCap_ge _ _ _ _) ?_ (by rw[←hrd.1];exact hlenr) (by simp) (fun h=>by have:=hs.av _ h.1;omega) (fun j hj=>?_) (fun j u hj=>?_)
 ·exact grownCap_le_maxLen _ _ _ _ h63
 ·have hlt:j<(vs.toList.take (n*i.size)++news).length:=by omega
  rw[iV]
  show(w.drew.alloc _).cell? ⟨w.drew.heap.size,j,none⟩=_
  rw[dr (U:=e) (vs:=(vs.toList.take (n*i.size)++news).toArray++Builtin.zeroCells z.cells (grownCap w (n+q) c e-(n+q))) (heap_alloc_new w.drew _)]
  grind
 ·have hlt:j<(vs.toList.take (n*i.size)++news).length:=by rw[hrd.1];exact(j9.1 hj).1
  have hv:(vs.toList.take (n*i.size)++news)[j]? =some ((vs.toList.take (n*i.size)++news)[j]):=by grind
  simp only[List.getD,hv,Option.getD_some]
  exact hrd.2 j _ u hv hj
theorem qA {ps:Array (Nat×Operand)}{dps:List (Nat×D0)}
 (hU:xF P U=some (e,m,by_,zs)) (hp:uM T ps.toList=some dps) (hf:vm (fun i=>some (i*m,m)) (List.replicate n zs).flatten dps=some us) (hn:n*m≤16777216) (hm:0<n*m)
 (hg:gd ops ⟨dst,.buildSlice U n ps,ty,pos,af,g⟩ T=some true):Sem P ops ⟨dst,.buildSlice U n ps,ty,pos,af,g⟩ T B (.a e us (some n)):=fun V β a w hs=>⟨eL hs hg,by
 obtain⟨hu,i,z,hi,hz,hsz,hby,hzl,hzr⟩:=jB hU
 obtain⟨h1,h2⟩:=pt hs ps.toList dps (fun p hp=>by simp only[Op.operands,List.mem_toArray,pp];exact⟨p,hp,rfl⟩) hp
 subst hsz
 have hzs:z.cells.size=i.size:=by have:=(hzr V w).1;rw[hzl] at this;simpa using this
 have hzero:RdCs V w ((Array.range (n*i.size)).map (z.cells[· %z.cells.size]!)).toList (List.replicate n zs).flatten:=by
  have key: ∀(n:Nat),RdCs V w ((List.range (n*i.size)).map (fun j=>z.cells[j%z.cells.size]!)) (List.replicate n zs).flatten:=by
   intro n
   induction n with
   |zero=>simp;exact ro
   |succ n ih=>
    rw[Nat.succ_mul,List.range_add,rV,List.replicate_succ',List.flatten_append]
    refine o8 ih ?_
    have e2:(List.map (fun x=>n*i.size+x) (List.range i.size)).map (fun j=>z.cells[j%z.cells.size]!)=z.cells.toList:=by
     apply yN (by simp[hzs])
     intro j h1 h2
     simp at h1
     simp only[List.getElem_map,List.getElem_range,hzs]
     rw[Nat.mul_comm n,Nat.mul_add_mod,sN (by omega),getElem!_pos z.cells j (by omega)]
     simp
    grind
  have:=key n
  simpa using this
 obtain⟨cells,hfl,hrd⟩:=tO _ dps _ _ us h1 h2 hzero hf
 have hrun:=run_buildSlice (P:=P) w U e n (ps.map fun(i,x)=>(i,a.eval x)) cells i z hu hi hz (by have:(2:Nat)^24=16777216:=rfl;omega) (by omega) (by simpa using hfl)
 unfold Gives
 have:(execOp a.eval ⟨dst,.buildSlice U n ps,ty,pos,af,g⟩).run P w=.ok (.value (.slice (some ⟨w.heap.size,0,none⟩) n n)) (w.alloc (.cells cells e)):=by
  simp only[execOp,eM,hrun,fi,gK]
 rw[this]
 exact⟨cells,rfl,rfl,hrd⟩⟩
end
section
variable {P:Program}{σ:St}{Q:Exit→St→Prop}
theorem Rel.upd {a:Act}(h:Rel av w0 n T B β a w) {x:DV}(hv:a.tmps[t]? =some v)
 (hx:RdX (fun b=>av b∨ ∃k,B k≠none∧β k=b) w β v x) (hr:mN x=none):Rel av w0 n (fun s=>if t=s then some x else T s) B β a w:=
 ⟨h.dfr,h.siz,h.bel,h.avl,h.avE,h.big,h.fix,h.inj,h.own,fun s y k hs hy=>by
  try dsimp only at hs
  split at hs
  ·injection hs with hs;subst hs;rw[hr] at hy;cases hy
  ·exact h.wf s y k hs hy,h.sees.av,h.sees.box,fun s y hL hs=>by
  try dsimp only at hs
  split at hs
  ·rename_i e;injection hs with hs;subst hs;subst e;exact⟨v,hv,hx⟩
  ·exact h.sees.tmp s y hL hs⟩
theorem pr {ι:Type}{x y:Code}(J:ι→St) (h1:Dw P x σ (Fh (fun σ'=> ∃j,Sub σ' (J j)) Q)) (h2: ∀j,Dw P y (J j) Q):Dw P (.seq x y) σ Q:=by
 refine ae (h1.mono fun e σ' h=>?_)
 cases e with
 |normal=>obtain⟨j,hs⟩:=h;exact(h2 j).weak hs
 |_=>exact h
theorem Rel.release {a:Act}(hr:Rel av w0 N (St.T ⟨N,tm,bx⟩) (St.B ⟨N,tm,bx⟩) β a w)
 (ht:aQ t tm=some (.o k n' c')) (hb:aQ k bx=some (U,cs)) (hm:cs.length=c'*m) (hn:n'≤c') (hc:c'≤9223372036854775807) (hu:cs.take (n'*m)=us):
 Rel av w0 N (St.T ⟨N,(t,.v (.c (.s n' us)))::kX k tm,jT k bx⟩) (St.B ⟨N,(t,.v (.c (.s n' us)))::kX k tm,jT k bx⟩) β a w:=by
 obtain⟨v,hv,hx⟩:=hr.sees.tmp t _ trivial ht
 have hx:v=.slice (some ⟨β k,0,none⟩) n' c':=hx
 subst hx
 obtain⟨hvk,vs,ev,hrd⟩:=hr.sees.box k U cs hb
 have hk0:(St.B ⟨N,tm,bx⟩) k≠none:=by rw[show(St.B ⟨N,tm,bx⟩) k=some (U,cs) from hb];simp
 have e:=FK hr hk0
 have hkeep:Keep (fun b=>av b∨ ∃l,(St.B ⟨N,tm,bx⟩) l≠none∧β l=b) (fun b=>(av b∨ ∃l,(St.B ⟨N,tm,bx⟩) l≠none∧β l=b)∧b≠β k) w w:=⟨Nat.le_refl _,fun _ _ _=>rfl,fun _ _ h=>h.1⟩
 have hle:n'*m≤cs.length:=by rw[hm];exact rI _ hn
 have hread:RdC (fun b=>(av b∨ ∃l,(St.B ⟨N,tm,bx⟩) l≠none∧β l=b)∧b≠β k) w (.slice (some ⟨β k,0,none⟩) n' c') (.s n' us):=by
  rcases li n' with h0|h0
  ·subst h0
   rw[←hu];simp
   exact .s0 _ _ hc
  ·have hr2:=(hrd.take (n'*m)).keep hkeep
   rw[hu] at hr2
   have hvl:n'*m≤vs.size:=by have:=hrd.1;simp at this;omega
   refine .s (β k) 0 c' m n' us (fun j=>vs.getD j undef) h0 hn hc ?_ (hr.sees.av _ hvk) (fun h=>h.2 rfl) (fun j hj=>?_) (fun j u hj=>?_)
   ·grind
   ·rw[iV,dr ev]
    have:j<vs.size:=by omega
    simp[Array.getD,this]
   ·have hlt:j<us.length:=(j9.1 hj).1
    have hlt2:j<n'*m:=by grind
    refine hr2.2 j _ u ?_ hj
    rw[tH,if_pos hlt2,vE]
    have:j<vs.size:=by omega
    simp[Array.getD,this]
 have h2:=(hr.drop k).upd (t:=t) (x:=.v (.c (.s n' us))) hv (by rw[e];exact hread) rfl
 refine h2.congr (fun s=>?_) (fun l=>?_)
 ·show aQ s ((t,.v (.c (.s n' us)))::kX k tm)=_
  rw[b7]
  split
  ·rfl
  ·rw[nW]
   show _=ol k (fun s=>aQ s tm) s
   unfold ol
   grind
 ·exact mp k l bx
theorem d7 
 (ht:aQ t tm=some (.o k n' c')) (hb:aQ k bx=some (U,cs)) (hm:cs.length=c'*m) (hn:n'≤c') (hc:c'≤9223372036854775807) (hu:cs.take (n'*m)=us)
 (h:Dw P c ⟨N,(t,.v (.c (.s n' us)))::kX k tm,jT k bx⟩ Q):Dw P c ⟨N,tm,bx⟩ Q:=fun av w0 β a w hr=>h av w0 β a w (hr.release ht hb hm hn hc hu)
end
end Go.Proofs.YtegpmhlfjkhjmaaGreat
namespace Go.Proofs.YtegpmhlfjkhjmaaGreat
open Go.ChangeShapes Go.WideShapes Go.ChangeAt Go.RowKit Go.Deep
variable {cs:List Value}{base fuel n:Nat}{W w:World}
theorem own:ownKnob Tryz.prog.godebug=none:=by kernel_rfl
theorem FM:laidOutB Tryz.prog=true:=by kernel_rfl
def Z4:Nat→Prop:=fun _=>False
section
variable {H:Type}{enc:TypeId×Value→H}{w:World}{base:Nat}{spare:Nat→Bool}{held:Bool}
set_option maxRecDepth 100000 in
theorem My {x:DataW H×List MemPlace}(h:DataW.trod enc Tryz.prog w base spare held fuel 72 cs=some x):
 ∃x y:Int,-9223372036854775808≤x∧x≤9223372036854775807∧ -9223372036854775808≤y∧y≤9223372036854775807∧RdCs Z4 w cs ([.i .i64 x]++[.i .i64 y]):=by
 obtain⟨xs,n,_,_,hcl,hxl,hf⟩:=DataW.trod_struct (P:=Tryz.prog) Tryz.underlying72 h
 have hcl:cs.length=2:=hcl.trans (by kernel_rfl)
 have hxl:xs.length=2:=hxl.trans (by kernel_rfl)
 match cs,hcl with
 |[c0,c1],_=>
  have h0:DataW.trod enc Tryz.prog w base spare held n 2 [c0]=xs[0]? :=hf 0 _ rfl
  have h1:DataW.trod enc Tryz.prog w base spare held n 2 [c1]=xs[1]? :=hf 1 _ rfl
  rw[gE (by omega)] at h0 h1
  obtain⟨x,e,_,hx⟩:=r6 (P:=Tryz.prog) vr h0
  obtain⟨y,e',_,hy⟩:=r6 (P:=Tryz.prog) vr h1
  simp at e e'
  subst e e'
  simp[Lit.wf,IntKind.min,IntKind.max,IntKind.signed,IntKind.bits] at hx hy
  exact⟨x,y,by omega,by omega,by omega,by omega,nE (.i _ _) (nE (.i _ _) ro)⟩
set_option maxRecDepth 100000 in
theorem aac {x:DataW H×List MemPlace}(h:DataW.trod enc Tryz.prog w base spare held fuel 74 cs=some x):
 ∃a1 a2 b1 b2 r s z f:Int,-9223372036854775808≤s∧s≤9223372036854775807∧RdCs Z4 w cs (([.i .i64 a1]++[.i .i64 a2])++([.i .i64 b1]++[.i .i64 b2])++[.i .i64 r]++[.i .i64 s]++[.i .i64 z]++[.i .i64 f]):=by
 obtain⟨xs,n,_,_,hcl,hxl,hf⟩:=DataW.trod_struct (P:=Tryz.prog) Tryz.underlying74 h
 have hcl:cs.length=8:=hcl.trans (by kernel_rfl)
 have hxl:xs.length=6:=hxl.trans (by kernel_rfl)
 match cs,hcl with
 |[c0,c1,c2,c3,c4,c5,c6,c7],_=>
  have h0:DataW.trod enc Tryz.prog w base spare held n 72 [c0,c1]=xs[0]? :=hf 0 _ rfl
  have h1:DataW.trod enc Tryz.prog w base spare held n 72 [c2,c3]=xs[1]? :=hf 1 _ rfl
  have h2:DataW.trod enc Tryz.prog w base spare held n 2 [c4]=xs[2]? :=hf 2 _ rfl
  have h3:DataW.trod enc Tryz.prog w base spare held n 2 [c5]=xs[3]? :=hf 3 _ rfl
  have h4:DataW.trod enc Tryz.prog w base spare held n 2 [c6]=xs[4]? :=hf 4 _ rfl
  have h5:DataW.trod enc Tryz.prog w base spare held n 2 [c7]=xs[5]? :=hf 5 _ rfl
  rw[gE (by omega)] at h0 h1 h2 h3 h4 h5
  obtain⟨a1,a2,_,_,_,_,r0⟩:=My h0
  obtain⟨b1,b2,_,_,_,_,r1⟩:=My h1
  obtain⟨r,e2,_,g2⟩:=r6 (P:=Tryz.prog) vr h2
  obtain⟨s,e3,_,g3⟩:=r6 (P:=Tryz.prog) vr h3
  obtain⟨z,e4,_,g4⟩:=r6 (P:=Tryz.prog) vr h4
  obtain⟨f,e5,_,g5⟩:=r6 (P:=Tryz.prog) vr h5
  simp at e2 e3 e4 e5
  subst e2 e3 e4 e5
  simp[Lit.wf,IntKind.min,IntKind.max,IntKind.signed,IntKind.bits] at g3
  have k: ∀q:Int,RdCs Z4 w [Value.int .i64 q] [.i .i64 q]:=fun q=>nE (.i _ _) ro
  exact⟨a1,a2,b1,b2,r,s,z,f,by omega,by omega,o8 (o8 (o8 (o8 (o8 r0 r1) (k r)) (k s)) (k z)) (k f)⟩
theorem YO {f:FuncId}{ds:List D0}{vs:Array Value}(h:Ok Tryz.prog f ds [.c (.b true)]) (hr:RdL Z4 W vs.toList ds):Calls Tryz.prog f vs W fun e W'=>e=.returned (.bool true)∧Below W.heap.size W W':=
 (h.run Z4 vs W (fun _ h=>h.elim) hr).mono fun e w' ⟨v,e1,h1,h2⟩=>by
  have:=vZ h1
  subst this
  exact⟨e1,h2⟩
end
theorem CX {P:Program}{r:Reach}{t e:TypeId}{v:Value}(ht:P.underlying t=some (.array n e)) (h:Value.okWide P w r base t v): ∃cs,v=.agg cs:=by
 simp only[Value.okWide,ht] at h
 obtain⟨cs,h1,_⟩:=h
 exact⟨cs,h1⟩
section
variable {H:Type}{enc:TypeId×Value→H}{w:World}{base:Nat}{spare:Nat→Bool}{held:Bool}
theorem aa3 {x:DataW H×List MemPlace}(h:DataW.trod enc Tryz.prog w base spare held fuel 75 cs=some x):
 ∃x y:Int,-9223372036854775808≤x∧x≤9223372036854775807∧ -9223372036854775808≤y∧y≤9223372036854775807∧RdCs Z4 w cs ([.i .i64 x]++[.i .i64 y]):=by
 obtain⟨xs,n,_,_,hcl,hxl,hf⟩:=DataW.trod_array (P:=Tryz.prog) Tryz.underlying75 h
 have hcl:cs.length=2:=hcl.trans (by kernel_rfl)
 have hce:Tryz.prog.cellsOf 2=1:=by kernel_rfl
 rw[hce] at hf
 match cs,hcl with
 |[c0,c1],_=>
  have h0:DataW.trod enc Tryz.prog w base spare held n 2 [c0]=xs[0]? :=hf 0 (by omega)
  have h1:DataW.trod enc Tryz.prog w base spare held n 2 [c1]=xs[1]? :=hf 1 (by omega)
  rw[gE (by omega)] at h0 h1
  obtain⟨x,e,_,hx⟩:=r6 (P:=Tryz.prog) vr h0
  obtain⟨y,e',_,hy⟩:=r6 (P:=Tryz.prog) vr h1
  simp at e e'
  subst e e'
  simp[Lit.wf,IntKind.min,IntKind.max,IntKind.signed,IntKind.bits] at hx hy
  exact⟨x,y,by omega,by omega,by omega,by omega,nE (.i _ _) (nE (.i _ _) ro)⟩
theorem abi {x:DataW H×List MemPlace}(h:DataW.trod enc Tryz.prog w base spare held fuel 76 cs=some x):
 ∃x y:Int,-128≤x∧x≤127∧ -128≤y∧y≤127∧RdCs Z4 w cs ([.i .i8 x]++[.i .i8 y]):=by
 obtain⟨xs,n,_,_,hcl,hxl,hf⟩:=DataW.trod_array (P:=Tryz.prog) Tryz.underlying76 h
 have hcl:cs.length=2:=hcl.trans (by kernel_rfl)
 have hce:Tryz.prog.cellsOf 52=1:=by kernel_rfl
 rw[hce] at hf
 match cs,hcl with
 |[c0,c1],_=>
  have h0:DataW.trod enc Tryz.prog w base spare held n 52 [c0]=xs[0]? :=hf 0 (by omega)
  have h1:DataW.trod enc Tryz.prog w base spare held n 52 [c1]=xs[1]? :=hf 1 (by omega)
  rw[gE (by omega)] at h0 h1
  obtain⟨x,e,_,hx⟩:=r6 (P:=Tryz.prog) Tryz.underlying52 h0
  obtain⟨y,e',_,hy⟩:=r6 (P:=Tryz.prog) Tryz.underlying52 h1
  simp at e e'
  subst e e'
  simp[Lit.wf,IntKind.min,IntKind.max,IntKind.signed,IntKind.bits] at hx hy
  exact⟨x,y,by omega,by omega,by omega,by omega,nE (.i _ _) (nE (.i _ _) ro)⟩
end
end Go.Proofs.YtegpmhlfjkhjmaaGreat
namespace Go.Proofs.YtegpmhlfjkhjmaaGreat
open Go.ChangeShapes Go.WideShapes Go.ChangeAt Go.RowKit
theorem Kn:Tryz.pinned.checked.prog.funcNamed Rows.trochoidAngleRow.func=some 6:=by kernel_rfl
theorem JL:joinedFacts Tryz.pinned.checked.prog 6 Tryz.f6 Rows.trochoidAngleSpec Rows.trochoidAngleRow=true:=by kernel_rfl
end Go.Proofs.YtegpmhlfjkhjmaaGreat
namespace Go.Proofs.YtegpmhlfjkhjmaaGreat
open Go Go.RowKit
variable {op:BinOp}{f:FuncId}{a e:Int}{kk:IntKind}{ax fo:Operand}
section
variable {P:Program}{ops:Array Oper}{T:TF}{B:BF}{dst:Option Nat}{x y c:Operand}{ty U W xt yt:TypeId}{pos:String}{af:Array Edge}{g:Option (Nat×Bool)}{dv:DV}{k off n m:Nat}{cs us:List CellD}{u:CellD}
theorem bJ (h:(cO T x,gd ops ⟨dst,.move x,ty,pos,af,g⟩ T)=(some dv,some true)):Sem P ops ⟨dst,.move x,ty,pos,af,g⟩ T B (.r dv):=HT (congrArg Prod.fst h) (congrArg Prod.snd h)
theorem lp (hU:sG P U=some (false,n)) (h:(cO T x,B k,cs[off]?,gd ops ⟨dst,.load U x,ty,pos,af,g⟩ T)=(some (.p k off),some (W,cs),some u,some true)):Sem P ops ⟨dst,.load U x,ty,pos,af,g⟩ T B (.r (.v (.c u))):=
 pQ hU (congrArg Prod.fst h) (congrArg (fun q=>q.2.1) h) (congrArg (fun q=>q.2.2.1) h) (congrArg (fun q=>q.2.2.2) h)
theorem nt (us:List CellD) (hU:sG P U=some (true,n)) (h:(cO T x,B k,(cs.drop off).take n,us.length,gd ops ⟨dst,.load U x,ty,pos,af,g⟩ T)=(some (.p k off),some (W,cs),us,n,some true)):Sem P ops ⟨dst,.load U x,ty,pos,af,g⟩ T B (.r (.v (.a us))):=
 cD hU (congrArg Prod.fst h) (congrArg (fun q=>q.2.1) h) (congrArg (fun q=>q.2.2.1) h) (congrArg (fun q=>q.2.2.2.1) h) (congrArg (fun q=>q.2.2.2.2) h)
theorem fv (us:List CellD) (hU:sG P U=some (true,n)) (h:(cO T x,B k,us.length,gd ops ⟨dst,.load U x,ty,pos,af,g⟩ T)=(some (.p k off),some (W,cs),n,some true)) (hu:(cs.drop off).take n=us):Sem P ops ⟨dst,.load U x,ty,pos,af,g⟩ T B (.r (.v (.a us))):=
 cD hU (congrArg Prod.fst h) (congrArg (fun q=>q.2.1) h) hu (congrArg (fun q=>q.2.2.1) h) (congrArg (fun q=>q.2.2.2) h)
theorem j5 (hU:sG P U=some (true,n)) (h:(cO T x,B k,cs.length,gd ops ⟨dst,.load U x,ty,pos,af,g⟩ T)=(some (.p k 0),some (W,cs),n,some true)):Sem P ops ⟨dst,.load U x,ty,pos,af,g⟩ T B (.r (.v (.a cs))):=
 cD hU (congrArg Prod.fst h) (congrArg (fun q=>q.2.1) h) (by rw[wC];exact kZ (qe (congrArg (fun q=>q.2.2.1) h))) (congrArg (fun q=>q.2.2.1) h) (congrArg (fun q=>q.2.2.2) h)
theorem pM (hn:us.length=n) (hU:sG P U=some (true,n)) (h:(cO T x,B k,gd ops ⟨dst,.load U x,ty,pos,af,g⟩ T)=(some (.p k 0),some (W,us),some true)):Sem P ops ⟨dst,.load U x,ty,pos,af,g⟩ T B (.r (.v (.a us))):=
 cD hU (congrArg Prod.fst h) (congrArg (fun q=>q.2.1) h) (by rw[wC];exact kZ (qe hn)) hn (congrArg (fun q=>q.2.2) h)
theorem bF (r:Int) (hb:Dj op kk a e=some r) (h:(cO T x,cO T y,gd ops ⟨dst,.binOp op xt x y yt,ty,pos,af,g⟩ T)=(some (.v (.c (.i kk a))),some (.v (.c (.i kk e))),some true)):Sem P ops ⟨dst,.binOp op xt x y yt,ty,pos,af,g⟩ T B (.r (.v (.c (.i kk r)))):=
 er (congrArg Prod.fst h) (congrArg (fun q=>q.2.1) h) hb (congrArg (fun q=>q.2.2) h)
theorem dG {b:Bool}(h:(cO T x,cO T y,Vt op a e,gd ops ⟨dst,.binOp op xt x y yt,ty,pos,af,g⟩ T)=(some (.v (.c (.i kk a))),some (.v (.c (.i kk e))),some b,some true)):
 Sem P ops ⟨dst,.binOp op xt x y yt,ty,pos,af,g⟩ T B (.r (.v (.c (.b b)))):=LC (congrArg Prod.fst h) (congrArg (fun q=>q.2.1) h) (congrArg (fun q=>q.2.2.1) h) (congrArg (fun q=>q.2.2.2) h)
theorem eQ (hU:sG P U=some (true,m)) (h:(cO T ax,cO T x,B k,us.length,cs.length,gd ops ⟨none,.store U ax x,ty,pos,af,g⟩ T)=(some (.p k 0),some (.v (.a us)),some (W,cs),m,m,some true)):
 Sem P ops ⟨none,.store U ax x,ty,pos,af,g⟩ T B (.s k W us):=dN hU (congrArg Prod.fst h) (congrArg (fun q=>q.2.1) h) (congrArg (fun q=>q.2.2.1) h) (congrArg (fun q=>q.2.2.2.1) h) (congrArg (fun q=>q.2.2.2.2.1) h) (congrArg (fun q=>q.2.2.2.2.2) h)
theorem dg {args:Array Operand}{at_:Array TypeId}{ds rs:List D0}(h:(cO T fo,qK T args.toList,gd ops ⟨dst,.call ⟨.value fo,args,at_⟩,ty,pos,af,g⟩ T)=(some (.v (.c (.f f))),some ds,some true)) (hok:Ok P f ds rs):
 Sem P ops ⟨dst,.call ⟨.value fo,args,at_⟩,ty,pos,af,g⟩ T B (.r (xV rs)):=Ry (congrArg Prod.fst h) (congrArg (fun q=>q.2.1) h) hok (congrArg (fun q=>q.2.2) h)
end
section
variable {P:Program}{σ:St}{Q:Exit→St→Prop}{n t:Nat}{tm:List (Nat×DV)}{bx:List (Nat×TypeId×List CellD)}{rt:List ResultVar}{ds rs:List D0}
theorem bq {id:Nat}{l:List Oper}(h:dl P l.toArray l σ (Q .normal)) (hn:NM l.toArray σ.n=true:=by kernel_rfl):Dw P (.region id l.toArray false) σ Q:=AB hn h
theorem Ok.fn {fn:Func}{c:Code}(hf:P.funcs[f]? =some fn) (n:Nat) (rt:List ResultVar) (hb:fn.body=some c) (h:Dw P c ⟨n,mU 0 ds,[]⟩ fun e σ=>(e=.normal∨e=.ret)∧qP P σ rt=some rs)
 (hcal:fT P f=true:=by kernel_rfl) (hlen:Nat.ble ds.length fn.ntmps=true:=by rfl) (hn:fn.ntmps=n:=by rfl) (hr:fn.results.toList=rt:=by rfl):Ok P f ds rs:=by
 subst hn hr
 exact Ok.of hcal hf hb hlen h
theorem ai (h:qP P σ rt=some rs):(Exit.ret=.normal∨Exit.ret=.ret)∧qP P σ rt=some rs:=⟨.inr rfl,h⟩
theorem Ji (h:qP P σ rt=some rs):(Exit.normal=.normal∨Exit.normal=.ret)∧qP P σ rt=some rs:=⟨.inl rfl,h⟩
theorem ak {d:D0}(hr:qP P ⟨n,tm,bx⟩ rt=some ds) (h:aQ t tm=some (.v d):=by rfl):qP P ⟨n,tm,bx⟩ (.tmp t::rt)=some (d::ds):=Sj h hr
theorem bj {U W:TypeId}{m k off:Nat}{cs us:List CellD}(hU:sG P U=some (true,m)) (h:(aQ t tm,aQ k bx,(cs.drop off).take m,us.length)=(some (.p k off),some (W,cs),us,m))
 (hr:qP P ⟨n,tm,bx⟩ rt=some ds):qP P ⟨n,tm,bx⟩ (.cell t U::rt)=some (.a us::ds):=mw hU (congrArg Prod.fst h) (congrArg (fun q=>q.2.1) h) (congrArg (fun q=>q.2.2.1) h) (congrArg (fun q=>q.2.2.2) h) hr
end
end Go.Proofs.YtegpmhlfjkhjmaaGreat
