/-Data:code;a function's contract from its body. -/
import Derived.Test.YtkfgimjmgfoneaaGreatDoorVfD
import Derived.Laws.MakeOwn
import Derived.Deep.AppendSrc
import Derived.Great.BuildSlice
namespace Go.Proofs.YtkfgimjmgfoneaaGreatDoor
open Go Go.RowKit
variable {B:BF}{op:BinOp}{b q:Bool}{u z:CellD}{c:Code}{d:D0}{w0:Ent}{Q:Exit→St→Prop}{f:FuncId}{j x y:Int}{kc ki kk kl:IntKind}{tm tm':List (Nat×DV)}{bx bx':List (Nat×TypeId×List CellD)}{cs us zs:List CellD}{ds:List D0}{xs:List Int}{l pre tail:List Oper}{rs:List ResultVar}{vs:List Value}{N by_ c' id k m n n' off:Nat}{a:Nat×TypeId×List CellD}{β:Nat→Nat}{av:Nat→Prop}{ax fo h i:Operand}{A:Option Addr}{σ':St}{T:TF}{U W e t1 t2 xt yt:TypeId}{v:Value}{w:World}
variable {ty:TypeId}{pos:String}{af:Array Edge}{g:Option (Nat×Bool)}{dst:Option Nat}
theorem iM:type_of% @RdC.int_eq:=@RdC.int_eq
theorem gP:type_of% @Nat.add_mul:=@Nat.add_mul
theorem nf:type_of% @Nat.mul_le_mul_right:=@Nat.mul_le_mul_right
theorem mR:type_of% @List.map_cons:=@List.map_cons
theorem ru:type_of% @RdC.bool_eq:=@RdC.bool_eq
theorem ol:type_of% @Bool.cond_eq_ite:=@Bool.cond_eq_ite
theorem p9:type_of% @List.map_toArray:=@List.map_toArray
theorem p8:type_of% @List.map_nil:=@List.map_nil
theorem qO:type_of% @List.map_append:=@List.map_append
def Dw (P:Program) (c:Code) (σ:St) (Q:Exit→St→Prop):Prop:= ∀av w0 β a w,Rel av w0 σ.n σ.T σ.B β a w→
 c.wp P (fun e a' w'=> ∃σ' β',σ'.n=σ.n∧Q e σ'∧Rel av w0 σ'.n σ'.T σ'.B β' a' w') a w
def xK (K:St→Prop) (Q:Exit→St→Prop):Exit→St→Prop
 | .normal,σ=>K σ
 |e,σ=>Q e σ
def Kp (id:Nat) (Q:Exit→St→Prop):Exit→St→Prop
 | .exit id',σ=>bif Nat.beq id' id then Q .normal σ else Q (.exit id') σ
 |e,σ=>Q e σ
section
variable {P:Program}{σ:St}{Q Q':Exit→St→Prop}
theorem Dw.mono (h:Dw P c σ Q) (hq: ∀e σ',Q e σ'→Q' e σ'):Dw P c σ Q':=fun av w0 β a w hr=>
 Code.wp_mono (fun _ _ _ ⟨σ',β',h1,h2,h3⟩=>⟨σ',β',h1,hq _ _ h2,h3⟩) (h av w0 β a w hr)
theorem az (h:Q .normal σ):Dw P .skip σ Q:=fun _ _ β _ _ hr=>wp_skip ⟨σ,β,rfl,h,hr⟩
theorem bh (h:Q .ret σ):Dw P .ret σ Q:=fun _ _ β _ _ hr=>wp_ret ⟨σ,β,rfl,h,hr⟩
theorem aW (h:Q (.exit id) σ):Dw P (.exit id) σ Q:=fun _ _ β _ _ hr=>wp_exit ⟨σ,β,rfl,h,hr⟩
theorem ab {x y:Code}(h:Dw P x σ (xK (fun σ'=>Dw P y σ' Q) Q)):Dw P (.seq x y) σ Q:=fun av w0 β a w hr=>by
 refine wp_seq (Code.wp_mono ?_ (h av w0 β a w hr))
 rintro e a' w' ⟨σ',β',h1,h2,h3⟩
 cases e with
 |normal=>exact Code.wp_mono (fun _ _ _ ⟨σ'',β'',g1,g2,g3⟩=>⟨σ'',β'',g1.trans h1,g2,g3⟩) (h2 av w0 β' a' w' h3)
 |_=>exact⟨σ',β',h1,h2,h3⟩
theorem aB {t:Tmp}{x y:Code}(hb:an t σ.tm=some (.v (.c (.b b)))) (ht:b=true→Dw P x σ Q) (hf:b=false→Dw P y σ Q):Dw P (.cond (.tmp t) x y) σ Q:=fun av w0 β a w hr=>by
 obtain⟨v,e,hx⟩:=hr.sees.tmp t _ trivial hb
 have hv:=ru hx
 subst hv
 have he:a.eval (.tmp t)=.bool b:=by
  obtain⟨hlt,e⟩:=og.1 e
  show a.tmps.getD t undef=_
  simp[Array.getD,hlt,e]
 exact wp_cond_split he (fun h=>ht h av w0 β a w hr) (fun h=>hf h av w0 β a w hr)
theorem aA (h:Dw P c σ (Kp id Q)):Dw P (.block id c) σ Q:=fun av w0 β a w hr=>by
 refine wp_block (Code.wp_mono ?_ (h av w0 β a w hr))
 rintro e a' w' ⟨σ',β',h1,h2,h3⟩
 cases e with
 |exit id'=>
  show(if id'=id then _ else _)
  have h2:(bif Nat.beq id' id then Q .normal σ' else Q (.exit id') σ'):=h2
  cases hb:Nat.beq id' id with
  |true=>rw[hb] at h2;rw[if_pos (fN hb)];exact⟨σ',β',h1,h2,h3⟩
  |false=>rw[hb] at h2;rw[if_neg (fun e=>by subst e;rw[wJ] at hb;cases hb)];exact⟨σ',β',h1,h2,h3⟩
 |_=>exact⟨σ',β',h1,h2,h3⟩
structure Sub (σ σ':St):Prop where
 n:σ'.n=σ.n
 tm: ∀t x,an t σ'.tm=some x→an t σ.tm=some x
 bx: ∀k c,an k σ'.bx=some c→an k σ.bx=some c
 wf: ∀t x k,an t σ'.tm=some x→gB x=some k→an k σ'.bx≠none
theorem Rel.sub {a:Act}{σ:St}(h:Rel av w0 σ.n σ.T σ.B β a w) (hs:Sub σ σ'):Rel av w0 σ'.n σ'.T σ'.B β a w:=by
 have hB: ∀k,σ'.B k≠none→σ.B k≠none:=by
  intro k hk
  cases hc:σ'.B k with
  |none=>exact absurd hc hk
  |some c=>rw[show σ.B k=some c from hs.bx k c hc];simp
 have hkeep:Keep (fun b=>av b∨ ∃k,σ.B k≠none∧β k=b) (fun b=>av b∨ ∃k,σ'.B k≠none∧β k=b) w w:=
  ⟨Nat.le_refl _,fun _ _ _=>rfl,fun b _ hb=>hb.imp id fun⟨k,h1,h2⟩=>⟨k,hB k h1,h2⟩⟩
 refine⟨h.dfr,by rw[hs.n];exact h.siz,h.bel,h.avl,h.avE,by rw[hs.n];exact h.big,fun b hb hK=>h.fix b hb (hB _ hK),fun k l hk hl=>h.inj k l (hB k hk) (hB l hl),fun k hk=>h.own k (hB k hk),hs.wf,?_,?_,?_⟩
 ·rintro b (hb|⟨k,hk,hb⟩)
  ·exact h.sees.av b (.inl hb)
  ·exact h.sees.av b (.inr ⟨k,hB k hk,hb⟩)
 ·intro k U cs hk
  obtain⟨_,vs,e,hr⟩:=h.sees.box k U cs (hs.bx k _ hk)
  exact⟨.inr ⟨k,by rw[show σ'.B k=some (U,cs) from hk];simp,rfl⟩,vs,e,hr.keep hkeep⟩
 ·intro t x hl hx
  obtain⟨v,e,hr⟩:=h.sees.tmp t x hl (hs.tm t x hx)
  exact⟨v,e,hr.keep hkeep⟩
theorem Dw.weak (hs:Sub σ σ') (h:Dw P c σ' Q):Dw P c σ Q:=fun av w0 β a w hr=>
 Code.wp_mono (fun _ _ _ ⟨σ'',β',h1,h2,h3⟩=>⟨σ'',β',h1.trans hs.n,h2,h3⟩) (h av w0 β a w (hr.sub hs))
def uN {α:Type}:List (Nat×α)→List (Nat×α)→Prop
 |[],_=>True
 |(t,x)::r,l=>an t l=some x∧uN r l
def Is (bx:List (Nat×TypeId×List CellD)):List (Nat×DV)→Bool
 |[]=>true
 |(_,.p k _)::r=>(an k bx).isSome&&Is bx r
 |(_,.o k _ _)::r=>(an k bx).isSome&&Is bx r
 |(_,.w k _ _ _)::r=>(an k bx).isSome&&Is bx r
 |(_,.tn k _ _ _)::r=>(an k bx).isSome&&Is bx r
 |(_,.oe k _ _ _)::r=>(an k bx).isSome&&Is bx r
 |_::r=>Is bx r
theorem n8 {α:Type}: ∀(r l:List (Nat×α)),uN r l→ ∀t x,an t r=some x→an t l=some x
 |[],_,_,_,_,h=>by cases h
 |(k,y)::r,l,ha,t,x,h=>by
  rw[aF] at h
  split at h
  ·rename_i e;subst e;rw[←h];exact ha.1
  ·exact n8 r l ha.2 t x h
theorem Ab {bx:List (Nat×TypeId×List CellD)}: ∀(r:List (Nat×DV)),Is bx r=true→ ∀t x k,an t r=some x→gB x=some k→an k bx≠none
 |[],_,_,_,_,h,_=>by cases h
 |(t',y)::r,hw,t,x,k,h,hx=>by
  rw[aF] at h
  have hr:Is bx r=true:=by
   cases y<;>simp[Is] at hw<;>first|exact hw|exact hw.2
  split at h
  ·injection h with h
   subst h
   intro e
   cases y<;>simp[gB] at hx<;>(subst hx;simp[Is,e] at hw)
  ·exact Ab r hr t x k h hx
theorem ak (ht:uN tm' tm) (hb:uN bx' bx) (hw:Is bx' tm'=true):Sub ⟨n,tm,bx⟩ ⟨n,tm',bx'⟩:=
 ⟨rfl,n8 tm' tm ht,n8 bx' bx hb,Ab tm' hw⟩
theorem aY {ι:Type}(I:ι→St) (μ:ι→Nat) (i0:ι) (h0:Sub σ (I i0))
 (round: ∀i,Dw P c (I i) (xK (fun σ'=> ∃j,Sub σ' (I j)∧μ j<μ i) Q)):Dw P (.loop c) σ Q:=fun av w0 β a w hr=>by
 have hr0:=hr.sub h0
 intro b k cs
 have key: ∀n i β a w,μ i=n→Rel av w0 (I i).n (I i).T (I i).B β a w→(I i).n=σ.n→
  ∃e a' w',(∃σ' β',σ'.n=σ.n∧Q e σ'∧Rel av w0 σ'.n σ'.T σ'.B β' a' w')∧Arrives P (lone (b.at a (.code c:: .inLoop c::k)) cs w) b k cs e a' w':=by
  intro n
  induction n using Nat.strongRecOn with
  |_ n ih=>
   intro i β a w hi hrel hni
   obtain⟨e,a₁,w₁,⟨σ',β',g1,g2,g3⟩,harr⟩:=round i av w0 β a w hrel b (.inLoop c::k) cs
   cases e with
   |normal=>
    obtain⟨j,hs,hlt⟩:=g2
    have hrj:=g3.sub hs
    obtain⟨e₂,a₂,w₂,hq₂,harr₂⟩:=ih (μ j) (hi▸hlt) j β' a₁ w₁ rfl hrj (by rw[hs.n,g1,hni])
    exact⟨e₂,a₂,w₂,hq₂,.of_steps (Steps.trans harr (.one step_inLoop)) harr₂⟩
   |exit id=>exact⟨_,a₁,w₁,⟨σ',β',g1.trans hni,g2,g3⟩,.pass (x:=.inLoop c) rfl (fun _ _=>.inl (by simp)) harr⟩
   |goto l=>exact⟨_,a₁,w₁,⟨σ',β',g1.trans hni,g2,g3⟩,.pass (x:=.inLoop c) rfl (fun _ _=>.inl (by simp)) harr⟩
   |ret=>exact⟨_,a₁,w₁,⟨σ',β',g1.trans hni,g2,g3⟩,.pass (x:=.inLoop c) rfl (fun _ _=>.inl (by simp)) harr⟩
   |panic ch=>exact⟨_,a₁,w₁,⟨σ',β',g1.trans hni,g2,g3⟩,.pass (x:=.inLoop c) rfl (fun _ _=>.inl (by simp)) harr⟩
   |outgrown=>exact⟨_,a₁,w₁,⟨σ',β',g1.trans hni,g2,g3⟩,.pass (x:=.inLoop c) rfl (fun _ _=>.inl (by simp)) harr⟩
 obtain⟨e,a',w',hq,harr⟩:=key _ i0 β a w rfl hr0 h0.n
 exact⟨e,a',w',hq,.of_steps (.one step_loop) harr⟩
def FI (ops:Array Oper) (n:Nat):Bool:=ops.toList.all fun o=>match o.dst with|none=>true|some d=>Nat.blt d n
theorem Gi {ops:Array Oper}(h:FI ops n=true): ∀o∈ops.toList,∀t,o.dst=some t→t<n:=by
 intro o ho t ht
 have:=jc.1 h o ho
 rw[ht] at this
 exact eH.1 this
theorem ss (hn:FI l.toArray σ.n=true) (h:dl P l.toArray l σ (Q .normal)):Dw P (.region id l.toArray false) σ Q:=fun av w0 β a w hr=>
 wp_region_list (qx l.toArray.toList σ β a w (by simpa using Gi hn) (by simpa using h) hr (fun σ' β' a' w' h1 h2 h3=>⟨σ',β',h1,h2,h3⟩))
def Sq.merge (s:Sq):St:=⟨s.st.n,s.st.tm,s.nb++s.st.bx⟩
theorem pC (m:Nat) (hs:List Nat) (hm:P.follows .mixedOrders=true) (hc:Cu l.toArray m σ.n=true) (hpre:l.take m=pre) (htail:l.drop m=tail)
 (h:dq P l.toArray hs pre ⟨σ,[],[]⟩ fun s=>dl P l.toArray tail s.merge (Q .normal)):Dw P (.region id l.toArray true) σ Q:=fun av w0 β a w hr=>by
 have hC:=Chk.of hc
 subst hpre htail
 obtain⟨es,hlen,hall,hdis,hmix,s',h1,h2,h3,h4⟩:=AF _ _ h
 have hml:m≤l.length:=by simpa using hC.le
 refine wp_region_any hm ?_
 refine Mh (av:=av) (w0:=w0) (Q:=fun e a' w'=> ∃σ' β',σ'.n=σ.n∧Q e σ'∧Rel av w0 σ'.n σ'.T σ'.B β' a' w') hC (T0:=σ.T) (B0:=σ.B) (M0:=Sq.M ⟨σ,[],[]⟩) (hs:=hs) (sd:=[]) (fun k c hk=>hk) (es:=es) (by rw[hlen,cX];omega) hdis hmix ?_ ?_ l.toArray.size (Array.replicate l.toArray.size false) β a _ (by simp) (by unfold E8;refine iz List.countP_le_length ?_;simp) ?_ ?_ ?_
 ·intro i o e ho he
  exact hall i o e (by simpa using ho) he
 ·intro β a w fuel hf hr'
  have hr2:Rel av w0 σ.n s'.merge.T s'.merge.B β a w:=by
   refine hr'.congr (fun t=>?_) (fun k=>?_)
   ·show s'.st.T t=_
    rw[h2]
   ·show s'.M k=_
    rw[h3]
  refine rR hC (K:=Q .normal) (fun σ' β a w hn hq hr=>⟨σ',β,hn,hq,by rw[hn];exact hr⟩) (l.drop m) m s'.merge fuel β a w (aX _) (fun j=>by simp) (by simp;omega) h1 h4 hr2 (by simpa using hf)
 ·intro i o j hi
  simp[Array.getD] at hi
 ·intro t _
  simp[Array.getD]
  try (split<;>rfl)
 ·refine hr.drew.congr (fun t=>?_) (fun k=>?_)
  ·refine iq _ _ _ fun j u _ hm=>?_
   simp[Array.getD] at hm
  ·refine(iq _ _ _ fun j u _ hm=>?_).trans ?_
   ·simp[Array.getD] at hm
   ·rfl
def rQ:Nat→List D0→List (Nat×DV)
 |_,[]=>[]
 |k,d::ds=>(k,.v d)::rQ (k+1) ds
def AQ (P:Program) (σ:St):ResultVar→Option D0
 | .tmp t=>match an t σ.tm with
   |some (.v d)=>some d
   |_=>none
 | .cell t U=>match an t σ.tm with
   |some (.p k off)=>match an k σ.bx,kM P U with
    |some (_,cs),some (true,n)=>if Nat.beq ((cs.drop off).take n).length n then some (.a ((cs.drop off).take n)) else none
    |some (_,cs),some (false,_)=>(cs[off]?).map .c
    |_,_=>none
   |_=>none
def tj (a:Act):ResultVar→Go.Sem Value
 | .tmp t=>pure (a.tmps.getD t undef)
 | .cell t U=>do loadVar U (←asAddr (a.tmps.getD t undef))
theorem Gr {a:Act}(hr:Rel av w0 σ.n σ.T σ.B β a w) {r:ResultVar}(h:AQ P σ r=some d):
 ∃v,(tj a r).run P w=.ok v w∧RdV (fun b=>av b∨ ∃k,σ.B k≠none∧β k=b) w v d:=by
 have hget: ∀ {t x},an t σ.tm=some x→ ∃v,a.tmps.getD t undef=v∧RdX (fun b=>av b∨ ∃k,σ.B k≠none∧β k=b) w β v x:=by
  intro t x ht
  obtain⟨v,e,hx⟩:=hr.sees.tmp t x trivial ht
  obtain⟨hlt,e⟩:=og.1 e
  exact⟨v,by simp[Array.getD,hlt,e],hx⟩
 cases r with
 |tmp t=>
  unfold AQ at h
  dsimp only at h
  split at h
  ·rename_i d' hd
   injection h with h
   subst h
   obtain⟨v,e,hx⟩:=hget hd
   exact⟨v,by show(pure (a.tmps.getD t undef):Go.Sem Value).run P w=_;rw[e];rfl,hx⟩
  grind
 |cell t U=>
  unfold AQ at h
  dsimp only at h
  split at h
  ·rename_i k off hp
   obtain⟨v,e,hx⟩:=hget hp
   subst hx
   split at h
   ·rename_i W cs n hb hU
    split at h
    ·rename_i hl
     injection h with h
     subst h
     obtain⟨_,vs,ev,hrd⟩:=hr.sees.box k W cs hb
     have hr2:=(hrd.drop off).take n
     have hrun:=kn (P:=P) (w:=w) hU (b:=β k) (off:=off) (vs:=(vs.toList.drop off).take n) (by rw[hr2.1];exact fN hl) (fun j v hv=>by
      rw[lg] at hv
      split at hv
      ·rw[co ev,←hv];simp
      ·cases hv)
     refine⟨_,?_,_,rfl,by simpa using hr2⟩
     simp only[tj,e,asAddr,ed,fq,eb,hrun]
    grind
   ·rename_i W cs n hb hU
    cases hc:cs[off]? with
    |none=>rw[hc] at h;cases h
    |some u=>
     rw[hc] at h
     injection h with h
     subst h
     obtain⟨_,vs,ev,hrd⟩:=hr.sees.box k W cs hb
     have hlt:off<cs.length:=(gF.1 hc).1
     have hv:vs.toList[off]? =some (vs.toList[off]'(by rw[hrd.1];exact hlt)):=by grind
     have hrun:=kh (P:=P) (w:=w) hU (b:=β k) (off:=off) (by rw[co ev,←tS,hv])
     refine⟨_,?_,hrd.2 off _ _ hv hc⟩
     simp only[tj,e,asAddr,ed,fq,eb,hrun]
   grind
  grind
def n9 (P:Program) (σ:St):List ResultVar→Option (List D0)
 |[]=>some []
 |r::rs=>match AQ P σ r,n9 P σ rs with
  |some d,some ds=>some (d::ds)
  |_,_=>none
theorem Bg {av:Nat→Prop}{w0:Ent}{w:World}{β:Nat→Nat}{a:Act}(hr:Rel av w0 σ.n σ.T σ.B β a w): ∀(rs:List ResultVar) (ds:List D0),n9 P σ rs=some ds→
 ∃vs:List Value,(rs.mapM (tj a)).run P w=.ok vs w∧RdL (fun b=>av b∨ ∃k,σ.B k≠none∧β k=b) w vs ds
 |[],ds,h=>by injection h with h;subst h;exact⟨[],rfl,RdL.nil⟩
 |r::rs,ds,h=>by
  unfold n9 at h
  split at h
  ·rename_i d ds' h1 h2
   injection h with h
   subst h
   obtain⟨v,e1,r1⟩:=Gr hr h1
   obtain⟨vs,e2,r2⟩:=Bg hr rs ds' h2
   refine⟨v::vs,?_,ou r1 r2⟩
   rw[List.mapM_cons]
   simp only[ed,e1,eb,e2,fq]
  ·cases h
theorem SR {vs:Array Value}(hlen:ds.length≤N) (hav: ∀b,av b→b<w.heap.size) (hrd:RdL av w vs.toList ds):
 Rel av ⟨w,fun _=>False,N⟩ (St.n ⟨N,rQ 0 ds,[]⟩) (St.T ⟨N,rQ 0 ds,[]⟩) (St.B ⟨N,rQ 0 ds,[]⟩) (fun _=>0) {tmps:=vs++Array.replicate (N-vs.size) undef,defers:=[]} w:=by
 have hvl:vs.size=ds.length:=by rw[←hrd.1];simp
 have hT: ∀(k:Nat) (ds:List D0) (t:Nat) (x:DV),an t (rQ k ds)=some x→ ∃j d,t=k+j∧ds[j]? =some d∧x=.v d:=by
  intro k ds
  induction ds generalizing k with
  |nil=>intro t x h;cases h
  |cons d ds ih=>
   intro t x h
   unfold rQ at h
   rw[aF] at h
   split at h
   ·simp_all
   ·obtain⟨j,d',e1,e2,e3⟩:=ih (k+1) t x h
    exact⟨j+1,d',by omega,by simpa using e2,e3⟩
 refine⟨rfl,by simp;omega,BelE.refl _,hav,fun _ _ h=>h,aX _,fun _ h=>h.elim,fun k l hk=>absurd rfl hk,fun k hk=>absurd rfl hk,?_,?_,?_,?_⟩
 ·intro t x k ht hx
  obtain⟨j,d,_,_,e⟩:=hT 0 ds t _ ht
  subst e;cases hx
 ·rintro b (hb|⟨k,hk,_⟩)
  ·grind
  ·exact absurd rfl hk
 ·intro k U cs hk;cases hk
 ·intro t x _ ht
  obtain⟨j,d,e1,e2,e3⟩:=hT 0 ds t x ht
  have e1:t=j:=by omega
  subst e1 e3
  have hlt:t<vs.size:=by grind
  have hv:vs.toList[t]? =some vs[t]:=by grind
  refine⟨vs[t],?_,(hrd.2 t _ d hv e2).keep ⟨Nat.le_refl _,fun _ _ _=>rfl,fun b _ hb=>?_⟩⟩
  ·grind
  ·rcases hb with hb|⟨k,hk,_⟩
   ·grind
   ·exact absurd rfl hk
theorem Be {fn:Func}{a:Act}(hrun:(fn.results.toList.mapM (tj a)).run P w=.ok vs w):(results fn a.tmps).run P w=.ok (if h:vs.toArray.size=1 then vs.toArray[0] else .tuple vs.toArray) w:=by
 have key: ∀g:ResultVar→Go.Sem Value,(∀r,g r=tj a r)→(do let vs ←fn.results.mapM g;pure (if h:vs.size=1 then vs[0] else .tuple vs):Go.Sem Value).run P w=.ok (if h:vs.toArray.size=1 then vs.toArray[0] else .tuple vs.toArray) w:=by
  intro g hg
  rw[funext hg]
  simp[Array.mapM_eq_mapM_toList,hrun]
 exact key _ (fun r=>by cases r<;>rfl)
theorem Ok.of {fn:Func}{rs:List D0}(hcal:m5 P f=true) (hf:P.funcs[f]? =some fn) (hb:fn.body=some c) (hlen:Nat.ble ds.length fn.ntmps=true)
 (h:Dw P c ⟨fn.ntmps,rQ 0 ds,[]⟩ fun e σ=>(e=.normal∨e=.ret)∧n9 P σ fn.results.toList=some rs):Ok P f ds rs:=by
 refine⟨hcal,fun av vs w hav hrd=>calls_of_wp hf hb ?_⟩
 have hlen:=dG hlen
 refine Code.wp_mono ?_ (h av ⟨w,fun _=>False,fn.ntmps⟩ (fun _=>0) _ w (SR hlen hav hrd))
 rintro e a' w' ⟨σ',β',hn,⟨he,hres⟩,hr⟩
 obtain⟨vs',hrun,hrl0⟩:=Bg hr _ _ hres
 have hrl:RdL av w' vs' rs:=hrl0.keep ⟨Nat.le_refl _,fun _ _ _=>rfl,fun b _ hb=>.inl hb⟩
 have hresults:=Be hrun
 have hR:Rw av w' (if h:vs'.toArray.size=1 then vs'.toArray[0] else .tuple vs'.toArray) rs:=by
  match vs',rs,hrl with
  |[],[],hrl=>exact⟨_,rfl,hrl⟩
  |[v],[d],hrl=>exact hrl.uncons.1
  |v::v'::vs',d::d'::ds',hrl=>exact⟨(v::v'::vs').toArray,dif_neg (by simp),by simpa using hrl⟩
  |[],d::ds,hrl=>exact absurd hrl.1 (by simp)
  |v::vs,[],hrl=>exact absurd hrl.1 (by simp)
  |[v],d::d'::ds,hrl=>exact absurd hrl.1 (by simp)
  |v::v'::vs,[d],hrl=>exact absurd hrl.1 (by simp)
 rcases he with rfl|rfl
 ·exact⟨hr.dfr,_,hresults,_,rfl,hR,hr.bel.to (fun _ h=>h)⟩
 ·exact⟨hr.dfr,_,hresults,_,rfl,hR,hr.bel.to (fun _ h=>h)⟩
end
section
variable {P:Program}{ops:Array Oper}{os:List Oper}{n t:Nat}{tm:List (Nat×DV)}{bx nb:List (Nat×TypeId×List CellD)}{K:St→Prop}{K':Sq→Prop}{hs sd:List Nat}
variable {ty:TypeId}{pos:String}{af:Array Edge}{g:Option (Nat×Bool)}{op:Op}
theorem b9 {x:DV}(h:Sem P ops ⟨some t,op,ty,pos,af,g⟩ (fun s=>an s tm) (fun k=>an k bx) (.r x)) (hk:dl P ops os ⟨n,(t,x)::tm,bx⟩ K):dl P ops (⟨some t,op,ty,pos,af,g⟩::os) ⟨n,tm,bx⟩ K:=
 .inl ⟨.r x,h,fun _ _ _ e=>(by cases e),hk⟩
theorem bA {x:DV}(h:Sem P ops ⟨some t,op,ty,pos,af,g⟩ (fun s=>an s tm) (hid hs (fun k=>an k bx)) (.r x)) (hk:dq P ops hs os ⟨⟨n,(t,x)::tm,bx⟩,nb,sd⟩ K'):dq P ops hs (⟨some t,op,ty,pos,af,g⟩::os) ⟨⟨n,tm,bx⟩,nb,sd⟩ K':=
 ⟨.r x,.inl h,fun _ _ e=>(by cases e),fun _ _ _ e=>(by cases e),fun _ _ _ _ e=>(by cases e),fun _ _ _ e=>(by cases e),hk⟩
theorem jN (h:Sem P ops ⟨some t,op,ty,pos,af,g⟩ (fun s=>an s tm) (fun k=>an k bx) .skip) (hk:dl P ops os ⟨n,(t,.u)::tm,bx⟩ K):dl P ops (⟨some t,op,ty,pos,af,g⟩::os) ⟨n,tm,bx⟩ K:=
 .inl ⟨.skip,h,fun _ _ _ e=>(by cases e),hk⟩
theorem kN (h:Sem P ops ⟨some t,op,ty,pos,af,g⟩ (fun s=>an s tm) (hid hs (fun k=>an k bx)) .skip) (hk:dq P ops hs os ⟨⟨n,(t,.u)::tm,bx⟩,nb,sd⟩ K'):dq P ops hs (⟨some t,op,ty,pos,af,g⟩::os) ⟨⟨n,tm,bx⟩,nb,sd⟩ K':=
 ⟨.skip,.inl h,fun _ _ e=>(by cases e),fun _ _ _ e=>(by cases e),fun _ _ _ _ e=>(by cases e),fun _ _ _ e=>(by cases e),hk⟩
theorem sX (h:Sem P ops ⟨some t,op,ty,pos,af,g⟩ (fun s=>an s tm) (fun k=>an k bx) (.a U cs none)) (hf:an t bx=none) (hk:dl P ops os ⟨n,(t,.p t 0)::tm,(t,U,cs)::bx⟩ K):dl P ops (⟨some t,op,ty,pos,af,g⟩::os) ⟨n,tm,bx⟩ K:=
 .inl ⟨.a U cs none,h,fun _ _ _ _=>⟨t,rfl,hf⟩,hk⟩
theorem Ck (h:Sem P ops ⟨some t,op,ty,pos,af,g⟩ (fun s=>an s tm) (hid hs (fun k=>an k bx)) (.a U cs none)) (hf:an t (nb++bx)=none) (hk:dq P ops hs os ⟨⟨n,(t,.p t 0)::tm,bx⟩,(t,U,cs)::nb,sd⟩ K'):dq P ops hs (⟨some t,op,ty,pos,af,g⟩::os) ⟨⟨n,tm,bx⟩,nb,sd⟩ K':=
 ⟨.a U cs none,.inl h,fun _ _ e=>(by cases e),fun _ _ _ e=>(by cases e),fun _ _ _ _ e=>(by cases e),fun _ _ _ _=>⟨t,rfl,hf⟩,hk⟩
theorem tJ (h:Sem P ops ⟨some t,op,ty,pos,af,g⟩ (fun s=>an s tm) (fun k=>an k bx) (.a U cs (some m))) (hf:an t bx=none) (hk:dl P ops os ⟨n,(t,.o t m m)::tm,(t,U,cs)::bx⟩ K):dl P ops (⟨some t,op,ty,pos,af,g⟩::os) ⟨n,tm,bx⟩ K:=
 .inl ⟨.a U cs (some m),h,fun _ _ _ _=>⟨t,rfl,hf⟩,hk⟩
theorem fV (h:Sem P ops ⟨none,op,ty,pos,af,g⟩ (fun s=>an s tm) (fun k=>an k bx) (.s k U cs)) (hk:dl P ops os ⟨n,tm,(k,U,cs)::bx⟩ K):dl P ops (⟨none,op,ty,pos,af,g⟩::os) ⟨n,tm,bx⟩ K:=
 .inl ⟨.s k U cs,h,fun _ _ _ e=>(by cases e),hk⟩
theorem L6 {x:DV}(h:Sem P ops ⟨some t,op,ty,pos,af,g⟩ (fun s=>an s tm) (fun k=>an k bx) (.c k x)) (hk:dl P ops os ⟨n,(t,x)::eY k tm,eo k bx⟩ K):dl P ops (⟨some t,op,ty,pos,af,g⟩::os) ⟨n,tm,bx⟩ K:=
 .inl ⟨.c k x,h,fun _ _ _ e=>(by cases e),hk⟩
theorem bv (h:K ⟨n,tm,bx⟩):dl P ops [] ⟨n,tm,bx⟩ K:=h
theorem il (h:Sem P ops ⟨none,op,ty,pos,af,g⟩ (fun s=>an s tm) (fun l=>bif Nat.beq l k then an l (nb++bx) else hid hs (fun k=>an k bx) l) (.s k U cs))
 (h1:hs.any (Nat.beq k)=true) (h2:(an k bx).isSome=true) (h3:sd.any (Nat.beq k)=false) (h4:uc ⟨none,op,ty,pos,af,g⟩=true) (hk:dq P ops hs os ⟨⟨n,tm,bx⟩,(k,U,cs)::nb,k::sd⟩ K'):dq P ops hs (⟨none,op,ty,pos,af,g⟩::os) ⟨⟨n,tm,bx⟩,nb,sd⟩ K':=
 ⟨.s k U cs,.inl h,fun _ _ e=>(by cases e),fun _ _ _ e=>by
  injection e with e1
  subst e1
  exact⟨h1,.inl (fun e=>by have e:an k bx=none:=e;rw[e] at h2;cases h2),(.inl fun hm=>by rw[iD.2 hm] at h3;cases h3),h4⟩,fun _ _ _ _ e=>(by cases e),fun _ _ _ e=>(by cases e),hk⟩
theorem kq (h:Sem P ops ⟨none,op,ty,pos,af,g⟩ (fun s=>an s tm) (fun l=>bif Nat.beq l k then an l (nb++bx) else hid hs (fun k=>an k bx) l) (.s k U cs))
 (h1:hs.any (Nat.beq k)=true) (h2:((⟨none,op,ty,pos,af,g⟩:Oper).looksAt ops).any (Nat.beq k)=true) (h3:sd.any (Nat.beq k)=false) (h4:uc ⟨none,op,ty,pos,af,g⟩=true) (hk:dq P ops hs os ⟨⟨n,tm,bx⟩,(k,U,cs)::nb,k::sd⟩ K'):dq P ops hs (⟨none,op,ty,pos,af,g⟩::os) ⟨⟨n,tm,bx⟩,nb,sd⟩ K':=
 ⟨.s k U cs,.inl h,fun _ _ e=>(by cases e),fun _ _ _ e=>by
  injection e with e1
  subst e1
  exact⟨h1,.inr (iD.1 h2),(.inl fun hm=>by rw[iD.2 hm] at h3;cases h3),h4⟩,fun _ _ _ _ e=>(by cases e),fun _ _ _ e=>(by cases e),hk⟩
theorem DC (h:Sem P ops ⟨none,op,ty,pos,af,g⟩ (fun s=>an s tm) (fun l=>bif Nat.beq l k then an l (nb++bx) else hid hs (fun k=>an k bx) l) (.s k U cs))
 (h1:hs.any (Nat.beq k)=true) (h2:(an k bx).isSome=true) (h3:mr ops=true) (h4:uc ⟨none,op,ty,pos,af,g⟩=true) (hk:dq P ops hs os ⟨⟨n,tm,bx⟩,(k,U,cs)::nb,k::sd⟩ K'):dq P ops hs (⟨none,op,ty,pos,af,g⟩::os) ⟨⟨n,tm,bx⟩,nb,sd⟩ K':=
 ⟨.s k U cs,.inl h,fun _ _ e=>(by cases e),fun _ _ _ e=>by
  injection e with e1
  subst e1
  exact⟨h1,.inl (fun e=>by have e:an k bx=none:=e;rw[e] at h2;cases h2),.inr h3,h4⟩,fun _ _ _ _ e=>(by cases e),fun _ _ _ e=>(by cases e),hk⟩
theorem nW (h:K' ⟨⟨n,tm,bx⟩,nb,sd⟩):dq P ops hs [] ⟨⟨n,tm,bx⟩,nb,sd⟩ K':=h
theorem A8 {x:DV}(hv:KB hs ops ⟨some t,op,ty,pos,af,g⟩=true) (h:Sem P ops ⟨some t,op,ty,pos,af,g⟩ (fun s=>an s tm) (fun k=>an k bx) (.r x)) (hk:dq P ops hs os ⟨⟨n,(t,x)::tm,bx⟩,nb,sd⟩ K'):dq P ops hs (⟨some t,op,ty,pos,af,g⟩::os) ⟨⟨n,tm,bx⟩,nb,sd⟩ K':=
 ⟨.r x,.inr ⟨hv,⟨x,rfl⟩,h⟩,fun _ _ e=>(by cases e),fun _ _ _ e=>(by cases e),fun _ _ _ _ e=>(by cases e),fun _ _ _ e=>(by cases e),hk⟩
theorem P6 (h:Sem P ops ⟨some t,op,ty,pos,af,g⟩ (fun s=>an s tm) (fun k=>an k bx) (.r (.v (.c (.b b))))) (hk: ∀c,b=c→dl P ops os ⟨n,(t,.v (.c (.b c)))::tm,bx⟩ K):dl P ops (⟨some t,op,ty,pos,af,g⟩::os) ⟨n,tm,bx⟩ K:=
 b9 h (hk b rfl)
theorem EF (h:Sem P ops ⟨some t,op,ty,pos,af,g⟩ (fun s=>an s tm) (hid hs (fun k=>an k bx)) (.r (.v (.c (.b b))))) (hk: ∀c,b=c→dq P ops hs os ⟨⟨n,(t,.v (.c (.b c)))::tm,bx⟩,nb,sd⟩ K'):dq P ops hs (⟨some t,op,ty,pos,af,g⟩::os) ⟨⟨n,tm,bx⟩,nb,sd⟩ K':=
 bA h (hk b rfl)
theorem dh (h:dl P ops os ⟨n,tm,bx⟩ K):dl P ops os (Sq.merge ⟨⟨n,tm,bx⟩,[],sd⟩) K:=h
theorem te (h:dl P ops os ⟨n,tm,a::bx⟩ K):dl P ops os (Sq.merge ⟨⟨n,tm,bx⟩,[a],sd⟩) K:=h
theorem Fp {b:Nat×TypeId×List CellD}(h:dl P ops os ⟨n,tm,a::b::bx⟩ K):dl P ops os (Sq.merge ⟨⟨n,tm,bx⟩,[a,b],sd⟩) K:=h
theorem iB {x y:Code}(hb:an t tm=some (.v (.c (.b true)))) (h:Dw P x ⟨n,tm,bx⟩ Q):Dw P (.cond (.tmp t) x y) ⟨n,tm,bx⟩ Q:=aB hb (fun _=>h) (fun e=>by cases e)
theorem bT {x y:Code}(hb:an t tm=some (.v (.c (.b false)))) (h:Dw P y ⟨n,tm,bx⟩ Q):Dw P (.cond (.tmp t) x y) ⟨n,tm,bx⟩ Q:=aB hb (fun e=>by cases e) (fun _=>h)
theorem aa:n9 P ⟨n,tm,bx⟩ []=some []:=rfl
theorem I8 (h:an t tm=some (.v d)) (hr:n9 P ⟨n,tm,bx⟩ rs=some ds):n9 P ⟨n,tm,bx⟩ (.tmp t::rs)=some (d::ds):=by
 have e:AQ P ⟨n,tm,bx⟩ (.tmp t)=some d:=by unfold AQ;simp only[h]
 unfold n9
 grind
theorem kX (hU:kM P U=some (true,m)) (hp:an t tm=some (.p k off)) (hb:an k bx=some (W,cs)) (hu:(cs.drop off).take m=us) (hm:us.length=m)
 (hr:n9 P ⟨n,tm,bx⟩ rs=some ds):n9 P ⟨n,tm,bx⟩ (.cell t U::rs)=some (.a us::ds):=by
 have e:AQ P ⟨n,tm,bx⟩ (.cell t U)=some (.a us):=by
  unfold AQ
  simp only[hp,hb,hU,hu,hm]
  simp
 unfold n9
 grind
theorem wU {x:Operand}
 (hU:kM P U=some (q,m)) (ha:bH T ax=some (.p k 0)) (hx:bH T x=some (.v d)) (hb:B k=some (W,cs)) (hn:d.cells.length=m) (ho:cs.length=m)
 (hg:gd ops ⟨none,.store U ax x,ty,pos,af,g⟩ T=some true):Sem P ops ⟨none,.store U ax x,ty,pos,af,g⟩ T B (.s k W d.cells):=by
 refine aV hU ha hx hb hn (by omega) ?_ hg
 grind
theorem bG {x:Operand}
 (hU:kM P U=some (true,m)) (ha:bH T ax=some (.p k 0)) (hx:bH T x=some (.v (.a us))) (hb:B k=some (W,cs)) (hn:us.length=m) (ho:cs.length=m)
 (hg:gd ops ⟨none,.store U ax x,ty,pos,af,g⟩ T=some true):Sem P ops ⟨none,.store U ax x,ty,pos,af,g⟩ T B (.s k W us):=wU (d:=.a us) hU ha hx hb hn ho hg
theorem Gj {x:Operand}
 (hx:bH T x=some (.v (.a us))) (hg:gd ops ⟨dst,.box U x,ty,pos,af,g⟩ T=some true):Sem P ops ⟨dst,.box U x,ty,pos,af,g⟩ T B (.a U us none):=ES (d:=.a us) hx hg
theorem Fq {x:Operand}
 (hx:bH T x=some (.v (.c u))) (hg:gd ops ⟨dst,.box U x,ty,pos,af,g⟩ T=some true):Sem P ops ⟨dst,.box U x,ty,pos,af,g⟩ T B (.a U [u] none):=ES (d:=.c u) hx hg
theorem o4 {c:Bool}(hu:P.underlying xt=some .bool):(Op.equal xt (.bool b) (.bool c)).run P w=.ok (b==c) w:=by
 unfold Op.equal Op.maxDepth
 rw[show(10000:Nat)=9999+1 from rfl,Op.equalIn]
 simp only[ed,run_underlying hu,eb]
 rfl
theorem ri {x y:Operand}{c:Bool}
 (hx:bH T x=some (.v (.c (.b b)))) (hy:bH T y=some (.v (.c (.b c)))) (hu:P.underlying xt=some .bool) (hg:gd ops ⟨dst,.binOp .eql xt x y yt,ty,pos,af,g⟩ T=some true):
 Sem P ops ⟨dst,.binOp .eql xt x y yt,ty,pos,af,g⟩ T B (.r (.v (.c (.b (b==c))))):=
 bp hg (oD rfl) (fun V β a w hs=>by
  have e1:a.eval x=.bool b:=ru (aw hs (x:=x) (by simp[Op.operands]) hx)
  have e2:a.eval y=.bool c:=ru (aw hs (x:=y) (by simp[Op.operands]) hy)
  refine⟨.bool (b==c),?_,.b _⟩
  have h1:(eqGuard .eql xt x y (.bool b) (.bool c)).run P w=.ok () w:=rfl
  have h2:binOp .eql xt (.bool b) (.bool c)=(do pure (.bool (←Op.equal xt (.bool b) (.bool c)))):=rfl
  simp only[execOp,e1,e2,ed,h1,eb,h2,o4 hu,fq])
theorem fL {x y:Operand}{c:Bool}
 (hx:bH T x=some (.v (.c (.b b)))) (hy:bH T y=some (.v (.c (.b c)))) (hu:P.underlying xt=some .bool) (hg:gd ops ⟨dst,.binOp .neq xt x y yt,ty,pos,af,g⟩ T=some true):
 Sem P ops ⟨dst,.binOp .neq xt x y yt,ty,pos,af,g⟩ T B (.r (.v (.c (.b (!(b==c)))))):=
 bp hg (oD rfl) (fun V β a w hs=>by
  have e1:a.eval x=.bool b:=ru (aw hs (x:=x) (by simp[Op.operands]) hx)
  have e2:a.eval y=.bool c:=ru (aw hs (x:=y) (by simp[Op.operands]) hy)
  refine⟨.bool (!(b==c)),?_,.b _⟩
  have h1:(eqGuard .neq xt x y (.bool b) (.bool c)).run P w=.ok () w:=rfl
  have h2:binOp .neq xt (.bool b) (.bool c)=(do pure (.bool (!(←Op.equal xt (.bool b) (.bool c))))):=rfl
  simp only[execOp,e1,e2,ed,h1,eb,h2,o4 hu,fq])
theorem HR {x:Operand}{k1 k2 k:IntKind}{m:Int}
 (h1:P.underlying t1=some (.int k1)) (h2:P.underlying t2=some (.int k2)) (hx:bH T x=some (.v (.c (.i k m)))) (hg:gd ops ⟨dst,.convert t1 t2 x,ty,pos,af,g⟩ T=some true):
 Sem P ops ⟨dst,.convert t1 t2 x,ty,pos,af,g⟩ T B (.r (.v (.c (.i k2 (k2.wrap m))))):=
 bp hg (oD rfl) (fun V β a w hs=>by
  have e1:a.eval x=.int k m:=iM (aw hs (x:=x) (by simp[Op.operands]) hx)
  refine⟨.int k2 (k2.wrap m),?_,.i _ _⟩
  simp[execOp,e1,convert,run_underlying h1,run_underlying h2,Conv.intToInt])
end
def ce (v:Nat):List Int:=if h:v=0 then[] else((v%1000000000:Nat):Int)::ce (v/1000000000)
termination_by v
decreasing_by exact Nat.div_lt_self (Nat.pos_of_ne_zero h) (by omega)
theorem iy:ce 0=[]:=by unfold ce;simp
theorem uy {v:Nat}(h:v≠0):ce v=((v%1000000000:Nat):Int)::ce (v/1000000000):=by rw[ce];simp[h]
theorem bk (v:Nat):Lim (ce v):=by
 induction v using Nat.strongRecOn with
 |_ v ih=>
  by_cases h:v=0
  ·subst h;rw[iy];exact Lim.nil
  ·rw[uy h]
   exact Lim.cons (by omega) (by omega) (ih _ (Nat.div_lt_self (Nat.pos_of_ne_zero h) (by omega)))
theorem bu (v:Nat):val (ce v)=v:=by
 induction v using Nat.strongRecOn with
 |_ v ih=>
  by_cases h:v=0
  ·subst h;rw[iy];rfl
  ·rw[uy h,cA,ih _ (Nat.div_lt_self (Nat.pos_of_ne_zero h) (by omega))]
   omega
theorem df {v:Nat}:ce v=[]↔v=0:=by
 constructor
 ·intro h;have:=bu v;rw[h] at this;simp[val] at this;omega
 ·intro h;rw[h,iy]
theorem BX (h:Nrm xs) (hx:xs≠ []):Nrm (x::xs):=by
 obtain⟨ys,y,e,hy⟩:=h.last hx
 rw[e]
 exact wK (x::ys) y hy
theorem fZ (v:Nat):Nrm (ce v):=by
 induction v using Nat.strongRecOn with
 |_ v ih=>
  by_cases h:v=0
  ·subst h;rw[iy];exact Nrm.nil
  ·rw[uy h]
   by_cases h2:v/1000000000=0
   ·rw[h2,iy]
    exact wK [] _ (by omega)
   ·exact BX (ih _ (Nat.div_lt_self (Nat.pos_of_ne_zero h) (by omega))) (fun e=>h2 (df.1 e))
theorem Ct (h:Nrm xs) (hl:Lim xs):xs=ce (val xs).toNat:=by
 have h0:=bE hl
 exact Nrm.inj h (fZ _) hl (bk _) (by rw[bu];omega)
def cL (x:Int):CellD:=.s (ce x.natAbs).length ((ce x.natAbs).map (CellD.i .u32))
def cI (x:Int):List CellD:=[.b (decide (x<0)),cL x]
def dI (x:Int):D0:=.a (cI x)
structure Sz (k:Nat) (x:Int):Prop where
 lt:x<pw k
 gt: -x<pw k
section
variable {av:Nat→Prop}{w w':World}
theorem qi {c:Nat}(h:RdC av w (.slice A n c) (.s xs.length (xs.map (CellD.i .u32)))):RdI .u32 w A n xs∧n≤c∧c≤9223372036854775807∧(∀b off,0<n→A=some ⟨b,off,none⟩→ ¬av b):=by
 generalize hu:CellD.s xs.length (xs.map (CellD.i .u32))=u at h
 cases h with
 |s0 _ c hc=>
  have:xs=[]:=by grind
  subst this
  exact⟨Rd.nil,cY _,hc,fun _ _ h=>absurd h (by omega)⟩
 |s b off c sz n us cv h0 hnc hcm hlen hb hav hcell hr=>
  injection hu with h1 h2
  subst h1
  subst h2
  have hsz:sz=1:=by
   simp at hlen
   have:=y7 h0 (hlen.symm.trans (Nat.mul_one _).symm)
   grind
  subst hsz
  refine⟨⟨by simp,fun _=>⟨b,off,rfl,hb,fun j u hj=>?_⟩⟩,hnc,hcm,fun b' off' _ e=>by injection e with e;injection e with e1 e2;subst e1;exact hav⟩
  rw[oG] at hj
  cases hx:xs[j]? with
  |none=>rw[hx] at hj;cases hj
  |some x=>
   rw[hx] at hj
   injection hj with hj
   have hlt:j<xs.length:=(gF.1 hx).1
   have hc:=hcell j (by omega)
   have hrr:=hr j (.i .u32 x) (by rw[oG,hx];rfl)
   rw[hc,iM hrr,←hj]
 |_=>cases hu
theorem qk {c:Nat}(h:RdI .u32 w A n xs) (hnc:n≤c) (hcm:c≤9223372036854775807) (hav: ∀b off,A=some ⟨b,off,none⟩→ ¬av b):
 RdC av w (.slice A n c) (.s n (xs.map (CellD.i .u32))):=by
 have hl:=h.len
 rcases fQ n with h0|h0
 ·subst h0
  have:xs=[]:=by grind
  subst this
  exact .s0 A c hcm
 ·obtain⟨b,off,e,hb,hc⟩:=h.2 h0
  subst e
  refine .s b off c 1 n _ (fun j=>.int .u32 (xs.getD j 0)) h0 hnc hcm (by simp[hl]) hb (hav b off rfl) (fun j hj=>?_) (fun j u hj=>?_)
  ·grind
  ·rw[oG] at hj
   cases hx:xs[j]? with
   |none=>rw[hx] at hj;cases hj
   |some x=>
    rw[hx] at hj
    injection hj with hj
    subst hj
    simp only[List.getD,hx,Option.getD_some]
    exact .i _ _
theorem iw (h:RdV av w v (dI x)): ∃neg A n c,v=.agg #[.bool neg,.slice A n c]∧IsInt w neg A n c x:=by
 obtain⟨cs,rfl,hr⟩:=h
 have hl:=hr.1
 obtain⟨cs⟩:=cs
 match cs,hl,hr with
 |[a,b],_,hr=>
  obtain⟨h1,hr⟩:=hr.uncons
  obtain⟨h2,_⟩:=hr.uncons
  unfold cL at h2
  have e1:=ru h1
  subst e1
  have: ∃A n c,b=.slice A n c:=by
   generalize hu:CellD.s (ce x.natAbs).length ((ce x.natAbs).map (CellD.i .u32))=u at h2
   cases h2 with
   |s0 A c _=>exact⟨A,0,c,rfl⟩
   |s b off c sz n=>exact⟨_,n,c,rfl⟩
   |_=>cases hu
  obtain⟨A,n,c,rfl⟩:=this
  obtain⟨g1,g2,g3,_⟩:=qi h2
  refine⟨_,A,n,c,rfl,ce x.natAbs,⟨g1,g2,g3,bk _⟩,fZ _,?_,fun hn=>?_⟩
  ·rw[bu]
   by_cases hx:x<0
   ·simp[hx,sg];omega
   ·simp[hx,sg];omega
  ·have hx:x<0:=by simpa using hn
   have:=g1.len
   rcases fQ n with h0|h0
   ·rw[h0] at this
    have:=df.1 (ic.1 this);omega
   grind
theorem BP {neg:Bool}{c:Nat}(h:IsInt w neg A n c x) (hav: ∀b off,A=some ⟨b,off,none⟩→ ¬av b):RdV av w (.agg #[.bool neg,.slice A n c]) (dI x):=by
 obtain⟨s1,s2,s3,s4⟩:=h.sign
 obtain⟨xs,hs,hn,hx,hp⟩:=h
 have hneg:neg=decide (x<0):=by
  cases neg with
  |true=>simp[s1 rfl]
  |false=>
   rcases fQ n with h0|h0
   ·grind
   grind
 have hxs:xs=ce x.natAbs:=by
  rw[Ct hn hs.2.2.2]
  congr 1
  have:=bE hs.2.2.2
  cases neg with
  |true=>rw[ef] at hx;omega
  |false=>rw[bL] at hx;omega
 have hl:n=(ce x.natAbs).length:=by rw[←hxs,hs.len]
 refine⟨_,rfl,j5 ?_ (j5 ?_ lu)⟩
 ·rw[hneg];exact .b _
 ·unfold cL
  rw[←hl,←hxs]
  exact qk hs.1 hs.2.1 hs.2.2.1 hav
theorem lr {e:Ending}(hav: ∀b,av b→b<w.heap.size) (h:Ap w x e w'): ∃v,e=.returned v∧Rw av w' v [dI x]∧Below w.heap.size w w':=by
 obtain⟨neg,A,n,c,rfl,hi,hfr,hb⟩:=h
 exact⟨_,rfl,BP hi (fun b off e hv=>by have:=hav b hv;have:=hfr b off e;omega),hb⟩
theorem IsInt.sz {neg:Bool}{c:Nat}(h:IsInt w neg A n c x) (hs:Sz 100000000 x):n≤100000000:=h.le hs.1 hs.2
end
theorem Sz.mono {l:Nat}(h:Sz k x) (hl:k≤l):Sz l x:=by
 have:=lk hl
 exact⟨by have:=h.1;omega,by have:=h.2;omega⟩
theorem Sz.m_ {l:Nat}(h:Sz k x) (hl:k≤l:=by decide):Sz l x:=h.mono hl
theorem gK {l:Nat}(h:Sz k x) (hl:k≤l:=by decide):Sz l x:=h.mono hl
theorem Jb {l:Nat}(h:Sz l x:=by first|assumption|exact Sz.mono (by assumption) (by decide)):Sz l x:=h
theorem Sz.neg (h:Sz k x):Sz k (-x):=⟨h.2,by have:=h.1;omega⟩
theorem Sz.add (h:Sz k x) (h':Sz k y):Sz (k+1) (x+y):=by
 have:=cK k
 obtain⟨h1,h2⟩:=h
 obtain⟨h3,h4⟩:=h'
 constructor<;>omega
theorem Sz.abs:Sz k x↔(x.natAbs:Int)<pw k:=⟨fun h=>by have:=h.lt;have:=h.gt;omega,fun h=>⟨by omega,by omega⟩⟩
theorem Sz.mul {l:Nat}(h:Sz k x) (h':Sz l y):Sz (k+l) (x*y):=by
 rw[Sz.abs] at*
 rw[Int.natAbs_mul,qo,Int.natCast_mul]
 have h1:=cW k
 generalize (x.natAbs:Int)=a at*
 have hb0:0≤(y.natAbs:Int):=by omega
 generalize (y.natAbs:Int)=b at*
 generalize pw k=p at*
 generalize pw l=q at*
 have h3:a*b≤(p-1)*(q-1):=pj (by omega) (by omega) hb0 (by omega)
 grind
theorem Sz.of_le (h:Sz k x) (hy:y.natAbs≤x.natAbs):Sz k y:=by
 rw[Sz.abs] at*;omega
theorem Sz.small (hk:3≤k) (h0: -9223372036854775808≤x) (h1:x≤9223372036854775807):Sz k x:=by
 have h3:pw 3=1000000000000000000000000000:=by decide
 have:=lk hk
 constructor<;>omega
section
theorem AL:Ok Tryz.prog 110 [dI x] [.c (.i .i64 (cO x 0))]:=⟨by kernel_rfl,fun av vs w hav h=>by
 obtain⟨vs⟩:=vs
 match vs,h.1,h with
 |[v],_,h=>
  obtain⟨neg,A,n,c,rfl,hi⟩:=iw h.uncons.1
  exact(IA neg A n c x w hi).mono fun e w' ⟨he,hb⟩=>⟨_,he,.i _ _,hb⟩⟩
theorem yg:Ok Tryz.prog 77 [dI x,dI y] [.c (.i .i64 (cO x y))]:=⟨by kernel_rfl,fun av vs w hav h=>by
 obtain⟨vs⟩:=vs
 match vs,h.1,h with
 |[v,u],_,h=>
  obtain⟨hv,hu⟩:=h.uncons
  replace hu:=hu.uncons.1
  obtain⟨neg,A,n,c,rfl,hi⟩:=iw hv
  obtain⟨neg',A',n',c',rfl,hi'⟩:=iw hu
  exact(GR neg neg' A A' n c n' c' x y w hi hi').mono fun e w' ⟨he,hb⟩=>⟨_,he,.i _ _,hb⟩⟩
theorem uQ (hx:Sz 100000000 x) (hy:Sz 100000000 y):Ok Tryz.prog 74 [dI x,dI y] [dI (x*y)]:=⟨by kernel_rfl,fun av vs w hav h=>by
 obtain⟨vs⟩:=vs
 match vs,h.1,h with
 |[v,u],_,h=>
  obtain⟨hv,hu⟩:=h.uncons
  replace hu:=hu.uncons.1
  obtain⟨neg,A,n,c,rfl,hi⟩:=iw hv
  obtain⟨neg',A',n',c',rfl,hi'⟩:=iw hu
  exact(Jd neg neg' A A' n c n' c' x y w hi hi' (hi.sz hx) (hi'.sz hy)).mono fun e w' h=>lr hav h⟩
theorem KN (hx:Sz 100000000 x) (hy:Sz 100000000 y):Ok Tryz.prog 179 [dI x,dI y] [dI (x+y)]:=⟨by kernel_rfl,fun av vs w hav h=>by
 obtain⟨vs⟩:=vs
 match vs,h.1,h with
 |[v,u],_,h=>
  obtain⟨hv,hu⟩:=h.uncons
  replace hu:=hu.uncons.1
  obtain⟨neg,A,n,c,rfl,hi⟩:=iw hv
  obtain⟨neg',A',n',c',rfl,hi'⟩:=iw hu
  exact(wz neg neg' A A' n c n' c' x y w hi hi' (hi.sz hx) (hi'.sz hy)).mono fun e w' h=>lr hav h⟩
theorem LR (hx:Sz 100000000 x) (hy:Sz 100000000 y):Ok Tryz.prog 178 [dI x,dI y] [dI (x-y)]:=⟨by kernel_rfl,fun av vs w hav h=>by
 obtain⟨vs⟩:=vs
 match vs,h.1,h with
 |[v,u],_,h=>
  obtain⟨hv,hu⟩:=h.uncons
  replace hu:=hu.uncons.1
  obtain⟨neg,A,n,c,rfl,hi⟩:=iw hv
  obtain⟨neg',A',n',c',rfl,hi'⟩:=iw hu
  exact(Kj neg neg' A A' n c n' c' x y w hi hi' (hi.sz hx) (hi'.sz hy)).mono fun e w' h=>lr hav h⟩
theorem ET (hx:Sz 100000000 x):Ok Tryz.prog 111 [dI x] [dI (-x)]:=⟨by kernel_rfl,fun av vs w hav h=>by
 obtain⟨vs⟩:=vs
 match vs,h.1,h with
 |[v],_,h=>
  obtain⟨neg,A,n,c,rfl,hi⟩:=iw h.uncons.1
  exact(Jp neg A n c x w hi (hi.sz hx)).mono fun e w' h=>lr hav h⟩
theorem wL (h0: -9223372036854775808≤x) (h1:x≤9223372036854775807):Ok Tryz.prog 72 [.c (.i .i64 x)] [dI x]:=⟨by kernel_rfl,fun av vs w hav h=>by
 obtain⟨vs⟩:=vs
 match vs,h.1,h with
 |[v],_,h=>
  obtain rfl:=iM h.uncons.1
  exact(Bd x w h0 h1).mono fun e w' h=>lr hav h⟩
end
section
variable {P:Program}{ops:Array Oper}{o:Oper}{T:TF}{B:BF}{V:Nat→Prop}{β:Nat→Nat}{a:Act}{w w':World}{av:Nat→Prop}
theorem AP {R:Value→World→Prop}
 (h: ∀(o':Oper) (a':Act) (K:Act→World→Prop) (Q:Exit→Act→World→Prop),o'.op=o.op→a'.eval=a.eval→(∀v w',R v w'→K (a'.put o'.dst v) w')→o'.wp P a' w K Q):Gives P o a w R:=by
 have he:(⟨a.tmps.push undef,a.defers⟩:Act).eval=a.eval:=by
  funext x
  cases x with
  |tmp t=>
   show(a.tmps.push undef).getD t undef=a.tmps.getD t undef
   by_cases ht:t<a.tmps.size
   ·simp only[Array.getD,ht,Array.size_push,Nat.lt_succ_of_lt ht,dite_true]
    rw[Array.getInternal_eq_getElem,Array.getInternal_eq_getElem,Array.getElem_push_lt]
   ·by_cases he:t=a.tmps.size
    ·simp_all
    grind
  |_=>rfl
 have h1:=h {o with dst:=some a.tmps.size} ⟨a.tmps.push undef,a.defers⟩ (fun a'' w'=>a''.defers=a.defers∧ ∃v,a''.tmps[a.tmps.size]? =some v∧R v w') (fun _ _ _=>False) rfl he (fun v w' hv=>⟨rfl,v,by simp[Act.put],hv⟩)
 unfold Oper.wp at h1
 unfold Gives
 rw[he] at h1
 have e2:execOp a.eval {o with dst:=some a.tmps.size}=execOp a.eval o:=by cases o;rfl
 rw[e2] at h1
 have hput: ∀(v:Value) (w':World),(∃u,((⟨a.tmps.push undef,a.defers⟩:Act).put (some a.tmps.size) v).tmps[a.tmps.size]? =some u∧R u w')→R v w':=by
  rintro v w' ⟨u,hu,hR⟩
  simp[Act.put] at hu
  grind
 generalize (execOp a.eval o).run P w=r at*
 cases r with
 |ok n w'=>
  cases n<;>simp only[Oper.upon] at h1<;>simp only[xa]
  case value v=>exact hput v w' h1.2
  case skip=>exact hput undef w' h1.2
  case enter f args=>
   refine h1.mono fun e w'' he=>?_
   cases e with
   |returned v=>exact⟨v,rfl,hput v w'' he.2⟩
   |panicked c=>exact he.elim
   |outgrown=>obtain⟨_,_,h⟩:=he;exact h.elim
  case defer d=>
   have:=h1.1
   simp[Act.put] at this
  case row row args=>exact h1.mono fun v w'' hv=>hput v w'' hv.2
 |halt x w'=>cases x<;>simp only[Oper.upon] at h1
theorem G5 {x:Operand}{e:Int}
 (hx:bH T x=some (.v (.c (cL e)))) (hs:Sz 100000000 e) (hg:gd ops ⟨dst,.call ⟨.builtin .append,#[.const (.slice none 0 0),x],#[66,66]⟩,ty,pos,af,g⟩ T=some true):
 Sem Tryz.prog ops ⟨dst,.call ⟨.builtin .append,#[.const (.slice none 0 0),x],#[66,66]⟩,ty,pos,af,g⟩ T B (.r (.v (.c (cL e)))):=by
 refine⟨oD rfl,fun V β a w hsee=>⟨dK hsee hg,AP fun o' a' K Q ho he hK=>?_⟩⟩
 have h1:RdC V w (a.eval x) (cL e):=aw hsee (x:=x) (by simp[Op.operands,Call.operands]) hx
 unfold cL at h1
 have hf: ∃A n c,a.eval x=.slice A n c:=by
  generalize hu:CellD.s (ce e.natAbs).length ((ce e.natAbs).map (CellD.i .u32))=u at h1
  generalize a.eval x=v at h1
  cases h1 with
  |s0 A c _=>exact⟨A,0,c,rfl⟩
  |s b off c sz n=>exact⟨_,n,c,rfl⟩
  |_=>cases hu
 obtain⟨A,n,c,hv⟩:=hf
 rw[hv] at h1
 obtain⟨g1,g2,g3,g4⟩:=qi h1
 have hl:=g1.len
 have hn:n≤100000000:=by
  rw[←hl]
  refine(fZ e.natAbs).len (bk _) ?_
  rw[bu];exact Sz.abs.1 hs
 refine Ez (.const (.slice none 0 0)) x ho A n c (ce e.natAbs) rfl (by rw[he];exact hv) ⟨g1,g2,g3,bk _⟩ (by omega) ?_
 intro v' w' hown hgr
 refine hK v' w' ⟨?_,(bP _ w).grown hgr (aX _) (by intro k hk;cases hk)⟩
 obtain⟨A',c',rfl⟩:=hown.form
 have hsl:=hown.sl
 have:=qk (av:=V) hsl.1 hsl.2.1 hsl.2.2.1 (fun b off e hV=>by have:=hown.fresh (k:=w.heap.size) (aX _) b off e;have:=hsee.av b hV;omega)
 show RdC V w' _ (cL e)
 unfold cL
 rw[hl]
 exact this
theorem Mz {x y:Operand}{k:IntKind}{m n:Int}
 (hx:bH T x=some (.v (.c (.i k m)))) (hy:bH T y=some (.v (.c (.i k n)))) (h0:n≠0) (hg:gd ops ⟨dst,.binOp .quo xt x y yt,ty,pos,af,g⟩ T=some true):
 Sem P ops ⟨dst,.binOp .quo xt x y yt,ty,pos,af,g⟩ T B (.r (.v (.c (.i k (k.wrap (m.tdiv n)))))):=
 bp hg (oD rfl) (fun V β a w hs=>by
  have e1:a.eval x=.int k m:=iM (aw hs (x:=x) (by simp[Op.operands]) hx)
  have e2:a.eval y=.int k n:=iM (aw hs (x:=y) (by simp[Op.operands]) hy)
  exact⟨.int k (k.wrap (m.tdiv n)),by simp[execOp,e1,e2,eqGuard,binOp,Op.intDiv,h0],.i _ _⟩)
theorem yc {x y:Operand}{k:IntKind}{m n:Int}
 (hx:bH T x=some (.v (.c (.i k m)))) (hy:bH T y=some (.v (.c (.i k n)))) (h0:n≠0) (hg:gd ops ⟨dst,.binOp .rem xt x y yt,ty,pos,af,g⟩ T=some true):
 Sem P ops ⟨dst,.binOp .rem xt x y yt,ty,pos,af,g⟩ T B (.r (.v (.c (.i k (m.tmod n))))):=
 bp hg (oD rfl) (fun V β a w hs=>by
  have e1:a.eval x=.int k m:=iM (aw hs (x:=x) (by simp[Op.operands]) hx)
  have e2:a.eval y=.int k n:=iM (aw hs (x:=y) (by simp[Op.operands]) hy)
  exact⟨.int k (m.tmod n),by simp[execOp,e1,e2,eqGuard,binOp,Op.intDiv,h0],.i _ _⟩)
theorem rh (h:RdC av w v (cL x)): ∃A n c,v=.slice A n c∧Sl w A n c (ce x.natAbs)∧(∀b off,0<n→A=some ⟨b,off,none⟩→ ¬av b):=by
 have h1:=h
 unfold cL at h1
 have hf: ∃A n c,v=.slice A n c:=by
  generalize hu:CellD.s (ce x.natAbs).length ((ce x.natAbs).map (CellD.i .u32))=u at h1
  cases h1 with
  |s0 A c _=>exact⟨A,0,c,rfl⟩
  |s b off c sz n=>exact⟨_,n,c,rfl⟩
  |_=>cases hu
 obtain⟨A,n,c,rfl⟩:=hf
 obtain⟨g1,g2,g3,g4⟩:=qi h1
 exact⟨A,n,c,rfl,⟨g1,g2,g3,bk _⟩,g4⟩
theorem fA (h:Sz k x):(ce x.natAbs).length≤k:=by
 refine(fZ x.natAbs).len (bk _) ?_
 rw[bu];exact Sz.abs.1 h
theorem Jn {c:Nat}{zs:List Int}{b:Nat}(h:Ow w' b (.slice A n c) n zs) (hav: ∀k,av k→k<b):RdC av w' (.slice A n c) (.l (val zs)):=
 .l A n c zs h.sl.1 h.sl.2.1 h.sl.2.2.1 h.sl.2.2.2 (fun b' off _ e hV=>by have:=h.fresh (aX _) b' off e;have:=hav b' hV;omega)
theorem qz (hx:Sz 100000000 x) (hy:Sz 100000000 y) (h0:y≠0):Ok Tryz.prog 147 [.c (cL x),.c (cL y)] [.c (.l ((x.natAbs:Int)/y.natAbs)),.c (.l ((x.natAbs:Int)%y.natAbs))]:=⟨by kernel_rfl,fun av vs w hav h=>by
 obtain⟨vs⟩:=vs
 match vs,h.1,h with
 |[v,u],_,h=>
  obtain⟨hv,hu⟩:=h.uncons
  replace hu:=hu.uncons.1
  obtain⟨A,n,c,rfl,ha,_⟩:=rh hv
  obtain⟨B,m,d,rfl,hb,_⟩:=rh hu
  have:=ha.len
  have:=hb.len
  have:=fA hx
  have:=fA hy
  refine(C3 A B n c m d _ _ w ha hb (by omega) (by omega) (by rw[bu];omega)).mono ?_
  rintro e w' ⟨A',n',c',zs,B',m',d',ys,rfl,h1,h2,h3,h4,h5⟩
  rw[bu,bu] at h2 h4
  refine⟨_,rfl,⟨_,rfl,ou ?_ (ou ?_ RdL.nil)⟩,h5⟩
  ·rw[←h2];exact Jn h1 hav
  ·rw[←h4];exact Jn h3 hav⟩
theorem iI {neg:Bool}:Ok Tryz.prog 108 [.c (.b neg),.c (.l x)] [dI (sg neg x)]:=⟨by kernel_rfl,fun av vs w hav h=>by
 obtain⟨vs⟩:=vs
 match vs,h.1,h with
 |[v,u],_,h=>
  obtain⟨hv,hu⟩:=h.uncons
  replace hu:=hu.uncons.1
  obtain rfl:=ru hv
  have hu0:RdC av w u (.l x):=hu
  generalize hq:CellD.l x=q at hu0
  cases hu0 with
  |l A n c xs h0 h1 h2 h3 h4=>
   injection hq with hq
   subst hq
   have hsl:Sl w A n c xs:=⟨h0,h1,h2,h3⟩
   refine(gV neg A n c xs w hsl).mono ?_
   rintro e w' ⟨rfl,hb⟩
   refine⟨_,rfl,?_,hb⟩
   have hi:=(eX hsl neg).below hb
   obtain⟨xs',g1,g2,g3,g4⟩:=id hi
   rcases fQ (trm xs).length with hz|hz
   ·have e0:trm xs=[]:=ic.1 hz
    have ev:val xs=0:=by rw[←fy,e0];rfl
    rw[hz] at hi⊢
    have hsv:sg neg (val xs)=0:=by rw[ev];cases neg<;>rfl
    rw[hsv]
    refine⟨_,rfl,j5 ?_ (j5 ?_ lu)⟩
    ·simp;exact .b _
    ·unfold cL
     rw[show(0:Int).natAbs=0 from rfl,iy]
     exact .s0 A 0 (by omega)
   ·have hn:0<n:=by have:=nK xs;have:=h0.len;omega
    exact BP hi (fun b off e=>h4 b off hn e)
  |_=>cases hq⟩
theorem qg {neg:Bool}:Ok Tryz.prog 108 [.c (.b neg),.c (cL x)] [dI (sg neg x.natAbs)]:=⟨iI (neg:=neg) (x:=x.natAbs)|>.cal,fun av vs w hav h=>by
 refine iI.run av vs w hav ⟨h.1,fun j v d hv hd=>?_⟩
 match j,hd with
 |0,hd=>exact h.2 0 v d hv hd
 |1,hd=>
  injection hd with hd
  subst hd
  obtain⟨A,n,c,rfl,hs,hav'⟩:=rh (h.2 1 v _ hv rfl)
  have:=RdC.l (av:=av) A n c _ hs.1 hs.2.1 hs.2.2.1 hs.2.2.2 hav'
  rw[bu] at this
  exact this
 |j+2,hd=>cases hd⟩
theorem Fn {u:Int}(h0:0≤u) (h1:u≤18446744073709551615):Ok Tryz.prog 109 [.c (.i .u64 u)] [.c (.l u)]:=⟨by kernel_rfl,fun av vs w hav h=>by
 obtain⟨vs⟩:=vs
 match vs,h.1,h with
 |[v],_,h=>
  obtain rfl:=iM h.uncons.1
  refine(sR u w h0 h1 (by omega)).mono ?_
  rintro e w' ⟨A,c,zs,rfl,g1,g2,g3⟩
  exact⟨_,rfl,by rw[←g2];exact Jn g1 hav,g3⟩⟩
theorem Bl:Ok Tryz.prog 146 [dI x] [.c (.i .u64 (if x.natAbs<1000000000000000000 then x.natAbs else 0)),.c (.b (decide (x.natAbs<1000000000000000000)))]:=⟨by kernel_rfl,fun av vs w hav h=>by
 obtain⟨vs⟩:=vs
 match vs,h.1,h with
 |[v],_,h=>
  obtain⟨cs,hcs,hr⟩:=h.uncons.1
  subst hcs
  obtain⟨cs⟩:=cs
  match cs,hr.1,hr with
  |[a,b],_,hr=>
   obtain⟨h1,hr⟩:=hr.uncons
   have h2:=hr.uncons.1
   obtain rfl:=ru h1
   obtain⟨A,n,c,rfl,hs,_⟩:=rh h2
   have hl:=hs.len
   have hp2:pw 2=1000000000000000000:=by decide
   by_cases hn:n≤2
   ·have hlt:x.natAbs<1000000000000000000:=by
     have h1:=dj (bk x.natAbs)
     rw[bu] at h1
     have h3:=lk (n:=(ce x.natAbs).length) (m:=2) (by omega)
     omega
    have hfin: ∀(e:Ending) (w':World),e=.returned (.tuple #[.int .u64 (val (ce x.natAbs)),.bool true])∧Below w.heap.size w w'→ ∃v,e=.returned v∧Rw av w' v [.c (.i .u64 (if x.natAbs<1000000000000000000 then x.natAbs else 0)),.c (.b (decide (x.natAbs<1000000000000000000)))]∧Below w.heap.size w w':=by
     rintro e w' ⟨rfl,hb⟩
     refine⟨_,rfl,⟨_,rfl,ou ?_ (ou ?_ RdL.nil)⟩,hb⟩
     ·rw[if_pos hlt,bu];exact .i _ _
     ·rw[show decide (x.natAbs<1000000000000000000)=true from by simpa using hlt];exact .b _
    by_cases hn1:n≤1
    ·exact(I1 _ A n c _ w hs hn1).mono hfin
    ·obtain rfl:n=2:=by omega
     exact(GT _ A c _ w hs).mono hfin
   ·have hge: ¬x.natAbs<1000000000000000000:=by
     have hne:ce x.natAbs≠ []:=fun e=>by rw[e] at hl;simp at hl;omega
     have h1:=(fZ x.natAbs).ge (bk _) hne
     rw[bu] at h1
     have h3:=lk (n:=2) (m:=(ce x.natAbs).length-1) (by omega)
     omega
    refine(FR _ A n c w (by omega)).mono ?_
    rintro e w' ⟨rfl,hb⟩
    refine⟨_,rfl,⟨_,rfl,ou ?_ (ou ?_ RdL.nil)⟩,hb⟩
    ·rw[if_neg hge];exact .i _ _
    ·rw[show decide (x.natAbs<1000000000000000000)=false from by simpa using hge];exact .b _⟩
end
def mx (P:Program) (U:TypeId):Option (TypeId×Nat×Nat×List CellD):=
 match P.underlying U with
 |some (.slice e)=>match P.info? e,t6 P e with
  |some i,some zs=>if Nat.beq i.size zs.length then some (e,i.size,i.bytes,zs) else none
  |_,_=>none
 |_=>none
section
variable {P:Program}{ops:Array Oper}{o:Oper}{T:TF}{B:BF}{V:Nat→Prop}{β:Nat→Nat}{a:Act}{w w':World}{av:Nat→Prop}
theorem fD (h:mx P U=some (e,m,by_,zs)):P.underlying U=some (.slice e)∧ ∃i z,P.info? e=some i∧i.zero=some z∧i.size=m∧i.bytes=by_∧zs.length=m∧ ∀(V:Nat→Prop) (w:World),RdCs V w z.cells.toList zs:=by
 unfold mx at h
 split at h
 ·rename_i e' hu
  split at h
  ·rename_i i zs' hi hz
   split at h
   ·rename_i hb
    injection h with h
    injection h with h1 h
    injection h with h2 h
    injection h with h3 h4
    subst h1 h2 h3 h4
    have hzc:=hz
    unfold t6 at hzc
    rw[hi] at hzc
    dsimp only at hzc
    cases hz0:i.zero with
    |none=>rw[hz0] at hzc;cases hzc
    |some z=>
     refine⟨hu,i,z,hi,hz0,rfl,rfl,(fN hb).symm,fun V w=>?_⟩
     obtain⟨it,z',hi',hz',hr⟩:=sM (V:=V) (w:=w) hz
     grind
   grind
  grind
 grind
theorem lB {l c:Operand}
 (hU:mx P U=some (e,1,by_,[z])) (hl:bH T l=some (.v (.c (.i kl n)))) (hc:bH T c=some (.v (.c (.i kc n)))) (hb:by_*n≤281474976710656) (h63:n≤9223372036854775807)
 (hg:gd ops ⟨dst,.makeSlice U l c,ty,pos,af,g⟩ T=some true):Sem P ops ⟨dst,.makeSlice U l c,ty,pos,af,g⟩ T B (.a e (List.replicate n z) (some n)):=fun V β a w hs=>⟨dK hs hg,by
 obtain⟨hu,i,zv,hi,hz,hsz,hby,_,hr⟩:=fD hU
 have e1:a.eval l=.int kl n:=iM (aw hs (x:=l) (by simp[Op.operands]) hl)
 have e2:a.eval c=.int kc n:=iM (aw hs (x:=c) (by simp[Op.operands]) hc)
 have hrun:=run_make (P:=P) w U e i zv hu hi hz kl kc n n (by omega) (by omega) (by rw[hby];have h2:((by_*n:Nat):Int)≤281474976710656:=Int.ofNat_le.2 hb;rw[Int.natCast_mul] at h2;exact h2) (by omega)
 have hrr:=hr V w
 unfold Gives
 have:(execOp a.eval ⟨dst,.makeSlice U l c,ty,pos,af,g⟩).run P w=.ok (.value (.slice (some ⟨w.heap.size,0,none⟩) n n)) (w.alloc (.cells (madeCells zv.cells (n*1)) e)):=by
  simp only[execOp,e1,e2,ed,hrun,eb,fq,hsz]
  simp
 rw[this]
 refine⟨_,rfl,rfl,by simp[madeCells],fun j v u hv hu=>?_⟩
 have hlen:zv.cells.size=1:=by have:=hrr.1;simpa using this
 simp only[madeCells,Nat.mul_one,hlen,Nat.mod_one,Array.toList_map,Array.toList_range,oG] at hv
 cases hq:(List.range n)[j]? with
 |none=>rw[hq] at hv;cases hv
 |some q=>
  rw[hq] at hv
  injection hv with hv
  have hu2:u=z:=by grind
  subst hu2
  have hpos:0<zv.cells.size:=by omega
  have h0:zv.cells.toList[0]? =some (zv.cells[0]'hpos):=by grind
  have:=hrr.2 0 _ u h0 rfl
  rw[←hv]
  have e3:zv.cells[0]! =zv.cells[0]'hpos:=by grind
  rw[e3];exact this⟩
theorem m8 {x:Operand}{c:Nat}
 (hU:nu P U=some m) (hx:bH T x=some (.o k n c)) (hg:gd ops ⟨dst,.call ⟨.builtin .len,#[x],#[U]⟩,ty,pos,af,g⟩ T=some true):
 Sem P ops ⟨dst,.call ⟨.builtin .len,#[x],#[U]⟩,ty,pos,af,g⟩ T B (.r (.v (.c (.i .i64 n)))):=
 bp hg (oD rfl) (fun V β a w hs=>by
  have e:a.eval x=.slice (some ⟨β k,0,none⟩) n c:=aw hs (x:=x) (by simp[Op.operands,Call.operands]) hx
  unfold nu at hU
  split at hU
  ·rename_i el hu
   refine⟨.int .i64 n,?_,.i _ _⟩
   simp[execOp,resolve,invoke,builtin,Builtin.len_,e,run_underlying hu,goInt]
  ·cases hU)
theorem bn {x:Operand}{c:Nat}
 (hU:nu P U=some m) (hx:bH T x=some (.o k n c)) (hi:bH T i=some (.v (.c (.i ki j)))) (hj:0≤j∧j<n) (hg:gd ops ⟨dst,.indexAddr U x i,ty,pos,af,g⟩ T=some true):
 Sem P ops ⟨dst,.indexAddr U x i,ty,pos,af,g⟩ T B (.r (.p k (j.toNat*m))):=
 bp hg (fun k' e=>by
  obtain rfl:k=k':=by injection e
  exact pV (ops:=ops) (o:=⟨dst,.indexAddr U x i,ty,pos,af,g⟩) (by simp[Op.operands]) hx rfl) (fun V β a w hs=>by
  have e:a.eval x=.slice (some ⟨β k,0,none⟩) n c:=aw hs (x:=x) (by simp[Op.operands]) hx
  have h2:=iM (aw hs (x:=i) (by simp[Op.operands]) hi)
  unfold nu at hU
  split at hU
  case h_2=>cases hU
  rename_i el hul
  cases hinf:P.info? el with
  |none=>rw[hinf] at hU;cases hU
  |some inf=>
   rw[hinf] at hU
   simp at hU
   refine⟨.pointer (some ⟨β k,j.toNat*m,none⟩),?_,rfl⟩
   have hso: ∀w,(sizeOf el).run P w=.ok m w:=fun w=>by unfold sizeOf typeInfo;simp[program,Sem.run,hinf,hU]
   simp[execOp,Instr.indexAt,e,h2,asIntOf,run_underlying hul,hj.1,hj.2,hso,gT])
theorem j8 {x:Operand}{xs:List CellD}
 (hU:nu P U=some m) (hx:bH T x=some (.v (.c (.s n xs)))) (hh:bH T h=some (.v (.c (.i ki j)))) (hj:0≤j∧j≤n) (hl:xs.length=n*m) (hu:xs.take (j.toNat*m)=us) (hg:gd ops ⟨dst,.slice U x none (some h) none,ty,pos,af,g⟩ T=some true):
 Sem P ops ⟨dst,.slice U x none (some h) none,ty,pos,af,g⟩ T B (.r (.v (.c (.s j.toNat us)))):=
 bp hg (oD rfl) (fun V β a w hs=>by
  have h1:=aw hs (x:=x) (by simp[Op.operands]) hx
  have h2:=iM (aw hs (x:=h) (by simp[Op.operands]) hh)
  generalize hv:a.eval x=v at h1
  have h1:RdC V w v (.s n xs):=h1
  unfold nu at hU
  split at hU
  case h_2=>cases hU
  rename_i el hul
  cases hinf:P.info? el with
  |none=>rw[hinf] at hU;cases hU
  |some inf=>
   rw[hinf] at hU
   simp at hU
   have hso: ∀w,(sizeOf el).run P w=.ok m w:=fun w=>by unfold sizeOf typeInfo;simp[program,Sem.run,hinf,hU]
   have hgen: ∀(A:Option Addr) (c:Nat),a.eval x=.slice A n c→j≤c→(execOp a.eval ⟨dst,.slice U x none (some h) none,ty,pos,af,g⟩).run P w=.ok (.value (.slice A j.toNat c)) w:=by
    intro A c e hjc
    simp[execOp,Instr.sliceAt,Instr.slice,run_underlying hul,e,h2,Instr.sliceBounds,Instr.sliceBound,asIntOf,hj.1,hjc,hso,Addr.add]
    try (cases A<;>rfl)
   cases h1 with
   |s0 A c hc=>
    grind
   |s b off c sz _ _ cv h0 hnc hcm hlen hb hav hc hr=>
    have hsz:sz=m:=by
     rw[hl] at hlen
     exact(y7 h0 hlen).symm
    refine⟨_,hgen _ c hv (by omega),?_⟩
    rcases fQ j.toNat with hj0|hj0
    ·rw[←hu,hj0];simp;exact .s0 _ c hcm
    ·have hjn:j.toNat≤n:=by omega
     have hmul:j.toNat*sz≤n*sz:=nf _ hjn
     refine .s b off c sz j.toNat us cv hj0 (by omega) hcm ?_ hb hav (fun q hq=>hc q (by omega)) (fun q u hq=>?_)
     ·grind
     ·rw[←hu,lg] at hq
      split at hq
      ·grind
      ·cases hq)
end
section
variable {P:Program}{ops:Array Oper}{o:Oper}{T:TF}{B:BF}{V:Nat→Prop}{β:Nat→Nat}{a:Act}{w w':World}{av:Nat→Prop}
theorem JY (h:RdCs V w vs us): ∀v∈vs,v.oneCell'=true:=by
 intro v hv
 obtain⟨j,hj⟩:=List.getElem?_of_mem hv
 have hlt:j<us.length:=by rw[←h.1];exact(gF.1 hj).1
 have:=h.2 j v _ hj (d7 hlt)
 generalize us[j]=u at this
 cases this with
 |x v h1 h2=>cases v<;>first|rfl|exact absurd rfl (h1 _)|exact absurd rfl (h2 _)
 |e v h1 h2=>cases v<;>first|rfl|exact absurd rfl (h1 _)|exact absurd rfl (h2 _)
 |_=>rfl
theorem Db {xs:List CellD}(h:RdC V w v (.s n xs)) (hl:xs.length=n*m):
 ∃(A:Option Addr) (c:Nat) (vs:List Value),v=.slice A n c∧RdCs V w vs xs∧(∀(j:Nat) (u:Value),vs[j]? =some u→ ∃b off,A=some ⟨b,off,none⟩∧w.cell? ⟨b,off+j,none⟩=some u):=by
 generalize hu:CellD.s n xs=u at h
 cases h with
 |s0 A c hc=>
  injection hu with h1 h2
  subst h1 h2
  exact⟨A,c,[],rfl,lu,fun j u hj=>by simp at hj⟩
 |s b off c sz n' xs' cv h0 hnc hcm hlen hb hav hcell hr=>
  injection hu with h1 h2
  subst h1 h2
  refine⟨_,c,(List.range (n*sz)).map cv,rfl,⟨by simp[hlen],fun j v u hv hu=>?_⟩,fun j u hj=>?_⟩
  ·grind
  grind
 |_=>cases hu
theorem lW {xs:List CellD}(hU:mx P U=some (e,m,by_,zs)) (h:RdC V w v (.s n xs)) (hl:xs.length=n*m): ∃news,Src P m U v n news w∧RdCs V w news xs:=by
 obtain⟨A,c,vs,rfl,hr,hc⟩:=Db h hl
 obtain⟨hu,_⟩:=fD hU
 have hlen:vs.length=n*m:=by rw[hr.1,hl]
 have hcells: ∀w',(∀a:Addr,w'.cell? a=w.cell? a)→(Builtin.firstCells m n (.slice A n c)).run P w'=.ok vs.toArray w':=by
  intro w' hw
  cases A with
  |none=>
   have:vs=[]:=by
    cases vs with
    |nil=>rfl
    |cons u us=>obtain⟨b,off,e,_⟩:=hc 0 u rfl;cases e
   subst this;rfl
  |some A=>
   have:=run_loadCells_list (P:=P) w' A vs (fun j u hj=>by
    obtain⟨b,off,e,hcell⟩:=hc j u hj
    injection e with e
    subst e
    rw[gT,hw];exact hcell)
   rw[hlen] at this
   exact this
 exact⟨vs,⟨.inl ⟨e,hu⟩,fun _=>rfl,hcells w (fun _=>rfl),hcells w.drew (fun _=>rfl),hlen,JY hr⟩,hr⟩
theorem rl {x y:Operand}{c q:Nat}{ys:List CellD}
 (hU:mx P U=some (e,m,by_,zs)) (hx:bH T x=some (.o k n c)) (hy:bH T y=some (.v (.c (.s q ys)))) (hb:B k=some (e,cs)) (hcs:cs.length=c*m) (hys:ys.length=q*m) (hm:0<m)
 (hgrow:c<n+q) (hnc:n≤c) (hbytes:(n+q)*by_≤140737488355328) (h63:n+q≤maxLen) (hus:cs.take (n*m)++ys=us)
 (hg:gd ops ⟨dst,.call ⟨.builtin .append,#[x,y],#[U,U]⟩,ty,pos,af,g⟩ T=some true):
 Sem P ops ⟨dst,.call ⟨.builtin .append,#[x,y],#[U,U]⟩,ty,pos,af,g⟩ T B (.c k (.v (.c (.s (n+q) us)))):=by
 refine⟨rfl,by rw[hb];simp,fun V β a w hs=>⟨dK hs hg,?_⟩⟩
 have e1:a.eval x=.slice (some ⟨β k,0,none⟩) n c:=aw hs (x:=x) (by simp[Op.operands,Call.operands]) hx
 have h2:RdC V w (a.eval y) (.s q ys):=aw hs (x:=y) (by simp[Op.operands,Call.operands]) hy
 obtain⟨news,hsrc,hrn⟩:=lW hU h2 hys
 obtain⟨hu,i,z,hi,hz,hsz,hby,_,hzr⟩:=fD hU
 obtain⟨hvk,vs,ev,hr⟩:=hs.box k e cs hb
 subst hsz
 have hle:n*i.size≤cs.length:=by rw[hcs];exact nf _ hnc
 have hr2:=hr.take (n*i.size)
 have hlen:(vs.toList.take (n*i.size)).length=n*i.size:=by rw[hr2.1,cX];omega
 have hold:(Builtin.firstCells i.size n (.slice (some ⟨β k,0,none⟩) n c)).run P w.drew=.ok (vs.toList.take (n*i.size)).toArray w.drew:=by
  have:=run_loadCells_list (P:=P) w.drew ⟨β k,0,none⟩ (vs.toList.take (n*i.size)) (fun j u hj=>by
   rw[gT,eC]
   show w.cell? _=_
   rw[lg] at hj
   split at hj
   ·rw[co ev,←hj];simp
   ·cases hj)
  rw[hlen] at this
  exact this
 have hrun:=run_append_grow_src (P:=P) (w:=w) U U ty e i z hu hi hz (some ⟨β k,0,none⟩) n c _ hold (a.eval y) q news hsrc hgrow (by have:maxLen=9223372036854775807:=rfl;omega) (growslice_fits hgrow (by rw[hby];exact hbytes))
 have hexec:(execOp a.eval ⟨dst,.call ⟨.builtin .append,#[x,y],#[U,U]⟩,ty,pos,af,g⟩).run P w=.ok (.value (.slice (some ⟨w.heap.size,0,none⟩) (n+q) (grownCap w (n+q) c e)))
  (w.drew.alloc (.cells ((vs.toList.take (n*i.size)++news).toArray++Builtin.zeroCells z.cells (grownCap w (n+q) c e-(n+q))) e)):=by
  simp only[execOp,resolve,invoke,builtin,ed,fq,eb,p9,mR,p8,e1]
  rw[hrun]
  rfl
 unfold Gives
 rw[hexec]
 have hbel:Below w.heap.size w (w.drew.alloc (.cells ((vs.toList.take (n*i.size)++news).toArray++Builtin.zeroCells z.cells (grownCap w (n+q) c e-(n+q))) e)):=(bP _ w).drew.alloc (aX _) _
 refine⟨?_,hbel⟩
 have hkeep:Keep V (fun b=>V b∧b≠β k) w (w.drew.alloc (.cells ((vs.toList.take (n*i.size)++news).toArray++Builtin.zeroCells z.cells (grownCap w (n+q) c e-(n+q))) e)):=⟨hbel.size,fun b hb _=>hbel.block b hb,fun _ _ h=>h.1⟩
 have hrd:=(dm hr2 hrn).keep hkeep
 rw[hus] at hrd
 have hlenr:(vs.toList.take (n*i.size)++news).length=(n+q)*i.size:=by rw[bN,hlen,hsrc.newsLen,gP]
 refine .s w.heap.size 0 (grownCap w (n+q) c e) i.size (n+q) us (fun j=>(vs.toList.take (n*i.size)++news).getD j undef) (by omega) (grownCap_ge _ _ _ _) ?_ (by rw[←hrd.1];exact hlenr) (by simp) (fun h=>by have:=hs.av _ h.1;omega) (fun j hj=>?_) (fun j u hj=>?_)
 ·exact grownCap_le_maxLen _ _ _ _ h63
 ·have hlt:j<(vs.toList.take (n*i.size)++news).length:=by omega
  rw[eC]
  show(w.drew.alloc _).cell? ⟨w.drew.heap.size,j,none⟩=_
  rw[co (U:=e) (vs:=(vs.toList.take (n*i.size)++news).toArray++Builtin.zeroCells z.cells (grownCap w (n+q) c e-(n+q))) (heap_alloc_new w.drew _)]
  grind
 ·have hlt:j<(vs.toList.take (n*i.size)++news).length:=by rw[hrd.1];exact(gF.1 hj).1
  have hv:(vs.toList.take (n*i.size)++news)[j]? =some ((vs.toList.take (n*i.size)++news)[j]):=by grind
  simp only[List.getD,hv,Option.getD_some]
  exact hrd.2 j _ u hv hj
theorem rn {ps:Array (Nat×Operand)}{dps:List (Nat×D0)}
 (hU:mx P U=some (e,m,by_,zs)) (hp:n6 T ps.toList=some dps) (hf:oV (fun i=>some (i*m,m)) (List.replicate n zs).flatten dps=some us) (hn:n*m≤16777216) (hm:0<n*m)
 (hg:gd ops ⟨dst,.buildSlice U n ps,ty,pos,af,g⟩ T=some true):Sem P ops ⟨dst,.buildSlice U n ps,ty,pos,af,g⟩ T B (.a e us (some n)):=fun V β a w hs=>⟨dK hs hg,by
 obtain⟨hu,i,z,hi,hz,hsz,hby,hzl,hzr⟩:=fD hU
 obtain⟨h1,h2⟩:=nG hs ps.toList dps (fun p hp=>by simp only[Op.operands,List.mem_toArray,rd];exact⟨p,hp,rfl⟩) hp
 subst hsz
 have hzs:z.cells.size=i.size:=by have:=(hzr V w).1;rw[hzl] at this;simpa using this
 have hzero:RdCs V w ((Array.range (n*i.size)).map (z.cells[· %z.cells.size]!)).toList (List.replicate n zs).flatten:=by
  have key: ∀(n:Nat),RdCs V w ((List.range (n*i.size)).map (fun j=>z.cells[j%z.cells.size]!)) (List.replicate n zs).flatten:=by
   intro n
   induction n with
   |zero=>simp;exact lu
   |succ n ih=>
    rw[Nat.succ_mul,List.range_add,qO,List.replicate_succ',List.flatten_append]
    refine dm ih ?_
    have e2:(List.map (fun x=>n*i.size+x) (List.range i.size)).map (fun j=>z.cells[j%z.cells.size]!)=z.cells.toList:=by
     apply List.ext_getElem (by simp[hzs])
     intro j h1 h2
     simp at h1
     simp only[List.getElem_map,List.getElem_range,hzs]
     rw[Nat.mul_comm n,Nat.mul_add_mod,Nat.mod_eq_of_lt (by omega),getElem!_pos z.cells j (by omega)]
     simp
    grind
  have:=key n
  simpa using this
 obtain⟨cells,hfl,hrd⟩:=qP _ dps _ _ us h1 h2 hzero hf
 have hrun:=run_buildSlice (P:=P) w U e n (ps.map fun(i,x)=>(i,a.eval x)) cells i z hu hi hz (by have:(2:Nat)^24=16777216:=rfl;omega) (by omega) (by simpa using hfl)
 unfold Gives
 have:(execOp a.eval ⟨dst,.buildSlice U n ps,ty,pos,af,g⟩).run P w=.ok (.value (.slice (some ⟨w.heap.size,0,none⟩) n n)) (w.alloc (.cells cells e)):=by
  simp only[execOp,ed,hrun,eb,fq]
 rw[this]
 exact⟨cells,rfl,rfl,hrd⟩⟩
end
section
variable {P:Program}{σ:St}{Q:Exit→St→Prop}
theorem Rel.upd {a:Act}(h:Rel av w0 n T B β a w) {t:Nat}{x:DV}(hv:a.tmps[t]? =some v)
 (hx:RdX (fun b=>av b∨ ∃k,B k≠none∧β k=b) w β v x) (hr:gB x=none):Rel av w0 n (fun s=>if t=s then some x else T s) B β a w:=
 ⟨h.dfr,h.siz,h.bel,h.avl,h.avE,h.big,h.fix,h.inj,h.own,fun s y k hs hy=>by
  try dsimp only at hs
  split at hs
  ·injection hs with hs;subst hs;rw[hr] at hy;cases hy
  ·exact h.wf s y k hs hy,h.sees.av,h.sees.box,fun s y hL hs=>by
  try dsimp only at hs
  split at hs
  ·rename_i e;injection hs with hs;subst hs;subst e;exact⟨v,hv,hx⟩
  ·exact h.sees.tmp s y hL hs⟩
theorem dV {ι:Type}{x y:Code}(J:ι→St) (h1:Dw P x σ (xK (fun σ'=> ∃j,Sub σ' (J j)) Q)) (h2: ∀j,Dw P y (J j) Q):Dw P (.seq x y) σ Q:=by
 refine ab (h1.mono fun e σ' h=>?_)
 cases e with
 |normal=>obtain⟨j,hs⟩:=h;exact(h2 j).weak hs
 |_=>exact h
theorem Rel.release {a:Act}{t:Nat}(hr:Rel av w0 N (St.T ⟨N,tm,bx⟩) (St.B ⟨N,tm,bx⟩) β a w)
 (ht:an t tm=some (.o k n' c')) (hb:an k bx=some (U,cs)) (hm:cs.length=c'*m) (hn:n'≤c') (hc:c'≤9223372036854775807) (hu:cs.take (n'*m)=us):
 Rel av w0 N (St.T ⟨N,(t,.v (.c (.s n' us)))::eY k tm,eo k bx⟩) (St.B ⟨N,(t,.v (.c (.s n' us)))::eY k tm,eo k bx⟩) β a w:=by
 obtain⟨v,hv,hx⟩:=hr.sees.tmp t _ trivial ht
 have hx:v=.slice (some ⟨β k,0,none⟩) n' c':=hx
 subst hx
 obtain⟨hvk,vs,ev,hrd⟩:=hr.sees.box k U cs hb
 have hk0:(St.B ⟨N,tm,bx⟩) k≠none:=by rw[show(St.B ⟨N,tm,bx⟩) k=some (U,cs) from hb];simp
 have e:=EA hr hk0
 have hkeep:Keep (fun b=>av b∨ ∃l,(St.B ⟨N,tm,bx⟩) l≠none∧β l=b) (fun b=>(av b∨ ∃l,(St.B ⟨N,tm,bx⟩) l≠none∧β l=b)∧b≠β k) w w:=⟨Nat.le_refl _,fun _ _ _=>rfl,fun _ _ h=>h.1⟩
 have hle:n'*m≤cs.length:=by rw[hm];exact nf _ hn
 have hread:RdC (fun b=>(av b∨ ∃l,(St.B ⟨N,tm,bx⟩) l≠none∧β l=b)∧b≠β k) w (.slice (some ⟨β k,0,none⟩) n' c') (.s n' us):=by
  rcases fQ n' with h0|h0
  ·subst h0
   rw[←hu];simp
   exact .s0 _ _ hc
  ·have hr2:=(hrd.take (n'*m)).keep hkeep
   rw[hu] at hr2
   have hvl:n'*m≤vs.size:=by have:=hrd.1;simp at this;omega
   refine .s (β k) 0 c' m n' us (fun j=>vs.getD j undef) h0 hn hc ?_ (hr.sees.av _ hvk) (fun h=>h.2 rfl) (fun j hj=>?_) (fun j u hj=>?_)
   ·grind
   ·rw[eC,co ev]
    have:j<vs.size:=by omega
    simp[Array.getD,this]
   ·have hlt:j<us.length:=(gF.1 hj).1
    have hlt2:j<n'*m:=by grind
    refine hr2.2 j _ u ?_ hj
    rw[lg,if_pos hlt2,tS]
    have:j<vs.size:=by omega
    simp[Array.getD,this]
 have h2:=(hr.drop k).upd (t:=t) (x:=.v (.c (.s n' us))) hv (by rw[e];exact hread) rfl
 refine h2.congr (fun s=>?_) (fun l=>?_)
 ·show an s ((t,.v (.c (.s n' us)))::eY k tm)=_
  rw[aF]
  split
  ·rfl
  ·rw[ga]
   show _=lm k (fun s=>an s tm) s
   unfold lm
   grind
 ·exact f9 k l bx
theorem bI {t:Nat}
 (ht:an t tm=some (.o k n' c')) (hb:an k bx=some (U,cs)) (hm:cs.length=c'*m) (hn:n'≤c') (hc:c'≤9223372036854775807) (hu:cs.take (n'*m)=us)
 (h:Dw P c ⟨N,(t,.v (.c (.s n' us)))::eY k tm,eo k bx⟩ Q):Dw P c ⟨N,tm,bx⟩ Q:=fun av w0 β a w hr=>h av w0 β a w (hr.release ht hb hm hn hc hu)
end
section
variable {P:Program}{ops:Array Oper}{T:TF}{B:BF}{dst:Option Nat}{x y c:Operand}{ty U W xt yt:TypeId}{pos:String}{af:Array Edge}{g:Option (Nat×Bool)}{dv:DV}{k off n m:Nat}{cs us:List CellD}{u:CellD}
theorem au (h:(bH T x,gd ops ⟨dst,.move x,ty,pos,af,g⟩ T)=(some dv,some true)):Sem P ops ⟨dst,.move x,ty,pos,af,g⟩ T B (.r dv):=Ag (congrArg Prod.fst h) (congrArg Prod.snd h)
theorem RX {f o':Nat}(hU:yR P U f=some o') (h:(bH T x,gd ops ⟨dst,.fieldAddr U x f,ty,pos,af,g⟩ T)=(some (.p k off),some true)):Sem P ops ⟨dst,.fieldAddr U x f,ty,pos,af,g⟩ T B (.r (.p k (off+o'))):=
 xc hU (congrArg Prod.fst h) (congrArg Prod.snd h)
theorem eL (hU:kM P U=some (false,n)) (h:(bH T x,B k,cs[off]?,gd ops ⟨dst,.load U x,ty,pos,af,g⟩ T)=(some (.p k off),some (W,cs),some u,some true)):Sem P ops ⟨dst,.load U x,ty,pos,af,g⟩ T B (.r (.v (.c u))):=
 bW hU (congrArg Prod.fst h) (congrArg (fun q=>q.2.1) h) (congrArg (fun q=>q.2.2.1) h) (congrArg (fun q=>q.2.2.2) h)
theorem qw (us:List CellD) (hU:kM P U=some (true,n)) (h:(bH T x,B k,(cs.drop off).take n,us.length,gd ops ⟨dst,.load U x,ty,pos,af,g⟩ T)=(some (.p k off),some (W,cs),us,n,some true)):Sem P ops ⟨dst,.load U x,ty,pos,af,g⟩ T B (.r (.v (.a us))):=
 aU hU (congrArg Prod.fst h) (congrArg (fun q=>q.2.1) h) (congrArg (fun q=>q.2.2.1) h) (congrArg (fun q=>q.2.2.2.1) h) (congrArg (fun q=>q.2.2.2.2) h)
theorem dy (us:List CellD) (hU:kM P U=some (true,n)) (h:(bH T x,B k,us.length,gd ops ⟨dst,.load U x,ty,pos,af,g⟩ T)=(some (.p k off),some (W,cs),n,some true)) (hu:(cs.drop off).take n=us):Sem P ops ⟨dst,.load U x,ty,pos,af,g⟩ T B (.r (.v (.a us))):=
 aU hU (congrArg Prod.fst h) (congrArg (fun q=>q.2.1) h) hu (congrArg (fun q=>q.2.2.1) h) (congrArg (fun q=>q.2.2.2) h)
theorem jo (hU:kM P U=some (true,n)) (h:(bH T x,B k,cs.length,gd ops ⟨dst,.load U x,ty,pos,af,g⟩ T)=(some (.p k 0),some (W,cs),n,some true)):Sem P ops ⟨dst,.load U x,ty,pos,af,g⟩ T B (.r (.v (.a cs))):=
 aU hU (congrArg Prod.fst h) (congrArg (fun q=>q.2.1) h) (by rw[od];exact fp (Nat.le_of_eq (congrArg (fun q=>q.2.2.1) h))) (congrArg (fun q=>q.2.2.1) h) (congrArg (fun q=>q.2.2.2) h)
theorem eM (hn:us.length=n) (hU:kM P U=some (true,n)) (h:(bH T x,B k,gd ops ⟨dst,.load U x,ty,pos,af,g⟩ T)=(some (.p k 0),some (W,us),some true)):Sem P ops ⟨dst,.load U x,ty,pos,af,g⟩ T B (.r (.v (.a us))):=
 aU hU (congrArg Prod.fst h) (congrArg (fun q=>q.2.1) h) (by rw[od];exact fp (Nat.le_of_eq hn)) hn (congrArg (fun q=>q.2.2) h)
theorem bQ {a e:Int}(r:Int) (hb:wB op kk a e=some r) (h:(bH T x,bH T y,gd ops ⟨dst,.binOp op xt x y yt,ty,pos,af,g⟩ T)=(some (.v (.c (.i kk a))),some (.v (.c (.i kk e))),some true)):Sem P ops ⟨dst,.binOp op xt x y yt,ty,pos,af,g⟩ T B (.r (.v (.c (.i kk r)))):=
 i6 (congrArg Prod.fst h) (congrArg (fun q=>q.2.1) h) hb (congrArg (fun q=>q.2.2) h)
theorem Pw {a e:Int}(h:(bH T x,bH T y,Mr op a e,gd ops ⟨dst,.binOp op xt x y yt,ty,pos,af,g⟩ T)=(some (.v (.c (.i kk a))),some (.v (.c (.i kk e))),some b,some true)):
 Sem P ops ⟨dst,.binOp op xt x y yt,ty,pos,af,g⟩ T B (.r (.v (.c (.b b)))):=D4 (congrArg Prod.fst h) (congrArg (fun q=>q.2.1) h) (congrArg (fun q=>q.2.2.1) h) (congrArg (fun q=>q.2.2.2) h)
theorem fI (hU:kM P U=some (true,m)) (h:(bH T ax,bH T x,B k,us.length,cs.length,gd ops ⟨none,.store U ax x,ty,pos,af,g⟩ T)=(some (.p k 0),some (.v (.a us)),some (W,cs),m,m,some true)):
 Sem P ops ⟨none,.store U ax x,ty,pos,af,g⟩ T B (.s k W us):=bG hU (congrArg Prod.fst h) (congrArg (fun q=>q.2.1) h) (congrArg (fun q=>q.2.2.1) h) (congrArg (fun q=>q.2.2.2.1) h) (congrArg (fun q=>q.2.2.2.2.1) h) (congrArg (fun q=>q.2.2.2.2.2) h)
theorem mg {args:Array Operand}{at_:Array TypeId}{rs:List D0}(h:(bH T fo,tA T args.toList,gd ops ⟨dst,.call ⟨.value fo,args,at_⟩,ty,pos,af,g⟩ T)=(some (.v (.c (.f f))),some ds,some true)) (hok:Ok P f ds rs):
 Sem P ops ⟨dst,.call ⟨.value fo,args,at_⟩,ty,pos,af,g⟩ T B (.r (C5 rs)):=Jq (congrArg Prod.fst h) (congrArg (fun q=>q.2.1) h) hok (congrArg (fun q=>q.2.2) h)
end
section
variable {P:Program}{σ:St}{Q:Exit→St→Prop}{n t:Nat}{tm:List (Nat×DV)}{bx:List (Nat×TypeId×List CellD)}{rt:List ResultVar}{ds rs:List D0}
theorem bR (h:dl P l.toArray l σ (Q .normal)) (hn:FI l.toArray σ.n=true:=by kernel_rfl):Dw P (.region id l.toArray false) σ Q:=ss hn h
theorem Ok.fn {fn:Func}(hf:P.funcs[f]? =some fn) (n:Nat) (rt:List ResultVar) (hb:fn.body=some c) (h:Dw P c ⟨n,rQ 0 ds,[]⟩ fun e σ=>(e=.normal∨e=.ret)∧n9 P σ rt=some rs)
 (hcal:m5 P f=true:=by kernel_rfl) (hlen:Nat.ble ds.length fn.ntmps=true:=by rfl) (hn:fn.ntmps=n:=by rfl) (hr:fn.results.toList=rt:=by rfl):Ok P f ds rs:=by
 subst hn hr
 exact Ok.of hcal hf hb hlen h
theorem ag (h:n9 P σ rt=some rs):(Exit.ret=.normal∨Exit.ret=.ret)∧n9 P σ rt=some rs:=⟨.inr rfl,h⟩
theorem am (hr:n9 P ⟨n,tm,bx⟩ rt=some ds) (h:an t tm=some (.v d):=by rfl):n9 P ⟨n,tm,bx⟩ (.tmp t::rt)=some (d::ds):=I8 h hr
theorem bb (hU:kM P U=some (true,m)) (h:(an t tm,an k bx,(cs.drop off).take m,us.length)=(some (.p k off),some (W,cs),us,m))
 (hr:n9 P ⟨n,tm,bx⟩ rt=some ds):n9 P ⟨n,tm,bx⟩ (.cell t U::rt)=some (.a us::ds):=kX hU (congrArg Prod.fst h) (congrArg (fun q=>q.2.1) h) (congrArg (fun q=>q.2.2.1) h) (congrArg (fun q=>q.2.2.2) h) hr
end
structure Tb where
 ty:Nat→Option (Bool×Nat)
 fd:Nat→Nat→Option Nat
 sl:Nat→Option Nat
structure TbOk (P:Program) (b:Tb):Prop where
 ty: ∀U r,b.ty U=some r→kM P U=some r
 fd: ∀U f r,b.fd U f=some r→yR P U f=some r
 sl: ∀U r,b.sl U=some r→nu P U=some r
inductive SA where
 |sk
 |v (x:DV)
 |bx (U:TypeId) (cs:List CellD)
 |st (k:Nat) (U:TypeId) (cs:List CellD)
def SA.eff:SA→Eff
 | .sk=>.skip
 | .v x=>.r x
 | .bx U cs=>.a U cs none
 | .st k U cs=>.s k U cs
def D7 (b:Tb) (T:TF) (B:BF):Op→Option SA
 | .move x=>match bH T x with
   |some dv=>some (.v dv)
   |none=>none
 | .assign x=>match bH T x with
   |some dv=>some (.v dv)
   |none=>none
 | .extract x i=>match bH T x with
   |some (.t ds)=>match ds[i]? with
    |some d=>some (.v (.v d))
    |none=>none
   |_=>none
 | .binOp op _ x y _=>match bH T x,bH T y with
   |some (.v (.c (.i k1 a))),some (.v (.c (.i k2 e)))=>match decEq k1 k2 with
    | .isTrue _=>match Mr op a e with
      |some r=>some (.v (.v (.c (.b r))))
      |none=>none
    | .isFalse _=>none
   |_,_=>none
 | .pick c x y=>match bH T c with
   |some (.v (.c (.b true)))=>match bH T x with
    |some dv=>match gB dv with
     |none=>some (.v dv)
     |some _=>none
    |none=>none
   |some (.v (.c (.b false)))=>match bH T y with
    |some dv=>match gB dv with
     |none=>some (.v dv)
     |some _=>none
    |none=>none
   |_=>none
 | .unOp .not _xt x=>match bH T x with
   |some (.v (.c (.b r)))=>some (.v (.v (.c (.b (!r)))))
   |_=>none
 | .box U x=>match bH T x with
   |some (.v (.a us))=>some (.bx U us)
   |some (.v (.c u))=>some (.bx U [u])
   |_=>none
 | .fieldAddr U x f=>match bH T x,b.fd U f with
   |some (.p k off),some o'=>some (.v (.p k (off+o')))
   |_,_=>none
 | .load U x=>match bH T x with
   |some (.p k off)=>match B k,b.ty U with
    |some (_,cs),some (true,n)=>bif Nat.beq off 0&&Nat.beq cs.length n then some (.v (.v (.a cs))) else none
    |some (_,cs),some (false,_)=>match cs[off]? with
     |some u=>some (.v (.v (.c u)))
     |none=>none
    |_,_=>none
   |_=>none
 | .store U ax x=>match bH T ax,bH T x,b.ty U with
   |some (.p k off),some (.v (.a us)),some (true,m)=>match B k with
    |some (W,cs)=>bif Nat.beq off 0&&Nat.beq us.length m&&Nat.beq cs.length m then some (.st k W us) else none
    |none=>none
   |_,_,_=>none
 | .call ⟨.builtin .len,⟨[x]⟩,⟨[U]⟩⟩=>match bH T x,b.sl U with
   |some (.v (.c (.s n _))),some _=>some (.v (.v (.c (.i .i64 n))))
   |_,_=>none
 |_=>none
def xo (b:Tb) (ops:Array Oper) (T:TF) (B:BF) (o:Oper):Option SA:=
 match gd ops o T with
 |some true=>D7 b T B o.op
 |some false=>some .sk
 |none=>none
section
variable {P:Program}{b:Tb}{ops:Array Oper}{T:TF}{B:BF}
theorem BC (hb:TbOk P b) {op:Op}{s:SA}(hg:gd ops ⟨dst,op,ty,pos,af,g⟩ T=some true) (h:D7 b T B op=some s)
 (hd: ∀k U cs,s=.st k U cs→dst=none):Sem P ops ⟨dst,op,ty,pos,af,g⟩ T B s.eff:=by
 unfold D7 at h
 split at h
 ·split at h
  ·rename_i e;cases h;exact Ag e hg
  ·cases h
 ·split at h
  ·rename_i e;cases h;exact C0 e hg
  ·cases h
 ·split at h
  ·rename_i e
   split at h
   ·rename_i e2;cases h;exact AJ e e2 hg
   ·cases h
  ·cases h
 ·split at h
  ·rename_i e1 e2
   split at h
   ·rename_i hk _
    subst hk
    split at h
    ·rename_i e3;cases h;exact D4 e1 e2 e3 hg
    ·cases h
   grind
  grind
 ·split at h
  ·rename_i e
   split at h
   ·rename_i e2
    split at h
    ·rename_i e3;cases h;exact A0 (b:=true) e e2 e3 hg
    grind
   grind
  ·rename_i e
   split at h
   ·rename_i e2
    split at h
    ·rename_i e3;cases h;exact A0 (b:=false) e e2 e3 hg
    grind
   grind
  grind
 ·split at h
  ·rename_i e;cases h;exact Lh e hg
  grind
 ·split at h
  ·rename_i e;cases h;exact Gj e hg
  ·rename_i e;cases h;exact Fq e hg
  grind
 ·split at h
  ·rename_i e1 e2;cases h;exact xc (hb.fd _ _ _ e2) e1 hg
  grind
 ·split at h
  ·rename_i e
   split at h
   ·rename_i e1 e2
    rw[ol] at h
    split at h
    ·rename_i hc
     cases h
     rw[dU] at hc
     have h0:=fN hc.1
     have hl:=fN hc.2
     subst h0
     exact aU (hb.ty _ _ e2) e e1 (by rw[od];exact fp (Nat.le_of_eq hl)) hl hg
    grind
   ·rename_i e1 e2
    split at h
    ·rename_i e3;cases h;exact bW (hb.ty _ _ e2) e e1 e3 hg
    grind
   grind
  grind
 ·split at h
  ·rename_i e1 e2 e3
   split at h
   ·rename_i e4
    rw[ol] at h
    split at h
    ·rename_i hc
     cases h
     rw[dU,dU] at hc
     have h0:=fN hc.1.1
     subst h0
     have:=hd _ _ _ rfl
     subst this
     exact bG (hb.ty _ _ e3) e1 e2 e4 (fN hc.1.2) (fN hc.2) hg
    grind
   grind
  grind
 ·split at h
  ·rename_i e1 e2;cases h;exact KI (hb.sl _ _ e2) e1 hg
  grind
 grind
theorem fg (hb:TbOk P b) {op:Op}{s:SA}(h:xo b ops T B ⟨dst,op,ty,pos,af,g⟩=some s)
 (hd: ∀k U cs,s=.st k U cs→dst=none):Sem P ops ⟨dst,op,ty,pos,af,g⟩ T B s.eff:=by
 unfold xo at h
 split at h
 ·rename_i e;exact BC hb e h hd
 ·rename_i e;cases h;exact eB e
 grind
end
section
variable (P:Program) (b:Tb) (ops:Array Oper) (K:St→Prop) (n:Nat)
def N3:Nat→List Oper→List (Nat×DV)→List (Nat×TypeId×List CellD)→Prop
 |0,os,tm,bx=>dl P ops os ⟨n,tm,bx⟩ K
 |_+1,[],_,_=>False
 |k+1,o::os,tm,bx=>match o.dst,xo b ops (fun s=>an s tm) (fun l=>an l bx) o with
  |some t,some .sk=>N3 k os ((t,.u)::tm) bx
  |some t,some (.v x)=>N3 k os ((t,x)::tm) bx
  |some t,some (.bx U cs)=>match an t bx with
   |none=>N3 k os ((t,.p t 0)::tm) ((t,U,cs)::bx)
   |some _=>False
  |none,some (.st j U cs)=>N3 k os tm ((j,U,cs)::bx)
  |_,_=>False
variable {P b ops K n}
theorem Kb (hb:TbOk P b): ∀ {k:Nat}{os:List Oper}{tm:List (Nat×DV)}{bx:List (Nat×TypeId×List CellD)},N3 P b ops K n k os tm bx→dl P ops os ⟨n,tm,bx⟩ K
 |0,os,tm,bx,h=>h
 |k+1,[],tm,bx,h=>h.elim
 |k+1,⟨dst,op,ty,pos,af,g⟩::os,tm,bx,h=>by
  unfold N3 at h
  split at h
  ·rename_i t e1 e2
   cases e1
   exact jN (fg hb e2 (fun _ _ _ e=>by cases e)) (Kb hb h)
  ·rename_i t x e1 e2
   cases e1
   exact b9 (fg hb e2 (fun _ _ _ e=>by cases e)) (Kb hb h)
  ·rename_i t U cs e1 e2
   cases e1
   split at h
   ·rename_i e3;exact sX (fg hb e2 (fun _ _ _ e=>by cases e)) e3 (Kb hb h)
   ·exact h.elim
  ·rename_i j U cs e1 e2
   cases e1
   exact fV (fg hb e2 (fun _ _ _ _=>rfl)) (Kb hb h)
  ·exact h.elim
end
section
variable (P:Program) (b:Tb) (ops:Array Oper) (K:St→Prop) (n:Nat)
def NS:List Oper→List (Nat×DV)→List (Nat×TypeId×List CellD)→Prop
 |[],tm,bx=>K ⟨n,tm,bx⟩
 |o::os,tm,bx=>match o.dst,xo b ops (fun s=>an s tm) (fun l=>an l bx) o with
  |some t,some .sk=>NS os ((t,.u)::tm) bx
  |some t,some (.v x)=>NS os ((t,x)::tm) bx
  |some t,some (.bx U cs)=>match an t bx with
   |none=>NS os ((t,.p t 0)::tm) ((t,U,cs)::bx)
   |some _=>False
  |none,some (.st j U cs)=>NS os tm ((j,U,cs)::bx)
  |_,_=>False
variable {P b ops K n}
theorem AZ (hb:TbOk P b): ∀ {os:List Oper}{tm:List (Nat×DV)}{bx:List (Nat×TypeId×List CellD)},NS b ops K n os tm bx→dl P ops os ⟨n,tm,bx⟩ K
 |[],tm,bx,h=>h
 |⟨dst,op,ty,pos,af,g⟩::os,tm,bx,h=>by
  unfold NS at h
  split at h
  ·rename_i t e1 e2
   cases e1
   exact jN (fg hb e2 (fun _ _ _ e=>by cases e)) (AZ hb h)
  ·rename_i t x e1 e2
   cases e1
   exact b9 (fg hb e2 (fun _ _ _ e=>by cases e)) (AZ hb h)
  ·rename_i t U cs e1 e2
   cases e1
   split at h
   ·rename_i e3;exact sX (fg hb e2 (fun _ _ _ e=>by cases e)) e3 (AZ hb h)
   ·exact h.elim
  ·rename_i j U cs e1 e2
   cases e1
   exact fV (fg hb e2 (fun _ _ _ _=>rfl)) (AZ hb h)
  ·exact h.elim
end
section
variable (P:Program) (b:Tb) (ops:Array Oper) (hs:List Nat) (K:Sq→Prop) (n:Nat)
def PY:Nat→List Oper→List (Nat×DV)→List (Nat×TypeId×List CellD)→List (Nat×TypeId×List CellD)→List Nat→Prop
 |0,os,tm,bx,nb,sd=>dq P ops hs os ⟨⟨n,tm,bx⟩,nb,sd⟩ K
 |_+1,[],_,_,_,_=>False
 |k+1,o::os,tm,bx,nb,sd=>match o.dst,xo b ops (fun s=>an s tm) (hid hs (fun l=>an l bx)) o with
  |some t,some .sk=>PY k os ((t,.u)::tm) bx nb sd
  |some t,some (.v x)=>PY k os ((t,x)::tm) bx nb sd
  |some t,some (.bx U cs)=>match an t (nb++bx) with
   |none=>PY k os ((t,.p t 0)::tm) bx ((t,U,cs)::nb) sd
   |some _=>False
  |_,_=>False
variable {P b ops hs K n}
theorem Lm (hb:TbOk P b): ∀ {k:Nat}{os:List Oper}{tm:List (Nat×DV)}{bx nb:List (Nat×TypeId×List CellD)}{sd:List Nat},PY P b ops hs K n k os tm bx nb sd→dq P ops hs os ⟨⟨n,tm,bx⟩,nb,sd⟩ K
 |0,os,tm,bx,nb,sd,h=>h
 |k+1,[],tm,bx,nb,sd,h=>h.elim
 |k+1,⟨dst,op,ty,pos,af,g⟩::os,tm,bx,nb,sd,h=>by
  unfold PY at h
  split at h
  ·rename_i t e1 e2
   cases e1
   exact kN (fg hb e2 (fun _ _ _ e=>by cases e)) (Lm hb h)
  ·rename_i t x e1 e2
   cases e1
   exact bA (fg hb e2 (fun _ _ _ e=>by cases e)) (Lm hb h)
  ·rename_i t U cs e1 e2
   cases e1
   split at h
   ·rename_i e3;exact Ck (fg hb e2 (fun _ _ _ e=>by cases e)) e3 (Lm hb h)
   ·exact h.elim
  ·exact h.elim
end
section
variable (P:Program) (b:Tb) (ops:Array Oper) (hs:List Nat) (K:Sq→Prop) (n:Nat)
def PZ:List Oper→List (Nat×DV)→List (Nat×TypeId×List CellD)→List (Nat×TypeId×List CellD)→List Nat→Prop
 |[],tm,bx,nb,sd=>K ⟨⟨n,tm,bx⟩,nb,sd⟩
 |o::os,tm,bx,nb,sd=>match o.dst,xo b ops (fun s=>an s tm) (hid hs (fun l=>an l bx)) o with
  |some t,some .sk=>PZ os ((t,.u)::tm) bx nb sd
  |some t,some (.v x)=>PZ os ((t,x)::tm) bx nb sd
  |some t,some (.bx U cs)=>match an t (nb++bx) with
   |none=>PZ os ((t,.p t 0)::tm) bx ((t,U,cs)::nb) sd
   |some _=>False
  |_,_=>False
variable {P b ops hs K n}
theorem ED (hb:TbOk P b): ∀ {os:List Oper}{tm:List (Nat×DV)}{bx nb:List (Nat×TypeId×List CellD)}{sd:List Nat},PZ b ops hs K n os tm bx nb sd→dq P ops hs os ⟨⟨n,tm,bx⟩,nb,sd⟩ K
 |[],tm,bx,nb,sd,h=>h
 |⟨dst,op,ty,pos,af,g⟩::os,tm,bx,nb,sd,h=>by
  unfold PZ at h
  split at h
  ·rename_i t e1 e2
   cases e1
   exact kN (fg hb e2 (fun _ _ _ e=>by cases e)) (ED hb h)
  ·rename_i t x e1 e2
   cases e1
   exact bA (fg hb e2 (fun _ _ _ e=>by cases e)) (ED hb h)
  ·rename_i t U cs e1 e2
   cases e1
   split at h
   ·rename_i e3;exact Ck (fg hb e2 (fun _ _ _ e=>by cases e)) e3 (ED hb h)
   ·exact h.elim
  ·exact h.elim
end
theorem H7 {f:Nat→Bool}(h:(List.range N).all f=true): ∀U,U<N→f U=true:=by grind
theorem TbOk.of {P:Program}{t:Nat→Option (Bool×Nat)}{f:Nat→Nat→Option Nat}{s:Nat→Option Nat}
 (h1:((List.range N).all fun U=>match t U with|none=>true|some r=>decide (kM P U=some r))=true)
 (h2:((List.range N).all fun U=>(List.range 16).all fun i=>match f U i with|none=>true|some r=>decide (yR P U i=some r))=true)
 (h3:((List.range N).all fun U=>match s U with|none=>true|some r=>decide (nu P U=some r))=true):
 TbOk P ⟨fun U=>bif Nat.blt U N then t U else none,fun U i=>bif Nat.blt U N&&Nat.blt i 16 then f U i else none,fun U=>bif Nat.blt U N then s U else none⟩:=by
 have hlt: ∀ {a c:Nat},Nat.blt a c=true→a<c:=fun h=>dG h
 refine⟨fun U r h=>?_,fun U i r h=>?_,fun U r h=>?_⟩
 ·grind
 ·dsimp only at h
  rw[ol] at h
  split at h
  ·rename_i hc
   rw[dU] at hc
   have:=H7 (H7 h2 U (hlt hc.1)) i (hlt hc.2)
   grind
  grind
 grind
end Go.Proofs.YtkfgimjmgfoneaaGreatDoor
