/-A run on known values:what an operation does;a region in any order. -/
import Derived.Test.YtacopbfkmnpfgaaGreatSpQ
namespace Go.Proofs.YtacopbfkmnpfgaaGreat
open Go Go.RowKit
structure StX (V A:Nat→Prop) (n:Nat) (T:TX) (H:HF) (β:Nat→Pl) (a:Act) (w:World):Prop where
 mem:Mem V A H β w
 dfr:a.defers=[]
 siz:a.tmps.size=n
 tmp: ∀t x,T t=some x→ ∃v,a.tmps[t]? =some v∧RdX2 A (Zs V H β) w β v x
def pm (A Z:Nat→Prop) (w:World) (β:Nat→Pl) (L:Nat→Prop) (T:TX) (a:Act):Prop:= ∀t x,L t→T t=some x→ ∃v,a.tmps[t]? =some v∧RdX2 A Z w β v x
structure Evt where
 x:XV
 Hv:HF
 Hv':HF
 N:Nat
 N':Nat
def vR (d:Option Nat) (x:XV) (T:TX):TX:=fun t=>if d=some t then some x else T t
section
variable {P:Program}{ops:Array Oper}{o:Oper}{T Tl:TX}{e:Evt}{V A:Nat→Prop}{n:Nat}{H:HF}{β:Nat→Pl}{a:Act}{w:World}
def Gx (P:Program) (ops:Array Oper) (o:Oper) (T:TX) (e:Evt):Prop:= ∀V A β a w,(∀k,A k→ ¬(e.N≤k∧k<e.N'))→Mem V A e.Hv β w→pm A (Zs V e.Hv β) w β (dg ops o) T a→
 ns o ops a=true∧Gives P o a w fun v w'=> ∃A' β',(∀k,A k→A' k)∧(∀k,A' k→Ad A e.N e.N' k)∧Mem V A' e.Hv' β' w'∧Hst e.N e.N' A e.Hv β w e.Hv' β' w'∧RdX2 A' (Zs V e.Hv' β') w' β' v e.x
def wN (ops:Array Oper) (o:Oper) (T:TX) (e:Evt):Prop:=e.x=.u∧e.Hv'=e.Hv∧ ∀V A β a w,pm A (Zs V e.Hv β) w β (dg ops o) T a→ns o ops a=false
theorem StX.step (hst:StX V A n T H β a w) (hop:Gx P ops o Tl e∨wN ops o Tl e) (hT: ∀t x,dg ops o t→Tl t=some x→T t=some x) (hv: ∀k c,e.Hv k=some c→H k=some c)
 (hf: ∀k,A k→ ¬(e.N≤k∧k<e.N')) (hd: ∀t,o.dst=some t→t<n) {Q:Exit→Act→World→Prop}{K:Act→World→Prop}
 (hK: ∀A' β' a' w',(∀k,A k→A' k)→(∀k,A' k→Ad A e.N e.N' k)→Hst e.N e.N' A H β w (eJ H e.Hv e.Hv') β' w'→StX V A' n (vR o.dst e.x T) (eJ H e.Hv e.Hv') β' a' w'→K a' w'):
 if Region.wanted o (yielded ops a.tmps) then o.wp P a w K Q∨(o.asks P a w∧LetsOut Q) else K (a.put o.dst undef) w:=by
 have htm:pm A (Zs (Vx V H e.Hv β) e.Hv β) w β (dg ops o) Tl a:=by
  rw[JR hv]
  exact fun t x hl hx=>hst.tmp t x (hT t x hl hx)
 rcases hop with hop|⟨hx,hH,hop⟩
 ·obtain⟨hw,hg⟩:=hop (Vx V H e.Hv β) A β a w hf (hst.mem.see hv) htm
  rw[if_pos hw]
  refine .inl (hg.wp fun v w' ⟨A',β',hA1,hA2,hm,hh,hx⟩=>?_)
  obtain⟨hm2,hh2,hZ⟩:=frame hst.mem hv hf hA1 hm hh
  refine hK A' β' _ _ hA1 hA2 hh2 ⟨hm2,by rw[jx];exact hst.dfr,by rw[lP];exact hst.siz,fun t x ht=>?_⟩
  unfold vR at ht
  split at ht
  ·rename_i hdt
   injection ht with ht
   subst ht
   rw[hdt]
   exact⟨v,lJ (by rw[hst.siz];exact hd t hdt),by rw[hZ];exact hx⟩
  ·rename_i hdt
   obtain⟨u,e1,hr⟩:=hst.tmp t x ht
   exact⟨u,(jY hdt).trans e1,hr.mono (hh2.keep hst.mem) hA1 hh2.same⟩
 ·have hw:=hop _ A β a w htm
  unfold ns at hw
  rw[if_neg (by rw[hw];simp)]
  have hp:eJ H e.Hv e.Hv'=H:=by
   rw[hH]
   funext k
   unfold eJ
   cases h:e.Hv k with
   |none=>rfl
   |some c=>exact(hv k c h).symm
  refine hK A β _ _ (fun _ h=>h) (fun _ h=>.inl h) (by rw[hp];exact Hst.refl) ?_
  rw[hp]
  refine⟨hst.mem,by rw[jx];exact hst.dfr,by rw[lP];exact hst.siz,fun t x ht=>?_⟩
  unfold vR at ht
  split at ht
  ·rename_i hdt
   injection ht with ht
   subst ht
   rw[hdt,hx]
   exact⟨undef,lJ (by rw[hst.siz];exact hd t hdt),rfl⟩
  ·rename_i hdt
   obtain⟨u,e1,hr⟩:=hst.tmp t x ht
   exact⟨u,(jY hdt).trans e1,hr⟩
inductive Prec (ops:Array Oper):Nat→Nat→Prop
 |one {i j:Nat}{o:Oper}:ops[i]? =some o→j∈bv o→Prec ops j i
 |tr {i j k:Nat}:Prec ops j k→Prec ops k i→Prec ops j i
theorem Prec.down {listed:Array Bool}(hcl: ∀i o j,listed.getD i false=true→ops[i]? =some o→j∈bv o→listed.getD j false=true) {j i:Nat}(h:Prec ops j i):listed.getD i false=true→listed.getD j false=true:=by
 induction h with
 |one ho hj=>exact fun hi=>hcl _ _ _ hi ho hj
 |tr _ _ ih1 ih2=>exact fun hi=>ih1 (ih2 hi)
theorem Prec.last {j i:Nat}(h:Prec ops j i): ∃k o,ops[i]? =some o∧k∈bv o∧(j=k∨Prec ops j k):=by
 induction h with
 |one ho hj=>exact⟨_,_,ho,hj,.inl rfl⟩
 |tr h1 _ _ ih2=>
  obtain⟨k,o,ho,hk,h⟩:=ih2
  rcases h with rfl|h
  ·exact⟨_,o,ho,hk,.inr h1⟩
  ·exact⟨k,o,ho,hk,.inr (h1.tr h)⟩
def Ei (d:Option Nat) (e:Evt):Nat→Option (Option XV):=fun t=>if d=some t then some (some e.x) else none
open Classical in
noncomputable def uH (e:Evt):Nat→Option (Option (TypeId×List AV)):=fun k=>if e.Hv' k=e.Hv k then none else some (e.Hv' k)
def nG (l:List Oper) (es:List Evt):=List.zipWith (fun(o:Oper) e=>Ei o.dst e) l es
noncomputable def qk (es:List Evt):=es.map uH
theorem NO {k:Nat}(h:uH e k≠none):e.Hv' k≠e.Hv k:=by
 intro q
 apply h
 unfold uH
 rw[if_pos q]
theorem J2 {k:Nat}(h:e.Hv' k≠e.Hv k):uH e k=some (e.Hv' k):=by
 unfold uH
 rw[if_neg h]
theorem DW {γ:Type}(f:Oper→Evt→γ) {l:List Oper}{es:List Evt}{j:Nat}{u:γ}(h:(List.zipWith f l es)[j]? =some u): ∃o e,l[j]? =some o∧es[j]? =some e∧u=f o e:=by
 rw[List.getElem?_zipWith] at h
 cases h1:l[j]? with
 |none=>rw[h1] at h;cases h
 |some o=>
  cases h2:es[j]? with
  |none=>rw[h1,h2] at h;cases h
  |some e=>rw[h1,h2] at h;simp at h;exact⟨o,e,rfl,rfl,h.symm⟩
theorem Co {Q:Exit→Act→World→Prop}(hlow: ∀(i:Nat) (o:Oper) (j:Nat),ops[i]? =some o→j∈bv o→j<i) (hdn: ∀(i:Nat) (o:Oper) (t:Nat),ops[i]? =some o→o.dst=some t→t<n)
 (pre:Nat→Nat→Prop) (hpre: ∀j i,pre j i→Prec ops j i)
 (hind: ∀(j i:Nat) (oj oi:Oper),j<i→ ¬pre j i→ops[j]? =some oj→ops[i]? =some oi→(∀d,oj.dst=some d→d∉oi.looksAt ops∧oi.dst≠some d)∧ ∀d,oi.dst=some d→d∉oj.looksAt ops)
 {es:List Evt}(hes:es.length=ops.size) {T0:TX}{H0:HF}{N0 Nn:Nat}{A0:Nat→Prop}{β0:Nat→Pl}{w0:World}
 (hall: ∀(i:Nat) (o:Oper) (e:Evt),ops[i]? =some o→es[i]? =some e→ ∃Tl,(Gx P ops o Tl e∨wN ops o Tl e)∧(∀t x,dg ops o t→Tl t=some x→eu (fun j=>decide (j<i)) 0 (nG ops.toList es) T0 t=some x)∧
  ∀k c,e.Hv k=some c→eu (fun j=>decide (j<i)) 0 (qk es) H0 k=some c)
 (hN: ∀(i:Nat) (e:Evt),es[i]? =some e→N0≤e.N∧e.N'≤Nn) (hNN: ∀(j i:Nat) (ej ei:Evt),j<i→es[j]? =some ej→es[i]? =some ei→ej.N'≤ei.N)
 (hcon: ∀(j i:Nat) (ej ei:Evt),j<i→ ¬pre j i→es[j]? =some ej→es[i]? =some ei→ ∀k,(ej.Hv' k≠ej.Hv k→ei.Hv k=none∧ei.Hv' k=none)∧(ei.Hv' k≠ei.Hv k→ej.Hv k=none∧ej.Hv' k=none))
 (_hN0:N0≤Nn) (hA0: ∀k,A0 k→ ¬(N0≤k∧k<Nn))
 (hQ: ∀A β a w,(∀k,A0 k→A k)→(∀k,A k→Ad A0 N0 Nn k)→Hst N0 Nn A0 H0 β0 w0 (eu (fun _=>true) 0 (qk es) H0) β w→StX V A n (eu (fun _=>true) 0 (nG ops.toList es) T0) (eu (fun _=>true) 0 (qk es) H0) β a w→Q .normal a w):
 ∀(fuel:Nat) (listed:Array Bool) (A:Nat→Prop) (β:Nat→Pl) (a:Act) (w:World),listed.size=ops.size→zK listed≤fuel→
  (∀i o j,listed.getD i false=true→ops[i]? =some o→j∈bv o→listed.getD j false=true)→
  (∀k,A0 k→A k)→(∀k,A k→A0 k∨ ∃(j:Nat) (e:Evt),listed.getD j false=true∧es[j]? =some e∧e.N≤k∧k<e.N')→
  Hst N0 Nn A0 H0 β0 w0 (eu (fun j=>listed.getD j false) 0 (qk es) H0) β w→
  StX V A n (eu (fun j=>listed.getD j false) 0 (nG ops.toList es) T0) (eu (fun j=>listed.getD j false) 0 (qk es) H0) β a w→wpAny P .any ops Q fuel listed a w:=by
 have hwr: ∀ {t j:Nat}{u},(nG ops.toList es)[j]? =some u→u t≠none→ ∃oj ej,ops[j]? =some oj∧es[j]? =some ej∧oj.dst=some t∧u=Ei oj.dst ej:=by
  intro t j u hj hu
  obtain⟨oj,ej,h1,h2,rfl⟩:=DW _ hj
  refine⟨oj,ej,by rw[Array.getElem?_toList] at h1;exact h1,h2,?_,rfl⟩
  unfold Ei at hu
  split at hu
  ·assumption
  ·exact absurd rfl hu
 have hwh: ∀ {k j:Nat}{u},(qk es)[j]? =some u→u k≠none→ ∃ej,es[j]? =some ej∧ej.Hv' k≠ej.Hv k∧u=uH ej:=by
  intro k j u hj hu
  unfold qk at hj
  rw[List.getElem?_map] at hj
  cases h:es[j]? with
  |none=>rw[h] at hj;cases hj
  |some ej=>rw[h] at hj;injection hj with hj;subst hj;exact⟨ej,rfl,NO hu,rfl⟩
 have hopj: ∀ {j:Nat}{e:Evt},es[j]? =some e→ ∃o,ops[j]? =some o:=by
  intro j e h
  have:j<ops.size:=by rw[←hes];exact(List.getElem?_eq_some_iff.1 h).1
  exact⟨ops[j],Array.getElem?_eq_getElem this⟩
 have hend: ∀(listed:Array Bool) (A:Nat→Prop) (β:Nat→Pl) (a:Act) (w:World),(∀i,i<ops.size→listed.getD i false=true)→(∀k,A0 k→A k)→
  (∀k,A k→A0 k∨ ∃(j:Nat) (e:Evt),listed.getD j false=true∧es[j]? =some e∧e.N≤k∧k<e.N')→
  Hst N0 Nn A0 H0 β0 w0 (eu (fun j=>listed.getD j false) 0 (qk es) H0) β w→
  StX V A n (eu (fun j=>listed.getD j false) 0 (nG ops.toList es) T0) (eu (fun j=>listed.getD j false) 0 (qk es) H0) β a w→Q .normal a w:=by
  intro listed A β a w hl hA1 hA2 hh hst
  have e1:eu (fun j=>listed.getD j false) 0 (nG ops.toList es) T0=eu (fun _=>true) 0 (nG ops.toList es) T0:=by
   funext t
   refine dr _ _ _ _ rfl fun j u hj hu=>?_
   obtain⟨oj,ej,h1,_⟩:=hwr hj hu
   rw[Nat.zero_add];exact hl j (Array.getElem?_eq_some_iff.1 h1).1
  have e2:eu (fun j=>listed.getD j false) 0 (qk es) H0=eu (fun _=>true) 0 (qk es) H0:=by
   funext t
   refine dr _ _ _ _ rfl fun j u hj hu=>?_
   obtain⟨ej,h1,_⟩:=hwh hj hu
   rw[Nat.zero_add];exact hl j (by rw[←hes];exact(List.getElem?_eq_some_iff.1 h1).1)
  rw[e2] at hh
  rw[e1,e2] at hst
  refine hQ A β a w hA1 (fun k hk=>?_) hh hst
  rcases hA2 k hk with h|⟨j,e,_,h2,_,h4⟩
  ·exact .inl h
  ·have:=hN j e h2;exact .inr ⟨by omega,by omega⟩
 intro fuel
 induction fuel with
 |zero=>
  intro listed A β a w hsz hu hcl hA1 hA2 hh hst
  have hl: ∀i,i<ops.size→listed.getD i false=true:=fun i hi=>by
   cases h:listed.getD i false with
   |true=>rfl
   |false=>have:=oG (listed:=listed) (i:=i) (by omega) (by rw[gf (by omega) true false];exact h);omega
  refine wpAny_done ?_ (hend listed A β a w hl hA1 hA2 hh hst) 0
  refine List.eq_nil_iff_forall_not_mem.2 fun j hj=>?_
  obtain⟨h0,o,ho,_⟩:=mem_ready.1 hj
  have hjs:=(Array.getElem?_eq_some_iff.1 ho).1
  rw[gf (by omega) true false,hl j hjs] at h0
  cases h0
 |succ fuel ih=>
  intro listed A β a w hsz hu hcl hA1 hA2 hh hst
  refine⟨fun hr=>?_,fun i hi=>?_⟩
  ·refine hend listed A β a w ?_ hA1 hA2 hh hst
   intro i
   induction i using Nat.strongRecOn with
   |_ i ih2=>
    intro hi
    cases h:listed.getD i false with
    |true=>rfl
    |false=>
     exfalso
     have:i∈Region.ready .any ops listed:=by
      refine mem_ready.2 ⟨by rw[gf (by omega) true false];exact h,ops[i],Array.getElem?_eq_getElem hi,fun e he hb=>?_⟩
      have hlt:=hlow i ops[i] e.on (Array.getElem?_eq_getElem hi) (mv he hb)
      exact ih2 e.on hlt (by omega)
     rw[hr] at this;cases this
  ·obtain⟨hif,o,ho,hae⟩:=mem_ready.1 hi
   have his:i<ops.size:=(Array.getElem?_eq_some_iff.1 ho).1
   have hif':listed.getD i false=false:=by rw[gf (by omega) false true];exact hif
   obtain⟨e,he⟩: ∃e,es[i]? =some e:=⟨es[i]'(by omega),List.getElem?_eq_getElem (by omega)⟩
   have hbel: ∀j,Prec ops j i→listed.getD j false=true:=by
    intro j hj
    obtain⟨k,o',ho',hk,h⟩:=hj.last
    rw[ho] at ho'
    injection ho' with ho'
    subst ho'
    obtain⟨ed,hed,hb,rfl⟩:=fp hk
    have h1:=hae ed hed hb
    rcases h with rfl|h
    ·exact h1
    ·exact h.down hcl h1
   have habv: ∀j,Prec ops i j→listed.getD j false=false:=by
    intro j hj
    cases h:listed.getD j false with
    |false=>rfl
    |true=>have:=hj.down hcl h;rw[hif'] at this;cases this
   obtain⟨Tl,hop,hTl,hHl⟩:=hall i o e ho he
   have hmask: ∀(j:Nat),(j<i→pre j i)→(i<j→pre i j)→listed.getD j false=decide (j<i):=by
    intro j h1 h2
    rcases Nat.lt_trichotomy j i with h|h|h
    ·rw[hbel j (hpre j i (h1 h))];simp[h]
    ·subst h;rw[hif'];simp
    ·rw[habv j (hpre i j (h2 h))];simp;omega
   have hfresh: ∀k,A k→ ¬(e.N≤k∧k<e.N'):=by
    intro k hk ⟨g1,g2⟩
    rcases hA2 k hk with h|⟨j,ej,h1,h2,h3,h4⟩
    ·have:=hA0 k h;have:=hN i e he;omega
    ·rcases Nat.lt_trichotomy j i with h|h|h
     ·have:=hNN j i ej e h h2 he;omega
     ·subst h;rw[hif'] at h1;cases h1
     ·have:=hNN i j e ej h he h2;omega
   have hmi: ∀j,(listed.setIfInBounds i true).getD j false=if j=i then true else listed.getD j false:=by
    intro j
    by_cases hji:j=i
    ·subst hji;simp[Array.getD,hsz,his]
    ·rw[if_neg hji,getD_set_ne false (fun e=>hji e.symm)]
   have hui:(qk es)[i]? =some (uH e):=by unfold qk;rw[List.getElem?_map,he];rfl
   have huti:(nG ops.toList es)[i]? =some (Ei o.dst e):=by
    unfold nG
    rw[List.getElem?_zipWith,Array.getElem?_toList,ho,he]
   unfold wpOp
   rw[ho]
   refine hst.step hop ?_ ?_ hfresh (fun t ht=>hdn i o t ho ht) ?_
   ·intro t x hlk hx
    rw[←hTl t x hlk hx]
    refine dr _ _ _ _ rfl fun j u hj hu=>?_
    obtain⟨oj,ej,hoj,_,hdj,_⟩:=hwr hj hu
    rw[Nat.zero_add]
    refine hmask j (fun h=>?_) (fun h=>?_)
    ·apply Classical.byContradiction
     intro hp
     exact((hind j i oj o h hp hoj ho).1 t hdj).1 hlk
    ·apply Classical.byContradiction
     intro hp
     exact(hind i j o oj h hp ho hoj).2 t hdj hlk
   ·intro k c hk
    rw[←hHl k c hk]
    refine dr _ _ _ _ rfl fun j u hj hu=>?_
    obtain⟨ej,hej,hch,_⟩:=hwh hj hu
    rw[Nat.zero_add]
    refine hmask j (fun h=>?_) (fun h=>?_)
    ·apply Classical.byContradiction
     intro hp
     rw[((hcon j i ej e h hp hej he k).1 hch).1] at hk;cases hk
    ·apply Classical.byContradiction
     intro hp
     rw[((hcon i j e ej h hp he hej k).2 hch).1] at hk;cases hk
   ·intro A' β' a' w' hA1' hA2' hh' hst'
    have eT:vR o.dst e.x (eu (fun j=>listed.getD j false) 0 (nG ops.toList es) T0)=eu (fun j=>(listed.setIfInBounds i true).getD j false) 0 (nG ops.toList es) T0:=by
     funext t
     unfold vR
     split
     ·rename_i hdt
      symm
      refine og (u:=Ei o.dst e) _ _ _ i huti (by unfold Ei;rw[if_pos hdt]) (by rw[Nat.zero_add,hmi,if_pos rfl]) ?_
      intro j' u' hj' hlt hmj
      apply Classical.byContradiction
      intro hu'
      obtain⟨oj,ej,hoj,_,hdj,_⟩:=hwr hj' hu'
      rw[Nat.zero_add,hmi,if_neg (by omega)] at hmj
      by_cases hp:pre i j'
      ·rw[habv j' (hpre i j' hp)] at hmj;cases hmj
      ·exact((hind i j' o oj hlt hp ho hoj).1 t hdt).2 hdj
     ·rename_i hdt
      symm
      refine dr _ _ _ _ rfl fun j u hj hu=>?_
      obtain⟨oj,ej,hoj,_,hdj,_⟩:=hwr hj hu
      rw[Nat.zero_add,hmi,if_neg]
      intro q;subst q
      rw[ho] at hoj;injection hoj with hoj;subst hoj
      exact hdt hdj
    have hsub: ∀k c,e.Hv k=some c→eu (fun j=>listed.getD j false) 0 (qk es) H0 k=some c:=by
     intro k c hk
     rw[←hHl k c hk]
     refine dr _ _ _ _ rfl fun j u hj hu=>?_
     obtain⟨ej,hej,hch,_⟩:=hwh hj hu
     rw[Nat.zero_add]
     refine hmask j (fun h=>?_) (fun h=>?_)
     ·apply Classical.byContradiction
      intro hp
      rw[((hcon j i ej e h hp hej he k).1 hch).1] at hk;cases hk
     ·apply Classical.byContradiction
      intro hp
      rw[((hcon i j e ej h hp he hej k).2 hch).1] at hk;cases hk
    have eH:eJ (eu (fun j=>listed.getD j false) 0 (qk es) H0) e.Hv e.Hv'=eu (fun j=>(listed.setIfInBounds i true).getD j false) 0 (qk es) H0:=by
     funext k
     by_cases hch:e.Hv' k=e.Hv k
     ·have hno:uH e k=none:=by unfold uH;rw[if_pos hch]
      have h1:eu (fun j=>(listed.setIfInBounds i true).getD j false) 0 (qk es) H0 k=eu (fun j=>listed.getD j false) 0 (qk es) H0 k:=by
       refine dr _ _ _ _ rfl fun j u hj hu=>?_
       rw[Nat.zero_add,hmi,if_neg]
       intro q;subst q
       rw[hui] at hj;injection hj with hj;subst hj
       exact hu hno
      rw[h1]
      unfold eJ
      rw[hch]
      cases h2:e.Hv k with
      |none=>rfl
      |some c=>exact(hsub k c h2).symm
     ·have h1:eu (fun j=>(listed.setIfInBounds i true).getD j false) 0 (qk es) H0 k=e.Hv' k:=by
       refine og (u:=uH e) _ _ _ i hui (J2 hch) (by rw[Nat.zero_add,hmi,if_pos rfl]) ?_
       intro j' u' hj' hlt hmj
       apply Classical.byContradiction
       intro hu'
       obtain⟨ej,hej,hcj,_⟩:=hwh hj' hu'
       rw[Nat.zero_add,hmi,if_neg (by omega)] at hmj
       by_cases hp:pre i j'
       ·rw[habv j' (hpre i j' hp)] at hmj;cases hmj
       ·obtain⟨q1,q2⟩:=(hcon i j' e ej hlt hp he hej k).1 hch
        exact hcj (by rw[q1,q2])
      rw[h1]
      unfold eJ
      cases h2:e.Hv' k with
      |some c=>rfl
      |none=>
       cases h3:e.Hv k with
       |some c=>rfl
       |none=>exact absurd (h2.trans h3.symm) hch
    rw[eT,eH] at hst'
    rw[eH] at hh'
    refine ih (listed.setIfInBounds i true) A' β' a' w' (by simpa using hsz) (by have:=qz (listed:=listed) (i:=i) (by omega) hif;omega) ?_ (fun k hk=>hA1' k (hA1 k hk)) ?_ (hh.trans hA1 (hh'.wide (hN i e he).1 (hN i e he).2)) hst'
    ·intro i' o' j' h1 h2 h3
     rw[hmi] at h1⊢
     by_cases hji:j'=i
     ·rw[if_pos hji]
     ·rw[if_neg hji]
      by_cases hii:i'=i
      ·subst hii
       rw[ho] at h2
       injection h2 with h2
       subst h2
       obtain⟨e',he',hb',rfl⟩:=fp h3
       exact hae e' he' hb'
      ·rw[if_neg hii] at h1
       exact hcl i' o' j' h1 h2 h3
    ·intro k hk
     rcases hA2' k hk with h|h
     ·rcases hA2 k h with q|⟨j,ej,q1,q2,q3⟩
      ·exact .inl q
      ·refine .inr ⟨j,ej,?_,q2,q3⟩
       rw[hmi];split
       ·rfl
       ·exact q1
     ·exact .inr ⟨i,e,by rw[hmi,if_pos rfl],he,h⟩
end
section
variable {α β:Type}
noncomputable def oO (x:Option α) (f:α→Option β):Option β:=@Option.rec α (fun _=>Option β) none f x
noncomputable def bT (b:Bool) (x:Option β):Option β:=@Bool.rec (fun _=>Option β) none x b
noncomputable def bI (b:Bool) (x y:β):β:=@Bool.rec (fun _=>β) y x b
end
noncomputable def bA (a b:Bool):Bool:=@Bool.rec (fun _=>Bool) false b a
inductive Tr (α:Type) where
 |e
 |n (l:Tr α) (v:Option α) (r:Tr α)
section
variable {α:Type}
noncomputable def Tr.get (t:Tr α):Nat→Option α:=
 @Tr.rec α (fun _=>Nat→Option α) (fun _=>none) (fun _ v _ gl gr k=>@Bool.rec (fun _=>Option α) (@Bool.rec (fun _=>Option α) (gr (Nat.div k 2)) (gl (Nat.div k 2)) (Nat.beq (Nat.mod k 2) 1)) v (Nat.beq k 0)) t
noncomputable def Tr.one (v:α) (f:Nat):Nat→Tr α:=
 @Nat.rec (fun _=>Nat→Tr α) (fun _=>.e) (fun _ ih k=>@Bool.rec (fun _=>Tr α) (@Bool.rec (fun _=>Tr α) (.n .e none (ih (Nat.div k 2))) (.n (ih (Nat.div k 2)) none .e) (Nat.beq (Nat.mod k 2) 1)) (.n .e (some v) .e) (Nat.beq k 0)) f
noncomputable def Tr.set (t:Tr α) (v:α):Nat→Tr α:=
 @Tr.rec α (fun _=>Nat→Tr α) (fun k=>Tr.one v 40 k) (fun l o r sl sr k=>@Bool.rec (fun _=>Tr α) (@Bool.rec (fun _=>Tr α) (.n l o (sr (Nat.div k 2))) (.n (sl (Nat.div k 2)) o r) (Nat.beq (Nat.mod k 2) 1)) (.n l (some v) r) (Nat.beq k 0)) t
noncomputable def Tr.del (t:Tr α):Nat→Tr α:=
 @Tr.rec α (fun _=>Nat→Tr α) (fun _=>.e) (fun l o r sl sr k=>@Bool.rec (fun _=>Tr α) (@Bool.rec (fun _=>Tr α) (.n l o (sr (Nat.div k 2))) (.n (sl (Nat.div k 2)) o r) (Nat.beq (Nat.mod k 2) 1)) (.n l none r) (Nat.beq k 0)) t
end
noncomputable def MU (x:AV):Bool:=@AV.rec (fun _=>Bool) (fun _=>true) (fun _ _=>true) (fun _=>true) (fun _ _=>false) (fun _ _ _ _ _ _=>false) true true true (fun _=>true) (fun _ _ _ _=>false) x
noncomputable def Py (r:Rp):Bool:=@Rp.rec (fun _=>Bool) true MU (fun _ pu _ _ _ _=>pu) r
noncomputable def Ew (ls:Nat) (l r:Rp):Rp:=.n ls (bA (Py l) (Py r)) l r
noncomputable def eZ (ls:Nat) (l r:Rp):Rp:=@Rp.rec (fun _=>Rp) r (fun _=>@Rp.rec (fun _=>Rp) l (fun _=>Ew ls l r) (fun _ _ _ _ _ _=>Ew ls l r) r) (fun _ _ _ _ _ _=>@Rp.rec (fun _=>Rp) l (fun _=>Ew ls l r) (fun _ _ _ _ _ _=>Ew ls l r) r) l
noncomputable def e8 (r:Rp):Nat→Nat→Nat→Rp:=
 @Rp.rec (fun _=>Nat→Nat→Nat→Rp) (fun _ _ _=>.e) (fun x _ _ n=>bI (Nat.beq n 0) .e (.c x))
  (fun ls pu l r sl sr tot off n=>bI (Nat.beq n tot) (.n ls pu l r) (bI (Nat.ble (Nat.add off n) ls) (sl ls off n) (bI (Nat.ble ls off) (sr (Nat.sub tot ls) (Nat.sub off ls) n)
   (eZ (Nat.sub ls off) (sl ls off (Nat.sub ls off)) (sr (Nat.sub tot ls) 0 (Nat.sub (Nat.add off n) ls)))))) r
noncomputable def gP (d r:Rp):Nat→Nat→Nat→Rp:=
 @Rp.rec (fun _=>Nat→Nat→Nat→Rp) (fun _ _ _=>.e) (fun x _ _ n=>bI (Nat.beq n 0) (.c x) d)
  (fun ls _ l r ul ur tot off n=>bI (Nat.beq n tot) d (bI (Nat.ble (Nat.add off n) ls) (Ew ls (ul ls off n) r) (bI (Nat.ble ls off) (Ew ls l (ur (Nat.sub tot ls) (Nat.sub off ls) n))
   (eZ off (e8 l ls 0 off) (eZ n d (e8 r (Nat.sub tot ls) (Nat.sub (Nat.add off n) ls) (Nat.sub tot (Nat.add off n)))))))) r
noncomputable def jU (r:Rp):Nat→Option AV:=
 @Rp.rec (fun _=>Nat→Option AV) (fun _=>none) (fun x off=>@Bool.rec (fun _=>Option AV) none (some x) (Nat.beq off 0)) (fun ls _ _ _ gl gr off=>@Bool.rec (fun _=>Option AV) (gr (Nat.sub off ls)) (gl off) (Nat.blt off ls)) r
noncomputable def lI (l:List AV):Rp:=@List.rec AV (fun _=>Rp) .e (fun x _ ih=>eZ 1 (.c x) ih) l
noncomputable def jy (m:Nat) (z:Rp) (n:Nat):Rp:=@Nat.rec (fun _=>Rp) .e (fun _ ih=>eZ m z ih) n
structure Bx where
 U:TypeId
 n:Nat
 r:Rp
inductive Lg where
 |p
 |r (k:Nat)
 |w (k:Nat)
 |nw (k:Nat)
 |c (H H':Tr Bx)
inductive Rs where
 |mk (x:XV) (N:Nat) (H:Tr Bx) (g:Lg)
inductive Ro where
 |no
 |n (T:Tr XV) (N:Nat) (H:Tr Bx)
 |x (id:Nat) (T:Tr XV) (N:Nat) (H:Tr Bx)
 |r (T:Tr XV) (N:Nat) (H:Tr Bx)
inductive Cr where
 |no
 |p (x:XV)
 |h (x:XV) (N:Nat) (H:Tr Bx)
abbrev eC:=FuncId→List XV→Nat→Tr Bx→Cr
abbrev LX:=List (Nat×XV)
abbrev i9:=eC→LX→Tr XV→Nat→Tr Bx→Option Rs
abbrev kw:=eC→Nat→Tr XV→Nat→Tr Bx→Ro
inductive XO where
 |l (n:Nat)
 |t (n:Nat)
 |k (x:XV)
noncomputable def qW (t:Nat) (l:LX):Option XV:=@List.rec (Nat×XV) (fun _=>Option XV) none (fun p _ ih=>@Bool.rec (fun _=>Option XV) ih (some p.2) (Nat.beq p.1 t)) l
noncomputable def XO.get (x:XO) (L:LX) (T:Tr XV):Option XV:=@XO.rec (fun _=>Option XV) (fun n=>qW n L) (fun n=>T.get n) (fun v=>some v) x
noncomputable def vX (xs:List XO) (L:LX) (T:Tr XV):Option (List XV):=@List.rec XO (fun _=>Option (List XV)) (some []) (fun x _ ih=>oO (x.get L T) fun v=>oO ih fun vs=>some (v::vs)) xs
section
variable {β:Type}
noncomputable def xC (x:XV) (f:AV→Option β):Option β:=@XV.rec (fun _=>Option β) f (fun _ _=>none) (fun _=>none) none x
noncomputable def xA (x:XV) (f:Nat→Rp→Option β):Option β:=@XV.rec (fun _=>Option β) (fun _=>none) f (fun _=>none) none x
noncomputable def xT (x:XV) (f:List XD→Option β):Option β:=@XV.rec (fun _=>Option β) (fun _=>none) (fun _ _=>none) f none x
noncomputable def aB (x:AV) (f:Bool→Option β):Option β:=@AV.rec (fun _=>Option β) f (fun _ _=>none) (fun _=>none) (fun _ _=>none) (fun _ _ _ _ _ _=>none) none none none (fun _=>none) (fun _ _ _ _=>none) x
noncomputable def aI (x:AV) (f:IntKind→Int→Option β):Option β:=@AV.rec (fun _=>Option β) (fun _=>none) f (fun _=>none) (fun _ _=>none) (fun _ _ _ _ _ _=>none) none none none (fun _=>none) (fun _ _ _ _=>none) x
noncomputable def aP (x:AV) (f:Nat→Nat→Option β):Option β:=@AV.rec (fun _=>Option β) (fun _=>none) (fun _ _=>none) (fun _=>none) f (fun _ _ _ _ _ _=>none) none none none (fun _=>none) (fun _ _ _ _=>none) x
noncomputable def aS (x:AV) (f:Nat→Nat→Nat→Nat→Bool→Nat→Option β) (z ev:Option β):Option β:=@AV.rec (fun _=>Option β) (fun _=>none) (fun _ _=>none) (fun _=>none) (fun _ _=>none) f z ev none (fun _=>none) (fun _ _ _ _=>none) x
noncomputable def QM (i:Int) (f:Nat→Option β):Option β:=@Int.rec (fun _=>Option β) f (fun _=>none) i
end
noncomputable def xB {β:Type}(x:XV) (f:Bool→Option β):Option β:=xC x fun a=>aB a f
noncomputable def xI {β:Type}(x:XV) (f:IntKind→Int→Option β):Option β:=xC x fun a=>aI a f
noncomputable def xP {β:Type}(x:XV) (f:Nat→Nat→Option β):Option β:=xC x fun a=>aP a f
noncomputable def xN {β:Type}(x:XV) (f:Nat→Option β):Option β:=xI x fun _ i=>QM i f
noncomputable def xD {β:Type}(x:XV) (f:Nat→Rp→Option β):Option β:=@XV.rec (fun _=>Option β) (fun a=>f 1 (.c a)) f (fun _=>none) none x
noncomputable def kN (k:IntKind):Nat:=@IntKind.rec (fun _=>Nat) 0 1 2 3 4 5 6 7 k
noncomputable def nC (x y:Int):Bool:=@Int.rec (fun _=>Bool) (fun _=>false) (fun _=>true) (Int.sub x y)
noncomputable def BD (x y:Int):Bool:=@Int.rec (fun _=>Bool) (fun n=>Nat.beq n 0) (fun _=>false) (Int.sub x y)
noncomputable def p5 (k:IntKind) (n:Int):Int:=bI (Nat.beq (kN k) 3) (bI (Nat.blt n.natAbs 9223372036854775808) n (k.wrap n)) (k.wrap n)
noncomputable def pR (x:XV) (N:Nat) (H:Tr Bx):Option Rs:=some (.mk x N H .p)
noncomputable def Ia (x:XO):i9:=fun _ L T N H=>oO (x.get L T) fun v=>pR v N H
noncomputable def FB (c a b:XO):i9:=fun _ L T N H=>oO (c.get L T) fun c=>xB c fun t=>oO (bI t (a.get L T) (b.get L T)) fun v=>pR v N H
noncomputable def MW (x:XV) (U n:Nat) (r:Rp) (N:Nat) (H:Tr Bx):Option Rs:=some (.mk x (Nat.succ N) (H.set ⟨U,n,r⟩ N) (.nw N))
noncomputable def At (U n:Nat) (z:Rp):i9:=fun _ _ _ N H=>MW (.c (.p N 0)) U n z N H
noncomputable def Kt (U:Nat) (x:XO):i9:=fun _ L T N H=>oO (x.get L T) fun v=>xD v fun n r=>MW (.c (.p N 0)) U n r N H
noncomputable def A3 (L:LX) (T:Tr XV) (tot:Nat) (ps:List (Nat×Nat×XO)):Rp→Option Rp:=
 @List.rec (Nat×Nat×XO) (fun _=>Rp→Option Rp) (fun r=>some r) (fun p _ ih r=>oO (p.2.2.get L T) fun v=>xD v fun n d=>bT (Nat.beq n p.2.1) (bT (Nat.ble (Nat.add p.1 n) tot) (ih (gP d r tot p.1 n)))) ps
noncomputable def AU (tot:Nat) (z:Rp) (ps:List (Nat×Nat×XO)):i9:=fun _ L T N H=>oO (A3 L T tot ps z) fun r=>pR (.a tot r) N H
noncomputable def Ku (e n m:Nat) (z:Rp) (ps:List (Nat×Nat×XO)):i9:=fun _ L T N H=>oO (A3 L T (Nat.mul n m) ps z) fun r=>MW (.c (.s N 0 n n true m)) e (Nat.mul n m) r N H
noncomputable def P7 (H:Tr Bx) (x:XV) (f:Nat→Nat→Bx→Option Rs):Option Rs:=xP x fun k off=>oO (H.get k) fun b=>f k off b
noncomputable def Jw (n:Nat) (x:XO):i9:=fun _ L T N H=>oO (x.get L T) fun v=>P7 H v fun k off b=>bT (Nat.ble (Nat.add off n) b.n) (some (.mk (.a n (e8 b.r b.n off n)) N H (.r k)))
noncomputable def Km (x:XO):i9:=fun _ L T N H=>oO (x.get L T) fun v=>P7 H v fun k off b=>oO (jU b.r off) fun a=>some (.mk (.c a) N H (.r k))
noncomputable def OX (n:Nat) (a x:XO):i9:=fun _ L T N H=>oO (a.get L T) fun v=>oO (x.get L T) fun y=>P7 H v fun k off b=>xD y fun m d=>bT (Nat.beq m n) (bT (Nat.ble (Nat.add off n) b.n)
 (some (.mk .u N (H.set ⟨b.U,b.n,gP d b.r b.n off n⟩ k) (.w k))))
noncomputable def DT (x:XO):i9:=fun _ L T N H=>oO (x.get L T) fun v=>xP v fun k off=>pR (.c (.p k off)) N H
noncomputable def JH (f:IntKind→Int→Int→Option AV) (x y:XO):i9:=fun _ L T N H=>oO (x.get L T) fun v=>oO (y.get L T) fun y2=>xI v fun k a=>xI y2 fun k' b=>bT (Nat.beq (kN k) (kN k')) (oO (f k a b) fun r=>pR (.c r) N H)
noncomputable def JM (f:IntKind→Int→Int→Option AV) (x y:XO):i9:=fun _ L T N H=>oO (x.get L T) fun v=>oO (y.get L T) fun y2=>xI v fun k a=>xI y2 fun _ b=>oO (f k a b) fun r=>pR (.c r) N H
noncomputable def AS (ne:Bool) (x y:XO):i9:=fun _ L T N H=>oO (x.get L T) fun v=>oO (y.get L T) fun y2=>xB v fun a=>xB y2 fun b=>pR (.c (.b (bI ne (!(a==b)) (a==b)))) N H
noncomputable def zZ (ne:Bool) (x:XO):i9:=fun _ L T N H=>oO (x.get L T) fun v=>xC v fun a=>aS a (fun _ _ _ _ _ _=>pR (.c (.b ne)) N H) (pR (.c (.b (!ne))) N H) none
noncomputable def Er (s:ByteArray) (i:XO):i9:=fun _ L T N H=>oO (i.get L T) fun v=>xN v fun j=>oO s.data.toList[j]? fun b=>pR (.c (.i .u8 b.toNat)) N H
noncomputable def Kp (x:XO):i9:=fun _ L T N H=>oO (x.get L T) fun v=>xB v fun a=>pR (.c (.b (bI a false true))) N H
noncomputable def J0 (x:XO):i9:=fun _ L T N H=>oO (x.get L T) fun v=>xI v fun k a=>pR (.c (.i k (p5 k (0-a)))) N H
noncomputable def D4 (k:IntKind) (x:XO):i9:=fun _ L T N H=>oO (x.get L T) fun v=>xI v fun _ a=>pR (.c (.i k (p5 k a))) N H
noncomputable def KQ (g:FuncId) (vs:List XV):Option AV:=@List.rec XV (fun _=>Option AV) (some (.f0 g)) (fun v _ ih=>xC v fun a=>oO ih fun y=>some (.fc a y)) vs
noncomputable def Ko (g:FuncId) (xs:List XO):i9:=fun _ L T N H=>oO (vX xs L T) fun vs=>oO (KQ g vs) fun y=>pR (.c y) N H
noncomputable def Kn (e m by_:Nat) (z:Rp) (n c:XO):i9:=fun _ L T N H=>oO (n.get L T) fun v=>oO (c.get L T) fun y2=>xN v fun a=>xN y2 fun b=>bT (Nat.ble a b) (bT (Nat.ble (Nat.mul b by_) 140737488355328) (bT (Nat.ble b 100000)
 (MW (.c (.s N 0 a b true m)) e (Nat.mul b m) (jy m z b) N H)))
noncomputable def p6 (L:LX) (T:Tr XV) (d:Nat) (x:Option XO):Option Nat:=@Option.rec XO (fun _=>Option Nat) (some d) (fun x=>oO (x.get L T) fun v=>xN v some) x
noncomputable def QA (m k off lo:Nat) (ex:Bool) (l h:Nat):Option AV:=bT (Nat.ble l h) (bT (Nat.ble h lo) (bI (Nat.blt l lo) (some (.s k (Nat.add off (Nat.mul l m)) (Nat.sub h l) (Nat.sub lo l) ex m)) (bI ex (some (.s k off 0 0 true m)) (some .ev))))
noncomputable def P0 (m k off lo:Nat) (l h M:Nat):Option AV:=bT (Nat.ble l h) (bT (Nat.ble h M) (bT (Nat.ble M lo) (bI (Nat.blt l M) (some (.s k (Nat.add off (Nat.mul l m)) (Nat.sub h l) (Nat.sub M l) true m)) (some (.s k off 0 0 true m)))))
noncomputable def Jz (m:Nat) (x:XO) (lo hi:Option XO):i9:=fun _ L T N H=>oO (x.get L T) fun v=>xC v fun a=>aS a
 (fun k off n lo' ex m'=>oO (p6 L T 0 lo) fun l=>oO (p6 L T n hi) fun h=>bT (Nat.beq m m') (oO (QA m k off lo' ex l h) fun r=>pR (.c r) N H))
 (oO (p6 L T 0 lo) fun l=>oO (p6 L T 0 hi) fun h=>bT (Nat.beq l 0) (bT (Nat.beq h 0) (pR (.c .z) N H))) none
noncomputable def Jy (m:Nat) (x:XO) (lo:Option XO) (hi mx:XO):i9:=fun _ L T N H=>oO (x.get L T) fun v=>xC v fun a=>aS a
 (fun k off _ lo' _ m'=>oO (p6 L T 0 lo) fun l=>oO (p6 L T 0 (some hi)) fun h=>oO (p6 L T 0 (some mx)) fun M=>bT (Nat.beq m m') (oO (P0 m k off lo' l h M) fun r=>pR (.c r) N H)) none none
noncomputable def Nt (o':Nat) (x:XO):i9:=fun _ L T N H=>oO (x.get L T) fun v=>xP v fun k off=>pR (.c (.p k (Nat.add off o'))) N H
noncomputable def Kh (o' n:Nat) (x:XO):i9:=fun _ L T N H=>oO (x.get L T) fun v=>xA v fun tot r=>bT (Nat.ble (Nat.add o' n) tot) (pR (.a n (e8 r tot o' n)) N H)
noncomputable def KC (o':Nat) (x:XO):i9:=fun _ L T N H=>oO (x.get L T) fun v=>xA v fun _ r=>oO (jU r o') fun a=>pR (.c a) N H
noncomputable def O2 (m:Nat) (x i:XO):i9:=fun _ L T N H=>oO (x.get L T) fun v=>oO (i.get L T) fun y2=>xC v fun a=>xN y2 fun j=>aS a (fun k off n _ _ m'=>bT (Nat.blt j n) (bT (Nat.beq m m') (pR (.c (.p k (Nat.add off (Nat.mul j m)))) N H))) none none
noncomputable def JC (n m:Nat) (x i:XO):i9:=fun _ L T N H=>oO (x.get L T) fun v=>oO (i.get L T) fun y2=>xP v fun k off=>xN y2 fun j=>bT (Nat.blt j n) (pR (.c (.p k (Nat.add off (Nat.mul j m)))) N H)
noncomputable def Jn (d:XD):XV:=@XD.rec (fun _=>XV) (fun x=>.c x) (fun n r=>.a n r) d
noncomputable def HC (ds:List XD):Nat→Option XD:=@List.rec XD (fun _=>Nat→Option XD) (fun _=>none) (fun d _ ih i=>@Bool.rec (fun _=>Option XD) (ih (Nat.pred i)) (some d) (Nat.beq i 0)) ds
noncomputable def JJ (x:XO) (i:Nat):i9:=fun _ L T N H=>oO (x.get L T) fun v=>xT v fun ds=>oO (HC ds i) fun d=>pR (Jn d) N H
noncomputable def Qx (y:AV):List XV→(FuncId→List XV→Option Rs)→Option Rs:=
 @AV.rec (fun _=>List XV→(FuncId→List XV→Option Rs)→Option Rs) (fun _ _ _=>none) (fun _ _ _ _=>none) (fun _ _ _=>none) (fun _ _ _ _=>none) (fun _ _ _ _ _ _ _ _=>none) (fun _ _=>none) (fun _ _=>none) (fun _ _=>none)
  (fun g acc f=>f g acc.reverse) (fun x _ _ ihy acc f=>ihy (.c x::acc) f) y
noncomputable def Qu (H:Tr Bx) (N:Nat) (r:Cr):Option Rs:=@Cr.rec (fun _=>Option Rs) none (fun x=>some (.mk x N H .p)) (fun x N' H'=>some (.mk x N' H' (.c H H'))) r
noncomputable def zy (g:FuncId) (xs:List XO):i9:=fun call L T N H=>oO (vX xs L T) fun vs=>Qu H N (call g vs N H)
noncomputable def Fd (f:XO) (xs:List XO):i9:=fun call L T N H=>oO (f.get L T) fun v=>xC v fun y=>oO (vX xs L T) fun vs=>Qx y vs.reverse fun g vs'=>Qu H N (call g vs' N H)
noncomputable def JG (x:XO):i9:=fun _ L T N H=>oO (x.get L T) fun v=>xC v fun a=>aS a (fun _ _ n _ _ _=>pR (.c (.i .i64 (.ofNat n))) N H) (pR (.c (.i .i64 (.ofNat 0))) N H) (pR (.c (.i .i64 (.ofNat 0))) N H)
noncomputable def Nu (H:Tr Bx) (e m:Nat) (y:AV) (f:Nat→Rp→Option Rs):Option Rs:=
 aS y (fun k off q _ _ m'=>oO (H.get k) fun b=>bT (Nat.beq b.U e) (bT (Nat.beq m m') (bT (Nat.ble (Nat.add off (Nat.mul q m)) b.n) (f q (e8 b.r b.n off (Nat.mul q m)))))) (f 0 .e) (f 0 .e)
noncomputable def GI (x:XV) (N:Nat) (H H':Tr Bx):Option Rs:=some (.mk x N H' (.c H H'))
noncomputable def Qb (e m by_:Nat) (N:Nat) (H:Tr Bx) (q:Nat) (ys:Rp):Option Rs:=bT (Nat.ble (Nat.mul q by_) 140737488355328) (bT (Nat.ble q 1000000) (GI (.c (.s N 0 q q false m)) (Nat.succ N) H (H.set ⟨e,Nat.mul q m,ys⟩ N)))
noncomputable def Qs (e m by_:Nat) (N:Nat) (H:Tr Bx) (q:Nat) (ys:Rp) (k off n lo:Nat) (ex:Bool) (m':Nat):Option Rs:=
 oO (H.get k) fun b=>bT (Nat.beq b.U e) (bT (Nat.beq m m') (bT (Nat.ble (Nat.mul (Nat.add n q) by_) 140737488355328) (bT (Nat.ble (Nat.add n q) 1000000) (bT (Nat.ble (Nat.add off (Nat.mul n m)) b.n)
  (bI (Nat.ble (Nat.add n q) lo)
   (bI (Nat.ble (Nat.add off (Nat.mul (Nat.add n q) m)) b.n)
    (GI (.c (.s k off (Nat.add n q) lo ex m)) N H (H.set ⟨e,b.n,gP ys b.r b.n (Nat.add off (Nat.mul n m)) (Nat.mul q m)⟩ k))
    (GI (.c (.s k off (Nat.add n q) lo ex m)) N H (H.set ⟨e,Nat.add off (Nat.mul (Nat.add n q) m),eZ (Nat.add off (Nat.mul n m)) (e8 b.r b.n 0 (Nat.add off (Nat.mul n m))) ys⟩ k)))
   (bI ex
    (GI (.c (.s N 0 (Nat.add n q) (Nat.add n q) false m)) (Nat.succ N) H (H.set ⟨e,Nat.mul (Nat.add n q) m,eZ (Nat.mul n m) (e8 b.r b.n off (Nat.mul n m)) ys⟩ N))
    (bT (Nat.beq off 0) (GI (.c (.s N 0 (Nat.add n q) (Nat.add n q) false m)) (Nat.succ N) H ((H.del k).set ⟨e,Nat.mul (Nat.add n q) m,eZ (Nat.mul n m) (e8 b.r b.n 0 (Nat.mul n m)) ys⟩ N)))))))))
noncomputable def Kb (e m by_:Nat) (x y:XO):i9:=fun _ L T N H=>oO (x.get L T) fun v=>oO (y.get L T) fun y2=>xC v fun a=>xC y2 fun b=>Nu H e m b fun q ys=>bI (Nat.beq q 0)
 (aS a (fun k off n lo ex m'=>pR (.c (.s k off n lo ex m')) N H) (pR (.c .z) N H) none)
 (aS a (fun k off n lo ex m'=>Qs e m by_ N H q ys k off n lo ex m') (Qb e m by_ N H q ys) none)
noncomputable def PR (mx:Bool) (k:IntKind) (vs:List XV):Int→Option Int:=
 @List.rec XV (fun _=>Int→Option Int) (fun a=>some a) (fun v _ ih a=>xI v fun k' b=>bT (Nat.beq (kN k) (kN k')) (ih (bI mx (bI (nC a b) b a) (bI (nC b a) b a)))) vs
noncomputable def H4 (mx:Bool) (x:XO) (xs:List XO):i9:=fun _ L T N H=>oO (x.get L T) fun v=>xI v fun k a=>oO (vX xs L T) fun vs=>oO (PR mx k vs a) fun r=>pR (.c (.i k r)) N H
noncomputable def Ki:i9:=fun _ _ _ _ _=>none
noncomputable def JW (x:XO):i9:=fun _ L T N H=>oO (x.get L T) fun v=>xC v fun a=>aS a (fun _ _ _ lo ex _=>bT ex (pR (.c (.i .i64 (.ofNat lo))) N H)) (pR (.c (.i .i64 (.ofNat 0))) N H) none
noncomputable def Kj (e m by_:Nat) (z:Rp) (x n:XO):i9:=fun _ L T N H=>oO (x.get L T) fun v=>oO (n.get L T) fun y2=>xC v fun a=>xN y2 fun q=>aS a (fun _ _ _ _ _ _=>none)
 (bT (Nat.blt 0 q) (bT (Nat.ble (Nat.mul q by_) 140737488355328) (bT (Nat.ble q 1000000) (GI (.c (.s N 0 q q false m)) (Nat.succ N) H (H.set ⟨e,Nat.mul q m,jy m z q⟩ N))))) none
noncomputable def JY (m:Nat) (z:Rp) (x:XO):i9:=fun _ L T N H=>oO (x.get L T) fun v=>xC v fun a=>aS a
 (fun k off n _ _ m'=>bI (Nat.beq n 0) (pR (.t []) N H) (oO (H.get k) fun b=>bT (Nat.beq m m') (bT (Nat.ble (Nat.add off (Nat.mul n m)) b.n) (GI (.t []) N H (H.set ⟨b.U,b.n,gP (jy m z n) b.r b.n off (Nat.mul n m)⟩ k)))))
 (pR (.t []) N H) (pR (.t []) N H)
structure XI where
 dst:Option Nat
 lo:Bool
 g:Option (XO×Bool)
 k:i9
noncomputable def Ce (d:Option Nat) (lo:Bool) (x:XV) (L:LX) (T:Tr XV) (κ:LX→Tr XV→Ro):Ro:=
 @Option.rec Nat (fun _=>Ro) (κ L T) (fun d=>@Bool.rec (fun _=>Ro) (κ L (T.set x d)) (κ ((d,x)::L) T) lo) d
noncomputable def MS (g:Option (XO×Bool)) (L:LX) (T:Tr XV):Option Bool:=
 @Option.rec (XO×Bool) (fun _=>Option Bool) (some true) (fun p=>oO (p.1.get L T) fun v=>@XV.rec (fun _=>Option Bool) (fun a=>aB a fun b=>some (b==p.2)) (fun _ _=>none) (fun _=>none) (some false) v) g
noncomputable def Jg (call:eC) (i:XI) (L:LX) (T:Tr XV) (N:Nat) (H:Tr Bx) (κ:LX→Tr XV→Nat→Tr Bx→Lg→Ro):Ro:=
 @Option.rec Bool (fun _=>Ro) .no (fun b=>@Bool.rec (fun _=>Ro) (Ce i.dst i.lo .u L T fun L T=>κ L T N H .p)
  (@Option.rec Rs (fun _=>Ro) .no (fun r=>@Rs.rec (fun _=>Ro) (fun x N' H' g=>Ce i.dst i.lo x L T fun L T=>κ L T N' H' g) r) (i.k call L T N H)) b) (MS i.g L T)
noncomputable def yC (call:eC) (l:List XI):LX→Tr XV→Nat→Tr Bx→Ro:=
 @List.rec XI (fun _=>LX→Tr XV→Nat→Tr Bx→Ro) (fun _ T N H=>.n T N H) (fun i _ ih L T N H=>Jg call i L T N H fun L T N H _=>ih L T N H) l
def oB:AV→AV→Bool
 | .b x,.b y=>x==y
 | .i k x,.i k' y=>decide (k=k')&&x==y
 | .l x,.l y=>Nat.beq x y
 | .p k o,.p k' o'=>Nat.beq k k'&&Nat.beq o o'
 | .s k o n l e m,.s k' o' n' l' e' m'=>Nat.beq k k'&&Nat.beq o o'&&Nat.beq n n'&&Nat.beq l l'&&(e==e')&&Nat.beq m m'
 | .z,.z=>true
 | .np,.np=>true
 | .f0 g,.f0 g'=>Nat.beq g g'
 | .fc x y,.fc x' y'=>oB x x'&&oB y y'
 |_,_=>false
def y4:Rp→Rp→Bool
 | .e,.e=>true
 | .c x,.c y=>oB x y
 | .n _ _ l r,.n _ _ l' r'=>y4 l l'&&y4 r r'
 |_,_=>false
def Cj:Option Bx→Option Bx→Bool
 |none,none=>true
 |some b,some b'=>Nat.beq b.U b'.U&&y4 b.r b'.r
 |_,_=>false
noncomputable def ln (H:Tr Bx) (k:Nat):Bool:=@Option.rec Bx (fun _=>Bool) true (fun _=>false) (H.get k)
noncomputable def apart:Lg→Lg→Bool
 | .p,_=>true
 |_,.p=>true
 | .r _,.r _=>true
 | .r k,.w k'=> !Nat.beq k k'
 | .w k',.r k=> !Nat.beq k k'
 | .r k,.nw k'=> !Nat.beq k k'
 | .nw k',.r k=> !Nat.beq k k'
 | .r k,.c H H'=>Cj (H.get k) (H'.get k)
 | .c H H',.r k=>Cj (H.get k) (H'.get k)
 | .w k,.w k'=> !Nat.beq k k'
 | .w k,.nw k'=> !Nat.beq k k'
 | .nw k',.w k=> !Nat.beq k k'
 | .nw k,.nw k'=> !Nat.beq k k'
 | .c H H',.nw k=>ln H k&&ln H' k
 | .nw k,.c H H'=>ln H k&&ln H' k
 | .c H H',.w k=>ln H k&&ln H' k
 | .w k,.c H H'=>ln H k&&ln H' k
 | .c _ _,.c _ _=>false
abbrev sS:=List (Nat×Lg)
noncomputable def pE (mk:Nat) (g:Lg) (l:sS):Bool:=@List.rec (Nat×Lg) (fun _=>Bool) true (fun p _ ih=>@Bool.rec (fun _=>Bool) (bA (apart p.2 g) ih) ih (Nat.testBit mk p.1)) l
noncomputable def Ph (mk:Nat) (l:sS):List Nat:=@List.rec (Nat×Lg) (fun _=>List Nat) [] (fun p _ ih=>@Bool.rec (fun _=>List Nat) (@Lg.rec (fun _=>List Nat) ih (fun _=>ih) (fun _=>ih) (fun k=>k::ih) (fun _ _=>ih) p.2) ih (Nat.testBit mk p.1)) l
noncomputable def C5 (H:Tr Bx):List Nat→Tr Bx
 |[]=>H
 |k::r=>C5 (H.del k) r
noncomputable def ye (H0 Hc:Tr Bx):List Nat→Tr Bx→Option (Tr Bx)
 |[],H=>some H
 |k::r,H=>match Hc.get k,H0.get k with
  |none,some b=>ye H0 Hc r (H.set b k)
  |_,_=>none
structure XJ where
 i:XI
 cl:Bool
 bf:Nat
noncomputable def uN (mk k:Nat) (g:Lg) (lr lw:sS) (κ:sS→sS→Ro):Ro:=bI (pE mk g lw) (bI (pE mk g lr) (κ lr ((k,g)::lw)) .no) .no
noncomputable def Ib (mk k:Nat) (g:Lg) (lr lw:sS) (κ:sS→sS→Ro):Ro:=
 @Lg.rec (fun _=>Ro) (κ lr lw) (fun b=>bI (pE mk (.r b) lw) (κ ((k,.r b)::lr) lw) .no) (fun b=>uN mk k (.w b) lr lw κ) (fun b=>uN mk k (.nw b) lr lw κ) (fun H H'=>uN mk k (.c H H') lr lw κ) g
noncomputable def Gy (g:Lg):Bool:=@Lg.rec (fun _=>Bool) true (fun _=>false) (fun _=>false) (fun _=>false) (fun _ _=>true) g
noncomputable def Ct (call:eC) (i:XI) (hs:List Nat) (L:LX) (T:Tr XV) (N:Nat) (H:Tr Bx) (κ:LX→Tr XV→Nat→Tr Bx→Lg→Ro):Ro:=
 @List.rec Nat (fun _=>Ro) (Jg call i L T N H κ) (fun h t _=>Jg call i L T N (C5 H (h::t)) fun L T N H' g=>bI (Gy g) (@Option.rec (Tr Bx) (fun _=>Ro) .no (fun H2=>κ L T N H2 g) (ye H H' (h::t) H')) .no) hs
noncomputable def uw (call:eC) (l:List XJ):Nat→LX→Tr XV→Nat→Tr Bx→sS→sS→Ro:=
 @List.rec XJ (fun _=>Nat→LX→Tr XV→Nat→Tr Bx→sS→sS→Ro) (fun _ _ T N H _ _=>.n T N H)
  (fun j _ ih k L T N H lr lw=>Ct call j.i (@Bool.rec (fun _=>List Nat) [] (Ph j.bf lw) j.cl) L T N H fun L T N H g=>Ib j.bf k g lr lw fun lr lw=>ih (Nat.succ k) L T N H lr lw) l
noncomputable def OW:kw:=fun _ _ T N H=>.n T N H
noncomputable def Qj (l:List XI):kw:=fun call _ T N H=>yC call l [] T N H
noncomputable def PI (l:List XJ):kw:=fun call _ T N H=>uw call l 0 [] T N H [] []
noncomputable def OH (a b:kw):kw:=fun call f T N H=>@Ro.rec (fun _=>Ro) .no (fun T N H=>b call f T N H) (fun id T N H=>.x id T N H) (fun T N H=>.r T N H) (a call f T N H)
noncomputable def JQ (t:Nat) (a b:kw):kw:=fun call f T N H=>@Option.rec Bool (fun _=>Ro) .no (fun v=>@Bool.rec (fun _=>Ro) (b call f T N H) (a call f T N H) v) (oO (T.get t) fun v=>xB v some)
noncomputable def EX (id:Nat) (c:kw):kw:=fun call f T N H=>@Ro.rec (fun _=>Ro) .no (fun T N H=>.n T N H) (fun id' T N H=>@Bool.rec (fun _=>Ro) (.x id' T N H) (.n T N H) (Nat.beq id' id)) (fun T N H=>.r T N H) (c call f T N H)
noncomputable def Nh (c:kw):kw:=fun call f=>@Nat.rec (fun _=>Tr XV→Nat→Tr Bx→Ro) (fun _ _ _=>.no) (fun _ ih T N H=>@Ro.rec (fun _=>Ro) .no (fun T N H=>ih T N H) (fun id T N H=>.x id T N H) (fun T N H=>.r T N H) (c call f T N H)) f
noncomputable def OU (id:Nat):kw:=fun _ _ T N H=>.x id T N H
noncomputable def PU:kw:=fun _ _ T N H=>.r T N H
inductive XR where
 |t (n:Nat)
 |c (t n:Nat)
 |c1 (t:Nat)
structure XF where
 pure:Bool
 run:kw
 rs:List XR
 na:Nat
noncomputable def PP (v:XV):Option XD:=@XV.rec (fun _=>Option XD) (fun x=>some (.c x)) (fun n r=>some (.a n r)) (fun _=>none) none v
noncomputable def K3 (T:Tr XV) (H:Tr Bx) (r:XR):Option XD:=@XR.rec (fun _=>Option XD) (fun n=>oO (T.get n) PP)
 (fun t n=>oO (T.get t) fun v=>xP v fun k off=>oO (H.get k) fun b=>bT (Nat.ble (Nat.add off n) b.n) (some (.a n (e8 b.r b.n off n))))
 (fun t=>oO (T.get t) fun v=>xP v fun k off=>oO (H.get k) fun b=>oO (jU b.r off) fun a=>some (.c a)) r
noncomputable def mu (T:Tr XV) (H:Tr Bx) (rs:List XR):Option (List XD):=@List.rec XR (fun _=>Option (List XD)) (some []) (fun r _ ih=>oO (K3 T H r) fun d=>oO ih fun ds=>some (d::ds)) rs
noncomputable def lk (ds:List XD):XV:=@List.rec XD (fun _=>XV) (.t []) (fun d r _=>@List.rec XD (fun _=>XV) (Jn d) (fun _ _ _=>.t (d::r)) r) ds
noncomputable def jR (vs:List XV):Nat→Tr XV→Tr XV:=@List.rec XV (fun _=>Nat→Tr XV→Tr XV) (fun _ t=>t) (fun v _ ih k t=>ih (Nat.succ k) (t.set v k)) vs
noncomputable def JN (v:XV):Bool:=@XV.rec (fun _=>Bool) MU (fun _ r=>Py r) (fun _=>false) false v
noncomputable def MM (vs:List XV):Bool:=@List.rec XV (fun _=>Bool) true (fun v _ ih=>bA (JN v) ih) vs
noncomputable def MP (ds:List XD):Bool:=@List.rec XD (fun _=>Bool) true (fun d _ ih=>bA (JN (Jn d)) ih) ds
structure Env where
 pr:Tr (List XV→Option (List XD))
 fs:Tr (Option XF)
noncomputable def K7 (vs:List XV):Nat→Bool:=@List.rec XV (fun _=>Nat→Bool) (fun _=>true) (fun _ _ ih n=>@Nat.rec (fun _=>Bool) false (fun k _=>ih k) n) vs
noncomputable def EK (_F:XF) (κ:Tr XV→Nat→Tr Bx→Cr) (r:Ro):Cr:=@Ro.rec (fun _=>Cr) .no κ (fun _ _ _ _=>.no) κ r
noncomputable def tB (F:XF) (ih:eC) (fuel:Nat) (vs:List XV) (N:Nat) (H:Tr Bx):Cr:=
 @Bool.rec (fun _=>Cr) .no (@Bool.rec (fun _=>Cr)
  (EK F (fun T N' H'=>@Option.rec (List XD) (fun _=>Cr) .no (fun ds=>.h (lk ds) N' H') (mu T H' F.rs)) (F.run ih fuel (jR vs 0 .e) N H))
  (EK F (fun T _ H'=>@Option.rec (List XD) (fun _=>Cr) .no (fun ds=>@Bool.rec (fun _=>Cr) .no (.p (lk ds)) (MP ds)) (mu T H' F.rs)) (F.run ih fuel (jR vs 0 .e) 0 .e))
  (bA F.pure (MM vs))) (K7 vs F.na)
noncomputable def Ah (E:Env) (fuel:Nat) (depth:Nat):eC:=
 @Nat.rec (fun _=>eC) (fun _ _ _ _=>.no) (fun _ ih g vs N H=>
  @Option.rec (List XD) (fun _=>Cr) (@Option.rec XF (fun _=>Cr) .no (fun F=>tB F ih fuel vs N H) (oO (E.fs.get g) fun x=>x)) (fun ds=>.p (lk ds)) (oO (E.pr.get g) fun p=>p vs)) depth
def gm {α β:Type}(f:α→Option β):List α→Option (List β)
 |[]=>some []
 |x::xs=>match f x with
  |none=>none
  |some y=>match gm f xs with
   |none=>none
   |some ys=>some (y::ys)
def gX:Value→Option AV
 | .bool b=>some (.b b)
 | .int k n=>some (.i k n)
 | .slice none 0 0=>some .z
 | .pointer none=>some .np
 |_=>none
noncomputable def EZ:Value→Option XV
 | .agg cs=>(gm gX cs.toList).map fun l=>.a l.length (lI l)
 |v=>(gX v).map .c
def ME:Value→Option (List AV)
 | .agg cs=>gm gX cs.toList
 |v=>(gX v).map fun x=>[x]
def KJ (P:Program) (U:TypeId):Option (List AV):=
 match P.info? U with
 |some i=>match i.zero with
  |some z=>ME z
  |none=>none
 |none=>none
def EJ (P:Program) (U:TypeId):Option (TypeId×Nat×Nat×List AV):=
 match P.underlying U with
 |some (.slice e)=>match P.info? e,KJ P e with
  |some i,some zs=>bif Nat.beq zs.length i.size&&Nat.blt 0 i.size then some (e,i.size,i.bytes,zs) else none
  |_,_=>none
 |_=>none
def PN (P:Program) (U:TypeId):Option (Nat×Nat):=
 match P.underlying U with
 |some (.array n e)=>(P.info? e).map fun i=>(n,i.size)
 |_=>none
def HA (P:Program) (U:TypeId):Option IntKind:=
 match P.underlying U with
 |some (.int k)=>some k
 |_=>none
def QV (P:Program) (U:TypeId) (f:Nat):Option (Nat×Bool×Nat):=
 match P.underlying U with
 |some (.struct fs)=>match fs[f]? with
  |some fd=>(jB P fd.type).map fun p=>(fd.offset,p)
  |none=>none
 |_=>none
noncomputable def cO (m:Nat):Operand→Option XO
 | .tmp t=>bif m.testBit t then some (.l t) else some (.t t)
 | .const v=>(EZ v).map .k
 | .func g=>some (.k (.c (.f0 g)))
 | .global _=>none
noncomputable def ug (m:Nat):Option Operand→Option (Option XO)
 |none=>some none
 |some x=>(cO m x).map some
noncomputable def Ml (m:Nat) (pl:Nat→Option (Nat×Nat)):List (Nat×Operand)→Option (List (Nat×Nat×XO))
 |[]=>some []
 |(i,x)::r=>match pl i,cO m x,Ml m pl r with
  |some (off,sz),some y,some ys=>some ((off,sz,y)::ys)
  |_,_,_=>none
noncomputable def o1 (m:Nat) (f:XO→i9) (x:Operand):Option i9:=(cO m x).map f
noncomputable def o2 (m:Nat) (f:XO→XO→i9) (x y:Operand):Option i9:=match cO m x,cO m y with
 |some a,some b=>some (f a b)
 |_,_=>none
noncomputable def PQ (k:IntKind) (x y:Int):Option AV:=some (.i k (p5 k (Int.add x y)))
noncomputable def Ql (k:IntKind) (x y:Int):Option AV:=some (.i k (p5 k (Int.sub x y)))
noncomputable def P3 (k:IntKind) (x y:Int):Option AV:=some (.i k (p5 k (Int.mul x y)))
noncomputable def Pk (k:IntKind) (x y:Int):Option AV:=bI (BD y 0) none (some (.i k (p5 k (Int.tdiv x y))))
noncomputable def Nz (k:IntKind) (x y:Int):Option AV:=bI (BD y 0) none (some (.i k (Int.tmod x y)))
noncomputable def QB (k:IntKind) (x y:Int):Option AV:=some (.i k (k.wrap (BitVec.ofInt k.bits x&&&BitVec.ofInt k.bits y).toNat))
noncomputable def QT (k:IntKind) (x y:Int):Option AV:=some (.i k (k.wrap (BitVec.ofInt k.bits x|||BitVec.ofInt k.bits y).toNat))
noncomputable def PY (k:IntKind) (x y:Int):Option AV:=some (.i k (k.wrap (BitVec.ofInt k.bits x^^^BitVec.ofInt k.bits y).toNat))
noncomputable def Qp (_:IntKind) (x y:Int):Option AV:=some (.b (BD x y))
noncomputable def Qn (_:IntKind) (x y:Int):Option AV:=some (.b (bI (BD x y) false true))
noncomputable def PG (_:IntKind) (x y:Int):Option AV:=some (.b (nC x y))
noncomputable def Qv (_:IntKind) (x y:Int):Option AV:=some (.b (bI (nC y x) false true))
noncomputable def P1 (_:IntKind) (x y:Int):Option AV:=some (.b (nC y x))
noncomputable def PX (_:IntKind) (x y:Int):Option AV:=some (.b (bI (nC x y) false true))
noncomputable def OR (k:IntKind) (x y:Int):Option AV:=bI (nC y 0) none (some (.i k (k.wrap (x*2^(min y.toNat k.bits)))))
noncomputable def NU (k:IntKind) (x y:Int):Option AV:=bI (nC y 0) none (some (.i k (x.fdiv (2^(min y.toNat k.bits)))))
noncomputable def Ho:BinOp→Option (IntKind→Int→Int→Option AV)
 | .add=>some PQ| .sub=>some Ql| .mul=>some P3| .quo=>some Pk| .rem=>some Nz
 | .and=>some QB| .or=>some QT| .xor=>some PY
 | .eql=>some Qp| .neq=>some Qn| .lss=>some PG| .leq=>some Qv| .gtr=>some P1| .geq=>some PX
 |_=>none
noncomputable def KS:BinOp→Option (IntKind→Int→Int→Option AV)
 | .shl=>some OR| .shr=>some NU
 |_=>none
def Ol (P:Program) (U:TypeId) (f:Nat):Option (Bool×Nat×Nat):=
 match P.underlying U with
 |some (.struct fs)=>match fs[f]? with
  |some fd=>match jB P fd.type with
   |some (b,n)=>some (b,fd.offset,n)
   |none=>none
  |none=>none
 |_=>none
noncomputable def p7 (P:Program) (m:Nat):Op→Option i9
 | .move x=>o1 m Ia x
 | .assign x=>o1 m Ia x
 | .pick c a b=>match cO m c with
   |some c=>o2 m (FB c) a b
   |none=>none
 | .alloc U=>(KJ P U).map fun zs=>At U zs.length (lI zs)
 | .box U x=>o1 m (Kt U) x
 | .build U ps=>match v7 P U,KJ P U with
   |some pl,some zs=>(Ml m (fun i=>pl[i]?) ps.toList).map (AU zs.length (lI zs))
   |_,_=>none
 | .buildSlice U n ps=>match EJ P U with
   |some (e,sz,_,zs)=>bif Nat.ble (n*sz) 10000 then(Ml m (fun i=>some (i*sz,sz)) ps.toList).map (Ku e n sz (jy sz (lI zs) n)) else none
   |none=>none
 | .load U x=>match jB P U with
   |some (true,n)=>o1 m (Jw n) x
   |some (false,_)=>o1 m Km x
   |none=>none
 | .store U a x=>match jB P U with
   |some (_,n)=>o2 m (OX n) a x
   |none=>none
 | .nilCheck x=>o1 m DT x
 | .binOp op U x y _=>match P.underlying U with
   |some .bool=>match op with
    | .eql=>o2 m (AS false) x y
    | .neq=>o2 m (AS true) x y
    |_=>none
   |some (.int _)=>match Ho op with
    |some f=>o2 m (JH f) x y
    |none=>match KS op with
     |some f=>o2 m (JM f) x y
     |none=>none
   |some (.slice _)=>match op,y with
    | .eql,.const (.slice none 0 0)=>o1 m (zZ false) x
    | .neq,.const (.slice none 0 0)=>o1 m (zZ true) x
    |_,_=>none
   |_=>none
 | .unOp .not _ x=>o1 m Kp x
 | .unOp .neg _ x=>o1 m J0 x
 | .convert s d x=>match HA P s,HA P d with
   |some _,some k=>o1 m (D4 k) x
   |_,_=>none
 | .makeFunc (.func g) first cs=>bif first.isEmpty then(gm (cO m) cs.toList).map (Ko g) else none
 | .makeSlice U n c=>match EJ P U with
   |some (e,sz,by_,zs)=>o2 m (Kn e sz by_ (lI zs)) n c
   |none=>none
 | .slice U x lo hi mx=>match lq P U,cO m x,ug m lo,ug m hi,ug m mx with
   |some sz,some x,some lo,some hi,some none=>some (Jz sz x lo hi)
   |some sz,some x,some lo,some (some hi),some (some mx)=>some (Jy sz x lo hi mx)
   |_,_,_,_,_=>none
 | .fieldAddr U x f=>match L5 P U f with
   |some off=>o1 m (Nt off) x
   |none=>none
 | .field U x f=>match Ol P U f with
   |some (true,off,n)=>o1 m (Kh off n) x
   |some (false,off,_)=>o1 m (KC off) x
   |none=>none
 | .indexAddr U x i=>match lq P U with
   |some sz=>o2 m (O2 sz) x i
   |none=>match PN P U with
    |some (n,sz)=>o2 m (JC n sz) x i
    |none=>none
 | .index U (.const (.string b)) i=>match P.underlying U with
   |some .string=>o1 m (Er b) i
   |_=>none
 | .extract x i=>o1 m (JJ · i) x
 | .call ⟨.value (.func g),xs,_⟩=>(gm (cO m) xs.toList).map (zy g)
 | .call ⟨.value (.tmp t),xs,_⟩=>match cO m (.tmp t),gm (cO m) xs.toList with
   |some f,some xs=>some (Fd f xs)
   |_,_=>none
 | .call ⟨.builtin .len,xs,ts⟩=>match xs.toList,ts.toList with
   |[x],[U]=>match lq P U with
    |some _=>o1 m JG x
    |none=>none
   |_,_=>none
 | .call ⟨.builtin .append,xs,ts⟩=>match xs.toList,ts.toList with
   |[x,y],[U,W]=>match EJ P U with
    |some (e,sz,by_,zs)=>bif Nat.beq U W then o2 m (Kb e sz by_) x y else match HA P W with
     |some _=>o2 m (Kj e sz by_ (lI zs)) x y
     |none=>none
    |none=>none
   |_,_=>none
 | .call ⟨.builtin .cap,xs,ts⟩=>match xs.toList,ts.toList with
   |[x],[U]=>match lq P U with
    |some _=>o1 m JW x
    |none=>none
   |_,_=>none
 | .call ⟨.builtin .max,xs,_⟩=>match xs.toList with
   |x::r=>match cO m x,gm (cO m) r with
    |some x,some r=>some (H4 true x r)
    |_,_=>none
   |_=>none
 | .call ⟨.builtin .min,xs,_⟩=>match xs.toList with
   |x::r=>match cO m x,gm (cO m) r with
    |some x,some r=>some (H4 false x r)
    |_,_=>none
   |_=>none
 | .call ⟨.builtin .clear,xs,ts⟩=>match xs.toList,ts.toList with
   |[x],[U]=>match EJ P U with
    |some (_,sz,_,zs)=>o1 m (JY sz (lI zs)) x
    |none=>none
   |_,_=>none
 |_=>none
noncomputable def cG (m:Nat) (ops:Array Oper) (o:Oper):Option (Option (XO×Bool)):=
 match o.guard with
 |none=>some none
 |some (g,b)=>match (ops[g]?).bind (·.dst) with
  |some t=>(cO m (.tmp t)).map fun x=>some (x,b)
  |none=>none
def Kw (n:Nat):Option Nat→Bool
 |none=>true
 |some d=>Nat.blt d n
def Iq (m:Nat):Option Nat→Bool
 |none=>false
 |some d=>m.testBit d
noncomputable def IV (P:Program) (n m:Nat) (ops:Array Oper) (o:Oper):Option XI:=
 bif Kw n o.dst then
  match cG m ops o,p7 P m o.op with
  |some g,some k=>some ⟨o.dst,Iq m o.dst,g,k⟩
  |some g,none=>some ⟨o.dst,Iq m o.dst,g,Ki⟩
  |_,_=>none
 else none
def xJ (acc:List Nat) (o:Oper):Nat:=(bv o).foldl (fun m j=>m|||2^j|||acc.getD j 0) 0
def iN (l:List Oper):List Nat:=l.foldl (fun acc o=>acc++[xJ acc o]) []
def vP:Op→Bool
 | .call ⟨.value _,_,_⟩=>true
 |_=>false
def AJ (d:Option Nat) (l:List Nat):Bool:=match d with
 |none=>false
 |some d=>l.any (Nat.beq d)
def Ov (d e:Option Nat):Bool:=match d,e with
 |some d,some e=>Nat.beq d e
 |_,_=>false
def IM (ops:Array Oper) (p q:Oper):Bool:= !AJ p.dst (q.looksAt ops)&& !AJ q.dst (p.looksAt ops)&& !Ov p.dst q.dst
def No (ops:Array Oper) (ms:List Nat) (l:List Oper) (i:Nat):Bool:=match l[i]? with
 |none=>false
 |some q=>(bv q).all (fun j=>Nat.blt j i)&&(List.range i).all fun j=>(ms.getD i 0).testBit j||match l[j]? with
  |none=>false
  |some p=>IM ops p q
noncomputable def lW (P:Program) (n m:Nat) (ops:Array Oper):List Nat→List Oper→Option (List XJ)
 |mk::ms,o::r=>match IV P n m ops o with
  |none=>none
  |some x=>match lW P n m ops ms r with
   |none=>none
   |some xs=>some (⟨x,vP o.op,mk⟩::xs)
 |_,_=>some []
noncomputable def cC (P:Program) (n m:Nat):Code→Option kw
 | .skip=>some OW
 | .region _ ops draw=>match draw with
   |false=>(gm (IV P n m ops) ops.toList).map Qj
   |true=>bif (List.range ops.size).all (No ops (iN ops.toList) ops.toList) then(lW P n m ops (iN ops.toList) ops.toList).map PI else none
 | .seq a b=>match cC P n m a with
   |none=>none
   |some x=>match cC P n m b with
    |none=>none
    |some y=>some (OH x y)
 | .cond (.tmp t) a b=>match cC P n m a with
   |none=>none
   |some x=>match cC P n m b with
    |none=>none
    |some y=>bif m.testBit t then none else some (JQ t x y)
 | .cond (.const (.bool b)) x y=>match b with
   |true=>cC P n m x
   |false=>cC P n m y
 | .block id c=>(cC P n m c).map (EX id)
 | .loop c=>(cC P n m c).map Nh
 | .exit id=>some (OU id)
 | .ret=>some PU
 |_=>none
def Lz (P:Program) (m:Nat):ResultVar→Option XR
 | .tmp t=>bif m.testBit t then none else some (.t t)
 | .cell t U=>bif m.testBit t then none else match jB P U with
   |some (true,n)=>some (.c t n)
   |some (false,_)=>some (.c1 t)
   |none=>none
noncomputable def cF (P:Program) (pu:Bool) (m:Nat) (fn:Func):Option XF:=match fn.body with
 |none=>none
 |some c=>match cC P fn.ntmps m c,gm (Lz P m) fn.results.toList with
  |some x,some rs=>some ⟨pu,x,rs,fn.ntmps⟩
  |_,_=>none
noncomputable def Ek {α:Type}:List (Nat×α)→Tr α
 |[]=>.e
 |(k,v)::r=>(Ek r).set v k
section
variable {α β:Type}
theorem aK {x:Option α}{f:α→Option β}{y:β}(h:oO x f=some y): ∃v,x=some v∧f v=some y:=by
 cases x with
 |none=>cases h
 |some v=>exact⟨v,rfl,h⟩
theorem bo {b:Bool}{x:Option β}{y:β}(h:bT b x=some y):b=true∧x=some y:=by
 cases b with
 |false=>cases h
 |true=>exact⟨rfl,h⟩
theorem eP (b:Bool) (x y:β):bI b x y=if b=true then x else y:=by cases b<;>rfl
theorem Ft (a b:Bool):bA a b=(a&&b):=by cases a<;>rfl
theorem eS {x:XV}{f:AV→Option β}{y:β}(h:xC x f=some y): ∃a,x=.c a∧f a=some y:=by
 cases x with
 |c a=>exact⟨a,rfl,h⟩
 |_=>cases h
theorem Ir {x:XV}{f:List XD→Option β}{y:β}(h:xT x f=some y): ∃ds,x=.t ds∧f ds=some y:=by
 cases x with
 |t ds=>exact⟨ds,rfl,h⟩
 |_=>cases h
theorem qH {x:AV}{f:Bool→Option β}{y:β}(h:aB x f=some y): ∃b,x=.b b∧f b=some y:=by
 cases x with
 |b v=>exact⟨v,rfl,h⟩
 |_=>cases h
theorem GU {x:AV}{f:IntKind→Int→Option β}{y:β}(h:aI x f=some y): ∃k n,x=.i k n∧f k n=some y:=by
 cases x with
 |i k n=>exact⟨k,n,rfl,h⟩
 |_=>cases h
theorem Iv {x:AV}{f:Nat→Nat→Option β}{y:β}(h:aP x f=some y): ∃k off,x=.p k off∧f k off=some y:=by
 cases x with
 |p k off=>exact⟨k,off,rfl,h⟩
 |_=>cases h
theorem gc {x:AV}{f:Nat→Nat→Nat→Nat→Bool→Nat→Option β}{z ev:Option β}{y:β}(h:aS x f z ev=some y):
 (∃k off n lo ex m,x=.s k off n lo ex m∧f k off n lo ex m=some y)∨(x=.z∧z=some y)∨(x=.ev∧ev=some y):=by
 cases x with
 |s k off n lo ex m=>exact .inl ⟨k,off,n,lo,ex,m,rfl,h⟩
 |z=>exact .inr (.inl ⟨rfl,h⟩)
 |ev=>exact .inr (.inr ⟨rfl,h⟩)
 |_=>cases h
theorem H9 {i:Int}{f:Nat→Option β}{y:β}(h:QM i f=some y): ∃n:Nat,i=(n:Int)∧f n=some y:=by
 cases i with
 |ofNat n=>exact⟨n,rfl,h⟩
 |negSucc n=>cases h
theorem kK {x:XV}{f:Bool→Option β}{y:β}(h:xB x f=some y): ∃b,x=.c (.b b)∧f b=some y:=by
 obtain⟨a,rfl,h⟩:=eS h
 obtain⟨b,rfl,h⟩:=qH h
 exact⟨b,rfl,h⟩
theorem gN {x:XV}{f:IntKind→Int→Option β}{y:β}(h:xI x f=some y): ∃k n,x=.c (.i k n)∧f k n=some y:=by
 obtain⟨a,rfl,h⟩:=eS h
 obtain⟨k,n,rfl,h⟩:=GU h
 exact⟨k,n,rfl,h⟩
theorem jC {x:XV}{f:Nat→Nat→Option β}{y:β}(h:xP x f=some y): ∃k off,x=.c (.p k off)∧f k off=some y:=by
 obtain⟨a,rfl,h⟩:=eS h
 obtain⟨k,n,rfl,h⟩:=Iv h
 exact⟨k,n,rfl,h⟩
theorem li {x:XV}{f:Nat→Option β}{y:β}(h:xN x f=some y): ∃(k:IntKind) (n:Nat),x=.c (.i k (n:Int))∧f n=some y:=by
 obtain⟨k,i,rfl,h⟩:=gN h
 obtain⟨n,rfl,h⟩:=H9 h
 exact⟨k,n,rfl,h⟩
def XV.rp (x:XV):Option (Nat×Rp):=match x with
 |XV.c y=>some (1,Rp.c y)
 |XV.a n r=>some (n,r)
 |XV.t _=>none
 |XV.u=>none
theorem vf {x:XV}{f:Nat→Rp→Option β}{y:β}(h:xD x f=some y): ∃n r,x.rp=some (n,r)∧f n r=some y:=by
 cases x with
 |c a=>exact⟨1,.c a,rfl,h⟩
 |a n r=>exact⟨n,r,rfl,h⟩
 |_=>cases h
theorem Tr.get_n (l:Tr α) (v:Option α) (r:Tr α) (k:Nat):(Tr.n l v r).get k=if k=0 then v else if k%2=1 then l.get (k/2) else r.get (k/2):=by
 show @Bool.rec (fun _=>Option α) (@Bool.rec (fun _=>Option α) (r.get (k/2)) (l.get (k/2)) (Nat.beq (k%2) 1)) v (Nat.beq k 0)=_
 by_cases h:k=0
 ·subst h;rfl
 ·have h1:Nat.beq k 0=false:=by
   cases hb:Nat.beq k 0 with
   |false=>rfl
   |true=>exact absurd (Nat.eq_of_beq_eq_true hb) h
  rw[h1,if_neg h]
  by_cases h2:k%2=1
  ·rw[if_pos h2,h2];rfl
  ·have h3:Nat.beq (k%2) 1=false:=by
    cases hb:Nat.beq (k%2) 1 with
    |false=>rfl
    |true=>exact absurd (Nat.eq_of_beq_eq_true hb) h2
   rw[h3,if_neg h2]
theorem xM {γ:Type}(b:Bool) (x y:γ): @Bool.rec (fun _=>γ) x y b=if b=true then y else x:=by cases b<;>rfl
theorem kx {γ:Type}(k l:Nat) (x y:γ): @Bool.rec (fun _=>γ) x y (Nat.beq k l)=if k=l then y else x:=by
 rw[xM]
 by_cases h:k=l
 ·subst h;rw[if_pos (Nat.beq_refl k),if_pos rfl]
 ·rw[if_neg h,if_neg (fun e=>h (Nat.eq_of_beq_eq_true e))]
theorem Tr.one_get {v x:α}: ∀(f k k':Nat),(Tr.one v f k).get k'=some x→k'=k∧x=v:=by
 intro f
 induction f with
 |zero=>intro k k' h;cases h
 |succ f ih=>
  intro k k' h
  have h:(@Bool.rec (fun _=>Tr α) (@Bool.rec (fun _=>Tr α) (.n .e none (Tr.one v f (k/2))) (.n (Tr.one v f (k/2)) none .e) (Nat.beq (k%2) 1)) (.n .e (some v) .e) (Nat.beq k 0)).get k'=some x:=h
  rw[kx,kx] at h
  split at h
  ·rename_i hk
   rw[Tr.get_n] at h
   split at h
   ·rename_i hk';injection h with h;exact⟨by omega,h.symm⟩
   ·split at h<;>cases h
  ·rename_i hk
   split at h
   ·rename_i h2
    rw[Tr.get_n] at h
    split at h
    ·cases h
    ·split at h
     ·rename_i h3;have:=ih _ _ h;exact⟨by omega,this.2⟩
     ·cases h
   ·rename_i h2
    rw[Tr.get_n] at h
    split at h
    ·cases h
    ·split at h
     ·cases h
     ·rename_i h3;have:=ih _ _ h;exact⟨by omega,this.2⟩
theorem Tr.set_get {v x:α}: ∀(t:Tr α) (k k':Nat),(t.set v k).get k'=some x→(k'=k∧x=v)∨(k'≠k∧t.get k'=some x):=by
 intro t
 induction t with
 |e=>intro k k' h;exact .inl (Tr.one_get 40 k k' h)
 |n l o r ihl ihr=>
  intro k k' h
  have h:(@Bool.rec (fun _=>Tr α) (@Bool.rec (fun _=>Tr α) (.n l o (r.set v (k/2))) (.n (l.set v (k/2)) o r) (Nat.beq (k%2) 1)) (.n l (some v) r) (Nat.beq k 0)).get k'=some x:=h
  rw[kx,kx] at h
  rw[Tr.get_n]
  split at h
  ·rename_i hk
   rw[Tr.get_n] at h
   split at h
   ·rename_i hk';injection h with h;exact .inl ⟨by omega,h.symm⟩
   ·rename_i hk';refine .inr ⟨by omega,?_⟩;rw[if_neg hk'];exact h
  ·rename_i hk
   split at h
   ·rename_i h2
    rw[Tr.get_n] at h
    split at h
    ·rename_i hk';refine .inr ⟨by omega,?_⟩;rw[if_pos hk'];exact h
    ·rename_i hk'
     split at h
     ·rename_i h3
      rcases ihl _ _ h with⟨e1,e2⟩|⟨e1,e2⟩
      ·exact .inl ⟨by omega,e2⟩
      ·refine .inr ⟨by intro e;subst e;exact e1 rfl,?_⟩;rw[if_neg hk',if_pos h3];exact e2
     ·rename_i h3;refine .inr ⟨by intro e;subst e;exact h3 h2,?_⟩;rw[if_neg hk',if_neg h3];exact h
   ·rename_i h2
    rw[Tr.get_n] at h
    split at h
    ·rename_i hk';refine .inr ⟨by omega,?_⟩;rw[if_pos hk'];exact h
    ·rename_i hk'
     split at h
     ·rename_i h3;refine .inr ⟨by intro e;subst e;exact h2 h3,?_⟩;rw[if_neg hk',if_pos h3];exact h
     ·rename_i h3
      rcases ihr _ _ h with⟨e1,e2⟩|⟨e1,e2⟩
      ·exact .inl ⟨by omega,e2⟩
      ·refine .inr ⟨by intro e;subst e;exact e1 rfl,?_⟩;rw[if_neg hk',if_neg h3];exact e2
theorem Tr.del_get {x:α}: ∀(t:Tr α) (k k':Nat),(t.del k).get k'=some x→k'≠k∧t.get k'=some x:=by
 intro t
 induction t with
 |e=>intro k k' h;cases h
 |n l o r ihl ihr=>
  intro k k' h
  have h:(@Bool.rec (fun _=>Tr α) (@Bool.rec (fun _=>Tr α) (.n l o (r.del (k/2))) (.n (l.del (k/2)) o r) (Nat.beq (k%2) 1)) (.n l none r) (Nat.beq k 0)).get k'=some x:=h
  rw[kx,kx] at h
  rw[Tr.get_n]
  split at h
  ·rename_i hk
   rw[Tr.get_n] at h
   split at h
   ·cases h
   ·rename_i hk';refine⟨by omega,?_⟩;rw[if_neg hk'];exact h
  ·rename_i hk
   split at h
   ·rename_i h2
    rw[Tr.get_n] at h
    split at h
    ·rename_i hk';refine⟨by omega,?_⟩;rw[if_pos hk'];exact h
    ·rename_i hk'
     split at h
     ·rename_i h3
      obtain⟨e1,e2⟩:=ihl _ _ h
      refine⟨by intro e;subst e;exact e1 rfl,?_⟩;rw[if_neg hk',if_pos h3];exact e2
     ·rename_i h3;refine⟨by intro e;subst e;exact h3 h2,?_⟩;rw[if_neg hk',if_neg h3];exact h
   ·rename_i h2
    rw[Tr.get_n] at h
    split at h
    ·rename_i hk';refine⟨by omega,?_⟩;rw[if_pos hk'];exact h
    ·rename_i hk'
     split at h
     ·rename_i h3;refine⟨by intro e;subst e;exact h2 h3,?_⟩;rw[if_neg hk',if_pos h3];exact h
     ·rename_i h3
      obtain⟨e1,e2⟩:=ihr _ _ h
      refine⟨by intro e;subst e;exact e1 rfl,?_⟩;rw[if_neg hk',if_neg h3];exact e2
theorem r7 {x:α}: ∀(l:List (Nat×α)) (k:Nat),(Ek l).get k=some x→(k,x)∈l
 |[],k,h=>by cases h
 |(j,v)::r,k,h=>by
  rcases Tr.set_get (Ek r) j k h with⟨e1,e2⟩|⟨_,h⟩
  ·subst e1 e2;exact List.mem_cons_self ..
  ·exact List.mem_cons_of_mem _ (r7 r k h)
end
def Rp.ok:Rp→Prop
 | .e=>True
 | .c _=>True
 | .n ls pu l r=>ls=l.flat.length∧l.ok∧r.ok∧(pu=true→ ∀x∈l.flat++r.flat,MU x=true)
theorem sj: ∀ {r:Rp},r.ok→Py r=true→ ∀x∈r.flat,MU x=true
 | .e,_,_,x,hx=>by cases hx
 | .c y,_,h,x,hx=>by
   have:x=y:=by simpa [Rp.flat] using hx
   subst this;exact h
 | .n ls pu l r,ho,h,x,hx=>ho.2.2.2 h x hx
theorem pd {ls:Nat}{l r:Rp}(h:ls=l.flat.length) (hl:l.ok) (hr:r.ok):(Ew ls l r).ok:=by
 refine⟨h,hl,hr,fun hp x hx=>?_⟩
 rw[Ft,Bool.and_eq_true] at hp
 rcases List.mem_append.1 hx with hx|hx
 ·exact sj hl hp.1 x hx
 ·exact sj hr hp.2 x hx
theorem fM {ls:Nat}{l r:Rp}(h:ls=l.flat.length) (hl:l.ok) (hr:r.ok):(eZ ls l r).ok∧(eZ ls l r).flat=l.flat++r.flat:=by
 cases l with
 |e=>exact⟨hr,rfl⟩
 |c x=>
  cases r with
  |e=>exact⟨hl,by simp[Rp.flat];rfl⟩
  |c y=>exact⟨pd h hl hr,rfl⟩
  |n _ _ _ _=>exact⟨pd h hl hr,rfl⟩
 |n a b c d=>
  cases r with
  |e=>exact⟨hl,by show(Rp.n a b c d).flat=(Rp.n a b c d).flat++[];simp⟩
  |c y=>exact⟨pd h hl hr,rfl⟩
  |n _ _ _ _=>exact⟨pd h hl hr,rfl⟩
theorem cZ {a b:Nat}:Nat.ble a b=true↔a≤b:=by rw[Nat.ble_eq]
theorem fP: ∀(r:Rp) (tot off n:Nat),r.ok→tot=r.flat.length→off+n≤tot→(e8 r tot off n).ok∧(e8 r tot off n).flat=(r.flat.drop off).take n:=by
 intro r
 induction r with
 |e=>intro tot off n _ ht h;exact⟨trivial,by simp[e8,Rp.flat]⟩
 |c x=>
  intro tot off n _ ht h
  simp[Rp.flat] at ht
  show(bI (Nat.beq n 0) Rp.e (.c x)).ok∧(bI (Nat.beq n 0) Rp.e (.c x)).flat=([x].drop off).take n
  by_cases hn:n=0
  ·subst hn;exact⟨trivial,by simp[bI,Rp.flat]⟩
  ·have h1:n=1:=by omega
   have h2:off=0:=by omega
   subst h1 h2
   exact⟨trivial,rfl⟩
 |n ls pu l r ihl ihr=>
  intro tot off n ho ht h
  obtain⟨h1,h2,h3,h4⟩:=ho
  have htl:tot=l.flat.length+r.flat.length:=by rw[ht];simp[Rp.flat]
  show(bI (Nat.beq n tot) (Rp.n ls pu l r) (bI (Nat.ble (off+n) ls) (e8 l ls off n) (bI (Nat.ble ls off) (e8 r (tot-ls) (off-ls) n) (eZ (ls-off) (e8 l ls off (ls-off)) (e8 r (tot-ls) 0 (off+n-ls)))))).ok∧
   (bI (Nat.beq n tot) (Rp.n ls pu l r) (bI (Nat.ble (off+n) ls) (e8 l ls off n) (bI (Nat.ble ls off) (e8 r (tot-ls) (off-ls) n) (eZ (ls-off) (e8 l ls off (ls-off)) (e8 r (tot-ls) 0 (off+n-ls)))))).flat=_
  rw[eP,eP,eP]
  show _∧_=((l.flat++r.flat).drop off).take n
  split
  ·rename_i hb
   have:=Nat.eq_of_beq_eq_true hb
   have h0:off=0:=by omega
   subst h0
   refine⟨⟨h1,h2,h3,h4⟩,?_⟩
   show l.flat++r.flat=_
   rw[List.drop_zero,List.take_of_length_le (by simp;omega)]
  ·split
   ·rename_i hb
    rw[cZ] at hb
    obtain⟨g1,g2⟩:=ihl ls off n h2 h1 hb
    refine⟨g1,?_⟩
    rw[g2,List.drop_append_of_le_length (by omega),List.take_append_of_le_length (by simp;omega)]
   ·rename_i hb
    rw[cZ] at hb
    split
    ·rename_i hc
     rw[cZ] at hc
     obtain⟨g1,g2⟩:=ihr (tot-ls) (off-ls) n h3 (by omega) (by omega)
     refine⟨g1,?_⟩
     rw[g2,List.drop_append,List.drop_of_length_le (i:=off) (l:=l.flat) (by omega),List.nil_append,h1]
    ·rename_i hc
     rw[cZ] at hc
     obtain⟨g1,g2⟩:=ihl ls off (ls-off) h2 h1 (by omega)
     obtain⟨k1,k2⟩:=ihr (tot-ls) 0 (off+n-ls) h3 (by omega) (by omega)
     have hlen:ls-off=(e8 l ls off (ls-off)).flat.length:=by rw[g2];simp;omega
     obtain⟨j1,j2⟩:=fM hlen g1 k1
     refine⟨j1,?_⟩
     rw[j2,g2,k2,List.drop_append_of_le_length (by omega),List.take_append,List.take_of_length_le (by simp;omega),List.take_of_length_le (l:=l.flat.drop off) (by simp;omega)]
     rw[List.drop_zero]
     congr 1
     congr 1
     simp;omega
theorem mH {d:Rp}(hd:d.ok): ∀(r:Rp) (tot off n:Nat),r.ok→tot=r.flat.length→n=d.flat.length→off+n≤tot→(gP d r tot off n).ok∧(gP d r tot off n).flat=r.flat.take off++d.flat++r.flat.drop (off+n):=by
 intro r
 induction r with
 |e=>
  intro tot off n _ ht hn h
  simp[Rp.flat] at ht
  have:d.flat=[]:=List.length_eq_zero_iff.1 (by omega)
  exact⟨trivial,by simp[gP,Rp.flat,this]⟩
 |c x=>
  intro tot off n _ ht hn h
  simp[Rp.flat] at ht
  show(bI (Nat.beq n 0) (.c x) d).ok∧(bI (Nat.beq n 0) (.c x) d).flat=[x].take off++d.flat++[x].drop (off+n)
  by_cases h0:n=0
  ·subst h0
   have:d.flat=[]:=List.length_eq_zero_iff.1 (by omega)
   refine⟨trivial,?_⟩
   rw[this];show[x]=_;simp
  ·have h1:n=1:=by omega
   have h2:off=0:=by omega
   rw[h1,h2]
   exact⟨hd,by show d.flat=_;simp⟩
 |n ls pu l r ihl ihr=>
  intro tot off n ho ht hn h
  obtain⟨h1,h2,h3,h4⟩:=ho
  have htl:tot=l.flat.length+r.flat.length:=by rw[ht];simp[Rp.flat]
  show(bI (Nat.beq n tot) d (bI (Nat.ble (off+n) ls) (Ew ls (gP d l ls off n) r) (bI (Nat.ble ls off) (Ew ls l (gP d r (tot-ls) (off-ls) n)) (eZ off (e8 l ls 0 off) (eZ n d (e8 r (tot-ls) (off+n-ls) (tot-(off+n)))))))).ok∧
   (bI (Nat.beq n tot) d (bI (Nat.ble (off+n) ls) (Ew ls (gP d l ls off n) r) (bI (Nat.ble ls off) (Ew ls l (gP d r (tot-ls) (off-ls) n)) (eZ off (e8 l ls 0 off) (eZ n d (e8 r (tot-ls) (off+n-ls) (tot-(off+n)))))))).flat=_
  rw[eP,eP,eP]
  show _∧_=(l.flat++r.flat).take off++d.flat++(l.flat++r.flat).drop (off+n)
  split
  ·rename_i hb
   have:=Nat.eq_of_beq_eq_true hb
   have h0:off=0:=by omega
   subst h0
   refine⟨hd,?_⟩
   rw[List.take_zero,List.drop_of_length_le (by simp;omega)];simp
  ·split
   ·rename_i hb
    rw[cZ] at hb
    obtain⟨g1,g2⟩:=ihl ls off n h2 h1 hn hb
    have hlen:ls=(gP d l ls off n).flat.length:=by rw[g2];simp;omega
    refine⟨pd hlen g1 h3,?_⟩
    show(gP d l ls off n).flat++r.flat=_
    rw[g2,List.take_append_of_le_length (by omega),List.drop_append_of_le_length (by omega)];simp
   ·rename_i hb
    rw[cZ] at hb
    split
    ·rename_i hc
     rw[cZ] at hc
     obtain⟨g1,g2⟩:=ihr (tot-ls) (off-ls) n h3 (by omega) hn (by omega)
     refine⟨pd h1 h2 g1,?_⟩
     show l.flat++(gP d r (tot-ls) (off-ls) n).flat=_
     rw[g2,List.take_append,List.take_of_length_le (i:=off) (l:=l.flat) (by omega),List.drop_append,List.drop_of_length_le (i:=off+n) (l:=l.flat) (by omega)]
     simp only[List.nil_append,List.append_assoc,h1]
     congr 3
     rw[show off+n-l.flat.length=off-l.flat.length+n by omega]
    ·rename_i hc
     rw[cZ] at hc
     obtain⟨g1,g2⟩:=fP l ls 0 off h2 h1 (by omega)
     obtain⟨k1,k2⟩:=fP r (tot-ls) (off+n-ls) (tot-(off+n)) h3 (by omega) (by omega)
     obtain⟨j1,j2⟩:=fM hn hd k1
     have hlen:off=(e8 l ls 0 off).flat.length:=by rw[g2];simp;omega
     obtain⟨i1,i2⟩:=fM hlen g1 j1
     refine⟨i1,?_⟩
     rw[i2,j2,g2,k2,List.drop_zero,List.take_append_of_le_length (by omega),List.drop_append,List.drop_of_length_le (i:=off+n) (l:=l.flat) (by omega),List.nil_append,List.take_of_length_le (l:=r.flat.drop (off+n-ls)) (by simp;omega),h1]
     simp
theorem j8: ∀(r:Rp) (off:Nat),r.ok→jU r off=r.flat[off]? :=by
 intro r
 induction r with
 |e=>intro off _;simp[jU,Rp.flat]
 |c x=>
  intro off _
  show @Bool.rec (fun _=>Option AV) none (some x) (Nat.beq off 0)=[x][off]?
  rw[kx]
  split
  ·rename_i h;subst h;rfl
  ·rename_i h
   cases off with
   |zero=>exact absurd rfl h
   |succ n=>simp
 |n ls pu l r ihl ihr=>
  intro off ho
  obtain⟨h1,h2,h3,_⟩:=ho
  show @Bool.rec (fun _=>Option AV) (jU r (off-ls)) (jU l off) (Nat.blt off ls)=(l.flat++r.flat)[off]?
  rw[xM]
  split
  ·rename_i hb
   rw[bU] at hb
   rw[ihl off h2,List.getElem?_append_left (by omega)]
  ·rename_i hb
   rw[bU] at hb
   rw[ihr _ h3,List.getElem?_append_right (by omega),h1]
theorem iF: ∀(l:List AV),(lI l).ok∧(lI l).flat=l
 |[]=>⟨trivial,rfl⟩
 |x::l=>by
  obtain⟨h1,h2⟩:=iF l
  have:=fM (ls:=1) (l:=.c x) (r:=lI l) rfl trivial h1
  refine⟨this.1,?_⟩
  show(eZ 1 (.c x) (lI l)).flat=_
  rw[this.2,h2];rfl
def pB (zs:List AV):Nat→List AV
 |0=>[]
 |n+1=>zs++pB zs n
theorem mq (zs:List AV): ∀n,(pB zs n).length=n*zs.length
 |0=>by simp[pB]
 |n+1=>by rw[pB,List.length_append,mq zs n,Nat.succ_mul,Nat.add_comm]
theorem ks {m:Nat}{z:Rp}(hm:m=z.flat.length) (hz:z.ok): ∀n,(jy m z n).ok∧(jy m z n).flat=pB z.flat n
 |0=>⟨trivial,rfl⟩
 |n+1=>by
  obtain⟨h1,h2⟩:=ks hm hz n
  have:=fM hm hz h1
  refine⟨this.1,?_⟩
  show(eZ m z (jy m z n)).flat=_
  rw[this.2,h2];rfl
noncomputable def TS (m:Nat) (L:LX) (T:Tr XV):TX:=fun t=>bif m.testBit t then qW t L else T.get t
noncomputable def HS (H:Tr Bx):HF:=fun k=>(H.get k).map fun b=>(b.U,b.r.flat)
def fC (H:Tr Bx):Prop:= ∀k b,H.get k=some b→b.r.ok∧b.n=b.r.flat.length
def fF (N:Nat) (H:Tr Bx):Prop:= ∀k b,H.get k=some b→k<N
def rH:XD→Prop
 | .c _=>True
 | .a n r=>r.ok∧n=r.flat.length
def sE:XV→Prop
 | .c _=>True
 | .a n r=>r.ok∧n=r.flat.length
 | .t ds=> ∀d∈ds,rH d
 | .u=>True
def gz (T:TX):Prop:= ∀t x,T t=some x→sE x
def e0:HF:=fun _=>none
section
variable {P:Program}{ops:Array Oper}{o:Oper}{TT:TX}{m N:Nat}{L:LX}{T:Tr XV}{H:Tr Bx}{x:XV}
def ND (P:Program) (ops:Array Oper) (o:Oper) (T:TX) (e:Evt):Prop:= ∀V A β a w,(∀k,A k→ ¬(e.N≤k∧k<e.N'))→Mem V A e.Hv β w→pm A (Zs V e.Hv β) w β (dg ops o) T a→
 Gives P o a w fun v w'=> ∃A' β',(∀k,A k→A' k)∧(∀k,A' k→Ad A e.N e.N' k)∧Mem V A' e.Hv' β' w'∧Hst e.N e.N' A e.Hv β w e.Hv' β' w'∧RdX2 A' (Zs V e.Hv' β') w' β' v e.x
def Foot (N N':Nat) (H H':Tr Bx) (Hv Hv':HF):Lg→Prop
 | .p=>Hv=e0∧Hv'=e0∧N'=N
 | .r k=>(∀j,j≠k→Hv j=none)∧Hv'=Hv∧N'=N∧(HS H k).isSome=true
 | .w k=>(∀j,j≠k→Hv j=none∧Hv' j=none)∧N'=N
 | .nw k=>k=N∧N'=N+1∧Hv=e0∧ ∀j,j≠k→Hv' j=none
 | .c K K'=>Hv=HS K∧Hv'=HS K'∧K=H∧K'=H'
def ek (P:Program) (ops:Array Oper) (o:Oper) (TT:TX) (N:Nat) (H:Tr Bx) (x:XV) (N':Nat) (H':Tr Bx) (g:Lg):Prop:=
 N≤N'∧sE x∧fC H'∧fF N' H'∧ ∃Hv Hv',ND P ops o TT ⟨x,Hv,Hv',N,N'⟩∧(∀k c,Hv k=some c→HS H k=some c)∧(∀k c,HS H' k=some c→eJ (HS H) Hv Hv' k=some c)∧Foot N N' H H' Hv Hv' g
theorem ui {H:HF}:eJ H e0 e0=H:=by funext k;rfl
theorem bm (hO:fC H) (hL:fF N H) (hx:sE x) (h: ∀A Z w β a,pm A Z w β (dg ops o) TT a→ ∃v,(execOp a.eval o).run P w=.ok (.value v) w∧RdX2 A Z w β v x):ek P ops o TT N H x N H .p:=by
 have hf:Foot N N H H e0 e0 .p:=⟨rfl,rfl,rfl⟩
 have h1: ∀k c,e0 k=some c→HS H k=some c:=fun k c h=>by cases h
 have h2: ∀k c,HS H k=some c→eJ (HS H) e0 e0 k=some c:=fun k c h=>by rw[ui];exact h
 refine⟨Nat.le_refl _,hx,hO,hL,e0,e0,fun V A β a w _ hm ht=>?_,h1,h2,hf⟩
 obtain⟨v,e,hr⟩:=h _ _ w β a ht
 unfold Gives
 rw[e]
 exact⟨A,β,fun _ h=>h,fun _ h=>.inl h,hm,Hst.refl,hr⟩
theorem yJ {t:Nat}{xo:XO}{v:XV}(hc:cO m (.tmp t)=some xo) (hg:xo.get L T=some v):TS m L T t=some v:=by
 have hc:(bif m.testBit t then some (XO.l t) else some (XO.t t))=some xo:=hc
 show(bif m.testBit t then qW t L else T.get t)=some v
 cases hb:m.testBit t with
 |true=>rw[hb] at hc;injection hc with hc;subst hc;exact hg
 |false=>rw[hb] at hc;injection hc with hc;subst hc;exact hg
section
variable {A Z:Nat→Prop}{w:World}{β:Nat→Pl}{a:Act}
theorem mp {v:Value}{y:AV}(h:gX v=some y):RdA A Z w β v y:=by
 cases v with
 |bool b=>simp[gX] at h;subst h;exact .b b
 |int k n=>simp[gX] at h;subst h;exact .i k n
 |slice A' n c=>
  cases A' with
  |some A'=>simp[gX] at h
  |none=>
   cases n with
   |zero=>
    cases c with
    |zero=>simp[gX] at h;subst h;exact .z
    |succ c=>simp[gX] at h
   |succ n=>simp[gX] at h
 |pointer p=>
  cases p with
  |none=>simp[gX] at h;subst h;exact .np
  |some p=>simp[gX] at h
 |_=>simp[gX] at h
theorem oE {γ δ:Type}{f:γ→Option δ}: ∀(l:List γ) (r:List δ),gm f l=some r→l.length=r.length
 |[],r,h=>by injection h with h;subst h;rfl
 |x::l,r,h=>by
  unfold gm at h
  split at h
  ·cases h
  ·split at h
   ·cases h
   ·rename_i ys h2
    injection h with h
    subst h
    simp[oE l ys h2]
theorem qp {γ δ:Type}{f:γ→Option δ}: ∀(l:List γ) (r:List δ),gm f l=some r→ ∀(j:Nat) (x:γ) (y:δ),l[j]? =some x→r[j]? =some y→f x=some y
 |[],r,h,j,x,y,hx,_=>by simp at hx
 |z::l,r,h,j,x,y,hx,hy=>by
  unfold gm at h
  split at h
  ·cases h
  ·rename_i y0 h1
   split at h
   ·cases h
   ·rename_i ys h2
    injection h with h
    subst h
    cases j with
    |zero=>simp at hx hy;subst hx hy;exact h1
    |succ j=>simp at hx hy;exact qp l ys h2 j x y hx hy
theorem oI {vs:List Value}{xs:List AV}(h:gm gX vs=some xs):RdAs A Z w β vs xs:=
 ⟨oE _ _ h,fun j v x hv hx=>mp (qp _ _ h j v x hv hx)⟩
theorem q8 {v:Value}{d:XV}(h:EZ v=some d):RdX2 A Z w β v d∧sE d:=by
 unfold EZ at h
 split at h
 ·rename_i cs
  cases h1:gm gX cs.toList with
  |none=>rw[h1] at h;cases h
  |some us=>
   rw[h1] at h
   injection h with h
   subst h
   obtain⟨h2,h3⟩:=iF us
   exact⟨⟨cs,rfl,by rw[h3];exact oI h1⟩,h2,by rw[h3]⟩
 ·cases h1:gX v with
  |none=>rw[h1] at h;cases h
  |some u=>rw[h1] at h;injection h with h;subst h;exact⟨mp h1,trivial⟩
theorem aU {y:Operand}{xo:XO}{v:XV}(hy:y∈o.op.operands) (hc:cO m y=some xo) (hg:xo.get L T=some v) (ht:pm A Z w β (dg ops o) (TS m L T) a):RdX2 A Z w β (a.eval y) v:=by
 cases y with
 |tmp t=>
  have hl:dg ops o t:=List.mem_append_left _ (List.mem_filterMap.2 ⟨.tmp t,by simpa using hy,rfl⟩)
  obtain⟨v',e,hr⟩:=ht t v hl (yJ hc hg)
  have:a.eval (.tmp t)=v':=by
   show a.tmps.getD t undef=v'
   obtain⟨hlt,e⟩:=Array.getElem?_eq_some_iff.1 e
   simp[Array.getD,hlt,e]
  rw[this];exact hr
 |const c=>
  cases h1:EZ c with
  |none=>simp[cO,h1] at hc
  |some d=>
   simp[cO,h1] at hc
   subst hc
   injection hg with hg
   subst hg
   exact(q8 h1).1
 |func g=>
  simp[cO] at hc
  subst hc
  injection hg with hg
  subst hg
  exact .f g #[] [] (.f0 g) rfl rfl (fun j v x hv=>by simp at hv)
 |global g=>simp[cO] at hc
theorem mz {y:Operand}{xo:XO}{v:XV}(hT:gz (TS m L T)) (hc:cO m y=some xo) (hg:xo.get L T=some v):sE v:=by
 cases y with
 |tmp t=>exact hT t v (yJ hc hg)
 |const c=>
  cases h1:EZ c with
  |none=>simp[cO,h1] at hc
  |some d=>
   simp[cO,h1] at hc
   subst hc
   injection hg with hg
   subst hg
   exact(q8 (A:=fun _=>False) (Z:=fun _=>False) (w:=default) (β:=fun _=>⟨0,0⟩) h1).2
 |func g=>
  simp[cO] at hc
  subst hc
  injection hg with hg
  subst hg
  trivial
 |global g=>simp[cO] at hc
theorem RdA.b_eq {v:Value}{b:Bool}(h:RdA A Z w β v (.b b)):v=.bool b:=by
 cases h with
 |b _=>rfl
 |f _ _ _ _ h0=>cases h0
theorem RdA.i_eq {v:Value}{k:IntKind}{n:Int}(h:RdA A Z w β v (.i k n)):v=.int k n:=by
 cases h with
 |i _ _=>rfl
 |f _ _ _ _ h0=>cases h0
theorem RdA.z_eq {v:Value}(h:RdA A Z w β v .z):v=.slice none 0 0:=by
 cases h with
 |z=>rfl
 |f _ _ _ _ h0=>cases h0
theorem RdA.p_eq {v:Value}{k off:Nat}(h:RdA A Z w β v (.p k off)):v=.pointer (some ⟨(β k).b,off,none⟩)∧A k:=by
 cases h with
 |p _ _ h=>exact⟨rfl,h⟩
 |f _ _ _ _ h0=>cases h0
theorem RdA.s_eq {v:Value}{k off n lo m':Nat}{ex:Bool}(h:RdA A Z w β v (.s k off n lo ex m')): ∃c,v=.slice (some ⟨(β k).b,off,none⟩) n c∧A k∧n≤lo∧lo≤c∧c≤maxLen∧(ex=true→c=lo)∧off+c*m'≤(β k).z:=by
 cases h with
 |s _ _ _ _ _ _ c h h1 h2 h3 h4 h5=>exact⟨c,rfl,h,h1,h2,h3,h4,h5⟩
 |f _ _ _ _ h0=>cases h0
theorem RdA.ev_eq {v:Value}(h:RdA A Z w β v .ev): ∃a c,v=.slice a 0 c∧c≤maxLen∧ ∀ad,a=some ad→ad.spot=none:=by
 cases h with
 |ev a c h h2=>exact⟨a,c,rfl,h,h2⟩
 |f _ _ _ _ h0=>cases h0
end
variable {N':Nat}{H':Tr Bx}{g:Lg}{call:eC}
variable {dst:Option Nat}{ty:TypeId}{pos:String}{af:Array Edge}{gd:Option (Nat×Bool)}
theorem bO {x y:XV}{N N':Nat}{H H':Tr Bx}{g:Lg}(h:pR x N H=some (.mk y N' H' g)):y=x∧N'=N∧H'=H∧g=.p:=by
 unfold pR at h
 injection h with h
 injection h with h1 h2 h3 h4
 exact⟨h1.symm,h2.symm,h3.symm,h4.symm⟩
theorem dV {f:XO→i9}{y:Operand}{k:i9}(h:o1 m f y=some k): ∃xo,cO m y=some xo∧k=f xo:=by
 unfold o1 at h
 cases h1:cO m y with
 |none=>rw[h1] at h;cases h
 |some xo=>rw[h1] at h;injection h with h;exact⟨xo,rfl,h.symm⟩
theorem gD {f:XO→XO→i9}{y z:Operand}{k:i9}(h:o2 m f y z=some k): ∃xo yo,cO m y=some xo∧cO m z=some yo∧k=f xo yo:=by
 unfold o2 at h
 split at h
 ·rename_i a b h1 h2
  injection h with h
  exact⟨a,b,h1,h2,h.symm⟩
 ·cases h
theorem LU (hT:gz (TS m L T)) (hO:fC H) (hL:fF N H) {y:Operand}{xo:XO}{x:XV}(hc:cO m y=some xo) (h:Ia xo call L T N H=some (.mk x N' H' g)):ek P ops ⟨dst,.move y,ty,pos,af,gd⟩ (TS m L T) N H x N' H' g:=by
 obtain⟨v,hv,h⟩:=aK h
 obtain⟨rfl,rfl,rfl,rfl⟩:=bO h
 exact bm hO hL (mz hT hc hv) fun A Z w β a ht=>⟨a.eval y,rfl,aU (o:=⟨dst,.move y,ty,pos,af,gd⟩) (by simp[Op.operands]) hc hv ht⟩
theorem Dk (hT:gz (TS m L T)) (hO:fC H) (hL:fF N H) {y:Operand}{xo:XO}{x:XV}(hc:cO m y=some xo) (h:Ia xo call L T N H=some (.mk x N' H' g)):ek P ops ⟨dst,.assign y,ty,pos,af,gd⟩ (TS m L T) N H x N' H' g:=by
 obtain⟨v,hv,h⟩:=aK h
 obtain⟨rfl,rfl,rfl,rfl⟩:=bO h
 exact bm hO hL (mz hT hc hv) fun A Z w β a ht=>⟨a.eval y,rfl,aU (o:=⟨dst,.assign y,ty,pos,af,gd⟩) (by simp[Op.operands]) hc hv ht⟩
theorem LP (hT:gz (TS m L T)) (hO:fC H) (hL:fF N H) {c y z:Operand}{co xo yo:XO}{x:XV}(h1:cO m c=some co) (h2:cO m y=some xo) (h3:cO m z=some yo) (h:FB co xo yo call L T N H=some (.mk x N' H' g)):ek P ops ⟨dst,.pick c y z,ty,pos,af,gd⟩ (TS m L T) N H x N' H' g:=by
 obtain⟨v,hv,h⟩:=aK h
 obtain⟨t,rfl,h⟩:=kK h
 obtain⟨v2,hu,h⟩:=aK h
 obtain⟨rfl,rfl,rfl,rfl⟩:=bO h
 rw[eP] at hu
 refine bm hO hL ?_ fun A Z w β a ht=>?_
 ·split at hu
  ·exact mz hT h2 hu
  ·exact mz hT h3 hu
 ·have e1:a.eval c=.bool t:=RdA.b_eq (aU (o:=⟨dst,.pick c y z,ty,pos,af,gd⟩) (by simp[Op.operands]) h1 hv ht)
  refine⟨if t then a.eval y else a.eval z,?_,?_⟩
  ·simp[execOp,e1,asBool]
  ·split at hu
   ·rename_i q;rw[if_pos q];exact aU (o:=⟨dst,.pick c y z,ty,pos,af,gd⟩) (by simp[Op.operands]) h2 hu ht
   ·rename_i q;rw[if_neg q];exact aU (o:=⟨dst,.pick c y z,ty,pos,af,gd⟩) (by simp[Op.operands]) h3 hu ht
theorem L4 (_hT:gz (TS m L T)) (hO:fC H) (hL:fF N H) {y:Operand}{xo:XO}{x:XV}(hc:cO m y=some xo) (h:DT xo call L T N H=some (.mk x N' H' g)):ek P ops ⟨dst,.nilCheck y,ty,pos,af,gd⟩ (TS m L T) N H x N' H' g:=by
 obtain⟨v,hv,h⟩:=aK h
 obtain⟨k,off,rfl,h⟩:=jC h
 obtain⟨rfl,rfl,rfl,rfl⟩:=bO h
 refine bm hO hL trivial fun A Z w β a ht=>?_
 have hr:RdA A Z w β (a.eval y) (.p k off):=aU (o:=⟨dst,.nilCheck y,ty,pos,af,gd⟩) (by simp[Op.operands]) hc hv ht
 refine⟨a.eval y,?_,hr⟩
 simp[execOp,hr.p_eq.1]
theorem N7 (_hT:gz (TS m L T)) (hO:fC H) (hL:fF N H) {t:TypeId}{y:Operand}{xo:XO}{x:XV}(hc:cO m y=some xo) (h:Kp xo call L T N H=some (.mk x N' H' g)):ek P ops ⟨dst,.unOp .not t y,ty,pos,af,gd⟩ (TS m L T) N H x N' H' g:=by
 obtain⟨v,hv,h⟩:=aK h
 obtain⟨b,rfl,h⟩:=kK h
 obtain⟨rfl,rfl,rfl,rfl⟩:=bO h
 refine bm hO hL trivial fun A Z w β a ht=>?_
 have e1:a.eval y=.bool b:=RdA.b_eq (aU (o:=⟨dst,.unOp .not t y,ty,pos,af,gd⟩) (by simp[Op.operands]) hc hv ht)
 exact⟨.bool (!b),by simp[execOp,e1,Op.unary],by cases b<;>exact .b _⟩
theorem kr (k:IntKind) (n:Int):p5 k n=k.wrap n:=by
 unfold p5
 rw[eP,eP]
 split
 ·rename_i h
  split
  ·rename_i h2
   have h:=Nat.eq_of_beq_eq_true h
   have hk:k=.i64:=by cases k<;>simp[kN] at h<;>rfl
   subst hk
   have h2:n.natAbs<9223372036854775808:=by simpa [Nat.blt,Nat.ble_eq,Nat.lt_iff_add_one_le] using h2
   show n=if (true&&decide (n%18446744073709551616≥9223372036854775808))=true then n%18446744073709551616-18446744073709551616 else n%18446744073709551616
   split<;>rename_i h3<;>simp at h3<;>omega
  ·rfl
 ·rfl
theorem Oq (_hT:gz (TS m L T)) (hO:fC H) (hL:fF N H) {t:TypeId}{y:Operand}{xo:XO}{x:XV}(hc:cO m y=some xo) (h:J0 xo call L T N H=some (.mk x N' H' g)):ek P ops ⟨dst,.unOp .neg t y,ty,pos,af,gd⟩ (TS m L T) N H x N' H' g:=by
 obtain⟨v,hv,h⟩:=aK h
 obtain⟨k,n,rfl,h⟩:=gN h
 obtain⟨rfl,rfl,rfl,rfl⟩:=bO h
 refine bm hO hL trivial fun A Z w β a ht=>?_
 have e1:a.eval y=.int k n:=RdA.i_eq (aU (o:=⟨dst,.unOp .neg t y,ty,pos,af,gd⟩) (by simp[Op.operands]) hc hv ht)
 exact⟨.int k (k.wrap (0-n)),by simp[execOp,e1,Op.unary,Op.intArith],by rw[kr];exact .i _ _⟩
theorem Mj (_hT:gz (TS m L T)) (hO:fC H) (hL:fF N H) {s d:TypeId}{k k0:IntKind}{y:Operand}{xo:XO}{x:XV}(hs:HA P s=some k0) (hd:HA P d=some k) (hc:cO m y=some xo) (h:D4 k xo call L T N H=some (.mk x N' H' g)):ek P ops ⟨dst,.convert s d y,ty,pos,af,gd⟩ (TS m L T) N H x N' H' g:=by
 obtain⟨v,hv,h⟩:=aK h
 obtain⟨k1,n,rfl,h⟩:=gN h
 obtain⟨rfl,rfl,rfl,rfl⟩:=bO h
 refine bm hO hL trivial fun A Z w β a ht=>?_
 have e1:a.eval y=.int k1 n:=RdA.i_eq (aU (o:=⟨dst,.convert s d y,ty,pos,af,gd⟩) (by simp[Op.operands]) hc hv ht)
 have hs2:P.underlying s=some (.int k0):=by
  unfold HA at hs
  split at hs
  ·rename_i q;injection hs with hs;subst hs;exact q
  ·cases hs
 have hd2:P.underlying d=some (.int k):=by
  unfold HA at hd
  split at hd
  ·rename_i q;injection hd with hd;subst hd;exact q
  ·cases hd
 exact⟨.int k (k.wrap n),by simp[execOp,e1,convert,run_underlying hs2,run_underlying hd2,Conv.intToInt],by rw[kr];exact .i _ _⟩
end
end Go.Proofs.YtacopbfkmnpfgaaGreat
