/-Data:a region of operations,in whatever order it may run. -/
import Derived.Test.YtegpmhlfjkhjmaaGreatTaC
import Derived.Tactics
import Derived.Laws.Cells
import Derived.Laws.CopyRow
import Derived.Laws.Tables
import Derived.Laws.Rows
namespace Go.Proofs.YtegpmhlfjkhjmaaGreat
open Go Go.RowKit
variable {ps:Array (Nat×Operand)}{listed:Array Bool}{ops:Array Oper}{old vs:Array Value}{op:BinOp}{b q r:Bool}{u:CellD}{d:D0}{dv:DV}{m:Int}{k:IntKind}{dps:List (Nat×D0)}{pl:List (Nat×Nat)}{cs us xs zs:List CellD}{ds rs:List D0}{es:List Eff}{hs sd:List Nat}{f i j n o' off t:Nat}{o p:Oper}{ax fo x y:Operand}{U W xt yt:TypeId}{v:Value}
variable {ty:TypeId}{pos:String}{af:Array Edge}{g:Option (Nat×Bool)}{dst:Option Nat}
theorem di:type_of% @Bool.and_eq_true:=@Bool.and_eq_true
theorem eM:type_of% @Sem.run_bind:=@Sem.run_bind
theorem fe:type_of% @Classical.byContradiction:=@Classical.byContradiction
theorem fi:type_of% @Result.andThen_ok:=@Result.andThen_ok
theorem gj:type_of% @Nat.le_of_ble_eq_true:=@Nat.le_of_ble_eq_true
theorem gK:type_of% @Sem.run_pure:=@Sem.run_pure
theorem jv:type_of% @Nat.eq_of_beq_eq_true:=@Nat.eq_of_beq_eq_true
theorem jV:type_of% @List.all_eq_true:=@List.all_eq_true
theorem ko:type_of% @List.mem_range:=@List.mem_range
theorem j9:type_of% @List.getElem?_eq_some_iff:=@List.getElem?_eq_some_iff
theorem nE:type_of% @RdCs.cons:=@RdCs.cons
theorem mG:type_of% @List.mem_filter:=@List.mem_filter
theorem o8:type_of% @RdCs.append:=@RdCs.append
theorem ro:type_of% @RdCs.nil:=@RdCs.nil
theorem pp:type_of% @List.mem_map:=@List.mem_map
theorem tw:type_of% @RdL.cons:=@RdL.cons
theorem sY:type_of% @Bool.or_eq_true:=@Bool.or_eq_true
theorem uS:type_of% @Array.getElem?_eq_some_iff:=@Array.getElem?_eq_some_iff
theorem qg:type_of% @Bool.not_eq_true':=@Bool.not_eq_true'
theorem vE:type_of% @Array.getElem?_toList:=@Array.getElem?_toList
theorem vk:type_of% @List.foldl_cons:=@List.foldl_cons
theorem yN:type_of% @List.ext_getElem:=@List.ext_getElem
theorem Cz:type_of% @Array.getElem?_eq_getElem:=@Array.getElem?_eq_getElem
def nu {γ:Type}(mask:Nat→Bool):Nat→List (Nat→Option (Option γ))→(Nat→Option γ)→(Nat→Option γ)
 |_,[],F=>F
 |k,u::us,F=>nu mask (k+1) us (if mask k then(fun t=>(u t).getD (F t)) else F)
section
variable {γ:Type}
theorem tI (mask:Nat→Bool): ∀(us:List (Nat→Option (Option γ))) (k:Nat) (F:Nat→Option γ),nu mask (k+1) us F=nu (fun j=>mask (j+1)) k us F
 |[],_,_=>rfl
 |u::us,k,F=>by
  show nu mask (k+1+1) us _=nu (fun j=>mask (j+1)) (k+1) us _
  rw[tI mask us (k+1)]
theorem jA {mask mask':Nat→Bool}{t:Nat}: ∀(us:List (Nat→Option (Option γ))) (k:Nat) (F F':Nat→Option γ),F t=F' t→
 (∀(j:Nat) (u:Nat→Option (Option γ)),us[j]? =some u→u t≠none→mask (k+j)=mask' (k+j))→nu mask k us F t=nu mask' k us F' t
 |[],_,_,_,h,_=>h
 |u::us,k,F,F',h,hm=>by
  show nu mask (k+1) us _ t=nu mask' (k+1) us _ t
  refine jA us (k+1) _ _ ?_ (fun j u' hj hu=>by have:=hm (j+1) u' (by simpa using hj) hu;rw[show k+(j+1)=k+1+j from by omega] at this;exact this)
  by_cases hu:u t=none
  ·have e1:(if mask k then(fun t=>(u t).getD (F t)) else F) t=F t:=by split<;>simp[hu]
   have e2:(if mask' k then(fun t=>(u t).getD (F' t)) else F') t=F' t:=by split<;>simp[hu]
   rw[e1,e2];exact h
  ·have:=hm 0 u rfl hu
   rw[rZ] at this
   rw[this]
   split
   ·show(u t).getD (F t)=(u t).getD (F' t)
    rw[h]
   ·exact h
theorem l5 {mask:Nat→Bool}(us:List (Nat→Option (Option γ))) (k:Nat) (F:Nat→Option γ)
 (h: ∀(j:Nat) (u:Nat→Option (Option γ)),us[j]? =some u→mask (k+j)=true→u t=none):nu mask k us F t=F t:=by
 have h0: ∀(us:List (Nat→Option (Option γ))) (k:Nat) (F:Nat→Option γ),nu (fun _=>false) k us F=F:=by
  intro us
  induction us with
  |nil=>intro k F;rfl
  |cons u us ih=>intro k F;exact ih (k+1) F
 have h1:=jA (mask:=mask) (mask':=fun _=>false) us k F F rfl (fun j u hj hu=>by
  cases hm:mask (k+j) with
  |false=>rfl
  |true=>exact absurd (h j u hj hm) hu)
 rw[h1,h0]
theorem Ml {mask:Nat→Bool}{t:Nat}{u:Nat→Option (Option γ)}{x:Option γ}: ∀(us:List (Nat→Option (Option γ))) (k:Nat) (F:Nat→Option γ) (j:Nat),
 us[j]? =some u→u t=some x→mask (k+j)=true→(∀(j':Nat) (u':Nat→Option (Option γ)),us[j']? =some u'→j'≠j→u' t=none)→nu mask k us F t=x
 |[],_,_,_,hj,_,_,_=>by simp at hj
 |u0::us,k,F,0,hj,hu,hm,hd=>by
  simp at hj
  subst hj
  rw[rZ] at hm
  show nu mask (k+1) us _ t=x
  rw[l5 us (k+1) _ (fun j u hj _=>hd (j+1) u (by simpa using hj) (by omega)),hm]
  simp[hu]
 |u0::us,k,F,j+1,hj,hu,hm,hd=>by
  show nu mask (k+1) us _ t=x
  exact Ml us (k+1) _ j (by simpa using hj) hu (by rw[show k+1+j=k+(j+1) from by omega];exact hm) (fun j' u' hj' hne=>hd (j'+1) u' (by simpa using hj') (by omega))
theorem Ih {mask:Nat→Bool}{t:Nat}{u:Nat→Option (Option γ)}{x:Option γ}: ∀(us:List (Nat→Option (Option γ))) (k:Nat) (F:Nat→Option γ) (j:Nat),
 us[j]? =some u→u t=some x→mask (k+j)=true→(∀(j':Nat) (u':Nat→Option (Option γ)),us[j']? =some u'→j<j'→mask (k+j')=true→u' t=none)→nu mask k us F t=x
 |[],_,_,_,hj,_,_,_=>by simp at hj
 |u0::us,k,F,0,hj,hu,hm,hd=>by
  simp at hj
  subst hj
  rw[rZ] at hm
  show nu mask (k+1) us _ t=x
  rw[l5 us (k+1) _ (fun j u hj hm'=>hd (j+1) u (by simpa using hj) (by omega) (by rw[show k+(j+1)=k+1+j from by omega];exact hm')),hm]
  simp[hu]
 |u0::us,k,F,j+1,hj,hu,hm,hd=>by
  show nu mask (k+1) us _ t=x
  exact Ih us (k+1) _ j (by simpa using hj) hu (by rw[show k+1+j=k+(j+1) from by omega];exact hm) (fun j' u' hj' hlt hm'=>hd (j'+1) u' (by simpa using hj') (by omega) (by rw[show k+(j'+1)=k+1+j' from by omega];exact hm'))
end
def uT (d:Option Nat) (e:Eff):Nat→Option (Option DV):=fun t=>if d=some t then some (some (ent t e)) else none
def uB (d:Option Nat) (e:Eff):Nat→Option (Option (TypeId×List CellD)):=fun k=>match e with
 | .a U cs _=>if d=some k then some (some (U,cs)) else none
 | .s l U cs=>if l=k then some (some (U,cs)) else none
 | .rs l U cs _=>if l=k then some (some (U,cs)) else none
 |_=>none
theorem OI (d:Option Nat) (e:Eff) (T:TF) (h: ∀k x,e≠ .c k x):(fun t=>(uT d e t).getD (T t))=e.tf d T:=by
 funext t
 cases e with
 |c k x=>exact absurd rfl (h k x)
 |r x=>unfold uT Eff.tf;dsimp only;split<;>rfl
 |a U cs sl=>unfold uT Eff.tf;dsimp only;split<;>rfl
 |s k U cs=>unfold uT Eff.tf;dsimp only;split<;>rfl
 |rs k U cs x=>unfold uT Eff.tf;dsimp only;split<;>rfl
 |skip=>unfold uT Eff.tf;dsimp only;split<;>rfl
theorem PC (d:Option Nat) (e:Eff) (B:BF) (h: ∀k x,e≠ .c k x):(fun k=>(uB d e k).getD (B k))=e.bf d B:=by
 funext k
 cases e with
 |a U cs sl=>unfold uB Eff.bf;dsimp only;split<;>rfl
 |s l U cs=>unfold uB Eff.bf;dsimp only;split<;>rfl
 |rs l U cs x=>unfold uB Eff.bf;dsimp only;split<;>rfl
 |r x=>rfl
 |c k x=>exact absurd rfl (h k x)
 |skip=>rfl
theorem Vs (d:Option Nat) (e:Eff) (k:Nat):uB d e k≠some none:=by
 unfold uB
 split
 ·grind
 ·grind
 ·grind
 grind
theorem RR {d:Option Nat}{e:Eff}{k:Nat}(h:uB d e k≠none):(∃U cs sl,e=.a U cs sl∧d=some k)∨(∃U cs,e=.s k U cs)∨ ∃U cs x,e=.rs k U cs x:=by
 unfold uB at h
 split at h
 ·grind
 ·simp_all
 ·simp_all
 grind
structure Sq where
 st:St
 nb:List (Nat×TypeId×List CellD)
 sd:List Nat
def Sq.M (s:Sq):BF:=fun k=>aQ k (s.nb++s.st.bx)
def kX (k:Nat):List (Nat×DV)→List (Nat×DV)
 |[]=>[]
 |(t,y)::r=>(t,match mN y with|some l=>bif Nat.beq l k then .n else y|none=>y)::kX k r
def jT (k:Nat):List (Nat×TypeId×List CellD)→List (Nat×TypeId×List CellD)
 |[]=>[]
 |(l,c)::r=>bif Nat.beq l k then jT k r else(l,c)::jT k r
def St.app (σ:St):Option Nat→Eff→St
 |some d,.r x=>{σ with tm:=(d,x)::σ.tm}
 |some d,.a U cs sl=>{σ with tm:=(d,Sa sl d)::σ.tm,bx:=(d,U,cs)::σ.bx}
 |some d,.skip=>{σ with tm:=(d,.u)::σ.tm}
 |some d,.s k U cs=>{σ with tm:=(d,.u)::σ.tm,bx:=(k,U,cs)::σ.bx}
 |none,.s k U cs=>{σ with bx:=(k,U,cs)::σ.bx}
 |some d,.rs k U cs x=>{σ with tm:=(d,x)::σ.tm,bx:=(k,U,cs)::σ.bx}
 |none,.rs k U cs _x=>{σ with bx:=(k,U,cs)::σ.bx}
 |some d,.c k x=>{σ with tm:=(d,x)::kX k σ.tm,bx:=jT k σ.bx}
 |none,.c k _x=>{σ with tm:=kX k σ.tm,bx:=jT k σ.bx}
 |none,_=>σ
def Sq.app (s:Sq):Option Nat→Eff→Sq
 |some d,.a U cs sl=>⟨{s.st with tm:=(d,Sa sl d)::s.st.tm},(d,U,cs)::s.nb,s.sd⟩
 |some d,.s k U cs=>⟨{s.st with tm:=(d,.u)::s.st.tm},(k,U,cs)::s.nb,k::s.sd⟩
 |none,.s k U cs=>⟨s.st,(k,U,cs)::s.nb,k::s.sd⟩
 |some d,.rs k U cs x=>⟨{s.st with tm:=(d,x)::s.st.tm},(k,U,cs)::s.nb,s.sd⟩
 |none,.rs k U cs _x=>⟨s.st,(k,U,cs)::s.nb,s.sd⟩
 |d,e=>⟨s.st.app d e,s.nb,s.sd⟩
theorem b7 {α:Type}(k t:Nat) (x:α) (r:List (Nat×α)):aQ t ((k,x)::r)=if k=t then some x else aQ t r:=by
 show(bif Nat.beq k t then some x else aQ t r)=_
 by_cases h:k=t
 ·simp_all
 ·have:Nat.beq k t=false:=by
   cases hb:Nat.beq k t with
   |false=>rfl
   |true=>exact absurd (jv hb) h
  rw[this,if_neg h];rfl
theorem nW (k t:Nat): ∀(l:List (Nat×DV)),aQ t (kX k l)=match aQ t l with|some y=>if mN y=some k then some .n else some y|none=>none
 |[]=>rfl
 |(s,y)::r=>by
  unfold kX
  rw[b7,b7]
  split
  ·show some _=(if mN y=some k then some DV.n else some y)
   cases hr:mN y with
   |none=>simp
   |some l=>
    dsimp only
    cases hb:Nat.beq l k with
    |true=>rw[if_pos (by rw[jv hb])];rfl
    |false=>rw[if_neg (fun e=>by injection e with e;subst e;rw[Nat.beq_refl] at hb;cases hb)];rfl
  ·exact nW k t r
theorem mp (k l:Nat): ∀(r:List (Nat×TypeId×List CellD)),aQ l (jT k r)=if l=k then none else aQ l r
 |[]=>by simp[jT,aQ]
 |(m,c)::r=>by
  unfold jT
  rw[b7]
  cases hb:Nat.beq m k with
  |true=>
   have:=jv hb
   subst this
   show aQ l (jT m r)=_
   rw[mp m l r]
   by_cases e:l=m
   ·rw[if_pos e,if_pos e]
   ·rw[if_neg e,if_neg e,if_neg (Ne.symm e)]
  |false=>
   have hne:m≠k:=fun e=>by subst e;rw[Nat.beq_refl] at hb;cases hb
   show aQ l ((m,c)::jT k r)=_
   rw[b7,mp k l r]
   by_cases e:m=l
   ·subst e;rw[if_pos rfl,if_neg hne,if_pos rfl]
   ·rw[if_neg e,if_neg e]
theorem rc (σ:St) (d:Option Nat) (e:Eff):(σ.app d e).T=e.tf d σ.T:=by
 funext t
 cases e with
 |c k x=>
  cases d with
  |none=>
   simp[St.app,St.T,Eff.tf,ol,nW]
   grind
  |some d=>
   simp[St.app,St.T,Eff.tf,ol,nW,b7]
   grind
 |_=>
 unfold Eff.tf
 cases d with
 |none=>simp[St.app,St.T]
 |some d=>
  by_cases h:d=t
  ·subst h;simp[St.app,St.T,b7,ent]
  ·have h': ¬(some d=some t):=by simpa using h
   simp[St.app,St.T,b7,h]
theorem W4 (σ:St) (d:Option Nat) (e:Eff):(σ.app d e).B=e.bf d σ.B:=by
 funext k
 cases d with
 |none=>cases e<;>simp[St.app,St.B,Eff.bf,b7,mp]
 |some d=>cases e<;>simp[St.app,St.B,Eff.bf,b7,mp]
theorem Q0 (s:Sq) (d:Option Nat) (e:Eff):(s.app d e).st.T=e.tf d s.st.T:=by
 cases d with
 |none=>
  cases e with
  |a U cs sl=>exact rc s.st none (.a U cs sl)
  |r x=>exact rc s.st none (.r x)
  |s k U cs=>exact rc s.st none (.s k U cs)
  |c k x=>exact rc s.st none (.c k x)
  |rs k U cs x=>exact rc s.st none (.rs k U cs x)
  |skip=>exact rc s.st none .skip
 |some d=>
  cases e with
  |a U cs sl=>exact rc s.st (some d) (.a U cs sl)
  |r x=>exact rc s.st (some d) (.r x)
  |s k U cs=>exact rc s.st (some d) (.s k U cs)
  |c k x=>exact rc s.st (some d) (.c k x)
  |rs k U cs x=>exact rc s.st (some d) (.rs k U cs x)
  |skip=>exact rc s.st (some d) .skip
theorem X4 (s:Sq) (d:Option Nat) (e:Eff) (hc: ∀k x,e≠ .c k x):(s.app d e).st.B=s.st.B:=by
 cases d with
 |none=>cases e<;>first|rfl|exact absurd rfl (hc _ _)
 |some d=>cases e<;>first|rfl|exact absurd rfl (hc _ _)
theorem O5 (s:Sq) (d:Option Nat) (e:Eff) (hc: ∀k x,e≠ .c k x):(s.app d e).M=e.bf d s.M:=by
 funext k
 cases e with
 |c k x=>exact absurd rfl (hc k x)
 |s l U cs=>
  have:(s.app d (.s l U cs)).M k=aQ k ((l,U,cs)::(s.nb++s.st.bx)):=by cases d<;>rfl
  rw[this,b7]
  rfl
 |rs l U cs x=>
  have:(s.app d (.rs l U cs x)).M k=aQ k ((l,U,cs)::(s.nb++s.st.bx)):=by cases d<;>rfl
  rw[this,b7]
  rfl
 |a U cs sl=>cases d<;>(simp[Sq.app,St.app,Sq.M,Eff.bf,b7])
 |r x=>cases d<;>(simp[Sq.app,St.app,Sq.M,Eff.bf])
 |skip=>cases d<;>(simp[Sq.app,St.app,Sq.M,Eff.bf])
theorem XU (s:Sq) (d:Option Nat) (e:Eff):(s.app d e).st.n=s.st.n:=by
 cases d<;>cases e<;>rfl
theorem L1 (σ:St) (d:Option Nat) (e:Eff):(σ.app d e).n=σ.n:=by
 cases d<;>cases e<;>rfl
def H9 (P:Program) (ops:Array Oper) (o:Oper) (σ:St) (F:St→Prop):Prop:= ∀av w0 β a w,Rel av w0 σ.n σ.T σ.B β a w→(∀t,o.dst=some t→t<σ.n)→
 Ek o ops a=true∧Gives P o a w fun v w'=> ∃σ' β',F σ'∧σ'.n=σ.n∧Rel av w0 σ.n σ'.T σ'.B β' (a.put o.dst v) w'
def dl (P:Program) (ops:Array Oper):List Oper→St→(St→Prop)→Prop
 |[],σ,K=>K σ
 |o::os,σ,K=>(∃e,Sem P ops o σ.T σ.B e∧(∀U cs sl,e=.a U cs sl→ ∃d,o.dst=some d∧σ.B d=none)∧dl P ops os (σ.app o.dst e) K)∨ ∃F:St→Prop,H9 P ops o σ F∧ ∀σ',F σ'→dl P ops os σ' K
def hid (hs:List Nat) (B:BF):BF:=fun k=>bif hs.any (Nat.beq k) then none else B k
def adi (hs:List Nat) (B M:BF):Eff→BF
 | .s k _ _=>fun l=>bif Nat.beq l k then M l else hid hs B l
 | .rs k _ _ _=>fun l=>bif Nat.beq l k then M l else hid hs B l
 |_=>hid hs B
def jw (o:Oper):Bool:=match o.op with
 | .call _=>true
 |_=>false
def dL (o:Oper):List Nat:=(o.after.toList.filter (Region.binds .any)).map (·.on)
def tL (ops:Array Oper):Bool:=
 (List.range ops.size).all fun j=>match ops[j]? with
  |none=>false
  |some p=> !jw p||(List.range j).all fun i=>match ops[i]? with
   |none=>false
   |some o=> !jw o||(dL p).any (Nat.beq i)||(List.range j).any fun q=>Nat.blt i q&&match ops[q]? with
    |none=>false
    |some oq=>jw oq&&(dL p).any (Nat.beq q)
def adc (ops:Array Oper) (hs:List Nat) (os:List Oper) (o:Oper) (B:BF) (sd:List Nat) (e:Eff):Prop:=
 ∀k U cs x,e=.rs k U cs x→hs.any (Nat.beq k)=true∧B k≠none∧k∉sd∧os.all (fun o=>o.dst.isSome)=true∧jw o=true∧tL ops=true∧hs.any (Nat.beq 999999)=false
def BC (o:Oper):Bool:=match o.op with
 | .store ..=>true
 |_=>false
def J9 (hs:List Nat) (o:Oper):Bool:=BC o||(jw o&& !hs.any (Nat.beq 999999))
def rF (ops:Array Oper):Bool:=
 (List.range ops.size).all fun j=>match ops[j]? with
  |none=>false
  |some p=> !BC p||(List.range j).all fun i=>match ops[i]? with
   |none=>false
   |some o=> !BC o||(dL p).any (Nat.beq i)
theorem Dx (h:rF ops=true) (hij:i<j) (ho:ops[i]? =some o) (hp:ops[j]? =some p) (hso:BC o=true) (hsp:BC p=true):i∈dL p:=by
 have h1:=jV.1 h j (ko.2 (uS.1 hp).1)
 rw[hp] at h1
 dsimp only at h1
 rw[hsp] at h1
 have h2:=jV.1 h1 i (ko.2 hij)
 rw[ho] at h2
 dsimp only at h2
 rw[hso] at h2
 simp only[Bool.not_true,Bool.false_or,List.any_eq_true] at h2
 obtain⟨x,hx,h3⟩:=h2
 rw[jv h3];exact hx
def Vv (hs:List Nat) (ops:Array Oper) (o:Oper):Bool:=match o.dst with
 |none=>false
 |some d=>(List.range ops.size).all fun i=>match ops[i]? with
  |none=>false
  |some p=> !(match p.dst with|none=>false|some d'=>Nat.beq d' d)||(List.range ops.size).all fun j=>match ops[j]? with
   |none=>false
   |some q=> !J9 hs q||(dL q).any (Nat.beq i)
theorem Zb {q:Oper}(h:Vv hs ops o=true) (ho:ops[i]? =some o) (hq:ops[j]? =some q) (hw:J9 hs q=true):i∈dL q:=by
 unfold Vv at h
 cases hd:o.dst with
 |none=>rw[hd] at h;cases h
 |some d=>
  rw[hd] at h
  have h1:=jV.1 h i (ko.2 (uS.1 ho).1)
  rw[ho] at h1
  dsimp only at h1
  rw[hd] at h1
  dsimp only at h1
  rw[Nat.beq_refl] at h1
  have h2:=jV.1 h1 j (ko.2 (uS.1 hq).1)
  rw[hq] at h2
  dsimp only at h2
  rw[hw] at h2
  simp only[Bool.not_true,Bool.false_or,List.any_eq_true] at h2
  obtain⟨x,hx,h3⟩:=h2
  rw[jv h3];exact hx
theorem M6 (h:jw o=true) (hf:hs.any (Nat.beq 999999)=false):J9 hs o=true:=by
 unfold J9;rw[h,hf];simp
theorem V1 (h:BC o=true):J9 hs o=true:=by
 unfold J9;rw[h];rfl
def ZP (P:Program) (ops:Array Oper) (hs:List Nat) (o:Oper) (T:TF) (B M:BF) (e:Eff):Prop:=Sem P ops o T (adi hs B M e) e∨(Vv hs ops o=true∧(∃x,e=.r x)∧Sem P ops o T B e)
def dq (P:Program) (ops:Array Oper) (hs:List Nat):List Oper→Sq→(Sq→Prop)→Prop
 |[],s,K=>K s
 |o::os,s,K=> ∃e,ZP P ops hs o s.st.T s.st.B s.M e∧(∀k x,e≠ .c k x)∧(∀k U cs,e=.s k U cs→hs.any (Nat.beq k)=true∧(s.st.B k≠none∨k∈o.looksAt ops)∧(k∉s.sd∨rF ops=true)∧BC o=true)∧adc ops hs os o s.st.B s.sd e∧(∀U cs sl,e=.a U cs sl→ ∃d,o.dst=some d∧s.M d=none)∧dq P ops hs os (s.app o.dst e) K
def JA (l:List Oper) (es:List Eff):=List.zipWith (fun(o:Oper) e=>uT o.dst e) l es
def yA (l:List Oper) (es:List Eff):=List.zipWith (fun(o:Oper) e=>uB o.dst e) l es
theorem K6 (s:Sq) (d:Option Nat) (e:Eff) (k:Nat) (h:k∉(s.app d e).sd):k∉s.sd:=by
 cases d<;>cases e<;>first|exact h|exact fun hk=>h (jd _ hk)
theorem Hp {P:Program}{ops:Array Oper}{hs:List Nat}{K:Sq→Prop}: ∀(l:List Oper) (s:Sq),dq P ops hs l s K→ ∃es:List Eff,es.length=l.length∧
 (∀(i:Nat) (o:Oper) (e:Eff),l[i]? =some o→es[i]? =some e→ZP P ops hs o (nu (fun j=>decide (j<i)) 0 (JA l es) s.st.T) s.st.B (nu (fun j=>decide (j<i)) 0 (yA l es) s.M) e∧(∀k x,e≠ .c k x)∧(∀k U cs,e=.s k U cs→hs.any (Nat.beq k)=true∧(s.st.B k≠none∨k∈o.looksAt ops)∧(k∉s.sd∨rF ops=true)∧BC o=true)∧
  (∀k U cs x,e=.rs k U cs x→hs.any (Nat.beq k)=true∧s.st.B k≠none∧k∉s.sd∧jw o=true∧tL ops=true∧hs.any (Nat.beq 999999)=false)∧
  (∀U cs sl,e=.a U cs sl→ ∃d,o.dst=some d∧nu (fun j=>decide (j<i)) 0 (yA l es) s.M d=none))∧
 (∀(i j:Nat) k U cs U' cs',es[i]? =some (.s k U cs)→es[j]? =some (.s k U' cs')→i=j∨rF ops=true)∧
 (∀(i j:Nat) k U cs U' cs' x,es[i]? =some (.s k U cs)→es[j]? =some (.rs k U' cs' x)→False)∧
 ∃s':Sq,s'.st.n=s.st.n∧s'.st.T=nu (fun _=>true) 0 (JA l es) s.st.T∧s'.M=nu (fun _=>true) 0 (yA l es) s.M∧K s'
 |[],s,h=>⟨[],rfl,fun i o e ho=>by simp at ho,fun i j k U cs U' cs' h=>by simp at h,fun i j k U cs U' cs' x h=>by simp at h,s,rfl,rfl,rfl,h⟩
 |o::l,s,h=>by
  obtain⟨e,hsm,hce,hn,hrs,ha,h⟩:=h
  obtain⟨es,hl,hall,hdis,hmix,s',h1,h2,h3,h4⟩:=Hp l _ h
  refine⟨e::es,by simp[hl],?_,?_,?_,s',h1.trans (XU _ _ _),?_,?_,h4⟩
  ·intro i o' e' ho he
   cases i with
   |zero=>
    simp at ho he
    subst ho he
    refine⟨?_,hce,hn,fun k U cs x he=>⟨(hrs k U cs x he).1,(hrs k U cs x he).2.1,(hrs k U cs x he).2.2.1,(hrs k U cs x he).2.2.2.2⟩,?_⟩
    ·rw[show nu (fun j=>decide (j<0)) 0 (JA (o::l) (e::es)) s.st.T=s.st.T from funext fun t=>l5 _ _ _ (fun j u _ hm=>by simp at hm),show nu (fun j=>decide (j<0)) 0 (yA (o::l) (e::es)) s.M=s.M from funext fun t=>l5 _ _ _ (fun j u _ hm=>by simp at hm)]
     exact hsm
    ·rw[show nu (fun j=>decide (j<0)) 0 (yA (o::l) (e::es)) s.M=s.M from funext fun t=>l5 _ _ _ (fun j u _ hm=>by simp at hm)]
     exact ha
   |succ i=>
    have:=hall i o' e' (by simpa using ho) (by simpa using he)
    have e1:nu (fun j=>decide (j<i+1)) 0 (JA (o::l) (e::es)) s.st.T=nu (fun j=>decide (j<i)) 0 (JA l es) (s.app o.dst e).st.T:=by
     show nu (fun j=>decide (j<i+1)) (0+1) (JA l es) (if decide (0<i+1)=true then(fun t=>(uT o.dst e t).getD (s.st.T t)) else s.st.T)=_
     rw[tI,Q0,←OI _ _ _ hce]
     simp
    have e2:nu (fun j=>decide (j<i+1)) 0 (yA (o::l) (e::es)) s.M=nu (fun j=>decide (j<i)) 0 (yA l es) (s.app o.dst e).M:=by
     show nu (fun j=>decide (j<i+1)) (0+1) (yA l es) (if decide (0<i+1)=true then(fun t=>(uB o.dst e t).getD (s.M t)) else s.M)=_
     rw[tI,O5 _ _ _ hce,←PC _ _ _ hce]
     simp
    rw[X4 _ _ _ hce,←e1,←e2] at this
    exact⟨this.1,this.2.1,fun k U cs he=>⟨(this.2.2.1 k U cs he).1,(this.2.2.1 k U cs he).2.1,(this.2.2.1 k U cs he).2.2.1.imp (K6 s o.dst e k) id,(this.2.2.1 k U cs he).2.2.2⟩,fun k U cs x he=>⟨(this.2.2.2.1 k U cs x he).1,(this.2.2.2.1 k U cs x he).2.1,K6 s o.dst e k (this.2.2.2.1 k U cs x he).2.2.1,(this.2.2.2.1 k U cs x he).2.2.2⟩,this.2.2.2.2⟩
  ·intro i j k U cs U' cs' hi hj
   have hnot: ∀(j:Nat) U' cs',es[j]? =some (.s k U' cs')→ ∀U cs,e=.s k U cs→rF ops=true:=by
    intro j U' cs' hj U cs he
    have hjl:j<l.length:=by rw[←hl];exact(j9.1 hj).1
    have h5:=(hall j l[j] _ (gE hjl) hj).2.2.1 k U' cs' rfl
    subst he
    rcases h5.2.2.1 with h6|h6
    ·exact absurd (by cases o.dst<;>exact io ..) h6
    ·exact h6
   cases i with
   |zero=>
    cases j with
    |zero=>exact .inl rfl
    |succ j=>simp at hi hj;exact .inr (hnot j U' cs' hj U cs hi)
   |succ i=>
    cases j with
    |zero=>simp at hi hj;exact .inr (hnot i U cs hi U' cs' hj)
    |succ j=>simp at hi hj;exact(hdis i j k U cs U' cs' hi hj).imp (fun e=>by rw[e]) id
  ·intro i j k U cs U' cs' x hi hj
   cases i with
   |zero=>
    simp at hi
    cases j with
    |zero=>simp at hj;rw[hi] at hj;cases hj
    |succ j=>
     simp at hj
     subst hi
     have hjl:j<l.length:=by rw[←hl];exact(j9.1 hj).1
     have h5:=(hall j l[j] _ (gE hjl) hj).2.2.2.1 k U' cs' x rfl
     exact h5.2.2.1 (by cases o.dst<;>exact io ..)
   |succ i=>
    simp at hi
    cases j with
    |zero=>
     simp at hj
     have hil:i<l.length:=by rw[←hl];exact(j9.1 hi).1
     have h5:=(hall i l[i] _ (gE hil) hi).1
     have h6:(l[i]).dst=none:=by
      rcases h5 with h5|⟨_,⟨x,hx⟩,_⟩
      ·exact h5.1
      grind
     have h7:=(hrs k U' cs' x hj).2.2.2.1
     have h8:=jV.1 h7 l[i] (wv hil)
     rw[h6] at h8;cases h8
    |succ j=>simp at hj;exact hmix i j k U cs U' cs' x hi hj
  ·rw[h2,Q0,←OI _ _ _ hce]
   show _=nu (fun _=>true) (0+1) (JA l es) (if true=true then(fun t=>(uT o.dst e t).getD (s.st.T t)) else s.st.T)
   rw[tI];simp
  ·rw[h3,O5 _ _ _ hce,←PC _ _ _ hce]
   show _=nu (fun _=>true) (0+1) (yA l es) (if true=true then(fun t=>(uB o.dst e t).getD (s.M t)) else s.M)
   rw[tI];simp
theorem CB {γ:Type}{mask:Nat→Bool}{t:Nat}: ∀(us:List (Nat→Option (Option γ))) (k:Nat) (F:Nat→Option γ),F t≠none→(∀u∈us,u t≠some none)→nu mask k us F t≠none
 |[],_,_,h,_=>h
 |u::us,k,F,h,hu=>by
  refine CB us (k+1) _ ?_ (fun u' hu'=>hu u' (jd _ hu'))
  split
  ·show(u t).getD (F t)≠none
   cases he:u t with
   |none=>exact h
   |some x=>
    cases x with
    |none=>exact absurd he (hu u (io ..))
    |some y=>simp
  ·exact h
theorem yF {P:Program}{ops:Array Oper}{Q:Exit→Act→World→Prop}{av:Nat→Prop}{w0:Ent}{K:St→Prop}: ∀(l:List Oper) (σ:St) (β:Nat→Nat) (a:Act) (w:World),
 (∀o∈l,∀t,o.dst=some t→t<σ.n)→dl P ops l σ K→Rel av w0 σ.n σ.T σ.B β a w→(∀σ' β' a' w',σ'.n=σ.n→K σ'→Rel av w0 σ'.n σ'.T σ'.B β' a' w'→Q .normal a' w')→wpList P ops Q l a w
 |[],σ,β,a,w,_,hd,hr,hq=>hq σ β a w rfl hd hr
 |o::l,σ,β,a,w,hn,hd,hr,hq=>by
  rcases hd with⟨e,hs,ha,hd⟩|⟨F,hs,hd⟩
  ·refine hr.step hs (fun t ht=>hn o (by simp) t ht) (fun _ _ _ h=>h) (fun _ _ h=>h) ha (fun β' a' w' hr'=>?_)
   refine yF l (σ.app o.dst e) β' a' w' (fun o' ho' t ht=>by rw[L1];exact hn o' (by simp[ho']) t ht) hd ?_ (fun σ' β' a' w' h1 h2 h3=>hq σ' β' a' w' (by rw[h1,L1]) h2 h3)
   rw[L1,rc,W4];exact hr'
  ·obtain⟨hw,hg⟩:=hs av w0 β a w hr (fun t ht=>hn o (by simp) t ht)
   unfold wpList
   rw[if_pos hw]
   refine .inl (hg.wp fun v w' ⟨σ',β',hF,hn',hr'⟩=>?_)
   exact yF l σ' β' _ w' (fun o' ho' t ht=>by rw[hn'];exact hn o' (by simp[ho']) t ht) (hd σ' hF) (by rw[hn'];exact hr') (fun σ'' β' a' w' h1 h2 h3=>hq σ'' β' a' w' (by rw[h1,hn']) h2 h3)
def fI (N k:Nat):Array Bool:=((List.range N).map (fun i=>Nat.blt i k)).toArray
def N2 (ops:Array Oper) (m n:Nat):Bool:=
 Nat.ble m ops.size&&
 ((List.range ops.size).all fun i=>match ops[i]? with
  |none=>false
  |some o=>(dL o).all (fun j=>Nat.blt j i)&&(match o.dst with|none=>true|some d=>Nat.blt d n))&&
 ((List.range m).all fun i=>match ops[i]? with
  |none=>false
  |some o=>(List.range m).all fun j=>Nat.beq i j||match ops[j]? with
   |none=>false
   |some p=>match p.dst with
    |none=>true
    |some d=>(match o.dst with|none=>true|some d'=> !Nat.beq d' d)&&(!(o.looksAt ops).any (Nat.beq d)||(dL o).any (Nat.beq j)||(dL p).any (Nat.beq i)))&&
 ((List.range ops.size).all fun t=>Nat.blt t m||match ops[t]? with
  |none=>false
  |some o=>(dL o).any (fun j=>Nat.ble m j)||(List.range m).all fun p=>(dL o).any (Nat.beq p)||(List.range m).any fun q=>Nat.blt p q&&match ops[q]? with
   |none=>false
   |some oq=>(dL oq).any (Nat.beq p))&&
 ((List.range ops.size).all fun k=>Nat.blt k m||(match Region.ready .any ops (fI ops.size k) with|[j]=>Nat.beq j k|_=>false))
structure Chk (ops:Array Oper) (m n:Nat):Prop where
 le:m≤ops.size
 low: ∀(i:Nat) (o:Oper) (j:Nat),ops[i]? =some o→j∈dL o→j<i
 dn: ∀(i:Nat) (o:Oper) (t:Nat),ops[i]? =some o→o.dst=some t→t<n
 dist: ∀(i j:Nat) (o p:Oper) (d:Nat),i<m→j<m→ops[i]? =some o→ops[j]? =some p→o.dst=some d→p.dst=some d→i=j
 dep: ∀(i j:Nat) (o p:Oper) (d:Nat),i<m→j<m→i≠j→ops[i]? =some o→ops[j]? =some p→p.dst=some d→d∈o.looksAt ops→j∈dL o∨i∈dL p
 tl: ∀(t:Nat) (o:Oper),m≤t→ops[t]? =some o→(∃j,j∈dL o∧m≤j)∨ ∀p,p<m→p∈dL o∨ ∃(q:Nat) (oq:Oper),p<q∧q<m∧ops[q]? =some oq∧p∈dL oq
 rdy: ∀k:Nat,m≤k→k<ops.size→Region.ready .any ops (fI ops.size k)=[k]
theorem pG {l:List Nat}{d:Nat}:l.any (Nat.beq d)=true↔d∈l:=by simp_all
theorem l9 {a b:Nat}:Nat.blt a b=true↔a<b:=by simp[Nat.blt,Nat.ble_eq,Nat.lt_iff_add_one_le]
theorem Chk.of {m:Nat}(h:N2 ops m n=true):Chk ops m n:=by
 unfold N2 at h
 simp only[di,jV,ko] at h
 obtain⟨⟨⟨⟨h1,h2⟩,h3⟩,h4⟩,h5⟩:=h
 have hlt: ∀ {i:Nat}{o:Oper},ops[i]? =some o→i<ops.size:=fun h=>(uS.1 h).1
 refine⟨Nat.le_of_ble_eq_true h1,?_,?_,?_,?_,?_,?_⟩
 ·intro i o j ho hj
  have:=h2 i (hlt ho)
  rw[ho] at this
  simp only[di,jV] at this
  exact l9.1 (this.1 j hj)
 ·intro i o t ho ht
  have:=h2 i (hlt ho)
  rw[ho] at this
  simp only[di,ht] at this
  exact l9.1 this.2
 ·intro i j o p d hi hj ho hp hd he
  have:=h3 i hi
  rw[ho] at this
  simp only[jV,ko] at this
  have:=this j hj
  rw[hp] at this
  simp only[he,hd,sY,di] at this
  rcases this with h|h
  ·exact jv h
  ·have:=h.1;rw[Nat.beq_refl] at this;cases this
 ·intro i j o p d hi hj hne ho hp hd he
  have:=h3 i hi
  rw[ho] at this
  simp only[jV,ko] at this
  have:=this j hj
  rw[hp] at this
  simp only[hd,sY,di] at this
  rcases this with h|h
  ·exact absurd (jv h) hne
  ·rcases h.2 with(h|h)|h
   ·rw[pG.2 he] at h;cases h
   ·exact .inl (pG.1 h)
   ·exact .inr (pG.1 h)
 ·intro t o ht ho
  have:=h4 t (hlt ho)
  rw[ho] at this
  simp only[sY,jV,List.any_eq_true,ko,di] at this
  rcases this with h|h|h
  ·have:=l9.1 h;omega
  ·obtain⟨j,hj,h⟩:=h;exact .inl ⟨j,hj,gj h⟩
  ·refine .inr fun p hp=>?_
   rcases h p hp with h|⟨q,hq,h,h'⟩
   ·obtain⟨x,hx,hb⟩:=h;rw[jv hb];exact .inl hx
   ·cases ho':ops[q]? with
    |none=>rw[ho'] at h';cases h'
    |some oq=>
     rw[ho'] at h'
     exact .inr ⟨q,oq,l9.1 h,hq,ho',pG.1 h'⟩
 ·intro k hk hks
  have:=h5 k hks
  simp only[sY] at this
  rcases this with h|h
  ·have:=l9.1 h;omega
  ·generalize Region.ready .any ops (fI ops.size k)=r at h
   match r,h with
   |[j],h=>rw[jv h]
theorem Fx (N k i:Nat) (d:Bool) (hi:i<N):(fI N k).getD i d=Nat.blt i k:=by
 unfold fI
 simp[hi]
theorem Gb {N k:Nat}(_h:k<N):(fI N k).setIfInBounds k true=fI N (k+1):=by
 apply Array.ext (by simp[fI])
 intro i h1 h2
 simp[fI] at h1 h2⊢
 rw[List.getElem_set]
 split
 ·simp_all
 ·simp only[List.getElem_map,List.getElem_range]
  rw[Bool.eq_iff_iff,l9,l9];omega
theorem Jp {e:Edge}(h:e∈o.after) (hb:Region.binds .any e=true):e.on∈dL o:=
 pp.2 ⟨e,mG.2 ⟨Array.mem_toList_iff.2 h,hb⟩,rfl⟩
theorem nZ (h:j∈dL o): ∃e∈o.after,Region.binds .any e=true∧e.on=j:=by
 obtain⟨e,he,h⟩:=pp.1 h
 grind
section
variable {P:Program}{ops:Array Oper}{Q:Exit→Act→World→Prop}{av:Nat→Prop}{w0:Ent}{m n:Nat}
theorem DU (hc:Chk ops m n) {K:St→Prop}(hQ: ∀σ' β a w,σ'.n=n→K σ'→Rel av w0 n σ'.T σ'.B β a w→Q .normal a w): ∀(l:List Oper) (k:Nat) (σ:St) (fuel:Nat) (β:Nat→Nat) (a:Act) (w:World),
 m≤k→(∀j:Nat,l[j]? =ops[k+j]?)→k+l.length=ops.size→σ.n=n→dl P ops l σ K→Rel av w0 n σ.T σ.B β a w→l.length≤fuel→wpAny P .any ops Q fuel (fI ops.size k) a w
 |[],k,σ,fuel,β,a,w,_,_,hk,hn,hd,hr,_=>by
  refine wpAny_done ?_ (hQ σ β a w hn hd hr) fuel
  refine List.eq_nil_iff_forall_not_mem.2 fun j hj=>?_
  obtain⟨h0,o,ho,_⟩:=mem_ready.1 hj
  have hjs:=(uS.1 ho).1
  rw[Fx _ _ _ _ hjs] at h0
  have:Nat.blt j k=true:=l9.2 (by simp at hk;omega)
  rw[this] at h0;cases h0
 |o::l,k,σ,0,β,a,w,_,_,_,_,_,_,hf=>by simp at hf
 |o::l,k,σ,fuel+1,β,a,w,hmk,hl,hk,hn,hd,hr,hf=>by
  have ho:ops[k]? =some o:=by have:=hl 0;simpa using this.symm
  have hks:k<ops.size:=(uS.1 ho).1
  refine wpAny_all (hc.rdy k hmk hks) (by simp) ?_
  intro i hi
  obtain rfl:i=k:=by simpa using hi
  rw[Gb hks]
  unfold wpOp
  rw[ho]
  rcases hd with⟨e,hs,ha,hd⟩|⟨F,hs,hd⟩
  ·refine hr.step hs (fun t ht=>hc.dn i o t ho ht) (fun _ _ _ h=>h) (fun _ _ h=>h) ha (fun β' a' w' hr'=>?_)
   refine DU hc hQ l (i+1) (σ.app o.dst e) fuel β' a' w' (by omega) (fun j=>by have:=hl (j+1);rw[show i+1+j=i+(j+1) from by omega];simpa using this) (by simp at hk;omega) (by rw[L1];exact hn) hd ?_ (by simpa using hf)
   rw[rc,W4];exact hr'
  ·obtain⟨hw,hg⟩:=hs av w0 β a w (by rw[hn];exact hr) (fun t ht=>by rw[hn];exact hc.dn i o t ho ht)
   refine(if_pos hw).mpr (.inl (hg.wp fun v w' ⟨σ',β',hF,hn',hr'⟩=>?_))
   exact DU hc hQ l (i+1) σ' fuel β' _ w' (by omega) (fun j=>by have:=hl (j+1);rw[show i+1+j=i+(j+1) from by omega];simpa using this) (by simp at hk;omega) (by rw[hn',hn]) (hd σ' hF) (by rw[←hn];exact hr') (by simpa using hf)
def Xy (listed:Array Bool):Nat:=listed.toList.countP (fun b=> !b)
theorem MA (hi:i<listed.size) (h:listed.getD i true=false):Xy (listed.setIfInBounds i true)+1=Xy listed:=by
 have h0:listed.toList[i]? =some false:=by simp_all
 unfold Xy
 grind
theorem Mt (hi:i<listed.size) (h:listed.getD i true=false):1≤Xy listed:=by
 have:=MA hi h;omega
theorem BT (hi:i<listed.size) (d d':Bool):listed.getD i d=listed.getD i d':=by simp[Array.getD,hi]
theorem rb {γ:Type}(f:Oper→Eff→γ) {l:List Oper}{u:γ}(h:(List.zipWith f l es)[j]? =some u): ∃o e,l[j]? =some o∧es[j]? =some e∧u=f o e:=by grind
theorem HD (hch:tL ops=true) (hij:i<j) (ho:ops[i]? =some o) (hp:ops[j]? =some p) (hco:jw o=true) (hcp:jw p=true):
 i∈dL p∨ ∃(q:Nat) (oq:Oper),i<q∧q<j∧ops[q]? =some oq∧jw oq=true∧q∈dL p:=by
 have h1:=jV.1 hch j (ko.2 (uS.1 hp).1)
 rw[hp] at h1
 dsimp only at h1
 rw[hcp] at h1
 have h2:=jV.1 h1 i (ko.2 hij)
 rw[ho] at h2
 simp only[sY] at h2
 rcases h2 with h2|h2
 ·simp_all
 ·obtain⟨q,hq,h3⟩:=List.any_eq_true.1 h2
  simp only[di] at h3
  obtain⟨h3,h4⟩:=h3
  cases hoq:ops[q]? with
  |none=>rw[hoq] at h4;cases h4
  |some oq=>
   rw[hoq] at h4
   simp only[di] at h4
   exact .inr ⟨q,oq,l9.1 h3,ko.1 hq,hoq,h4.1,pG.1 h4.2⟩
theorem yu (hch:tL ops=true) {listed:Array Bool}(hcl: ∀i o j,listed.getD i false=true→ops[i]? =some o→j∈dL o→listed.getD j false=true):
 ∀(d j i:Nat) (o p:Oper),j≤d→i<j→ops[i]? =some o→ops[j]? =some p→jw o=true→jw p=true→listed.getD j false=true→listed.getD i false=true
 |0,j,i,o,p,hd,hij,_,_,_,_,_=>by omega
 |d+1,j,i,o,p,hd,hij,ho,hp,hco,hcp,hj=>by
  rcases HD hch hij ho hp hco hcp with h|⟨q,oq,h1,h2,h3,h4,h5⟩
  ·exact hcl j p i hj hp h
  ·exact yu hch hcl d q i o oq (by omega) h1 ho h3 hco h4 (hcl j p q hj hp h5)
theorem N8 (hch:tL ops=true) (hcl: ∀i o j,listed.getD i false=true→ops[i]? =some o→j∈dL o→listed.getD j false=true)
 {j i:Nat}{o p:Oper}(hij:i<j) (ho:ops[i]? =some o) (hp:ops[j]? =some p) (hco:jw o=true) (hcp:jw p=true) (hae: ∀q,q∈dL p→listed.getD q false=true):listed.getD i false=true:=by
 rcases HD hch hij ho hp hco hcp with h|⟨q,oq,h1,h2,h3,h4,h5⟩
 ·grind
 ·exact yu hch hcl q q i o oq (ck _) h1 ho h3 hco h4 (hae q h5)
theorem TA (hc:Chk ops m n) {T0:TF}{B0 M0:BF}(hM: ∀k c,B0 k=some c→M0 k=some c) (hes:es.length=m)
 (hdis: ∀(i j:Nat) k U cs U' cs',es[i]? =some (.s k U cs)→es[j]? =some (.s k U' cs')→i=j∨rF ops=true)
 (hmix: ∀(i j:Nat) k U cs U' cs' x,es[i]? =some (.s k U cs)→es[j]? =some (.rs k U' cs' x)→False)
 (hall: ∀(i:Nat) (o:Oper) (e:Eff),(ops.toList.take m)[i]? =some o→es[i]? =some e→ZP P ops hs o (nu (fun j=>decide (j<i)) 0 (JA (ops.toList.take m) es) T0) B0 (nu (fun j=>decide (j<i)) 0 (yA (ops.toList.take m) es) M0) e∧(∀k x,e≠ .c k x)∧(∀k U cs,e=.s k U cs→hs.any (Nat.beq k)=true∧(B0 k≠none∨k∈o.looksAt ops)∧(k∉sd∨rF ops=true)∧BC o=true)∧
  (∀k U cs x,e=.rs k U cs x→hs.any (Nat.beq k)=true∧B0 k≠none∧k∉sd∧jw o=true∧tL ops=true∧hs.any (Nat.beq 999999)=false)∧
  (∀U cs sl,e=.a U cs sl→ ∃d,o.dst=some d∧nu (fun j=>decide (j<i)) 0 (yA (ops.toList.take m) es) M0 d=none))
 (hQ: ∀β a w fuel,ops.size-m≤fuel→Rel av w0 n (nu (fun _=>true) 0 (JA (ops.toList.take m) es) T0) (nu (fun _=>true) 0 (yA (ops.toList.take m) es) M0) β a w→wpAny P .any ops Q fuel (fI ops.size m) a w):
 ∀(fuel:Nat) (listed:Array Bool) (β:Nat→Nat) (a:Act) (w:World),listed.size=ops.size→Xy listed≤fuel→
  (∀i o j,listed.getD i false=true→ops[i]? =some o→j∈dL o→listed.getD j false=true)→(∀t,m≤t→listed.getD t false=false)→
  Rel av w0 n (nu (fun j=>listed.getD j false) 0 (JA (ops.toList.take m) es) T0) (nu (fun j=>listed.getD j false) 0 (yA (ops.toList.take m) es) M0) β a w→wpAny P .any ops Q fuel listed a w:=by
 have hpre: ∀ {i:Nat}{o:Oper},i<m→ops[i]? =some o→(ops.toList.take m)[i]? =some o:=by
  intro i o hi ho
  rw[tH,if_pos hi,vE];exact ho
 have hpre': ∀ {i:Nat}{o:Oper},(ops.toList.take m)[i]? =some o→i<m∧ops[i]? =some o:=by
  intro i o h
  rw[tH] at h
  split at h
  ·rename_i hi;rw[vE] at h;exact⟨hi,h⟩
  ·cases h
 have hbs: ∀(t:Nat),∀u∈yA (ops.toList.take m) es,u t≠some none:=by
  intro t u hu
  obtain⟨j,hj⟩:=List.getElem?_of_mem hu
  obtain⟨o,e,_,_,rfl⟩:=rb _ hj
  exact Vs _ _ _
 have hsM0: ∀(d j:Nat) k U cs,j<d→es[j]? =some (.s k U cs)→M0 k≠none∨ ∃j0 o0 U0 cs0 sl0,j0<m∧ops[j0]? =some o0∧es[j0]? =some (.a U0 cs0 sl0)∧o0.dst=some k∧ ∀oj,ops[j]? =some oj→j0∈dL oj:=by
  intro d
  induction d with
  |zero=>intro j k U cs h0;omega
  |succ d ihd=>
  intro j k U cs hjd hj
  have hjm:j<m:=by rw[←hes];exact(j9.1 hj).1
  have hjs:j<ops.size:=oO hjm hc.le
  obtain⟨hsem,_,hh,_⟩:=hall j ops[j] _ (hpre hjm (Cz hjs)) hj
  obtain⟨_,⟨cs0,hb⟩,_⟩:=hsem.resolve_right (by rintro⟨_,⟨x,hx⟩,_⟩;cases hx)
  have hb:(bif Nat.beq k k then nu (fun j'=>decide (j'<j)) 0 (yA (ops.toList.take m) es) M0 k else hid hs B0 k)=some (U,cs0):=hb
  rw[Nat.beq_refl] at hb
  have hb:nu (fun j'=>decide (j'<j)) 0 (yA (ops.toList.take m) es) M0 k=some (U,cs0):=hb
  by_cases hM0:M0 k=none
  ·refine .inr ?_
   apply fe
   intro hno
   rw[l5 _ _ _ ?_,hM0] at hb
   ·cases hb
   ·intro j0 u hj0 hm0
    apply fe
    intro hu
    apply hno
    obtain⟨o0,e0,h1,h2,rfl⟩:=rb _ hj0
    have hlt:j0<j:=by simpa using hm0
    rcases RR hu with⟨U0,cs0,sl0,rfl,hd⟩|⟨U0,cs0,rfl⟩|⟨U0,cs0,x0,rfl⟩
    ·refine⟨j0,o0,U0,cs0,sl0,(hpre' h1).1,(hpre' h1).2,h2,hd,fun oj hoj=>?_⟩
     have e3:ops[j]? =some ops[j]:=Cz hjs
     rw[e3] at hoj;injection hoj with hoj
     rcases(hh k U cs rfl).2.1 with h3|h3
     ·exfalso
      cases hB:B0 k with
      |none=>exact h3 hB
      |some c=>rw[hM k c hB] at hM0;cases hM0
     ·rcases hc.dep j j0 ops[j] o0 k hjm (hpre' h1).1 (by omega) e3 (hpre' h1).2 hd h3 with h4|h4
      ·rw[←hoj];exact h4
      ·have:=hc.low j0 o0 j (hpre' h1).2 h4;omega
    ·rcases ihd j0 k U0 cs0 (by omega) h2 with h7|⟨j1,o1,U1,cs1,sl1,g1,g2,g3,g4,g5⟩
     ·exact absurd hM0 h7
     ·refine⟨j1,o1,U1,cs1,sl1,g1,g2,g3,g4,fun oj hoj=>?_⟩
      have e3:ops[j]? =some ops[j]:=Cz hjs
      rw[e3] at hoj;injection hoj with hoj
      have hj10:=hc.low j0 o0 j1 (hpre' h1).2 (g5 o0 (hpre' h1).2)
      rcases(hh k U cs rfl).2.1 with h3|h3
      ·exfalso
       cases hB:B0 k with
       |none=>exact h3 hB
       |some c=>rw[hM k c hB] at hM0;cases hM0
      ·rcases hc.dep j j1 ops[j] o1 k hjm g1 (by omega) e3 g2 g4 h3 with h4|h4
       ·rw[←hoj];exact h4
       ·have:=hc.low j1 o1 j g2 h4;omega
    ·exact(hmix j j0 k U cs U0 cs0 x0 hj h2).elim
  ·exact .inl hM0
 have hsM: ∀(j:Nat) k U cs,es[j]? =some (.s k U cs)→M0 k≠none∨ ∃j0 o0 U0 cs0 sl0,j0<m∧ops[j0]? =some o0∧es[j0]? =some (.a U0 cs0 sl0)∧o0.dst=some k∧ ∀oj,ops[j]? =some oj→j0∈dL oj:=
  fun j k U cs h=>hsM0 (j+1) j k U cs (by omega) h
 have hlen:(ops.toList.take m).length=m:=by have:=hc.le;rw[gX,Array.length_toList];omega
 intro fuel
 induction fuel with
 |zero=>
  intro listed β a w hsz hu hcl hp hr
  have hm:m=ops.size:=by
   rcases jY m ops.size with h|h
   ·have:=Mt (listed:=listed) (i:=m) (by omega) (by rw[BT (by omega) true false];exact hp m (ck _));omega
   ·exact Nat.le_antisymm hc.le h
  have hl: ∀i,i<m→listed.getD i false=true:=fun i hi=>by
   cases h:listed.getD i false with
   |true=>rfl
   |false=>have:=Mt (listed:=listed) (i:=i) (by omega) (by rw[BT (by omega) true false];exact h);omega
  have e:listed=fI ops.size m:=by
   apply Array.ext (by simp[fI,hsz])
   intro i h1 h2
   have h3:=hl i (by omega)
   simp[Array.getD,h1] at h3
   rw[h3];simp[fI];omega
  rw[e]
  refine hQ β a w 0 (by omega) (hr.congr (fun t=>jA _ _ _ _ rfl ?_) (fun t=>jA _ _ _ _ rfl ?_))
  ·intro j u hj _
   obtain⟨o,e,h1,_,_⟩:=rb _ hj
   rw[iV];exact(hl j (hpre' h1).1).symm
  ·intro j u hj _
   obtain⟨o,e,h1,_,_⟩:=rb _ hj
   rw[iV];exact(hl j (hpre' h1).1).symm
 |succ fuel ih=>
  intro listed β a w hsz hu hcl hp hr
  by_cases hl: ∀i,i<m→listed.getD i false=true
  ·have e:listed=fI ops.size m:=by
    apply Array.ext (by simp[fI,hsz])
    intro i h1 h2
    by_cases him:i<m
    ·have h3:=hl i him
     simp[Array.getD,h1] at h3
     rw[h3];simp[fI,him]
    ·have h3:=hp i (by omega)
     simp[Array.getD,h1] at h3
     rw[h3];simp[fI]
     cases hb:Nat.blt i m with
     |false=>rfl
     |true=>have:=l9.1 hb;omega
   have hun:ops.size-m≤Xy listed:=by
    rw[e]
    unfold Xy fI
    have:(List.map (fun i=>Nat.blt i m) (List.range ops.size))=List.replicate m true++List.replicate (ops.size-m) false:=by
     apply yN (by simp;have:=hc.le;omega)
     intro i h1 h2
     simp at h1
     by_cases him:i<m
     ·rw[List.getElem_append_left (by simpa using him)];simp[him]
     ·rw[List.getElem_append_right (by simpa using him)]
      simp
      cases hb:Nat.blt i m with
      |false=>rfl
      |true=>have:=l9.1 hb;omega
    simp[this,List.countP_append,List.countP_replicate]
   rw[e]
   refine hQ β a w (fuel+1) (by omega) (hr.congr (fun t=>jA _ _ _ _ rfl ?_) (fun t=>jA _ _ _ _ rfl ?_))
   ·intro j u hj _
    obtain⟨o,e,h1,_,_⟩:=rb _ hj
    rw[iV];exact(hl j (hpre' h1).1).symm
   ·intro j u hj _
    obtain⟨o,e,h1,_,_⟩:=rb _ hj
    rw[iV];exact(hl j (hpre' h1).1).symm
  ·refine⟨fun h0=>?_,fun i hi=>?_⟩
   ·--something may come up:the least that is not listed
    exfalso
    have hex: ∃p,p<m∧listed.getD p false=false∧ ∀q,q<p→listed.getD q false=true:=by
     have key: ∀d p,p≤d→p<m→listed.getD p false=false→ ∃p,p<m∧listed.getD p false=false∧ ∀q,q<p→listed.getD q false=true:=by
      intro d
      induction d with
      |zero=>
       intro p hd hpm hpf
       exact⟨p,hpm,hpf,fun q hq=>by omega⟩
      |succ d ih2=>
       intro p hd hpm hpf
       by_cases hq: ∀q,q<p→listed.getD q false=true
       ·exact⟨p,hpm,hpf,hq⟩
       ·obtain⟨q,hq⟩:=Classical.not_forall.1 hq
        obtain⟨hqp,hq⟩:=Classical.not_imp.1 hq
        exact ih2 q (by omega) (by omega) (by simpa using hq)
     obtain⟨p,hp'⟩:=Classical.not_forall.1 hl
     obtain⟨hpm,hp'⟩:=Classical.not_imp.1 hp'
     exact key p p (ck _) hpm (by simpa using hp')
    obtain⟨p,hpm,hpf,hq⟩:=hex
    have hps:p<ops.size:=by have:=hc.le;omega
    have hin:p∈Region.ready .any ops listed:=mem_ready.2 ⟨by rw[BT (by omega) true false];exact hpf,ops[p],Cz hps,fun e he hb=>
     hq e.on (hc.low p _ e.on (Cz hps) (Jp he hb))⟩
    rw[h0] at hin;cases hin
   ·obtain⟨hif,o,ho,hae⟩:=mem_ready.1 hi
    have his:i<ops.size:=(uS.1 ho).1
    have hif':listed.getD i false=false:=by rw[BT (by omega) false true];exact hif
    have him:i<m:=by
     rcases jY i m with h|h
     ·exact h
     ·exfalso
      rcases hc.tl i o h ho with⟨j,hj,hmj⟩|hcov
      ·obtain⟨e,he,hb,rfl⟩:=nZ hj
       have:=hae e he hb
       rw[hp _ hmj] at this;cases this
      ·apply hl
       have key: ∀d p,m-p≤d→p<m→listed.getD p false=true:=by
        intro d
        induction d with
        |zero=>intro p hd hpm;omega
        |succ d ih2=>
         intro p hd hpm
         rcases hcov p hpm with hb|⟨q,oq,hpq,hqm,hoq,hb⟩
         ·obtain⟨e,he,hb2,e2⟩:=nZ hb
          rw[←e2];exact hae e he hb2
         ·exact hcl q oq p (ih2 q (by omega) hqm) hoq hb
       exact fun p hpm=>key (m-p) p (ck _) hpm
    obtain⟨e,he⟩: ∃e,es[i]? =some e:=⟨es[i]'(by omega),gE (by omega)⟩
    obtain⟨hsm,hce,hns,hrsi,hfr⟩:=hall i o e (hpre him ho) he
    have hwr: ∀(t j:Nat) u,(JA (ops.toList.take m) es)[j]? =some u→u t≠none→ ∃oj ej,j<m∧ops[j]? =some oj∧es[j]? =some ej∧oj.dst=some t∧u=uT oj.dst ej:=by
     intro t j u hj hu
     obtain⟨oj,ej,h1,h2,rfl⟩:=rb _ hj
     refine⟨oj,ej,(hpre' h1).1,(hpre' h1).2,h2,?_,rfl⟩
     unfold uT at hu
     split at hu
     ·assumption
     ·exact absurd rfl hu
    have hwb: ∀(t j:Nat) u,(yA (ops.toList.take m) es)[j]? =some u→u t≠none→ ∃oj ej,j<m∧ops[j]? =some oj∧es[j]? =some ej∧((∃U cs sl,ej=.a U cs sl∧oj.dst=some t∧M0 t=none)∨(∃U cs,ej=.s t U cs)∨ ∃U cs x,ej=.rs t U cs x)∧u=uB oj.dst ej:=by
     intro t j u hj hu
     obtain⟨oj,ej,h1,h2,rfl⟩:=rb _ hj
     refine⟨oj,ej,(hpre' h1).1,(hpre' h1).2,h2,?_,rfl⟩
     rcases RR hu with⟨U,cs,sl,rfl,hd⟩|⟨U,cs,rfl⟩|⟨U,cs,x,rfl⟩
     ·refine .inl ⟨U,cs,sl,rfl,hd,?_⟩
      obtain⟨d,hd',hnone⟩:=(hall j oj _ h1 h2).2.2.2.2 U cs sl rfl
      have:d=t:=by rw[hd] at hd';injection hd' with e;exact e.symm
      subst this
      cases hM0:M0 d with
      |none=>rfl
      |some c=>exact absurd hnone (CB _ _ _ (by rw[hM0];simp) (hbs d))
     ·exact .inr (.inl ⟨U,cs,rfl⟩)
     ·exact .inr (.inr ⟨U,cs,x,rfl⟩)
    have hub: ∀(t j j':Nat) u u',(yA (ops.toList.take m) es)[j]? =some u→(yA (ops.toList.take m) es)[j']? =some u'→u t≠none→u' t≠none→j=j'∨(∀o',ops[j']? =some o'→j∈dL o')∨(∀o',ops[j]? =some o'→j'∈dL o')∨(tL ops=true∧(∀o',ops[j]? =some o'→jw o'=true)∧ ∀o',ops[j']? =some o'→jw o'=true):=by
     intro t j j' u u' hj hj' hu hu'
     obtain⟨oj,ej,hjm,hoj,hej,hk,_⟩:=hwb t j u hj hu
     obtain⟨oj',ej',hjm',hoj',hej',hk',_⟩:=hwb t j' u' hj' hu'
     have hrn: ∀(j:Nat) oj (U:TypeId) cs x,j<m→ops[j]? =some oj→es[j]? =some (.rs t U cs x)→M0 t≠none∧jw oj=true∧tL ops=true:=by
      intro j oj U cs x hjm hoj hej
      obtain⟨_,h2,_,h4,h5,_⟩:=(hall j oj _ (hpre hjm hoj) hej).2.2.2.1 t U cs x rfl
      refine⟨fun h=>?_,h4,h5⟩
      cases hB:B0 t with
      |none=>exact h2 hB
      |some c=>rw[hM t c hB] at h;cases h
     rcases hk with⟨U,cs,sl,rfl,hd,hn⟩|⟨U,cs,rfl⟩|⟨U,cs,x,rfl⟩<;>rcases hk' with⟨U',cs',sl',rfl,hd',hn'⟩|⟨U',cs',rfl⟩|⟨U',cs',x',rfl⟩
     ·exact .inl (hc.dist j j' oj oj' t hjm hjm' hoj hoj' hd hd')
     ·rcases hsM j' t U' cs' hej' with h|⟨j0,o0,U0,cs0,sl0,h1,h2,h3,h4,h5⟩
      ·exact absurd hn h
      ·rw[hc.dist j j0 oj o0 t hjm h1 hoj h2 hd h4];exact .inr (.inl h5)
     ·exact absurd hn (hrn j' oj' U' cs' x' hjm' hoj' hej').1
     ·rcases hsM j t U cs hej with h|⟨j0,o0,U0,cs0,sl0,h1,h2,h3,h4,h5⟩
      ·exact absurd hn' h
      ·rw[hc.dist j' j0 oj' o0 t hjm' h1 hoj' h2 hd' h4];exact .inr (.inr (.inl h5))
     ·rcases hdis j j' t U cs U' cs' hej hej' with h|h
      ·exact .inl h
      ·have s1:=((hall j oj _ (hpre hjm hoj) hej).2.2.1 t U cs rfl).2.2.2
       have s2:=((hall j' oj' _ (hpre hjm' hoj') hej').2.2.1 t U' cs' rfl).2.2.2
       rcases Nat.lt_trichotomy j j' with hlt|heq|hlt
       ·refine .inr (.inl fun o' h'=>?_)
        rw[hoj'] at h';injection h' with h';subst h';exact Dx h hlt hoj hoj' s1 s2
       ·exact .inl heq
       ·refine .inr (.inr (.inl fun o' h'=>?_))
        rw[hoj] at h';injection h' with h';subst h';exact Dx h hlt hoj' hoj s2 s1
     ·exact(hmix j j' t U cs U' cs' x' hej hej').elim
     ·exact absurd hn' (hrn j oj U cs x hjm hoj hej).1
     ·exact(hmix j' j t U' cs' U cs x hej' hej).elim
     ·refine .inr (.inr (.inr ⟨(hrn j oj U cs x hjm hoj hej).2.2,fun o' h=>?_,fun o' h=>?_⟩))
      ·rw[hoj] at h;injection h with h;subst h;exact(hrn j oj U cs x hjm hoj hej).2.1
      ·rw[hoj'] at h;injection h with h;subst h;exact(hrn j' oj' U' cs' x' hjm' hoj' hej').2.1
    have hi2:(yA (ops.toList.take m) es)[i]? =some (uB o.dst e):=by
     unfold yA
     rw[List.getElem?_zipWith,hpre him ho,he]
    have hrel: ∀(t j:Nat) u,(yA (ops.toList.take m) es)[j]? =some u→u t≠none→uB o.dst e t≠none→listed.getD j false=decide (j<i):=by
     intro t j u hj hu hi
     obtain⟨oj,ej,hjm,hoj,hej,_,_⟩:=hwb t j u hj hu
     rcases hub t j i u _ hj hi2 hu hi with h|h|h|⟨hch,hcj,hci⟩
     ·subst h;rw[hif'];simp
     ·have h1:=h o ho
      have h2:=hc.low i o j ho h1
      obtain⟨e',he',hb',rfl⟩:=nZ h1
      rw[hae e' he' hb'];simpa using h2
     ·have h1:=h oj hoj
      have h2:=hc.low j oj i hoj h1
      have h3:listed.getD j false=false:=by
       cases hlj:listed.getD j false with
       |false=>rfl
       |true=>have:=hcl j oj i hlj hoj h1;rw[hif'] at this;cases this
      rw[h3];simp;omega
     ·by_cases hji:j=i
      ·subst hji;rw[hif'];simp
      ·rcases Nat.lt_or_gt_of_ne hji with hlt|hlt
       ·rw[N8 hch hcl hlt hoj ho (hcj oj hoj) (hci o ho) (fun q hq=>by
         obtain⟨e',he',hb',rfl⟩:=nZ hq
         exact hae e' he' hb')]
        simpa using hlt
       ·have h3:listed.getD j false=false:=by
         cases hlj:listed.getD j false with
         |false=>rfl
         |true=>have:=yu hch hcl j j i o oj (ck _) hlt ho hoj (hci o ho) (hcj oj hoj) hlj;rw[hif'] at this;cases this
        rw[h3];simp;omega
    have hmi: ∀j,(listed.setIfInBounds i true).getD j false=if j=i then true else listed.getD j false:=by
     intro j
     by_cases hji:j=i
     ·subst hji;simp[Array.getD,hsz,his]
     ·rw[if_neg hji,getD_set_ne false (fun e=>hji e.symm)]
    unfold wpOp
    rw[ho]
    have hsm2: ∃Bs:BF,Sem P ops o (nu (fun j=>decide (j<i)) 0 (JA (ops.toList.take m) es) T0) Bs e∧ ∀k c,Bs k=some c→nu (fun j=>listed.getD j false) 0 (yA (ops.toList.take m) es) M0 k=some c:=by
     rcases hsm with hsm|⟨hvis,_,hsm⟩
     rotate_left
     ·refine⟨_,hsm,fun k c hB=>?_⟩
      rw[←hM k c hB]
      refine l5 _ _ _ fun j u hj hm=>?_
      apply fe
      intro hu
      rw[iV] at hm
      obtain⟨oj,ej,hjm,hoj,hej,hk2,_⟩:=hwb k j u hj hu
      have hno:J9 hs oj=true→False:=fun hw=>by
       have:=hcl j oj i hm hoj (Zb hvis ho hoj hw)
       rw[hif'] at this;cases this
      rcases hk2 with⟨U,cs,sl,rfl,hd,hn⟩|⟨U,cs,rfl⟩|⟨U,cs,x,rfl⟩
      ·rw[hM k c hB] at hn;cases hn
      ·exact hno (V1 ((hall j oj _ (hpre hjm hoj) hej).2.2.1 k U cs rfl).2.2.2)
      ·exact hno (M6 ((hall j oj _ (hpre hjm hoj) hej).2.2.2.1 k U cs x rfl).2.2.2.1 ((hall j oj _ (hpre hjm hoj) hej).2.2.2.1 k U cs x rfl).2.2.2.2.2)
     refine⟨_,hsm,?_⟩
     intro k c hk
     have hplain:hid hs B0 k=some c→nu (fun j=>listed.getD j false) 0 (yA (ops.toList.take m) es) M0 k=some c:=by
      intro hk
      unfold hid at hk
      cases hb:hs.any (Nat.beq k) with
      |true=>rw[hb] at hk;cases hk
      |false=>
       rw[hb] at hk
       have hB:B0 k=some c:=hk
       rw[←hM k c hB]
       refine l5 _ _ _ fun j u hj hm=>?_
       apply fe
       intro hu
       obtain⟨oj,ej,hjm,hoj,hej,hk2,_⟩:=hwb k j u hj hu
       rcases hk2 with⟨U,cs,sl,rfl,hd,hn⟩|⟨U,cs,rfl⟩|⟨U,cs,x,rfl⟩
       ·rw[hM k c hB] at hn;cases hn
       ·have:=((hall j oj _ (hpre hjm hoj) hej).2.2.1 k U cs rfl).1
        rw[hb] at this;cases this
       ·have:=((hall j oj _ (hpre hjm hoj) hej).2.2.2.1 k U cs x rfl).1
        rw[hb] at this;cases this
     cases e with
     |s k' U cs=>
      replace hk:(bif Nat.beq k k' then nu (fun j=>decide (j<i)) 0 (yA (ops.toList.take m) es) M0 k else hid hs B0 k)=some c:=hk
      cases hb:Nat.beq k k' with
      |false=>rw[hb] at hk;exact hplain hk
      |true=>
       rw[hb] at hk
       have hkk:=jv hb
       subst hkk
       replace hk:nu (fun j=>decide (j<i)) 0 (yA (ops.toList.take m) es) M0 k=some c:=hk
       rw[←hk]
       refine jA _ _ _ _ rfl fun j u hj hu=>?_
       rw[iV]
       exact hrel k j u hj hu (by unfold uB;simp)
     |rs k' U cs x=>
      replace hk:(bif Nat.beq k k' then nu (fun j=>decide (j<i)) 0 (yA (ops.toList.take m) es) M0 k else hid hs B0 k)=some c:=hk
      cases hb:Nat.beq k k' with
      |false=>rw[hb] at hk;exact hplain hk
      |true=>
       rw[hb] at hk
       have hkk:=jv hb
       subst hkk
       replace hk:nu (fun j=>decide (j<i)) 0 (yA (ops.toList.take m) es) M0 k=some c:=hk
       rw[←hk]
       refine jA _ _ _ _ rfl fun j u hj hu=>?_
       rw[iV]
       exact hrel k j u hj hu (by unfold uB;simp)
     |r x=>exact hplain hk
     |a U cs sl=>exact hplain hk
     |c k x=>exact hplain hk
     |skip=>exact hplain hk
    obtain⟨Bs,hsm3,hBs⟩:=hsm2
    refine hr.step hsm3 (fun t ht=>hc.dn i o t ho ht) ?_ hBs ?_ (fun β' a' w' hr'=>?_)
    ·intro t x hlk hx
     rw[←hx]
     refine(jA _ _ _ _ rfl fun j u hj hu=>?_)
     obtain⟨oj,ej,hjm,hoj,_,hdj,_⟩:=hwr t j u hj hu
     rw[iV]
     by_cases hji:j=i
     ·subst hji;rw[hif'];simp
     ·rcases hc.dep i j o oj t him hjm (fun e=>hji e.symm) ho hoj hdj hlk with hb|hb
      ·have hji2:=hc.low i o j ho hb
       obtain⟨e',he',hb',rfl⟩:=nZ hb
       rw[hae e' he' hb'];simpa using hji2
      ·have hji2:=hc.low j oj i hoj hb
       have h1:listed.getD j false=false:=by
        cases hlj:listed.getD j false with
        |false=>rfl
        |true=>have:=hcl j oj i hlj hoj hb;rw[hif'] at this;cases this
       rw[h1];simp;omega
    ·intro U cs sl hE
     obtain⟨d,hd,hnone⟩:=hfr U cs sl hE
     refine⟨d,hd,?_⟩
     rw[←hnone]
     refine jA _ _ _ _ rfl fun j u hj hu=>?_
     rw[iV]
     exact hrel d j u hj hu (by rw[hE];unfold uB;dsimp only;rw[if_pos hd];simp)
    ·refine ih (listed.setIfInBounds i true) β' a' w' (by simpa using hsz) (by have:=MA (listed:=listed) (i:=i) (by omega) hif;omega) ?_ ?_ ?_
     ·intro i' o' j' h1 h2 h3
      rw[hmi] at h1⊢
      by_cases hji:j'=i
      ·rw[if_pos hji]
      ·rw[if_neg hji]
       by_cases hii:i'=i
       ·subst hii
        rw[ho] at h2
        injection h2 with h2
        subst h2
        obtain⟨e',he',hb',rfl⟩:=nZ h3
        exact hae e' he' hb'
       ·rw[if_neg hii] at h1
        exact hcl i' o' j' h1 h2 h3
     ·intro t ht
      rw[hmi,if_neg (by omega)]
      exact hp t ht
     ·refine hr'.congr (fun t=>?_) (fun k=>?_)
      ·rw[show e.tf o.dst (nu (fun j=>listed.getD j false) 0 (JA (ops.toList.take m) es) T0) t=(uT o.dst e t).getD (nu (fun j=>listed.getD j false) 0 (JA (ops.toList.take m) es) T0 t) from(congrFun (OI o.dst e _ hce) t).symm]
       by_cases hdt:o.dst=some t
       ·rw[show uT o.dst e t=some (some (ent t e)) from by unfold uT;rw[if_pos hdt]]
        show _=some (ent t e)
        refine Ml (u:=uT o.dst e) _ _ _ i ?_ ?_ ?_ ?_
        ·unfold JA
         rw[List.getElem?_zipWith,hpre him ho,he]
        ·unfold uT;rw[if_pos hdt]
        ·rw[iV,hmi,if_pos rfl]
        ·intro j' u' hj' hne
         cases hu':u' t with
         |none=>rfl
         |some x'=>
          obtain⟨oj',ej',hjm',hoj',_,hdj',_⟩:=hwr t j' u' hj' (by rw[hu'];simp)
          exact absurd (hc.dist j' i oj' o t hjm' him hoj' ho hdj' hdt) hne
       ·rw[show uT o.dst e t=none from by unfold uT;rw[if_neg hdt]]
        show _=nu (fun j=>listed.getD j false) 0 (JA (ops.toList.take m) es) T0 t
        refine jA _ _ _ _ rfl fun j u hj hu=>?_
        obtain⟨oj,ej,hjm,hoj,_,hdj,_⟩:=hwr t j u hj hu
        rw[iV,hmi,if_neg]
        intro e;subst e
        rw[ho] at hoj;injection hoj with hoj;subst hoj
        exact hdt hdj
      ·rw[show e.bf o.dst (nu (fun j=>listed.getD j false) 0 (yA (ops.toList.take m) es) M0) k=(uB o.dst e k).getD (nu (fun j=>listed.getD j false) 0 (yA (ops.toList.take m) es) M0 k) from(congrFun (PC o.dst e _ hce) k).symm]
       cases hu:uB o.dst e k with
       |some x=>
        show _=x
        refine Ih (u:=uB o.dst e) _ _ _ i hi2 hu ?_ ?_
        ·rw[iV,hmi,if_pos rfl]
        ·intro j' u' hj' hlt hmj
         cases hu':u' k with
         |none=>rfl
         |some x'=>
          have:=hrel k j' u' hj' (by rw[hu'];simp) (by rw[hu];simp)
          rw[iV,hmi,if_neg (by omega),this] at hmj
          simp at hmj;omega
       |none=>
        show _=nu (fun j=>listed.getD j false) 0 (yA (ops.toList.take m) es) M0 k
        refine jA _ _ _ _ rfl fun j u hj hu2=>?_
        obtain⟨oj,ej,hjm,hoj,hej,_,rfl⟩:=hwb k j u hj hu2
        rw[iV,hmi,if_neg]
        intro e2;subst e2
        rw[ho] at hoj;injection hoj with hoj;subst hoj
        rw[he] at hej;injection hej with hej;subst hej
        exact hu2 hu
end
def sG (P:Program) (U:TypeId):Option (Bool×Nat):=
 match P.underlying U,P.info? U with
 |some d,some i=>some ((match d with| .struct _| .array _ _=>true|_=>false),i.size)
 |_,_=>none
def PD (P:Program) (U:TypeId) (f:Nat):Option Nat:=
 match P.underlying U with
 |some (.struct fs)=>match fs[f]? with
  |some fd=>match P.info? fd.type with
   |some i=>if Nat.beq i.size 0 then none else some fd.offset
   |none=>none
  |none=>none
 |_=>none
def G6 (P:Program) (U:TypeId):Option (List (Nat×Nat)):=
 match P.underlying U with
 |some (.struct fs)=>fs.toList.mapM fun fd=>(P.info? fd.type).map fun i=>(fd.offset,i.size)
 |_=>none
def pg:Value→Option CellD
 | .bool b=>some (.b b)
 | .int k n=>some (.i k n)
 | .slice none 0 0=>some (.s 0 [])
 | .string s=>some (.e (.string s))
 |_=>none
def Yt:Value→Option D0
 | .agg cs=>(cs.toList.mapM pg).map .a
 |v=>(pg v).map .c
def AQ (P:Program) (U:TypeId):Option (List CellD):=
 match P.info? U with
 |some i=>match i.zero with
  |some z=>(Yt z).map D0.cells
  |none=>none
 |none=>none
def cO (T:TF):Operand→Option DV
 | .tmp t=>T t
 | .const v=>(Yt v).map .v
 | .func g=>some (.v (.c (.f g)))
 | .global _=>none
def gd (ops:Array Oper) (o:Oper) (T:TF):Option Bool:=
 match o.guard with
 |none=>some true
 |some (g,b)=>match (ops[g]?).bind (·.dst) with
  |some t=>match T t with
   |some (.v (.c (.b v)))=>some (v==b)
   |some .u=>some false
   |_=>none
  |none=>some false
section
variable {P:Program}{ops:Array Oper}{o:Oper}{T:TF}{B:BF}{V:Nat→Prop}{β:Nat→Nat}{a:Act}{w:World}
theorem Bi (h:pg v=some u):RdC V w v u:=by
 cases v with
 |bool b=>simp[pg] at h;subst h;exact .b b
 |int k n=>simp[pg] at h;subst h;exact .i k n
 |slice A n c=>
  cases A with
  |some A=>simp[pg] at h
  |none=>
   cases n with
   |zero=>
    cases c with
    |zero=>simp[pg] at h;subst h;exact .s0 none 0 (by omega)
    |succ c=>simp[pg] at h
   |succ n=>simp[pg] at h
 |string s=>simp[pg] at h;subst h;exact .e _ (fun _ e=>nomatch e) (fun _ e=>nomatch e)
 |_=>simp[pg] at h
theorem mapM_cons {α γ:Type}(f:α→Option γ) (x:α) (l:List α):(x::l).mapM f=(f x).bind fun y=>(l.mapM f).bind fun ys=>some (y::ys):=by simp_all
theorem Am: ∀(vs:List Value) (us:List CellD),vs.mapM pg=some us→RdCs V w vs us
 |[],us,h=>by
  have:us=[]:=by simpa [List.mapM_nil] using h.symm
  subst this;exact ro
 |v::vs,us,h=>by
  rw[mapM_cons] at h
  cases h1:pg v with
  |none=>rw[h1] at h;cases h
  |some u=>
   cases h2:vs.mapM pg with
   |none=>rw[h1,h2] at h;cases h
   |some us'=>
    rw[h1,h2] at h
    injection h with h
    subst h
    exact nE (Bi h1) (Am vs us' h2)
theorem EI (h:Yt v=some d):RdV V w v d:=by
 unfold Yt at h
 split at h
 ·rename_i cs
  cases h1:cs.toList.mapM pg with
  |none=>rw[h1] at h;cases h
  |some us=>rw[h1] at h;injection h with h;subst h;exact⟨cs,rfl,Am _ _ h1⟩
 ·cases h1:pg v with
  |none=>rw[h1] at h;cases h
  |some u=>rw[h1] at h;injection h with h;subst h;exact Bi h1
theorem aC (hs:Sees V (iY ops o) T B β a w) (hx:x∈o.op.operands) (h:cO T x=some dv):RdX V w β (a.eval x) dv:=by
 cases x with
 |tmp t=>
  have hl:iY ops o t:=List.mem_append_left _ (List.mem_filterMap.2 ⟨.tmp t,by simpa using hx,rfl⟩)
  obtain⟨v,e,hr⟩:=hs.tmp t dv hl h
  have:a.eval (.tmp t)=v:=by
   show a.tmps.getD t undef=v
   obtain⟨hlt,e⟩:=uS.1 e
   simp[Array.getD,hlt,e]
  grind
 |const v=>
  cases h1:Yt v with
  |none=>simp[cO,h1] at h
  |some d=>simp[cO,h1] at h;subst h;exact EI h1
 |func g=>simp[cO] at h;subst h;exact .f g
 |global g=>simp[cO] at h
theorem oi {y:DV}{k:Nat}(hx:x∈o.op.operands) (h:cO T x=some y) (hy:mN y=some k): ∃t y,iY ops o t∧T t=some y∧mN y=some k:=by
 cases x with
 |tmp t=>exact⟨t,y,List.mem_append_left _ (List.mem_filterMap.2 ⟨.tmp t,by simpa using hx,rfl⟩),h,hy⟩
 |const v=>
  cases h1:Yt v with
  |none=>simp[cO,h1] at h
  |some d=>simp[cO,h1] at h;subst h;cases hy
 |func g=>simp[cO] at h;subst h;cases hy
 |global g=>simp[cO] at h
theorem eL (hs:Sees V (iY ops o) T B β a w) (h:gd ops o T=some r):Ek o ops a=r:=by
 unfold gd at h
 unfold Ek Region.wanted
 cases hg:o.guard with
 |none=>rw[hg] at h;simpa using h
 |some gb=>
  obtain⟨g,b⟩:=gb
  rw[hg] at h
  dsimp only at h⊢
  unfold yielded
  cases ht:(ops[g]?).bind (·.dst) with
  |none=>rw[ht] at h;simpa using h
  |some t=>
   rw[ht] at h
   dsimp only at h
   have hl:iY ops o t:=List.mem_append_right _ (by rw[hg];simp[ht])
   cases hT:T t with
   |none=>rw[hT] at h;cases h
   |some dv=>
    rw[hT] at h
    obtain⟨v,e,hr⟩:=hs.tmp t dv hl hT
    simp only[Option.bind_some,e]
    match dv,h,hr with
    | .v (.c (.b c)),h,hr=>
      cases hr
      have h2:=Option.some.inj h
      rw[←h2]
      rfl
    | .u,h,hr=>
      subst hr
      have h2:=Option.some.inj h
      rw[←h2]
      rfl
theorem RdC.int_eq (h:RdC V w v (.i k m)):v=.int k m:=by cases h;rfl
theorem RdC.bool_eq (h:RdC V w v (.b b)):v=.bool b:=by cases h;rfl
theorem RdC.func_eq {g:FuncId}(h:RdC V w v (.f g)):v=.func (.func g) #[] #[]:=by cases h;rfl
theorem bI {x:DV}(hg:gd ops o T=some true) (hp: ∀k,mN x=some k→ ∃t y,iY ops o t∧T t=some y∧mN y=some k)
 (h: ∀V β a w,Sees V (iY ops o) T B β a w→ ∃v,(execOp a.eval o).run P w=.ok (.value v) w∧RdX V w β v x):Sem P ops o T B (.r x):=
 ⟨hp,fun V β a w hs=>⟨eL hs hg,by
  obtain⟨v,e,hr⟩:=h V β a w hs
  unfold Gives
  rw[e]
  exact⟨hr,fJ _ _⟩⟩⟩
theorem tg (hg:gd ops o T=some false):Sem P ops o T B .skip:=fun _ _ _ _ hs=>eL hs hg
theorem pF {x:DV}(h:mN x=none): ∀k,mN x=some k→ ∃t y,iY ops o t∧T t=some y∧mN y=some k:=by grind
theorem wK (h:sG P U=some (b,n)) (w:World):(isAgg U).run P w=.ok b w∧(sizeOf U).run P w=.ok n w:=by
 unfold sG at h
 cases hu:P.underlying U with
 |none=>rw[hu] at h;cases h
 |some d=>
  cases hi:P.info? U with
  |none=>rw[hu,hi] at h;cases h
  |some i=>
   rw[hu,hi] at h
   injection h with h
   injection h with h1 h2
   constructor
   ·unfold isAgg
    simp only[eM,run_underlying hu,fi]
    rw[←h1]
    cases d<;>rfl
   ·unfold sizeOf typeInfo
    simp[program,Sem.run,hi,←h2]
theorem kw (b o k:Nat):(⟨b,o,none⟩:Addr).add k=⟨b,o+k,none⟩:=by unfold Addr.add;split<;>simp_all
theorem l8 (h:sG P U=some (true,n)) {b:Nat}{vs:List Value}(hl:vs.length=n) (hc: ∀(j:Nat) (v:Value),vs[j]? =some v→w.cell? ⟨b,off+j,none⟩=some v):
 (loadVar U ⟨b,off,none⟩).run P w=.ok (.agg vs.toArray) w:=by
 obtain⟨h1,h2⟩:=wK h w
 have h3:=run_loadCells_list (P:=P) w ⟨b,off,none⟩ vs (fun j v hv=>by rw[kw];exact hc j v hv)
 unfold loadVar
 simp only[eM,h1,fi,if_true,h2]
 rw[←hl,h3]
 rfl
theorem mg (h:sG P U=some (false,n)) {b:Nat}(hc:w.cell? ⟨b,off,none⟩=some v):
 (loadVar U ⟨b,off,none⟩).run P w=.ok v w:=by
 obtain⟨h1,_⟩:=wK h w
 unfold loadVar
 simp only[eM,h1,fi]
 simp[hc]
theorem dr {b:Nat}(h:w.heap[b]? =some (.cells vs U (0,0))) (j:Nat):w.cell? ⟨b,j,none⟩=vs[j]? :=cell_of_row w b j vs U (0,0) h
theorem HT 
 (hx:cO T x=some dv) (hg:gd ops ⟨dst,.move x,ty,pos,af,g⟩ T=some true):Sem P ops ⟨dst,.move x,ty,pos,af,g⟩ T B (.r dv):=
 bI hg (fun k e=>oi (ops:=ops) (o:=⟨dst,.move x,ty,pos,af,g⟩) (by simp[Op.operands]) hx e)
  (fun V β a w hs=>⟨a.eval x,rfl,aC hs (by simp[Op.operands]) hx⟩)
theorem J0 
 (hx:cO T x=some dv) (hg:gd ops ⟨dst,.assign x,ty,pos,af,g⟩ T=some true):Sem P ops ⟨dst,.assign x,ty,pos,af,g⟩ T B (.r dv):=
 bI hg (fun k e=>oi (ops:=ops) (o:=⟨dst,.assign x,ty,pos,af,g⟩) (by simp[Op.operands]) hx e)
  (fun V β a w hs=>⟨a.eval x,rfl,aC hs (by simp[Op.operands]) hx⟩)
theorem cD {k:Nat}
 (hU:sG P U=some (true,n)) (hx:cO T x=some (.p k off)) (hb:B k=some (W,cs)) (hu:(cs.drop off).take n=us) (hn:us.length=n) (hg:gd ops ⟨dst,.load U x,ty,pos,af,g⟩ T=some true):
 Sem P ops ⟨dst,.load U x,ty,pos,af,g⟩ T B (.r (.v (.a us))):=
 bI hg (pF rfl) (fun V β a w hs=>by
  have hp:a.eval x=.pointer (some ⟨β k,off,none⟩):=aC hs (by simp[Op.operands]) hx
  obtain⟨_,vs,e,hr⟩:=hs.box k W cs hb
  have hr2:=(hr.drop off).take n
  rw[hu] at hr2
  have hrun:=l8 (w:=w) hU (b:=β k) (off:=off) (vs:=(vs.toList.drop off).take n) (by rw[hr2.1,hn]) (fun j v hv=>by
   rw[tH] at hv
   split at hv
   ·rw[dr e,←hv];simp
   ·cases hv)
  refine⟨_,?_,_,rfl,by simpa using hr2⟩
  simp only[execOp,Instr.loadAt,hp,Instr.sureAddr,eM,gK,fi,hrun])
theorem pQ {k:Nat}
 (hU:sG P U=some (false,n)) (hx:cO T x=some (.p k off)) (hb:B k=some (W,cs)) (hu:cs[off]? =some u) (hg:gd ops ⟨dst,.load U x,ty,pos,af,g⟩ T=some true):
 Sem P ops ⟨dst,.load U x,ty,pos,af,g⟩ T B (.r (.v (.c u))):=
 bI hg (pF rfl) (fun V β a w hs=>by
  have hp:a.eval x=.pointer (some ⟨β k,off,none⟩):=aC hs (by simp[Op.operands]) hx
  obtain⟨_,vs,e,hr⟩:=hs.box k W cs hb
  have hlt:off<cs.length:=(j9.1 hu).1
  have hv:vs.toList[off]? =some (vs.toList[off]'(by rw[hr.1];exact hlt)):=gE _
  have hrun:=mg (P:=P) (w:=w) hU (b:=β k) (off:=off) (by rw[dr e,←vE,hv])
  refine⟨_,?_,hr.2 off _ _ hv hu⟩
  simp only[execOp,Instr.loadAt,hp,Instr.sureAddr,eM,gK,fi,hrun])
theorem dM 
 (hU:sG P U=some (true,n)) (hx:cO T x=some (.q cs)) (hu:cs.take n=us) (hn:us.length=n) (hg:gd ops ⟨dst,.load U x,ty,pos,af,g⟩ T=some true):
 Sem P ops ⟨dst,.load U x,ty,pos,af,g⟩ T B (.r (.v (.a us))):=
 bI hg (pF rfl) (fun V β a w hs=>by
  obtain⟨b,off,vs,hp,_,_,hr,hc⟩:=aC hs (by simp[Op.operands]) hx
  have hr2:=hr.take n
  rw[hu] at hr2
  have hrun:=l8 (w:=w) hU (b:=b) (off:=off) (vs:=vs.take n) (by rw[hr2.1,hn]) (fun j v hv=>by
   rw[tH] at hv
   split at hv
   ·exact hc j v hv
   ·cases hv)
  refine⟨_,?_,_,rfl,by simpa using hr2⟩
  simp only[execOp,Instr.loadAt,hp,Instr.sureAddr,eM,gK,fi,hrun])
theorem bn 
 (hU:sG P U=some (false,n)) (hx:cO T x=some (.q cs)) (hu:cs[0]? =some u) (hg:gd ops ⟨dst,.load U x,ty,pos,af,g⟩ T=some true):
 Sem P ops ⟨dst,.load U x,ty,pos,af,g⟩ T B (.r (.v (.c u))):=
 bI hg (pF rfl) (fun V β a w hs=>by
  obtain⟨b,off,vs,hp,_,_,hr,hc⟩:=aC hs (by simp[Op.operands]) hx
  have hlt:0<cs.length:=(j9.1 hu).1
  have hv:vs[0]? =some (vs[0]'(by rw[hr.1];exact hlt)):=gE _
  have hrun:=mg (P:=P) (w:=w) hU (b:=b) (off:=off) (by have:=hc 0 _ hv;simpa using this)
  refine⟨_,?_,hr.2 0 _ _ hv hu⟩
  simp only[execOp,Instr.loadAt,hp,Instr.sureAddr,eM,gK,fi,hrun])
theorem GS (h:PD P U f=some o'): ∃fs fd,P.underlying U=some (.struct fs)∧fs[f]? =some fd∧fd.offset=o'∧ ∀(a:Addr) (w:World),(fieldPlace a fd).run P w=.ok (a.add o') w:=by
 unfold PD at h
 cases hu:P.underlying U with
 |none=>rw[hu] at h;cases h
 |some d=>
  rw[hu] at h
  cases d with
  |struct fs=>
   dsimp only at h
   cases hf:fs[f]? with
   |none=>rw[hf] at h;cases h
   |some fd=>
    rw[hf] at h
    dsimp only at h
    cases hi:P.info? fd.type with
    |none=>rw[hi] at h;cases h
    |some i=>
     rw[hi] at h
     dsimp only at h
     split at h
     ·cases h
     ·rename_i hz
      injection h with h
      have hz2:i.size≠0:=fun e=>hz (by rw[e];rfl)
      refine⟨fs,fd,rfl,hf,h,fun a w=>?_⟩
      unfold fieldPlace sizeOf typeInfo
      simp[program,Sem.run,hi,hz2,h]
  |_=>cases h
theorem M5 {k:Nat}
 (hU:PD P U f=some o') (hx:cO T x=some (.p k off)) (hg:gd ops ⟨dst,.fieldAddr U x f,ty,pos,af,g⟩ T=some true):
 Sem P ops ⟨dst,.fieldAddr U x f,ty,pos,af,g⟩ T B (.r (.p k (off+o'))):=
 bI hg (fun k' e=>oi (ops:=ops) (o:=⟨dst,.fieldAddr U x f,ty,pos,af,g⟩) (by simp[Op.operands]) hx e)
  (fun V β a w hs=>by
   have hp:a.eval x=.pointer (some ⟨β k,off,none⟩):=aC hs (by simp[Op.operands]) hx
   obtain⟨fs,fd,h1,h2,h3,h4⟩:=GS hU
   refine⟨.pointer (some ⟨β k,off+o',none⟩),?_,rfl⟩
   simp only[execOp,Instr.fieldAt,hp,Instr.sureAddr,eM,gK,fi,run_underlying h1,h2,h4,kw])
theorem qE 
 (hU:PD P U f=some o') (hx:cO T x=some (.q cs)) (hu:cs.drop o'=us) (hg:gd ops ⟨dst,.fieldAddr U x f,ty,pos,af,g⟩ T=some true):
 Sem P ops ⟨dst,.fieldAddr U x f,ty,pos,af,g⟩ T B (.r (.q us)):=
 bI hg (pF rfl) (fun V β a w hs=>by
  obtain⟨b,off,vs,hp,hb,hv,hr,hc⟩:=aC hs (by simp[Op.operands]) hx
  obtain⟨fs,fd,h1,h2,h3,h4⟩:=GS hU
  refine⟨.pointer (some ⟨b,off+o',none⟩),?_,b,off+o',vs.drop o',rfl,hb,hv,by rw[←hu];exact hr.drop o',fun j u hj=>?_⟩
  ·simp only[execOp,Instr.fieldAt,hp,Instr.sureAddr,eM,gK,fi,run_underlying h1,h2,h4,kw]
  ·rw[List.getElem?_drop] at hj
   rw[Nat.add_assoc];exact hc (o'+j) u hj)
theorem II 
 (hx:cO T x=some (.t ds)) (hd:ds[i]? =some d) (hg:gd ops ⟨dst,.extract x i,ty,pos,af,g⟩ T=some true):
 Sem P ops ⟨dst,.extract x i,ty,pos,af,g⟩ T B (.r (.v d)):=
 bI hg (pF rfl) (fun V β a w hs=>by
  obtain⟨vs,hp,hr⟩:=aC hs (by simp[Op.operands]) hx
  have hlt:i<ds.length:=(j9.1 hd).1
  have hv:vs.toList[i]? =some (vs.toList[i]'(by rw[hr.1];exact hlt)):=gE _
  refine⟨_,?_,hr.2 i _ d hv hd⟩
  rw[vE] at hv
  simp only[execOp,hp,Instr.extract,hv,eM,gK,fi])
def Vt:BinOp→Int→Int→Option Bool
 | .eql,x,y=>some (x==y)
 | .neq,x,y=>some (x !=y)
 | .lss,x,y=>some (decide (x<y))
 | .leq,x,y=>some (decide (x≤y))
 | .gtr,x,y=>some (decide (x>y))
 | .geq,x,y=>some (decide (x≥y))
 |_,_,_=>none
theorem LC {n:Int}
 (hx:cO T x=some (.v (.c (.i k m)))) (hy:cO T y=some (.v (.c (.i k n)))) (hb:Vt op m n=some b) (hg:gd ops ⟨dst,.binOp op xt x y yt,ty,pos,af,g⟩ T=some true):
 Sem P ops ⟨dst,.binOp op xt x y yt,ty,pos,af,g⟩ T B (.r (.v (.c (.b b)))):=
 bI hg (pF rfl) (fun V β a w hs=>by
  have h1:=aC hs (x:=x) (by simp[Op.operands]) hx
  have h2:=aC hs (x:=y) (by simp[Op.operands]) hy
  have e1:a.eval x=.int k m:=RdC.int_eq h1
  have e2:a.eval y=.int k n:=RdC.int_eq h2
  refine⟨.bool b,?_,.b b⟩
  cases op<;>simp[Vt] at hb<;>subst hb<;>simp[execOp,e1,e2,eqGuard,binOp,Op.intCmp])
def Dj:BinOp→IntKind→Int→Int→Option Int
 | .add,k,x,y=>some (k.wrap (x+y))
 | .sub,k,x,y=>some (k.wrap (x-y))
 | .mul,k,x,y=>some (k.wrap (x*y))
 |_,_,_,_=>none
theorem er {n r:Int}
 (hx:cO T x=some (.v (.c (.i k m)))) (hy:cO T y=some (.v (.c (.i k n)))) (hb:Dj op k m n=some r) (hg:gd ops ⟨dst,.binOp op xt x y yt,ty,pos,af,g⟩ T=some true):
 Sem P ops ⟨dst,.binOp op xt x y yt,ty,pos,af,g⟩ T B (.r (.v (.c (.i k r)))):=
 bI hg (pF rfl) (fun V β a w hs=>by
  have h1:=aC hs (x:=x) (by simp[Op.operands]) hx
  have h2:=aC hs (x:=y) (by simp[Op.operands]) hy
  have e1:a.eval x=.int k m:=RdC.int_eq h1
  have e2:a.eval y=.int k n:=RdC.int_eq h2
  refine⟨.int k r,?_,.i k r⟩
  cases op<;>simp[Dj] at hb<;>subst hb<;>simp[execOp,e1,e2,eqGuard,binOp,Op.intArith])
theorem Wq 
 (hx:cO T x=some (.v (.c (.b b)))) (hg:gd ops ⟨dst,.unOp .not xt x,ty,pos,af,g⟩ T=some true):
 Sem P ops ⟨dst,.unOp .not xt x,ty,pos,af,g⟩ T B (.r (.v (.c (.b (!b))))):=
 bI hg (pF rfl) (fun V β a w hs=>by
  have h1:=aC hs (x:=x) (by simp[Op.operands]) hx
  have e1:a.eval x=.bool b:=RdC.bool_eq h1
  exact⟨.bool (!b),by simp[execOp,e1,Op.unary],.b _⟩)
theorem Ug 
 (hx:cO T x=some (.v (.c (.i k m)))) (hg:gd ops ⟨dst,.unOp .neg xt x,ty,pos,af,g⟩ T=some true):
 Sem P ops ⟨dst,.unOp .neg xt x,ty,pos,af,g⟩ T B (.r (.v (.c (.i k (k.wrap (0-m)))))):=
 bI hg (pF rfl) (fun V β a w hs=>by
  have h1:=aC hs (x:=x) (by simp[Op.operands]) hx
  have e1:a.eval x=.int k m:=RdC.int_eq h1
  exact⟨.int k (k.wrap (0-m)),by simp[execOp,e1,Op.unary,Op.intArith],.i _ _⟩)
theorem Jo {c:Operand}
 (hc:cO T c=some (.v (.c (.b b)))) (hx:cO T (if b then x else y)=some dv) (hp:mN dv=none) (hg:gd ops ⟨dst,.pick c x y,ty,pos,af,g⟩ T=some true):
 Sem P ops ⟨dst,.pick c x y,ty,pos,af,g⟩ T B (.r dv):=
 bI hg (pF hp) (fun V β a w hs=>by
  have h1:=aC hs (x:=c) (by simp[Op.operands]) hc
  have e1:a.eval c=.bool b:=RdC.bool_eq h1
  have h2:=aC hs (x:=if b then x else y) (by cases b<;>simp[Op.operands]) hx
  refine⟨_,?_,h2⟩
  cases b<;>simp[execOp,e1,asBool])
end
def qK (T:TF):List Operand→Option (List D0)
 |[]=>some []
 |x::xs=>match cO T x with
  |some (.v d)=>match qK T xs with
   |some ds=>some (d::ds)
   |none=>none
  |_=>none
def xV:List D0→DV
 |[d]=>.v d
 |ds=>.t ds
def vm (pl:Nat→Option (Nat×Nat)):List CellD→List (Nat×D0)→Option (List CellD)
 |us,[]=>some us
 |us,(i,d)::rest=>match pl i with
  |none=>none
  |some (off,size)=>if Nat.beq d.cells.length size&&Nat.ble (off+size) us.length then vm pl (us.take off++d.cells++us.drop (off+size)) rest else none
def uM (T:TF):List (Nat×Operand)→Option (List (Nat×D0))
 |[]=>some []
 |(i,x)::xs=>match cO T x with
  |some (.v d)=>match uM T xs with
   |some ds=>some ((i,d)::ds)
   |none=>none
  |_=>none
def xU (P:Program) (U:TypeId):Option Nat:=
 match P.underlying U with
 |some (.slice e)=>(P.info? e).map (·.size)
 |_=>none
section
variable {P:Program}{ops:Array Oper}{o:Oper}{T:TF}{B:BF}{V:Nat→Prop}{β:Nat→Nat}{a:Act}{w:World}
theorem jr (hs:Sees V (iY ops o) T B β a w): ∀(xs:List Operand) (ds:List D0),(∀x∈xs,x∈o.op.operands)→qK T xs=some ds→RdL V w (xs.map a.eval) ds
 |[],ds,_,h=>by injection h with h;subst h;exact RdL.nil
 |x::xs,ds,hx,h=>by
  unfold qK at h
  split at h
  ·rename_i d hd
   split at h
   ·rename_i ds' hds
    injection h with h
    subst h
    exact tw (aC hs (hx x (by simp)) hd) (jr hs xs ds' (fun y hy=>hx y (by simp[hy])) hds)
   ·cases h
  ·cases h
theorem Ry {args:Array Operand}{at_:Array TypeId}{f:FuncId}
 (hf:cO T fo=some (.v (.c (.f f)))) (ha:qK T args.toList=some ds) (hok:Ok P f ds rs) (hg:gd ops ⟨dst,.call ⟨.value fo,args,at_⟩,ty,pos,af,g⟩ T=some true):
 Sem P ops ⟨dst,.call ⟨.value fo,args,at_⟩,ty,pos,af,g⟩ T B (.r (xV rs)):=by
 refine⟨pF (by unfold xV;split<;>rfl),fun V β a w hs=>⟨eL hs hg,?_⟩⟩
 have h1:=RdC.func_eq (aC hs (x:=fo) (by simp[Op.operands,Call.operands]) hf)
 have h2:=jr hs args.toList ds (fun x hx=>by have hx2:=Array.mem_toList_iff.1 hx;simp[Op.operands,Call.operands,hx2]) ha
 have hc:=hok.cal
 unfold fT at hc
 cases hfn:P.funcs[f]? with
 |none=>rw[hfn] at hc;cases hc
 |some fn=>
  rw[hfn] at hc
  simp only[di,bne_iff_ne,ne_eq,qg] at hc
  have hrun:(execOp a.eval ⟨dst,.call ⟨.value fo,args,at_⟩,ty,pos,af,g⟩).run P w=.ok (.enter f (args.map a.eval)) w:=by
   have hb2:fn.body≠none:=by have:=hc.2;cases hbb:fn.body with
    |none=>rw[hbb] at this;cases this
    |some c=>simp
   simp[execOp,resolve,h1,Deferred.ofValue,invoke,callFunc,program,Sem.run,hfn,hc.1,hb2]
  unfold Gives
  rw[hrun]
  refine(hok.run V (args.map a.eval) w hs.av (by simpa using h2)).mono ?_
  rintro e w' ⟨v,rfl,hr,hb⟩
  refine⟨v,rfl,?_,hb⟩
  unfold Xk at hr
  split at hr
  ·exact hr
  ·rename_i hne
   have e2:xV rs=.t rs:=by
    unfold xV
    grind
   rw[e2];exact hr
theorem V9 {m:Nat}
 (hU:xU P U=some m) (hx:cO T x=some (.v (.c (.s n xs)))) (hg:gd ops ⟨dst,.call ⟨.builtin .len,#[x],#[U]⟩,ty,pos,af,g⟩ T=some true):
 Sem P ops ⟨dst,.call ⟨.builtin .len,#[x],#[U]⟩,ty,pos,af,g⟩ T B (.r (.v (.c (.i .i64 n)))):=
 bI hg (pF rfl) (fun V β a w hs=>by
  have h1:=aC hs (x:=x) (by simp[Op.operands,Call.operands]) hx
  have h2: ∃A c,a.eval x=.slice A n c:=by
   generalize a.eval x=v at h1
   cases h1 with
   |s0 A c _=>exact⟨A,c,rfl⟩
   |s b off c _ _ _ _=>exact⟨_,c,rfl⟩
  obtain⟨A,c,e⟩:=h2
  unfold xU at hU
  split at hU
  ·rename_i el hu
   refine⟨.int .i64 n,?_,.i _ _⟩
   simp[execOp,resolve,invoke,builtin,Builtin.len_,e,run_underlying hu,goInt]
  ·cases hU)
theorem Nw {m q q':Nat}(h:(List.range m)[q]? =some q'):q<m∧q'=q:=by grind
theorem bc {i:Operand}{m:Nat}{j:Int}
 (hU:xU P U=some m) (hx:cO T x=some (.v (.c (.s n xs)))) (hi:cO T i=some (.v (.c (.i k j)))) (hj:0≤j∧j<n) (hl:xs.length=n*m) (hu:xs.drop (j.toNat*m)=us) (hg:gd ops ⟨dst,.indexAddr U x i,ty,pos,af,g⟩ T=some true):
 Sem P ops ⟨dst,.indexAddr U x i,ty,pos,af,g⟩ T B (.r (.q us)):=
 bI hg (pF rfl) (fun V β a w hs=>by
  have h1:=aC hs (x:=x) (by simp[Op.operands]) hx
  have h2:=RdC.int_eq (aC hs (x:=i) (by simp[Op.operands]) hi)
  generalize hv:a.eval x=v at h1
  have h1:RdC V w v (.s n xs):=h1
  unfold xU at hU
  split at hU
  case h_2=>cases hU
  rename_i el hul
  cases hinf:P.info? el with
  |none=>rw[hinf] at hU;cases hU
  |some inf=>
   rw[hinf] at hU
   simp at hU
   cases h1 with
   |s0 A c _=>omega
   |s b off c sz _ _ cv h0 hnc hcm hlen hb hav hc hr=>
    have hsz:sz=m:=by
     rw[hl] at hlen
     exact(Nat.eq_of_mul_eq_mul_left h0 hlen).symm
    subst hsz
    refine⟨.pointer (some ⟨b,off+j.toNat*sz,none⟩),?_,b,off+j.toNat*sz,(List.range (n*sz-j.toNat*sz)).map (fun q=>cv (j.toNat*sz+q)),rfl,hb,hav,?_,?_⟩
    ·have hso: ∀w,(sizeOf el).run P w=.ok sz w:=fun w=>by unfold sizeOf typeInfo;simp[program,Sem.run,hinf,hU]
     simp[execOp,Instr.indexAt,hv,h2,asIntOf,run_underlying hul,hj.1,hj.2,hso,kw]
    ·rw[←hu]
     refine⟨by simp[hl],fun q v u hv hu=>?_⟩
     grind
    ·intro q u hq
     rw[r8] at hq
     generalize hq2:(List.range (n*sz-j.toNat*sz))[q]? =r at hq
     match r,hq2,hq with
     |some q',hq2,hq=>
      simp at hq
      obtain⟨hlt,rfl⟩:=Nw hq2
      subst hq
      rw[Nat.add_assoc]
      exact hc _ (by omega))
theorem DZ (off:Nat): ∀(l:List Value) (k:Nat) (cells:Array Value),off+k+l.length≤cells.size→
 ((l.zipIdx k).foldl (fun(cs:Array Value) (p:Value×Nat)=>cs.setIfInBounds (off+p.2) p.1) cells).toList=cells.toList.take (off+k)++l++cells.toList.drop (off+k+l.length)
 |[],k,cells,_=>by simp
 |v::l,k,cells,h=>by
  simp at h
  rw[List.zipIdx_cons,vk,DZ off l (k+1) _ (by simp;omega)]
  simp only[Array.toList_setIfInBounds]
  have e1:(cells.toList.set (off+k) v).take (off+(k+1))=cells.toList.take (off+k)++[v]:=by
   apply List.ext_getElem?
   grind
  have e2:(cells.toList.set (off+k) v).drop (off+(k+1)+l.length)=cells.toList.drop (off+k+(v::l).length):=by
   rw[Dv (by omega)]
   grind
  rw[e1,e2];simp
theorem tO {pl:Nat→Option (Nat×Nat)}: ∀(ps:List (Nat×Value)) (dps:List (Nat×D0)) (cells:Array Value) (us us':List CellD),ps.length=dps.length→
 (∀(j:Nat) (p:Nat×Value) (q:Nat×D0),ps[j]? =some p→dps[j]? =some q→p.1=q.1∧RdV V w p.2 q.2)→RdCs V w cells.toList us→vm pl us dps=some us'→ ∃cells',Instr.fill pl cells ps=some cells'∧RdCs V w cells'.toList us'
 |[],[],cells,us,us',_,_,hr,h=>by
  simp[vm] at h;subst h;exact⟨cells,rfl,hr⟩
 |[],q::dps,_,_,_,hl,_,_,_=>by simp at hl
 |p::ps,[],_,_,_,hl,_,_,_=>by simp at hl
 |(i,v)::ps,(i',d)::dps,cells,us,us',hl,hp,hr,h=>by
  obtain⟨e,hv⟩:=hp 0 (i,v) (i',d) rfl rfl
  have e:i=i':=e
  subst e
  unfold vm at h
  cases hpl:pl i with
  |none=>rw[hpl] at h;cases h
  |some os=>
   obtain⟨off,size⟩:=os
   rw[hpl] at h
   dsimp only at h
   split at h
   ·rename_i hc
    simp only[di] at hc
    have h1:=jv hc.1
    have h2:=gj hc.2
    have hvc:=RdV.cells hv
    have hsz:v.cells.size=size:=by rw[←h1,←hvc.1];simp
    have husz:us.length=cells.size:=by rw[←hr.1];simp
    have hfr:=DZ off v.cells.toList 0 cells (by simp;omega)
    have hrd:RdCs V w ((v.cells.zipIdx.foldl (fun(cs:Array Value) (p:Value×Nat)=>cs.setIfInBounds (off+p.2) p.1) cells)).toList (us.take off++d.cells++us.drop (off+size)):=by
     rw[←Array.foldl_toList]
     have:v.cells.zipIdx.toList=v.cells.toList.zipIdx:=by simp
     rw[this,hfr]
     refine o8 (o8 (by simpa using hr.take off) hvc) ?_
     have:=hr.drop (off+size)
     grind
    obtain⟨cells',e',hr'⟩:=tO ps dps _ _ us' (by simpa using hl) (fun j p q hp' hq'=>hp (j+1) p q (by simpa using hp') (by simpa using hq')) hrd h
    refine⟨cells',?_,hr'⟩
    unfold Instr.fill
    rw[hpl]
    dsimp only
    rw[if_neg (by simp[hsz];omega)]
    exact e'
   ·cases h
theorem xu (h:AQ P U=some zs): ∃it z,P.info? U=some it∧it.zero=some z∧RdCs V w z.cells.toList zs:=by
 unfold AQ at h
 cases hi:P.info? U with
 |none=>rw[hi] at h;cases h
 |some it=>
  rw[hi] at h
  dsimp only at h
  cases hz:it.zero with
  |none=>rw[hz] at h;cases h
  |some z=>
   rw[hz] at h
   dsimp only at h
   cases hc:Yt z with
   |none=>rw[hc] at h;cases h
   |some d=>
    rw[hc] at h
    simp at h
    subst h
    exact⟨it,z,rfl,hz,RdV.cells (EI hc)⟩
theorem pt (hs:Sees V (iY ops o) T B β a w): ∀(ps:List (Nat×Operand)) (dps:List (Nat×D0)),(∀p∈ps,p.2∈o.op.operands)→uM T ps=some dps→
 (ps.map fun(i,x)=>(i,a.eval x)).length=dps.length∧ ∀(j:Nat) (p:Nat×Value) (q:Nat×D0),(ps.map fun(i,x)=>(i,a.eval x))[j]? =some p→dps[j]? =some q→p.1=q.1∧RdV V w p.2 q.2
 |[],dps,_,h=>by injection h with h;subst h;exact⟨rfl,fun j p q hp=>by simp at hp⟩
 |(i,x)::ps,dps,hx,h=>by
  unfold uM at h
  split at h
  ·rename_i d hd
   split at h
   ·rename_i ds hds
    injection h with h
    subst h
    obtain⟨h1,h2⟩:=pt hs ps ds (fun p hp=>hx p (by simp[hp])) hds
    refine⟨by simpa using h1,fun j p q hp hq=>?_⟩
    cases j with
    |zero=>
     simp at hp hq
     subst hp hq
     exact⟨rfl,aC hs (hx (i,x) (by simp)) hd⟩
    |succ j=>exact h2 j p q (by simpa using hp) (by simpa using hq)
   ·cases h
  ·cases h
theorem KI 
 (hU:G6 P U=some pl) (hz: ∀V w,∃it z,P.info? U=some it∧it.zero=some z∧RdCs V w z.cells.toList zs) (hp:uM T ps.toList=some dps) (hf:vm (fun i=>pl[i]?) zs dps=some us) (hg:gd ops ⟨dst,.build U ps,ty,pos,af,g⟩ T=some true):
 Sem P ops ⟨dst,.build U ps,ty,pos,af,g⟩ T B (.r (.v (.a us))):=
 bI hg (pF rfl) (fun V β a w hs=>by
  obtain⟨it,z,hi,hz,hr⟩:=hz V w
  obtain⟨h1,h2⟩:=pt hs ps.toList dps (fun p hp=>by simp only[Op.operands,List.mem_toArray,pp];exact⟨p,hp,rfl⟩) hp
  obtain⟨cells,hfl,hrd⟩:=tO _ dps z.cells zs us h1 h2 hr hf
  refine⟨.agg cells,?_,cells,rfl,hrd⟩
  unfold G6 at hU
  split at hU
  ·rename_i fs hu
   have:=run_build (P:=P) w U (ps.map fun(i,x)=>(i,a.eval x)) cells (by
    unfold Program.built
    simp only[hi,hu,hz,hU]
    simpa using hfl)
   simp[execOp,this]
  ·cases hU)
theorem aF 
 (hU:G6 P U=some pl) (hz:AQ P U=some zs) (hp:uM T ps.toList=some dps) (hf:vm (fun i=>pl[i]?) zs dps=some us) (hg:gd ops ⟨dst,.build U ps,ty,pos,af,g⟩ T=some true):
 Sem P ops ⟨dst,.build U ps,ty,pos,af,g⟩ T B (.r (.v (.a us))):=KI hU (fun _V _w=>xu hz) hp hf hg
theorem jc 
 (hz:AQ P U=some zs) (hg:gd ops ⟨dst,.alloc U,ty,pos,af,g⟩ T=some true):Sem P ops ⟨dst,.alloc U,ty,pos,af,g⟩ T B (.a U zs none):=fun V β a w hs=>⟨eL hs hg,by
 obtain⟨it,z,hi,hz,hr⟩:=xu (V:=V) (w:=w) hz
 have hrun:(execOp a.eval ⟨dst,.alloc U,ty,pos,af,g⟩).run P w=.ok (.value (.pointer (some ⟨w.heap.size,0,none⟩))) (w.alloc (.cells z.cells U)):=by
  simp[execOp,Instr.alloc,zeroValue,typeInfo,program,Sem.run,hi,hz,newVar,newRow,newObj]
  try rfl
 unfold Gives
 rw[hrun]
 exact⟨z.cells,rfl,rfl,hr⟩⟩
theorem Mq 
 (hx:cO T x=some (.v d)) (hg:gd ops ⟨dst,.box U x,ty,pos,af,g⟩ T=some true):Sem P ops ⟨dst,.box U x,ty,pos,af,g⟩ T B (.a U d.cells none):=fun V β a w hs=>⟨eL hs hg,by
 have h1:RdV V w (a.eval x) d:=aC hs (x:=x) (by simp[Op.operands]) hx
 have hrun:(execOp a.eval ⟨dst,.box U x,ty,pos,af,g⟩).run P w=.ok (.value (.pointer (some ⟨w.heap.size,0,none⟩))) (w.alloc (.cells (a.eval x).cells U)):=by
  simp[execOp,Instr.box,Sem.run,newVar,newRow,newObj]
  try rfl
 exact⟨_,rfl,rfl,RdV.cells h1⟩⟩
theorem o6 {w:World}{b:Nat}{cs:Array Value}(h:w.heap[b]? =some (.cells old U (0,0))):(w.setRow b cs).heap=w.heap.setIfInBounds b (.cells cs U (0,0)):=by
 apply Array.ext (by simp[World.setRow])
 intro i h1 h2
 simp only[World.setRow,Array.getElem_modify]
 by_cases e:b=i
 ·grind
 grind
theorem br {k:Nat}
 (hU:sG P U=some (q,n)) (ha:cO T ax=some (.p k off)) (hx:cO T x=some (.v d)) (hb:B k=some (W,cs)) (hn:d.cells.length=n) (ho:off+n≤cs.length) (hu:cs.take off++d.cells++cs.drop (off+n)=us)
 (hg:gd ops ⟨none,.store U ax x,ty,pos,af,g⟩ T=some true):Sem P ops ⟨none,.store U ax x,ty,pos,af,g⟩ T B (.s k W us):=by
 refine⟨rfl,⟨cs,hb⟩,fun V β a w hs=>⟨eL hs hg,?_⟩⟩
 have hp:a.eval ax=.pointer (some ⟨β k,off,none⟩):=aC hs (by simp[Op.operands]) ha
 have h1:RdV V w (a.eval x) d:=aC hs (x:=x) (by simp[Op.operands]) hx
 have hc:=RdV.cells h1
 obtain⟨_,vs,e,hr⟩:=hs.box k W cs hb
 obtain⟨_,hsz⟩:=wK hU w
 have hl:(a.eval x).cells.size=n:=by rw[←hn,←hc.1];simp
 have hone: ∀v∈(a.eval x).cells.toList,v.oneCell'=true:=by
  intro v hv
  obtain⟨j,hj⟩:=List.getElem?_of_mem hv
  have hlt:j<d.cells.length:=by grind
  have:=hc.2 j v _ hj (gE hlt)
  generalize d.cells[j]=u at this
  cases this with
  |x v h1 h2=>cases v<;>first|rfl|exact absurd rfl (h1 _)|exact absurd rfl (h2 _)
  |e v h1 h2=>cases v<;>first|rfl|exact absurd rfl (h1 _)|exact absurd rfl (h2 _)
  |_=>rfl
 have hvl:vs.size=cs.length:=by rw[←hr.1];simp
 have hst:=run_storeCells_at (P:=P) (β k) off W (a.eval x).cells.toList 0 vs w e (by simp;omega) hone
 have hrun:(execOp a.eval ⟨none,.store U ax x,ty,pos,af,g⟩).run P w=.ok .skip (w.setRow (β k) (vs.toList.take (off+0)++(a.eval x).cells.toList++vs.toList.drop (off+0+(a.eval x).cells.toList.length)).toArray):=by
  simp only[execOp,Instr.storeAt,hp,Instr.sureAddr,storeVar,eM,gK,fi,hsz]
  rw[if_neg (by simp[hl])]
  rw[hst]
  rfl
 unfold Gives
 rw[hrun]
 refine⟨_,o6 e,rfl,rfl,rfl,?_⟩
 rw[←hu]
 have e2:(a.eval x).cells.toList.length=n:=by grind
 rw[e2]
 exact o8 (o8 (hr.take off) hc) (hr.drop (off+n))
end
end Go.Proofs.YtegpmhlfjkhjmaaGreat
