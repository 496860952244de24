/-Data:a region of operations,in whatever order it may run. -/
import Derived.Test.YtegeknjkgadehaaGreatTwC
import Derived.Tactics
import Derived.Laws.Cells
import Derived.Laws.CopyRow
import Derived.Laws.Tables
import Derived.Laws.Rows
namespace Go.Proofs.YtegeknjkgadehaaGreat
open Go Go.RowKit
variable {ps:Array (Nat×Operand)}{listed:Array Bool}{ops:Array Oper}{old vs:Array Value}{op:BinOp}{b q r:Bool}{u:CellD}{d:D0}{dv:DV}{m:Int}{k:IntKind}{dps:List (Nat×D0)}{pl:List (Nat×Nat)}{cs us xs zs:List CellD}{ds rs:List D0}{es:List Eff}{hs sd:List Nat}{f i j n o' off t:Nat}{o p:Oper}{ax fo x y:Operand}{U W xt yt:TypeId}{v:Value}
variable {ty:TypeId}{pos:String}{af:Array Edge}{g:Option (Nat×Bool)}{dst:Option Nat}
theorem de:type_of% @Bool.and_eq_true:=@Bool.and_eq_true
theorem fe:type_of% @Nat.eq_of_beq_eq_true:=@Nat.eq_of_beq_eq_true
theorem fq:type_of% @Sem.run_bind:=@Sem.run_bind
theorem dd:type_of% @Result.andThen_ok:=@Result.andThen_ok
theorem dx:type_of% @Sem.run_pure:=@Sem.run_pure
theorem fb:type_of% @List.getElem?_eq_some_iff:=@List.getElem?_eq_some_iff
theorem eQ:type_of% @Nat.le_of_ble_eq_true:=@Nat.le_of_ble_eq_true
theorem iM:type_of% @RdCs.cons:=@RdCs.cons
theorem iC:type_of% @List.mem_range:=@List.mem_range
theorem kG:type_of% @RdCs.append:=@RdCs.append
theorem jZ:type_of% @Classical.byContradiction:=@Classical.byContradiction
theorem kj:type_of% @Array.getElem?_toList:=@Array.getElem?_toList
theorem lj:type_of% @List.all_eq_true:=@List.all_eq_true
theorem ll:type_of% @Array.getElem?_eq_some_iff:=@Array.getElem?_eq_some_iff
theorem nl:type_of% @RdCs.nil:=@RdCs.nil
theorem nC:type_of% @List.mem_map:=@List.mem_map
theorem qG:type_of% @RdL.cons:=@RdL.cons
theorem qS:type_of% @Array.getElem?_eq_getElem:=@Array.getElem?_eq_getElem
theorem sP:type_of% @List.foldl_cons:=@List.foldl_cons
theorem tV:type_of% @Bool.or_eq_true:=@Bool.or_eq_true
theorem vT:type_of% @Nat.beq_refl:=@Nat.beq_refl
theorem vC:type_of% @List.any_eq_true:=@List.any_eq_true
theorem wa:type_of% @Bool.not_eq_true':=@Bool.not_eq_true'
theorem yI:type_of% @List.getElem?_of_mem:=@List.getElem?_of_mem
theorem y6:type_of% @Classical.not_forall:=@Classical.not_forall
theorem yB:type_of% @Classical.not_imp:=@Classical.not_imp
theorem yz:type_of% @List.mem_append_left:=@List.mem_append_left
theorem yx:type_of% @Array.mem_toList_iff:=@Array.mem_toList_iff
theorem Cj:type_of% @List.getElem?_drop:=@List.getElem?_drop
theorem Gk:type_of% @Nat.eq_of_mul_eq_mul_left:=@Nat.eq_of_mul_eq_mul_left
def gN {γ:Type}(mask:Nat->Bool):Nat->List (Nat->Option (Option γ))->(Nat->Option γ)->(Nat->Option γ)
 |_,[],F=>F
 |k,u::us,F=>gN mask (k+1) us (if mask k then(fun t=>(u t).getD (F t)) else F)
section
variable {γ:Type}
theorem mR (mask:Nat->Bool): ∀(us:List (Nat->Option (Option γ))) (k:Nat) (F:Nat->Option γ),gN mask (k+1) us F=gN (fun j=>mask (j+1)) k us F
 |[],_,_=>rfl
 |u::us,k,F=>by show gN mask (k+1+1) us _=gN (fun j=>mask (j+1)) (k+1) us _;rw[mR mask us (k+1)]
theorem ew {mask mask':Nat->Bool}{t:Nat}: ∀(us:List (Nat->Option (Option γ))) (k:Nat) (F D:Nat->Option γ),F t=D t->
 (∀(j:Nat) (u:Nat->Option (Option γ)),us[j]? =some u->u t≠none->mask (k+j)=mask' (k+j))->gN mask k us F t=gN mask' k us D t
 |[],_,_,_,h,_=>h
 |u::us,k,F,D,h,hm=>by
  show gN mask (k+1) us _ t=gN mask' (k+1) us _ t;refine ew us (k+1) _ _ ?_ (fun j H K E=>by have:=hm (j+1) H (by simpa using K) E;rw[show k+(j+1)=k+1+j from by omega] at this;exact this);by_cases E:u t=none
  ·have J:(if mask k then(fun t=>(u t).getD (F t)) else F) t=F t:=by split<;>simp[E]
   have I:(if mask' k then(fun t=>(u t).getD (D t)) else D) t=D t:=by split<;>simp[E]
   rw[J,I];exact h
  ·have:=hm 0 u rfl E;rw[um] at this;rw[this];split
   ·show(u t).getD (F t)=(u t).getD (D t);rw[h]
   ·exact h
theorem iA {mask:Nat->Bool}(us:List (Nat->Option (Option γ))) (k:Nat) (F:Nat->Option γ)
 (h: ∀(j:Nat) (u:Nat->Option (Option γ)),us[j]? =some u->mask (k+j)=true->u t=none):gN mask k us F t=F t:=by
 have I: ∀(us:List (Nat->Option (Option γ))) (k:Nat) (F:Nat->Option γ),gN (fun _=>false) k us F=F:=by
  intro us;induction us with
  |nil=>intro k F;rfl
  |cons u us K=>intro k F;exact K (k+1) F
 have J:=ew (mask:=mask) (mask':=fun _=>false) us k F F rfl (fun j u E D=>by
  cases H:mask (k+j) with
  |false=>rfl
  |true=>exact absurd (h j u E H) D)
 rw[J,I]
theorem MI {mask:Nat->Bool}{t:Nat}{u:Nat->Option (Option γ)}{x:Option γ}: ∀(us:List (Nat->Option (Option γ))) (k:Nat) (F:Nat->Option γ) (j:Nat),
 us[j]? =some u->u t=some x->mask (k+j)=true->(∀(D:Nat) (E:Nat->Option (Option γ)),us[D]? =some E->D≠j->E t=none)->gN mask k us F t=x
 |[],_,_,_,h,_,_,_=>by simp at h
 |u0::us,k,F,0,h,hu,hm,hd=>by simp at h;subst h;rw[um] at hm;show gN mask (k+1) us _ t=x;rw[iA us (k+1) _ (fun j u h _=>hd (j+1) u (by simpa using h) (by omega)),hm];simp[hu]
 |u0::us,k,F,j+1,h,hu,hm,hd=>by show gN mask (k+1) us _ t=x;exact MI us (k+1) _ j (by simpa using h) hu (by rw[show k+1+j=k+(j+1) from by omega];exact hm) (fun D E H I=>hd (D+1) E (by simpa using H) (by omega))
theorem x6 {mask:Nat->Bool}{t:Nat}{u:Nat->Option (Option γ)}{x:Option γ}: ∀(us:List (Nat->Option (Option γ))) (k:Nat) (F:Nat->Option γ) (j:Nat),
 us[j]? =some u->u t=some x->mask (k+j)=true->(∀(D:Nat) (H:Nat->Option (Option γ)),us[D]? =some H->j<D->mask (k+D)=true->H t=none)->gN mask k us F t=x
 |[],_,_,_,h,_,_,_=>by simp at h
 |u0::us,k,F,0,h,hu,hm,hd=>by simp at h;subst h;rw[um] at hm;show gN mask (k+1) us _ t=x;rw[iA us (k+1) _ (fun j u h E=>hd (j+1) u (by simpa using h) (by omega) (by rw[show k+(j+1)=k+1+j from by omega];exact E)),hm];simp[hu]
 |u0::us,k,F,j+1,h,hu,hm,hd=>by show gN mask (k+1) us _ t=x;exact x6 us (k+1) _ j (by simpa using h) hu (by rw[show k+1+j=k+(j+1) from by omega];exact hm) (fun D H I J E=>hd (D+1) H (by simpa using I) (by omega) (by rw[show k+(D+1)=k+1+D from by omega];exact E))
end
def uT (d:Option Nat) (e:Eff):Nat->Option (Option DV):=fun t=>if d=some t then some (some (ent t e)) else none
def uB (d:Option Nat) (e:Eff):Nat->Option (Option (TypeId×List CellD)):=fun k=>match e with
 | .a U cs _=>if d=some k then some (some (U,cs)) else none
 | .s l U cs=>if l=k then some (some (U,cs)) else none
 | .rs l U cs _=>if l=k then some (some (U,cs)) else none
 |_=>none
theorem O0 (d:Option Nat) (e:Eff) (T:TF) (h: ∀k x,e≠ .c k x):(fun t=>(uT d e t).getD (T t))=e.tf d T:=by
 funext t;cases e with
 |c k x=>exact absurd rfl (h k x)
 |r x=>unfold uT Eff.tf;dsimp only;split<;>rfl
 |a U cs sl=>unfold uT Eff.tf;dsimp only;split<;>rfl
 |s k U cs=>unfold uT Eff.tf;dsimp only;split<;>rfl
 |rs k U cs x=>unfold uT Eff.tf;dsimp only;split<;>rfl
 |skip=>unfold uT Eff.tf;dsimp only;split<;>rfl
theorem S1 (d:Option Nat) (e:Eff) (B:BF) (h: ∀k x,e≠ .c k x):(fun k=>(uB d e k).getD (B k))=e.bf d B:=by
 funext k;cases e with
 |a U cs sl=>unfold uB Eff.bf;dsimp only;split<;>rfl
 |s l U cs=>unfold uB Eff.bf;dsimp only;split<;>rfl
 |rs l U cs x=>unfold uB Eff.bf;dsimp only;split<;>rfl
 |r x=>rfl
 |c k x=>exact absurd rfl (h k x)
 |skip=>rfl
theorem V1 (d:Option Nat) (e:Eff) (k:Nat):uB d e k≠some none:=by
 unfold uB;split;·grind
 ·grind
 ·grind
 grind
theorem TM {d:Option Nat}{e:Eff}{k:Nat}(h:uB d e k≠none):(∃U cs sl,e=.a U cs sl/\d=some k)\/(∃U cs,e=.s k U cs)\/ ∃U cs x,e=.rs k U cs x:=by
 unfold uB at h;split at h;·grind
 ·simp_all
 ·simp_all
 grind
structure Sq where
 st:St
 nb:List (Nat×TypeId×List CellD)
 sd:List Nat
def Sq.M (s:Sq):BF:=fun k=>look k (s.nb++s.st.bx)
def hJ (k:Nat):List (Nat×DV)->List (Nat×DV)
 |[]=>[]
 |(t,y)::r=>(t,match jq y with|some l=>bif Nat.beq l k then .n else y|none=>y)::hJ k r
def f6 (k:Nat):List (Nat×TypeId×List CellD)->List (Nat×TypeId×List CellD)
 |[]=>[]
 |(l,c)::r=>bif Nat.beq l k then f6 k r else(l,c)::f6 k r
def St.app (h:St):Option Nat->Eff->St
 |some d,.r x=>{h with tm:=(d,x)::h.tm}
 |some d,.a U cs sl=>{h with tm:=(d,Tn sl d)::h.tm,bx:=(d,U,cs)::h.bx}
 |some d,.skip=>{h with tm:=(d,.u)::h.tm}
 |some d,.s k U cs=>{h with tm:=(d,.u)::h.tm,bx:=(k,U,cs)::h.bx}
 |none,.s k U cs=>{h with bx:=(k,U,cs)::h.bx}
 |some d,.rs k U cs x=>{h with tm:=(d,x)::h.tm,bx:=(k,U,cs)::h.bx}
 |none,.rs k U cs _x=>{h with bx:=(k,U,cs)::h.bx}
 |some d,.c k x=>{h with tm:=(d,x)::hJ k h.tm,bx:=f6 k h.bx}
 |none,.c k _x=>{h with tm:=hJ k h.tm,bx:=f6 k h.bx}
 |none,_=>h
def Sq.app (s:Sq):Option Nat->Eff->Sq
 |some d,.a U cs sl=>⟨{s.st with tm:=(d,Tn sl d)::s.st.tm},(d,U,cs)::s.nb,s.sd⟩
 |some d,.s k U cs=>⟨{s.st with tm:=(d,.u)::s.st.tm},(k,U,cs)::s.nb,k::s.sd⟩
 |none,.s k U cs=>⟨s.st,(k,U,cs)::s.nb,k::s.sd⟩
 |some d,.rs k U cs x=>⟨{s.st with tm:=(d,x)::s.st.tm},(k,U,cs)::s.nb,s.sd⟩
 |none,.rs k U cs _x=>⟨s.st,(k,U,cs)::s.nb,s.sd⟩
 |d,e=>⟨s.st.app d e,s.nb,s.sd⟩
theorem aO {D:Type}(k t:Nat) (x:D) (r:List (Nat×D)):look t ((k,x)::r)=if k=t then some x else look t r:=by
 show(bif Nat.beq k t then some x else look t r)=_;by_cases h:k=t;·simp_all
 ·have:Nat.beq k t=false:=by
   cases E:Nat.beq k t with
   |false=>rfl
   |true=>exact absurd (fe E) h
  rw[this,if_neg h];rfl
theorem cd {h:Type}(t:Nat): ∀(l r:List (Nat×h)),look t (l++r)=(look t l).or (look t r)
 |[],r=>by simp[look]
 |(k,x)::l,r=>by rw[List.cons_append,aO,aO,cd t l r];split<;>simp
theorem iZ (k t:Nat): ∀(l:List (Nat×DV)),look t (hJ k l)=match look t l with|some y=>if jq y=some k then some .n else some y|none=>none
 |[]=>rfl
 |(s,y)::r=>by
  unfold hJ;rw[aO,aO];split
  ·show some _=(if jq y=some k then some DV.n else some y);cases D:jq y with
   |none=>simp
   |some l=>
    dsimp only;cases h:Nat.beq l k with
    |true=>rw[if_pos (by rw[fe h])];rfl
    |false=>rw[if_neg (fun e=>by injection e with e;subst e;rw[vT] at h;cases h)];rfl
  ·exact iZ k t r
theorem iU (k l:Nat): ∀(r:List (Nat×TypeId×List CellD)),look l (f6 k r)=if l=k then none else look l r
 |[]=>by simp[f6,look]
 |(m,c)::r=>by
  unfold f6;rw[aO];cases D:Nat.beq m k with
  |true=>
   have:=fe D;subst this;show look l (f6 m r)=_;rw[iU m l r];by_cases e:l=m;·rw[if_pos e,if_pos e]
   ·rw[if_neg e,if_neg e,if_neg (Ne.symm e)]
  |false=>
   have h:m≠k:=fun e=>by subst e;rw[vT] at D;cases D
   show look l ((m,c)::f6 k r)=_;rw[aO,iU k l r];by_cases e:m=l;·subst e;rw[if_pos rfl,if_neg h,if_pos rfl]
   ·rw[if_neg e,if_neg e]
theorem pT (D:St) (d:Option Nat) (e:Eff):(D.app d e).T=e.tf d D.T:=by
 funext t;cases e with
 |c k x=>
  cases d with
  |none=>
   simp[St.app,St.T,Eff.tf,oM,iZ];grind
  |some d=>
   simp[St.app,St.T,Eff.tf,oM,iZ,aO];grind
 |_=>
 unfold Eff.tf;cases d with
 |none=>simp[St.app,St.T]
 |some d=>
  by_cases h:d=t;·subst h;simp[St.app,St.T,aO,ent]
  ·have E: ¬(some d=some t):=by simpa using h
   simp[St.app,St.T,aO,h]
theorem Zg (h:St) (d:Option Nat) (e:Eff):(h.app d e).B=e.bf d h.B:=by
 funext k;cases d with
 |none=>cases e<;>simp[St.app,St.B,Eff.bf,aO,iU]
 |some d=>cases e<;>simp[St.app,St.B,Eff.bf,aO,iU]
theorem Q2 (s:Sq) (d:Option Nat) (e:Eff):(s.app d e).st.T=e.tf d s.st.T:=by
 cases d with
 |none=>
  cases e with
  |a U cs sl=>exact pT s.st none (.a U cs sl)
  |r x=>exact pT s.st none (.r x)
  |s k U cs=>exact pT s.st none (.s k U cs)
  |c k x=>exact pT s.st none (.c k x)
  |rs k U cs x=>exact pT s.st none (.rs k U cs x)
  |skip=>exact pT s.st none .skip
 |some d=>
  cases e with
  |a U cs sl=>exact pT s.st (some d) (.a U cs sl)
  |r x=>exact pT s.st (some d) (.r x)
  |s k U cs=>exact pT s.st (some d) (.s k U cs)
  |c k x=>exact pT s.st (some d) (.c k x)
  |rs k U cs x=>exact pT s.st (some d) (.rs k U cs x)
  |skip=>exact pT s.st (some d) .skip
theorem aa1 (s:Sq) (d:Option Nat) (e:Eff) (h: ∀k x,e≠ .c k x):(s.app d e).st.B=s.st.B:=by
 cases d with
 |none=>cases e<;>first|rfl|exact absurd rfl (h _ _)
 |some d=>cases e<;>first|rfl|exact absurd rfl (h _ _)
theorem Tj (s:Sq) (d:Option Nat) (e:Eff) (h: ∀k x,e≠ .c k x):(s.app d e).M=e.bf d s.M:=by
 funext k;cases e with
 |c k x=>exact absurd rfl (h k x)
 |s l U cs=>
  have:(s.app d (.s l U cs)).M k=look k ((l,U,cs)::(s.nb++s.st.bx)):=by cases d<;>rfl
  rw[this,aO];rfl
 |rs l U cs x=>
  have:(s.app d (.rs l U cs x)).M k=look k ((l,U,cs)::(s.nb++s.st.bx)):=by cases d<;>rfl
  rw[this,aO];rfl
 |a U cs sl=>cases d<;>(simp[Sq.app,St.app,Sq.M,Eff.bf,aO])
 |r x=>cases d<;>(simp[Sq.app,St.app,Sq.M,Eff.bf])
 |skip=>cases d<;>(simp[Sq.app,St.app,Sq.M,Eff.bf])
theorem abg (s:Sq) (d:Option Nat) (e:Eff):(s.app d e).st.n=s.st.n:=by cases d<;>cases e<;>rfl
theorem MT (h:St) (d:Option Nat) (e:Eff):(h.app d e).n=h.n:=by cases d<;>cases e<;>rfl
def Nr (P:Program) (ops:Array Oper) (o:Oper) (h:St) (F:St->Prop):Prop:= ∀av w0 β a w,Rel av w0 h.n h.T h.B β a w->(∀t,o.dst=some t->t<h.n)->
 wx o ops a=true/\Gives P o a w fun v w'=> ∃σ' D,F σ'/\σ'.n=h.n/\Rel av w0 h.n σ'.T σ'.B D (a.put o.dst v) w'
def dl (P:Program) (ops:Array Oper):List Oper->St->(St->Prop)->Prop
 |[],σ,K=>K σ
 |o::os,σ,K=>(∃e,Sem P ops o σ.T σ.B e/\(∀U cs sl,e=.a U cs sl-> ∃d,o.dst=some d/\σ.B d=none)/\dl P ops os (σ.app o.dst e) K)\/ ∃F:St->Prop,Nr P ops o σ F/\ ∀σ',F σ'->dl P ops os σ' K
def hid (hs:List Nat) (B:BF):BF:=fun k=>bif hs.any (Nat.beq k) then none else B k
def afN (hs:List Nat) (B M:BF):Eff->BF
 | .s k _ _=>fun l=>bif Nat.beq l k then M l else hid hs B l
 | .rs k _ _ _=>fun l=>bif Nat.beq l k then M l else hid hs B l
 |_=>hid hs B
def iW (o:Oper):Bool:=match o.op with
 | .call _=>true
 |_=>false
def bL (o:Oper):List Nat:=(o.after.toList.filter (Region.binds .any)).map (·.on)
def rU (ops:Array Oper):Bool:=
 (List.range ops.size).all fun j=>match ops[j]? with
  |none=>false
  |some p=> !iW p||(List.range j).all fun i=>match ops[i]? with
   |none=>false
   |some o=> !iW o||(bL p).any (Nat.beq i)||(List.range j).any fun q=>Nat.blt i q&&match ops[q]? with
    |none=>false
    |some h=>iW h&&(bL p).any (Nat.beq q)
def afS (ops:Array Oper) (hs:List Nat) (h:List Oper) (o:Oper) (B:BF) (sd:List Nat) (e:Eff):Prop:=
 ∀k U cs x,e=.rs k U cs x->hs.any (Nat.beq k)=true/\B k≠none/\k∉sd/\h.all (fun o=>o.dst.isSome)=true/\iW o=true/\rU ops=true/\hs.any (Nat.beq 999999)=false
def Ao (o:Oper):Bool:=match o.op with
 | .store ..=>true
 |_=>false
def Kw (hs:List Nat) (o:Oper):Bool:=Ao o||(iW o&& !hs.any (Nat.beq 999999))
def pK (ops:Array Oper):Bool:=
 (List.range ops.size).all fun j=>match ops[j]? with
  |none=>false
  |some p=> !Ao p||(List.range j).all fun i=>match ops[i]? with
   |none=>false
   |some o=> !Ao o||(bL p).any (Nat.beq i)
theorem BO (h:pK ops=true) (H:i<j) (ho:ops[i]? =some o) (K:ops[j]? =some p) (J:Ao o=true) (I:Ao p=true):i∈bL p:=by have E:=lj.1 h j (iC.2 (ll.1 K).1);rw[K] at E;dsimp only at E;rw[I] at E;have D:=lj.1 E i (iC.2 H);rw[ho] at D;dsimp only at D;rw[J] at D;simp only[Bool.not_true,Bool.false_or,vC] at D;obtain⟨x,N,R⟩:=D;rw[fe R];exact N
def UU (hs:List Nat) (ops:Array Oper) (o:Oper):Bool:=match o.dst with
 |none=>false
 |some d=>(List.range ops.size).all fun i=>match ops[i]? with
  |none=>false
  |some p=> !(match p.dst with|none=>false|some h=>Nat.beq h d)||(List.range ops.size).all fun j=>match ops[j]? with
   |none=>false
   |some q=> !Kw hs q||(bL q).any (Nat.beq i)
theorem aaW {q:Oper}(h:UU hs ops o=true) (J:ops[i]? =some o) (I:ops[j]? =some q) (R:Kw hs q=true):i∈bL q:=by
 unfold UU at h;cases H:o.dst with
 |none=>rw[H] at h;cases h
 |some d=>
  rw[H] at h;have D:=lj.1 h i (iC.2 (ll.1 J).1);rw[J] at D;dsimp only at D;rw[H] at D;dsimp only at D;rw[vT] at D;have E:=lj.1 D j (iC.2 (ll.1 I).1);rw[I] at E;dsimp only at E;rw[R] at E;simp only[Bool.not_true,Bool.false_or,vC] at E;obtain⟨x,K,N⟩:=E;rw[fe N];exact K
theorem OS (h:iW o=true) (D:hs.any (Nat.beq 999999)=false):Kw hs o=true:=by unfold Kw;rw[h,D];simp
theorem Wg (h:Ao o=true):Kw hs o=true:=by unfold Kw;rw[h];rfl
def aa6 (P:Program) (ops:Array Oper) (hs:List Nat) (o:Oper) (T:TF) (B M:BF) (e:Eff):Prop:=Sem P ops o T (afN hs B M e) e\/(UU hs ops o=true/\(∃x,e=.r x)/\Sem P ops o T B e)
def dq (P:Program) (ops:Array Oper) (hs:List Nat):List Oper->Sq->(Sq->Prop)->Prop
 |[],s,K=>K s
 |o::os,s,K=> ∃e,aa6 P ops hs o s.st.T s.st.B s.M e/\(∀k x,e≠ .c k x)/\(∀k U cs,e=.s k U cs->hs.any (Nat.beq k)=true/\(s.st.B k≠none\/k∈o.looksAt ops)/\(k∉s.sd\/pK ops=true)/\Ao o=true)/\afS ops hs os o s.st.B s.sd e/\(∀U cs sl,e=.a U cs sl-> ∃d,o.dst=some d/\s.M d=none)/\dq P ops hs os (s.app o.dst e) K
def Ju (l:List Oper) (es:List Eff):=List.zipWith (fun(o:Oper) e=>uT o.dst e) l es
def ws (l:List Oper) (es:List Eff):=List.zipWith (fun(o:Oper) e=>uB o.dst e) l es
theorem Ld (s:Sq) (d:Option Nat) (e:Eff) (k:Nat) (h:k∉(s.app d e).sd):k∉s.sd:=by cases d<;>cases e<;>first|exact h|exact fun D=>h (gF _ D)
theorem HT {P:Program}{ops:Array Oper}{hs:List Nat}{K:Sq->Prop}: ∀(l:List Oper) (s:Sq),dq P ops hs l s K-> ∃es:List Eff,es.length=l.length/\
 (∀(i:Nat) (o:Oper) (e:Eff),l[i]? =some o->es[i]? =some e->aa6 P ops hs o (gN (fun j=>decide (j<i)) 0 (Ju l es) s.st.T) s.st.B (gN (fun j=>decide (j<i)) 0 (ws l es) s.M) e/\(∀k x,e≠ .c k x)/\(∀k U cs,e=.s k U cs->hs.any (Nat.beq k)=true/\(s.st.B k≠none\/k∈o.looksAt ops)/\(k∉s.sd\/pK ops=true)/\Ao o=true)/\
  (∀k U cs x,e=.rs k U cs x->hs.any (Nat.beq k)=true/\s.st.B k≠none/\k∉s.sd/\iW o=true/\rU ops=true/\hs.any (Nat.beq 999999)=false)/\
  (∀U cs sl,e=.a U cs sl-> ∃d,o.dst=some d/\gN (fun j=>decide (j<i)) 0 (ws l es) s.M d=none))/\
 (∀(i j:Nat) k U cs J D,es[i]? =some (.s k U cs)->es[j]? =some (.s k J D)->i=j\/pK ops=true)/\
 (∀(i j:Nat) k U cs J D x,es[i]? =some (.s k U cs)->es[j]? =some (.rs k J D x)->False)/\
 ∃s':Sq,s'.st.n=s.st.n/\s'.st.T=gN (fun _=>true) 0 (Ju l es) s.st.T/\s'.M=gN (fun _=>true) 0 (ws l es) s.M/\K s'
 |[],s,h=>⟨[],rfl,fun i o e ho=>by simp at ho,fun i j k U cs J D h=>by simp at h,fun i j k U cs J D x h=>by simp at h,s,rfl,rfl,rfl,h⟩
 |o::l,s,h=>by
  obtain⟨e,a5,I,hn,R,ha,h⟩:=h;obtain⟨es,hl,N,a4,a3,s',h1,h2,h3,h4⟩:=HT l _ h;refine⟨e::es,by simp[hl],?_,?_,?_,s',h1.trans (abg _ _ _),?_,?_,h4⟩
  ·intro i o' e' ho H;cases i with
   |zero=>
    simp at ho H;subst ho H;refine⟨?_,I,hn,fun k U cs x H=>⟨(R k U cs x H).1,(R k U cs x H).2.1,(R k U cs x H).2.2.1,(R k U cs x H).2.2.2.2⟩,?_⟩
    ·rw[show gN (fun j=>decide (j<0)) 0 (Ju (o::l) (e::es)) s.st.T=s.st.T from funext fun t=>iA _ _ _ (fun j u _ hm=>by simp at hm),show gN (fun j=>decide (j<0)) 0 (ws (o::l) (e::es)) s.M=s.M from funext fun t=>iA _ _ _ (fun j u _ hm=>by simp at hm)];exact a5
    ·rw[show gN (fun j=>decide (j<0)) 0 (ws (o::l) (e::es)) s.M=s.M from funext fun t=>iA _ _ _ (fun j u _ hm=>by simp at hm)];exact ha
   |succ i=>
    have:=N i o' e' (by simpa using ho) (by simpa using H);have e1:gN (fun j=>decide (j<i+1)) 0 (Ju (o::l) (e::es)) s.st.T=gN (fun j=>decide (j<i)) 0 (Ju l es) (s.app o.dst e).st.T:=by show gN (fun j=>decide (j<i+1)) (0+1) (Ju l es) (if decide (0<i+1)=true then(fun t=>(uT o.dst e t).getD (s.st.T t)) else s.st.T)=_;rw[mR,Q2,<-O0 _ _ _ I];simp
    have e2:gN (fun j=>decide (j<i+1)) 0 (ws (o::l) (e::es)) s.M=gN (fun j=>decide (j<i)) 0 (ws l es) (s.app o.dst e).M:=by show gN (fun j=>decide (j<i+1)) (0+1) (ws l es) (if decide (0<i+1)=true then(fun t=>(uB o.dst e t).getD (s.M t)) else s.M)=_;rw[mR,Tj _ _ _ I,<-S1 _ _ _ I];simp
    rw[aa1 _ _ _ I,<-e1,<-e2] at this;exact⟨this.1,this.2.1,fun k U cs H=>⟨(this.2.2.1 k U cs H).1,(this.2.2.1 k U cs H).2.1,(this.2.2.1 k U cs H).2.2.1.imp (Ld s o.dst e k) id,(this.2.2.1 k U cs H).2.2.2⟩,fun k U cs x H=>⟨(this.2.2.2.1 k U cs x H).1,(this.2.2.2.1 k U cs x H).2.1,Ld s o.dst e k (this.2.2.2.1 k U cs x H).2.2.1,(this.2.2.2.1 k U cs x H).2.2.2⟩,this.2.2.2.2⟩
  ·intro i j k U cs J D hi E;have a0: ∀(j:Nat) J D,es[j]? =some (.s k J D)-> ∀U cs,e=.s k U cs->pK ops=true:=by
    intro j J D E U cs H;have a1:j<l.length:=by rw[<-hl];exact(fb.1 E).1
    have h5:=(N j l[j] _ (dY a1) E).2.2.1 k J D rfl;subst H;rcases h5.2.2.1 with h6|h6;·exact absurd (by cases o.dst<;>exact f7 ..) h6
    ·exact h6
   cases i with
   |zero=>
    cases j with
    |zero=>exact .inl rfl
    |succ j=>simp at hi E;exact .inr (a0 j J D E U cs hi)
   |succ i=>
    cases j with
    |zero=>simp at hi E;exact .inr (a0 i U cs hi J D E)
    |succ j=>simp at hi E;exact(a4 i j k U cs J D hi E).imp (fun e=>by rw[e]) id
  ·intro i j k U cs J D x hi E;cases i with
   |zero=>
    simp at hi;cases j with
    |zero=>simp at E;rw[hi] at E;cases E
    |succ j=>
     simp at E;subst hi;have a1:j<l.length:=by rw[<-hl];exact(fb.1 E).1
     have h5:=(N j l[j] _ (dY a1) E).2.2.2.1 k J D x rfl;exact h5.2.2.1 (by cases o.dst<;>exact f7 ..)
   |succ i=>
    simp at hi;cases j with
    |zero=>
     simp at E;have a2:i<l.length:=by rw[<-hl];exact(fb.1 hi).1
     have h5:=(N i l[i] _ (dY a2) hi).1;have h6:(l[i]).dst=none:=by
      rcases h5 with h5|⟨_,⟨x,hx⟩,_⟩;·exact h5.1
      grind
     have h7:=(R k J D x E).2.2.2.1;have h8:=lj.1 h7 l[i] (y8 a2);rw[h6] at h8;cases h8
    |succ j=>simp at E;exact a3 i j k U cs J D x hi E
  ·rw[h2,Q2,<-O0 _ _ _ I];show _=gN (fun _=>true) (0+1) (Ju l es) (if true=true then(fun t=>(uT o.dst e t).getD (s.st.T t)) else s.st.T);rw[mR];simp
  ·rw[h3,Tj _ _ _ I,<-S1 _ _ _ I];show _=gN (fun _=>true) (0+1) (ws l es) (if true=true then(fun t=>(uB o.dst e t).getD (s.M t)) else s.M);rw[mR];simp
theorem CT {γ:Type}{mask:Nat->Bool}{t:Nat}: ∀(us:List (Nat->Option (Option γ))) (k:Nat) (F:Nat->Option γ),F t≠none->(∀u∈us,u t≠some none)->gN mask k us F t≠none
 |[],_,_,h,_=>h
 |u::us,k,F,h,hu=>by
  refine CT us (k+1) _ ?_ (fun E D=>hu E (gF _ D));split
  ·show(u t).getD (F t)≠none;cases H:u t with
   |none=>exact h
   |some x=>
    cases x with
    |none=>exact absurd H (hu u (f7 ..))
    |some y=>simp
  ·exact h
theorem ww {P:Program}{ops:Array Oper}{Q:Exit->Act->World->Prop}{av:Nat->Prop}{w0:Ent}{K:St->Prop}: ∀(l:List Oper) (E:St) (β:Nat->Nat) (a:Act) (w:World),
 (∀o∈l,∀t,o.dst=some t->t<E.n)->dl P ops l E K->Rel av w0 E.n E.T E.B β a w->(∀σ' D H w',σ'.n=E.n->K σ'->Rel av w0 σ'.n σ'.T σ'.B D H w'->Q .normal H w')->wpList P ops Q l a w
 |[],E,β,a,w,_,J,hr,hq=>hq E β a w rfl J hr
 |o::l,E,β,a,w,hn,J,hr,hq=>by
  rcases J with⟨e,hs,ha,J⟩|⟨F,hs,J⟩
  ·refine hr.step hs (fun t I=>hn o (by simp) t I) (fun _ _ _ h=>h) (fun _ _ h=>h) ha (fun D H w' N=>?_);refine ww l (E.app o.dst e) D H w' (fun o' R t I=>by rw[MT];exact hn o' (by simp[R]) t I) J ?_ (fun σ' D H w' h1 h2 h3=>hq σ' D H w' (by rw[h1,MT]) h2 h3);rw[MT,pT,Zg];exact N
  ·obtain⟨hw,hg⟩:=hs av w0 β a w hr (fun t I=>hn o (by simp) t I);unfold wpList;rw[if_pos hw];refine .inl (hg.wp fun v w' ⟨σ',D,hF,a0,N⟩=>?_);exact ww l σ' D _ w' (fun o' R t I=>by rw[a0];exact hn o' (by simp[R]) t I) (J σ' hF) (by rw[a0];exact N) (fun a1 D H w' h1 h2 h3=>hq a1 D H w' (by rw[h1,a0]) h2 h3)
def cA (N k:Nat):Array Bool:=((List.range N).map (fun i=>Nat.blt i k)).toArray
def Kr (ops:Array Oper) (m n:Nat):Bool:=
 Nat.ble m ops.size&&
 ((List.range ops.size).all fun i=>match ops[i]? with
  |none=>false
  |some o=>(bL o).all (fun j=>Nat.blt j i)&&(match o.dst with|none=>true|some d=>Nat.blt d n))&&
 ((List.range m).all fun i=>match ops[i]? with
  |none=>false
  |some o=>(List.range m).all fun j=>Nat.beq i j||match ops[j]? with
   |none=>false
   |some p=>match p.dst with
    |none=>true
    |some d=>(match o.dst with|none=>true|some h=> !Nat.beq h d)&&(!(o.looksAt ops).any (Nat.beq d)||(bL o).any (Nat.beq j)||(bL p).any (Nat.beq i)))&&
 ((List.range ops.size).all fun t=>Nat.blt t m||match ops[t]? with
  |none=>false
  |some o=>(bL o).any (fun j=>Nat.ble m j)||(List.range m).all fun p=>(bL o).any (Nat.beq p)||(List.range m).any fun q=>Nat.blt p q&&match ops[q]? with
   |none=>false
   |some D=>(bL D).any (Nat.beq p))&&
 ((List.range ops.size).all fun k=>Nat.blt k m||(match Region.ready .any ops (cA ops.size k) with|[j]=>Nat.beq j k|_=>false))
structure Chk (ops:Array Oper) (m n:Nat):Prop where
 le:m<=ops.size
 low: ∀(i:Nat) (o:Oper) (j:Nat),ops[i]? =some o->j∈bL o->j<i
 dn: ∀(i:Nat) (o:Oper) (t:Nat),ops[i]? =some o->o.dst=some t->t<n
 dist: ∀(i j:Nat) (o p:Oper) (d:Nat),i<m->j<m->ops[i]? =some o->ops[j]? =some p->o.dst=some d->p.dst=some d->i=j
 dep: ∀(i j:Nat) (o p:Oper) (d:Nat),i<m->j<m->i≠j->ops[i]? =some o->ops[j]? =some p->p.dst=some d->d∈o.looksAt ops->j∈bL o\/i∈bL p
 tl: ∀(t:Nat) (o:Oper),m<=t->ops[t]? =some o->(∃j,j∈bL o/\m<=j)\/ ∀p,p<m->p∈bL o\/ ∃(q:Nat) (oq:Oper),p<q/\q<m/\ops[q]? =some oq/\p∈bL oq
 rdy: ∀k:Nat,m<=k->k<ops.size->Region.ready .any ops (cA ops.size k)=[k]
theorem jt {l:List Nat}{d:Nat}:l.any (Nat.beq d)=true↔d∈l:=by simp_all
theorem cJ {a b:Nat}:Nat.blt a b=true↔a<b:=by simp[Nat.blt,Nat.ble_eq,Nat.lt_iff_add_one_le]
theorem Chk.of {m:Nat}(h:Kr ops m n=true):Chk ops m n:=by
 unfold Kr at h;simp only[de,lj,iC] at h;obtain⟨⟨⟨⟨h1,h2⟩,h3⟩,h4⟩,h5⟩:=h;have H: ∀ {i:Nat}{o:Oper},ops[i]? =some o->i<ops.size:=fun h=>(ll.1 h).1;refine⟨Nat.le_of_ble_eq_true h1,?_,?_,?_,?_,?_,?_⟩
 ·intro i o j D E;have:=h2 i (H D);rw[D] at this;simp only[de,lj] at this;exact cJ.1 (this.1 j E)
 ·intro i o t D ht;have:=h2 i (H D);rw[D] at this;simp only[de,ht] at this;exact cJ.1 this.2
 ·intro i j o p d hi E D J R he;have:=h3 i hi;rw[D] at this;simp only[lj,iC] at this;have:=this j E;rw[J] at this;simp only[he,R,tV,de] at this;rcases this with h|h;·exact fe h
  ·have:=h.1;rw[vT] at this;cases this
 ·intro i j o p d hi E N D J R he;have:=h3 i hi;rw[D] at this;simp only[lj,iC] at this;have:=this j E;rw[J] at this;simp only[R,tV,de] at this;rcases this with h|h;·exact absurd (fe h) N
  ·rcases h.2 with(h|h)|h;·rw[jt.2 he] at h;cases h
   ·exact .inl (jt.1 h)
   ·exact .inr (jt.1 h)
 ·intro t o ht D;have:=h4 t (H D);rw[D] at this;simp only[tV,lj,vC,iC,de] at this;rcases this with h|h|h;·have:=cJ.1 h;omega
  ·obtain⟨j,E,h⟩:=h;exact .inl ⟨j,E,eQ h⟩
  ·refine .inr fun p J=>?_;rcases h p J with h|⟨q,hq,h,K⟩;·obtain⟨x,hx,hb⟩:=h;rw[fe hb];exact .inl hx
   ·cases I:ops[q]? with
    |none=>rw[I] at K;cases K
    |some oq=>
     rw[I] at K;exact .inr ⟨q,oq,cJ.1 h,hq,I,jt.1 K⟩
 ·intro k hk a0;have:=h5 k a0;simp only[tV] at this;rcases this with h|h;·have:=cJ.1 h;omega
  ·generalize Region.ready .any ops (cA ops.size k)=r at h;match r,h with
   |[j],h=>rw[fe h]
theorem Gt (N k i:Nat) (d:Bool) (hi:i<N):(cA N k).getD i d=Nat.blt i k:=by unfold cA;simp[hi]
theorem Gl {N k:Nat}(_E:k<N):(cA N k).setIfInBounds k true=cA N (k+1):=by
 apply Array.ext (by simp[cA]);intro i h D;simp[cA] at h D⊢;rw[List.getElem_set];split;·simp_all
 ·simp only[List.getElem_map,List.getElem_range];rw[Bool.eq_iff_iff,cJ,cJ];omega
theorem uh {e:Edge}(h:e∈o.after) (D:Region.binds .any e=true):e.on∈bL o:=
 nC.2 ⟨e,List.mem_filter.2 ⟨Array.mem_toList_iff.2 h,D⟩,rfl⟩
theorem i7 (h:j∈bL o): ∃e∈o.after,Region.binds .any e=true/\e.on=j:=by obtain⟨e,D,h⟩:=nC.1 h;grind
section
variable {P:Program}{ops:Array Oper}{Q:Exit->Act->World->Prop}{av:Nat->Prop}{w0:Ent}{m n:Nat}
theorem xg (R:Chk ops m n) {K:St->Prop}(hQ: ∀σ' β a w,σ'.n=n->K σ'->Rel av w0 n σ'.T σ'.B β a w->Q .normal a w): ∀(l:List Oper) (k:Nat) (D:St) (fuel:Nat) (β:Nat->Nat) (a:Act) (w:World),
 m<=k->(∀j:Nat,l[j]? =ops[k+j]?)->k+l.length=ops.size->D.n=n->dl P ops l D K->Rel av w0 n D.T D.B β a w->l.length<=fuel->wpAny P .any ops Q fuel (cA ops.size k) a w
 |[],k,D,fuel,β,a,w,_,_,hk,hn,E,hr,_=>by refine wpAny_done ?_ (hQ D β a w hn E hr) fuel;refine List.eq_nil_iff_forall_not_mem.2 fun j hj=>?_;obtain⟨h0,o,J,_⟩:=mem_ready.1 hj;have a0:=(ll.1 J).1;rw[Gt _ _ _ _ a0] at h0;have:Nat.blt j k=true:=cJ.2 (by simp at hk;omega);rw[this] at h0;cases h0
 |o::l,k,D,0,β,a,w,_,_,_,_,_,_,hf=>by simp at hf
 |o::l,k,D,fuel+1,β,a,w,hmk,hl,hk,hn,E,hr,hf=>by
  have J:ops[k]? =some o:=by have:=hl 0;simpa using this.symm
  have N:k<ops.size:=(ll.1 J).1;refine wpAny_all (R.rdy k hmk N) (by simp) ?_;intro i hi;obtain rfl:i=k:=by simpa using hi
  rw[Gl N];unfold wpOp;rw[J];rcases E with⟨e,hs,ha,E⟩|⟨F,hs,E⟩
  ·refine hr.step hs (fun t ht=>R.dn i o t J ht) (fun _ _ _ h=>h) (fun _ _ h=>h) ha (fun H a' w' I=>?_);refine xg R hQ l (i+1) (D.app o.dst e) fuel H a' w' (by omega) (fun j=>by have:=hl (j+1);rw[show i+1+j=i+(j+1) from by omega];simpa using this) (by simp at hk;omega) (by rw[MT];exact hn) E ?_ (by simpa using hf);rw[pT,Zg];exact I
  ·obtain⟨hw,hg⟩:=hs av w0 β a w (by rw[hn];exact hr) (fun t ht=>by rw[hn];exact R.dn i o t J ht);refine(if_pos hw).mpr (.inl (hg.wp fun v w' ⟨σ',H,hF,a1,I⟩=>?_));exact xg R hQ l (i+1) σ' fuel H _ w' (by omega) (fun j=>by have:=hl (j+1);rw[show i+1+j=i+(j+1) from by omega];simpa using this) (by simp at hk;omega) (by rw[a1,hn]) (E σ' hF) (by rw[<-hn];exact I) (by simpa using hf)
def KR (listed:Array Bool):Nat:=listed.toList.countP (fun b=> !b)
theorem AO (hi:i<listed.size) (h:listed.getD i true=false):KR (listed.setIfInBounds i true)+1=KR listed:=by
 have D:listed.toList[i]? =some false:=by simp_all
 unfold KR;grind
theorem xE (hi:i<listed.size) (h:listed.getD i true=false):1<=KR listed:=by have:=AO hi h;omega
theorem kP (hi:i<listed.size) (d h:Bool):listed.getD i d=listed.getD i h:=by simp[Array.getD,hi]
theorem pq {γ:Type}(f:Oper->Eff->γ) {l:List Oper}{u:γ}(h:(List.zipWith f l es)[j]? =some u): ∃o e,l[j]? =some o/\es[j]? =some e/\u=f o e:=by grind
theorem I1 (K:rU ops=true) (N:i<j) (ho:ops[i]? =some o) (hp:ops[j]? =some p) (a0:iW o=true) (R:iW p=true):
 i∈bL p\/ ∃(q:Nat) (J:Oper),i<q/\q<j/\ops[q]? =some J/\iW J=true/\q∈bL p:=by
 have I:=lj.1 K j (iC.2 (ll.1 hp).1)
 rw[hp] at I
 dsimp only at I
 rw[R] at I
 have D:=lj.1 I i (iC.2 N)
 rw[ho] at D
 simp only[tV] at D
 rcases D with D|D
 ·simp_all
 ·obtain⟨q,hq,H⟩:=vC.1 D
  simp only[de] at H
  obtain⟨H,E⟩:=H
  cases h:ops[q]? with
  |none=>rw[h] at E;cases E
  |some J=>
   rw[h] at E
   simp only[de] at E
   exact .inr ⟨q,J,cJ.1 H,iC.1 hq,h,E.1,jt.1 E.2⟩
theorem wj (E:rU ops=true) {listed:Array Bool}(D: ∀i o j,listed.getD i false=true->ops[i]? =some o->j∈bL o->listed.getD j false=true):
 ∀(d j i:Nat) (o p:Oper),j<=d->i<j->ops[i]? =some o->ops[j]? =some p->iW o=true->iW p=true->listed.getD j false=true->listed.getD i false=true
 |0,j,i,o,p,hd,hij,_,_,_,_,_=>by omega
 |d+1,j,i,o,p,hd,hij,ho,hp,hco,hcp,hj=>by
  rcases I1 E hij ho hp hco hcp with h|⟨q,N,K,R,H,I,J⟩;·exact D j p i hj hp h
  ·exact wj E D d q i o N (by omega) K ho H hco I (D j p q hj hp J)
theorem NA (E:rU ops=true) (I: ∀i o j,listed.getD i false=true->ops[i]? =some o->j∈bL o->listed.getD j false=true)
 {j i:Nat}{o p:Oper}(H:i<j) (N:ops[i]? =some o) (hp:ops[j]? =some p) (D:iW o=true) (J:iW p=true) (K: ∀q,q∈bL p->listed.getD q false=true):listed.getD i false=true:=by
 rcases I1 E H N hp D J with h|⟨q,oq,h1,h2,R,h4,h5⟩
 ·grind
 ·exact wj E I q q i o oq (bd _) h1 N R D h4 (K q h5)
theorem UI (hc:Chk ops m n) {T0:TF}{B0 M0:BF}(hM: ∀k c,B0 k=some c->M0 k=some c) (n2:es.length=m)
 (i6: ∀(i j:Nat) k U cs U' a4,es[i]? =some (.s k U cs)->es[j]? =some (.s k U' a4)->i=j\/pK ops=true)
 (d4: ∀(i j:Nat) k U cs U' a4 x,es[i]? =some (.s k U cs)->es[j]? =some (.rs k U' a4 x)->False)
 (a2: ∀(i:Nat) (o:Oper) (e:Eff),(ops.toList.take m)[i]? =some o->es[i]? =some e->aa6 P ops hs o (gN (fun j=>decide (j<i)) 0 (Ju (ops.toList.take m) es) T0) B0 (gN (fun j=>decide (j<i)) 0 (ws (ops.toList.take m) es) M0) e/\(∀k x,e≠ .c k x)/\(∀k U cs,e=.s k U cs->hs.any (Nat.beq k)=true/\(B0 k≠none\/k∈o.looksAt ops)/\(k∉sd\/pK ops=true)/\Ao o=true)/\
  (∀k U cs x,e=.rs k U cs x->hs.any (Nat.beq k)=true/\B0 k≠none/\k∉sd/\iW o=true/\rU ops=true/\hs.any (Nat.beq 999999)=false)/\
  (∀U cs sl,e=.a U cs sl-> ∃d,o.dst=some d/\gN (fun j=>decide (j<i)) 0 (ws (ops.toList.take m) es) M0 d=none))
 (hQ: ∀β a w fuel,ops.size-m<=fuel->Rel av w0 n (gN (fun _=>true) 0 (Ju (ops.toList.take m) es) T0) (gN (fun _=>true) 0 (ws (ops.toList.take m) es) M0) β a w->wpAny P .any ops Q fuel (cA ops.size m) a w):
 ∀(fuel:Nat) (listed:Array Bool) (β:Nat->Nat) (a:Act) (w:World),listed.size=ops.size->KR listed<=fuel->
  (∀i o j,listed.getD i false=true->ops[i]? =some o->j∈bL o->listed.getD j false=true)->(∀t,m<=t->listed.getD t false=false)->
  Rel av w0 n (gN (fun j=>listed.getD j false) 0 (Ju (ops.toList.take m) es) T0) (gN (fun j=>listed.getD j false) 0 (ws (ops.toList.take m) es) M0) β a w->wpAny P .any ops Q fuel listed a w:=by
 have a0: ∀ {i:Nat}{o:Oper},i<m->ops[i]? =some o->(ops.toList.take m)[i]? =some o:=by intro i o hi ho;rw[j6,if_pos hi,kj];exact ho
 have E: ∀ {i:Nat}{o:Oper},(ops.toList.take m)[i]? =some o->i<m/\ops[i]? =some o:=by
  intro i o h;rw[j6] at h;split at h;·rename_i hi;rw[kj] at h;exact⟨hi,h⟩
  ·cases h
 have k7: ∀(t:Nat),∀u∈ws (ops.toList.take m) es,u t≠some none:=by intro t u hu;obtain⟨j,N⟩:=yI hu;obtain⟨o,e,_,_,rfl⟩:=pq _ N;exact V1 _ _ _
 have i8: ∀(d j:Nat) k U cs,j<d->es[j]? =some (.s k U cs)->M0 k≠none\/ ∃j0 o0 U0 cs0 c0,j0<m/\ops[j0]? =some o0/\es[j0]? =some (.a U0 cs0 c0)/\o0.dst=some k/\ ∀H,ops[j]? =some H->j0∈bL H:=by
  intro d;induction d with
  |zero=>intro j k U cs h0;omega
  |succ d n1=>
  intro j k U cs q3 N;have I:j<m:=by rw[<-n2];exact(fb.1 N).1
  have f0:j<ops.size:=kE I hc.le;obtain⟨i5,_,hh,_⟩:=a2 j ops[j] _ (a0 I (qS f0)) N;obtain⟨_,⟨cs0,R⟩,_⟩:=i5.resolve_right (by rintro⟨_,⟨x,hx⟩,_⟩;cases hx);have R:(bif Nat.beq k k then gN (fun j'=>decide (j'<j)) 0 (ws (ops.toList.take m) es) M0 k else hid hs B0 k)=some (U,cs0):=R;rw[vT] at R;have R:gN (fun j'=>decide (j'<j)) 0 (ws (ops.toList.take m) es) M0 k=some (U,cs0):=R;by_cases b4:M0 k=none
  ·refine .inr ?_;apply jZ;intro e6;rw[iA _ _ _ ?_,b4] at R;·cases R
   ·intro j0 u n4 m4;apply jZ;intro hu;apply e6;obtain⟨o0,e0,K,h2,rfl⟩:=pq _ n4;have b3:j0<j:=by simpa using m4
    rcases TM hu with⟨U0,cs0,c0,rfl,hd⟩|⟨U0,cs0,rfl⟩|⟨U0,cs0,x0,rfl⟩
    ·refine⟨j0,o0,U0,cs0,c0,(E K).1,(E K).2,h2,hd,fun H D=>?_⟩;have e3:ops[j]? =some ops[j]:=qS f0;rw[e3] at D;injection D with D
     rcases(hh k U cs rfl).2.1 with h3|h3
     ·exfalso;cases hB:B0 k with
      |none=>exact h3 hB
      |some c=>rw[hM k c hB] at b4;cases b4
     ·rcases hc.dep j j0 ops[j] o0 k I (E K).1 (by omega) e3 (E K).2 hd h3 with h4|h4;·rw[<-D];exact h4
      ·have:=hc.low j0 o0 j (E K).2 h4;omega
    ·rcases n1 j0 k U0 cs0 (by omega) h2 with h7|⟨j1,o1,U1,k9,l9,g1,g2,g3,g4,g5⟩;·exact absurd b4 h7
     ·refine⟨j1,o1,U1,k9,l9,g1,g2,g3,g4,fun H D=>?_⟩;have e3:ops[j]? =some ops[j]:=qS f0;rw[e3] at D;injection D with D
      have p1:=hc.low j0 o0 j1 (E K).2 (g5 o0 (E K).2);rcases(hh k U cs rfl).2.1 with h3|h3
      ·exfalso;cases hB:B0 k with
       |none=>exact h3 hB
       |some c=>rw[hM k c hB] at b4;cases b4
      ·rcases hc.dep j j1 ops[j] o1 k I g1 (by omega) e3 g2 g4 h3 with h4|h4;·rw[<-D];exact h4
       ·have:=hc.low j1 o1 j g2 h4;omega
    ·exact(d4 j j0 k U cs U0 cs0 x0 N h2).elim
  ·exact .inl b4
 have k3: ∀(j:Nat) k U cs,es[j]? =some (.s k U cs)->M0 k≠none\/ ∃j0 o0 U0 cs0 c0,j0<m/\ops[j0]? =some o0/\es[j0]? =some (.a U0 cs0 c0)/\o0.dst=some k/\ ∀H,ops[j]? =some H->j0∈bL H:=
  fun j k U cs h=>i8 (j+1) j k U cs (by omega) h
 have p0:(ops.toList.take m).length=m:=by have:=hc.le;rw[eu,Array.length_toList];omega
 intro fuel
 induction fuel with
 |zero=>
  intro listed β a w d0 hu b5 hp hr
  have hm:m=ops.size:=by
   rcases nR m ops.size with h|h;·have:=xE (listed:=listed) (i:=m) (by omega) (by rw[kP (by omega) true false];exact hp m (bd _));omega
   ·exact Nat.le_antisymm hc.le h
  have hl: ∀i,i<m->listed.getD i false=true:=fun i hi=>by
   cases h:listed.getD i false with
   |true=>rfl
   |false=>have:=xE (listed:=listed) (i:=i) (by omega) (by rw[kP (by omega) true false];exact h);omega
  have e:listed=cA ops.size m:=by apply Array.ext (by simp[cA,d0]);intro i K h2;have h3:=hl i (by omega);simp[Array.getD,K] at h3;rw[h3];simp[cA];omega
  rw[e]
  refine hQ β a w 0 (by omega) (hr.congr (fun t=>ew _ _ _ _ rfl ?_) (fun t=>ew _ _ _ _ rfl ?_))
  ·intro j u N _
   obtain⟨o,e,K,_,_⟩:=pq _ N
   rw[dt];exact(hl j (E K).1).symm
  ·intro j u N _
   obtain⟨o,e,K,_,_⟩:=pq _ N
   rw[dt];exact(hl j (E K).1).symm
 |succ fuel ih=>
  intro listed β a w d0 hu b5 hp hr
  by_cases hl: ∀i,i<m->listed.getD i false=true
  ·have e:listed=cA ops.size m:=by
    apply Array.ext (by simp[cA,d0]);intro i K h2;by_cases a5:i<m
    ·have h3:=hl i a5;simp[Array.getD,K] at h3;rw[h3];simp[cA,a5]
    ·have h3:=hp i (by omega);simp[Array.getD,K] at h3;rw[h3];simp[cA];cases R:Nat.blt i m with
     |false=>rfl
     |true=>have:=cJ.1 R;omega
   have p4:ops.size-m<=KR listed:=by
    rw[e];unfold KR cA;have:(List.map (fun i=>Nat.blt i m) (List.range ops.size))=List.replicate m true++List.replicate (ops.size-m) false:=by
     apply List.ext_getElem (by simp;have:=hc.le;omega);intro i K h2;simp at K;by_cases a5:i<m;·rw[List.getElem_append_left (by simpa using a5)];simp[a5]
     ·rw[List.getElem_append_right (by simpa using a5)];simp;cases R:Nat.blt i m with
      |false=>rfl
      |true=>have:=cJ.1 R;omega
    simp[this,List.countP_append,List.countP_replicate]
   rw[e]
   refine hQ β a w (fuel+1) (by omega) (hr.congr (fun t=>ew _ _ _ _ rfl ?_) (fun t=>ew _ _ _ _ rfl ?_))
   ·intro j u N _
    obtain⟨o,e,K,_,_⟩:=pq _ N
    rw[dt];exact(hl j (E K).1).symm
   ·intro j u N _
    obtain⟨o,e,K,_,_⟩:=pq _ N
    rw[dt];exact(hl j (E K).1).symm
  ·refine⟨fun h0=>?_,fun i hi=>?_⟩
   ·--something may come up:the least that is not listed
    exfalso
    have l0: ∃p,p<m/\listed.getD p false=false/\ ∀q,q<p->listed.getD q false=true:=by
     have f4: ∀d p,p<=d->p<m->listed.getD p false=false-> ∃p,p<m/\listed.getD p false=false/\ ∀q,q<p->listed.getD q false=true:=by
      intro d;induction d with
      |zero=>
       intro p hd b1 d2;exact⟨p,b1,d2,fun q hq=>by omega⟩
      |succ d f3=>
       intro p hd b1 d2;by_cases hq: ∀q,q<p->listed.getD q false=true;·exact⟨p,b1,d2,hq⟩
       ·obtain⟨q,hq⟩:=y6.1 hq;obtain⟨p3,hq⟩:=yB.1 hq;exact f3 q (by omega) (by omega) (by simpa using hq)
     obtain⟨p,g6⟩:=y6.1 hl;obtain⟨b1,g6⟩:=yB.1 g6;exact f4 p p (bd _) b1 (by simpa using g6)
    obtain⟨p,b1,d2,hq⟩:=l0
    have j2:p<ops.size:=by have:=hc.le;omega
    have j4:p∈Region.ready .any ops listed:=mem_ready.2 ⟨by rw[kP (by omega) true false];exact d2,ops[p],qS j2,fun e he R=>
     hq e.on (hc.low p _ e.on (qS j2) (uh he R))⟩
    rw[h0] at j4;cases j4
   ·obtain⟨k6,o,ho,c6⟩:=mem_ready.1 hi
    have l5:i<ops.size:=(ll.1 ho).1
    have b2:listed.getD i false=false:=by rw[kP (by omega) false true];exact k6
    have a5:i<m:=by
     rcases nR i m with h|h;·exact h
     ·exfalso;rcases hc.tl i o h ho with⟨j,N,e8⟩|k5
      ·obtain⟨e,he,R,rfl⟩:=i7 N;have:=c6 e he R;rw[hp _ e8] at this;cases this
      ·apply hl;have f4: ∀d p,m-p<=d->p<m->listed.getD p false=true:=by
        intro d;induction d with
        |zero=>intro p hd b1;omega
        |succ d f3=>
         intro p hd b1;rcases k5 p b1 with R|⟨q,oq,p2,o3,k8,R⟩
         ·obtain⟨e,he,m1,e2⟩:=i7 R;rw[<-e2];exact c6 e he m1
         ·exact b5 q oq p (f3 q (by omega) o3) k8 R
       exact fun p b1=>f4 (m-p) p (bd _) b1
    obtain⟨e,he⟩: ∃e,es[i]? =some e:=⟨es[i]'(by omega),dY (by omega)⟩
    obtain⟨c9,i2,q5,o8,m0⟩:=a2 i o e (a0 a5 ho) he
    have f2: ∀(t j:Nat) u,(Ju (ops.toList.take m) es)[j]? =some u->u t≠none-> ∃H ej,j<m/\ops[j]? =some H/\es[j]? =some ej/\H.dst=some t/\u=uT H.dst ej:=by
     intro t j u N hu;obtain⟨H,ej,K,h2,rfl⟩:=pq _ N;refine⟨H,ej,(E K).1,(E K).2,h2,?_,rfl⟩;unfold uT at hu;split at hu;·assumption
     ·exact absurd rfl hu
    have c7: ∀(t j:Nat) u,(ws (ops.toList.take m) es)[j]? =some u->u t≠none-> ∃H ej,j<m/\ops[j]? =some H/\es[j]? =some ej/\((∃U cs sl,ej=.a U cs sl/\H.dst=some t/\M0 t=none)\/(∃U cs,ej=.s t U cs)\/ ∃U cs x,ej=.rs t U cs x)/\u=uB H.dst ej:=by
     intro t j u N hu;obtain⟨H,ej,K,h2,rfl⟩:=pq _ N;refine⟨H,ej,(E K).1,(E K).2,h2,?_,rfl⟩;rcases TM hu with⟨U,cs,sl,rfl,hd⟩|⟨U,cs,rfl⟩|⟨U,cs,x,rfl⟩
     ·refine .inl ⟨U,cs,sl,rfl,hd,?_⟩;obtain⟨d,d1,c3⟩:=(a2 j H _ K h2).2.2.2.2 U cs sl rfl;have:d=t:=by rw[hd] at d1;injection d1 with e;exact e.symm
      subst this;cases b4:M0 d with
      |none=>rfl
      |some c=>exact absurd c3 (CT _ _ _ (by rw[b4];simp) (k7 d))
     ·exact .inr (.inl ⟨U,cs,rfl⟩)
     ·exact .inr (.inr ⟨U,cs,x,rfl⟩)
    have m3: ∀(t j j':Nat) u u',(ws (ops.toList.take m) es)[j]? =some u->(ws (ops.toList.take m) es)[j']? =some u'->u t≠none->u' t≠none->j=j'\/(∀o',ops[j']? =some o'->j∈bL o')\/(∀o',ops[j]? =some o'->j'∈bL o')\/(rU ops=true/\(∀o',ops[j]? =some o'->iW o'=true)/\ ∀o',ops[j']? =some o'->iW o'=true):=by
     intro t j j' u u' N e4 hu c8;obtain⟨H,ej,I,D,J,hk,_⟩:=c7 t j u N hu;obtain⟨b8,n0,b0,a1,a9,l8,_⟩:=c7 t j' u' e4 c8;have e5: ∀(j:Nat) H (U:TypeId) cs x,j<m->ops[j]? =some H->es[j]? =some (.rs t U cs x)->M0 t≠none/\iW H=true/\rU ops=true:=by
      intro j H U cs x I D J;obtain⟨_,h2,_,h4,h5,_⟩:=(a2 j H _ (a0 I D) J).2.2.2.1 t U cs x rfl;refine⟨fun h=>?_,h4,h5⟩;cases hB:B0 t with
      |none=>exact h2 hB
      |some c=>rw[hM t c hB] at h;cases h
     rcases hk with⟨U,cs,sl,rfl,hd,hn⟩|⟨U,cs,rfl⟩|⟨U,cs,x,rfl⟩<;>rcases l8 with⟨U',a4,q4,rfl,d1,i1⟩|⟨U',a4,rfl⟩|⟨U',a4,x',rfl⟩;·exact .inl (hc.dist j j' H b8 t I b0 D a1 hd d1)
     ·rcases k3 j' t U' a4 a9 with h|⟨j0,o0,U0,cs0,c0,K,h2,h3,h4,h5⟩;·exact absurd hn h
      ·rw[hc.dist j j0 H o0 t I K D h2 hd h4];exact .inr (.inl h5)
     ·exact absurd hn (e5 j' b8 U' a4 x' b0 a1 a9).1
     ·rcases k3 j t U cs J with h|⟨j0,o0,U0,cs0,c0,K,h2,h3,h4,h5⟩;·exact absurd i1 h
      ·rw[hc.dist j' j0 b8 o0 t b0 K a1 h2 d1 h4];exact .inr (.inr (.inl h5))
     ·rcases i6 j j' t U cs U' a4 J a9 with h|h;·exact .inl h
      ·have s1:=((a2 j H _ (a0 I D) J).2.2.1 t U cs rfl).2.2.2;have s2:=((a2 j' b8 _ (a0 b0 a1) a9).2.2.1 t U' a4 rfl).2.2.2;rcases Nat.lt_trichotomy j j' with b3|l3|b3
       ·refine .inr (.inl fun o' h'=>?_);rw[a1] at h';injection h' with h';subst h';exact BO h b3 D a1 s1 s2
       ·exact .inl l3
       ·refine .inr (.inr (.inl fun o' h'=>?_));rw[D] at h';injection h' with h';subst h';exact BO h b3 a1 D s2 s1
     ·exact(d4 j j' t U cs U' a4 x' J a9).elim
     ·exact absurd i1 (e5 j H U cs x I D J).1
     ·exact(d4 j' j t U' a4 U cs x a9 J).elim
     ·refine .inr (.inr (.inr ⟨(e5 j H U cs x I D J).2.2,fun o' h=>?_,fun o' h=>?_⟩));·rw[D] at h;injection h with h;subst h;exact(e5 j H U cs x I D J).2.1
      ·rw[a1] at h;injection h with h;subst h;exact(e5 j' b8 U' a4 x' b0 a1 a9).2.1
    have i0:(ws (ops.toList.take m) es)[i]? =some (uB o.dst e):=by unfold ws;rw[List.getElem?_zipWith,a0 a5 ho,he]
    have hrel: ∀(t j:Nat) u,(ws (ops.toList.take m) es)[j]? =some u->u t≠none->uB o.dst e t≠none->listed.getD j false=decide (j<i):=by
     intro t j u N hu hi;obtain⟨H,ej,I,D,J,_,_⟩:=c7 t j u N hu;rcases m3 t j i u _ N i0 hu hi with h|h|h|⟨g8,h9,i4⟩;·subst h;rw[b2];simp
     ·have K:=h o ho;have h2:=hc.low i o j ho K;obtain⟨e',b6,c1,rfl⟩:=i7 K;rw[c6 e' b6 c1];simpa using h2
     ·have K:=h H D;have h2:=hc.low j H i D K;have h3:listed.getD j false=false:=by
       cases d3:listed.getD j false with
       |false=>rfl
       |true=>have:=b5 j H i d3 D K;rw[b2] at this;cases this
      rw[h3];simp;omega
     ·by_cases a6:j=i;·subst a6;rw[b2];simp
      ·rcases Nat.lt_or_gt_of_ne a6 with b3|b3
       ·rw[NA g8 b5 b3 D ho (h9 H D) (i4 o ho) (fun q hq=>by obtain⟨e',b6,c1,rfl⟩:=i7 hq;exact c6 e' b6 c1)]
        simpa using b3
       ·have h3:listed.getD j false=false:=by
         cases d3:listed.getD j false with
         |false=>rfl
         |true=>have:=wj g8 b5 j j i o H (bd _) b3 ho D (i4 o ho) (h9 H D) d3;rw[b2] at this;cases this
        rw[h3];simp;omega
    have c5: ∀j,(listed.setIfInBounds i true).getD j false=if j=i then true else listed.getD j false:=by
     intro j;by_cases a6:j=i;·subst a6;simp[Array.getD,d0,l5]
     ·rw[if_neg a6,getD_set_ne false (fun e=>a6 e.symm)]
    unfold wpOp
    rw[ho]
    have k2: ∃Bs:BF,Sem P ops o (gN (fun j=>decide (j<i)) 0 (Ju (ops.toList.take m) es) T0) Bs e/\ ∀k c,Bs k=some c->gN (fun j=>listed.getD j false) 0 (ws (ops.toList.take m) es) M0 k=some c:=by
     rcases c9 with c9|⟨j3,_,c9⟩;rotate_left
     ·refine⟨_,c9,fun k c hB=>?_⟩;rw[<-hM k c hB];refine iA _ _ _ fun j u N hm=>?_;apply jZ;intro hu;rw[dt] at hm;obtain⟨H,ej,I,D,J,f1,_⟩:=c7 k j u N hu;have e6:Kw hs H=true->False:=fun hw=>by have:=b5 j H i hm D (aaW j3 ho D hw);rw[b2] at this;cases this
      rcases f1 with⟨U,cs,sl,rfl,hd,hn⟩|⟨U,cs,rfl⟩|⟨U,cs,x,rfl⟩;·rw[hM k c hB] at hn;cases hn
      ·exact e6 (Wg ((a2 j H _ (a0 I D) J).2.2.1 k U cs rfl).2.2.2)
      ·exact e6 (OS ((a2 j H _ (a0 I D) J).2.2.2.1 k U cs x rfl).2.2.2.1 ((a2 j H _ (a0 I D) J).2.2.2.1 k U cs x rfl).2.2.2.2.2)
     refine⟨_,c9,?_⟩;intro k c hk;have a3:hid hs B0 k=some c->gN (fun j=>listed.getD j false) 0 (ws (ops.toList.take m) es) M0 k=some c:=by
      intro hk;unfold hid at hk;cases R:hs.any (Nat.beq k) with
      |true=>rw[R] at hk;cases hk
      |false=>
       rw[R] at hk;have hB:B0 k=some c:=hk;rw[<-hM k c hB];refine iA _ _ _ fun j u N hm=>?_;apply jZ;intro hu;obtain⟨H,ej,I,D,J,f1,_⟩:=c7 k j u N hu;rcases f1 with⟨U,cs,sl,rfl,hd,hn⟩|⟨U,cs,rfl⟩|⟨U,cs,x,rfl⟩;·rw[hM k c hB] at hn;cases hn
       ·have:=((a2 j H _ (a0 I D) J).2.2.1 k U cs rfl).1;rw[R] at this;cases this
       ·have:=((a2 j H _ (a0 I D) J).2.2.2.1 k U cs x rfl).1;rw[R] at this;cases this
     cases e with
     |s k' U cs=>
      replace hk:(bif Nat.beq k k' then gN (fun j=>decide (j<i)) 0 (ws (ops.toList.take m) es) M0 k else hid hs B0 k)=some c:=hk;cases R:Nat.beq k k' with
      |false=>rw[R] at hk;exact a3 hk
      |true=>
       rw[R] at hk;have g7:=fe R;subst g7;replace hk:gN (fun j=>decide (j<i)) 0 (ws (ops.toList.take m) es) M0 k=some c:=hk;rw[<-hk];refine ew _ _ _ _ rfl fun j u N hu=>?_;rw[dt];exact hrel k j u N hu (by unfold uB;simp)
     |rs k' U cs x=>
      replace hk:(bif Nat.beq k k' then gN (fun j=>decide (j<i)) 0 (ws (ops.toList.take m) es) M0 k else hid hs B0 k)=some c:=hk;cases R:Nat.beq k k' with
      |false=>rw[R] at hk;exact a3 hk
      |true=>
       rw[R] at hk;have g7:=fe R;subst g7;replace hk:gN (fun j=>decide (j<i)) 0 (ws (ops.toList.take m) es) M0 k=some c:=hk;rw[<-hk];refine ew _ _ _ _ rfl fun j u N hu=>?_;rw[dt];exact hrel k j u N hu (by unfold uB;simp)
     |r x=>exact a3 hk
     |a U cs sl=>exact a3 hk
     |c k x=>exact a3 hk
     |skip=>exact a3 hk
    obtain⟨Bs,h8,m2⟩:=k2
    refine hr.step h8 (fun t ht=>hc.dn i o t ho ht) ?_ m2 ?_ (fun l6 a' w' l7=>?_)
    ·intro t x n3 hx
     rw[<-hx]
     refine(ew _ _ _ _ rfl fun j u N hu=>?_)
     obtain⟨H,ej,I,D,_,g0,_⟩:=f2 t j u N hu
     rw[dt]
     by_cases a6:j=i
     ·subst a6;rw[b2];simp
     ·rcases hc.dep i j o H t a5 I (fun e=>a6 e.symm) ho D g0 n3 with R|R
      ·have e9:=hc.low i o j ho R
       obtain⟨e',b6,c1,rfl⟩:=i7 R
       rw[c6 e' b6 c1];simpa using e9
      ·have e9:=hc.low j H i D R
       have K:listed.getD j false=false:=by
        cases d3:listed.getD j false with
        |false=>rfl
        |true=>have:=b5 j H i d3 D R;rw[b2] at this;cases this
       rw[K];simp;omega
    ·intro U cs sl hE
     obtain⟨d,hd,c3⟩:=m0 U cs sl hE
     refine⟨d,hd,?_⟩
     rw[<-c3]
     refine ew _ _ _ _ rfl fun j u N hu=>?_
     rw[dt]
     exact hrel d j u N hu (by rw[hE];unfold uB;dsimp only;rw[if_pos hd];simp)
    ·refine ih (listed.setIfInBounds i true) l6 a' w' (by simpa using d0) (by have:=AO (listed:=listed) (i:=i) (by omega) k6;omega) ?_ ?_ ?_
     ·intro i' o' j' K h2 h3
      rw[c5] at K⊢
      by_cases a6:j'=i
      ·rw[if_pos a6]
      ·rw[if_neg a6]
       by_cases k1:i'=i
       ·subst k1
        rw[ho] at h2
        injection h2 with h2
        subst h2
        obtain⟨e',b6,c1,rfl⟩:=i7 h3
        exact c6 e' b6 c1
       ·rw[if_neg k1] at K
        exact b5 i' o' j' K h2 h3
     ·intro t ht
      rw[c5,if_neg (by omega)]
      exact hp t ht
     ·refine l7.congr (fun t=>?_) (fun k=>?_)
      ·rw[show e.tf o.dst (gN (fun j=>listed.getD j false) 0 (Ju (ops.toList.take m) es) T0) t=(uT o.dst e t).getD (gN (fun j=>listed.getD j false) 0 (Ju (ops.toList.take m) es) T0 t) from(congrFun (O0 o.dst e _ i2) t).symm]
       by_cases e1:o.dst=some t
       ·rw[show uT o.dst e t=some (some (ent t e)) from by unfold uT;rw[if_pos e1]]
        show _=some (ent t e)
        refine MI (u:=uT o.dst e) _ _ _ i ?_ ?_ ?_ ?_
        ·unfold Ju
         rw[List.getElem?_zipWith,a0 a5 ho,he]
        ·unfold uT;rw[if_pos e1]
        ·rw[dt,c5,if_pos rfl]
        ·intro j' u' e4 l4
         cases c8:u' t with
         |none=>rfl
         |some x'=>
          obtain⟨b8,n0,b0,a1,_,k4,_⟩:=f2 t j' u' e4 (by rw[c8];simp)
          exact absurd (hc.dist j' i b8 o t b0 a5 a1 ho k4 e1) l4
       ·rw[show uT o.dst e t=none from by unfold uT;rw[if_neg e1]]
        show _=gN (fun j=>listed.getD j false) 0 (Ju (ops.toList.take m) es) T0 t
        refine ew _ _ _ _ rfl fun j u N hu=>?_
        obtain⟨H,ej,I,D,_,g0,_⟩:=f2 t j u N hu
        rw[dt,c5,if_neg]
        intro e;subst e
        rw[ho] at D;injection D with D;subst D
        exact e1 g0
      ·rw[show e.bf o.dst (gN (fun j=>listed.getD j false) 0 (ws (ops.toList.take m) es) M0) k=(uB o.dst e k).getD (gN (fun j=>listed.getD j false) 0 (ws (ops.toList.take m) es) M0 k) from(congrFun (S1 o.dst e _ i2) k).symm]
       cases hu:uB o.dst e k with
       |some x=>
        show _=x
        refine x6 (u:=uB o.dst e) _ _ _ i i0 hu ?_ ?_
        ·rw[dt,c5,if_pos rfl]
        ·intro j' u' e4 b3 e8
         cases c8:u' k with
         |none=>rfl
         |some x'=>
          have:=hrel k j' u' e4 (by rw[c8];simp) (by rw[hu];simp)
          rw[dt,c5,if_neg (by omega),this] at e8
          simp at e8;omega
       |none=>
        show _=gN (fun j=>listed.getD j false) 0 (ws (ops.toList.take m) es) M0 k
        refine ew _ _ _ _ rfl fun j u N h6=>?_
        obtain⟨H,ej,I,D,J,_,rfl⟩:=c7 k j u N h6
        rw[dt,c5,if_neg]
        intro e2;subst e2
        rw[ho] at D;injection D with D;subst D
        rw[he] at J;injection J with J;subst J
        exact h6 hu
end
def mv (P:Program) (U:TypeId):Option (Bool×Nat):=
 match P.underlying U,P.info? U with
 |some d,some i=>some ((match d with| .struct _| .array _ _=>true|_=>false),i.size)
 |_,_=>none
def Nk (P:Program) (U:TypeId) (f:Nat):Option Nat:=
 match P.underlying U with
 |some (.struct fs)=>match fs[f]? with
  |some h=>match P.info? h.type with
   |some i=>if Nat.beq i.size 0 then none else some h.offset
   |none=>none
  |none=>none
 |_=>none
def FJ (P:Program) (U:TypeId):Option (List (Nat×Nat)):=
 match P.underlying U with
 |some (.struct fs)=>fs.toList.mapM fun h=>(P.info? h.type).map fun i=>(h.offset,i.size)
 |_=>none
def nK:Value->Option CellD
 | .bool b=>some (.b b)
 | .int k n=>some (.i k n)
 | .slice none 0 0=>some (.s 0 [])
 | .string s=>some (.e (.string s))
 |_=>none
def Z6:Value->Option D0
 | .agg cs=>(cs.toList.mapM nK).map .a
 |v=>(nK v).map .c
def BW (P:Program) (U:TypeId):Option (List CellD):=
 match P.info? U with
 |some i=>match i.zero with
  |some z=>(Z6 z).map D0.cells
  |none=>none
 |none=>none
def ck (T:TF):Operand->Option DV
 | .tmp t=>T t
 | .const v=>(Z6 v).map .v
 | .func g=>some (.v (.c (.f g)))
 | .global _=>none
def gd (ops:Array Oper) (o:Oper) (T:TF):Option Bool:=
 match o.guard with
 |none=>some true
 |some (g,b)=>match (ops[g]?).bind (·.dst) with
  |some t=>match T t with
   |some (.v (.c (.b v)))=>some (v==b)
   |some .u=>some false
   |_=>none
  |none=>some false
section
variable {P:Program}{ops:Array Oper}{o:Oper}{T:TF}{B:BF}{V:Nat->Prop}{β:Nat->Nat}{a:Act}{w:World}
theorem zO (h:nK v=some u):RdC V w v u:=by
 cases v with
 |bool b=>simp[nK] at h;subst h;exact .b b
 |int k n=>simp[nK] at h;subst h;exact .i k n
 |slice A n c=>
  cases A with
  |some A=>simp[nK] at h
  |none=>
   cases n with
   |zero=>
    cases c with
    |zero=>simp[nK] at h;subst h;exact .s0 none 0 (by omega)
    |succ c=>simp[nK] at h
   |succ n=>simp[nK] at h
 |string s=>simp[nK] at h;subst h;exact .e _ (fun _ e=>nomatch e) (fun _ e=>nomatch e)
 |_=>simp[nK] at h
theorem mapM_cons {h γ:Type}(f:h->Option γ) (x:h) (l:List h):(x::l).mapM f=(f x).bind fun y=>(l.mapM f).bind fun ys=>some (y::ys):=by simp_all
theorem yb: ∀(vs:List Value) (us:List CellD),vs.mapM nK=some us->RdCs V w vs us
 |[],us,h=>by
  have:us=[]:=by simpa [List.mapM_nil] using h.symm
  subst this;exact nl
 |v::vs,us,h=>by
  rw[mapM_cons] at h;cases D:nK v with
  |none=>rw[D] at h;cases h
  |some u=>
   cases E:vs.mapM nK with
   |none=>rw[D,E] at h;cases h
   |some us'=>
    rw[D,E] at h;injection h with h;subst h;exact iM (zO D) (yb vs us' E)
theorem DC (h:Z6 v=some d):RdV V w v d:=by
 unfold Z6 at h;split at h
 ·rename_i cs;cases D:cs.toList.mapM nK with
  |none=>rw[D] at h;cases h
  |some us=>rw[D] at h;injection h with h;subst h;exact⟨cs,rfl,yb _ _ D⟩
 ·cases D:nK v with
  |none=>rw[D] at h;cases h
  |some u=>rw[D] at h;injection h with h;subst h;exact zO D
theorem ao (hs:Sees V (d6 ops o) T B β a w) (H:x∈o.op.operands) (h:ck T x=some dv):RdX V w β (a.eval x) dv:=by
 cases x with
 |tmp t=>
  have hl:d6 ops o t:=yz _ (List.mem_filterMap.2 ⟨.tmp t,by simpa using H,rfl⟩);obtain⟨v,e,I⟩:=hs.tmp t dv hl h;have:a.eval (.tmp t)=v:=by show a.tmps.getD t undef=v;obtain⟨D,e⟩:=ll.1 e;simp[Array.getD,D,e]
  grind
 |const v=>
  cases E:Z6 v with
  |none=>simp[ck,E] at h
  |some d=>simp[ck,E] at h;subst h;exact DC E
 |func g=>simp[ck] at h;subst h;exact .f g
 |global g=>simp[ck] at h
theorem sG {y:DV}{k:Nat}(H:x∈o.op.operands) (h:ck T x=some y) (D:jq y=some k): ∃t y,d6 ops o t/\T t=some y/\jq y=some k:=by
 cases x with
 |tmp t=>exact⟨t,y,yz _ (List.mem_filterMap.2 ⟨.tmp t,by simpa using H,rfl⟩),h,D⟩
 |const v=>
  cases E:Z6 v with
  |none=>simp[ck,E] at h
  |some d=>simp[ck,E] at h;subst h;cases D
 |func g=>simp[ck] at h;subst h;cases D
 |global g=>simp[ck] at h
theorem eL (hs:Sees V (d6 ops o) T B β a w) (h:gd ops o T=some r):wx o ops a=r:=by
 unfold gd at h;unfold wx Region.wanted;cases E:o.guard with
 |none=>rw[E] at h;simpa using h
 |some gb=>
  obtain⟨g,b⟩:=gb;rw[E] at h;dsimp only at h⊢;unfold yielded;cases I:(ops[g]?).bind (·.dst) with
  |none=>rw[I] at h;simpa using h
  |some t=>
   rw[I] at h;dsimp only at h;have hl:d6 ops o t:=List.mem_append_right _ (by rw[E];simp[I]);cases J:T t with
   |none=>rw[J] at h;cases h
   |some dv=>
    rw[J] at h;obtain⟨v,e,D⟩:=hs.tmp t dv hl J;simp only[Option.bind_some,e];match dv,h,D with
    | .v (.c (.b c)),h,D=>
      cases D;have H:=Option.some.inj h;rw[<-H];rfl
    | .u,h,D=>
      subst D;have H:=Option.some.inj h;rw[<-H];rfl
theorem RdC.int_eq (h:RdC V w v (.i k m)):v=.int k m:=by cases h;rfl
theorem RdC.bool_eq (h:RdC V w v (.b b)):v=.bool b:=by cases h;rfl
theorem RdC.func_eq {g:FuncId}(h:RdC V w v (.f g)):v=.func (.func g) #[] #[]:=by cases h;rfl
theorem bK {x:DV}(D:gd ops o T=some true) (E: ∀k,jq x=some k-> ∃t y,d6 ops o t/\T t=some y/\jq y=some k)
 (h: ∀V β a w,Sees V (d6 ops o) T B β a w-> ∃v,(execOp a.eval o).run P w=.ok (.value v) w/\RdX V w β v x):Sem P ops o T B (.r x):=
 ⟨E,fun V β a w hs=>⟨eL hs D,by obtain⟨v,e,H⟩:=h V β a w hs;unfold Gives;rw[e];exact⟨H,ef _ _⟩⟩⟩
theorem ng (h:gd ops o T=some false):Sem P ops o T B .skip:=fun _ _ _ _ hs=>eL hs h
theorem rG {x:DV}(h:jq x=none): ∀k,jq x=some k-> ∃t y,d6 ops o t/\T t=some y/\jq y=some k:=by grind
theorem mO (h:mv P U=some (b,n)) (w:World):(isAgg U).run P w=.ok b w/\(sizeOf U).run P w=.ok n w:=by
 unfold mv at h;cases D:P.underlying U with
 |none=>rw[D] at h;cases h
 |some d=>
  cases hi:P.info? U with
  |none=>rw[D,hi] at h;cases h
  |some i=>
   rw[D,hi] at h;injection h with h;injection h with E H;constructor
   ·unfold isAgg;simp only[fq,run_underlying D,dd];rw[<-E];cases d<;>rfl
   ·unfold sizeOf typeInfo;simp[program,Sem.run,hi,<-H]
theorem d8 (b o k:Nat):(⟨b,o,none⟩:Addr).add k=⟨b,o+k,none⟩:=by unfold Addr.add;split<;>simp_all
theorem jm (h:mv P U=some (true,n)) {b:Nat}{vs:List Value}(hl:vs.length=n) (I: ∀(j:Nat) (v:Value),vs[j]? =some v->w.cell? ⟨b,off+j,none⟩=some v):
 (loadVar U ⟨b,off,none⟩).run P w=.ok (.agg vs.toArray) w:=by
 obtain⟨H,J⟩:=mO h w
 have E:=run_loadCells_list (P:=P) w ⟨b,off,none⟩ vs (fun j v D=>by rw[d8];exact I j v D)
 unfold loadVar
 simp only[fq,H,dd,if_true,J]
 rw[<-hl,E]
 rfl
theorem je (h:mv P U=some (false,n)) {b:Nat}(E:w.cell? ⟨b,off,none⟩=some v):
 (loadVar U ⟨b,off,none⟩).run P w=.ok v w:=by
 obtain⟨D,_⟩:=mO h w
 unfold loadVar
 simp only[fq,D,dd]
 simp[E]
theorem bE {b:Nat}(h:w.heap[b]? =some (.cells vs U (0,0))) (j:Nat):w.cell? ⟨b,j,none⟩=vs[j]? :=cell_of_row w b j vs U (0,0) h
theorem IU 
 (h:ck T x=some dv) (D:gd ops ⟨dst,.move x,ty,pos,af,g⟩ T=some true):Sem P ops ⟨dst,.move x,ty,pos,af,g⟩ T B (.r dv):=
 bK D (fun k e=>sG (ops:=ops) (o:=⟨dst,.move x,ty,pos,af,g⟩) (by simp[Op.operands]) h e)
  (fun V β a w hs=>⟨a.eval x,rfl,ao hs (by simp[Op.operands]) h⟩)
theorem JD 
 (h:ck T x=some dv) (D:gd ops ⟨dst,.assign x,ty,pos,af,g⟩ T=some true):Sem P ops ⟨dst,.assign x,ty,pos,af,g⟩ T B (.r dv):=
 bK D (fun k e=>sG (ops:=ops) (o:=⟨dst,.assign x,ty,pos,af,g⟩) (by simp[Op.operands]) h e)
  (fun V β a w hs=>⟨a.eval x,rfl,ao hs (by simp[Op.operands]) h⟩)
theorem bb {k:Nat}
 (hU:mv P U=some (true,n)) (H:ck T x=some (.p k off)) (R:B k=some (W,cs)) (K:(cs.drop off).take n=us) (I:us.length=n) (N:gd ops ⟨dst,.load U x,ty,pos,af,g⟩ T=some true):
 Sem P ops ⟨dst,.load U x,ty,pos,af,g⟩ T B (.r (.v (.a us))):=
 bK N (rG rfl) (fun V β a w hs=>by
  have hp:a.eval x=.pointer (some ⟨β k,off,none⟩):=ao hs (by simp[Op.operands]) H;obtain⟨_,vs,e,J⟩:=hs.box k W cs R;have h:=(J.drop off).take n;rw[K] at h;have D:=jm (w:=w) hU (b:=β k) (off:=off) (vs:=(vs.toList.drop off).take n) (by rw[h.1,I]) (fun j v E=>by
   rw[j6] at E;split at E;·rw[bE e,<-E];simp
   ·cases E)
  refine⟨_,?_,_,rfl,by simpa using h⟩;simp only[execOp,Instr.loadAt,hp,Instr.sureAddr,fq,dx,dd,D])
theorem cK {k:Nat}
 (hU:mv P U=some (false,n)) (J:ck T x=some (.p k off)) (N:B k=some (W,cs)) (I:cs[off]? =some u) (K:gd ops ⟨dst,.load U x,ty,pos,af,g⟩ T=some true):
 Sem P ops ⟨dst,.load U x,ty,pos,af,g⟩ T B (.r (.v (.c u))):=
 bK K (rG rfl) (fun V β a w hs=>by have R:a.eval x=.pointer (some ⟨β k,off,none⟩):=ao hs (by simp[Op.operands]) J;obtain⟨_,vs,e,H⟩:=hs.box k W cs N;have D:off<cs.length:=(fb.1 I).1;have E:vs.toList[off]? =some (vs.toList[off]'(by rw[H.1];exact D)):=dY _;have h:=je (P:=P) (w:=w) hU (b:=β k) (off:=off) (by rw[bE e,<-kj,E]);refine⟨_,?_,H.2 off _ _ E I⟩;simp only[execOp,Instr.loadAt,R,Instr.sureAddr,fq,dx,dd,h])
theorem bm 
 (hU:mv P U=some (true,n)) (H:ck T x=some (.q cs)) (N:cs.take n=us) (I:us.length=n) (R:gd ops ⟨dst,.load U x,ty,pos,af,g⟩ T=some true):
 Sem P ops ⟨dst,.load U x,ty,pos,af,g⟩ T B (.r (.v (.a us))):=
 bK R (rG rfl) (fun V β a w hs=>by
  obtain⟨b,off,vs,hp,_,_,J,K⟩:=ao hs (by simp[Op.operands]) H;have h:=J.take n;rw[N] at h;have D:=jm (w:=w) hU (b:=b) (off:=off) (vs:=vs.take n) (by rw[h.1,I]) (fun j v E=>by
   rw[j6] at E;split at E;·exact K j v E
   ·cases E)
  refine⟨_,?_,_,rfl,by simpa using h⟩;simp only[execOp,Instr.loadAt,hp,Instr.sureAddr,fq,dx,dd,D])
theorem bH 
 (hU:mv P U=some (false,n)) (J:ck T x=some (.q cs)) (I:cs[0]? =some u) (N:gd ops ⟨dst,.load U x,ty,pos,af,g⟩ T=some true):
 Sem P ops ⟨dst,.load U x,ty,pos,af,g⟩ T B (.r (.v (.c u))):=
 bK N (rG rfl) (fun V β a w hs=>by obtain⟨b,off,vs,R,_,_,H,K⟩:=ao hs (by simp[Op.operands]) J;have D:0<cs.length:=(fb.1 I).1;have E:vs[0]? =some (vs[0]'(by rw[H.1];exact D)):=dY _;have h:=je (P:=P) (w:=w) hU (b:=b) (off:=off) (by have:=K 0 _ E;simpa using this);refine⟨_,?_,H.2 0 _ _ E I⟩;simp only[execOp,Instr.loadAt,R,Instr.sureAddr,fq,dx,dd,h])
theorem FE (h:Nk P U f=some o'): ∃E D,P.underlying U=some (.struct E)/\E[f]? =some D/\D.offset=o'/\ ∀(a:Addr) (w:World),(fieldPlace a D).run P w=.ok (a.add o') w:=by
 unfold Nk at h;cases J:P.underlying U with
 |none=>rw[J] at h;cases h
 |some d=>
  rw[J] at h;cases d with
  |struct E=>
   dsimp only at h;cases H:E[f]? with
   |none=>rw[H] at h;cases h
   |some D=>
    rw[H] at h;dsimp only at h;cases hi:P.info? D.type with
    |none=>rw[hi] at h;cases h
    |some i=>
     rw[hi] at h;dsimp only at h;split at h;·cases h
     ·rename_i K;injection h with h;have I:i.size≠0:=fun e=>K (by rw[e];rfl);refine⟨E,D,rfl,H,h,fun a w=>?_⟩;unfold fieldPlace sizeOf typeInfo;simp[program,Sem.run,hi,I,h]
  |_=>cases h
theorem Eh {k:Nat}
 (H:Nk P U f=some o') (h:ck T x=some (.p k off)) (D:gd ops ⟨dst,.fieldAddr U x f,ty,pos,af,g⟩ T=some true):
 Sem P ops ⟨dst,.fieldAddr U x f,ty,pos,af,g⟩ T B (.r (.p k (off+o'))):=
 bK D (fun k' e=>sG (ops:=ops) (o:=⟨dst,.fieldAddr U x f,ty,pos,af,g⟩) (by simp[Op.operands]) h e)
  (fun V β a w hs=>by have E:a.eval x=.pointer (some ⟨β k,off,none⟩):=ao hs (by simp[Op.operands]) h;obtain⟨N,fd,I,J,R,K⟩:=FE H;refine⟨.pointer (some ⟨β k,off+o',none⟩),?_,rfl⟩;simp only[execOp,Instr.fieldAt,E,Instr.sureAddr,fq,dx,dd,run_underlying I,J,K,d8])
theorem eB 
 (hU:Nk P U f=some o') (E:ck T x=some (.q cs)) (J:cs.drop o'=us) (N:gd ops ⟨dst,.fieldAddr U x f,ty,pos,af,g⟩ T=some true):
 Sem P ops ⟨dst,.fieldAddr U x f,ty,pos,af,g⟩ T B (.r (.q us)):=
 bK N (rG rfl) (fun V β a w hs=>by
  obtain⟨b,off,vs,hp,R,D,H,I⟩:=ao hs (by simp[Op.operands]) E;obtain⟨fs,fd,h1,h2,h3,K⟩:=FE hU;refine⟨.pointer (some ⟨b,off+o',none⟩),?_,b,off+o',vs.drop o',rfl,R,D,by rw[<-J];exact H.drop o',fun j u h=>?_⟩;·simp only[execOp,Instr.fieldAt,hp,Instr.sureAddr,fq,dx,dd,run_underlying h1,h2,K,d8]
  ·rw[Cj] at h;rw[Nat.add_assoc];exact I (o'+j) u h)
theorem I6 
 (K:ck T x=some (.t ds)) (E:ds[i]? =some d) (I:gd ops ⟨dst,.extract x i,ty,pos,af,g⟩ T=some true):
 Sem P ops ⟨dst,.extract x i,ty,pos,af,g⟩ T B (.r (.v d)):=
 bK I (rG rfl) (fun V β a w hs=>by obtain⟨vs,J,H⟩:=ao hs (by simp[Op.operands]) K;have D:i<ds.length:=(fb.1 E).1;have h:vs.toList[i]? =some (vs.toList[i]'(by rw[H.1];exact D)):=dY _;refine⟨_,?_,H.2 i _ d h E⟩;rw[kj] at h;simp only[execOp,J,Instr.extract,h,fq,dx,dd])
def UF:BinOp->Int->Int->Option Bool
 | .eql,x,y=>some (x==y)
 | .neq,x,y=>some (x !=y)
 | .lss,x,y=>some (decide (x<y))
 | .leq,x,y=>some (decide (x<=y))
 | .gtr,x,y=>some (decide (x>y))
 | .geq,x,y=>some (decide (x>=y))
 |_,_,_=>none
theorem Nm {n:Int}
 (E:ck T x=some (.v (.c (.i k m)))) (H:ck T y=some (.v (.c (.i k n)))) (h:UF op m n=some b) (D:gd ops ⟨dst,.binOp op xt x y yt,ty,pos,af,g⟩ T=some true):
 Sem P ops ⟨dst,.binOp op xt x y yt,ty,pos,af,g⟩ T B (.r (.v (.c (.b b)))):=
 bK D (rG rfl) (fun V β a w hs=>by have I:=ao hs (x:=x) (by simp[Op.operands]) E;have N:=ao hs (x:=y) (by simp[Op.operands]) H;have K:a.eval x=.int k m:=RdC.int_eq I;have J:a.eval y=.int k n:=RdC.int_eq N;refine⟨.bool b,?_,.b b⟩;cases op<;>simp[UF] at h<;>subst h<;>simp[execOp,K,J,eqGuard,binOp,Op.intCmp])
def Bq:BinOp->IntKind->Int->Int->Option Int
 | .add,k,x,y=>some (k.wrap (x+y))
 | .sub,k,x,y=>some (k.wrap (x-y))
 | .mul,k,x,y=>some (k.wrap (x*y))
 |_,_,_,_=>none
theorem mg {n r:Int}
 (E:ck T x=some (.v (.c (.i k m)))) (H:ck T y=some (.v (.c (.i k n)))) (h:Bq op k m n=some r) (D:gd ops ⟨dst,.binOp op xt x y yt,ty,pos,af,g⟩ T=some true):
 Sem P ops ⟨dst,.binOp op xt x y yt,ty,pos,af,g⟩ T B (.r (.v (.c (.i k r)))):=
 bK D (rG rfl) (fun V β a w hs=>by have I:=ao hs (x:=x) (by simp[Op.operands]) E;have N:=ao hs (x:=y) (by simp[Op.operands]) H;have K:a.eval x=.int k m:=RdC.int_eq I;have J:a.eval y=.int k n:=RdC.int_eq N;refine⟨.int k r,?_,.i k r⟩;cases op<;>simp[Bq] at h<;>subst h<;>simp[execOp,K,J,eqGuard,binOp,Op.intArith])
theorem Ux 
 (D:ck T x=some (.v (.c (.b b)))) (h:gd ops ⟨dst,.unOp .not xt x,ty,pos,af,g⟩ T=some true):
 Sem P ops ⟨dst,.unOp .not xt x,ty,pos,af,g⟩ T B (.r (.v (.c (.b (!b))))):=
 bK h (rG rfl) (fun V β a w hs=>by have E:=ao hs (x:=x) (by simp[Op.operands]) D;have H:a.eval x=.bool b:=RdC.bool_eq E;exact⟨.bool (!b),by simp[execOp,H,Op.unary],.b _⟩)
theorem Xe 
 (D:ck T x=some (.v (.c (.i k m)))) (h:gd ops ⟨dst,.unOp .neg xt x,ty,pos,af,g⟩ T=some true):
 Sem P ops ⟨dst,.unOp .neg xt x,ty,pos,af,g⟩ T B (.r (.v (.c (.i k (k.wrap (0-m)))))):=
 bK h (rG rfl) (fun V β a w hs=>by have E:=ao hs (x:=x) (by simp[Op.operands]) D;have H:a.eval x=.int k m:=RdC.int_eq E;exact⟨.int k (k.wrap (0-m)),by simp[execOp,H,Op.unary,Op.intArith],.i _ _⟩)
theorem HL {c:Operand}
 (I:ck T c=some (.v (.c (.b b)))) (E:ck T (if b then x else y)=some dv) (D:jq dv=none) (h:gd ops ⟨dst,.pick c x y,ty,pos,af,g⟩ T=some true):
 Sem P ops ⟨dst,.pick c x y,ty,pos,af,g⟩ T B (.r dv):=
 bK h (rG D) (fun V β a w hs=>by have H:=ao hs (x:=c) (by simp[Op.operands]) I;have J:a.eval c=.bool b:=RdC.bool_eq H;have K:=ao hs (x:=if b then x else y) (by cases b<;>simp[Op.operands]) E;refine⟨_,?_,K⟩;cases b<;>simp[execOp,J,asBool])
end
def wL (T:TF):List Operand->Option (List D0)
 |[]=>some []
 |x::xs=>match ck T x with
  |some (.v d)=>match wL T xs with
   |some ds=>some (d::ds)
   |none=>none
  |_=>none
def CF:List D0->DV
 |[d]=>.v d
 |ds=>.t ds
def tG (pl:Nat->Option (Nat×Nat)):List CellD->List (Nat×D0)->Option (List CellD)
 |us,[]=>some us
 |us,(i,d)::rest=>match pl i with
  |none=>none
  |some (off,size)=>if Nat.beq d.cells.length size&&Nat.ble (off+size) us.length then tG pl (us.take off++d.cells++us.drop (off+size)) rest else none
def rD (T:TF):List (Nat×Operand)->Option (List (Nat×D0))
 |[]=>some []
 |(i,x)::xs=>match ck T x with
  |some (.v d)=>match rD T xs with
   |some ds=>some ((i,d)::ds)
   |none=>none
  |_=>none
def om (P:Program) (U:TypeId):Option Nat:=
 match P.underlying U with
 |some (.slice e)=>(P.info? e).map (·.size)
 |_=>none
section
variable {P:Program}{ops:Array Oper}{o:Oper}{T:TF}{B:BF}{V:Nat->Prop}{β:Nat->Nat}{a:Act}{w:World}
theorem p9 (hs:Sees V (d6 ops o) T B β a w): ∀(xs:List Operand) (ds:List D0),(∀x∈xs,x∈o.op.operands)->wL T xs=some ds->RdL V w (xs.map a.eval) ds
 |[],ds,_,h=>by injection h with h;subst h;exact RdL.nil
 |x::xs,ds,hx,h=>by
  unfold wL at h;split at h
  ·rename_i d H;split at h
   ·rename_i E D;injection h with h;subst h;exact qG (ao hs (hx x (by simp)) H) (p9 hs xs E (fun y I=>hx y (by simp[I])) D)
   ·cases h
  ·cases h
theorem RI {args:Array Operand}{at_:Array TypeId}{f:FuncId}
 (hf:ck T fo=some (.v (.c (.f f)))) (ha:wL T args.toList=some ds) (H:Ok P f ds rs) (hg:gd ops ⟨dst,.call ⟨.value fo,args,at_⟩,ty,pos,af,g⟩ T=some true):
 Sem P ops ⟨dst,.call ⟨.value fo,args,at_⟩,ty,pos,af,g⟩ T B (.r (CF rs)):=by
 refine⟨rG (by unfold CF;split<;>rfl),fun V β a w hs=>⟨eL hs hg,?_⟩⟩
 have h1:=RdC.func_eq (ao hs (x:=fo) (by simp[Op.operands,Call.operands]) hf)
 have h2:=p9 hs args.toList ds (fun x R=>by have N:=yx.1 R;simp[Op.operands,Call.operands,N]) ha
 have h:=H.cal
 unfold fv at h
 cases D:P.funcs[f]? with
 |none=>rw[D] at h;cases h
 |some fn=>
  rw[D] at h
  simp only[de,bne_iff_ne,ne_eq,wa] at h
  have E:(execOp a.eval ⟨dst,.call ⟨.value fo,args,at_⟩,ty,pos,af,g⟩).run P w=.ok (.enter f (args.map a.eval)) w:=by
   have K:fn.body≠none:=by have:=h.2;cases J:fn.body with
    |none=>rw[J] at this;cases this
    |some c=>simp
   simp[execOp,resolve,h1,Deferred.ofValue,invoke,callFunc,program,Sem.run,D,h.1,K]
  unfold Gives
  rw[E]
  refine(H.run V (args.map a.eval) w hs.av (by simpa using h2)).mono ?_
  rintro e w' ⟨v,rfl,I,hb⟩
  refine⟨v,rfl,?_,hb⟩
  unfold Y7 at I
  split at I
  ·exact I
  ·rename_i a0
   have e2:CF rs=.t rs:=by unfold CF;grind
   rw[e2];exact I
theorem Ws {m:Nat}
 (h:om P U=some m) (E:ck T x=some (.v (.c (.s n xs)))) (I:gd ops ⟨dst,.call ⟨.builtin .len,#[x],#[U]⟩,ty,pos,af,g⟩ T=some true):
 Sem P ops ⟨dst,.call ⟨.builtin .len,#[x],#[U]⟩,ty,pos,af,g⟩ T B (.r (.v (.c (.i .i64 n)))):=
 bK I (rG rfl) (fun V β a w hs=>by
  have D:=ao hs (x:=x) (by simp[Op.operands,Call.operands]) E;have J: ∃A c,a.eval x=.slice A n c:=by
   generalize a.eval x=v at D;cases D with
   |s0 A c _=>exact⟨A,c,rfl⟩
   |s b off c _ _ _ _=>exact⟨_,c,rfl⟩
  obtain⟨A,c,e⟩:=J;unfold om at h;split at h
  ·rename_i K H;refine⟨.int .i64 n,?_,.i _ _⟩;simp[execOp,resolve,invoke,builtin,Builtin.len_,e,run_underlying H,goInt]
  ·cases h)
theorem Or {m q D:Nat}(h:(List.range m)[q]? =some D):q<m/\D=q:=by grind
theorem ba {i:Operand}{m:Nat}{j:Int}
 (E:om P U=some m) (hx:ck T x=some (.v (.c (.s n xs)))) (hi:ck T i=some (.v (.c (.i k j)))) (hj:0<=j/\j<n) (hl:xs.length=n*m) (hu:xs.drop (j.toNat*m)=us) (hg:gd ops ⟨dst,.indexAddr U x i,ty,pos,af,g⟩ T=some true):
 Sem P ops ⟨dst,.indexAddr U x i,ty,pos,af,g⟩ T B (.r (.q us)):=
 bK hg (rG rfl) (fun V β a w hs=>by
  have J:=ao hs (x:=x) (by simp[Op.operands]) hx;have h2:=RdC.int_eq (ao hs (x:=i) (by simp[Op.operands]) hi);generalize hv:a.eval x=v at J;have J:RdC V w v (.s n xs):=J;unfold om at E;split at E;case h_2=>cases E
  rename_i el K;cases h:P.info? el with
  |none=>rw[h] at E;cases E
  |some a4=>
   rw[h] at E;simp at E;cases J with
   |s0 A c _=>omega
   |s b off c sz _ _ cv h0 a2 a3 D hb R hc hr=>
    have a0:sz=m:=by rw[hl] at D;exact(Gk h0 D).symm
    subst a0;refine⟨.pointer (some ⟨b,off+j.toNat*sz,none⟩),?_,b,off+j.toNat*sz,(List.range (n*sz-j.toNat*sz)).map (fun q=>cv (j.toNat*sz+q)),rfl,hb,R,?_,?_⟩
    ·have N: ∀w,(sizeOf el).run P w=.ok sz w:=fun w=>by unfold sizeOf typeInfo;simp[program,Sem.run,h,E]
     simp[execOp,Instr.indexAt,hv,h2,asIntOf,run_underlying K,hj.1,hj.2,N,d8]
    ·rw[<-hu];refine⟨by simp[hl],fun q v u hv hu=>?_⟩;grind
    ·intro q u I;rw[lu] at I;generalize H:(List.range (n*sz-j.toNat*sz))[q]? =r at I;match r,H,I with
     |some q',H,I=>
      simp at I;obtain⟨a1,rfl⟩:=Or H;subst I;rw[Nat.add_assoc];exact hc _ (by omega))
theorem wc (off:Nat): ∀(l:List Value) (k:Nat) (cells:Array Value),off+k+l.length<=cells.size->
 ((l.zipIdx k).foldl (fun(cs:Array Value) (p:Value×Nat)=>cs.setIfInBounds (off+p.2) p.1) cells).toList=cells.toList.take (off+k)++l++cells.toList.drop (off+k+l.length)
 |[],k,cells,_=>by simp
 |v::l,k,cells,h=>by
  simp at h;rw[List.zipIdx_cons,sP,wc off l (k+1) _ (by simp;omega)];simp only[Array.toList_setIfInBounds];have E:(cells.toList.set (off+k) v).take (off+(k+1))=cells.toList.take (off+k)++[v]:=by apply List.ext_getElem?;grind
  have D:(cells.toList.set (off+k) v).drop (off+(k+1)+l.length)=cells.toList.drop (off+k+(v::l).length):=by rw[List.drop_set_of_lt (by omega)];grind
  rw[E,D];simp
theorem v7 {pl:Nat->Option (Nat×Nat)}: ∀(ps:List (Nat×Value)) (dps:List (Nat×D0)) (cells:Array Value) (us us':List CellD),ps.length=dps.length->
 (∀(j:Nat) (p:Nat×Value) (q:Nat×D0),ps[j]? =some p->dps[j]? =some q->p.1=q.1/\RdV V w p.2 q.2)->RdCs V w cells.toList us->tG pl us dps=some us'-> ∃D,Instr.fill pl cells ps=some D/\RdCs V w D.toList us'
 |[],[],cells,us,us',_,_,hr,h=>by simp[tG] at h;subst h;exact⟨cells,rfl,hr⟩
 |[],q::dps,_,_,_,hl,_,_,_=>by simp at hl
 |p::ps,[],_,_,_,hl,_,_,_=>by simp at hl
 |(i,v)::ps,(i',d)::dps,cells,us,us',hl,hp,hr,h=>by
  obtain⟨e,hv⟩:=hp 0 (i,v) (i',d) rfl rfl;have e:i=i':=e;subst e;unfold tG at h;cases H:pl i with
  |none=>rw[H] at h;cases h
  |some os=>
   obtain⟨off,E⟩:=os;rw[H] at h;dsimp only at h;split at h
   ·rename_i K;simp only[de] at K;have h1:=fe K.1;have h2:=eQ K.2;have I:=RdV.cells hv;have N:v.cells.size=E:=by rw[<-h1,<-I.1];simp
    have a3:us.length=cells.size:=by rw[<-hr.1];simp
    have a1:=wc off v.cells.toList 0 cells (by simp;omega);have a0:RdCs V w ((v.cells.zipIdx.foldl (fun(cs:Array Value) (p:Value×Nat)=>cs.setIfInBounds (off+p.2) p.1) cells)).toList (us.take off++d.cells++us.drop (off+E)):=by
     rw[<-Array.foldl_toList];have:v.cells.zipIdx.toList=v.cells.toList.zipIdx:=by simp
     rw[this,a1];refine kG (kG (by simpa using hr.take off) I) ?_;have:=hr.drop (off+E);grind
    obtain⟨D,e',a2⟩:=v7 ps dps _ _ us' (by simpa using hl) (fun j p q R J=>hp (j+1) p q (by simpa using R) (by simpa using J)) a0 h;refine⟨D,?_,a2⟩;unfold Instr.fill;rw[H];dsimp only;rw[if_neg (by simp[N];omega)];exact e'
   ·cases h
theorem zd (h:BW P U=some zs): ∃D z,P.info? U=some D/\D.zero=some z/\RdCs V w z.cells.toList zs:=by
 unfold BW at h;cases hi:P.info? U with
 |none=>rw[hi] at h;cases h
 |some D=>
  rw[hi] at h;dsimp only at h;cases E:D.zero with
  |none=>rw[E] at h;cases h
  |some z=>
   rw[E] at h;dsimp only at h;cases H:Z6 z with
   |none=>rw[H] at h;cases h
   |some d=>
    rw[H] at h;simp at h;subst h;exact⟨D,z,rfl,E,RdV.cells (DC H)⟩
theorem sI (hs:Sees V (d6 ops o) T B β a w): ∀(ps:List (Nat×Operand)) (dps:List (Nat×D0)),(∀p∈ps,p.2∈o.op.operands)->rD T ps=some dps->
 (ps.map fun(i,x)=>(i,a.eval x)).length=dps.length/\ ∀(j:Nat) (p:Nat×Value) (q:Nat×D0),(ps.map fun(i,x)=>(i,a.eval x))[j]? =some p->dps[j]? =some q->p.1=q.1/\RdV V w p.2 q.2
 |[],dps,_,h=>by injection h with h;subst h;exact⟨rfl,fun j p q D=>by simp at D⟩
 |(i,x)::ps,dps,hx,h=>by
  unfold rD at h;split at h
  ·rename_i d I;split at h
   ·rename_i ds H;injection h with h;subst h;obtain⟨J,K⟩:=sI hs ps ds (fun p D=>hx p (by simp[D])) H;refine⟨by simpa using J,fun j p q D E=>?_⟩;cases j with
    |zero=>
     simp at D E;subst D E;exact⟨rfl,ao hs (hx (i,x) (by simp)) I⟩
    |succ j=>exact K j p q (by simpa using D) (by simpa using E)
   ·cases h
  ·cases h
theorem KN 
 (h:FJ P U=some pl) (D: ∀V w,∃E z,P.info? U=some E/\E.zero=some z/\RdCs V w z.cells.toList zs) (H:rD T ps.toList=some dps) (K:tG (fun i=>pl[i]?) zs dps=some us) (hg:gd ops ⟨dst,.build U ps,ty,pos,af,g⟩ T=some true):
 Sem P ops ⟨dst,.build U ps,ty,pos,af,g⟩ T B (.r (.v (.a us))):=
 bK hg (rG rfl) (fun V β a w hs=>by
  obtain⟨E,z,hi,D,N⟩:=D V w;obtain⟨h1,h2⟩:=sI hs ps.toList dps (fun p H=>by simp only[Op.operands,List.mem_toArray,nC];exact⟨p,H,rfl⟩) H;obtain⟨cells,I,J⟩:=v7 _ dps z.cells zs us h1 h2 N K;refine⟨.agg cells,?_,cells,rfl,J⟩;unfold FJ at h;split at h
  ·rename_i fs R;have:=run_build (P:=P) w U (ps.map fun(i,x)=>(i,a.eval x)) cells (by unfold Program.built;simp only[hi,R,D,h];simpa using I)
   simp[execOp,this]
  ·cases h)
theorem az 
 (I:FJ P U=some pl) (h:BW P U=some zs) (E:rD T ps.toList=some dps) (H:tG (fun i=>pl[i]?) zs dps=some us) (D:gd ops ⟨dst,.build U ps,ty,pos,af,g⟩ T=some true):
 Sem P ops ⟨dst,.build U ps,ty,pos,af,g⟩ T B (.r (.v (.a us))):=KN I (fun _V _w=>zd h) E H D
theorem qM 
 (D:BW P U=some zs) (E:gd ops ⟨dst,.alloc U,ty,pos,af,g⟩ T=some true):Sem P ops ⟨dst,.alloc U,ty,pos,af,g⟩ T B (.a U zs none):=fun V β a w hs=>⟨eL hs E,by
 obtain⟨I,z,hi,D,H⟩:=zd (V:=V) (w:=w) D
 have h:(execOp a.eval ⟨dst,.alloc U,ty,pos,af,g⟩).run P w=.ok (.value (.pointer (some ⟨w.heap.size,0,none⟩))) (w.alloc (.cells z.cells U)):=by simp[execOp,Instr.alloc,zeroValue,typeInfo,program,Sem.run,hi,D,newVar,newRow,newObj];try rfl
 unfold Gives
 rw[h]
 exact⟨z.cells,rfl,rfl,H⟩⟩
theorem ME 
 (E:ck T x=some (.v d)) (D:gd ops ⟨dst,.box U x,ty,pos,af,g⟩ T=some true):Sem P ops ⟨dst,.box U x,ty,pos,af,g⟩ T B (.a U d.cells none):=fun V β a w hs=>⟨eL hs D,by
 have H:RdV V w (a.eval x) d:=ao hs (x:=x) (by simp[Op.operands]) E
 have h:(execOp a.eval ⟨dst,.box U x,ty,pos,af,g⟩).run P w=.ok (.value (.pointer (some ⟨w.heap.size,0,none⟩))) (w.alloc (.cells (a.eval x).cells U)):=by simp[execOp,Instr.box,Sem.run,newVar,newRow,newObj];try rfl
 exact⟨_,rfl,rfl,RdV.cells H⟩⟩
theorem fK {w:World}{b:Nat}{cs:Array Value}(h:w.heap[b]? =some (.cells old U (0,0))):(w.setRow b cs).heap=w.heap.setIfInBounds b (.cells cs U (0,0)):=by
 apply Array.ext (by simp[World.setRow]);intro i D E;simp only[World.setRow,Array.getElem_modify];by_cases e:b=i;·grind
 grind
theorem bh {k:Nat}
 (hU:mv P U=some (q,n)) (ha:ck T ax=some (.p k off)) (hx:ck T x=some (.v d)) (hb:B k=some (W,cs)) (hn:d.cells.length=n) (ho:off+n<=cs.length) (hu:cs.take off++d.cells++cs.drop (off+n)=us)
 (hg:gd ops ⟨none,.store U ax x,ty,pos,af,g⟩ T=some true):Sem P ops ⟨none,.store U ax x,ty,pos,af,g⟩ T B (.s k W us):=by
 refine⟨rfl,⟨cs,hb⟩,fun V β a w hs=>⟨eL hs hg,?_⟩⟩
 have hp:a.eval ax=.pointer (some ⟨β k,off,none⟩):=ao hs (by simp[Op.operands]) ha
 have E:RdV V w (a.eval x) d:=ao hs (x:=x) (by simp[Op.operands]) hx
 have I:=RdV.cells E
 obtain⟨_,vs,e,H⟩:=hs.box k W cs hb
 obtain⟨_,J⟩:=mO hU w
 have hl:(a.eval x).cells.size=n:=by rw[<-hn,<-I.1];simp
 have h: ∀v∈(a.eval x).cells.toList,v.oneCell'=true:=by
  intro v hv;obtain⟨j,hj⟩:=yI hv;have K:j<d.cells.length:=by grind
  have:=I.2 j v _ hj (dY K);generalize d.cells[j]=u at this;cases this with
  |x v E R=>cases v<;>first|rfl|exact absurd rfl (E _)|exact absurd rfl (R _)
  |e v E R=>cases v<;>first|rfl|exact absurd rfl (E _)|exact absurd rfl (R _)
  |_=>rfl
 have a0:vs.size=cs.length:=by rw[<-H.1];simp
 have N:=run_storeCells_at (P:=P) (β k) off W (a.eval x).cells.toList 0 vs w e (by simp;omega) h
 have D:(execOp a.eval ⟨none,.store U ax x,ty,pos,af,g⟩).run P w=.ok .skip (w.setRow (β k) (vs.toList.take (off+0)++(a.eval x).cells.toList++vs.toList.drop (off+0+(a.eval x).cells.toList.length)).toArray):=by simp only[execOp,Instr.storeAt,hp,Instr.sureAddr,storeVar,fq,dx,dd,J];rw[if_neg (by simp[hl])];rw[N];rfl
 unfold Gives
 rw[D]
 refine⟨_,fK e,rfl,rfl,rfl,?_⟩
 rw[<-hu]
 have e2:(a.eval x).cells.toList.length=n:=by grind
 rw[e2]
 exact kG (kG (H.take off) I) (H.drop (off+n))
end
end Go.Proofs.YtegeknjkgadehaaGreat
