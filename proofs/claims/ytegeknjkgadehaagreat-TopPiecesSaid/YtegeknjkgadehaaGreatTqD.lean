/-Data:a region of operations,in whatever order it may run. -/
import Derived.Test.YtegeknjkgadehaaGreatTqC
import Derived.Tactics
import Derived.Laws.Cells
import Derived.Laws.CopyRow
import Derived.Laws.Tables
import Derived.Laws.Rows
namespace Go.Proofs.YtegeknjkgadehaaGreat
open Go Go.RowKit
variable {ps:Array (Nat×Operand)}{dp:Array Bool}{eO:Array Oper}{old vs:Array Value}{op:BinOp}{b q r:Bool}{u:CellD}{d:D0}{dv:DV}{m:Int}{k:IntKind}{dps:List (Nat×D0)}{pl:List (Nat×Nat)}{cs us xs zs:List CellD}{ds rs:List D0}{es:List Eff}{hs sd:List Nat}{f i j n o' off t:Nat}{o p:Oper}{ax fo x y:Operand}{U W xt yt:TypeId}{v:Value}
variable {ty:TypeId}{pos:String}{af:Array Edge}{g:Option (Nat×Bool)}{dst:Option Nat}
theorem di:type_of% @Bool.and_eq_true:=@Bool.and_eq_true
theorem fh:type_of% @Sem.run_bind:=@Sem.run_bind
theorem ft:type_of% @Result.andThen_ok:=@Result.andThen_ok
theorem dA:type_of% @Sem.run_pure:=@Sem.run_pure
theorem dF:type_of% @Nat.eq_of_beq_eq_true:=@Nat.eq_of_beq_eq_true
theorem fM:type_of% @List.getElem?_eq_some_iff:=@List.getElem?_eq_some_iff
theorem fU:type_of% @Nat.le_of_ble_eq_true:=@Nat.le_of_ble_eq_true
theorem lG:type_of% @RdCs.cons:=@RdCs.cons
theorem kP:type_of% @RdCs.append:=@RdCs.append
theorem kU:type_of% @Classical.byContradiction:=@Classical.byContradiction
theorem lH:type_of% @Array.getElem?_eq_some_iff:=@Array.getElem?_eq_some_iff
theorem mJ:type_of% @List.all_eq_true:=@List.all_eq_true
theorem mW:type_of% @Array.getElem?_toList:=@Array.getElem?_toList
theorem nZ:type_of% @List.mem_map:=@List.mem_map
theorem qB:type_of% @RdCs.nil:=@RdCs.nil
theorem qF:type_of% @RdL.cons:=@RdL.cons
theorem qE:type_of% @List.mem_range:=@List.mem_range
theorem rV:type_of% @Bool.or_eq_true:=@Bool.or_eq_true
theorem uw:type_of% @Array.getElem?_eq_getElem:=@Array.getElem?_eq_getElem
theorem uP:type_of% @Bool.not_eq_true':=@Bool.not_eq_true'
theorem re:type_of% @List.foldl_cons:=@List.foldl_cons
theorem tN:type_of% @Nat.beq_refl:=@Nat.beq_refl
theorem tz:type_of% @Array.mem_toList_iff:=@Array.mem_toList_iff
theorem u9:type_of% @Bool.false_or:=@Bool.false_or
theorem u6:type_of% @List.mem_filter:=@List.mem_filter
theorem wQ:type_of% @List.mem_append_left:=@List.mem_append_left
theorem Ai:type_of% @List.ext_getElem:=@List.ext_getElem
theorem Aa:type_of% @Classical.not_forall:=@Classical.not_forall
theorem Ap:type_of% @Classical.not_imp:=@Classical.not_imp
theorem Cu:type_of% @List.getElem_range:=@List.getElem_range
theorem CS:type_of% @List.getElem?_of_mem:=@List.getElem?_of_mem
theorem GO:type_of% @Nat.eq_of_mul_eq_mul_left:=@Nat.eq_of_mul_eq_mul_left
def iq {γ:Type}(mask:Nat->Bool):Nat->List (Nat->Option (Option γ))->(Nat->Option γ)->(Nat->Option γ)
 |_,[],F=>F
 |k,u::us,F=>iq mask (k+1) us (if mask k then(fun t=>(u t).getD (F t)) else F)
section
variable {γ:Type}
theorem ni (mask:Nat->Bool): ∀(us:List (Nat->Option (Option γ))) (k:Nat) (F:Nat->Option γ),iq mask (k+1) us F=iq (fun j=>mask (j+1)) k us F
 |[],_,_=>rfl
 |u::us,k,F=>by show iq mask (k+1+1) us _=iq (fun j=>mask (j+1)) (k+1) us _;rw[ni mask us (k+1)]
theorem fm {mask mask':Nat->Bool}{t:Nat}: ∀(us:List (Nat->Option (Option γ))) (k:Nat) (F A:Nat->Option γ),F t=A t-> (∀(j:Nat) (u:Nat->Option (Option γ)),us[j]? =some u->u t≠none->mask (k+j)=mask' (k+j))->iq mask k us F t=iq mask' k us A t
 |[],_,_,_,h,_=>h
 |u::us,k,F,A,h,hm=>by
  refine fm us (k+1) _ _ ?_ (fun j J I D=>by have:=hm (j+1) J (by simpa using I) D;rw[show k+(j+1)=k+1+j from by omega] at this;exact this);by_cases D:u t=none
  .have e1:(if mask k then(fun t=>(u t).getD (F t)) else F) t=F t:=by split<;>simp[D]
   have R:(if mask' k then(fun t=>(u t).getD (A t)) else A) t=A t:=by split<;>simp[D]
   rw[e1,R];exact h
  .have:=hm 0 u rfl D;rw[ru] at this;rw[this];split
   .show(u t).getD (F t)=(u t).getD (A t);rw[h]
   .exact h
theorem iV {mask:Nat->Bool}(us:List (Nat->Option (Option γ))) (k:Nat) (F:Nat->Option γ) (h: ∀(j:Nat) (u:Nat->Option (Option γ)),us[j]? =some u->mask (k+j)=true->u t=none):iq mask k us F t=F t:=by
 have h0: ∀(us:List (Nat->Option (Option γ))) (k:Nat) (F:Nat->Option γ),iq (fun _=>false) k us F=F:=by
  intro us;induction us with
  |nil=>intro k F;rfl
  |cons u us D=>intro k F;exact D (k+1) F
 have h1:=fm (mask:=mask) (mask':=fun _=>false) us k F F rfl (fun j u I A=>by
  cases hm:mask (k+j) with
  |false=>rfl
  |true=>exact absurd (h j u I hm) A)
 rw[h1,h0]
theorem MM {mask:Nat->Bool}{t:Nat}{u:Nat->Option (Option γ)}{x:Option γ}: ∀(us:List (Nat->Option (Option γ))) (k:Nat) (F:Nat->Option γ) (j:Nat),us[j]? =some u->u t=some x->mask (k+j)=true->(∀(D:Nat) (I:Nat->Option (Option γ)),us[D]? =some I->D≠j->I t=none)->iq mask k us F t=x
 |[],_,_,_,A,_,_,_=>by simp at A
 |u0::us,k,F,0,A,hu,hm,hd=>by simp at A;subst A;rw[ru] at hm;show iq mask (k+1) us _ t=x;rw[iV us (k+1) _ (fun j u A _=>hd (j+1) u (by simpa using A) (by omega)),hm];simp[hu]
 |u0::us,k,F,j+1,A,hu,hm,hd=>by exact MM us (k+1) _ j (by simpa using A) hu (by rw[show k+1+j=k+(j+1) from by omega];exact hm) (fun D I J R=>hd (D+1) I (by simpa using J) (by omega))
theorem xJ {mask:Nat->Bool}{t:Nat}{u:Nat->Option (Option γ)}{x:Option γ}: ∀(us:List (Nat->Option (Option γ))) (k:Nat) (F:Nat->Option γ) (j:Nat),us[j]? =some u->u t=some x->mask (k+j)=true->(∀(I:Nat) (J:Nat->Option (Option γ)),us[I]? =some J->j<I->mask (k+I)=true->J t=none)->iq mask k us F t=x
 |[],_,_,_,A,_,_,_=>by simp at A
 |u0::us,k,F,0,A,hu,hm,hd=>by simp at A;subst A;rw[ru] at hm;show iq mask (k+1) us _ t=x;rw[iV us (k+1) _ (fun j u A D=>hd (j+1) u (by simpa using A) (by omega) (by rw[show k+(j+1)=k+1+j from by omega];exact D)),hm];simp[hu]
 |u0::us,k,F,j+1,A,hu,hm,hd=>by exact xJ us (k+1) _ j (by simpa using A) hu (by rw[show k+1+j=k+(j+1) from by omega];exact hm) (fun I J R hlt D=>hd (I+1) J (by simpa using R) (by omega) (by rw[show k+(I+1)=k+1+I from by omega];exact D))
end
def uT (d:Option Nat) (e:Eff):Nat->Option (Option DV):=fun t=>if d=some t then some (some (ent t e)) else none
def uB (d:Option Nat) (e:Eff):Nat->Option (Option (TypeId×List CellD)):=fun k=>match e with
 | .a U cs _=>if d=some k then some (some (U,cs)) else none
 | .s l U cs=>if l=k then some (some (U,cs)) else none
 | .rs l U cs _=>if l=k then some (some (U,cs)) else none
 |_=>none
theorem Qb (d:Option Nat) (e:Eff) (T:TF) (h: ∀k x,e≠ .c k x):(fun t=>(uT d e t).getD (T t))=e.tf d T:=by
 funext t;cases e with
 |c k x=>exact absurd rfl (h k x)
 |r x=>unfold uT Eff.tf;dsimp only;split<;>rfl
 |a U cs sl=>unfold uT Eff.tf;dsimp only;split<;>rfl
 |s k U cs=>unfold uT Eff.tf;dsimp only;split<;>rfl
 |rs k U cs x=>unfold uT Eff.tf;dsimp only;split<;>rfl
 |skip=>unfold uT Eff.tf;dsimp only;split<;>rfl
theorem TC (d:Option Nat) (e:Eff) (B:BF) (h: ∀k x,e≠ .c k x):(fun k=>(uB d e k).getD (B k))=e.bf d B:=by
 funext k;cases e with
 |a U cs sl=>unfold uB Eff.bf;dsimp only;split<;>rfl
 |s l U cs=>unfold uB Eff.bf;dsimp only;split<;>rfl
 |rs l U cs x=>unfold uB Eff.bf;dsimp only;split<;>rfl
 |r x=>rfl
 |c k x=>exact absurd rfl (h k x)
 |skip=>rfl
theorem Wu (d:Option Nat) (e:Eff) (k:Nat):uB d e k≠some none:=by
 unfold uB;split;·grind
 .grind
 .grind
 grind
theorem Uf {d:Option Nat}{e:Eff}{k:Nat}(h:uB d e k≠none):(∃U cs sl,e=.a U cs sl/\d=some k)\/(∃U cs,e=.s k U cs)\/ ∃U cs x,e=.rs k U cs x:=by
 unfold uB at h;split at h;·grind
 .simp_all
 .simp_all
 grind
structure Sq where
 st:St
 nb:List (Nat×TypeId×List CellD)
 sd:List Nat
def Sq.M (s:Sq):BF:=fun k=>look k (s.nb++s.st.bx)
def jQ (k:Nat):List (Nat×DV)->List (Nat×DV)
 |[]=>[]
 |(t,y)::r=>(t,match jR y with|some l=>bif Nat.beq l k then .n else y|none=>y)::jQ k r
def jf (k:Nat):List (Nat×TypeId×List CellD)->List (Nat×TypeId×List CellD)
 |[]=>[]
 |(l,c)::r=>bif Nat.beq l k then jf k r else(l,c)::jf k r
def St.app (A:St):Option Nat->Eff->St
 |some d,.r x=>{A with tm:=(d,x)::A.tm}
 |some d,.a U cs sl=>{A with tm:=(d,Rt sl d)::A.tm,bx:=(d,U,cs)::A.bx}
 |some d,.skip=>{A with tm:=(d,.u)::A.tm}
 |some d,.s k U cs=>{A with tm:=(d,.u)::A.tm,bx:=(k,U,cs)::A.bx}
 |none,.s k U cs=>{A with bx:=(k,U,cs)::A.bx}
 |some d,.rs k U cs x=>{A with tm:=(d,x)::A.tm,bx:=(k,U,cs)::A.bx}
 |none,.rs k U cs _x=>{A with bx:=(k,U,cs)::A.bx}
 |some d,.c k x=>{A with tm:=(d,x)::jQ k A.tm,bx:=jf k A.bx}
 |none,.c k _x=>{A with tm:=jQ k A.tm,bx:=jf k A.bx}
 |none,_=>A
def Sq.app (s:Sq):Option Nat->Eff->Sq
 |some d,.a U cs sl=>⟨{s.st with tm:=(d,Rt sl d)::s.st.tm},(d,U,cs)::s.nb,s.sd⟩
 |some d,.s k U cs=>⟨{s.st with tm:=(d,.u)::s.st.tm},(k,U,cs)::s.nb,k::s.sd⟩
 |none,.s k U cs=>⟨s.st,(k,U,cs)::s.nb,k::s.sd⟩
 |some d,.rs k U cs x=>⟨{s.st with tm:=(d,x)::s.st.tm},(k,U,cs)::s.nb,s.sd⟩
 |none,.rs k U cs _x=>⟨s.st,(k,U,cs)::s.nb,s.sd⟩
 |d,e=>⟨s.st.app d e,s.nb,s.sd⟩
theorem aW {A:Type}(k t:Nat) (x:A) (r:List (Nat×A)):look t ((k,x)::r)=if k=t then some x else look t r:=by
 show(bif Nat.beq k t then some x else look t r)=_;by_cases h:k=t;·simp_all
 .have:Nat.beq k t=false:=by
   cases D:Nat.beq k t with
   |false=>rfl
   |true=>exact absurd (dF D) h
  rw[this,if_neg h];rfl
theorem ci {A:Type}(t:Nat): ∀(l r:List (Nat×A)),look t (l++r)=(look t l).or (look t r)
 |[],r=>by simp[look]
 |(k,x)::l,r=>by rw[wY,aW,aW,ci t l r];split<;>simp
theorem lv (k t:Nat): ∀(l:List (Nat×DV)),look t (jQ k l)=match look t l with|some y=>if jR y=some k then some .n else some y|none=>none
 |[]=>rfl
 |(s,y)::r=>by
  unfold jQ;rw[aW,aW];split
  .show some _=(if jR y=some k then some DV.n else some y);cases D:jR y with
   |none=>simp
   |some l=>
    dsimp only;cases A:Nat.beq l k with
    |true=>rw[if_pos (by rw[dF A])];rfl
    |false=>rw[if_neg (fun e=>by injection e with e;subst e;rw[tN] at A;cases A)];rfl
  .exact lv k t r
theorem j5 (k l:Nat): ∀(r:List (Nat×TypeId×List CellD)),look l (jf k r)=if l=k then none else look l r
 |[]=>by simp[jf,look]
 |(m,c)::r=>by
  unfold jf;rw[aW];cases D:Nat.beq m k with
  |true=>
   have:=dF D;subst this;show look l (jf m r)=_;rw[j5 m l r];by_cases e:l=m;·rw[if_pos e,if_pos e]
   .rw[if_neg e,if_neg e,if_neg (Ne.symm e)]
  |false=>
   have A:m≠k:=fun e=>by subst e;rw[tN] at D;cases D
   show look l ((m,c)::jf k r)=_;rw[aW,j5 k l r];by_cases e:m=l;·subst e;rw[if_pos rfl,if_neg A,if_pos rfl]
   .rw[if_neg e,if_neg e]
theorem qw (A:St) (d:Option Nat) (e:Eff):(A.app d e).T=e.tf d A.T:=by
 funext t;cases e with
 |c k x=>
  cases d with
  |none=>simp[St.app,St.T,Eff.tf,nN,lv];grind
  |some d=>simp[St.app,St.T,Eff.tf,nN,lv,aW];grind
 |_=>
 unfold Eff.tf;cases d with
 |none=>simp[St.app,St.T]
 |some d=>
  by_cases h:d=t;·subst h;simp[St.app,St.T,aW,ent]
  .have D: ¬(some d=some t):=by simpa using h
   simp[St.app,St.T,aW,h]
theorem aau (A:St) (d:Option Nat) (e:Eff):(A.app d e).B=e.bf d A.B:=by
 funext k;cases d with
 |none=>cases e<;>simp[St.app,St.B,Eff.bf,aW,j5]
 |some d=>cases e<;>simp[St.app,St.B,Eff.bf,aW,j5]
theorem SK (s:Sq) (d:Option Nat) (e:Eff):(s.app d e).st.T=e.tf d s.st.T:=by
 cases d with
 |none=>
  cases e with
  |a U cs sl=>exact qw s.st none (.a U cs sl)
  |r x=>exact qw s.st none (.r x)
  |s k U cs=>exact qw s.st none (.s k U cs)
  |c k x=>exact qw s.st none (.c k x)
  |rs k U cs x=>exact qw s.st none (.rs k U cs x)
  |skip=>exact qw s.st none .skip
 |some d=>
  cases e with
  |a U cs sl=>exact qw s.st (some d) (.a U cs sl)
  |r x=>exact qw s.st (some d) (.r x)
  |s k U cs=>exact qw s.st (some d) (.s k U cs)
  |c k x=>exact qw s.st (some d) (.c k x)
  |rs k U cs x=>exact qw s.st (some d) (.rs k U cs x)
  |skip=>exact qw s.st (some d) .skip
theorem aa3 (s:Sq) (d:Option Nat) (e:Eff) (A: ∀k x,e≠ .c k x):(s.app d e).st.B=s.st.B:=by
 cases d with
 |none=>cases e<;>first|rfl|exact absurd rfl (A _ _)
 |some d=>cases e<;>first|rfl|exact absurd rfl (A _ _)
theorem Sw (s:Sq) (d:Option Nat) (e:Eff) (A: ∀k x,e≠ .c k x):(s.app d e).M=e.bf d s.M:=by
 funext k;cases e with
 |c k x=>exact absurd rfl (A k x)
 |s l U cs=>
  have:(s.app d (.s l U cs)).M k=look k ((l,U,cs)::(s.nb++s.st.bx)):=by cases d<;>rfl
  rw[this,aW];rfl
 |rs l U cs x=>
  have:(s.app d (.rs l U cs x)).M k=look k ((l,U,cs)::(s.nb++s.st.bx)):=by cases d<;>rfl
  rw[this,aW];rfl
 |a U cs sl=>cases d<;>(simp[Sq.app,St.app,Sq.M,Eff.bf,aW])
 |r x=>cases d<;>(simp[Sq.app,St.app,Sq.M,Eff.bf])
 |skip=>cases d<;>(simp[Sq.app,St.app,Sq.M,Eff.bf])
theorem adg (s:Sq) (d:Option Nat) (e:Eff):(s.app d e).st.n=s.st.n:=by cases d<;>cases e<;>rfl
theorem Nt (A:St) (d:Option Nat) (e:Eff):(A.app d e).n=A.n:=by cases d<;>cases e<;>rfl
def Jd (P:Program) (eO:Array Oper) (o:Oper) (A:St) (F:St->Prop):Prop:= ∀av w0 β a w,Rel av w0 A.n A.T A.B β a w->(∀t,o.dst=some t->t<A.n)-> xc o eO a=true/\Gives P o a w fun v w'=> ∃σ' D,F σ'/\σ'.n=A.n/\Rel av w0 A.n σ'.T σ'.B D (a.put o.dst v) w'
def dl (P:Program) (eO:Array Oper):List Oper->St->(St->Prop)->Prop
 |[],σ,K=>K σ
 |o::os,σ,K=>(∃e,Sem P eO o σ.T σ.B e/\(∀U cs sl,e=.a U cs sl-> ∃d,o.dst=some d/\σ.B d=none)/\dl P eO os (σ.app o.dst e) K)\/ ∃F:St->Prop,Jd P eO o σ F/\ ∀σ',F σ'->dl P eO os σ' K
def hid (hs:List Nat) (B:BF):BF:=fun k=>bif hs.any (Nat.beq k) then none else B k
def ahG (hs:List Nat) (B M:BF):Eff->BF
 | .s k _ _=>fun l=>bif Nat.beq l k then M l else hid hs B l
 | .rs k _ _ _=>fun l=>bif Nat.beq l k then M l else hid hs B l
 |_=>hid hs B
def jn (o:Oper):Bool:=match o.op with
 | .call _=>true
 |_=>false
def bP (o:Oper):List Nat:=(o.after.toList.filter (Region.binds .any)).map (·.on)
def tF (eO:Array Oper):Bool:=
 (List.range eO.size).all fun j=>match eO[j]? with
  |none=>false
  |some p=> !jn p||(List.range j).all fun i=>match eO[i]? with
   |none=>false
   |some o=> !jn o||(bP p).any (Nat.beq i)||(List.range j).any fun q=>Nat.blt i q&&match eO[q]? with
    |none=>false
    |some A=>jn A&&(bP p).any (Nat.beq q)
def ahU (eO:Array Oper) (hs:List Nat) (os:List Oper) (o:Oper) (B:BF) (sd:List Nat) (e:Eff):Prop:=
 ∀k U cs x,e=.rs k U cs x->hs.any (Nat.beq k)=true/\B k≠none/\k∉sd/\os.all (fun o=>o.dst.isSome)=true/\jn o=true/\tF eO=true/\hs.any (Nat.beq 999999)=false
def Bn (o:Oper):Bool:=match o.op with
 | .store ..=>true
 |_=>false
def Lh (hs:List Nat) (o:Oper):Bool:=Bn o||(jn o&& !hs.any (Nat.beq 999999))
def qt (eO:Array Oper):Bool:=
 (List.range eO.size).all fun j=>match eO[j]? with
  |none=>false
  |some p=> !Bn p||(List.range j).all fun i=>match eO[i]? with
   |none=>false
   |some o=> !Bn o||(bP p).any (Nat.beq i)
theorem CM (h:qt eO=true) (J:i<j) (ho:eO[i]? =some o) (R:eO[j]? =some p) (I:Bn o=true) (D:Bn p=true):i∈bP p:=by have h1:=mJ.1 h j (qE.2 (lH.1 R).1);rw[R] at h1;dsimp only at h1;rw[D] at h1;have A:=mJ.1 h1 i (qE.2 J);rw[ho] at A;dsimp only at A;rw[I] at A;simp only[Bool.not_true,u9,List.any_eq_true] at A;obtain⟨x,hx,h3⟩:=A;rw[dF h3];exact hx
def Wd (hs:List Nat) (eO:Array Oper) (o:Oper):Bool:=match o.dst with
 |none=>false
 |some d=>(List.range eO.size).all fun i=>match eO[i]? with
  |none=>false
  |some p=> !(match p.dst with|none=>false|some A=>Nat.beq A d)||(List.range eO.size).all fun j=>match eO[j]? with
   |none=>false
   |some q=> !Lh hs q||(bP q).any (Nat.beq i)
theorem adZ {q:Oper}(h:Wd hs eO o=true) (I:eO[i]? =some o) (J:eO[j]? =some q) (hw:Lh hs q=true):i∈bP q:=by
 unfold Wd at h;cases D:o.dst with
 |none=>rw[D] at h;cases h
 |some d=>rw[D] at h;have h1:=mJ.1 h i (qE.2 (lH.1 I).1);rw[I] at h1;dsimp only at h1;rw[D] at h1;dsimp only at h1;rw[tN] at h1;have A:=mJ.1 h1 j (qE.2 (lH.1 J).1);rw[J] at A;dsimp only at A;rw[hw] at A;simp only[Bool.not_true,u9,List.any_eq_true] at A;obtain⟨x,R,h3⟩:=A;rw[dF h3];exact R
theorem O3 (h:jn o=true) (A:hs.any (Nat.beq 999999)=false):Lh hs o=true:=by unfold Lh;rw[h,A];simp
theorem Ya (h:Bn o=true):Lh hs o=true:=by unfold Lh;rw[h];rfl
def acO (P:Program) (eO:Array Oper) (hs:List Nat) (o:Oper) (T:TF) (B M:BF) (e:Eff):Prop:=Sem P eO o T (ahG hs B M e) e\/(Wd hs eO o=true/\(∃x,e=.r x)/\Sem P eO o T B e)
def dq (P:Program) (eO:Array Oper) (hs:List Nat):List Oper->Sq->(Sq->Prop)->Prop
 |[],s,K=>K s
 |o::os,s,K=> ∃e,acO P eO hs o s.st.T s.st.B s.M e/\(∀k x,e≠ .c k x)/\(∀k U cs,e=.s k U cs->hs.any (Nat.beq k)=true/\(s.st.B k≠none\/k∈o.looksAt eO)/\(k∉s.sd\/qt eO=true)/\Bn o=true)/\ahU eO hs os o s.st.B s.sd e/\(∀U cs sl,e=.a U cs sl-> ∃d,o.dst=some d/\s.M d=none)/\dq P eO hs os (s.app o.dst e) K
def Kx (l:List Oper) (es:List Eff):=List.zipWith (fun(o:Oper) e=>uT o.dst e) l es
def wU (l:List Oper) (es:List Eff):=List.zipWith (fun(o:Oper) e=>uB o.dst e) l es
theorem ML (s:Sq) (d:Option Nat) (e:Eff) (k:Nat) (h:k∉(s.app d e).sd):k∉s.sd:=by cases d<;>cases e<;>first|exact h|exact fun A=>h (fv _ A)
theorem IY {P:Program}{eO:Array Oper}{hs:List Nat}{K:Sq->Prop}: ∀(l:List Oper) (s:Sq),dq P eO hs l s K-> ∃es:List Eff,es.length=l.length/\ (∀(i:Nat) (o:Oper) (e:Eff),l[i]? =some o->es[i]? =some e->acO P eO hs o (iq (fun j=>decide (j<i)) 0 (Kx l es) s.st.T) s.st.B (iq (fun j=>decide (j<i)) 0 (wU l es) s.M) e/\(∀k x,e≠ .c k x)/\(∀k U cs,e=.s k U cs->hs.any (Nat.beq k)=true/\(s.st.B k≠none\/k∈o.looksAt eO)/\(k∉s.sd\/qt eO=true)/\Bn o=true)/\ (∀k U cs x,e=.rs k U cs x->hs.any (Nat.beq k)=true/\s.st.B k≠none/\k∉s.sd/\jn o=true/\tF eO=true/\hs.any (Nat.beq 999999)=false)/\ (∀U cs sl,e=.a U cs sl-> ∃d,o.dst=some d/\iq (fun j=>decide (j<i)) 0 (wU l es) s.M d=none))/\ (∀(i j:Nat) k U cs I cs',es[i]? =some (.s k U cs)->es[j]? =some (.s k I cs')->i=j\/qt eO=true)/\ (∀(i j:Nat) k U cs I cs' x,es[i]? =some (.s k U cs)->es[j]? =some (.rs k I cs' x)->False)/\ ∃s':Sq,s'.st.n=s.st.n/\s'.st.T=iq (fun _=>true) 0 (Kx l es) s.st.T/\s'.M=iq (fun _=>true) 0 (wU l es) s.M/\K s'
 |[],s,h=>⟨[],rfl,fun i o e ho=>by simp at ho,fun i j k U cs I cs' h=>by simp at h,fun i j k U cs I cs' x h=>by simp at h,s,rfl,rfl,rfl,h⟩
 |o::l,s,h=>by
  obtain⟨e,b4,J,hn,a3,ha,h⟩:=h;obtain⟨es,hl,R,b3,a6,s',h1,h2,h3,h4⟩:=IY l _ h;refine⟨e::es,by simp[hl],?_,?_,?_,s',h1.trans (adg _ _ _),?_,?_,h4⟩
  .intro i o' e' ho A;cases i with
   |zero=>
    simp at ho A;subst ho A;refine⟨?_,J,hn,fun k U cs x A=>⟨(a3 k U cs x A).1,(a3 k U cs x A).2.1,(a3 k U cs x A).2.2.1,(a3 k U cs x A).2.2.2.2⟩,?_⟩
    .rw[show iq (fun j=>decide (j<0)) 0 (Kx (o::l) (e::es)) s.st.T=s.st.T from funext fun t=>iV _ _ _ (fun j u _ hm=>by simp at hm),show iq (fun j=>decide (j<0)) 0 (wU (o::l) (e::es)) s.M=s.M from funext fun t=>iV _ _ _ (fun j u _ hm=>by simp at hm)];exact b4
    .rw[show iq (fun j=>decide (j<0)) 0 (wU (o::l) (e::es)) s.M=s.M from funext fun t=>iV _ _ _ (fun j u _ hm=>by simp at hm)];exact ha
   |succ i=>
    have:=R i o' e' (by simpa using ho) (by simpa using A);have e1:iq (fun j=>decide (j<i+1)) 0 (Kx (o::l) (e::es)) s.st.T=iq (fun j=>decide (j<i)) 0 (Kx l es) (s.app o.dst e).st.T:=by show iq (fun j=>decide (j<i+1)) (0+1) (Kx l es) (if decide (0<i+1)=true then(fun t=>(uT o.dst e t).getD (s.st.T t)) else s.st.T)=_;rw[ni,SK,<-Qb _ _ _ J];simp
    have e2:iq (fun j=>decide (j<i+1)) 0 (wU (o::l) (e::es)) s.M=iq (fun j=>decide (j<i)) 0 (wU l es) (s.app o.dst e).M:=by show iq (fun j=>decide (j<i+1)) (0+1) (wU l es) (if decide (0<i+1)=true then(fun t=>(uB o.dst e t).getD (s.M t)) else s.M)=_;rw[ni,Sw _ _ _ J,<-TC _ _ _ J];simp
    rw[aa3 _ _ _ J,<-e1,<-e2] at this;exact⟨this.1,this.2.1,fun k U cs A=>⟨(this.2.2.1 k U cs A).1,(this.2.2.1 k U cs A).2.1,(this.2.2.1 k U cs A).2.2.1.imp (ML s o.dst e k) id,(this.2.2.1 k U cs A).2.2.2⟩,fun k U cs x A=>⟨(this.2.2.2.1 k U cs x A).1,(this.2.2.2.1 k U cs x A).2.1,ML s o.dst e k (this.2.2.2.1 k U cs x A).2.2.1,(this.2.2.2.1 k U cs x A).2.2.2⟩,this.2.2.2.2⟩
  .intro i j k U cs I cs' hi D;have a4: ∀(j:Nat) I cs',es[j]? =some (.s k I cs')-> ∀U cs,e=.s k U cs->qt eO=true:=by
    intro j I cs' D U cs A;have a5:j<l.length:=by rw[<-hl];exact(fM.1 D).1
    have h5:=(R j l[j] _ (gI a5) D).2.2.1 k I cs' rfl;subst A;rcases h5.2.2.1 with h6|h6;·exact absurd (by cases o.dst<;>exact fC ..) h6
    .exact h6
   cases i with
   |zero=>
    cases j with
    |zero=>exact .inl rfl
    |succ j=>simp at hi D;exact .inr (a4 j I cs' D U cs hi)
   |succ i=>
    cases j with
    |zero=>simp at hi D;exact .inr (a4 i U cs hi I cs' D)
    |succ j=>simp at hi D;exact(b3 i j k U cs I cs' hi D).imp (fun e=>by rw[e]) id
  .intro i j k U cs I cs' x hi D;cases i with
   |zero=>
    simp at hi;cases j with
    |zero=>simp at D;rw[hi] at D;cases D
    |succ j=>
     simp at D;subst hi;have a5:j<l.length:=by rw[<-hl];exact(fM.1 D).1
     exact ((R j l[j] _ (gI a5) D).2.2.2.1 k I cs' x rfl).2.2.1 (by cases o.dst<;>exact fC ..)
   |succ i=>
    simp at hi;cases j with
    |zero=>
     simp at D;have a9:i<l.length:=by rw[<-hl];exact(fM.1 hi).1
     have h5:=(R i l[i] _ (gI a9) hi).1;have h6:(l[i]).dst=none:=by
      rcases h5 with h5|⟨_,⟨x,hx⟩,_⟩;·exact h5.1
      grind
     have h8:=mJ.1 ((a3 k I cs' x D).2.2.2.1) l[i] (uW a9);rw[h6] at h8;cases h8
    |succ j=>simp at D;exact a6 i j k U cs I cs' x hi D
  .rw[h2,SK,<-Qb _ _ _ J];show _=iq (fun _=>true) (0+1) (Kx l es) (if true=true then(fun t=>(uT o.dst e t).getD (s.st.T t)) else s.st.T);rw[ni];simp
  .rw[h3,Sw _ _ _ J,<-TC _ _ _ J];show _=iq (fun _=>true) (0+1) (wU l es) (if true=true then(fun t=>(uB o.dst e t).getD (s.M t)) else s.M);rw[ni];simp
theorem Dq {γ:Type}{mask:Nat->Bool}{t:Nat}: ∀(us:List (Nat->Option (Option γ))) (k:Nat) (F:Nat->Option γ),F t≠none->(∀u∈us,u t≠some none)->iq mask k us F t≠none
 |[],_,_,h,_=>h
 |u::us,k,F,h,hu=>by
  refine Dq us (k+1) _ ?_ (fun D A=>hu D (fv _ A));split
  .show(u t).getD (F t)≠none;cases I:u t with
   |none=>exact h
   |some x=>
    cases x with
    |none=>exact absurd I (hu u (fC ..))
    |some y=>simp
  .exact h
theorem wT {P:Program}{eO:Array Oper}{Q:Exit->Act->World->Prop}{av:Nat->Prop}{w0:Ent}{K:St->Prop}: ∀(l:List Oper) (D:St) (β:Nat->Nat) (a:Act) (w:World),(∀o∈l,∀t,o.dst=some t->t<D.n)->dl P eO l D K->Rel av w0 D.n D.T D.B β a w->(∀σ' A I w',σ'.n=D.n->K σ'->Rel av w0 σ'.n σ'.T σ'.B A I w'->Q .normal I w')->wpList P eO Q l a w
 |[],D,β,a,w,_,hd,hr,hq=>hq D β a w rfl hd hr
 |o::l,D,β,a,w,hn,hd,hr,hq=>by
  rcases hd with⟨e,hs,ha,hd⟩|⟨F,hs,hd⟩
  .refine hr.step hs (fun t ht=>hn o (by simp) t ht) (fun _ _ _ h=>h) (fun _ _ h=>h) ha (fun A I w' R=>?_);refine wT l (D.app o.dst e) A I w' (fun o' J t ht=>by rw[Nt];exact hn o' (by simp[J]) t ht) hd ?_ (fun σ' A I w' h1 h2 h3=>hq σ' A I w' (by rw[h1,Nt]) h2 h3);rw[Nt,qw,aau];exact R
  .obtain⟨hw,hg⟩:=hs av w0 β a w hr (fun t ht=>hn o (by simp) t ht);unfold wpList;rw[if_pos hw];refine .inl (hg.wp fun v w' ⟨σ',A,hF,a3,R⟩=>?_);exact wT l σ' A _ w' (fun o' J t ht=>by rw[a3];exact hn o' (by simp[J]) t ht) (hd σ' hF) (by rw[a3];exact R) (fun a4 A I w' h1 h2 h3=>hq a4 A I w' (by rw[h1,a3]) h2 h3)
def cW (N k:Nat):Array Bool:=((List.range N).map (fun i=>Nat.blt i k)).toArray
def KI (eO:Array Oper) (m n:Nat):Bool:=
 Nat.ble m eO.size&&
 ((List.range eO.size).all fun i=>match eO[i]? with
  |none=>false
  |some o=>(bP o).all (fun j=>Nat.blt j i)&&(match o.dst with|none=>true|some d=>Nat.blt d n))&&
 ((List.range m).all fun i=>match eO[i]? with
  |none=>false
  |some o=>(List.range m).all fun j=>Nat.beq i j||match eO[j]? with
   |none=>false
   |some p=>match p.dst with
    |none=>true
    |some d=>(match o.dst with|none=>true|some A=> !Nat.beq A d)&&(!(o.looksAt eO).any (Nat.beq d)||(bP o).any (Nat.beq j)||(bP p).any (Nat.beq i)))&&
 ((List.range eO.size).all fun t=>Nat.blt t m||match eO[t]? with
  |none=>false
  |some o=>(bP o).any (fun j=>Nat.ble m j)||(List.range m).all fun p=>(bP o).any (Nat.beq p)||(List.range m).any fun q=>Nat.blt p q&&match eO[q]? with
   |none=>false
   |some D=>(bP D).any (Nat.beq p))&&
 ((List.range eO.size).all fun k=>Nat.blt k m||(match Region.ready .any eO (cW eO.size k) with|[j]=>Nat.beq j k|_=>false))
structure Chk (eO:Array Oper) (m n:Nat):Prop where
 le:m<=eO.size
 low: ∀(i:Nat) (o:Oper) (j:Nat),eO[i]? =some o->j∈bP o->j<i
 dn: ∀(i:Nat) (o:Oper) (t:Nat),eO[i]? =some o->o.dst=some t->t<n
 dist: ∀(i j:Nat) (o p:Oper) (d:Nat),i<m->j<m->eO[i]? =some o->eO[j]? =some p->o.dst=some d->p.dst=some d->i=j
 dep: ∀(i j:Nat) (o p:Oper) (d:Nat),i<m->j<m->i≠j->eO[i]? =some o->eO[j]? =some p->p.dst=some d->d∈o.looksAt eO->j∈bP o\/i∈bP p
 tl: ∀(t:Nat) (o:Oper),m<=t->eO[t]? =some o->(∃j,j∈bP o/\m<=j)\/ ∀p,p<m->p∈bP o\/ ∃(q:Nat) (oq:Oper),p<q/\q<m/\eO[q]? =some oq/\p∈bP oq
 rdy: ∀k:Nat,m<=k->k<eO.size->Region.ready .any eO (cW eO.size k)=[k]
theorem jO {l:List Nat}{d:Nat}:l.any (Nat.beq d)=true↔d∈l:=by simp_all
theorem dj {a b:Nat}:Nat.blt a b=true↔a<b:=by simp[Nat.blt,Nat.ble_eq,Nat.lt_iff_add_one_le]
theorem Chk.of {m:Nat}(h:KI eO m n=true):Chk eO m n:=by
 unfold KI at h;simp only[di,mJ,qE] at h;obtain⟨⟨⟨⟨h1,h2⟩,h3⟩,h4⟩,h5⟩:=h;have hlt: ∀ {i:Nat}{o:Oper},eO[i]? =some o->i<eO.size:=fun h=>(lH.1 h).1;refine⟨Nat.le_of_ble_eq_true h1,?_,?_,?_,?_,?_,?_⟩
 .intro i o j A I;have:=h2 i (hlt A);rw[A] at this;simp only[di,mJ] at this;exact dj.1 (this.1 j I)
 .intro i o t A ht;have:=h2 i (hlt A);rw[A] at this;simp only[di,ht] at this;exact dj.1 this.2
 .intro i j o p d hi I A J hd he;have:=h3 i hi;rw[A] at this;simp only[mJ,qE] at this;have:=this j I;rw[J] at this;simp only[he,hd,rV,di] at this;rcases this with h|h;·exact dF h
  .have:=h.1;rw[tN] at this;cases this
 .intro i j o p d hi I a4 A J hd he;have:=h3 i hi;rw[A] at this;simp only[mJ,qE] at this;have:=this j I;rw[J] at this;simp only[hd,rV,di] at this;rcases this with h|h;·exact absurd (dF h) a4
  .rcases h.2 with(h|h)|h;·rw[jO.2 he] at h;cases h
   .exact .inl (jO.1 h)
   .exact .inr (jO.1 h)
 .intro t o ht A;have:=h4 t (hlt A);rw[A] at this;simp only[rV,mJ,List.any_eq_true,qE,di] at this;rcases this with h|h|h;·have:=dj.1 h;omega
  .obtain⟨j,I,h⟩:=h;exact .inl ⟨j,I,fU h⟩
  .refine .inr fun p J=>?_;rcases h p J with h|⟨q,hq,h,R⟩;·obtain⟨x,hx,hb⟩:=h;rw[dF hb];exact .inl hx
   .cases D:eO[q]? with
    |none=>rw[D] at R;cases R
    |some oq=>rw[D] at R;exact .inr ⟨q,oq,dj.1 h,hq,D,jO.1 R⟩
 .intro k hk a3;have:=h5 k a3;simp only[rV] at this;rcases this with h|h;·have:=dj.1 h;omega
  .generalize Region.ready .any eO (cW eO.size k)=r at h;match r,h with
   |[j],h=>rw[dF h]
theorem GV (N k i:Nat) (d:Bool) (hi:i<N):(cW N k).getD i d=Nat.blt i k:=by unfold cW;simp[hi]
theorem Gf {N k:Nat}(_h:k<N):(cW N k).setIfInBounds k true=cW N (k+1):=by
 apply Array.ext (by simp[cW]);intro i h1 A;simp[cW] at h1 A⊢;rw[List.getElem_set];split;·simp_all
 .simp only[List.getElem_map,Cu];rw[Bool.eq_iff_iff,dj,dj];omega
theorem uN {e:Edge}(h:e∈o.after) (A:Region.binds .any e=true):e.on∈bP o:=
 nZ.2 ⟨e,u6.2 ⟨Array.mem_toList_iff.2 h,A⟩,rfl⟩
theorem jp (h:j∈bP o): ∃e∈o.after,Region.binds .any e=true/\e.on=j:=by obtain⟨e,A,h⟩:=nZ.1 h;grind
section
variable {P:Program}{eO:Array Oper}{Q:Exit->Act->World->Prop}{av:Nat->Prop}{w0:Ent}{m n:Nat}
theorem yE (hc:Chk eO m n) {K:St->Prop}(hQ: ∀σ' β a w,σ'.n=n->K σ'->Rel av w0 n σ'.T σ'.B β a w->Q .normal a w): ∀(l:List Oper) (k:Nat) (A:St) (et:Nat) (β:Nat->Nat) (a:Act) (w:World),m<=k->(∀j:Nat,l[j]? =eO[k+j]?)->k+l.length=eO.size->A.n=n->dl P eO l A K->Rel av w0 n A.T A.B β a w->l.length<=et->wpAny P .any eO Q et (cW eO.size k) a w
 |[],k,A,et,β,a,w,_,_,hk,hn,I,hr,_=>by refine wpAny_done ?_ (hQ A β a w hn I hr) et;refine List.eq_nil_iff_forall_not_mem.2 fun j hj=>?_;obtain⟨h0,o,R,_⟩:=mem_ready.1 hj;have a4:=(lH.1 R).1;rw[GV _ _ _ _ a4] at h0;have:Nat.blt j k=true:=dj.2 (by simp at hk;omega);rw[this] at h0;cases h0
 |o::l,k,A,0,β,a,w,_,_,_,_,_,_,hf=>by simp at hf
 |o::l,k,A,et+1,β,a,w,hmk,hl,hk,hn,I,hr,hf=>by
  have R:eO[k]? =some o:=by have:=hl 0;simpa using this.symm
  have a3:k<eO.size:=(lH.1 R).1;refine wpAny_all (hc.rdy k hmk a3) (by simp) ?_;intro i hi;obtain rfl:i=k:=by simpa using hi
  rw[Gf a3];unfold wpOp;rw[R];rcases I with⟨e,hs,ha,I⟩|⟨F,hs,I⟩
  .refine hr.step hs (fun t ht=>hc.dn i o t R ht) (fun _ _ _ h=>h) (fun _ _ h=>h) ha (fun J a' w' D=>?_);refine yE hc hQ l (i+1) (A.app o.dst e) et J a' w' (by omega) (fun j=>by have:=hl (j+1);rw[show i+1+j=i+(j+1) from by omega];simpa using this) (by simp at hk;omega) (by rw[Nt];exact hn) I ?_ (by simpa using hf);rw[qw,aau];exact D
  .obtain⟨hw,hg⟩:=hs av w0 β a w (by rw[hn];exact hr) (fun t ht=>by rw[hn];exact hc.dn i o t R ht);refine(if_pos hw).mpr (.inl (hg.wp fun v w' ⟨σ',J,hF,a5,D⟩=>?_));exact yE hc hQ l (i+1) σ' et J _ w' (by omega) (fun j=>by have:=hl (j+1);rw[show i+1+j=i+(j+1) from by omega];simpa using this) (by simp at hk;omega) (by rw[a5,hn]) (I σ' hF) (by rw[<-hn];exact D) (by simpa using hf)
def Lq (dp:Array Bool):Nat:=dp.toList.countP (fun b=> !b)
theorem BR (hi:i<dp.size) (h:dp.getD i true=false):Lq (dp.setIfInBounds i true)+1=Lq dp:=by
 have h0:dp.toList[i]? =some false:=by simp_all
 unfold Lq;grind
theorem xw (hi:i<dp.size) (h:dp.getD i true=false):1<=Lq dp:=by have:=BR hi h;omega
theorem lk (hi:i<dp.size) (d A:Bool):dp.getD i d=dp.getD i A:=by simp[Array.getD,hi]
theorem qp {γ:Type}(f:Oper->Eff->γ) {l:List Oper}{u:γ}(h:(List.zipWith f l es)[j]? =some u): ∃o e,l[j]? =some o/\es[j]? =some e/\u=f o e:=by grind
theorem JB (a4:tF eO=true) (a3:i<j) (ho:eO[i]? =some o) (hp:eO[j]? =some p) (a6:jn o=true) (a5:jn p=true):i∈bP p\/ ∃(q:Nat) (R:Oper),i<q/\q<j/\eO[q]? =some R/\jn R=true/\q∈bP p:=by
 have h1:=mJ.1 a4 j (qE.2 (lH.1 hp).1)
 rw[hp] at h1
 dsimp only at h1
 rw[a5] at h1
 have D:=mJ.1 h1 i (qE.2 a3)
 rw[ho] at D
 simp only[rV] at D
 rcases D with D|D
 .simp_all
 .obtain⟨q,hq,J⟩:=List.any_eq_true.1 D
  simp only[di] at J
  obtain⟨J,I⟩:=J
  cases A:eO[q]? with
  |none=>rw[A] at I;cases I
  |some R=>
   rw[A] at I
   simp only[di] at I
   exact .inr ⟨q,R,dj.1 J,qE.1 hq,A,I.1,jO.1 I.2⟩
theorem wS (D:tF eO=true) {dp:Array Bool}(A: ∀i o j,dp.getD i false=true->eO[i]? =some o->j∈bP o->dp.getD j false=true):∀(d j i:Nat) (o p:Oper),j<=d->i<j->eO[i]? =some o->eO[j]? =some p->jn o=true->jn p=true->dp.getD j false=true->dp.getD i false=true
 |0,j,i,o,p,hd,hij,_,_,_,_,_=>by omega
 |d+1,j,i,o,p,hd,hij,ho,hp,hco,hcp,hj=>by
  rcases JB D hij ho hp hco hcp with h|⟨q,J,h1,h2,I,h4,R⟩;·exact A j p i hj hp h
  .exact wS D A d q i o J (by omega) h1 ho I hco h4 (A j p q hj hp R)
theorem OA (D:tF eO=true) (J: ∀i o j,dp.getD i false=true->eO[i]? =some o->j∈bP o->dp.getD j false=true) {j i:Nat}{o p:Oper}(a3:i<j) (ho:eO[i]? =some o) (hp:eO[j]? =some p) (A:jn o=true) (R:jn p=true) (I: ∀q,q∈bP p->dp.getD q false=true):dp.getD i false=true:=by
 rcases JB D a3 ho hp A R with h|⟨q,oq,h1,h2,h3,h4,h5⟩
 .grind
 .exact wS D J q q i o oq (bk _) h1 ho h3 A h4 (I q h5)
theorem Xs (hc:Chk eO m n) {T0:TF}{B0 M0:BF}(hM: ∀k c,B0 k=some c->M0 k=some c) (o3:es.length=m) (l4: ∀(i j:Nat) k U cs U' cs',es[i]? =some (.s k U cs)->es[j]? =some (.s k U' cs')->i=j\/qt eO=true) (g0: ∀(i j:Nat) k U cs U' cs' x,es[i]? =some (.s k U cs)->es[j]? =some (.rs k U' cs' x)->False) (a4: ∀(i:Nat) (o:Oper) (e:Eff),(eO.toList.take m)[i]? =some o->es[i]? =some e->acO P eO hs o (iq (fun j=>decide (j<i)) 0 (Kx (eO.toList.take m) es) T0) B0 (iq (fun j=>decide (j<i)) 0 (wU (eO.toList.take m) es) M0) e/\(∀k x,e≠ .c k x)/\(∀k U cs,e=.s k U cs->hs.any (Nat.beq k)=true/\(B0 k≠none\/k∈o.looksAt eO)/\(k∉sd\/qt eO=true)/\Bn o=true)/\ (∀k U cs x,e=.rs k U cs x->hs.any (Nat.beq k)=true/\B0 k≠none/\k∉sd/\jn o=true/\tF eO=true/\hs.any (Nat.beq 999999)=false)/\ (∀U cs sl,e=.a U cs sl-> ∃d,o.dst=some d/\iq (fun j=>decide (j<i)) 0 (wU (eO.toList.take m) es) M0 d=none)) (hQ: ∀β a w et,eO.size-m<=et->Rel av w0 n (iq (fun _=>true) 0 (Kx (eO.toList.take m) es) T0) (iq (fun _=>true) 0 (wU (eO.toList.take m) es) M0) β a w->wpAny P .any eO Q et (cW eO.size m) a w):∀(et:Nat) (dp:Array Bool) (β:Nat->Nat) (a:Act) (w:World),dp.size=eO.size->Lq dp<=et-> (∀i o j,dp.getD i false=true->eO[i]? =some o->j∈bP o->dp.getD j false=true)->(∀t,m<=t->dp.getD t false=false)-> Rel av w0 n (iq (fun j=>dp.getD j false) 0 (Kx (eO.toList.take m) es) T0) (iq (fun j=>dp.getD j false) 0 (wU (eO.toList.take m) es) M0) β a w->wpAny P .any eO Q et dp a w:=by
 have a3: ∀ {i:Nat}{o:Oper},i<m->eO[i]? =some o->(eO.toList.take m)[i]? =some o:=by intro i o hi ho;rw[kS,if_pos hi,mW];exact ho
 have D: ∀ {i:Nat}{o:Oper},(eO.toList.take m)[i]? =some o->i<m/\eO[i]? =some o:=by
  intro i o h;rw[kS] at h;split at h;·rename_i hi;rw[mW] at h;exact⟨hi,h⟩
  .cases h
 have n4: ∀(t:Nat),∀u∈wU (eO.toList.take m) es,u t≠some none:=by intro t u hu;obtain⟨j,hj⟩:=CS hu;obtain⟨o,e,_,_,rfl⟩:=qp _ hj;exact Wu _ _ _
 have k1: ∀(d j:Nat) k U cs,j<d->es[j]? =some (.s k U cs)->M0 k≠none\/ ∃j0 o0 U0 cs0 d4,j0<m/\eO[j0]? =some o0/\es[j0]? =some (.a U0 cs0 d4)/\o0.dst=some k/\ ∀I,eO[j]? =some I->j0∈bP I:=by
  intro d;induction d with
  |zero=>intro j k U cs h0;omega
  |succ d r3=>
  intro j k U cs v3 hj;have J:j<m:=by rw[<-o3];exact(fM.1 hj).1
  have h9:j<eO.size:=kW J hc.le;obtain⟨j2,_,hh,_⟩:=a4 j eO[j] _ (a3 J (uw h9)) hj;obtain⟨_,⟨cs0,hb⟩,_⟩:=j2.resolve_right (by rintro⟨_,⟨x,hx⟩,_⟩;cases hx);have hb:(bif Nat.beq k k then iq (fun j'=>decide (j'<j)) 0 (wU (eO.toList.take m) es) M0 k else hid hs B0 k)=some (U,cs0):=hb;rw[tN] at hb;have hb:iq (fun j'=>decide (j'<j)) 0 (wU (eO.toList.take m) es) M0 k=some (U,cs0):=hb;by_cases c3:M0 k=none
  .refine .inr ?_;apply kU;intro g7;rw[iV _ _ _ ?_,c3] at hb;·cases hb
   .intro j0 u p4 p3;apply kU;intro hu;apply g7;obtain⟨o0,e0,h1,h2,rfl⟩:=qp _ p4;have hlt:j0<j:=by simpa using p3
    rcases Uf hu with⟨U0,cs0,d4,rfl,hd⟩|⟨U0,cs0,rfl⟩|⟨U0,cs0,x0,rfl⟩
    .refine⟨j0,o0,U0,cs0,d4,(D h1).1,(D h1).2,h2,hd,fun I A=>?_⟩;have e3:eO[j]? =some eO[j]:=uw h9;rw[e3] at A;injection A with A
     rcases(hh k U cs rfl).2.1 with h3|h3
     .exfalso;cases hB:B0 k with
      |none=>exact h3 hB
      |some c=>rw[hM k c hB] at c3;cases c3
     .rcases hc.dep j j0 eO[j] o0 k J (D h1).1 (by omega) e3 (D h1).2 hd h3 with h4|h4;·rw[<-A];exact h4
      .have:=hc.low j0 o0 j (D h1).2 h4;omega
    .rcases r3 j0 k U0 cs0 (by omega) h2 with h7|⟨j1,o1,U1,p1,r5,g1,g2,g3,g4,g5⟩;·exact absurd c3 h7
     .refine⟨j1,o1,U1,p1,r5,g1,g2,g3,g4,fun I A=>?_⟩;have e3:eO[j]? =some eO[j]:=uw h9;rw[e3] at A;injection A with A
      have t4:=hc.low j0 o0 j1 (D h1).2 (g5 o0 (D h1).2);rcases(hh k U cs rfl).2.1 with h3|h3
      .exfalso;cases hB:B0 k with
       |none=>exact h3 hB
       |some c=>rw[hM k c hB] at c3;cases c3
      .rcases hc.dep j j1 eO[j] o1 k J g1 (by omega) e3 g2 g4 h3 with h4|h4;·rw[<-A];exact h4
       .have:=hc.low j1 o1 j g2 h4;omega
    .exact(g0 j j0 k U cs U0 cs0 x0 hj h2).elim
  .exact .inl c3
 have l0: ∀(j:Nat) k U cs,es[j]? =some (.s k U cs)->M0 k≠none\/ ∃j0 o0 U0 cs0 d4,j0<m/\eO[j0]? =some o0/\es[j0]? =some (.a U0 cs0 d4)/\o0.dst=some k/\ ∀I,eO[j]? =some I->j0∈bP I:=
  fun j k U cs h=>k1 (j+1) j k U cs (by omega) h
 have s4:(eO.toList.take m).length=m:=by have:=hc.le;rw[fF,Array.length_toList];omega
 intro et
 induction et with
 |zero=>
  intro dp β a w e6 hu c5 hp hr
  have hm:m=eO.size:=by
   rcases nT m eO.size with h|h;·have:=xw (dp:=dp) (i:=m) (by omega) (by rw[lk (by omega) true false];exact hp m (bk _));omega
   .exact Nat.le_antisymm hc.le h
  have hl: ∀i,i<m->dp.getD i false=true:=fun i hi=>by
   cases h:dp.getD i false with
   |true=>rfl
   |false=>have:=xw (dp:=dp) (i:=i) (by omega) (by rw[lk (by omega) true false];exact h);omega
  have e:dp=cW eO.size m:=by apply Array.ext (by simp[cW,e6]);intro i h1 h2;have h3:=hl i (by omega);simp[Array.getD,h1] at h3;rw[h3];simp[cW];omega
  rw[e]
  refine hQ β a w 0 (by omega) (hr.congr (fun t=>fm _ _ _ _ rfl ?_) (fun t=>fm _ _ _ _ rfl ?_))
  .intro j u hj _
   obtain⟨o,e,h1,_,_⟩:=qp _ hj
   rw[dN];exact(hl j (D h1).1).symm
  .intro j u hj _
   obtain⟨o,e,h1,_,_⟩:=qp _ hj
   rw[dN];exact(hl j (D h1).1).symm
 |succ et ih=>
  intro dp β a w e6 hu c5 hp hr
  by_cases hl: ∀i,i<m->dp.getD i false=true
  .have e:dp=cW eO.size m:=by
    apply Array.ext (by simp[cW,e6]);intro i h1 h2;by_cases b3:i<m
    .have h3:=hl i b3;simp[Array.getD,h1] at h3;rw[h3];simp[cW,b3]
    .have h3:=hp i (by omega);simp[Array.getD,h1] at h3;rw[h3];simp[cW];cases hb:Nat.blt i m with
     |false=>rfl
     |true=>have:=dj.1 hb;omega
   have w3:eO.size-m<=Lq dp:=by
    rw[e];unfold Lq cW;have:(List.map (fun i=>Nat.blt i m) (List.range eO.size))=List.replicate m true++List.replicate (eO.size-m) false:=by
     apply Ai (by simp;have:=hc.le;omega);intro i h1 h2;simp at h1;by_cases b3:i<m;·rw[List.getElem_append_left (by simpa using b3)];simp[b3]
     .rw[List.getElem_append_right (by simpa using b3)];simp;cases hb:Nat.blt i m with
      |false=>rfl
      |true=>have:=dj.1 hb;omega
    simp[this,List.countP_append,List.countP_replicate]
   rw[e]
   refine hQ β a w (et+1) (by omega) (hr.congr (fun t=>fm _ _ _ _ rfl ?_) (fun t=>fm _ _ _ _ rfl ?_))
   .intro j u hj _
    obtain⟨o,e,h1,_,_⟩:=qp _ hj
    rw[dN];exact(hl j (D h1).1).symm
   .intro j u hj _
    obtain⟨o,e,h1,_,_⟩:=qp _ hj
    rw[dN];exact(hl j (D h1).1).symm
  .refine⟨fun h0=>?_,fun i hi=>?_⟩
   ·--something may come up:the least that is not dp
    exfalso
    have n0: ∃p,p<m/\dp.getD p false=false/\ ∀q,q<p->dp.getD q false=true:=by
     have i0: ∀d p,p<=d->p<m->dp.getD p false=false-> ∃p,p<m/\dp.getD p false=false/\ ∀q,q<p->dp.getD q false=true:=by
      intro d;induction d with
      |zero=>intro p hd b6 e9;exact⟨p,b6,e9,fun q hq=>by omega⟩
      |succ d i1=>
       intro p hd b6 e9;by_cases hq: ∀q,q<p->dp.getD q false=true;·exact⟨p,b6,e9,hq⟩
       .obtain⟨q,hq⟩:=Aa.1 hq;obtain⟨v2,hq⟩:=Ap.1 hq;exact i1 q (by omega) (by omega) (by simpa using hq)
     obtain⟨p,i8⟩:=Aa.1 hl;obtain⟨b6,i8⟩:=Ap.1 i8;exact i0 p p (bk _) b6 (by simpa using i8)
    obtain⟨p,b6,e9,hq⟩:=n0
    have j4:p<eO.size:=by have:=hc.le;omega
    have l8:p∈Region.ready .any eO dp:=mem_ready.2 ⟨by rw[lk (by omega) true false];exact e9,eO[p],uw j4,fun e he hb=>
     hq e.on (hc.low p _ e.on (uw j4) (uN he hb))⟩
    rw[h0] at l8;cases l8
   .obtain⟨m0,o,ho,d6⟩:=mem_ready.1 hi
    have n3:i<eO.size:=(lH.1 ho).1
    have b7:dp.getD i false=false:=by rw[lk (by omega) false true];exact m0
    have b3:i<m:=by
     rcases nT i m with h|h;·exact h
     .exfalso;rcases hc.tl i o h ho with⟨j,hj,g8⟩|k9
      .obtain⟨e,he,hb,rfl⟩:=jp hj;have:=d6 e he hb;rw[hp _ g8] at this;cases this
      .apply hl;have i0: ∀d p,m-p<=d->p<m->dp.getD p false=true:=by
        intro d;induction d with
        |zero=>intro p hd b6;omega
        |succ d i1=>
         intro p hd b6;rcases k9 p b6 with hb|⟨q,oq,u2,q4,q5,hb⟩
         .obtain⟨e,he,m5,e2⟩:=jp hb;rw[<-e2];exact d6 e he m5
         .exact c5 q oq p (i1 q (by omega) q4) q5 hb
       exact fun p b6=>i0 (m-p) p (bk _) b6
    obtain⟨e,he⟩: ∃e,es[i]? =some e:=⟨es[i]'(by omega),gI (by omega)⟩
    obtain⟨f4,k3,u8,r6,r1⟩:=a4 i o e (a3 b3 ho) he
    have i2: ∀(t j:Nat) u,(Kx (eO.toList.take m) es)[j]? =some u->u t≠none-> ∃I ej,j<m/\eO[j]? =some I/\es[j]? =some ej/\I.dst=some t/\u=uT I.dst ej:=by
     intro t j u hj hu;obtain⟨I,ej,h1,h2,rfl⟩:=qp _ hj;refine⟨I,ej,(D h1).1,(D h1).2,h2,?_,rfl⟩;unfold uT at hu;split at hu;·assumption
     .exact absurd rfl hu
    have d5: ∀(t j:Nat) u,(wU (eO.toList.take m) es)[j]? =some u->u t≠none-> ∃I ej,j<m/\eO[j]? =some I/\es[j]? =some ej/\((∃U cs sl,ej=.a U cs sl/\I.dst=some t/\M0 t=none)\/(∃U cs,ej=.s t U cs)\/ ∃U cs x,ej=.rs t U cs x)/\u=uB I.dst ej:=by
     intro t j u hj hu;obtain⟨I,ej,h1,h2,rfl⟩:=qp _ hj;refine⟨I,ej,(D h1).1,(D h1).2,h2,?_,rfl⟩;rcases Uf hu with⟨U,cs,sl,rfl,hd⟩|⟨U,cs,rfl⟩|⟨U,cs,x,rfl⟩
     .refine .inl ⟨U,cs,sl,rfl,hd,?_⟩;obtain⟨d,g6,d2⟩:=(a4 j I _ h1 h2).2.2.2.2 U cs sl rfl;have:d=t:=by rw[hd] at g6;injection g6 with e;exact e.symm
      subst this;cases c3:M0 d with
      |none=>rfl
      |some c=>exact absurd d2 (Dq _ _ _ (by rw[c3];simp) (n4 d))
     .exact .inr (.inl ⟨U,cs,rfl⟩)
     .exact .inr (.inr ⟨U,cs,x,rfl⟩)
    have m4: ∀(t j j':Nat) u u',(wU (eO.toList.take m) es)[j]? =some u->(wU (eO.toList.take m) es)[j']? =some u'->u t≠none->u' t≠none->j=j'\/(∀o',eO[j']? =some o'->j∈bP o')\/(∀o',eO[j]? =some o'->j'∈bP o')\/(tF eO=true/\(∀o',eO[j]? =some o'->jn o'=true)/\ ∀o',eO[j']? =some o'->jn o'=true):=by
     intro t j j' u u' hj f2 hu d7;obtain⟨I,ej,J,A,R,hk,_⟩:=d5 t j u hj hu;obtain⟨c8,q3,b5,a5,b4,p2,_⟩:=d5 t j' u' f2 d7;have e5: ∀(j:Nat) I (U:TypeId) cs x,j<m->eO[j]? =some I->es[j]? =some (.rs t U cs x)->M0 t≠none/\jn I=true/\tF eO=true:=by
      intro j I U cs x J A R;obtain⟨_,h2,_,h4,h5,_⟩:=(a4 j I _ (a3 J A) R).2.2.2.1 t U cs x rfl;refine⟨fun h=>?_,h4,h5⟩;cases hB:B0 t with
      |none=>exact h2 hB
      |some c=>rw[hM t c hB] at h;cases h
     rcases hk with⟨U,cs,sl,rfl,hd,hn⟩|⟨U,cs,rfl⟩|⟨U,cs,x,rfl⟩<;>rcases p2 with⟨U',cs',v4,rfl,g6,m3⟩|⟨U',cs',rfl⟩|⟨U',cs',x',rfl⟩;·exact .inl (hc.dist j j' I c8 t J b5 A a5 hd g6)
     .rcases l0 j' t U' cs' b4 with h|⟨j0,o0,U0,cs0,d4,h1,h2,h3,h4,h5⟩;·exact absurd hn h
      .rw[hc.dist j j0 I o0 t J h1 A h2 hd h4];exact .inr (.inl h5)
     .exact absurd hn (e5 j' c8 U' cs' x' b5 a5 b4).1
     .rcases l0 j t U cs R with h|⟨j0,o0,U0,cs0,d4,h1,h2,h3,h4,h5⟩;·exact absurd m3 h
      .rw[hc.dist j' j0 c8 o0 t b5 h1 a5 h2 g6 h4];exact .inr (.inr (.inl h5))
     .rcases l4 j j' t U cs U' cs' R b4 with h|h;·exact .inl h
      .have s1:=((a4 j I _ (a3 J A) R).2.2.1 t U cs rfl).2.2.2;have s2:=((a4 j' c8 _ (a3 b5 a5) b4).2.2.1 t U' cs' rfl).2.2.2;rcases Nat.lt_trichotomy j j' with hlt|r4|hlt
       .refine .inr (.inl fun o' h'=>?_);rw[a5] at h';injection h' with h';subst h';exact CM h hlt A a5 s1 s2
       .exact .inl r4
       .refine .inr (.inr (.inl fun o' h'=>?_));rw[A] at h';injection h' with h';subst h';exact CM h hlt a5 A s2 s1
     .exact(g0 j j' t U cs U' cs' x' R b4).elim
     .exact absurd m3 (e5 j I U cs x J A R).1
     .exact(g0 j' j t U' cs' U cs x b4 R).elim
     .refine .inr (.inr (.inr ⟨(e5 j I U cs x J A R).2.2,fun o' h=>?_,fun o' h=>?_⟩));·rw[A] at h;injection h with h;subst h;exact(e5 j I U cs x J A R).2.1
      .rw[a5] at h;injection h with h;subst h;exact(e5 j' c8 U' cs' x' b5 a5 b4).2.1
    have l3:(wU (eO.toList.take m) es)[i]? =some (uB o.dst e):=by unfold wU;rw[List.getElem?_zipWith,a3 b3 ho,he]
    have hrel: ∀(t j:Nat) u,(wU (eO.toList.take m) es)[j]? =some u->u t≠none->uB o.dst e t≠none->dp.getD j false=decide (j<i):=by
     intro t j u hj hu hi;obtain⟨I,ej,J,A,R,_,_⟩:=d5 t j u hj hu;rcases m4 t j i u _ hj l3 hu hi with h|h|h|⟨k7,k4,j3⟩;·subst h;rw[b7];simp
     .have h1:=h o ho;have h2:=hc.low i o j ho h1;obtain⟨e',c6,c7,rfl⟩:=jp h1;rw[d6 e' c6 c7];simpa using h2
     .have h1:=h I A;have h2:=hc.low j I i A h1;have h3:dp.getD j false=false:=by
       cases e4:dp.getD j false with
       |false=>rfl
       |true=>have:=c5 j I i e4 A h1;rw[b7] at this;cases this
      rw[h3];simp;omega
     .by_cases a9:j=i;·subst a9;rw[b7];simp
      .rcases Nat.lt_or_gt_of_ne a9 with hlt|hlt
       .rw[OA k7 c5 hlt A ho (k4 I A) (j3 o ho) (fun q hq=>by obtain⟨e',c6,c7,rfl⟩:=jp hq;exact d6 e' c6 c7)]
        simpa using hlt
       .have h3:dp.getD j false=false:=by
         cases e4:dp.getD j false with
         |false=>rfl
         |true=>have:=wS k7 c5 j j i o I (bk _) hlt ho A (j3 o ho) (k4 I A) e4;rw[b7] at this;cases this
        rw[h3];simp;omega
    have d3: ∀j,(dp.setIfInBounds i true).getD j false=if j=i then true else dp.getD j false:=by
     intro j;by_cases a9:j=i;·subst a9;simp[Array.getD,e6,n3]
     .rw[if_neg a9,getD_set_ne false (fun e=>a9 e.symm)]
    unfold wpOp
    rw[ho]
    have k5: ∃Bs:BF,Sem P eO o (iq (fun j=>decide (j<i)) 0 (Kx (eO.toList.take m) es) T0) Bs e/\ ∀k c,Bs k=some c->iq (fun j=>dp.getD j false) 0 (wU (eO.toList.take m) es) M0 k=some c:=by
     rcases f4 with f4|⟨l5,_,f4⟩;rotate_left
     .refine⟨_,f4,fun k c hB=>?_⟩;rw[<-hM k c hB];refine iV _ _ _ fun j u hj hm=>?_;apply kU;intro hu;rw[dN] at hm;obtain⟨I,ej,J,A,R,h8,_⟩:=d5 k j u hj hu;have g7:Lh hs I=true->False:=fun hw=>by have:=c5 j I i hm A (adZ l5 ho A hw);rw[b7] at this;cases this
      rcases h8 with⟨U,cs,sl,rfl,hd,hn⟩|⟨U,cs,rfl⟩|⟨U,cs,x,rfl⟩;·rw[hM k c hB] at hn;cases hn
      .exact g7 (Ya ((a4 j I _ (a3 J A) R).2.2.1 k U cs rfl).2.2.2)
      .exact g7 (O3 ((a4 j I _ (a3 J A) R).2.2.2.1 k U cs x rfl).2.2.2.1 ((a4 j I _ (a3 J A) R).2.2.2.1 k U cs x rfl).2.2.2.2.2)
     refine⟨_,f4,?_⟩;intro k c hk;have a6:hid hs B0 k=some c->iq (fun j=>dp.getD j false) 0 (wU (eO.toList.take m) es) M0 k=some c:=by
      intro hk;unfold hid at hk;cases hb:hs.any (Nat.beq k) with
      |true=>rw[hb] at hk;cases hk
      |false=>
       rw[hb] at hk;have hB:B0 k=some c:=hk;rw[<-hM k c hB];refine iV _ _ _ fun j u hj hm=>?_;apply kU;intro hu;obtain⟨I,ej,J,A,R,h8,_⟩:=d5 k j u hj hu;rcases h8 with⟨U,cs,sl,rfl,hd,hn⟩|⟨U,cs,rfl⟩|⟨U,cs,x,rfl⟩;·rw[hM k c hB] at hn;cases hn
       .have:=((a4 j I _ (a3 J A) R).2.2.1 k U cs rfl).1;rw[hb] at this;cases this
       .have:=((a4 j I _ (a3 J A) R).2.2.2.1 k U cs x rfl).1;rw[hb] at this;cases this
     cases e with
     |s k' U cs=>
      replace hk:(bif Nat.beq k k' then iq (fun j=>decide (j<i)) 0 (wU (eO.toList.take m) es) M0 k else hid hs B0 k)=some c:=hk;cases hb:Nat.beq k k' with
      |false=>rw[hb] at hk;exact a6 hk
      |true=>rw[hb] at hk;have i4:=dF hb;subst i4;rw[<-hk];refine fm _ _ _ _ rfl fun j u hj hu=>?_;rw[dN];exact hrel k j u hj hu (by unfold uB;simp)
     |rs k' U cs x=>
      replace hk:(bif Nat.beq k k' then iq (fun j=>decide (j<i)) 0 (wU (eO.toList.take m) es) M0 k else hid hs B0 k)=some c:=hk;cases hb:Nat.beq k k' with
      |false=>rw[hb] at hk;exact a6 hk
      |true=>rw[hb] at hk;have i4:=dF hb;subst i4;rw[<-hk];refine fm _ _ _ _ rfl fun j u hj hu=>?_;rw[dN];exact hrel k j u hj hu (by unfold uB;simp)
     |r x=>exact a6 hk
     |a U cs sl=>exact a6 hk
     |c k x=>exact a6 hk
     |skip=>exact a6 hk
    obtain⟨Bs,k6,n2⟩:=k5
    refine hr.step k6 (fun t ht=>hc.dn i o t ho ht) ?_ n2 ?_ (fun n1 a' w' m6=>?_)
    .intro t x q6 hx
     rw[<-hx]
     refine(fm _ _ _ _ rfl fun j u hj hu=>?_)
     obtain⟨I,ej,J,A,_,i6,_⟩:=i2 t j u hj hu
     rw[dN]
     by_cases a9:j=i
     .subst a9;rw[b7];simp
     .rcases hc.dep i j o I t b3 J (fun e=>a9 e.symm) ho A i6 q6 with hb|hb
      .have h6:=hc.low i o j ho hb
       obtain⟨e',c6,c7,rfl⟩:=jp hb
       rw[d6 e' c6 c7];simpa using h6
      .have h6:=hc.low j I i A hb
       have h1:dp.getD j false=false:=by
        cases e4:dp.getD j false with
        |false=>rfl
        |true=>have:=c5 j I i e4 A hb;rw[b7] at this;cases this
       rw[h1];simp;omega
    .intro U cs sl hE
     obtain⟨d,hd,d2⟩:=r1 U cs sl hE
     refine⟨d,hd,?_⟩
     rw[<-d2]
     refine fm _ _ _ _ rfl fun j u hj hu=>?_
     rw[dN]
     exact hrel d j u hj hu (by rw[hE];unfold uB;dsimp only;rw[if_pos hd];simp)
    .refine ih (dp.setIfInBounds i true) n1 a' w' (by simpa using e6) (by have:=BR (by omega) m0;omega) ?_ ?_ ?_
     .intro i' o' j' h1 h2 h3
      rw[d3] at h1⊢
      by_cases a9:j'=i
      .rw[if_pos a9]
      .rw[if_neg a9]
       by_cases m2:i'=i
       .subst m2
        rw[ho] at h2
        injection h2 with h2
        subst h2
        obtain⟨e',c6,c7,rfl⟩:=jp h3
        exact d6 e' c6 c7
       .rw[if_neg m2] at h1
        exact c5 i' o' j' h1 h2 h3
     .intro t ht
      rw[d3,if_neg (by omega)]
      exact hp t ht
     .refine m6.congr (fun t=>?_) (fun k=>?_)
      .rw[show e.tf o.dst (iq (fun j=>dp.getD j false) 0 (Kx (eO.toList.take m) es) T0) t=(uT o.dst e t).getD (iq (fun j=>dp.getD j false) 0 (Kx (eO.toList.take m) es) T0 t) from(congrFun (Qb o.dst e _ k3) t).symm]
       by_cases f3:o.dst=some t
       .rw[show uT o.dst e t=some (some (ent t e)) from by unfold uT;rw[if_pos f3]]
        show _=some (ent t e)
        refine MM (u:=uT o.dst e) _ _ _ i ?_ ?_ ?_ ?_
        .unfold Kx
         rw[List.getElem?_zipWith,a3 b3 ho,he]
        .unfold uT;rw[if_pos f3]
        .rw[dN,d3,if_pos rfl]
        .intro j' u' f2 p0
         cases d7:u' t with
         |none=>rfl
         |some x'=>
          obtain⟨c8,q3,b5,a5,_,k8,_⟩:=i2 t j' u' f2 (by rw[d7];simp)
          exact absurd (hc.dist j' i c8 o t b5 b3 a5 ho k8 f3) p0
       .rw[show uT o.dst e t=none from by unfold uT;rw[if_neg f3]]
        refine fm _ _ _ _ rfl fun j u hj hu=>?_
        obtain⟨I,ej,J,A,_,i6,_⟩:=i2 t j u hj hu
        rw[dN,d3,if_neg]
        intro e;subst e
        rw[ho] at A;injection A with A;subst A
        exact f3 i6
      .rw[show e.bf o.dst (iq (fun j=>dp.getD j false) 0 (wU (eO.toList.take m) es) M0) k=(uB o.dst e k).getD (iq (fun j=>dp.getD j false) 0 (wU (eO.toList.take m) es) M0 k) from(congrFun (TC o.dst e _ k3) k).symm]
       cases hu:uB o.dst e k with
       |some x=>
        refine xJ _ _ _ i l3 hu ?_ ?_
        .rw[dN,d3,if_pos rfl]
        .intro j' u' f2 hlt g8
         cases d7:u' k with
         |none=>rfl
         |some x'=>
          have:=hrel k j' u' f2 (by rw[d7];simp) (by rw[hu];simp)
          rw[dN,d3,if_neg (by omega),this] at g8
          simp at g8;omega
       |none=>
        refine fm _ _ _ _ rfl fun j u hj k2=>?_
        obtain⟨I,ej,J,A,R,_,rfl⟩:=d5 k j u hj k2
        rw[dN,d3,if_neg]
        intro e2;subst e2
        rw[ho] at A;injection A with A;subst A
        rw[he] at R;injection R with R;subst R
        exact k2 hu
end
def mT (P:Program) (U:TypeId):Option (Bool×Nat):=
 match P.underlying U,P.info? U with
 |some d,some i=>some ((match d with| .struct _| .array _ _=>true|_=>false),i.size)
 |_,_=>none
def VA (P:Program) (U:TypeId) (f:Nat):Option Nat:=
 match P.underlying U with
 |some (.struct fs)=>match fs[f]? with
  |some fd=>match P.info? fd.type with
   |some i=>if Nat.beq i.size 0 then none else some fd.offset
   |none=>none
  |none=>none
 |_=>none
def H4 (P:Program) (U:TypeId):Option (List (Nat×Nat)):=
 match P.underlying U with
 |some (.struct fs)=>fs.toList.mapM fun fd=>(P.info? fd.type).map fun i=>(fd.offset,i.size)
 |_=>none
def oB:Value->Option CellD
 | .bool b=>some (.b b)
 | .int k n=>some (.i k n)
 | .slice none 0 0=>some (.s 0 [])
 | .string s=>some (.e (.string s))
 |_=>none
def cst:Value->Option D0
 | .agg cs=>(cs.toList.mapM oB).map .a
 |v=>(oB v).map .c
def Cq (P:Program) (U:TypeId):Option (List CellD):=
 match P.info? U with
 |some i=>match i.zero with
  |some z=>(cst z).map D0.cells
  |none=>none
 |none=>none
def cE (T:TF):Operand->Option DV
 | .tmp t=>T t
 | .const v=>(cst v).map .v
 | .func g=>some (.v (.c (.f g)))
 | .global _=>none
def gd (eO:Array Oper) (o:Oper) (T:TF):Option Bool:=
 match o.guard with
 |none=>some true
 |some (g,b)=>match (eO[g]?).bind (·.dst) with
  |some t=>match T t with
   |some (.v (.c (.b v)))=>some (v==b)
   |some .u=>some false
   |_=>none
  |none=>some false
section
variable {P:Program}{eO:Array Oper}{o:Oper}{T:TF}{B:BF}{V:Nat->Prop}{β:Nat->Nat}{a:Act}{w:World}
theorem AZ (h:oB v=some u):RdC V w v u:=by
 cases v with
 |bool b=>simp[oB] at h;subst h;exact .b b
 |int k n=>simp[oB] at h;subst h;exact .i k n
 |slice A n c=>
  cases A with
  |some A=>simp[oB] at h
  |none=>
   cases n with
   |zero=>
    cases c with
    |zero=>simp[oB] at h;subst h;exact .s0 none 0 (by omega)
    |succ c=>simp[oB] at h
   |succ n=>simp[oB] at h
 |string s=>simp[oB] at h;subst h;exact .e _ (fun _ e=>nomatch e) (fun _ e=>nomatch e)
 |_=>simp[oB] at h
theorem mapM_cons {A γ:Type}(f:A->Option γ) (x:A) (l:List A):(x::l).mapM f=(f x).bind fun y=>(l.mapM f).bind fun ys=>some (y::ys):=by simp_all
theorem yB: ∀(vs:List Value) (us:List CellD),vs.mapM oB=some us->RdCs V w vs us
 |[],us,h=>by
  have:us=[]:=by simpa [List.mapM_nil] using h.symm
  subst this;exact qB
 |v::vs,us,h=>by
  rw[mapM_cons] at h;cases h1:oB v with
  |none=>rw[h1] at h;cases h
  |some u=>
   cases A:vs.mapM oB with
   |none=>rw[h1,A] at h;cases h
   |some us'=>rw[h1,A] at h;injection h with h;subst h;exact lG (AZ h1) (yB vs us' A)
theorem EI (h:cst v=some d):RdV V w v d:=by
 unfold cst at h;split at h
 .rename_i cs;cases h1:cs.toList.mapM oB with
  |none=>rw[h1] at h;cases h
  |some us=>rw[h1] at h;injection h with h;subst h;exact⟨cs,rfl,yB _ _ h1⟩
 .cases h1:oB v with
  |none=>rw[h1] at h;cases h
  |some u=>rw[h1] at h;injection h with h;subst h;exact AZ h1
theorem ap (hs:Sees V (ek eO o) T B β a w) (A:x∈o.op.operands) (h:cE T x=some dv):RdX V w β (a.eval x) dv:=by
 cases x with
 |tmp t=>
  have hl:ek eO o t:=wQ _ (List.mem_filterMap.2 ⟨.tmp t,by simpa using A,rfl⟩);obtain⟨v,e,D⟩:=hs.tmp t dv hl h;have:a.eval (.tmp t)=v:=by show a.tmps.getD t undef=v;obtain⟨hlt,e⟩:=lH.1 e;simp[Array.getD,hlt,e]
  grind
 |const v=>
  cases h1:cst v with
  |none=>simp[cE,h1] at h
  |some d=>simp[cE,h1] at h;subst h;exact EI h1
 |func g=>simp[cE] at h;subst h;exact .f g
 |global g=>simp[cE] at h
theorem oT {y:DV}{k:Nat}(D:x∈o.op.operands) (h:cE T x=some y) (A:jR y=some k): ∃t y,ek eO o t/\T t=some y/\jR y=some k:=by
 cases x with
 |tmp t=>exact⟨t,y,wQ _ (List.mem_filterMap.2 ⟨.tmp t,by simpa using D,rfl⟩),h,A⟩
 |const v=>
  cases h1:cst v with
  |none=>simp[cE,h1] at h
  |some d=>simp[cE,h1] at h;subst h;cases A
 |func g=>simp[cE] at h;subst h;cases A
 |global g=>simp[cE] at h
theorem eK (hs:Sees V (ek eO o) T B β a w) (h:gd eO o T=some r):xc o eO a=r:=by
 unfold gd at h;unfold xc Region.wanted;cases I:o.guard with
 |none=>rw[I] at h;simpa using h
 |some gb=>
  obtain⟨g,b⟩:=gb;rw[I] at h;dsimp only at h⊢;unfold yielded;cases R:(eO[g]?).bind (·.dst) with
  |none=>rw[R] at h;simpa using h
  |some t=>
   rw[R] at h;dsimp only at h;have hl:ek eO o t:=List.mem_append_right _ (by rw[I];simp[R]);cases J:T t with
   |none=>rw[J] at h;cases h
   |some dv=>
    rw[J] at h;obtain⟨v,e,A⟩:=hs.tmp t dv hl J;simp only[Option.bind_some,e];match dv,h,A with
    | .v (.c (.b c)),h,A=>cases A;rw[<-(Option.some.inj h)];rfl
    | .u,h,A=>subst A;rw[<-(Option.some.inj h)];rfl
theorem RdC.int_eq (h:RdC V w v (.i k m)):v=.int k m:=by cases h;rfl
theorem RdC.bool_eq (h:RdC V w v (.b b)):v=.bool b:=by cases h;rfl
theorem RdC.func_eq {g:FuncId}(h:RdC V w v (.f g)):v=.func (.func g) #[] #[]:=by cases h;rfl
theorem bv {x:DV}(I:gd eO o T=some true) (A: ∀k,jR x=some k-> ∃t y,ek eO o t/\T t=some y/\jR y=some k) (h: ∀V β a w,Sees V (ek eO o) T B β a w-> ∃v,(execOp a.eval o).run P w=.ok (.value v) w/\RdX V w β v x):Sem P eO o T B (.r x):=
 ⟨A,fun V β a w hs=>⟨eK hs I,by obtain⟨v,e,D⟩:=h V β a w hs;unfold Gives;rw[e];exact⟨D,fe _ _⟩⟩⟩
theorem mu (A:gd eO o T=some false):Sem P eO o T B .skip:=fun _ _ _ _ hs=>eK hs A
theorem qV {x:DV}(h:jR x=none): ∀k,jR x=some k-> ∃t y,ek eO o t/\T t=some y/\jR y=some k:=by grind
theorem oW (h:mT P U=some (b,n)) (w:World):(isAgg U).run P w=.ok b w/\(sizeOf U).run P w=.ok n w:=by
 unfold mT at h;cases A:P.underlying U with
 |none=>rw[A] at h;cases h
 |some d=>
  cases hi:P.info? U with
  |none=>rw[A,hi] at h;cases h
  |some i=>
   rw[A,hi] at h;injection h with h;injection h with h1 D;constructor
   .unfold isAgg;simp only[fh,run_underlying A,ft];rw[<-h1];cases d<;>rfl
   .unfold sizeOf typeInfo;simp[program,Sem.run,hi,<-D]
theorem fI (b o k:Nat):(⟨b,o,none⟩:Addr).add k=⟨b,o+k,none⟩:=by unfold Addr.add;split<;>simp_all
theorem iv (h:mT P U=some (true,n)) {b:Nat}{vs:List Value}(hl:vs.length=n) (J: ∀(j:Nat) (v:Value),vs[j]? =some v->w.cell? ⟨b,off+j,none⟩=some v):(loadVar U ⟨b,off,none⟩).run P w=.ok (.agg vs.toArray) w:=by
 obtain⟨h1,A⟩:=oW h w
 unfold loadVar
 simp only[fh,h1,ft,if_true,A]
 rw[<-hl,run_loadCells_list (P:=P) w ⟨b,off,none⟩ vs (fun j v D=>by rw[fI];exact J j v D)]
 rfl
theorem ip (h:mT P U=some (false,n)) {b:Nat}(A:w.cell? ⟨b,off,none⟩=some v):(loadVar U ⟨b,off,none⟩).run P w=.ok v w:=by
 obtain⟨h1,_⟩:=oW h w
 unfold loadVar
 simp only[fh,h1,ft]
 simp[A]
theorem bR {b:Nat}(h:w.heap[b]? =some (.cells vs U (0,0))) (j:Nat):w.cell? ⟨b,j,none⟩=vs[j]? :=cell_of_row w b j vs U (0,0) h
theorem Jn  (A:cE T x=some dv) (D:gd eO ⟨dst,.move x,ty,pos,af,g⟩ T=some true):Sem P eO ⟨dst,.move x,ty,pos,af,g⟩ T B (.r dv):=
 bv D (fun k e=>oT (by simp[Op.operands]) A e)
  (fun V β a w hs=>⟨a.eval x,rfl,ap hs (by simp[Op.operands]) A⟩)
theorem KS  (A:cE T x=some dv) (D:gd eO ⟨dst,.assign x,ty,pos,af,g⟩ T=some true):Sem P eO ⟨dst,.assign x,ty,pos,af,g⟩ T B (.r dv):=
 bv D (fun k e=>oT (by simp[Op.operands]) A e)
  (fun V β a w hs=>⟨a.eval x,rfl,ap hs (by simp[Op.operands]) A⟩)
theorem aR {k:Nat} (hU:mT P U=some (true,n)) (R:cE T x=some (.p k off)) (hb:B k=some (W,cs)) (J:(cs.drop off).take n=us) (hn:us.length=n) (hg:gd eO ⟨dst,.load U x,ty,pos,af,g⟩ T=some true):Sem P eO ⟨dst,.load U x,ty,pos,af,g⟩ T B (.r (.v (.a us))):=
 bv hg (qV rfl) (fun V β a w hs=>by
  have hp:a.eval x=.pointer (some ⟨β k,off,none⟩):=ap hs (by simp[Op.operands]) R;obtain⟨_,vs,e,hr⟩:=hs.box k W cs hb;have A:=(hr.drop off).take n;rw[J] at A;have D:=iv hU (off:=off) (by rw[A.1,hn]) (fun j v I=>by
   rw[kS] at I;split at I;·rw[bR e,<-I];simp
   .cases I)
  refine⟨_,?_,_,rfl,by simpa using A⟩;simp only[execOp,Instr.loadAt,hp,Instr.sureAddr,fh,dA,ft,D])
theorem cT {k:Nat} (hU:mT P U=some (false,n)) (R:cE T x=some (.p k off)) (hb:B k=some (W,cs)) (D:cs[off]? =some u) (hg:gd eO ⟨dst,.load U x,ty,pos,af,g⟩ T=some true):Sem P eO ⟨dst,.load U x,ty,pos,af,g⟩ T B (.r (.v (.c u))):=
 bv hg (qV rfl) (fun V β a w hs=>by have hp:a.eval x=.pointer (some ⟨β k,off,none⟩):=ap hs (by simp[Op.operands]) R;obtain⟨_,vs,e,I⟩:=hs.box k W cs hb;have hlt:off<cs.length:=(fM.1 D).1;have J:vs.toList[off]? =some (vs.toList[off]'(by rw[I.1];exact hlt)):=gI _;refine⟨_,?_,I.2 off _ _ J D⟩;simp only[execOp,Instr.loadAt,hp,Instr.sureAddr,fh,dA,ft,ip hU (by rw[bR e,<-mW,J])])
theorem cJ  (hU:mT P U=some (true,n)) (J:cE T x=some (.q cs)) (R:cs.take n=us) (hn:us.length=n) (hg:gd eO ⟨dst,.load U x,ty,pos,af,g⟩ T=some true):Sem P eO ⟨dst,.load U x,ty,pos,af,g⟩ T B (.r (.v (.a us))):=
 bv hg (qV rfl) (fun V β a w hs=>by
  obtain⟨b,off,vs,hp,_,_,hr,hc⟩:=ap hs (by simp[Op.operands]) J;have A:=hr.take n;rw[R] at A;have D:=iv hU (by rw[A.1,hn]) (fun j v I=>by
   rw[kS] at I;split at I;·exact hc j v I
   .cases I)
  refine⟨_,?_,_,rfl,by simpa using A⟩;simp only[execOp,Instr.loadAt,hp,Instr.sureAddr,fh,dA,ft,D])
theorem cS  (hU:mT P U=some (false,n)) (R:cE T x=some (.q cs)) (D:cs[0]? =some u) (hg:gd eO ⟨dst,.load U x,ty,pos,af,g⟩ T=some true):Sem P eO ⟨dst,.load U x,ty,pos,af,g⟩ T B (.r (.v (.c u))):=
 bv hg (qV rfl) (fun V β a w hs=>by obtain⟨b,off,vs,hp,_,_,I,hc⟩:=ap hs (by simp[Op.operands]) R;have hlt:0<cs.length:=(fM.1 D).1;have J:vs[0]? =some (vs[0]'(by rw[I.1];exact hlt)):=gI _;refine⟨_,?_,I.2 0 _ _ J D⟩;simp only[execOp,Instr.loadAt,hp,Instr.sureAddr,fh,dA,ft,ip hU (by have:=hc 0 _ J;simpa using this)])
theorem FK (h:VA P U f=some o'): ∃fs fd,P.underlying U=some (.struct fs)/\fs[f]? =some fd/\fd.offset=o'/\ ∀(a:Addr) (w:World),(fieldPlace a fd).run P w=.ok (a.add o') w:=by
 unfold VA at h;cases I:P.underlying U with
 |none=>rw[I] at h;cases h
 |some d=>
  rw[I] at h;cases d with
  |struct fs=>
   dsimp only at h;cases D:fs[f]? with
   |none=>rw[D] at h;cases h
   |some fd=>
    rw[D] at h;dsimp only at h;cases hi:P.info? fd.type with
    |none=>rw[hi] at h;cases h
    |some i=>
     rw[hi] at h;dsimp only at h;split at h;·cases h
     .rename_i J;injection h with h;have A:i.size≠0:=fun e=>J (by rw[e];rfl);refine⟨fs,fd,rfl,D,h,fun a w=>?_⟩;unfold fieldPlace sizeOf typeInfo;simp[program,Sem.run,hi,A,h]
  |_=>cases h
theorem PR {k:Nat} (hU:VA P U f=some o') (A:cE T x=some (.p k off)) (R:gd eO ⟨dst,.fieldAddr U x f,ty,pos,af,g⟩ T=some true):Sem P eO ⟨dst,.fieldAddr U x f,ty,pos,af,g⟩ T B (.r (.p k (off+o'))):=
 bv R (fun k' e=>oT (by simp[Op.operands]) A e)
  (fun V β a w hs=>by have I:a.eval x=.pointer (some ⟨β k,off,none⟩):=ap hs (by simp[Op.operands]) A;obtain⟨fs,fd,h1,D,h3,J⟩:=FK hU;refine⟨.pointer (some ⟨β k,off+o',none⟩),?_,rfl⟩;simp only[execOp,Instr.fieldAt,I,Instr.sureAddr,fh,dA,ft,run_underlying h1,D,J,fI])
theorem Iq  (J:cE T x=some (.t ds)) (D:ds[i]? =some d) (hg:gd eO ⟨dst,.extract x i,ty,pos,af,g⟩ T=some true):Sem P eO ⟨dst,.extract x i,ty,pos,af,g⟩ T B (.r (.v d)):=
 bv hg (qV rfl) (fun V β a w hs=>by obtain⟨vs,R,I⟩:=ap hs (by simp[Op.operands]) J;have hlt:i<ds.length:=(fM.1 D).1;have A:vs.toList[i]? =some (vs.toList[i]'(by rw[I.1];exact hlt)):=gI _;refine⟨_,?_,I.2 i _ d A D⟩;rw[mW] at A;simp only[execOp,R,Instr.extract,A,fh,dA,ft])
def Y3:BinOp->Int->Int->Option Bool
 | .eql,x,y=>some (x==y)
 | .neq,x,y=>some (x !=y)
 | .lss,x,y=>some (decide (x<y))
 | .leq,x,y=>some (decide (x<=y))
 | .gtr,x,y=>some (decide (x>y))
 | .geq,x,y=>some (decide (x>=y))
 |_,_,_=>none
theorem Mu {n:Int} (I:cE T x=some (.v (.c (.i k m)))) (J:cE T y=some (.v (.c (.i k n)))) (A:Y3 op m n=some b) (R:gd eO ⟨dst,.binOp op xt x y yt,ty,pos,af,g⟩ T=some true):Sem P eO ⟨dst,.binOp op xt x y yt,ty,pos,af,g⟩ T B (.r (.v (.c (.b b)))):=
 bv R (qV rfl) (fun V β a w hs=>by have e1:a.eval x=.int k m:=RdC.int_eq (ap hs (by simp[Op.operands]) I);have e2:a.eval y=.int k n:=RdC.int_eq (ap hs (by simp[Op.operands]) J);refine⟨.bool b,?_,.b b⟩;cases op<;>simp[Y3] at A<;>subst A<;>simp[execOp,e1,e2,eqGuard,binOp,Op.intCmp])
def Ct:BinOp->IntKind->Int->Int->Option Int
 | .add,k,x,y=>some (k.wrap (x+y))
 | .sub,k,x,y=>some (k.wrap (x-y))
 | .mul,k,x,y=>some (k.wrap (x*y))
 |_,_,_,_=>none
theorem tO {n r:Int} (I:cE T x=some (.v (.c (.i k m)))) (J:cE T y=some (.v (.c (.i k n)))) (A:Ct op k m n=some r) (R:gd eO ⟨dst,.binOp op xt x y yt,ty,pos,af,g⟩ T=some true):Sem P eO ⟨dst,.binOp op xt x y yt,ty,pos,af,g⟩ T B (.r (.v (.c (.i k r)))):=
 bv R (qV rfl) (fun V β a w hs=>by have e1:a.eval x=.int k m:=RdC.int_eq (ap hs (by simp[Op.operands]) I);have e2:a.eval y=.int k n:=RdC.int_eq (ap hs (by simp[Op.operands]) J);refine⟨.int k r,?_,.i k r⟩;cases op<;>simp[Ct] at A<;>subst A<;>simp[execOp,e1,e2,eqGuard,binOp,Op.intArith])
theorem X7  (A:cE T x=some (.v (.c (.b b)))) (D:gd eO ⟨dst,.unOp .not xt x,ty,pos,af,g⟩ T=some true):Sem P eO ⟨dst,.unOp .not xt x,ty,pos,af,g⟩ T B (.r (.v (.c (.b (!b))))):=
 bv D (qV rfl) (fun V β a w hs=>by have e1:a.eval x=.bool b:=RdC.bool_eq (ap hs (by simp[Op.operands]) A);exact⟨.bool (!b),by simp[execOp,e1,Op.unary],.b _⟩)
theorem Yv  (A:cE T x=some (.v (.c (.i k m)))) (D:gd eO ⟨dst,.unOp .neg xt x,ty,pos,af,g⟩ T=some true):Sem P eO ⟨dst,.unOp .neg xt x,ty,pos,af,g⟩ T B (.r (.v (.c (.i k (k.wrap (0-m)))))):=
 bv D (qV rfl) (fun V β a w hs=>by have e1:a.eval x=.int k m:=RdC.int_eq (ap hs (by simp[Op.operands]) A);exact⟨.int k (k.wrap (0-m)),by simp[execOp,e1,Op.unary,Op.intArith],.i _ _⟩)
theorem Kj {c:Operand} (J:cE T c=some (.v (.c (.b b)))) (D:cE T (if b then x else y)=some dv) (I:jR dv=none) (R:gd eO ⟨dst,.pick c x y,ty,pos,af,g⟩ T=some true):Sem P eO ⟨dst,.pick c x y,ty,pos,af,g⟩ T B (.r dv):=
 bv R (qV I) (fun V β a w hs=>by have e1:a.eval c=.bool b:=RdC.bool_eq (ap hs (by simp[Op.operands]) J);refine⟨_,?_,ap hs (by cases b<;>simp[Op.operands]) D⟩;cases b<;>simp[execOp,e1,asBool])
end
def pE (T:TF):List Operand->Option (List D0)
 |[]=>some []
 |x::xs=>match cE T x with
  |some (.v d)=>match pE T xs with
   |some ds=>some (d::ds)
   |none=>none
  |_=>none
def wL:List D0->DV
 |[d]=>.v d
 |ds=>.t ds
def vu (pl:Nat->Option (Nat×Nat)):List CellD->List (Nat×D0)->Option (List CellD)
 |us,[]=>some us
 |us,(i,d)::eD=>match pl i with
  |none=>none
  |some (off,size)=>if Nat.beq d.cells.length size&&Nat.ble (off+size) us.length then vu pl (us.take off++d.cells++us.drop (off+size)) eD else none
def tc (T:TF):List (Nat×Operand)->Option (List (Nat×D0))
 |[]=>some []
 |(i,x)::xs=>match cE T x with
  |some (.v d)=>match tc T xs with
   |some ds=>some ((i,d)::ds)
   |none=>none
  |_=>none
def pT (P:Program) (U:TypeId):Option Nat:=
 match P.underlying U with
 |some (.slice e)=>(P.info? e).map (·.size)
 |_=>none
section
variable {P:Program}{eO:Array Oper}{o:Oper}{T:TF}{B:BF}{V:Nat->Prop}{β:Nat->Nat}{a:Act}{w:World}
theorem ji (hs:Sees V (ek eO o) T B β a w): ∀(xs:List Operand) (ds:List D0),(∀x∈xs,x∈o.op.operands)->pE T xs=some ds->RdL V w (xs.map a.eval) ds
 |[],ds,_,h=>by injection h with h;subst h;exact RdL.nil
 |x::xs,ds,hx,h=>by
  unfold pE at h;split at h
  .rename_i d I;split at h
   .rename_i A D;injection h with h;subst h;exact qF (ap hs (hx x (by simp)) I) (ji hs xs A (fun y J=>hx y (by simp[J])) D)
   .cases h
  .cases h
theorem Ry {args:Array Operand}{at_:Array TypeId}{f:FuncId} (hf:cE T fo=some (.v (.c (.f f)))) (ha:pE T args.toList=some ds) (hok:Ok P f ds rs) (hg:gd eO ⟨dst,.call ⟨.value fo,args,at_⟩,ty,pos,af,g⟩ T=some true):Sem P eO ⟨dst,.call ⟨.value fo,args,at_⟩,ty,pos,af,g⟩ T B (.r (wL rs)):=by
 refine⟨qV (by unfold wL;split<;>rfl),fun V β a w hs=>⟨eK hs hg,?_⟩⟩
 have D:=hok.cal
 unfold dk at D
 cases A:P.funcs[f]? with
 |none=>rw[A] at D;cases D
 |some fn=>
  rw[A] at D
  simp only[di,bne_iff_ne,ne_eq,uP] at D
  have I:(execOp a.eval ⟨dst,.call ⟨.value fo,args,at_⟩,ty,pos,af,g⟩).run P w=.ok (.enter f (args.map a.eval)) w:=by
   have a4:fn.body≠none:=by have:=D.2;cases R:fn.body with
    |none=>rw[R] at this;cases this
    |some c=>simp
   simp[execOp,resolve,RdC.func_eq (ap hs (by simp[Op.operands,Call.operands]) hf),Deferred.ofValue,invoke,callFunc,program,Sem.run,A,D.1,a4]
  unfold Gives
  rw[I]
  refine(hok.run V (args.map a.eval) w hs.av (by simpa using (ji hs args.toList ds (fun x hx=>by have a3:=tz.1 hx;simp[Op.operands,Call.operands,a3]) ha))).mono ?_
  rintro e w' ⟨v,rfl,J,hb⟩
  refine⟨v,rfl,?_,hb⟩
  unfold Wz at J
  split at J
  .exact J
  .rename_i a5
   have e2:wL rs=.t rs:=by unfold wL;grind
   rw[e2];exact J
theorem V8 {m:Nat} (hU:pT P U=some m) (J:cE T x=some (.v (.c (.s n xs)))) (R:gd eO ⟨dst,.call ⟨.builtin .len,#[x],#[U]⟩,ty,pos,af,g⟩ T=some true):Sem P eO ⟨dst,.call ⟨.builtin .len,#[x],#[U]⟩,ty,pos,af,g⟩ T B (.r (.v (.c (.i .i64 n)))):=
 bv R (qV rfl) (fun V β a w hs=>by
  have h1:=ap hs (by simp[Op.operands,Call.operands]) J;have D: ∃A c,a.eval x=.slice A n c:=by
   generalize a.eval x=v at h1;cases h1 with
   |s0 A c _=>exact⟨A,c,rfl⟩
   |s b off c _ _ _ _=>exact⟨_,c,rfl⟩
  obtain⟨A,c,e⟩:=D;unfold pT at hU;split at hU
  .rename_i el I;refine⟨.int .i64 n,?_,.i _ _⟩;simp[execOp,resolve,invoke,builtin,Builtin.len_,e,run_underlying I,goInt]
  .cases hU)
theorem Pr {m q A:Nat}(h:(List.range m)[q]? =some A):q<m/\A=q:=by grind
theorem cg {i:Operand}{m:Nat}{j:Int} (hU:pT P U=some m) (hx:cE T x=some (.v (.c (.s n xs)))) (hi:cE T i=some (.v (.c (.i k j)))) (hj:0<=j/\j<n) (hl:xs.length=n*m) (hu:xs.drop (j.toNat*m)=us) (hg:gd eO ⟨dst,.indexAddr U x i,ty,pos,af,g⟩ T=some true):Sem P eO ⟨dst,.indexAddr U x i,ty,pos,af,g⟩ T B (.r (.q us)):=
 bv hg (qV rfl) (fun V β a w hs=>by
  have h1:=ap hs (by simp[Op.operands]) hx;generalize hv:a.eval x=v at h1;have h1:RdC V w v (.s n xs):=h1;unfold pT at hU;split at hU;case h_2=>cases hU
  rename_i el a4;cases D:P.info? el with
  |none=>rw[D] at hU;cases hU
  |some b3=>
   rw[D] at hU;simp at hU;cases h1 with
   |s0 A c _=>omega
   |s b off c sz _ _ cv h0 a9 b4 I hb a5 hc hr=>
    have a3:sz=m:=by rw[hl] at I;exact(GO h0 I).symm
    subst a3;refine⟨.pointer (some ⟨b,off+j.toNat*sz,none⟩),?_,b,off+j.toNat*sz,(List.range (n*sz-j.toNat*sz)).map (fun q=>cv (j.toNat*sz+q)),rfl,hb,a5,?_,?_⟩
    .have a6: ∀w,(sizeOf el).run P w=.ok sz w:=fun w=>by unfold sizeOf typeInfo;simp[program,Sem.run,D,hU]
     simp[execOp,Instr.indexAt,hv,RdC.int_eq (ap hs (by simp[Op.operands]) hi),asIntOf,run_underlying a4,hj.1,hj.2,a6,fI]
    .rw[<-hu];refine⟨by simp[hl],fun q v u hv hu=>?_⟩;grind
    .intro q u R;rw[pU] at R;generalize J:(List.range (n*sz-j.toNat*sz))[q]? =r at R;match r,J,R with
     |some q',J,R=>simp at R;obtain⟨hlt,rfl⟩:=Pr J;subst R;rw[Nat.add_assoc];exact hc _ (by omega))
theorem xn (off:Nat): ∀(l:List Value) (k:Nat) (cells:Array Value),off+k+l.length<=cells.size-> ((l.zipIdx k).foldl (fun(cs:Array Value) (p:Value×Nat)=>cs.setIfInBounds (off+p.2) p.1) cells).toList=cells.toList.take (off+k)++l++cells.toList.drop (off+k+l.length)
 |[],k,cells,_=>by simp
 |v::l,k,cells,h=>by
  simp at h;rw[List.zipIdx_cons,re,xn off l (k+1) _ (by simp;omega)];simp only[Array.toList_setIfInBounds];have e1:(cells.toList.set (off+k) v).take (off+(k+1))=cells.toList.take (off+k)++[v]:=by apply List.ext_getElem?;grind
  have A:(cells.toList.set (off+k) v).drop (off+(k+1)+l.length)=cells.toList.drop (off+k+(v::l).length):=by rw[CX (by omega)];grind
  rw[e1,A];simp
theorem wN {pl:Nat->Option (Nat×Nat)}: ∀(ps:List (Nat×Value)) (dps:List (Nat×D0)) (cells:Array Value) (us us':List CellD),ps.length=dps.length-> (∀(j:Nat) (p:Nat×Value) (q:Nat×D0),ps[j]? =some p->dps[j]? =some q->p.1=q.1/\RdV V w p.2 q.2)->RdCs V w cells.toList us->vu pl us dps=some us'-> ∃A,Instr.fill pl cells ps=some A/\RdCs V w A.toList us'
 |[],[],cells,us,us',_,_,hr,h=>by simp[vu] at h;subst h;exact⟨cells,rfl,hr⟩
 |[],q::dps,_,_,_,hl,_,_,_=>by simp at hl
 |p::ps,[],_,_,_,hl,_,_,_=>by simp at hl
 |(i,v)::ps,(i',d)::dps,cells,us,us',hl,hp,hr,h=>by
  obtain⟨e,hv⟩:=hp 0 (i,v) (i',d) rfl rfl;have e:i=i':=e;subst e;unfold vu at h;cases D:pl i with
  |none=>rw[D] at h;cases h
  |some os=>
   obtain⟨off,size⟩:=os;rw[D] at h;dsimp only at h;split at h
   .rename_i hc;simp only[di] at hc;have h2:=fU hc.2;have I:=RdV.cells hv;have J:v.cells.size=size:=by rw[<-(dF hc.1),<-I.1];simp
    have a9:us.length=cells.size:=by rw[<-hr.1];simp
    have a3:RdCs V w ((v.cells.zipIdx.foldl (fun(cs:Array Value) (p:Value×Nat)=>cs.setIfInBounds (off+p.2) p.1) cells)).toList (us.take off++d.cells++us.drop (off+size)):=by
     rw[<-Array.foldl_toList];have:v.cells.zipIdx.toList=v.cells.toList.zipIdx:=by simp
     rw[this,xn off v.cells.toList 0 cells (by simp;omega)];refine kP (kP (by simpa using hr.take off) I) ?_;have:=hr.drop (off+size);grind
    obtain⟨A,e',a4⟩:=wN ps dps _ _ us' (by simpa using hl) (fun j p q a6 R=>hp (j+1) p q (by simpa using a6) (by simpa using R)) a3 h;refine⟨A,?_,a4⟩;unfold Instr.fill;rw[D];dsimp only;rw[if_neg (by simp[J];omega)];exact e'
   .cases h
theorem Ak (h:Cq P U=some zs): ∃A z,P.info? U=some A/\A.zero=some z/\RdCs V w z.cells.toList zs:=by
 unfold Cq at h;cases hi:P.info? U with
 |none=>rw[hi] at h;cases h
 |some A=>
  rw[hi] at h;dsimp only at h;cases D:A.zero with
  |none=>rw[D] at h;cases h
  |some z=>
   rw[D] at h;dsimp only at h;cases I:cst z with
   |none=>rw[I] at h;cases h
   |some d=>rw[I] at h;simp at h;subst h;exact⟨A,z,rfl,D,RdV.cells (EI I)⟩
theorem sZ (hs:Sees V (ek eO o) T B β a w): ∀(ps:List (Nat×Operand)) (dps:List (Nat×D0)),(∀p∈ps,p.2∈o.op.operands)->tc T ps=some dps-> (ps.map fun(i,x)=>(i,a.eval x)).length=dps.length/\ ∀(j:Nat) (p:Nat×Value) (q:Nat×D0),(ps.map fun(i,x)=>(i,a.eval x))[j]? =some p->dps[j]? =some q->p.1=q.1/\RdV V w p.2 q.2
 |[],dps,_,h=>by injection h with h;subst h;exact⟨rfl,fun j p q A=>by simp at A⟩
 |(i,x)::ps,dps,hx,h=>by
  unfold tc at h;split at h
  .rename_i d R;split at h
   .rename_i ds I;injection h with h;subst h;obtain⟨h1,J⟩:=sZ hs ps ds (fun p A=>hx p (by simp[A])) I;refine⟨by simpa using h1,fun j p q A D=>?_⟩;cases j with
    |zero=>simp at A D;subst A D;exact⟨rfl,ap hs (hx (i,x) (by simp)) R⟩
    |succ j=>exact J j p q (by simpa using A) (by simpa using D)
   .cases h
  .cases h
theorem Le  (hU:H4 P U=some pl) (R: ∀V w,∃D z,P.info? U=some D/\D.zero=some z/\RdCs V w z.cells.toList zs) (I:tc T ps.toList=some dps) (hf:vu (fun i=>pl[i]?) zs dps=some us) (hg:gd eO ⟨dst,.build U ps,ty,pos,af,g⟩ T=some true):Sem P eO ⟨dst,.build U ps,ty,pos,af,g⟩ T B (.r (.v (.a us))):=
 bv hg (qV rfl) (fun V β a w hs=>by
  obtain⟨D,z,hi,R,hr⟩:=R V w;obtain⟨h1,h2⟩:=sZ hs ps.toList dps (fun p I=>by simp only[Op.operands,List.mem_toArray,nZ];exact⟨p,I,rfl⟩) I;obtain⟨cells,A,J⟩:=wN _ dps z.cells zs us h1 h2 hr hf;refine⟨.agg cells,?_,cells,rfl,J⟩;unfold H4 at hU;split at hU
  .rename_i fs hu;have:=run_build (P:=P) w U (ps.map fun(i,x)=>(i,a.eval x)) cells (by unfold Program.built;simp only[hi,hu,R,hU];simpa using A)
   simp[execOp,this]
  .cases hU)
theorem am  (hU:H4 P U=some pl) (J:Cq P U=some zs) (A:tc T ps.toList=some dps) (I:vu (fun i=>pl[i]?) zs dps=some us) (D:gd eO ⟨dst,.build U ps,ty,pos,af,g⟩ T=some true):Sem P eO ⟨dst,.build U ps,ty,pos,af,g⟩ T B (.r (.v (.a us))):=Le hU (fun _V _w=>Ak J) A I D
theorem lI  (D:Cq P U=some zs) (J:gd eO ⟨dst,.alloc U,ty,pos,af,g⟩ T=some true):Sem P eO ⟨dst,.alloc U,ty,pos,af,g⟩ T B (.a U zs none):=fun V β a w hs=>⟨eK hs J,by
 obtain⟨R,z,hi,D,I⟩:=Ak D
 have A:(execOp a.eval ⟨dst,.alloc U,ty,pos,af,g⟩).run P w=.ok (.value (.pointer (some ⟨w.heap.size,0,none⟩))) (w.alloc (.cells z.cells U)):=by simp[execOp,Instr.alloc,zeroValue,typeInfo,program,Sem.run,hi,D,newVar,newRow,newObj];try rfl
 unfold Gives
 rw[A]
 exact⟨z.cells,rfl,rfl,I⟩⟩
theorem NU  (D:cE T x=some (.v d)) (I:gd eO ⟨dst,.box U x,ty,pos,af,g⟩ T=some true):Sem P eO ⟨dst,.box U x,ty,pos,af,g⟩ T B (.a U d.cells none):=fun V β a w hs=>⟨eK hs I,by
 have h1:RdV V w (a.eval x) d:=ap hs (by simp[Op.operands]) D
 have A:(execOp a.eval ⟨dst,.box U x,ty,pos,af,g⟩).run P w=.ok (.value (.pointer (some ⟨w.heap.size,0,none⟩))) (w.alloc (.cells (a.eval x).cells U)):=by simp[execOp,Instr.box,Sem.run,newVar,newRow,newObj];try rfl
 exact⟨_,rfl,rfl,RdV.cells h1⟩⟩
theorem f7 {w:World}{b:Nat}{cs:Array Value}(h:w.heap[b]? =some (.cells old U (0,0))):(w.setRow b cs).heap=w.heap.setIfInBounds b (.cells cs U (0,0)):=by
 apply Array.ext (by simp[World.setRow]);intro i h1 A;simp only[World.setRow,Array.getElem_modify];by_cases e:b=i;·grind
 grind
theorem aV {k:Nat} (hU:mT P U=some (q,n)) (ha:cE T ax=some (.p k off)) (hx:cE T x=some (.v d)) (hb:B k=some (W,cs)) (hn:d.cells.length=n) (ho:off+n<=cs.length) (hu:cs.take off++d.cells++cs.drop (off+n)=us) (hg:gd eO ⟨none,.store U ax x,ty,pos,af,g⟩ T=some true):Sem P eO ⟨none,.store U ax x,ty,pos,af,g⟩ T B (.s k W us):=by
 refine⟨rfl,⟨cs,hb⟩,fun V β a w hs=>⟨eK hs hg,?_⟩⟩
 have hp:a.eval ax=.pointer (some ⟨β k,off,none⟩):=ap hs (by simp[Op.operands]) ha
 have h1:RdV V w (a.eval x) d:=ap hs (by simp[Op.operands]) hx
 have hc:=RdV.cells h1
 obtain⟨_,vs,e,R⟩:=hs.box k W cs hb
 obtain⟨_,J⟩:=oW hU w
 have hl:(a.eval x).cells.size=n:=by rw[<-hn,<-hc.1];simp
 have D: ∀v∈(a.eval x).cells.toList,v.oneCell'=true:=by
  intro v hv;obtain⟨j,hj⟩:=CS hv;have hlt:j<d.cells.length:=by grind
  have:=hc.2 j v _ hj (gI hlt);generalize d.cells[j]=u at this;cases this with
  |x v h1 I=>cases v<;>first|rfl|exact absurd rfl (h1 _)|exact absurd rfl (I _)
  |e v h1 I=>cases v<;>first|rfl|exact absurd rfl (h1 _)|exact absurd rfl (I _)
  |_=>rfl
 have a4:vs.size=cs.length:=by rw[<-R.1];simp
 have A:(execOp a.eval ⟨none,.store U ax x,ty,pos,af,g⟩).run P w=.ok .skip (w.setRow (β k) (vs.toList.take (off+0)++(a.eval x).cells.toList++vs.toList.drop (off+0+(a.eval x).cells.toList.length)).toArray):=by simp only[execOp,Instr.storeAt,hp,Instr.sureAddr,storeVar,fh,dA,ft,J];rw[if_neg (by simp[hl])];rw[run_storeCells_at (P:=P) (β k) off W (a.eval x).cells.toList 0 vs w e (by simp;omega) D];rfl
 unfold Gives
 rw[A]
 refine⟨_,f7 e,rfl,rfl,rfl,?_⟩
 rw[<-hu]
 have e2:(a.eval x).cells.toList.length=n:=by grind
 rw[e2]
 exact kP (kP (R.take off) hc) (R.drop (off+n))
end
end Go.Proofs.YtegeknjkgadehaaGreat
