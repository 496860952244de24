/-Data:a region of operations,in whatever order it may run. -/
import Derived.Test.YtkmdgigkbhmilaaGreatNbC
import Derived.Tactics
import Derived.Laws.Cells
import Derived.Laws.CopyRow
import Derived.Laws.Tables
import Derived.Laws.Rows
namespace Go.Proofs.YtkmdgigkbhmilaaGreat
open Go Go.RowKit
variable {ty:TypeId}{pos:String}{af:Array Edge}{g:Option (Nat×Bool)}{dst:Option Nat}
def jY {γ:Type}(mask:Nat→Bool):Nat→List (Nat→Option (Option γ))→(Nat→Option γ)→(Nat→Option γ)
 |_,[],F=>F
 |k,u::us,F=>jY mask (k+1) us (if mask k then(fun t=>(u t).getD (F t)) else F)
section
variable {γ:Type}
theorem nR (mask:Nat→Bool): ∀(us:List (Nat→Option (Option γ))) (k:Nat) (F:Nat→Option γ),jY mask (k+1) us F=jY (fun j=>mask (j+1)) k us F
 |[],_,_=>rfl
 |u::us,k,F=>by
  show jY mask (k+1+1) us _=jY (fun j=>mask (j+1)) (k+1) us _
  rw[nR mask us (k+1)]
theorem ip {mask mask':Nat→Bool}{t:Nat}: ∀(us:List (Nat→Option (Option γ))) (k:Nat) (F F':Nat→Option γ),F t=F' t→
 (∀(j:Nat) (u:Nat→Option (Option γ)),us[j]? =some u→u t≠none→mask (k+j)=mask' (k+j))→jY mask k us F t=jY mask' k us F' t
 |[],_,_,_,h,_=>h
 |u::us,k,F,F',h,hm=>by
  show jY mask (k+1) us _ t=jY mask' (k+1) us _ t
  refine ip us (k+1) _ _ ?_ (fun j u' hj hu=>by have:=hm (j+1) u' (by simpa using hj) hu;rw[show k+(j+1)=k+1+j from by omega] at this;exact this)
  by_cases hu:u t=none
  ·have e1:(if mask k then(fun t=>(u t).getD (F t)) else F) t=F t:=by split<;>simp[hu]
   have e2:(if mask' k then(fun t=>(u t).getD (F' t)) else F') t=F' t:=by split<;>simp[hu]
   rw[e1,e2];exact h
  ·have:=hm 0 u rfl hu
   rw[Nat.add_zero] at this
   rw[this]
   split
   ·show(u t).getD (F t)=(u t).getD (F' t)
    rw[h]
   ·exact h
theorem jp {mask:Nat→Bool}{t:Nat}(us:List (Nat→Option (Option γ))) (k:Nat) (F:Nat→Option γ)
 (h: ∀(j:Nat) (u:Nat→Option (Option γ)),us[j]? =some u→mask (k+j)=true→u t=none):jY mask k us F t=F t:=by
 have h0: ∀(us:List (Nat→Option (Option γ))) (k:Nat) (F:Nat→Option γ),jY (fun _=>false) k us F=F:=by
  intro us
  induction us with
  |nil=>intro k F;rfl
  |cons u us ih=>intro k F;exact ih (k+1) F
 have h1:=ip (mask:=mask) (mask':=fun _=>false) us k F F rfl (fun j u hj hu=>by
  cases hm:mask (k+j) with
  |false=>rfl
  |true=>exact absurd (h j u hj hm) hu)
 rw[h1,h0]
theorem FW {mask:Nat→Bool}{t:Nat}{u:Nat→Option (Option γ)}{x:Option γ}: ∀(us:List (Nat→Option (Option γ))) (k:Nat) (F:Nat→Option γ) (j:Nat),
 us[j]? =some u→u t=some x→mask (k+j)=true→(∀(j':Nat) (u':Nat→Option (Option γ)),us[j']? =some u'→j'≠j→u' t=none)→jY mask k us F t=x
 |[],_,_,_,hj,_,_,_=>by simp at hj
 |u0::us,k,F,0,hj,hu,hm,hd=>by
  simp at hj
  subst hj
  rw[Nat.add_zero] at hm
  show jY mask (k+1) us _ t=x
  rw[jp us (k+1) _ (fun j u hj _=>hd (j+1) u (by simpa using hj) (by omega)),hm]
  simp[hu]
 |u0::us,k,F,j+1,hj,hu,hm,hd=>by
  show jY mask (k+1) us _ t=x
  exact FW us (k+1) _ j (by simpa using hj) hu (by rw[show k+1+j=k+(j+1) from by omega];exact hm) (fun j' u' hj' hne=>hd (j'+1) u' (by simpa using hj') (by omega))
theorem AM {mask:Nat→Bool}{t:Nat}{u:Nat→Option (Option γ)}{x:Option γ}: ∀(us:List (Nat→Option (Option γ))) (k:Nat) (F:Nat→Option γ) (j:Nat),
 us[j]? =some u→u t=some x→mask (k+j)=true→(∀(j':Nat) (u':Nat→Option (Option γ)),us[j']? =some u'→j<j'→mask (k+j')=true→u' t=none)→jY mask k us F t=x
 |[],_,_,_,hj,_,_,_=>by simp at hj
 |u0::us,k,F,0,hj,hu,hm,hd=>by
  simp at hj
  subst hj
  rw[Nat.add_zero] at hm
  show jY mask (k+1) us _ t=x
  rw[jp us (k+1) _ (fun j u hj hm'=>hd (j+1) u (by simpa using hj) (by omega) (by rw[show k+(j+1)=k+1+j from by omega];exact hm')),hm]
  simp[hu]
 |u0::us,k,F,j+1,hj,hu,hm,hd=>by
  show jY mask (k+1) us _ t=x
  exact AM us (k+1) _ j (by simpa using hj) hu (by rw[show k+1+j=k+(j+1) from by omega];exact hm) (fun j' u' hj' hlt hm'=>hd (j'+1) u' (by simpa using hj') (by omega) (by rw[show k+(j'+1)=k+1+j' from by omega];exact hm'))
end
def uT (d:Option Nat) (e:Eff):Nat→Option (Option DV):=fun t=>if d=some t then some (some (Sb t e)) else none
def uB (d:Option Nat) (e:Eff):Nat→Option (Option (TypeId×List CellD)):=fun k=>match e with
 | .a U cs _=>if d=some k then some (some (U,cs)) else none
 | .s l U cs=>if l=k then some (some (U,cs)) else none
 | .rs l U cs _=>if l=k then some (some (U,cs)) else none
 |_=>none
def Eff.wr:Eff→Option Nat
 | .s k _ _=>some k
 | .rs k _ _ _=>some k
 |_=>none
theorem Lu (d:Option Nat) (e:Eff) (T:TF) (h: ∀k x,e≠ .c k x):(fun t=>(uT d e t).getD (T t))=e.tf d T:=by
 funext t
 cases e with
 |c k x=>exact absurd rfl (h k x)
 |r x=>unfold uT Eff.tf;dsimp only;split<;>rfl
 |a U cs sl=>unfold uT Eff.tf;dsimp only;split<;>rfl
 |s k U cs=>unfold uT Eff.tf;dsimp only;split<;>rfl
 |rs k U cs x=>unfold uT Eff.tf;dsimp only;split<;>rfl
 |skip=>unfold uT Eff.tf;dsimp only;split<;>rfl
theorem Ix (d:Option Nat) (e:Eff) (B:BF) (h: ∀k x,e≠ .c k x):(fun k=>(uB d e k).getD (B k))=e.bf d B:=by
 funext k
 cases e with
 |a U cs sl=>unfold uB Eff.bf;dsimp only;split<;>rfl
 |s l U cs=>unfold uB Eff.bf;dsimp only;split<;>rfl
 |rs l U cs x=>unfold uB Eff.bf;dsimp only;split<;>rfl
 |r x=>rfl
 |c k x=>exact absurd rfl (h k x)
 |skip=>rfl
theorem NM (d:Option Nat) (e:Eff) (k:Nat):uB d e k≠some none:=by
 unfold uB
 split
 ·split<;>simp
 ·split<;>simp
 ·split<;>simp
 ·simp
theorem IC {d:Option Nat}{e:Eff}{k:Nat}(h:uB d e k≠none):(∃U cs sl,e=.a U cs sl∧d=some k)∨(∃U cs,e=.s k U cs)∨ ∃U cs x,e=.rs k U cs x:=by
 unfold uB at h
 split at h
 ·split at h
  ·rename_i U cs sl hd;exact .inl ⟨U,cs,sl,rfl,hd⟩
  ·exact absurd rfl h
 ·split at h
  ·rename_i l U cs hl;subst hl;exact .inr (.inl ⟨U,cs,rfl⟩)
  ·exact absurd rfl h
 ·split at h
  ·rename_i l U cs x hl;subst hl;exact .inr (.inr ⟨U,cs,x,rfl⟩)
  ·exact absurd rfl h
 ·exact absurd rfl h
structure Sq where
 st:St
 nb:List (Nat×TypeId×List CellD)
 sd:List Nat
def Sq.M (s:Sq):BF:=fun k=>aT k (s.nb++s.st.bx)
def jg (k:Nat):List (Nat×DV)→List (Nat×DV)
 |[]=>[]
 |(t,y)::r=>(t,match iB y with|some l=>bif Nat.beq l k then .n else y|none=>y)::jg k r
def iK (k:Nat):List (Nat×TypeId×List CellD)→List (Nat×TypeId×List CellD)
 |[]=>[]
 |(l,c)::r=>bif Nat.beq l k then iK k r else(l,c)::iK k r
def St.app (σ:St):Option Nat→Eff→St
 |some d,.r x=>{σ with tm:=(d,x)::σ.tm}
 |some d,.a U cs sl=>{σ with tm:=(d,J3 sl d)::σ.tm,bx:=(d,U,cs)::σ.bx}
 |some d,.skip=>{σ with tm:=(d,.u)::σ.tm}
 |some d,.s k U cs=>{σ with tm:=(d,.u)::σ.tm,bx:=(k,U,cs)::σ.bx}
 |none,.s k U cs=>{σ with bx:=(k,U,cs)::σ.bx}
 |some d,.rs k U cs x=>{σ with tm:=(d,x)::σ.tm,bx:=(k,U,cs)::σ.bx}
 |none,.rs k U cs _x=>{σ with bx:=(k,U,cs)::σ.bx}
 |some d,.c k x=>{σ with tm:=(d,x)::jg k σ.tm,bx:=iK k σ.bx}
 |none,.c k _x=>{σ with tm:=jg k σ.tm,bx:=iK k σ.bx}
 |none,_=>σ
def Sq.app (s:Sq):Option Nat→Eff→Sq
 |some d,.a U cs sl=>⟨{s.st with tm:=(d,J3 sl d)::s.st.tm},(d,U,cs)::s.nb,s.sd⟩
 |some d,.s k U cs=>⟨{s.st with tm:=(d,.u)::s.st.tm},(k,U,cs)::s.nb,k::s.sd⟩
 |none,.s k U cs=>⟨s.st,(k,U,cs)::s.nb,k::s.sd⟩
 |some d,.rs k U cs x=>⟨{s.st with tm:=(d,x)::s.st.tm},(k,U,cs)::s.nb,s.sd⟩
 |none,.rs k U cs _x=>⟨s.st,(k,U,cs)::s.nb,s.sd⟩
 |d,e=>⟨s.st.app d e,s.nb,s.sd⟩
theorem bq {α:Type}(k t:Nat) (x:α) (r:List (Nat×α)):aT t ((k,x)::r)=if k=t then some x else aT t r:=by
 show(bif Nat.beq k t then some x else aT t r)=_
 by_cases h:k=t
 ·subst h;simp
 ·have:Nat.beq k t=false:=by
   cases hb:Nat.beq k t with
   |false=>rfl
   |true=>exact absurd (Nat.eq_of_beq_eq_true hb) h
  rw[this,if_neg h];rfl
theorem cO {α:Type}(t:Nat): ∀(l r:List (Nat×α)),aT t (l++r)=(aT t l).or (aT t r)
 |[],r=>by simp[aT]
 |(k,x)::l,r=>by
  rw[List.cons_append,bq,bq,cO t l r]
  split<;>simp
theorem jC (k t:Nat): ∀(l:List (Nat×DV)),aT t (jg k l)=match aT t l with|some y=>if iB y=some k then some .n else some y|none=>none
 |[]=>rfl
 |(s,y)::r=>by
  unfold jg
  rw[bq,bq]
  split
  ·show some _=(if iB y=some k then some DV.n else some y)
   cases hr:iB y with
   |none=>simp
   |some l=>
    dsimp only
    cases hb:Nat.beq l k with
    |true=>rw[if_pos (by rw[Nat.eq_of_beq_eq_true hb])];rfl
    |false=>rw[if_neg (fun e=>by injection e with e;subst e;rw[Nat.beq_refl] at hb;cases hb)];rfl
  ·exact jC k t r
theorem iE (k l:Nat): ∀(r:List (Nat×TypeId×List CellD)),aT l (iK k r)=if l=k then none else aT l r
 |[]=>by simp[iK,aT]
 |(m,c)::r=>by
  unfold iK
  rw[bq]
  cases hb:Nat.beq m k with
  |true=>
   have:=Nat.eq_of_beq_eq_true hb
   subst this
   show aT l (iK m r)=_
   rw[iE m l r]
   by_cases e:l=m
   ·rw[if_pos e,if_pos e]
   ·rw[if_neg e,if_neg e,if_neg (Ne.symm e)]
  |false=>
   have hne:m≠k:=fun e=>by subst e;rw[Nat.beq_refl] at hb;cases hb
   show aT l ((m,c)::iK k r)=_
   rw[bq,iE k l r]
   by_cases e:m=l
   ·subst e;rw[if_pos rfl,if_neg hne,if_pos rfl]
   ·rw[if_neg e,if_neg e]
theorem nh (σ:St) (d:Option Nat) (e:Eff):(σ.app d e).T=e.tf d σ.T:=by
 funext t
 cases e with
 |c k x=>
  cases d with
  |none=>
   simp[St.app,St.T,Eff.tf,kV,jC]
   try (generalize aT t σ.tm=q;cases q<;>rfl)
  |some d=>
   simp[St.app,St.T,Eff.tf,kV,jC,bq]
   try (generalize aT t σ.tm=q;cases q<;>rfl)
 |_=>
 unfold Eff.tf
 dsimp only
 cases d with
 |none=>simp[St.app,St.T]
 |some d=>
  by_cases h:d=t
  ·subst h;simp[St.app,St.T,bq,Sb]
  ·have h': ¬(some d=some t):=by simpa using h
   rw[if_neg h']
   simp[St.app,St.T,bq,h]
theorem PA (σ:St) (d:Option Nat) (e:Eff):(σ.app d e).B=e.bf d σ.B:=by
 funext k
 cases d with
 |none=>cases e<;>simp[St.app,St.B,Eff.bf,bq,iE]
 |some d=>cases e<;>simp[St.app,St.B,Eff.bf,bq,iE]
theorem JO (s:Sq) (d:Option Nat) (e:Eff):(s.app d e).st.T=e.tf d s.st.T:=by
 cases d with
 |none=>
  cases e with
  |a U cs sl=>exact nh s.st none (.a U cs sl)
  |r x=>exact nh s.st none (.r x)
  |s k U cs=>exact nh s.st none (.s k U cs)
  |c k x=>exact nh s.st none (.c k x)
  |rs k U cs x=>exact nh s.st none (.rs k U cs x)
  |skip=>exact nh s.st none .skip
 |some d=>
  cases e with
  |a U cs sl=>exact nh s.st (some d) (.a U cs sl)
  |r x=>exact nh s.st (some d) (.r x)
  |s k U cs=>exact nh s.st (some d) (.s k U cs)
  |c k x=>exact nh s.st (some d) (.c k x)
  |rs k U cs x=>exact nh s.st (some d) (.rs k U cs x)
  |skip=>exact nh s.st (some d) .skip
theorem RO (s:Sq) (d:Option Nat) (e:Eff) (hc: ∀k x,e≠ .c k x):(s.app d e).st.B=s.st.B:=by
 cases d with
 |none=>cases e<;>first|rfl|exact absurd rfl (hc _ _)
 |some d=>cases e<;>first|rfl|exact absurd rfl (hc _ _)
theorem Ku (s:Sq) (d:Option Nat) (e:Eff) (hc: ∀k x,e≠ .c k x):(s.app d e).M=e.bf d s.M:=by
 funext k
 cases e with
 |c k x=>exact absurd rfl (hc k x)
 |s l U cs=>
  have:(s.app d (.s l U cs)).M k=aT k ((l,U,cs)::(s.nb++s.st.bx)):=by cases d<;>rfl
  rw[this,bq]
  rfl
 |rs l U cs x=>
  have:(s.app d (.rs l U cs x)).M k=aT k ((l,U,cs)::(s.nb++s.st.bx)):=by cases d<;>rfl
  rw[this,bq]
  rfl
 |a U cs sl=>cases d<;>(simp[Sq.app,St.app,Sq.M,Eff.bf,bq])
 |r x=>cases d<;>(simp[Sq.app,St.app,Sq.M,Eff.bf])
 |skip=>cases d<;>(simp[Sq.app,St.app,Sq.M,Eff.bf])
theorem Qj (s:Sq) (d:Option Nat) (e:Eff):(s.app d e).st.n=s.st.n:=by
 cases d<;>cases e<;>rfl
theorem Ga (σ:St) (d:Option Nat) (e:Eff):(σ.app d e).n=σ.n:=by
 cases d<;>cases e<;>rfl
def Dc (P:Program) (ops:Array Oper) (o:Oper) (σ:St) (F:St→Prop):Prop:= ∀av w0 β a w,Rel av w0 σ.n σ.T σ.B β a w→(∀t,o.dst=some t→t<σ.n)→
 xk o ops a=true∧Gives P o a w fun v w'=> ∃σ' β',F σ'∧σ'.n=σ.n∧Rel av w0 σ.n σ'.T σ'.B β' (a.put o.dst v) w'
def dl (P:Program) (ops:Array Oper):List Oper→St→(St→Prop)→Prop
 |[],σ,K=>K σ
 |o::os,σ,K=>(∃e,Sem P ops o σ.T σ.B e∧(∀U cs sl,e=.a U cs sl→ ∃d,o.dst=some d∧σ.B d=none)∧dl P ops os (σ.app o.dst e) K)∨ ∃F:St→Prop,Dc P ops o σ F∧ ∀σ',F σ'→dl P ops os σ' K
def hid (hs:List Nat) (B:BF):BF:=fun k=>bif hs.any (Nat.beq k) then none else B k
def Vs (hs:List Nat) (B M:BF):Eff→BF
 | .s k _ _=>fun l=>bif Nat.beq l k then M l else hid hs B l
 | .rs k _ _ _=>fun l=>bif Nat.beq l k then M l else hid hs B l
 |_=>hid hs B
def ia (o:Oper):Bool:=match o.op with
 | .call _=>true
 |_=>false
def dc (o:Oper):List Nat:=(o.after.toList.filter (Region.binds .any)).map (·.on)
def nm (ops:Array Oper):Bool:=
 (List.range ops.size).all fun j=>match ops[j]? with
  |none=>false
  |some p=> !ia p||(List.range j).all fun i=>match ops[i]? with
   |none=>false
   |some o=> !ia o||(dc p).any (Nat.beq i)||(List.range j).any fun q=>Nat.blt i q&&match ops[q]? with
    |none=>false
    |some oq=>ia oq&&(dc p).any (Nat.beq q)
def VB (ops:Array Oper) (hs:List Nat) (os:List Oper) (o:Oper) (B:BF) (sd:List Nat) (e:Eff):Prop:=
 ∀k U cs x,e=.rs k U cs x→hs.any (Nat.beq k)=true∧B k≠none∧k∉sd∧os.all (fun o=>o.dst.isSome)=true∧ia o=true∧nm ops=true∧hs.any (Nat.beq 999999)=false
def t7 (o:Oper):Bool:=match o.op with
 | .store ..=>true
 |_=>false
def Ex (hs:List Nat) (o:Oper):Bool:=t7 o||(ia o&& !hs.any (Nat.beq 999999))
def lu (ops:Array Oper):Bool:=
 (List.range ops.size).all fun j=>match ops[j]? with
  |none=>false
  |some p=> !t7 p||(List.range j).all fun i=>match ops[i]? with
   |none=>false
   |some o=> !t7 o||(dc p).any (Nat.beq i)
theorem vH {ops:Array Oper}(h:lu ops=true) {i j:Nat}{o p:Oper}(hij:i<j) (ho:ops[i]? =some o) (hp:ops[j]? =some p) (hso:t7 o=true) (hsp:t7 p=true):i∈dc p:=by
 unfold lu at h
 have h1:=List.all_eq_true.1 h j (List.mem_range.2 (Array.getElem?_eq_some_iff.1 hp).1)
 rw[hp] at h1
 dsimp only at h1
 rw[hsp] at h1
 simp only[Bool.not_true,Bool.false_or] at h1
 have h2:=List.all_eq_true.1 h1 i (List.mem_range.2 hij)
 rw[ho] at h2
 dsimp only at h2
 rw[hso] at h2
 simp only[Bool.not_true,Bool.false_or,List.any_eq_true] at h2
 obtain⟨x,hx,h3⟩:=h2
 rw[Nat.eq_of_beq_eq_true h3];exact hx
def Ol (hs:List Nat) (ops:Array Oper) (o:Oper):Bool:=match o.dst with
 |none=>false
 |some d=>(List.range ops.size).all fun i=>match ops[i]? with
  |none=>false
  |some p=> !(match p.dst with|none=>false|some d'=>Nat.beq d' d)||(List.range ops.size).all fun j=>match ops[j]? with
   |none=>false
   |some q=> !Ex hs q||(dc q).any (Nat.beq i)
theorem Qb {hs:List Nat}{ops:Array Oper}{o q:Oper}{i j:Nat}(h:Ol hs ops o=true) (ho:ops[i]? =some o) (hq:ops[j]? =some q) (hw:Ex hs q=true):i∈dc q:=by
 unfold Ol at h
 cases hd:o.dst with
 |none=>rw[hd] at h;cases h
 |some d=>
  rw[hd] at h
  have h1:=List.all_eq_true.1 h i (List.mem_range.2 (Array.getElem?_eq_some_iff.1 ho).1)
  rw[ho] at h1
  dsimp only at h1
  rw[hd] at h1
  dsimp only at h1
  rw[Nat.beq_refl] at h1
  simp only[Bool.not_true,Bool.false_or] at h1
  have h2:=List.all_eq_true.1 h1 j (List.mem_range.2 (Array.getElem?_eq_some_iff.1 hq).1)
  rw[hq] at h2
  dsimp only at h2
  rw[hw] at h2
  simp only[Bool.not_true,Bool.false_or,List.any_eq_true] at h2
  obtain⟨x,hx,h3⟩:=h2
  rw[Nat.eq_of_beq_eq_true h3];exact hx
theorem GX {hs:List Nat}{o:Oper}(h:ia o=true) (hf:hs.any (Nat.beq 999999)=false):Ex hs o=true:=by
 unfold Ex;rw[h,hf];simp
theorem Nb {hs:List Nat}{o:Oper}(h:t7 o=true):Ex hs o=true:=by
 unfold Ex;rw[h];rfl
def QR (P:Program) (ops:Array Oper) (hs:List Nat) (o:Oper) (T:TF) (B M:BF) (e:Eff):Prop:=Sem P ops o T (Vs hs B M e) e∨(Ol hs ops o=true∧(∃x,e=.r x)∧Sem P ops o T B e)
def dq (P:Program) (ops:Array Oper) (hs:List Nat):List Oper→Sq→(Sq→Prop)→Prop
 |[],s,K=>K s
 |o::os,s,K=> ∃e,QR P ops hs o s.st.T s.st.B s.M e∧(∀k x,e≠ .c k x)∧(∀k U cs,e=.s k U cs→hs.any (Nat.beq k)=true∧(s.st.B k≠none∨k∈o.looksAt ops)∧(k∉s.sd∨lu ops=true)∧t7 o=true)∧VB ops hs os o s.st.B s.sd e∧(∀U cs sl,e=.a U cs sl→ ∃d,o.dst=some d∧s.M d=none)∧dq P ops hs os (s.app o.dst e) K
def C8 (l:List Oper) (es:List Eff):=List.zipWith (fun(o:Oper) e=>uT o.dst e) l es
def qW (l:List Oper) (es:List Eff):=List.zipWith (fun(o:Oper) e=>uB o.dst e) l es
theorem F0 (s:Sq) (d:Option Nat) (e:Eff) (k:Nat) (h:k∉(s.app d e).sd):k∉s.sd:=by
 cases d<;>cases e<;>first|exact h|exact fun hk=>h (List.mem_cons_of_mem _ hk)
theorem CN {P:Program}{ops:Array Oper}{hs:List Nat}{K:Sq→Prop}: ∀(l:List Oper) (s:Sq),dq P ops hs l s K→ ∃es:List Eff,es.length=l.length∧
 (∀(i:Nat) (o:Oper) (e:Eff),l[i]? =some o→es[i]? =some e→QR P ops hs o (jY (fun j=>decide (j<i)) 0 (C8 l es) s.st.T) s.st.B (jY (fun j=>decide (j<i)) 0 (qW l es) s.M) e∧(∀k x,e≠ .c k x)∧(∀k U cs,e=.s k U cs→hs.any (Nat.beq k)=true∧(s.st.B k≠none∨k∈o.looksAt ops)∧(k∉s.sd∨lu ops=true)∧t7 o=true)∧
  (∀k U cs x,e=.rs k U cs x→hs.any (Nat.beq k)=true∧s.st.B k≠none∧k∉s.sd∧ia o=true∧nm ops=true∧hs.any (Nat.beq 999999)=false)∧
  (∀U cs sl,e=.a U cs sl→ ∃d,o.dst=some d∧jY (fun j=>decide (j<i)) 0 (qW l es) s.M d=none))∧
 (∀(i j:Nat) k U cs U' cs',es[i]? =some (.s k U cs)→es[j]? =some (.s k U' cs')→i=j∨lu ops=true)∧
 (∀(i j:Nat) k U cs U' cs' x,es[i]? =some (.s k U cs)→es[j]? =some (.rs k U' cs' x)→False)∧
 ∃s':Sq,s'.st.n=s.st.n∧s'.st.T=jY (fun _=>true) 0 (C8 l es) s.st.T∧s'.M=jY (fun _=>true) 0 (qW l es) s.M∧K s'
 |[],s,h=>⟨[],rfl,fun i o e ho=>by simp at ho,fun i j k U cs U' cs' h=>by simp at h,fun i j k U cs U' cs' x h=>by simp at h,s,rfl,rfl,rfl,h⟩
 |o::l,s,h=>by
  obtain⟨e,hsm,hce,hn,hrs,ha,h⟩:=h
  obtain⟨es,hl,hall,hdis,hmix,s',h1,h2,h3,h4⟩:=CN l _ h
  refine⟨e::es,by simp[hl],?_,?_,?_,s',h1.trans (Qj _ _ _),?_,?_,h4⟩
  ·intro i o' e' ho he
   cases i with
   |zero=>
    simp at ho he
    subst ho he
    refine⟨?_,hce,hn,fun k U cs x he=>⟨(hrs k U cs x he).1,(hrs k U cs x he).2.1,(hrs k U cs x he).2.2.1,(hrs k U cs x he).2.2.2.2⟩,?_⟩
    ·rw[show jY (fun j=>decide (j<0)) 0 (C8 (o::l) (e::es)) s.st.T=s.st.T from funext fun t=>jp _ _ _ (fun j u _ hm=>by simp at hm),show jY (fun j=>decide (j<0)) 0 (qW (o::l) (e::es)) s.M=s.M from funext fun t=>jp _ _ _ (fun j u _ hm=>by simp at hm)]
     exact hsm
    ·rw[show jY (fun j=>decide (j<0)) 0 (qW (o::l) (e::es)) s.M=s.M from funext fun t=>jp _ _ _ (fun j u _ hm=>by simp at hm)]
     exact ha
   |succ i=>
    have:=hall i o' e' (by simpa using ho) (by simpa using he)
    have e1:jY (fun j=>decide (j<i+1)) 0 (C8 (o::l) (e::es)) s.st.T=jY (fun j=>decide (j<i)) 0 (C8 l es) (s.app o.dst e).st.T:=by
     show jY (fun j=>decide (j<i+1)) (0+1) (C8 l es) (if decide (0<i+1)=true then(fun t=>(uT o.dst e t).getD (s.st.T t)) else s.st.T)=_
     rw[nR,JO,←Lu _ _ _ hce]
     simp
    have e2:jY (fun j=>decide (j<i+1)) 0 (qW (o::l) (e::es)) s.M=jY (fun j=>decide (j<i)) 0 (qW l es) (s.app o.dst e).M:=by
     show jY (fun j=>decide (j<i+1)) (0+1) (qW l es) (if decide (0<i+1)=true then(fun t=>(uB o.dst e t).getD (s.M t)) else s.M)=_
     rw[nR,Ku _ _ _ hce,←Ix _ _ _ hce]
     simp
    rw[RO _ _ _ hce,←e1,←e2] at this
    exact⟨this.1,this.2.1,fun k U cs he=>⟨(this.2.2.1 k U cs he).1,(this.2.2.1 k U cs he).2.1,(this.2.2.1 k U cs he).2.2.1.imp (F0 s o.dst e k) id,(this.2.2.1 k U cs he).2.2.2⟩,fun k U cs x he=>⟨(this.2.2.2.1 k U cs x he).1,(this.2.2.2.1 k U cs x he).2.1,F0 s o.dst e k (this.2.2.2.1 k U cs x he).2.2.1,(this.2.2.2.1 k U cs x he).2.2.2⟩,this.2.2.2.2⟩
  ·intro i j k U cs U' cs' hi hj
   have hnot: ∀(j:Nat) U' cs',es[j]? =some (.s k U' cs')→ ∀U cs,e=.s k U cs→lu ops=true:=by
    intro j U' cs' hj U cs he
    have hjl:j<l.length:=by rw[←hl];exact(List.getElem?_eq_some_iff.1 hj).1
    have h5:=(hall j l[j] _ (List.getElem?_eq_getElem hjl) hj).2.2.1 k U' cs' rfl
    subst he
    rcases h5.2.2.1 with h6|h6
    ·exact absurd (by cases o.dst<;>exact List.mem_cons_self ..) h6
    ·exact h6
   cases i with
   |zero=>
    cases j with
    |zero=>exact .inl rfl
    |succ j=>simp at hi hj;exact .inr (hnot j U' cs' hj U cs hi)
   |succ i=>
    cases j with
    |zero=>simp at hi hj;exact .inr (hnot i U cs hi U' cs' hj)
    |succ j=>simp at hi hj;exact(hdis i j k U cs U' cs' hi hj).imp (fun e=>by rw[e]) id
  ·intro i j k U cs U' cs' x hi hj
   cases i with
   |zero=>
    simp at hi
    cases j with
    |zero=>simp at hj;rw[hi] at hj;cases hj
    |succ j=>
     simp at hj
     subst hi
     have hjl:j<l.length:=by rw[←hl];exact(List.getElem?_eq_some_iff.1 hj).1
     have h5:=(hall j l[j] _ (List.getElem?_eq_getElem hjl) hj).2.2.2.1 k U' cs' x rfl
     exact h5.2.2.1 (by cases o.dst<;>exact List.mem_cons_self ..)
   |succ i=>
    simp at hi
    cases j with
    |zero=>
     simp at hj
     have hil:i<l.length:=by rw[←hl];exact(List.getElem?_eq_some_iff.1 hi).1
     have h5:=(hall i l[i] _ (List.getElem?_eq_getElem hil) hi).1
     have h6:(l[i]).dst=none:=by
      rcases h5 with h5|⟨_,⟨x,hx⟩,_⟩
      ·exact h5.1
      ·cases hx
     have h7:=(hrs k U' cs' x hj).2.2.2.1
     have h8:=List.all_eq_true.1 h7 l[i] (List.getElem_mem hil)
     rw[h6] at h8;cases h8
    |succ j=>simp at hj;exact hmix i j k U cs U' cs' x hi hj
  ·rw[h2,JO,←Lu _ _ _ hce]
   show _=jY (fun _=>true) (0+1) (C8 l es) (if true=true then(fun t=>(uT o.dst e t).getD (s.st.T t)) else s.st.T)
   rw[nR];simp
  ·rw[h3,Ku _ _ _ hce,←Ix _ _ _ hce]
   show _=jY (fun _=>true) (0+1) (qW l es) (if true=true then(fun t=>(uB o.dst e t).getD (s.M t)) else s.M)
   rw[nR];simp
theorem vK {γ:Type}{mask:Nat→Bool}{t:Nat}: ∀(us:List (Nat→Option (Option γ))) (k:Nat) (F:Nat→Option γ),F t≠none→(∀u∈us,u t≠some none)→jY mask k us F t≠none
 |[],_,_,h,_=>h
 |u::us,k,F,h,hu=>by
  refine vK us (k+1) _ ?_ (fun u' hu'=>hu u' (List.mem_cons_of_mem _ hu'))
  split
  ·show(u t).getD (F t)≠none
   cases he:u t with
   |none=>exact h
   |some x=>
    cases x with
    |none=>exact absurd he (hu u (List.mem_cons_self ..))
    |some y=>simp
  ·exact h
theorem qT {P:Program}{ops:Array Oper}{Q:Exit→Act→World→Prop}{av:Nat→Prop}{w0:Ent}{K:St→Prop}: ∀(l:List Oper) (σ:St) (β:Nat→Nat) (a:Act) (w:World),
 (∀o∈l,∀t,o.dst=some t→t<σ.n)→dl P ops l σ K→Rel av w0 σ.n σ.T σ.B β a w→(∀σ' β' a' w',σ'.n=σ.n→K σ'→Rel av w0 σ'.n σ'.T σ'.B β' a' w'→Q .normal a' w')→wpList P ops Q l a w
 |[],σ,β,a,w,_,hd,hr,hq=>hq σ β a w rfl hd hr
 |o::l,σ,β,a,w,hn,hd,hr,hq=>by
  rcases hd with⟨e,hs,ha,hd⟩|⟨F,hs,hd⟩
  ·refine hr.step hs (fun t ht=>hn o (by simp) t ht) (fun _ _ _ h=>h) (fun _ _ h=>h) ha (fun β' a' w' hr'=>?_)
   refine qT l (σ.app o.dst e) β' a' w' (fun o' ho' t ht=>by rw[Ga];exact hn o' (by simp[ho']) t ht) hd ?_ (fun σ' β' a' w' h1 h2 h3=>hq σ' β' a' w' (by rw[h1,Ga]) h2 h3)
   rw[Ga,nh,PA];exact hr'
  ·obtain⟨hw,hg⟩:=hs av w0 β a w hr (fun t ht=>hn o (by simp) t ht)
   unfold wpList
   rw[if_pos hw]
   refine .inl (hg.wp fun v w' ⟨σ',β',hF,hn',hr'⟩=>?_)
   exact qT l σ' β' _ w' (fun o' ho' t ht=>by rw[hn'];exact hn o' (by simp[ho']) t ht) (hd σ' hF) (by rw[hn'];exact hr') (fun σ'' β' a' w' h1 h2 h3=>hq σ'' β' a' w' (by rw[h1,hn']) h2 h3)
def dk (N k:Nat):Array Bool:=((List.range N).map (fun i=>Nat.blt i k)).toArray
def Jj (ops:Array Oper) (m n:Nat):Bool:=
 Nat.ble m ops.size&&
 ((List.range ops.size).all fun i=>match ops[i]? with
  |none=>false
  |some o=>(dc o).all (fun j=>Nat.blt j i)&&(match o.dst with|none=>true|some d=>Nat.blt d n))&&
 ((List.range m).all fun i=>match ops[i]? with
  |none=>false
  |some o=>(List.range m).all fun j=>Nat.beq i j||match ops[j]? with
   |none=>false
   |some p=>match p.dst with
    |none=>true
    |some d=>(match o.dst with|none=>true|some d'=> !Nat.beq d' d)&&(!(o.looksAt ops).any (Nat.beq d)||(dc o).any (Nat.beq j)||(dc p).any (Nat.beq i)))&&
 ((List.range ops.size).all fun t=>Nat.blt t m||match ops[t]? with
  |none=>false
  |some o=>(dc o).any (fun j=>Nat.ble m j)||(List.range m).all fun p=>(dc o).any (Nat.beq p)||(List.range m).any fun q=>Nat.blt p q&&match ops[q]? with
   |none=>false
   |some oq=>(dc oq).any (Nat.beq p))&&
 ((List.range ops.size).all fun k=>Nat.blt k m||(match Region.ready .any ops (dk ops.size k) with|[j]=>Nat.beq j k|_=>false))
structure Chk (ops:Array Oper) (m n:Nat):Prop where
 le:m≤ops.size
 low: ∀(i:Nat) (o:Oper) (j:Nat),ops[i]? =some o→j∈dc o→j<i
 dn: ∀(i:Nat) (o:Oper) (t:Nat),ops[i]? =some o→o.dst=some t→t<n
 dist: ∀(i j:Nat) (o p:Oper) (d:Nat),i<m→j<m→ops[i]? =some o→ops[j]? =some p→o.dst=some d→p.dst=some d→i=j
 dep: ∀(i j:Nat) (o p:Oper) (d:Nat),i<m→j<m→i≠j→ops[i]? =some o→ops[j]? =some p→p.dst=some d→d∈o.looksAt ops→j∈dc o∨i∈dc p
 tl: ∀(t:Nat) (o:Oper),m≤t→ops[t]? =some o→(∃j,j∈dc o∧m≤j)∨ ∀p,p<m→p∈dc o∨ ∃(q:Nat) (oq:Oper),p<q∧q<m∧ops[q]? =some oq∧p∈dc oq
 rdy: ∀k:Nat,m≤k→k<ops.size→Region.ready .any ops (dk ops.size k)=[k]
theorem iA {l:List Nat}{d:Nat}:l.any (Nat.beq d)=true↔d∈l:=by
 simp only[List.any_eq_true]
 constructor
 ·rintro⟨x,hx,h⟩;rw[Nat.eq_of_beq_eq_true h];exact hx
 ·exact fun h=>⟨d,h,Nat.beq_refl d⟩
theorem eJ {a b:Nat}:Nat.blt a b=true↔a<b:=by simp[Nat.blt,Nat.ble_eq,Nat.lt_iff_add_one_le]
theorem Chk.of {ops:Array Oper}{m n:Nat}(h:Jj ops m n=true):Chk ops m n:=by
 unfold Jj at h
 simp only[Bool.and_eq_true,List.all_eq_true,List.mem_range] at h
 obtain⟨⟨⟨⟨h1,h2⟩,h3⟩,h4⟩,h5⟩:=h
 have hlt: ∀ {i:Nat}{o:Oper},ops[i]? =some o→i<ops.size:=fun h=>(Array.getElem?_eq_some_iff.1 h).1
 refine⟨Nat.le_of_ble_eq_true h1,?_,?_,?_,?_,?_,?_⟩
 ·intro i o j ho hj
  have:=h2 i (hlt ho)
  rw[ho] at this
  simp only[Bool.and_eq_true,List.all_eq_true] at this
  exact eJ.1 (this.1 j hj)
 ·intro i o t ho ht
  have:=h2 i (hlt ho)
  rw[ho] at this
  simp only[Bool.and_eq_true,ht] at this
  exact eJ.1 this.2
 ·intro i j o p d hi hj ho hp hd he
  have:=h3 i hi
  rw[ho] at this
  simp only[List.all_eq_true,List.mem_range] at this
  have:=this j hj
  rw[hp] at this
  simp only[he,hd,Bool.or_eq_true,Bool.and_eq_true] at this
  rcases this with h|h
  ·exact Nat.eq_of_beq_eq_true h
  ·have:=h.1;rw[Nat.beq_refl] at this;cases this
 ·intro i j o p d hi hj hne ho hp hd he
  have:=h3 i hi
  rw[ho] at this
  simp only[List.all_eq_true,List.mem_range] at this
  have:=this j hj
  rw[hp] at this
  simp only[hd,Bool.or_eq_true,Bool.and_eq_true] at this
  rcases this with h|h
  ·exact absurd (Nat.eq_of_beq_eq_true h) hne
  ·rcases h.2 with(h|h)|h
   ·rw[iA.2 he] at h;cases h
   ·exact .inl (iA.1 h)
   ·exact .inr (iA.1 h)
 ·intro t o ht ho
  have:=h4 t (hlt ho)
  rw[ho] at this
  simp only[Bool.or_eq_true,List.all_eq_true,List.any_eq_true,List.mem_range,Bool.and_eq_true] at this
  rcases this with h|h|h
  ·have:=eJ.1 h;omega
  ·obtain⟨j,hj,h⟩:=h;exact .inl ⟨j,hj,Nat.le_of_ble_eq_true h⟩
  ·refine .inr fun p hp=>?_
   rcases h p hp with h|⟨q,hq,h,h'⟩
   ·obtain⟨x,hx,hb⟩:=h;rw[Nat.eq_of_beq_eq_true hb];exact .inl hx
   ·cases ho':ops[q]? with
    |none=>rw[ho'] at h';cases h'
    |some oq=>
     rw[ho'] at h'
     exact .inr ⟨q,oq,eJ.1 h,hq,ho',iA.1 h'⟩
 ·intro k hk hks
  have:=h5 k hks
  simp only[Bool.or_eq_true] at this
  rcases this with h|h
  ·have:=eJ.1 h;omega
  ·generalize Region.ready .any ops (dk ops.size k)=r at h
   match r,h with
   |[j],h=>rw[Nat.eq_of_beq_eq_true h]
theorem Aj (N k i:Nat) (d:Bool) (hi:i<N):(dk N k).getD i d=Nat.blt i k:=by
 unfold dk
 simp[hi]
theorem zG {N k:Nat}(_h:k<N):(dk N k).setIfInBounds k true=dk N (k+1):=by
 apply Array.ext (by simp[dk])
 intro i h1 h2
 simp[dk] at h1 h2⊢
 rw[List.getElem_set]
 split
 ·rename_i e;subst e;simp
 ·simp only[List.getElem_map,List.getElem_range]
  rw[Bool.eq_iff_iff,eJ,eJ];omega
theorem tL {o:Oper}{e:Edge}(h:e∈o.after) (hb:Region.binds .any e=true):e.on∈dc o:=
 List.mem_map.2 ⟨e,List.mem_filter.2 ⟨Array.mem_toList_iff.2 h,hb⟩,rfl⟩
theorem jz {o:Oper}{j:Nat}(h:j∈dc o): ∃e∈o.after,Region.binds .any e=true∧e.on=j:=by
 obtain⟨e,he,h⟩:=List.mem_map.1 h
 obtain⟨he,hb⟩:=List.mem_filter.1 he
 exact⟨e,Array.mem_toList_iff.1 he,hb,h⟩
section
variable {P:Program}{ops:Array Oper}{Q:Exit→Act→World→Prop}{av:Nat→Prop}{w0:Ent}{m n:Nat}
theorem sG (hc:Chk ops m n) {K:St→Prop}(hQ: ∀σ' β a w,σ'.n=n→K σ'→Rel av w0 n σ'.T σ'.B β a w→Q .normal a w): ∀(l:List Oper) (k:Nat) (σ:St) (fuel:Nat) (β:Nat→Nat) (a:Act) (w:World),
 m≤k→(∀j:Nat,l[j]? =ops[k+j]?)→k+l.length=ops.size→σ.n=n→dl P ops l σ K→Rel av w0 n σ.T σ.B β a w→l.length≤fuel→wpAny P .any ops Q fuel (dk ops.size k) a w
 |[],k,σ,fuel,β,a,w,_,_,hk,hn,hd,hr,_=>by
  refine wpAny_done ?_ (hQ σ β a w hn hd hr) fuel
  refine List.eq_nil_iff_forall_not_mem.2 fun j hj=>?_
  obtain⟨h0,o,ho,_⟩:=mem_ready.1 hj
  have hjs:=(Array.getElem?_eq_some_iff.1 ho).1
  rw[Aj _ _ _ _ hjs] at h0
  have:Nat.blt j k=true:=eJ.2 (by simp at hk;omega)
  rw[this] at h0;cases h0
 |o::l,k,σ,0,β,a,w,_,_,_,_,_,_,hf=>by simp at hf
 |o::l,k,σ,fuel+1,β,a,w,hmk,hl,hk,hn,hd,hr,hf=>by
  have ho:ops[k]? =some o:=by have:=hl 0;simpa using this.symm
  have hks:k<ops.size:=(Array.getElem?_eq_some_iff.1 ho).1
  refine wpAny_all (hc.rdy k hmk hks) (by simp) ?_
  intro i hi
  obtain rfl:i=k:=by simpa using hi
  rw[zG hks]
  unfold wpOp
  rw[ho]
  rcases hd with⟨e,hs,ha,hd⟩|⟨F,hs,hd⟩
  ·refine hr.step hs (fun t ht=>hc.dn i o t ho ht) (fun _ _ _ h=>h) (fun _ _ h=>h) ha (fun β' a' w' hr'=>?_)
   refine sG hc hQ l (i+1) (σ.app o.dst e) fuel β' a' w' (by omega) (fun j=>by have:=hl (j+1);rw[show i+1+j=i+(j+1) from by omega];simpa using this) (by simp at hk;omega) (by rw[Ga];exact hn) hd ?_ (by simpa using hf)
   rw[nh,PA];exact hr'
  ·obtain⟨hw,hg⟩:=hs av w0 β a w (by rw[hn];exact hr) (fun t ht=>by rw[hn];exact hc.dn i o t ho ht)
   refine(if_pos hw).mpr (.inl (hg.wp fun v w' ⟨σ',β',hF,hn',hr'⟩=>?_))
   exact sG hc hQ l (i+1) σ' fuel β' _ w' (by omega) (fun j=>by have:=hl (j+1);rw[show i+1+j=i+(j+1) from by omega];simpa using this) (by simp at hk;omega) (by rw[hn',hn]) (hd σ' hF) (by rw[←hn];exact hr') (by simpa using hf)
def GI (listed:Array Bool):Nat:=listed.toList.countP (fun b=> !b)
theorem zK {listed:Array Bool}{i:Nat}(hi:i<listed.size) (h:listed.getD i true=false):GI (listed.setIfInBounds i true)+1=GI listed:=by
 have h0:listed.toList[i]? =some false:=by
  rw[Array.getElem?_toList,Array.getElem?_eq_getElem hi]
  simp[Array.getD,hi] at h
  simpa using h
 obtain⟨hi',e⟩:=List.getElem?_eq_some_iff.1 h0
 unfold GI
 rw[Array.toList_setIfInBounds,List.countP_set hi']
 have hpos:0<listed.toList.countP (fun b=> !b):=List.countP_pos_iff.2 ⟨false,List.mem_of_getElem? h0,rfl⟩
 rw[e]
 generalize listed.toList.countP (fun b=> !b)=c at*
 simp only[Bool.not_false,Bool.not_true,if_true,Bool.false_eq_true,if_false]
 omega
theorem uS {listed:Array Bool}{i:Nat}(hi:i<listed.size) (h:listed.getD i true=false):1≤GI listed:=by
 have:=zK hi h;omega
theorem mU {listed:Array Bool}{i:Nat}(hi:i<listed.size) (d d':Bool):listed.getD i d=listed.getD i d':=by simp[Array.getD,hi]
theorem mM {γ:Type}(f:Oper→Eff→γ) {l:List Oper}{es:List Eff}{j:Nat}{u:γ}(h:(List.zipWith f l es)[j]? =some u): ∃o e,l[j]? =some o∧es[j]? =some e∧u=f o e:=by
 rw[List.getElem?_zipWith] at h
 cases h1:l[j]? with
 |none=>rw[h1] at h;cases h
 |some o=>
  cases h2:es[j]? with
  |none=>rw[h1,h2] at h;cases h
  |some e=>rw[h1,h2] at h;simp at h;exact⟨o,e,rfl,rfl,h.symm⟩
theorem Cb (hch:nm ops=true) {i j:Nat}{o p:Oper}(hij:i<j) (ho:ops[i]? =some o) (hp:ops[j]? =some p) (hco:ia o=true) (hcp:ia p=true):
 i∈dc p∨ ∃(q:Nat) (oq:Oper),i<q∧q<j∧ops[q]? =some oq∧ia oq=true∧q∈dc p:=by
 unfold nm at hch
 have h1:=List.all_eq_true.1 hch j (List.mem_range.2 (Array.getElem?_eq_some_iff.1 hp).1)
 rw[hp] at h1
 dsimp only at h1
 rw[hcp] at h1
 simp only[Bool.not_true,Bool.false_or] at h1
 have h2:=List.all_eq_true.1 h1 i (List.mem_range.2 hij)
 rw[ho] at h2
 dsimp only at h2
 rw[hco] at h2
 simp only[Bool.not_true,Bool.false_or,Bool.or_eq_true] at h2
 rcases h2 with h2|h2
 ·exact .inl (iA.1 h2)
 ·obtain⟨q,hq,h3⟩:=List.any_eq_true.1 h2
  simp only[Bool.and_eq_true] at h3
  obtain⟨h3,h4⟩:=h3
  cases hoq:ops[q]? with
  |none=>rw[hoq] at h4;cases h4
  |some oq=>
   rw[hoq] at h4
   simp only[Bool.and_eq_true] at h4
   exact .inr ⟨q,oq,eJ.1 h3,List.mem_range.1 hq,hoq,h4.1,iA.1 h4.2⟩
theorem qS (hch:nm ops=true) {listed:Array Bool}(hcl: ∀i o j,listed.getD i false=true→ops[i]? =some o→j∈dc o→listed.getD j false=true):
 ∀(d j i:Nat) (o p:Oper),j≤d→i<j→ops[i]? =some o→ops[j]? =some p→ia o=true→ia p=true→listed.getD j false=true→listed.getD i false=true
 |0,j,i,o,p,hd,hij,_,_,_,_,_=>by omega
 |d+1,j,i,o,p,hd,hij,ho,hp,hco,hcp,hj=>by
  rcases Cb hch hij ho hp hco hcp with h|⟨q,oq,h1,h2,h3,h4,h5⟩
  ·exact hcl j p i hj hp h
  ·exact qS hch hcl d q i o oq (by omega) h1 ho h3 hco h4 (hcl j p q hj hp h5)
theorem GO (hch:nm ops=true) {listed:Array Bool}(hcl: ∀i o j,listed.getD i false=true→ops[i]? =some o→j∈dc o→listed.getD j false=true)
 {j i:Nat}{o p:Oper}(hij:i<j) (ho:ops[i]? =some o) (hp:ops[j]? =some p) (hco:ia o=true) (hcp:ia p=true) (hae: ∀q,q∈dc p→listed.getD q false=true):listed.getD i false=true:=by
 rcases Cb hch hij ho hp hco hcp with h|⟨q,oq,h1,h2,h3,h4,h5⟩
 ·exact hae i h
 ·exact qS hch hcl q q i o oq (Nat.le_refl _) h1 ho h3 hco h4 (hae q h5)
theorem Mu (hc:Chk ops m n) {T0:TF}{B0 M0:BF}{hs:List Nat}{sd:List Nat}(hM: ∀k c,B0 k=some c→M0 k=some c) {es:List Eff}(hes:es.length=m)
 (hdis: ∀(i j:Nat) k U cs U' cs',es[i]? =some (.s k U cs)→es[j]? =some (.s k U' cs')→i=j∨lu ops=true)
 (hmix: ∀(i j:Nat) k U cs U' cs' x,es[i]? =some (.s k U cs)→es[j]? =some (.rs k U' cs' x)→False)
 (hall: ∀(i:Nat) (o:Oper) (e:Eff),(ops.toList.take m)[i]? =some o→es[i]? =some e→QR P ops hs o (jY (fun j=>decide (j<i)) 0 (C8 (ops.toList.take m) es) T0) B0 (jY (fun j=>decide (j<i)) 0 (qW (ops.toList.take m) es) M0) e∧(∀k x,e≠ .c k x)∧(∀k U cs,e=.s k U cs→hs.any (Nat.beq k)=true∧(B0 k≠none∨k∈o.looksAt ops)∧(k∉sd∨lu ops=true)∧t7 o=true)∧
  (∀k U cs x,e=.rs k U cs x→hs.any (Nat.beq k)=true∧B0 k≠none∧k∉sd∧ia o=true∧nm ops=true∧hs.any (Nat.beq 999999)=false)∧
  (∀U cs sl,e=.a U cs sl→ ∃d,o.dst=some d∧jY (fun j=>decide (j<i)) 0 (qW (ops.toList.take m) es) M0 d=none))
 (hQ: ∀β a w fuel,ops.size-m≤fuel→Rel av w0 n (jY (fun _=>true) 0 (C8 (ops.toList.take m) es) T0) (jY (fun _=>true) 0 (qW (ops.toList.take m) es) M0) β a w→wpAny P .any ops Q fuel (dk ops.size m) a w):
 ∀(fuel:Nat) (listed:Array Bool) (β:Nat→Nat) (a:Act) (w:World),listed.size=ops.size→GI listed≤fuel→
  (∀i o j,listed.getD i false=true→ops[i]? =some o→j∈dc o→listed.getD j false=true)→(∀t,m≤t→listed.getD t false=false)→
  Rel av w0 n (jY (fun j=>listed.getD j false) 0 (C8 (ops.toList.take m) es) T0) (jY (fun j=>listed.getD j false) 0 (qW (ops.toList.take m) es) M0) β a w→wpAny P .any ops Q fuel listed a w:=by
 have hpre: ∀ {i:Nat}{o:Oper},i<m→ops[i]? =some o→(ops.toList.take m)[i]? =some o:=by
  intro i o hi ho
  rw[List.getElem?_take,if_pos hi,Array.getElem?_toList];exact ho
 have hpre': ∀ {i:Nat}{o:Oper},(ops.toList.take m)[i]? =some o→i<m∧ops[i]? =some o:=by
  intro i o h
  rw[List.getElem?_take] at h
  split at h
  ·rename_i hi;rw[Array.getElem?_toList] at h;exact⟨hi,h⟩
  ·cases h
 have hbs: ∀(t:Nat),∀u∈qW (ops.toList.take m) es,u t≠some none:=by
  intro t u hu
  obtain⟨j,hj⟩:=List.getElem?_of_mem hu
  obtain⟨o,e,_,_,rfl⟩:=mM _ hj
  exact NM _ _ _
 have hsM0: ∀(d j:Nat) k U cs,j<d→es[j]? =some (.s k U cs)→M0 k≠none∨ ∃j0 o0 U0 cs0 sl0,j0<m∧ops[j0]? =some o0∧es[j0]? =some (.a U0 cs0 sl0)∧o0.dst=some k∧ ∀oj,ops[j]? =some oj→j0∈dc oj:=by
  intro d
  induction d with
  |zero=>intro j k U cs h0;omega
  |succ d ihd=>
  intro j k U cs hjd hj
  have hjm:j<m:=by rw[←hes];exact(List.getElem?_eq_some_iff.1 hj).1
  have hjs:j<ops.size:=Nat.lt_of_lt_of_le hjm hc.le
  obtain⟨hsem,_,hh,_⟩:=hall j ops[j] _ (hpre hjm (Array.getElem?_eq_getElem hjs)) hj
  obtain⟨_,⟨cs0,hb⟩,_⟩:=hsem.resolve_right (by rintro⟨_,⟨x,hx⟩,_⟩;cases hx)
  have hb:(bif Nat.beq k k then jY (fun j'=>decide (j'<j)) 0 (qW (ops.toList.take m) es) M0 k else hid hs B0 k)=some (U,cs0):=hb
  rw[Nat.beq_refl] at hb
  have hb:jY (fun j'=>decide (j'<j)) 0 (qW (ops.toList.take m) es) M0 k=some (U,cs0):=hb
  by_cases hM0:M0 k=none
  ·refine .inr ?_
   apply Classical.byContradiction
   intro hno
   rw[jp _ _ _ ?_,hM0] at hb
   ·cases hb
   ·intro j0 u hj0 hm0
    apply Classical.byContradiction
    intro hu
    apply hno
    obtain⟨o0,e0,h1,h2,rfl⟩:=mM _ hj0
    have hlt:j0<j:=by simpa using hm0
    rcases IC hu with⟨U0,cs0,sl0,rfl,hd⟩|⟨U0,cs0,rfl⟩|⟨U0,cs0,x0,rfl⟩
    ·refine⟨j0,o0,U0,cs0,sl0,(hpre' h1).1,(hpre' h1).2,h2,hd,fun oj hoj=>?_⟩
     have e3:ops[j]? =some ops[j]:=Array.getElem?_eq_getElem hjs
     rw[e3] at hoj;injection hoj with hoj
     rcases(hh k U cs rfl).2.1 with h3|h3
     ·exfalso
      cases hB:B0 k with
      |none=>exact h3 hB
      |some c=>rw[hM k c hB] at hM0;cases hM0
     ·rcases hc.dep j j0 ops[j] o0 k hjm (hpre' h1).1 (by omega) e3 (hpre' h1).2 hd h3 with h4|h4
      ·rw[←hoj];exact h4
      ·have:=hc.low j0 o0 j (hpre' h1).2 h4;omega
    ·rcases ihd j0 k U0 cs0 (by omega) h2 with h7|⟨j1,o1,U1,cs1,sl1,g1,g2,g3,g4,g5⟩
     ·exact absurd hM0 h7
     ·refine⟨j1,o1,U1,cs1,sl1,g1,g2,g3,g4,fun oj hoj=>?_⟩
      have e3:ops[j]? =some ops[j]:=Array.getElem?_eq_getElem hjs
      rw[e3] at hoj;injection hoj with hoj
      have hj10:=hc.low j0 o0 j1 (hpre' h1).2 (g5 o0 (hpre' h1).2)
      rcases(hh k U cs rfl).2.1 with h3|h3
      ·exfalso
       cases hB:B0 k with
       |none=>exact h3 hB
       |some c=>rw[hM k c hB] at hM0;cases hM0
      ·rcases hc.dep j j1 ops[j] o1 k hjm g1 (by omega) e3 g2 g4 h3 with h4|h4
       ·rw[←hoj];exact h4
       ·have:=hc.low j1 o1 j g2 h4;omega
    ·exact(hmix j j0 k U cs U0 cs0 x0 hj h2).elim
  ·exact .inl hM0
 have hsM: ∀(j:Nat) k U cs,es[j]? =some (.s k U cs)→M0 k≠none∨ ∃j0 o0 U0 cs0 sl0,j0<m∧ops[j0]? =some o0∧es[j0]? =some (.a U0 cs0 sl0)∧o0.dst=some k∧ ∀oj,ops[j]? =some oj→j0∈dc oj:=
  fun j k U cs h=>hsM0 (j+1) j k U cs (by omega) h
 have hlen:(ops.toList.take m).length=m:=by have:=hc.le;rw[List.length_take,Array.length_toList];omega
 intro fuel
 induction fuel with
 |zero=>
  intro listed β a w hsz hu hcl hp hr
  have hm:m=ops.size:=by
   rcases Nat.lt_or_ge m ops.size with h|h
   ·have:=uS (listed:=listed) (i:=m) (by omega) (by rw[mU (by omega) true false];exact hp m (Nat.le_refl _));omega
   ·exact Nat.le_antisymm hc.le h
  have hl: ∀i,i<m→listed.getD i false=true:=fun i hi=>by
   cases h:listed.getD i false with
   |true=>rfl
   |false=>have:=uS (listed:=listed) (i:=i) (by omega) (by rw[mU (by omega) true false];exact h);omega
  have e:listed=dk ops.size m:=by
   apply Array.ext (by simp[dk,hsz])
   intro i h1 h2
   have h3:=hl i (by omega)
   simp[Array.getD,h1] at h3
   rw[h3];simp[dk];omega
  rw[e]
  refine hQ β a w 0 (by omega) (hr.congr (fun t=>ip _ _ _ _ rfl ?_) (fun t=>ip _ _ _ _ rfl ?_))
  ·intro j u hj _
   obtain⟨o,e,h1,_,_⟩:=mM _ hj
   rw[Nat.zero_add];exact(hl j (hpre' h1).1).symm
  ·intro j u hj _
   obtain⟨o,e,h1,_,_⟩:=mM _ hj
   rw[Nat.zero_add];exact(hl j (hpre' h1).1).symm
 |succ fuel ih=>
  intro listed β a w hsz hu hcl hp hr
  by_cases hl: ∀i,i<m→listed.getD i false=true
  ·have e:listed=dk ops.size m:=by
    apply Array.ext (by simp[dk,hsz])
    intro i h1 h2
    by_cases him:i<m
    ·have h3:=hl i him
     simp[Array.getD,h1] at h3
     rw[h3];simp[dk,him]
    ·have h3:=hp i (by omega)
     simp[Array.getD,h1] at h3
     rw[h3];simp[dk]
     cases hb:Nat.blt i m with
     |false=>rfl
     |true=>have:=eJ.1 hb;omega
   have hun:ops.size-m≤GI listed:=by
    rw[e]
    unfold GI dk
    have:(List.map (fun i=>Nat.blt i m) (List.range ops.size))=List.replicate m true++List.replicate (ops.size-m) false:=by
     apply List.ext_getElem (by simp;have:=hc.le;omega)
     intro i h1 h2
     simp at h1
     by_cases him:i<m
     ·rw[List.getElem_append_left (by simpa using him)];simp[him]
     ·rw[List.getElem_append_right (by simpa using him)]
      simp
      cases hb:Nat.blt i m with
      |false=>rfl
      |true=>have:=eJ.1 hb;omega
    simp[this,List.countP_append,List.countP_replicate]
   rw[e]
   refine hQ β a w (fuel+1) (by omega) (hr.congr (fun t=>ip _ _ _ _ rfl ?_) (fun t=>ip _ _ _ _ rfl ?_))
   ·intro j u hj _
    obtain⟨o,e,h1,_,_⟩:=mM _ hj
    rw[Nat.zero_add];exact(hl j (hpre' h1).1).symm
   ·intro j u hj _
    obtain⟨o,e,h1,_,_⟩:=mM _ hj
    rw[Nat.zero_add];exact(hl j (hpre' h1).1).symm
  ·refine⟨fun h0=>?_,fun i hi=>?_⟩
   ·--something may come up:the least that is not listed
    exfalso
    have hex: ∃p,p<m∧listed.getD p false=false∧ ∀q,q<p→listed.getD q false=true:=by
     have key: ∀d p,p≤d→p<m→listed.getD p false=false→ ∃p,p<m∧listed.getD p false=false∧ ∀q,q<p→listed.getD q false=true:=by
      intro d
      induction d with
      |zero=>
       intro p hd hpm hpf
       exact⟨p,hpm,hpf,fun q hq=>by omega⟩
      |succ d ih2=>
       intro p hd hpm hpf
       by_cases hq: ∀q,q<p→listed.getD q false=true
       ·exact⟨p,hpm,hpf,hq⟩
       ·obtain⟨q,hq⟩:=Classical.not_forall.1 hq
        obtain⟨hqp,hq⟩:=Classical.not_imp.1 hq
        exact ih2 q (by omega) (by omega) (by simpa using hq)
     obtain⟨p,hp'⟩:=Classical.not_forall.1 hl
     obtain⟨hpm,hp'⟩:=Classical.not_imp.1 hp'
     exact key p p (Nat.le_refl _) hpm (by simpa using hp')
    obtain⟨p,hpm,hpf,hq⟩:=hex
    have hps:p<ops.size:=by have:=hc.le;omega
    have hin:p∈Region.ready .any ops listed:=mem_ready.2 ⟨by rw[mU (by omega) true false];exact hpf,ops[p],Array.getElem?_eq_getElem hps,fun e he hb=>
     hq e.on (hc.low p _ e.on (Array.getElem?_eq_getElem hps) (tL he hb))⟩
    rw[h0] at hin;cases hin
   ·obtain⟨hif,o,ho,hae⟩:=mem_ready.1 hi
    have his:i<ops.size:=(Array.getElem?_eq_some_iff.1 ho).1
    have hif':listed.getD i false=false:=by rw[mU (by omega) false true];exact hif
    have him:i<m:=by
     rcases Nat.lt_or_ge i m with h|h
     ·exact h
     ·exfalso
      rcases hc.tl i o h ho with⟨j,hj,hmj⟩|hcov
      ·obtain⟨e,he,hb,rfl⟩:=jz hj
       have:=hae e he hb
       rw[hp _ hmj] at this;cases this
      ·apply hl
       have key: ∀d p,m-p≤d→p<m→listed.getD p false=true:=by
        intro d
        induction d with
        |zero=>intro p hd hpm;omega
        |succ d ih2=>
         intro p hd hpm
         rcases hcov p hpm with hb|⟨q,oq,hpq,hqm,hoq,hb⟩
         ·obtain⟨e,he,hb2,e2⟩:=jz hb
          rw[←e2];exact hae e he hb2
         ·exact hcl q oq p (ih2 q (by omega) hqm) hoq hb
       exact fun p hpm=>key (m-p) p (Nat.le_refl _) hpm
    obtain⟨e,he⟩: ∃e,es[i]? =some e:=⟨es[i]'(by omega),List.getElem?_eq_getElem (by omega)⟩
    obtain⟨hsm,hce,hns,hrsi,hfr⟩:=hall i o e (hpre him ho) he
    have hwr: ∀(t j:Nat) u,(C8 (ops.toList.take m) es)[j]? =some u→u t≠none→ ∃oj ej,j<m∧ops[j]? =some oj∧es[j]? =some ej∧oj.dst=some t∧u=uT oj.dst ej:=by
     intro t j u hj hu
     obtain⟨oj,ej,h1,h2,rfl⟩:=mM _ hj
     refine⟨oj,ej,(hpre' h1).1,(hpre' h1).2,h2,?_,rfl⟩
     unfold uT at hu
     split at hu
     ·assumption
     ·exact absurd rfl hu
    have hwb: ∀(t j:Nat) u,(qW (ops.toList.take m) es)[j]? =some u→u t≠none→ ∃oj ej,j<m∧ops[j]? =some oj∧es[j]? =some ej∧((∃U cs sl,ej=.a U cs sl∧oj.dst=some t∧M0 t=none)∨(∃U cs,ej=.s t U cs)∨ ∃U cs x,ej=.rs t U cs x)∧u=uB oj.dst ej:=by
     intro t j u hj hu
     obtain⟨oj,ej,h1,h2,rfl⟩:=mM _ hj
     refine⟨oj,ej,(hpre' h1).1,(hpre' h1).2,h2,?_,rfl⟩
     rcases IC hu with⟨U,cs,sl,rfl,hd⟩|⟨U,cs,rfl⟩|⟨U,cs,x,rfl⟩
     ·refine .inl ⟨U,cs,sl,rfl,hd,?_⟩
      obtain⟨d,hd',hnone⟩:=(hall j oj _ h1 h2).2.2.2.2 U cs sl rfl
      have:d=t:=by rw[hd] at hd';injection hd' with e;exact e.symm
      subst this
      cases hM0:M0 d with
      |none=>rfl
      |some c=>exact absurd hnone (vK _ _ _ (by rw[hM0];simp) (hbs d))
     ·exact .inr (.inl ⟨U,cs,rfl⟩)
     ·exact .inr (.inr ⟨U,cs,x,rfl⟩)
    have hub: ∀(t j j':Nat) u u',(qW (ops.toList.take m) es)[j]? =some u→(qW (ops.toList.take m) es)[j']? =some u'→u t≠none→u' t≠none→j=j'∨(∀o',ops[j']? =some o'→j∈dc o')∨(∀o',ops[j]? =some o'→j'∈dc o')∨(nm ops=true∧(∀o',ops[j]? =some o'→ia o'=true)∧ ∀o',ops[j']? =some o'→ia o'=true):=by
     intro t j j' u u' hj hj' hu hu'
     obtain⟨oj,ej,hjm,hoj,hej,hk,_⟩:=hwb t j u hj hu
     obtain⟨oj',ej',hjm',hoj',hej',hk',_⟩:=hwb t j' u' hj' hu'
     have hrn: ∀(j:Nat) oj (U:TypeId) cs x,j<m→ops[j]? =some oj→es[j]? =some (.rs t U cs x)→M0 t≠none∧ia oj=true∧nm ops=true:=by
      intro j oj U cs x hjm hoj hej
      obtain⟨_,h2,_,h4,h5,_⟩:=(hall j oj _ (hpre hjm hoj) hej).2.2.2.1 t U cs x rfl
      refine⟨fun h=>?_,h4,h5⟩
      cases hB:B0 t with
      |none=>exact h2 hB
      |some c=>rw[hM t c hB] at h;cases h
     rcases hk with⟨U,cs,sl,rfl,hd,hn⟩|⟨U,cs,rfl⟩|⟨U,cs,x,rfl⟩<;>rcases hk' with⟨U',cs',sl',rfl,hd',hn'⟩|⟨U',cs',rfl⟩|⟨U',cs',x',rfl⟩
     ·exact .inl (hc.dist j j' oj oj' t hjm hjm' hoj hoj' hd hd')
     ·rcases hsM j' t U' cs' hej' with h|⟨j0,o0,U0,cs0,sl0,h1,h2,h3,h4,h5⟩
      ·exact absurd hn h
      ·rw[hc.dist j j0 oj o0 t hjm h1 hoj h2 hd h4];exact .inr (.inl h5)
     ·exact absurd hn (hrn j' oj' U' cs' x' hjm' hoj' hej').1
     ·rcases hsM j t U cs hej with h|⟨j0,o0,U0,cs0,sl0,h1,h2,h3,h4,h5⟩
      ·exact absurd hn' h
      ·rw[hc.dist j' j0 oj' o0 t hjm' h1 hoj' h2 hd' h4];exact .inr (.inr (.inl h5))
     ·rcases hdis j j' t U cs U' cs' hej hej' with h|h
      ·exact .inl h
      ·have s1:=((hall j oj _ (hpre hjm hoj) hej).2.2.1 t U cs rfl).2.2.2
       have s2:=((hall j' oj' _ (hpre hjm' hoj') hej').2.2.1 t U' cs' rfl).2.2.2
       rcases Nat.lt_trichotomy j j' with hlt|heq|hlt
       ·refine .inr (.inl fun o' h'=>?_)
        rw[hoj'] at h';injection h' with h';subst h';exact vH h hlt hoj hoj' s1 s2
       ·exact .inl heq
       ·refine .inr (.inr (.inl fun o' h'=>?_))
        rw[hoj] at h';injection h' with h';subst h';exact vH h hlt hoj' hoj s2 s1
     ·exact(hmix j j' t U cs U' cs' x' hej hej').elim
     ·exact absurd hn' (hrn j oj U cs x hjm hoj hej).1
     ·exact(hmix j' j t U' cs' U cs x hej' hej).elim
     ·refine .inr (.inr (.inr ⟨(hrn j oj U cs x hjm hoj hej).2.2,fun o' h=>?_,fun o' h=>?_⟩))
      ·rw[hoj] at h;injection h with h;subst h;exact(hrn j oj U cs x hjm hoj hej).2.1
      ·rw[hoj'] at h;injection h with h;subst h;exact(hrn j' oj' U' cs' x' hjm' hoj' hej').2.1
    have hi2:(qW (ops.toList.take m) es)[i]? =some (uB o.dst e):=by
     unfold qW
     rw[List.getElem?_zipWith,hpre him ho,he]
    have hrel: ∀(t j:Nat) u,(qW (ops.toList.take m) es)[j]? =some u→u t≠none→uB o.dst e t≠none→listed.getD j false=decide (j<i):=by
     intro t j u hj hu hi
     obtain⟨oj,ej,hjm,hoj,hej,_,_⟩:=hwb t j u hj hu
     rcases hub t j i u _ hj hi2 hu hi with h|h|h|⟨hch,hcj,hci⟩
     ·subst h;rw[hif'];simp
     ·have h1:=h o ho
      have h2:=hc.low i o j ho h1
      obtain⟨e',he',hb',rfl⟩:=jz h1
      rw[hae e' he' hb'];simpa using h2
     ·have h1:=h oj hoj
      have h2:=hc.low j oj i hoj h1
      have h3:listed.getD j false=false:=by
       cases hlj:listed.getD j false with
       |false=>rfl
       |true=>have:=hcl j oj i hlj hoj h1;rw[hif'] at this;cases this
      rw[h3];simp;omega
     ·by_cases hji:j=i
      ·subst hji;rw[hif'];simp
      ·rcases Nat.lt_or_gt_of_ne hji with hlt|hlt
       ·rw[GO hch hcl hlt hoj ho (hcj oj hoj) (hci o ho) (fun q hq=>by
         obtain⟨e',he',hb',rfl⟩:=jz hq
         exact hae e' he' hb')]
        simpa using hlt
       ·have h3:listed.getD j false=false:=by
         cases hlj:listed.getD j false with
         |false=>rfl
         |true=>have:=qS hch hcl j j i o oj (Nat.le_refl _) hlt ho hoj (hci o ho) (hcj oj hoj) hlj;rw[hif'] at this;cases this
        rw[h3];simp;omega
    have hmi: ∀j,(listed.setIfInBounds i true).getD j false=if j=i then true else listed.getD j false:=by
     intro j
     by_cases hji:j=i
     ·subst hji;simp[Array.getD,hsz,his]
     ·rw[if_neg hji,getD_set_ne false (fun e=>hji e.symm)]
    unfold wpOp
    rw[ho]
    have hsm2: ∃Bs:BF,Sem P ops o (jY (fun j=>decide (j<i)) 0 (C8 (ops.toList.take m) es) T0) Bs e∧ ∀k c,Bs k=some c→jY (fun j=>listed.getD j false) 0 (qW (ops.toList.take m) es) M0 k=some c:=by
     rcases hsm with hsm|⟨hvis,_,hsm⟩
     rotate_left
     ·refine⟨_,hsm,fun k c hB=>?_⟩
      rw[←hM k c hB]
      refine jp _ _ _ fun j u hj hm=>?_
      apply Classical.byContradiction
      intro hu
      rw[Nat.zero_add] at hm
      obtain⟨oj,ej,hjm,hoj,hej,hk2,_⟩:=hwb k j u hj hu
      have hno:Ex hs oj=true→False:=fun hw=>by
       have:=hcl j oj i hm hoj (Qb hvis ho hoj hw)
       rw[hif'] at this;cases this
      rcases hk2 with⟨U,cs,sl,rfl,hd,hn⟩|⟨U,cs,rfl⟩|⟨U,cs,x,rfl⟩
      ·rw[hM k c hB] at hn;cases hn
      ·exact hno (Nb ((hall j oj _ (hpre hjm hoj) hej).2.2.1 k U cs rfl).2.2.2)
      ·exact hno (GX ((hall j oj _ (hpre hjm hoj) hej).2.2.2.1 k U cs x rfl).2.2.2.1 ((hall j oj _ (hpre hjm hoj) hej).2.2.2.1 k U cs x rfl).2.2.2.2.2)
     refine⟨_,hsm,?_⟩
     intro k c hk
     have hplain:hid hs B0 k=some c→jY (fun j=>listed.getD j false) 0 (qW (ops.toList.take m) es) M0 k=some c:=by
      intro hk
      unfold hid at hk
      cases hb:hs.any (Nat.beq k) with
      |true=>rw[hb] at hk;cases hk
      |false=>
       rw[hb] at hk
       have hB:B0 k=some c:=hk
       rw[←hM k c hB]
       refine jp _ _ _ fun j u hj hm=>?_
       apply Classical.byContradiction
       intro hu
       obtain⟨oj,ej,hjm,hoj,hej,hk2,_⟩:=hwb k j u hj hu
       rcases hk2 with⟨U,cs,sl,rfl,hd,hn⟩|⟨U,cs,rfl⟩|⟨U,cs,x,rfl⟩
       ·rw[hM k c hB] at hn;cases hn
       ·have:=((hall j oj _ (hpre hjm hoj) hej).2.2.1 k U cs rfl).1
        rw[hb] at this;cases this
       ·have:=((hall j oj _ (hpre hjm hoj) hej).2.2.2.1 k U cs x rfl).1
        rw[hb] at this;cases this
     cases e with
     |s k' U cs=>
      replace hk:(bif Nat.beq k k' then jY (fun j=>decide (j<i)) 0 (qW (ops.toList.take m) es) M0 k else hid hs B0 k)=some c:=hk
      cases hb:Nat.beq k k' with
      |false=>rw[hb] at hk;exact hplain hk
      |true=>
       rw[hb] at hk
       have hkk:=Nat.eq_of_beq_eq_true hb
       subst hkk
       replace hk:jY (fun j=>decide (j<i)) 0 (qW (ops.toList.take m) es) M0 k=some c:=hk
       rw[←hk]
       refine ip _ _ _ _ rfl fun j u hj hu=>?_
       rw[Nat.zero_add]
       exact hrel k j u hj hu (by unfold uB;simp)
     |rs k' U cs x=>
      replace hk:(bif Nat.beq k k' then jY (fun j=>decide (j<i)) 0 (qW (ops.toList.take m) es) M0 k else hid hs B0 k)=some c:=hk
      cases hb:Nat.beq k k' with
      |false=>rw[hb] at hk;exact hplain hk
      |true=>
       rw[hb] at hk
       have hkk:=Nat.eq_of_beq_eq_true hb
       subst hkk
       replace hk:jY (fun j=>decide (j<i)) 0 (qW (ops.toList.take m) es) M0 k=some c:=hk
       rw[←hk]
       refine ip _ _ _ _ rfl fun j u hj hu=>?_
       rw[Nat.zero_add]
       exact hrel k j u hj hu (by unfold uB;simp)
     |r x=>exact hplain hk
     |a U cs sl=>exact hplain hk
     |c k x=>exact hplain hk
     |skip=>exact hplain hk
    obtain⟨Bs,hsm3,hBs⟩:=hsm2
    refine hr.step hsm3 (fun t ht=>hc.dn i o t ho ht) ?_ hBs ?_ (fun β' a' w' hr'=>?_)
    ·intro t x hlk hx
     rw[←hx]
     refine(ip _ _ _ _ rfl fun j u hj hu=>?_)
     obtain⟨oj,ej,hjm,hoj,_,hdj,_⟩:=hwr t j u hj hu
     rw[Nat.zero_add]
     by_cases hji:j=i
     ·subst hji;rw[hif'];simp
     ·rcases hc.dep i j o oj t him hjm (fun e=>hji e.symm) ho hoj hdj hlk with hb|hb
      ·have hji2:=hc.low i o j ho hb
       obtain⟨e',he',hb',rfl⟩:=jz hb
       rw[hae e' he' hb'];simpa using hji2
      ·have hji2:=hc.low j oj i hoj hb
       have h1:listed.getD j false=false:=by
        cases hlj:listed.getD j false with
        |false=>rfl
        |true=>have:=hcl j oj i hlj hoj hb;rw[hif'] at this;cases this
       rw[h1];simp;omega
    ·intro U cs sl hE
     obtain⟨d,hd,hnone⟩:=hfr U cs sl hE
     refine⟨d,hd,?_⟩
     rw[←hnone]
     refine ip _ _ _ _ rfl fun j u hj hu=>?_
     rw[Nat.zero_add]
     exact hrel d j u hj hu (by rw[hE];unfold uB;dsimp only;rw[if_pos hd];simp)
    ·refine ih (listed.setIfInBounds i true) β' a' w' (by simpa using hsz) (by have:=zK (listed:=listed) (i:=i) (by omega) hif;omega) ?_ ?_ ?_
     ·intro i' o' j' h1 h2 h3
      rw[hmi] at h1⊢
      by_cases hji:j'=i
      ·rw[if_pos hji]
      ·rw[if_neg hji]
       by_cases hii:i'=i
       ·subst hii
        rw[ho] at h2
        injection h2 with h2
        subst h2
        obtain⟨e',he',hb',rfl⟩:=jz h3
        exact hae e' he' hb'
       ·rw[if_neg hii] at h1
        exact hcl i' o' j' h1 h2 h3
     ·intro t ht
      rw[hmi,if_neg (by omega)]
      exact hp t ht
     ·refine hr'.congr (fun t=>?_) (fun k=>?_)
      ·rw[show e.tf o.dst (jY (fun j=>listed.getD j false) 0 (C8 (ops.toList.take m) es) T0) t=(uT o.dst e t).getD (jY (fun j=>listed.getD j false) 0 (C8 (ops.toList.take m) es) T0 t) from(congrFun (Lu o.dst e _ hce) t).symm]
       by_cases hdt:o.dst=some t
       ·rw[show uT o.dst e t=some (some (Sb t e)) from by unfold uT;rw[if_pos hdt]]
        show _=some (Sb t e)
        refine FW (u:=uT o.dst e) _ _ _ i ?_ ?_ ?_ ?_
        ·unfold C8
         rw[List.getElem?_zipWith,hpre him ho,he]
        ·unfold uT;rw[if_pos hdt]
        ·rw[Nat.zero_add,hmi,if_pos rfl]
        ·intro j' u' hj' hne
         cases hu':u' t with
         |none=>rfl
         |some x'=>
          obtain⟨oj',ej',hjm',hoj',_,hdj',_⟩:=hwr t j' u' hj' (by rw[hu'];simp)
          exact absurd (hc.dist j' i oj' o t hjm' him hoj' ho hdj' hdt) hne
       ·rw[show uT o.dst e t=none from by unfold uT;rw[if_neg hdt]]
        show _=jY (fun j=>listed.getD j false) 0 (C8 (ops.toList.take m) es) T0 t
        refine ip _ _ _ _ rfl fun j u hj hu=>?_
        obtain⟨oj,ej,hjm,hoj,_,hdj,_⟩:=hwr t j u hj hu
        rw[Nat.zero_add,hmi,if_neg]
        intro e;subst e
        rw[ho] at hoj;injection hoj with hoj;subst hoj
        exact hdt hdj
      ·rw[show e.bf o.dst (jY (fun j=>listed.getD j false) 0 (qW (ops.toList.take m) es) M0) k=(uB o.dst e k).getD (jY (fun j=>listed.getD j false) 0 (qW (ops.toList.take m) es) M0 k) from(congrFun (Ix o.dst e _ hce) k).symm]
       cases hu:uB o.dst e k with
       |some x=>
        show _=x
        refine AM (u:=uB o.dst e) _ _ _ i hi2 hu ?_ ?_
        ·rw[Nat.zero_add,hmi,if_pos rfl]
        ·intro j' u' hj' hlt hmj
         cases hu':u' k with
         |none=>rfl
         |some x'=>
          have:=hrel k j' u' hj' (by rw[hu'];simp) (by rw[hu];simp)
          rw[Nat.zero_add,hmi,if_neg (by omega),this] at hmj
          simp at hmj;omega
       |none=>
        show _=jY (fun j=>listed.getD j false) 0 (qW (ops.toList.take m) es) M0 k
        refine ip _ _ _ _ rfl fun j u hj hu2=>?_
        obtain⟨oj,ej,hjm,hoj,hej,_,rfl⟩:=hwb k j u hj hu2
        rw[Nat.zero_add,hmi,if_neg]
        intro e2;subst e2
        rw[ho] at hoj;injection hoj with hoj;subst hoj
        rw[he] at hej;injection hej with hej;subst hej
        exact hu2 hu
end
def nv (P:Program) (U:TypeId):Option (Bool×Nat):=
 match P.underlying U,P.info? U with
 |some d,some i=>some ((match d with| .struct _| .array _ _=>true|_=>false),i.size)
 |_,_=>none
def Mb (P:Program) (U:TypeId) (f:Nat):Option Nat:=
 match P.underlying U with
 |some (.struct fs)=>match fs[f]? with
  |some fd=>match P.info? fd.type with
   |some i=>if Nat.beq i.size 0 then none else some fd.offset
   |none=>none
  |none=>none
 |_=>none
def Ep (P:Program) (U:TypeId):Option (List (Nat×Nat)):=
 match P.underlying U with
 |some (.struct fs)=>fs.toList.mapM fun fd=>(P.info? fd.type).map fun i=>(fd.offset,i.size)
 |_=>none
def mz:Value→Option CellD
 | .bool b=>some (.b b)
 | .int k n=>some (.i k n)
 | .slice none 0 0=>some (.s 0 [])
 |_=>none
def Qw:Value→Option D0
 | .agg cs=>(cs.toList.mapM mz).map .a
 |v=>(mz v).map .c
def zn (P:Program) (U:TypeId):Option (List CellD):=
 match P.info? U with
 |some i=>match i.zero with
  |some z=>(Qw z).map D0.cells
  |none=>none
 |none=>none
def di (T:TF):Operand→Option DV
 | .tmp t=>T t
 | .const v=>(Qw v).map .v
 | .func g=>some (.v (.c (.f g)))
 | .global _=>none
def gd (ops:Array Oper) (o:Oper) (T:TF):Option Bool:=
 match o.guard with
 |none=>some true
 |some (g,b)=>match (ops[g]?).bind (·.dst) with
  |some t=>match T t with
   |some (.v (.c (.b v)))=>some (v==b)
   |some .u=>some false
   |_=>none
  |none=>some false
section
variable {P:Program}{ops:Array Oper}{o:Oper}{T:TF}{B:BF}{V:Nat→Prop}{β:Nat→Nat}{a:Act}{w:World}
theorem tN {v:Value}{u:CellD}(h:mz v=some u):RdC V w v u:=by
 cases v with
 |bool b=>simp[mz] at h;subst h;exact .b b
 |int k n=>simp[mz] at h;subst h;exact .i k n
 |slice A n c=>
  cases A with
  |some A=>simp[mz] at h
  |none=>
   cases n with
   |zero=>
    cases c with
    |zero=>simp[mz] at h;subst h;exact .s0 none 0 (by omega)
    |succ c=>simp[mz] at h
   |succ n=>simp[mz] at h
 |_=>simp[mz] at h
theorem mapM_cons {α γ:Type}(f:α→Option γ) (x:α) (l:List α):(x::l).mapM f=(f x).bind fun y=>(l.mapM f).bind fun ys=>some (y::ys):=by
 rw[List.mapM_cons];rfl
theorem rX: ∀(vs:List Value) (us:List CellD),vs.mapM mz=some us→RdCs V w vs us
 |[],us,h=>by
  have:us=[]:=by simpa [List.mapM_nil] using h.symm
  subst this;exact RdCs.nil
 |v::vs,us,h=>by
  rw[mapM_cons] at h
  cases h1:mz v with
  |none=>rw[h1] at h;cases h
  |some u=>
   cases h2:vs.mapM mz with
   |none=>rw[h1,h2] at h;cases h
   |some us'=>
    rw[h1,h2] at h
    injection h with h
    subst h
    exact RdCs.cons (tN h1) (rX vs us' h2)
theorem xU {v:Value}{d:D0}(h:Qw v=some d):RdV V w v d:=by
 unfold Qw at h
 split at h
 ·rename_i cs
  cases h1:cs.toList.mapM mz with
  |none=>rw[h1] at h;cases h
  |some us=>rw[h1] at h;injection h with h;subst h;exact⟨cs,rfl,rX _ _ h1⟩
 ·cases h1:mz v with
  |none=>rw[h1] at h;cases h
  |some u=>rw[h1] at h;injection h with h;subst h;exact tN h1
theorem aS (hs:Sees V (gy ops o) T B β a w) {x:Operand}{dv:DV}(hx:x∈o.op.operands) (h:di T x=some dv):RdX V w β (a.eval x) dv:=by
 cases x with
 |tmp t=>
  have hl:gy ops o t:=List.mem_append_left _ (List.mem_filterMap.2 ⟨.tmp t,by simpa using hx,rfl⟩)
  obtain⟨v,e,hr⟩:=hs.tmp t dv hl h
  have:a.eval (.tmp t)=v:=by
   show a.tmps.getD t undef=v
   obtain⟨hlt,e⟩:=Array.getElem?_eq_some_iff.1 e
   simp[Array.getD,hlt,e]
  rw[this];exact hr
 |const v=>
  cases h1:Qw v with
  |none=>simp[di,h1] at h
  |some d=>simp[di,h1] at h;subst h;exact xU h1
 |func g=>simp[di] at h;subst h;exact .f g
 |global g=>simp[di] at h
theorem mX {x:Operand}{y:DV}{k:Nat}(hx:x∈o.op.operands) (h:di T x=some y) (hy:iB y=some k): ∃t y,gy ops o t∧T t=some y∧iB y=some k:=by
 cases x with
 |tmp t=>exact⟨t,y,List.mem_append_left _ (List.mem_filterMap.2 ⟨.tmp t,by simpa using hx,rfl⟩),h,hy⟩
 |const v=>
  cases h1:Qw v with
  |none=>simp[di,h1] at h
  |some d=>simp[di,h1] at h;subst h;cases hy
 |func g=>simp[di] at h;subst h;cases hy
 |global g=>simp[di] at h
theorem d8 (hs:Sees V (gy ops o) T B β a w) {r:Bool}(h:gd ops o T=some r):xk o ops a=r:=by
 unfold gd at h
 unfold xk Region.wanted
 cases hg:o.guard with
 |none=>rw[hg] at h;simpa using h
 |some gb=>
  obtain⟨g,b⟩:=gb
  rw[hg] at h
  dsimp only at h⊢
  unfold yielded
  cases ht:(ops[g]?).bind (·.dst) with
  |none=>rw[ht] at h;simpa using h
  |some t=>
   rw[ht] at h
   dsimp only at h
   have hl:gy ops o t:=List.mem_append_right _ (by rw[hg];simp[ht])
   cases hT:T t with
   |none=>rw[hT] at h;cases h
   |some dv=>
    rw[hT] at h
    obtain⟨v,e,hr⟩:=hs.tmp t dv hl hT
    simp only[Option.bind_some,e]
    match dv,h,hr with
    | .v (.c (.b c)),h,hr=>
      cases hr
      have h2:=Option.some.inj h
      rw[←h2]
      rfl
    | .u,h,hr=>
      have hr:v=undef:=hr
      subst hr
      have h2:=Option.some.inj h
      rw[←h2]
      rfl
theorem RdC.int_eq {v:Value}{k:IntKind}{m:Int}(h:RdC V w v (.i k m)):v=.int k m:=by cases h;rfl
theorem RdC.bool_eq {v:Value}{b:Bool}(h:RdC V w v (.b b)):v=.bool b:=by cases h;rfl
theorem RdC.func_eq {v:Value}{g:FuncId}(h:RdC V w v (.f g)):v=.func (.func g) #[] #[]:=by cases h;rfl
theorem bO {x:DV}(hg:gd ops o T=some true) (hp: ∀k,iB x=some k→ ∃t y,gy ops o t∧T t=some y∧iB y=some k)
 (h: ∀V β a w,Sees V (gy ops o) T B β a w→ ∃v,(execOp a.eval o).run P w=.ok (.value v) w∧RdX V w β v x):Sem P ops o T B (.r x):=
 ⟨hp,fun V β a w hs=>⟨d8 hs hg,by
  obtain⟨v,e,hr⟩:=h V β a w hs
  unfold Gives
  rw[e]
  exact⟨hr,Below.refl _ _⟩⟩⟩
theorem LV (hg:gd ops o T=some false):Sem P ops o T B .skip:=fun _ _ _ _ hs=>d8 hs hg
theorem mG {x:DV}(h:iB x=none): ∀k,iB x=some k→ ∃t y,gy ops o t∧T t=some y∧iB y=some k:=fun k e=>by rw[h] at e;cases e
theorem s6 {U:TypeId}{b:Bool}{n:Nat}(h:nv P U=some (b,n)) (w:World):(isAgg U).run P w=.ok b w∧(sizeOf U).run P w=.ok n w:=by
 unfold nv at h
 cases hu:P.underlying U with
 |none=>rw[hu] at h;cases h
 |some d=>
  cases hi:P.info? U with
  |none=>rw[hu,hi] at h;cases h
  |some i=>
   rw[hu,hi] at h
   injection h with h
   injection h with h1 h2
   constructor
   ·unfold isAgg
    simp only[Sem.run_bind,run_underlying hu,Result.andThen_ok]
    rw[←h1]
    cases d<;>rfl
   ·unfold sizeOf typeInfo
    simp[program,Sem.run,hi,←h2]
theorem jb (b o k:Nat):(⟨b,o,none⟩:Addr).add k=⟨b,o+k,none⟩:=by unfold Addr.add;split<;>simp_all
theorem jv {U:TypeId}{n:Nat}(h:nv P U=some (true,n)) {b off:Nat}{vs:List Value}(hl:vs.length=n) (hc: ∀(j:Nat) (v:Value),vs[j]? =some v→w.cell? ⟨b,off+j,none⟩=some v):
 (loadVar U ⟨b,off,none⟩).run P w=.ok (.agg vs.toArray) w:=by
 obtain⟨h1,h2⟩:=s6 h w
 have h3:=run_loadCells_list (P:=P) w ⟨b,off,none⟩ vs (fun j v hv=>by rw[jb];exact hc j v hv)
 unfold loadVar
 simp only[Sem.run_bind,h1,Result.andThen_ok,if_true,h2]
 rw[←hl,h3]
 rfl
theorem js {U:TypeId}{n:Nat}(h:nv P U=some (false,n)) {b off:Nat}{v:Value}(hc:w.cell? ⟨b,off,none⟩=some v):
 (loadVar U ⟨b,off,none⟩).run P w=.ok v w:=by
 obtain⟨h1,_⟩:=s6 h w
 unfold loadVar
 simp only[Sem.run_bind,h1,Result.andThen_ok]
 simp[hc]
theorem cE {b:Nat}{U:TypeId}{vs:Array Value}(h:w.heap[b]? =some (.cells vs U (0,0))) (j:Nat):w.cell? ⟨b,j,none⟩=vs[j]? :=cell_of_row w b j vs U (0,0) h
theorem Ce {x:Operand}{dv:DV}
 (hx:di T x=some dv) (hg:gd ops ⟨dst,.move x,ty,pos,af,g⟩ T=some true):Sem P ops ⟨dst,.move x,ty,pos,af,g⟩ T B (.r dv):=
 bO hg (fun k e=>mX (ops:=ops) (o:=⟨dst,.move x,ty,pos,af,g⟩) (by simp[Op.operands]) hx e)
  (fun V β a w hs=>⟨a.eval x,rfl,aS hs (by simp[Op.operands]) hx⟩)
theorem Dx {x:Operand}{dv:DV}
 (hx:di T x=some dv) (hg:gd ops ⟨dst,.assign x,ty,pos,af,g⟩ T=some true):Sem P ops ⟨dst,.assign x,ty,pos,af,g⟩ T B (.r dv):=
 bO hg (fun k e=>mX (ops:=ops) (o:=⟨dst,.assign x,ty,pos,af,g⟩) (by simp[Op.operands]) hx e)
  (fun V β a w hs=>⟨a.eval x,rfl,aS hs (by simp[Op.operands]) hx⟩)
theorem aA {U:TypeId}{x:Operand}{k off n:Nat}{W:TypeId}{cs us:List CellD}
 (hU:nv P U=some (true,n)) (hx:di T x=some (.p k off)) (hb:B k=some (W,cs)) (hu:(cs.drop off).take n=us) (hn:us.length=n) (hg:gd ops ⟨dst,.load U x,ty,pos,af,g⟩ T=some true):
 Sem P ops ⟨dst,.load U x,ty,pos,af,g⟩ T B (.r (.v (.a us))):=
 bO hg (mG rfl) (fun V β a w hs=>by
  have hp:a.eval x=.pointer (some ⟨β k,off,none⟩):=aS hs (by simp[Op.operands]) hx
  obtain⟨_,vs,e,hr⟩:=hs.box k W cs hb
  have hr2:=(hr.drop off).take n
  rw[hu] at hr2
  have hrun:=jv (w:=w) hU (b:=β k) (off:=off) (vs:=(vs.toList.drop off).take n) (by rw[hr2.1,hn]) (fun j v hv=>by
   rw[List.getElem?_take] at hv
   split at hv
   ·rw[cE e,←hv];simp
   ·cases hv)
  refine⟨_,?_,_,rfl,by simpa using hr2⟩
  simp only[execOp,Instr.loadAt,hp,Instr.sureAddr,Sem.run_bind,Sem.run_pure,Result.andThen_ok,hrun])
theorem bE {U:TypeId}{x:Operand}{k off n:Nat}{W:TypeId}{cs:List CellD}{u:CellD}
 (hU:nv P U=some (false,n)) (hx:di T x=some (.p k off)) (hb:B k=some (W,cs)) (hu:cs[off]? =some u) (hg:gd ops ⟨dst,.load U x,ty,pos,af,g⟩ T=some true):
 Sem P ops ⟨dst,.load U x,ty,pos,af,g⟩ T B (.r (.v (.c u))):=
 bO hg (mG rfl) (fun V β a w hs=>by
  have hp:a.eval x=.pointer (some ⟨β k,off,none⟩):=aS hs (by simp[Op.operands]) hx
  obtain⟨_,vs,e,hr⟩:=hs.box k W cs hb
  have hlt:off<cs.length:=(List.getElem?_eq_some_iff.1 hu).1
  have hv:vs.toList[off]? =some (vs.toList[off]'(by rw[hr.1];exact hlt)):=List.getElem?_eq_getElem _
  have hrun:=js (P:=P) (w:=w) hU (b:=β k) (off:=off) (by rw[cE e,←Array.getElem?_toList,hv])
  refine⟨_,?_,hr.2 off _ _ hv hu⟩
  simp only[execOp,Instr.loadAt,hp,Instr.sureAddr,Sem.run_bind,Sem.run_pure,Result.andThen_ok,hrun])
theorem bb {U:TypeId}{x:Operand}{n:Nat}{cs us:List CellD}
 (hU:nv P U=some (true,n)) (hx:di T x=some (.q cs)) (hu:cs.take n=us) (hn:us.length=n) (hg:gd ops ⟨dst,.load U x,ty,pos,af,g⟩ T=some true):
 Sem P ops ⟨dst,.load U x,ty,pos,af,g⟩ T B (.r (.v (.a us))):=
 bO hg (mG rfl) (fun V β a w hs=>by
  obtain⟨b,off,vs,hp,_,_,hr,hc⟩:=aS hs (by simp[Op.operands]) hx
  have hr2:=hr.take n
  rw[hu] at hr2
  have hrun:=jv (w:=w) hU (b:=b) (off:=off) (vs:=vs.take n) (by rw[hr2.1,hn]) (fun j v hv=>by
   rw[List.getElem?_take] at hv
   split at hv
   ·exact hc j v hv
   ·cases hv)
  refine⟨_,?_,_,rfl,by simpa using hr2⟩
  simp only[execOp,Instr.loadAt,hp,Instr.sureAddr,Sem.run_bind,Sem.run_pure,Result.andThen_ok,hrun])
theorem cU {U:TypeId}{x:Operand}{n:Nat}{cs:List CellD}{u:CellD}
 (hU:nv P U=some (false,n)) (hx:di T x=some (.q cs)) (hu:cs[0]? =some u) (hg:gd ops ⟨dst,.load U x,ty,pos,af,g⟩ T=some true):
 Sem P ops ⟨dst,.load U x,ty,pos,af,g⟩ T B (.r (.v (.c u))):=
 bO hg (mG rfl) (fun V β a w hs=>by
  obtain⟨b,off,vs,hp,_,_,hr,hc⟩:=aS hs (by simp[Op.operands]) hx
  have hlt:0<cs.length:=(List.getElem?_eq_some_iff.1 hu).1
  have hv:vs[0]? =some (vs[0]'(by rw[hr.1];exact hlt)):=List.getElem?_eq_getElem _
  have hrun:=js (P:=P) (w:=w) hU (b:=b) (off:=off) (by have:=hc 0 _ hv;simpa using this)
  refine⟨_,?_,hr.2 0 _ _ hv hu⟩
  simp only[execOp,Instr.loadAt,hp,Instr.sureAddr,Sem.run_bind,Sem.run_pure,Result.andThen_ok,hrun])
theorem zh {U:TypeId}{f o':Nat}(h:Mb P U f=some o'): ∃fs fd,P.underlying U=some (.struct fs)∧fs[f]? =some fd∧fd.offset=o'∧ ∀(a:Addr) (w:World),(fieldPlace a fd).run P w=.ok (a.add o') w:=by
 unfold Mb at h
 cases hu:P.underlying U with
 |none=>rw[hu] at h;cases h
 |some d=>
  rw[hu] at h
  cases d with
  |struct fs=>
   dsimp only at h
   cases hf:fs[f]? with
   |none=>rw[hf] at h;cases h
   |some fd=>
    rw[hf] at h
    dsimp only at h
    cases hi:P.info? fd.type with
    |none=>rw[hi] at h;cases h
    |some i=>
     rw[hi] at h
     dsimp only at h
     split at h
     ·cases h
     ·rename_i hz
      injection h with h
      have hz2:i.size≠0:=fun e=>hz (by rw[e];rfl)
      refine⟨fs,fd,rfl,hf,h,fun a w=>?_⟩
      unfold fieldPlace sizeOf typeInfo
      simp[program,Sem.run,hi,hz2,h]
  |_=>cases h
theorem GQ {U:TypeId}{x:Operand}{f:Nat}{k off o':Nat}
 (hU:Mb P U f=some o') (hx:di T x=some (.p k off)) (hg:gd ops ⟨dst,.fieldAddr U x f,ty,pos,af,g⟩ T=some true):
 Sem P ops ⟨dst,.fieldAddr U x f,ty,pos,af,g⟩ T B (.r (.p k (off+o'))):=
 bO hg (fun k' e=>mX (ops:=ops) (o:=⟨dst,.fieldAddr U x f,ty,pos,af,g⟩) (by simp[Op.operands]) hx e)
  (fun V β a w hs=>by
   have hp:a.eval x=.pointer (some ⟨β k,off,none⟩):=aS hs (by simp[Op.operands]) hx
   obtain⟨fs,fd,h1,h2,h3,h4⟩:=zh hU
   refine⟨.pointer (some ⟨β k,off+o',none⟩),?_,rfl⟩
   simp only[execOp,Instr.fieldAt,hp,Instr.sureAddr,Sem.run_bind,Sem.run_pure,Result.andThen_ok,run_underlying h1,h2,h4,jb])
theorem wD {U:TypeId}{x:Operand}{f:Nat}{o':Nat}{cs us:List CellD}
 (hU:Mb P U f=some o') (hx:di T x=some (.q cs)) (hu:cs.drop o'=us) (hg:gd ops ⟨dst,.fieldAddr U x f,ty,pos,af,g⟩ T=some true):
 Sem P ops ⟨dst,.fieldAddr U x f,ty,pos,af,g⟩ T B (.r (.q us)):=
 bO hg (mG rfl) (fun V β a w hs=>by
  obtain⟨b,off,vs,hp,hb,hv,hr,hc⟩:=aS hs (by simp[Op.operands]) hx
  obtain⟨fs,fd,h1,h2,h3,h4⟩:=zh hU
  refine⟨.pointer (some ⟨b,off+o',none⟩),?_,b,off+o',vs.drop o',rfl,hb,hv,by rw[←hu];exact hr.drop o',fun j u hj=>?_⟩
  ·simp only[execOp,Instr.fieldAt,hp,Instr.sureAddr,Sem.run_bind,Sem.run_pure,Result.andThen_ok,run_underlying h1,h2,h4,jb]
  ·rw[List.getElem?_drop] at hj
   rw[Nat.add_assoc];exact hc (o'+j) u hj)
theorem CK {x:Operand}{i:Nat}{ds:List D0}{d:D0}
 (hx:di T x=some (.t ds)) (hd:ds[i]? =some d) (hg:gd ops ⟨dst,.extract x i,ty,pos,af,g⟩ T=some true):
 Sem P ops ⟨dst,.extract x i,ty,pos,af,g⟩ T B (.r (.v d)):=
 bO hg (mG rfl) (fun V β a w hs=>by
  obtain⟨vs,hp,hr⟩:=aS hs (by simp[Op.operands]) hx
  have hlt:i<ds.length:=(List.getElem?_eq_some_iff.1 hd).1
  have hv:vs.toList[i]? =some (vs.toList[i]'(by rw[hr.1];exact hlt)):=List.getElem?_eq_getElem _
  refine⟨_,?_,hr.2 i _ d hv hd⟩
  rw[Array.getElem?_toList] at hv
  simp only[execOp,hp,Instr.extract,hv,Sem.run_bind,Sem.run_pure,Result.andThen_ok])
def MP:BinOp→Int→Int→Option Bool
 | .eql,x,y=>some (x==y)
 | .neq,x,y=>some (x !=y)
 | .lss,x,y=>some (decide (x<y))
 | .leq,x,y=>some (decide (x≤y))
 | .gtr,x,y=>some (decide (x>y))
 | .geq,x,y=>some (decide (x≥y))
 |_,_,_=>none
theorem FI {op:BinOp}{xt yt:TypeId}{x y:Operand}{k:IntKind}{m n:Int}{b:Bool}
 (hx:di T x=some (.v (.c (.i k m)))) (hy:di T y=some (.v (.c (.i k n)))) (hb:MP op m n=some b) (hg:gd ops ⟨dst,.binOp op xt x y yt,ty,pos,af,g⟩ T=some true):
 Sem P ops ⟨dst,.binOp op xt x y yt,ty,pos,af,g⟩ T B (.r (.v (.c (.b b)))):=
 bO hg (mG rfl) (fun V β a w hs=>by
  have h1:=aS hs (x:=x) (by simp[Op.operands]) hx
  have h2:=aS hs (x:=y) (by simp[Op.operands]) hy
  have e1:a.eval x=.int k m:=RdC.int_eq h1
  have e2:a.eval y=.int k n:=RdC.int_eq h2
  refine⟨.bool b,?_,.b b⟩
  cases op<;>simp[MP] at hb<;>subst hb<;>simp[execOp,e1,e2,eqGuard,binOp,Op.intCmp])
def xu:BinOp→IntKind→Int→Int→Option Int
 | .add,k,x,y=>some (k.wrap (x+y))
 | .sub,k,x,y=>some (k.wrap (x-y))
 | .mul,k,x,y=>some (k.wrap (x*y))
 |_,_,_,_=>none
theorem aK {op:BinOp}{xt yt:TypeId}{x y:Operand}{k:IntKind}{m n r:Int}
 (hx:di T x=some (.v (.c (.i k m)))) (hy:di T y=some (.v (.c (.i k n)))) (hb:xu op k m n=some r) (hg:gd ops ⟨dst,.binOp op xt x y yt,ty,pos,af,g⟩ T=some true):
 Sem P ops ⟨dst,.binOp op xt x y yt,ty,pos,af,g⟩ T B (.r (.v (.c (.i k r)))):=
 bO hg (mG rfl) (fun V β a w hs=>by
  have h1:=aS hs (x:=x) (by simp[Op.operands]) hx
  have h2:=aS hs (x:=y) (by simp[Op.operands]) hy
  have e1:a.eval x=.int k m:=RdC.int_eq h1
  have e2:a.eval y=.int k n:=RdC.int_eq h2
  refine⟨.int k r,?_,.i k r⟩
  cases op<;>simp[xu] at hb<;>subst hb<;>simp[execOp,e1,e2,eqGuard,binOp,Op.intArith])
theorem NT {xt:TypeId}{x:Operand}{b:Bool}
 (hx:di T x=some (.v (.c (.b b)))) (hg:gd ops ⟨dst,.unOp .not xt x,ty,pos,af,g⟩ T=some true):
 Sem P ops ⟨dst,.unOp .not xt x,ty,pos,af,g⟩ T B (.r (.v (.c (.b (!b))))):=
 bO hg (mG rfl) (fun V β a w hs=>by
  have h1:=aS hs (x:=x) (by simp[Op.operands]) hx
  have e1:a.eval x=.bool b:=RdC.bool_eq h1
  exact⟨.bool (!b),by simp[execOp,e1,Op.unary],.b _⟩)
theorem Oe {xt:TypeId}{x:Operand}{k:IntKind}{m:Int}
 (hx:di T x=some (.v (.c (.i k m)))) (hg:gd ops ⟨dst,.unOp .neg xt x,ty,pos,af,g⟩ T=some true):
 Sem P ops ⟨dst,.unOp .neg xt x,ty,pos,af,g⟩ T B (.r (.v (.c (.i k (k.wrap (0-m)))))):=
 bO hg (mG rfl) (fun V β a w hs=>by
  have h1:=aS hs (x:=x) (by simp[Op.operands]) hx
  have e1:a.eval x=.int k m:=RdC.int_eq h1
  exact⟨.int k (k.wrap (0-m)),by simp[execOp,e1,Op.unary,Op.intArith],.i _ _⟩)
theorem AI {c x y:Operand}{b:Bool}{dv:DV}
 (hc:di T c=some (.v (.c (.b b)))) (hx:di T (if b then x else y)=some dv) (hp:iB dv=none) (hg:gd ops ⟨dst,.pick c x y,ty,pos,af,g⟩ T=some true):
 Sem P ops ⟨dst,.pick c x y,ty,pos,af,g⟩ T B (.r dv):=
 bO hg (mG hp) (fun V β a w hs=>by
  have h1:=aS hs (x:=c) (by simp[Op.operands]) hc
  have e1:a.eval c=.bool b:=RdC.bool_eq h1
  have h2:=aS hs (x:=if b then x else y) (by cases b<;>simp[Op.operands]) hx
  refine⟨_,?_,h2⟩
  cases b<;>simp[execOp,e1,asBool])
end
end Go.Proofs.YtkmdgigkbhmilaaGreat
