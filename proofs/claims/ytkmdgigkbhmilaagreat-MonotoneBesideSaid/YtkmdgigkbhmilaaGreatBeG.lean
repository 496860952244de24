/-Data:what is simple runs by itself between two steps of a walk. -/
import Derived.Test.YtkmdgigkbhmilaaGreatBeF
namespace Go.Proofs.YtkmdgigkbhmilaaGreat
open Go Go.RowKit
variable {ops:Array Oper}{B:BF}{b neg:Bool}{x:DV}{R S V a c d m r u v:Int}{p q rs us vs xs ys zs:List Int}{l:List Oper}{N i id j k n t:Nat}{op:Op}{s:SA}{pos:String}{T:TF}{U ty:TypeId}
variable {af:Array Edge}{g:Option (Nat×Bool)}{dst:Option Nat}
theorem fD:type_of% @Ok.fn:=@Ok.fn
theorem iw:type_of% @Sz.small:=@Sz.small
theorem mH:type_of% @Int.mul_zero:=@Int.mul_zero
theorem qu:type_of% @Dw.weak:=@Dw.weak
theorem tT:type_of% @List.forall_mem_cons:=@List.forall_mem_cons
theorem tK:type_of% @Int.tdiv_eq_ediv_of_nonneg:=@Int.tdiv_eq_ediv_of_nonneg
class TaC (P:Program) where
 b:Tb
 zc:List (Nat×List CellD)
 op:Nat→Bool
 ok:TbOk P b
 zk: ∀U zs,aM U zc=some zs→CW P U=some zs
 mo:P.follows .mixedOrders=true
theorem Hr {α:Type}{x:α}: ∀ {l:List (Nat×α)},aM t l=some x→(t,x)∈l
 |[],h=>by cases h
 |(k,y)::r,h=>by
  unfold aM at h
  cases e:Nat.beq k t with
  |true=>rw[e] at h;cases h;rw[jr e];exact j5
  |false=>rw[e] at h;exact iY _ (Hr h)
theorem X7 {P:Program}{l:List (Nat×List CellD)}(h: ∀p∈l,CW P p.1=some p.2): ∀U zs,aM U l=some zs→CW P U=some zs:=fun _U _zs e=>h _ (Hr e)
section
variable (P:Program) [C:TaC P]
def NW (T:TF) (B:BF):Op→Option SA
 | .load U x=>match dc T x with
   |some (.p k off)=>match B k,C.b.ty U with
    |some (W,cs),some (true,n)=>bif C.op W then none else bif Nat.beq off 0&&Nat.beq cs.length n then some (.v (.v (.a cs))) else
     bif Nat.ble (off+n) cs.length&&Nat.ble cs.length 24 then some (.v (.v (.a ((cs.drop off).take n)))) else none
    |some (W,cs),some (false,_)=>bif C.op W then none else match cs[off]? with
     |some u=>some (.v (.v (.c u)))
     |none=>none
    |_,_=>none
   |_=>none
 | .store U ax x=>match dc T ax,dc T x,C.b.ty U with
   |some (.p k off),some (.v (.a us)),some (true,m)=>match B k with
    |some (W,cs)=>bif C.op W then none else bif Nat.beq off 0&&Nat.beq us.length m&&Nat.beq cs.length m then some (.st k W us) else none
    |none=>none
   |_,_,_=>none
 | .alloc U=>match aM U C.zc with
   |some zs=>some (.bx U zs)
   |none=>none
 |op=>Kl C.b T B op
def Ld (ops:Array Oper) (T:TF) (B:BF) (o:Oper):Option SA:=
 match gd ops o T with
 |some true=>NW P T B o.op
 |some false=>some .sk
 |none=>none
def gst (ops:Array Oper) (d:Option Nat):List Oper→Bool
 |⟨_,_,_,_,_,some (j,_)⟩::_=>match ops[j]?,d with
  |some ⟨some t,_,_,_,_,_⟩,some u=>Nat.beq t u
  |_,_=>false
 |_=>false
variable {P}
theorem NN (hg:gd ops ⟨dst,op,ty,pos,af,g⟩ T=some true) (h:NW P T B op=some s)
 (hd: ∀k U cs,s=.st k U cs→dst=none):Sem P ops ⟨dst,op,ty,pos,af,g⟩ T B s.eff:=by
 unfold NW at h
 split at h
 ·split at h
  ·rename_i e
   split at h
   ·rename_i e1 e2
    rw[tN,tN,tN] at h
    split at h
    ·cases h
    ·split at h
     ·rename_i hc
      cases h
      rw[dT] at hc
      have h0:=jr hc.1
      have hl:=jr hc.2
      subst h0
      exact aV (C.ok.ty _ _ e2) e e1 (by rw[tR];exact iB (rZ hl)) hl hg
     ·split at h
      ·rename_i hc
       cases h
       rw[dT] at hc
       have h0:=dV hc.1
       exact aV (C.ok.ty _ _ e2) e e1 rfl (by rw[fQ,fP];omega) hg
      ·cases h
   ·rename_i e1 e2
    rw[tN] at h
    split at h
    ·cases h
    ·split at h
     ·rename_i e3;cases h;exact cT (C.ok.ty _ _ e2) e e1 e3 hg
     ·cases h
   ·cases h
  ·cases h
 ·split at h
  ·rename_i e1 e2 e3
   split at h
   ·rename_i e4
    rw[tN,tN] at h
    split at h
    ·cases h
    ·split at h
     ·rename_i hc
      cases h
      rw[dT,dT] at hc
      have h0:=jr hc.1.1
      subst h0
      have:=hd _ _ _ rfl
      subst this
      exact bn (C.ok.ty _ _ e3) e1 e2 e4 (jr hc.1.2) (jr hc.2) hg
     ·cases h
   ·cases h
  ·cases h
 ·split at h
  ·rename_i e;cases h;exact kW (C.zk _ _ e) hg
  ·cases h
 ·exact Id C.ok hg h hd
theorem pO (h:Ld P ops T B ⟨dst,op,ty,pos,af,g⟩=some s)
 (hd: ∀k U cs,s=.st k U cs→dst=none):Sem P ops ⟨dst,op,ty,pos,af,g⟩ T B s.eff:=by
 unfold Ld at h
 split at h
 ·rename_i e;exact NN e h hd
 ·rename_i e;cases h;exact pk e
 ·cases h
end
structure DL (P:Program) (ops:Array Oper) (os:List Oper) (σ:St) (K:St→Prop):Prop where
 h:dl P ops os σ K
structure DQ (P:Program) (ops:Array Oper) (hs:List Nat) (os:List Oper) (s:Sq) (K:Sq→Prop):Prop where
 h:dq P ops hs os s K
structure DW (P:Program) (c:Code) (σ:St) (Q:Exit→St→Prop):Prop where
 h:Dw P c σ Q
section
variable (P:Program) [C:TaC P] (ops:Array Oper) (K:St→Prop) (n:Nat)
def JN:List Oper→List (Nat×DV)→List (Nat×TypeId×List CellD)→Prop
 |[],tm,bx=>K ⟨n,tm,bx⟩
 |o::os,tm,bx=>bif gst ops o.dst os then DL P ops (o::os) ⟨n,tm,bx⟩ K else match o.dst,Ld P ops (fun s=>aM s tm) (fun l=>aM l bx) o with
  |some t,some .sk=>JN os ((t,.u)::tm) bx
  |some t,some (.v x)=>JN os ((t,x)::tm) bx
  |some t,some (.bx U cs)=>match aM t bx with
   |none=>JN os ((t,.p t 0)::tm) ((t,U,cs)::bx)
   |some _=>DL P ops (o::os) ⟨n,tm,bx⟩ K
  |none,some (.st j U cs)=>JN os tm ((j,U,cs)::bx)
  |_,_=>DL P ops (o::os) ⟨n,tm,bx⟩ K
variable {P ops K n}
theorem fE: ∀ {os:List Oper}{tm:List (Nat×DV)}{bx:List (Nat×TypeId×List CellD)},JN P ops K n os tm bx→dl P ops os ⟨n,tm,bx⟩ K
 |[],tm,bx,h=>h
 |⟨dst,op,ty,pos,af,g⟩::os,tm,bx,h=>by
  unfold JN at h
  rw[tN] at h
  split at h
  ·exact h.h
  ·split at h
   ·rename_i t e1 e2
    cases e1
    exact Bg (pO e2 (fun _ _ _ e=>by cases e)) (fE h)
   ·rename_i t x e1 e2
    cases e1
    exact a7 (pO e2 (fun _ _ _ e=>by cases e)) (fE h)
   ·rename_i t U cs e1 e2
    cases e1
    split at h
    ·rename_i e3;exact pg (pO e2 (fun _ _ _ e=>by cases e)) e3 (fE h)
    ·exact h.h
   ·rename_i j U cs e1 e2
    cases e1
    exact gZ (pO e2 (fun _ _ _ _=>rfl)) (fE h)
   ·exact h.h
end
section
variable (P:Program) [C:TaC P] (ops:Array Oper) (hs:List Nat) (K:Sq→Prop) (n:Nat)
def Sc:List Oper→List (Nat×DV)→List (Nat×TypeId×List CellD)→List (Nat×TypeId×List CellD)→List Nat→Prop
 |[],tm,bx,nb,sd=>K ⟨⟨n,tm,bx⟩,nb,sd⟩
 |o::os,tm,bx,nb,sd=>bif gst ops o.dst os then DQ P ops hs (o::os) ⟨⟨n,tm,bx⟩,nb,sd⟩ K else match o.dst,Ld P ops (fun s=>aM s tm) (hid hs (fun l=>aM l bx)) o with
  |some t,some .sk=>Sc os ((t,.u)::tm) bx nb sd
  |some t,some (.v x)=>Sc os ((t,x)::tm) bx nb sd
  |some t,some (.bx U cs)=>match aM t (nb++bx) with
   |none=>Sc os ((t,.p t 0)::tm) bx ((t,U,cs)::nb) sd
   |some _=>DQ P ops hs (o::os) ⟨⟨n,tm,bx⟩,nb,sd⟩ K
  |_,_=>DQ P ops hs (o::os) ⟨⟨n,tm,bx⟩,nb,sd⟩ K
variable {P ops hs K n}
theorem dY: ∀ {os:List Oper}{tm:List (Nat×DV)}{bx nb:List (Nat×TypeId×List CellD)}{sd:List Nat},Sc P ops hs K n os tm bx nb sd→dq P ops hs os ⟨⟨n,tm,bx⟩,nb,sd⟩ K
 |[],tm,bx,nb,sd,h=>h
 |⟨dst,op,ty,pos,af,g⟩::os,tm,bx,nb,sd,h=>by
  unfold Sc at h
  rw[tN] at h
  split at h
  ·exact h.h
  ·split at h
   ·rename_i t e1 e2
    cases e1
    exact sP (pO e2 (fun _ _ _ e=>by cases e)) (dY h)
   ·rename_i t x e1 e2
    cases e1
    exact bH (pO e2 (fun _ _ _ e=>by cases e)) (dY h)
   ·rename_i t U cs e1 e2
    cases e1
    split at h
    ·rename_i e3;exact J5 (pO e2 (fun _ _ _ e=>by cases e)) e3 (dY h)
    ·exact h.h
   ·exact h.h
end
section
variable (P:Program) [C:TaC P]
def Sj:Code→St→(Exit→St→Prop)→Prop
 | .seq x y,σ,Q=>Sj x σ (D3 (fun σ'=>Sj y σ' Q) Q)
 | .skip,σ,Q=>Q .normal σ
 | .ret,σ,Q=>Q .ret σ
 | .exit id,σ,Q=>Q (.exit id) σ
 | .block id c,σ,Q=>Sj c σ (Pz id Q)
 | .region id ⟨l⟩ false,⟨n,tm,bx⟩,Q=>bif Mc ⟨l⟩ n then JN P ⟨l⟩ (Q .normal) n l tm bx else DW P (.region id ⟨l⟩ false) ⟨n,tm,bx⟩ Q
 |c,σ,Q=>DW P c σ Q
variable {P}
theorem abV {c:Code}: ∀ {σ:St}{Q Q':Exit→St→Prop},(∀e σ',Q e σ'→Q' e σ')→Sj P c σ Q→Dw P c σ Q':=by
 induction c with
 |seq x y ihx ihy=>
  intro σ Q Q' hq h
  refine aa (ihx (fun e σ' he=>?_) h)
  cases e with
  |normal=>exact ihy hq he
  |_=>exact hq _ _ he
 |skip=>intro σ Q Q' hq h;exact aJ (hq _ _ h)
 |ret=>intro σ Q Q' hq h;exact bb (hq _ _ h)
 |exit id=>intro σ Q Q' hq h;exact bG (hq _ _ h)
 |block id c ih=>
  intro σ Q Q' hq h
  refine Dw.mono (aT (ih (fun e σ' he=>he) h)) hq
 |region id ops draw=>
  intro σ Q Q' hq h
  obtain⟨l⟩:=ops
  obtain⟨n,tm,bx⟩:=σ
  cases draw with
  |true=>exact Dw.mono h.h hq
  |false=>
   have h:bif Mc ⟨l⟩ n then JN P ⟨l⟩ (Q .normal) n l tm bx else DW P (.region id ⟨l⟩ false) ⟨n,tm,bx⟩ Q:=h
   rw[tN] at h
   split at h
   ·rename_i hc;exact Dw.mono (zw hc (fE h)) hq
   ·exact Dw.mono h.h hq
 |_=>intro σ Q Q' hq h;exact Dw.mono h.h hq
theorem nF {c:Code}{σ:St}{Q:Exit→St→Prop}(h:Sj P c σ Q):Dw P c σ Q:=abV (fun _ _ h=>h) h
end
section
variable {P:Program}[C:TaC P] {ops:Array Oper}{os:List Oper}{n t:Nat}{tm:List (Nat×DV)}{bx nb:List (Nat×TypeId×List CellD)}{K:St→Prop}{K':Sq→Prop}{hs sd:List Nat}{ty:TypeId}{pos:String}{af:Array Edge}{g:Option (Nat×Bool)}{op:Op}
omit C in
theorem Ky {K2:Sq→Prop}(hk: ∀s,K' s→K2 s): ∀ {os:List Oper}{s:Sq},dq P ops hs os s K'→dq P ops hs os s K2
 |[],s,h=>hk s h
 |_::_,_,⟨e,a,b,c,d,f,h⟩=>⟨e,a,b,c,d,f,Ky hk h⟩
theorem ar (h:Sem P ops ⟨some t,op,ty,pos,af,g⟩ (fun s=>aM s tm) (fun k=>aM k bx) (.r x)) (hk:JN P ops K n os ((t,x)::tm) bx):DL P ops (⟨some t,op,ty,pos,af,g⟩::os) ⟨n,tm,bx⟩ K:=⟨a7 h (fE hk)⟩
theorem aq (h:Sem P ops ⟨some t,op,ty,pos,af,g⟩ (fun s=>aM s tm) (hid hs (fun k=>aM k bx)) (.r x)) (hk:Sc P ops hs K' n os ((t,x)::tm) bx nb sd):DQ P ops hs (⟨some t,op,ty,pos,af,g⟩::os) ⟨⟨n,tm,bx⟩,nb,sd⟩ K':=⟨bH h (dY hk)⟩
theorem jF {cs:List CellD}(h:Sem P ops ⟨none,op,ty,pos,af,g⟩ (fun s=>aM s tm) (fun k=>aM k bx) (.s k U cs)) (hk:JN P ops K n os tm ((k,U,cs)::bx)):DL P ops (⟨none,op,ty,pos,af,g⟩::os) ⟨n,tm,bx⟩ K:=⟨gZ h (fE hk)⟩
theorem kT (h:Sem P ops ⟨some t,op,ty,pos,af,g⟩ (fun s=>aM s tm) (fun k=>aM k bx) (.r (.v (.c (.b b))))) (hk: ∀c,b=c→JN P ops K n os ((t,.v (.c (.b c)))::tm) bx):DL P ops (⟨some t,op,ty,pos,af,g⟩::os) ⟨n,tm,bx⟩ K:=⟨aaU h fun c e=>fE (hk c e)⟩
theorem xi (h:Sem P ops ⟨some t,op,ty,pos,af,g⟩ (fun s=>aM s tm) (hid hs (fun k=>aM k bx)) (.r (.v (.c (.b b))))) (hk: ∀c,b=c→Sc P ops hs K' n os ((t,.v (.c (.b c)))::tm) bx nb sd):DQ P ops hs (⟨some t,op,ty,pos,af,g⟩::os) ⟨⟨n,tm,bx⟩,nb,sd⟩ K':=⟨HC h fun c e=>dY (hk c e)⟩
section
variable {fo:Operand}{args:Array Operand}{at_:Array TypeId}{f:FuncId}{ds rs:List D0}
theorem ac (h:(dc (fun s=>aM s tm) fo,pJ (fun s=>aM s tm) args.toList,gd ops ⟨some t,.call ⟨.value fo,args,at_⟩,ty,pos,af,g⟩ fun s=>aM s tm)=(some (.v (.c (.f f))),some ds,some true)) (hok:Ok P f ds rs) (hk:JN P ops K n os ((t,wR rs)::tm) bx):
 DL P ops (⟨some t,.call ⟨.value fo,args,at_⟩,ty,pos,af,g⟩::os) ⟨n,tm,bx⟩ K:=ar (dt h hok) hk
theorem aO (h:(dc (fun s=>aM s tm) fo,pJ (fun s=>aM s tm) args.toList,gd ops ⟨some t,.call ⟨.value fo,args,at_⟩,ty,pos,af,g⟩ fun s=>aM s tm)=(some (.v (.c (.f f))),some ds,some true)) (hok:Ok P f ds rs) (hk:Sc P ops hs K' n os ((t,wR rs)::tm) bx nb sd):
 DQ P ops hs (⟨some t,.call ⟨.value fo,args,at_⟩,ty,pos,af,g⟩::os) ⟨⟨n,tm,bx⟩,nb,sd⟩ K':=aq (dt h hok) hk
end
variable {Q:Exit→St→Prop}{x y:Code}{σ:St}
theorem dr (hb:aM t σ.tm=some (.v (.c (.b b)))) (ht:b=true→Sj P x σ Q) (hf:b=false→Sj P y σ Q):DW P (.cond (.tmp t) x y) σ Q:=⟨aX hb (fun e=>nF (ht e)) fun e=>nF (hf e)⟩
theorem oC (hb:aM t tm=some (.v (.c (.b true)))) (h:Sj P x ⟨n,tm,bx⟩ Q):DW P (.cond (.tmp t) x y) ⟨n,tm,bx⟩ Q:=⟨cO hb (nF h)⟩
theorem mi (hb:aM t tm=some (.v (.c (.b false)))) (h:Sj P y ⟨n,tm,bx⟩ Q):DW P (.cond (.tmp t) x y) ⟨n,tm,bx⟩ Q:=⟨ba hb (nF h)⟩
theorem cU (m:Nat) (hs:List Nat) (h:Sc P l.toArray hs (fun s=>JN P l.toArray (Q .normal) s.st.n (l.drop m) s.st.tm (s.nb++s.st.bx)) n (l.take m) tm bx [] []) (hc:I2 l.toArray m n=true:=by kernel_rfl):
 DW P (.region id l.toArray true) ⟨n,tm,bx⟩ Q:=⟨qV m hs C.mo hc rfl rfl (Ky (fun _ hk=>fE hk) (dY h))⟩
theorem ah (h:JN P l.toArray (Q .normal) n l tm bx) (hn:Mc l.toArray n=true:=by kernel_rfl):Dw P (.region id l.toArray false) ⟨n,tm,bx⟩ Q:=zw hn (fE h)
theorem di (m:Nat) (hs:List Nat) (h:Sc P l.toArray hs (fun s=>JN P l.toArray (Q .normal) s.st.n (l.drop m) s.st.tm (s.nb++s.st.bx)) n (l.take m) tm bx [] []) (hc:I2 l.toArray m n=true:=by kernel_rfl):
 Dw P (.region id l.toArray true) ⟨n,tm,bx⟩ Q:=(cU m hs h hc).h
theorem bU {f:FuncId}{fn:Func}{c:Code}{ds rs:List D0}(hf:P.funcs[f]? =some fn) (hb:fn.body=some c) (h:Sj P c ⟨fn.ntmps,mZ 0 ds,[]⟩ fun e σ=>(e=.normal∨e=.ret)∧qh P σ fn.results.toList=some rs)
 (hcal:fU P f=true:=by kernel_rfl) (hlen:Nat.ble ds.length fn.ntmps=true:=by rfl):Ok P f ds rs:=Ok.of hcal hf hb hlen (nF h)
end
def zcT:List (Nat×List CellD):=[(33,[.b false,.s 0 []]),(35,[.b false,.s 0 [],.b false,.s 0 []]),(37,[.b false,.s 0 [],.b false,.s 0 [],.b false,.s 0 [],.b false,.s 0 []]),(42,[.b false,.s 0 [],.b false,.s 0 [],.b false,.s 0 [],.b false,.s 0 [],.b false,.s 0 [],.b false,.s 0 []]),(44,[.b false,.s 0 [],.b false,.s 0 [],.b false,.s 0 [],.b false,.s 0 [],.b false,.s 0 [],.b false,.s 0 []]),(46,[.b false,.s 0 [],.b false,.s 0 [],.b false,.s 0 [],.b false,.s 0 [],.b false,.s 0 [],.b false,.s 0 [],.b false,.s 0 [],.b false,.s 0 [],.b false,.s 0 [],.b false,.s 0 []]),(48,[.b false,.b false,.s 0 [],.b false,.s 0 [],.b false,.s 0 [],.b false,.s 0 [],.b false,.s 0 [],.b false,.s 0 [],.b false,.s 0 [],.b false,.s 0 [],.b false,.s 0 [],.b false,.s 0 [],.b false,.s 0 [],.b false,.s 0 [],.b false,.b false,.s 0 [],.b false,.s 0 [],.b false,.s 0 [],.b false,.s 0 [],.b false,.s 0 [],.b false,.s 0 [],.b false,.s 0 [],.b false,.s 0 [],.b false,.s 0 [],.b false,.s 0 [],.b false,.s 0 [],.b false,.s 0 [],.b false,.s 0 [],.b false,.s 0 [],.b false,.s 0 [],.b false,.s 0 [],.b false,.s 0 [],.b false,.s 0 [],.b false,.s 0 [],.b false,.s 0 []]),(49,[.b false,.s 0 [],.b false,.s 0 [],.b false,.s 0 [],.b false,.s 0 [],.b false,.s 0 [],.b false,.s 0 []]),(116,[.i .i64 0,.b false,.s 0 [],.b false,.s 0 [],.b false,.s 0 [],.b false,.s 0 [],.b false,.s 0 [],.b false,.s 0 []]),(119,[.i .i64 0,.b false,.s 0 [],.b false,.s 0 [],.b false,.s 0 [],.b false,.s 0 [],.b false,.s 0 [],.b false,.s 0 []]),(153,[.b false,.s 0 [],.b false,.s 0 [],.b false,.s 0 [],.b false,.s 0 [],.b false,.s 0 [],.b false,.s 0 [],.b false,.s 0 [],.b false,.s 0 [],.b false,.s 0 [],.b false,.s 0 [],.b false,.s 0 [],.b false,.s 0 []]),(202,[.i .i64 0,.i .i64 0])]
def opF (U:Nat):Bool:=bif Nat.beq U 119 then true else bif Nat.beq U 116 then true else bif Nat.beq U 62 then true else bif Nat.beq U 48 then true else bif Nat.beq U 29 then true else bif Nat.beq U 26 then true else bif Nat.beq U 24 then true else false
instance:TaC Tryz.prog:=⟨tb,zcT,opF,NP,X7 (tT.2 ⟨H4,tT.2 ⟨ub,tT.2 ⟨q9,tT.2 ⟨OD,tT.2 ⟨Tp,tT.2 ⟨FF,tT.2 ⟨AE,tT.2 ⟨p6,tT.2 ⟨Dr,tT.2 ⟨DZ,tT.2 ⟨RP,tT.2 ⟨oa,fun _ h=>nomatch h⟩⟩⟩⟩⟩⟩⟩⟩⟩⟩⟩⟩),ew⟩
theorem lF (hL:Lim xs) (hn:xs.length≤1000000000):Ok Tryz.prog 215 [.c (cM xs)] [.c (cL (val xs))]:=by
 refine bU Tryz.func215 rfl ?_
 refine DW.mk<|bF (ι:={k:Nat // k≤xs.length∧trm (xs.take k)=trm xs}) (fun i=>⟨21,[(0,.v (.c (cM (xs.take i.1))))],[]⟩) (fun i=>i.1) ⟨xs.length,cK _,by rw[tI]⟩ (aB ⟨by rw[tI];rfl,trivial⟩ trivial rfl) ?_
 rintro⟨k,hk0,hT⟩
 have hk:(xs.take k).length=k:=by rw[fQ];omega
 dsimp only
 refine nF ?_
 refine kT (bp rfl) (fun c1 hb1=>?_)
 cases c1
 ·have hz:k=0:=by simp only[decide_eq_false_iff_not] at hb1;omega
  have hfin:cL (val xs)=cM (xs.take k):=by rw[Ou hL,←hT,hz];rfl
  refine mi rfl<|ai ?_
  rw[hfin]
  exact al ae
 ·have h1:0<k:=by simp only[decide_eq_true_eq] at hb1;omega
  refine ar (cr (((k-1:Nat):Int)) (by rw[hk,show((k-1:Nat):Int)=(k:Int)-1 from by omega];exact bT (by omega) (by omega)) rfl)<|ar (bJ jv rfl rfl (by omega) (jM _) rfl rfl) ?_
  refine ar (dd fY rfl (ll (i:=(k-1)) (by omega)) rfl) ?_
  refine dr rfl (fun hc2=>?_) (fun hc2=>?_)
  ·have hstep:=MD h1 hk0 hT hc2
   refine ar (cr (((k-1:Nat):Int)) (by rw[hk,show((k-1:Nat):Int)=(k:Int)-1 from by omega];exact bT (by omega) (by omega)) rfl)<|ar (Gf (xs:=xs.take k) (j:=(k-1)) jv rfl rfl (by omega) rfl) ?_
   exact⟨⟨k-1,by omega,hstep⟩,aB ⟨by rw[show xs.take (k-1)=(xs.take k).take (k-1) from by rw[List.take_take,fT (by omega)]];rfl,trivial⟩ trivial rfl,by show k-1<k;omega⟩
  ·have hfin:cL (val xs)=cM (xs.take k):=by rw[Ou hL];exact congrArg cM (MP h1 hk0 hT hc2)
   refine ai ?_
   rw[hfin]
   exact al ae
theorem nD (h:k<xs.length):val (xs.take (k+1))=val (xs.take k)+pw k*xs.getD k 0:=bg (getD_some h)
theorem pe (k:Nat):val (xs.take (k+1))=val (xs.take k)+pw k*xs.getD k 0:=by
 by_cases h:k<xs.length
 ·exact nD h
 ·rw[ga (by omega),List.getD,uc (by omega)];simp
structure PInv (p q:List Int) (k:Nat) (c:Int) (zs:List Int):Prop where
 le:k≤p.length
 c0:0≤c
 c1:c≤1
 L:Lim zs
 len:zs.length=k
 v:val zs+pw k*c=val (p.take k)+val (q.take k)
theorem PInv.step (h:PInv p q k c zs) (hp:Lim p) (hq:Lim q) (hk:k<p.length) (hS:S=c+p.getD k 0+q.getD k 0):PInv p q (k+1) (S/1000000000) (zs++[S%1000000000]):=by
 have h1:=dH hp k
 have h2:=dH hq k
 have:=h.c0
 have:=h.c1
 refine⟨hk,by omega,by omega,h.L.snoc (by omega) (by omega),by simp[h.len],?_⟩
 rw[pe k,pe k,nm h.len h.v (d:=S%1000000000) (c':=S/1000000000) (t:=p.getD k 0+q.getD k 0) (by omega)]
 grind
theorem PInv.done (h:PInv p q k c zs) (hk:k=p.length) (hq:q.length≤p.length):val (zs++[c])=val p+val q:=by
 have:=h.v
 rw[pC,h.len,this,hk,dC (cK _),dC hq]
structure SInv (p q:List Int) (k:Nat) (c:Int) (zs:List Int):Prop where
 le:k≤p.length
 c0:0≤c
 c1:c≤1
 L:Lim zs
 len:zs.length=k
 v:val zs-pw k*c=val (p.take k)-val (q.take k)
theorem SInv.step {c':Int}(h:SInv p q k c zs) (hk:k<p.length) (hd:0≤d) (hd2:d<1000000000) (hc0:0≤c') (hc1:c'≤1) (hS:d-1000000000*c'=p.getD k 0-c-q.getD k 0):SInv p q (k+1) c' (zs++[d]):=by
 refine⟨hk,hc0,hc1,h.L.snoc hd hd2,by simp[h.len],?_⟩
 have h1:=nm (zs:=zs) (k:=k) (c:= -c) (S:=val (p.take k)-val (q.take k)) (t:=p.getD k 0-q.getD k 0) (d:=d) (c':= -c') h.len (by rw[Int.mul_neg];have:=h.v;omega) (by omega)
 rw[pe k,pe k]
 grind
theorem SInv.done (h:SInv p q k c zs) (hk:k=p.length) (hq:q.length≤p.length) (hv:val q≤val p):val zs=val p-val q:=by
 have h1:=h.v
 rw[hk,dC (cK _),dC hq] at h1
 have h2:=fS h.L
 rw[h.len,hk] at h2
 have h4:=h.c0
 have h5:=h.c1
 have:c=0∨c=1:=by omega
 grind
structure TInv (p q:List Int) (i k:Nat) (c:Int) (zs:List Int):Prop where
 ik:i≤p.length
 kk:k≤q.length
 c0:0≤c
 c1:c<1000000000
 L:Lim zs
 len:zs.length=p.length+q.length
 z:Zr zs (i+q.length)
 v:val zs+pw (i+k)*c=val (p.take i)*val q+pw i*(p.getD i 0*val (q.take k))
theorem TInv.start:TInv p q 0 0 0 (List.replicate (p.length+q.length) 0):=
 ⟨Nat.zero_le _,iH _,by omega,by omega,Lim.zeros _,by simp,Zr.zeros _ _,by rw[zh];simp[val]⟩
theorem TInv.step (h:TInv p q i k c zs) (hp:Lim p) (hq:Lim q) (hi:i<p.length) (hk:k<q.length) (hS:S=c+zs.getD (i+k) 0+p.getD i 0*q.getD k 0):
 TInv p q i (k+1) (S/1000000000) (zs.set (i+k) (S%1000000000)):=by
 have h1:=dH hp i
 have h2:=dH hq k
 have h3:=dH h.L (i+k)
 have hc0:=h.c0
 have hc1:=h.c1
 have hm0:0≤p.getD i 0*q.getD k 0:=f9 h1.1 h2.1
 have hm1:p.getD i 0*q.getD k 0≤999999999*999999999:=qo (by omega) (by omega) h2.1 (by omega)
 have hlt:i+k<zs.length:=by rw[h.len];omega
 refine⟨h.ik,hk,by omega,by omega,h.L.set (by omega) (by omega),by simp[h.len],h.z.set (by omega),?_⟩
 rw[Bf (getD_some hlt),nD hk,show i+(k+1)=i+k+1 from by omega,eu]
 have hv:=h.v
 rw[pP i k] at*
 grind
theorem TInv.row (h:TInv p q i k c zs) (hi:i<p.length) (hk:k=q.length):TInv p q (i+1) 0 0 (zs.set (i+q.length) c):=by
 have hlt:i+q.length<zs.length:=by rw[h.len];omega
 have hz:zs.getD (i+q.length) 0=0:=h.z (i+q.length) _ (cK _) (getD_some hlt)
 refine⟨hi,iH _,by omega,by omega,h.L.set h.c0 h.c1,by simp[h.len],?_,?_⟩
 ·rw[show i+1+q.length=i+q.length+1 from by omega];exact h.z.set_at
 ·rw[Bf (getD_some hlt),hz,nD hi]
  have hv:=h.v
  simp only[List.take_zero,val,mH,Int.add_zero,Int.sub_zero]
  grind
theorem TInv.done (h:TInv p q i 0 0 zs) (hi:i=p.length):val zs=val p*val q:=by
 have hv:=h.v
 grind
theorem MB (hx:i<xs.length) (hy:i<ys.length) (h:xs.drop (i+1)=ys.drop (i+1)) (he:xs.getD i 0=ys.getD i 0):xs.drop i=ys.drop i:=by
 rw[pr hx,pr hy,h]
 grind
theorem Tv (h:0≤v):dI (sg true v)=.a ([.b (decide (((dG v.natAbs).length:Int)>0))]++[cL v]):=by
 rw[gW]
 unfold dI cI
 have e1:cL (-v)=cL v:=by unfold cL;rw[Int.natAbs_neg]
 have e2:decide (-v<0)=decide (((dG v.natAbs).length:Int)>0):=by
  by_cases h0:v=0
  ·subst h0;simp[lC]
  ·have:(dG v.natAbs).length≠0:=fun e=>h0 (FS.1 e)
   rw[show decide (-v<0)=true from by simp;omega,show decide (((dG v.natAbs).length:Int)>0)=true from by simp only[decide_eq_true_eq];omega]
 grind
structure ShInv (xs:List Int) (j:Nat) (r:Int):Prop where
 le:j≤xs.length
 r0:0≤r
 v:r*pw j+val (xs.take j)=val xs
theorem ShInv.step (h:ShInv xs (i+1) r) (hL:Lim xs):ShInv xs i (r*1000000000+xs.getD i 0):=by
 have h1:=dH hL i
 refine⟨by have:=h.le;omega,by have:=h.r0;omega,?_⟩
 have hv:=h.v
 rw[pe i,eu] at hv
 grind
theorem ShInv.bound (h:ShInv xs j r) (hL:Lim xs):r≤val xs:=by
 have:=h.v
 have h1:=dw j
 have h2:=dg (hL.take j)
 have h3:=nh h1 h.r0
 grind
theorem PO (hLxs:Lim xs) (hLys:Lim ys) (hn:xs.length≤100000000) (hm:ys.length≤100000000):Ok Tryz.prog 273 [.c (cM xs),.c (cM ys)] [.c (cL (val xs+val ys))]:=by
 refine fD Tryz.func273 55 [.tmp 4] rfl<|aa<|ah<|aa<|aa<|ah ?_
 refine aX rfl (fun hc1=>?_) (fun hc1=>?_)
 ·have hlt:xs.length<ys.length:=by simp only[decide_eq_true_eq] at hc1;omega
  refine ah<|aa<|ah ?_
  refine ar (cr ((ys.length:Int)+1) (bL (by(first|omega|(simp;omega))) (by(first|omega|(simp;omega)))) rfl) ?_
  refine DL.mk<|ol (n7 (n:=ys.length+1) xj rfl rfl (by(first|omega|(simp;omega))) (by(first|omega|(simp;omega))) rfl) rfl<|fE ?_
  refine aa<|ah<|aa<|aa<|ah<|aT<|bF (ι:={t:Nat×Int×List Int // PInv ys xs t.1 t.2.1 t.2.2}) (fun i=>⟨55,[(0,.v (.c (cM ys))),(1,.v (.c (cM xs))),(5,.o 18 (ys.length+1) (ys.length+1)),(6,.v (.c (.i .u32 i.1.2.1))),(7,.v (.c (.i .i64 (i.1.1:Int))))],[(18,192,(i.1.2.2++List.replicate (ys.length+1-i.1.1) 0).map (CellD.i .u32))]⟩) (fun i=>ys.length-i.1.1) ⟨(0,0,[]),⟨Nat.zero_le _,mV 0,by decide,Lim.nil,rfl,by simp[val]⟩⟩ (aB ⟨rfl,rfl,rfl,rfl,rfl,trivial⟩ ⟨by rw[show(List.replicate (ys.length+1) (CellD.i .u32 0))=(([]:List Int)++List.replicate (ys.length+1-0) 0).map (CellD.i .u32) from by simp];rfl,trivial⟩ rfl) ?_
  rintro⟨⟨k,c,zs⟩,hI⟩
  replace hI:PInv ys xs k c zs:=hI
  have g1:=dH hLys k
  have g2:=dH hLxs k
  have g3:=hI.c0
  have g4:=hI.c1
  have g5:=hI.le
  have g6:=hI.len
  show Dw _ _ ⟨55,[(0,.v (.c (cM ys))),(1,.v (.c (cM xs))),(5,.o 18 (ys.length+1) (ys.length+1)),(6,.v (.c (.i .u32 c))),(7,.v (.c (.i .i64 (k:Int))))],[(18,192,(zs++List.replicate (ys.length+1-k) 0).map (CellD.i .u32))]⟩ _
  refine aa<|aa<|ah ?_
  refine aX rfl (fun hc2=>?_) (fun hc2=>?_)
  ·have hk:k<ys.length:=by simp only[decide_eq_true_eq] at hc2;omega
   refine aJ<|aa<|aT<|aa<|ah ?_
   refine ar (bJ jv rfl rfl (by(first|omega|(simp;omega))) (jM _) rfl rfl) ?_
   refine ar (dd fY rfl (ll (i:=k) (by(first|omega|(simp;omega)))) rfl) ?_
   refine ar (cr (c+(ys.getD k 0)) (og (by(first|omega|(simp;omega))) (by(first|omega|(simp;omega)))) rfl) ?_
   refine aa<|aa<|ah ?_
   refine aX rfl (fun hc3=>?_) (fun hc3=>?_)
   ·have hkq:k<xs.length:=by simp only[decide_eq_true_eq] at hc3;omega
    have hS:c+ys.getD k 0+xs.getD k 0=c+ys.getD k 0+xs.getD k 0:=rfl
    have hb:c+ys.getD k 0+xs.getD k 0≤4294967295:=by omega
    refine ah ?_
    refine ar (bJ jv rfl rfl (by(first|omega|(simp;omega))) (jM _) rfl rfl) ?_
    refine ar (dd fY rfl (ll (i:=k) (by(first|omega|(simp;omega)))) rfl) ?_
    refine ar (cr ((c+(ys.getD k 0))+(xs.getD k 0)) (og (by(first|omega|(simp;omega))) (by(first|omega|(simp;omega)))) rfl) ?_
    refine aa<|bo<|bR 3<|a7 (fJ (r:=(c+ys.getD k 0+xs.getD k 0)%1000000000) rfl rfl (by omega) (lk (by omega)) rfl) ?_
    refine a7 (bq jv rfl rfl (by(first|omega|(simp;omega))) rfl) ?_
    refine gZ (bm (us:=((zs++List.replicate (ys.length+1-k) 0).set k ((c+ys.getD k 0+xs.getD k 0)%1000000000)).map (CellD.i .u32)) fY rfl rfl rfl rfl (by simp;omega) (qX (by(first|omega|(simp;omega)))) rfl) ?_
    refine bj<|ah<|ar (kv (r:=(c+ys.getD k 0+xs.getD k 0)/1000000000) rfl rfl (by omega) (by rw[tK (by omega)];exact rM (by omega) (by omega)) rfl) ?_
    refine ah ?_
    refine ar (cr ((k:Int)+1) (bL (by(first|omega|(simp;omega))) (by(first|omega|(simp;omega)))) rfl) ?_
    exact⟨⟨(k+1,(c+ys.getD k 0+xs.getD k 0)/1000000000,zs++[(c+ys.getD k 0+xs.getD k 0)%1000000000]),hI.step hLys hLxs hk hS⟩,aB ⟨rfl,rfl,rfl,rfl,by rw[show((k+1:Nat):Int)=(k:Int)+1 from by omega];rfl,trivial⟩ ⟨by rw[show ys.length+1-(k+1)=ys.length-k from by omega,←mW (m:=ys.length-k) (d:=(c+ys.getD k 0+xs.getD k 0)%1000000000) g6,show ys.length-k+1=ys.length+1-k from by omega];rfl,trivial⟩ rfl,by show ys.length-(k+1)<ys.length-k;omega⟩
   ·have hkq: ¬k<xs.length:=by simp only[decide_eq_false_iff_not] at hc3;omega
    have hq0:xs.getD k 0=0:=by rw[List.getD,uc (by omega)];rfl
    have hS:c+ys.getD k 0=c+ys.getD k 0+xs.getD k 0:=by omega
    refine aJ<|aa<|bo<|bR 3<|a7 (fJ (r:=(c+ys.getD k 0)%1000000000) rfl rfl (by omega) (lk (by omega)) rfl) ?_
    refine a7 (bq jv rfl rfl (by(first|omega|(simp;omega))) rfl) ?_
    refine gZ (bm (us:=((zs++List.replicate (ys.length+1-k) 0).set k ((c+ys.getD k 0)%1000000000)).map (CellD.i .u32)) fY rfl rfl rfl rfl (by simp;omega) (qX (by(first|omega|(simp;omega)))) rfl) ?_
    refine bj<|ah<|ar (kv (r:=(c+ys.getD k 0)/1000000000) rfl rfl (by omega) (by rw[tK (by omega)];exact rM (by omega) (by omega)) rfl) ?_
    refine ah ?_
    refine ar (cr ((k:Int)+1) (bL (by(first|omega|(simp;omega))) (by(first|omega|(simp;omega)))) rfl) ?_
    exact⟨⟨(k+1,(c+ys.getD k 0)/1000000000,zs++[(c+ys.getD k 0)%1000000000]),hI.step hLys hLxs hk hS⟩,aB ⟨rfl,rfl,rfl,rfl,by rw[show((k+1:Nat):Int)=(k:Int)+1 from by omega];rfl,trivial⟩ ⟨by rw[show ys.length+1-(k+1)=ys.length-k from by omega,←mW (m:=ys.length-k) (d:=(c+ys.getD k 0)%1000000000) g6,show ys.length-k+1=ys.length+1-k from by omega];rfl,trivial⟩ rfl,by show ys.length-(k+1)<ys.length-k;omega⟩
  ·have hk:k=ys.length:=by simp only[decide_eq_false_iff_not] at hc2;omega
   have hfin:(val xs+val ys:Int)=val ((zs++List.replicate (ys.length+1-k) 0).set ys.length c):=by rw[show ys.length+1-k=0+1 from by omega,mW (by omega)];simp only[List.replicate_zero,xx];rw[hI.done hk (by omega)];omega
   have hLf:Lim ((zs++List.replicate (ys.length+1-k) 0).set ys.length c):=(hI.L.append (Lim.zeros _)).set g3 (by omega)
   refine bG<|aa<|bo<|bR 4 ?_
   refine a7 (bq jv rfl rfl (by(first|omega|(simp;omega))) rfl) ?_
   refine gZ (bm (us:=((zs++List.replicate (ys.length+1-k) 0).set ys.length c).map (CellD.i .u32)) fY rfl rfl rfl rfl (by simp;omega) (qX (by(first|omega|(simp;omega)))) rfl) ?_
   refine bj<|aa ?_
   refine vJ (t:=5) (zs:=(zs++List.replicate (ys.length+1-k) 0).set ys.length c) (ys:=(zs++List.replicate (ys.length+1-k) 0).set ys.length c) rfl rfl (by first|omega|(simp;omega)|simp) (by omega) (by omega) (iB (by first|omega|(simp;omega)|simp)) ?_
   refine ah<|ac rfl (lF hLf (by simp;omega))<|bb ?_
   rw[hfin]
   exact ai (al ae)
 ·have hlt:ys.length≤xs.length:=by simp only[decide_eq_false_iff_not] at hc1;omega
  refine aJ<|aa<|ah ?_
  refine ar (cr ((xs.length:Int)+1) (bL (by(first|omega|(simp;omega))) (by(first|omega|(simp;omega)))) rfl) ?_
  refine DL.mk<|ol (n7 (n:=xs.length+1) xj rfl rfl (by(first|omega|(simp;omega))) (by(first|omega|(simp;omega))) rfl) rfl<|fE ?_
  refine aa<|ah<|aa<|aa<|ah<|aT<|bF (ι:={t:Nat×Int×List Int // PInv xs ys t.1 t.2.1 t.2.2}) (fun i=>⟨55,[(0,.v (.c (cM xs))),(1,.v (.c (cM ys))),(5,.o 18 (xs.length+1) (xs.length+1)),(6,.v (.c (.i .u32 i.1.2.1))),(7,.v (.c (.i .i64 (i.1.1:Int))))],[(18,192,(i.1.2.2++List.replicate (xs.length+1-i.1.1) 0).map (CellD.i .u32))]⟩) (fun i=>xs.length-i.1.1) ⟨(0,0,[]),⟨Nat.zero_le _,mV 0,by decide,Lim.nil,rfl,by simp[val]⟩⟩ (aB ⟨rfl,rfl,rfl,rfl,rfl,trivial⟩ ⟨by rw[show(List.replicate (xs.length+1) (CellD.i .u32 0))=(([]:List Int)++List.replicate (xs.length+1-0) 0).map (CellD.i .u32) from by simp];rfl,trivial⟩ rfl) ?_
  rintro⟨⟨k,c,zs⟩,hI⟩
  replace hI:PInv xs ys k c zs:=hI
  have g1:=dH hLxs k
  have g2:=dH hLys k
  have g3:=hI.c0
  have g4:=hI.c1
  have g5:=hI.le
  have g6:=hI.len
  show Dw _ _ ⟨55,[(0,.v (.c (cM xs))),(1,.v (.c (cM ys))),(5,.o 18 (xs.length+1) (xs.length+1)),(6,.v (.c (.i .u32 c))),(7,.v (.c (.i .i64 (k:Int))))],[(18,192,(zs++List.replicate (xs.length+1-k) 0).map (CellD.i .u32))]⟩ _
  refine aa<|aa<|ah ?_
  refine aX rfl (fun hc4=>?_) (fun hc4=>?_)
  ·have hk:k<xs.length:=by simp only[decide_eq_true_eq] at hc4;omega
   refine aJ<|aa<|aT<|aa<|ah ?_
   refine ar (bJ jv rfl rfl (by(first|omega|(simp;omega))) (jM _) rfl rfl) ?_
   refine ar (dd fY rfl (ll (i:=k) (by(first|omega|(simp;omega)))) rfl) ?_
   refine ar (cr (c+(xs.getD k 0)) (og (by(first|omega|(simp;omega))) (by(first|omega|(simp;omega)))) rfl) ?_
   refine aa<|aa<|ah ?_
   refine aX rfl (fun hc5=>?_) (fun hc5=>?_)
   ·have hkq:k<ys.length:=by simp only[decide_eq_true_eq] at hc5;omega
    have hS:c+xs.getD k 0+ys.getD k 0=c+xs.getD k 0+ys.getD k 0:=rfl
    have hb:c+xs.getD k 0+ys.getD k 0≤4294967295:=by omega
    refine ah ?_
    refine ar (bJ jv rfl rfl (by(first|omega|(simp;omega))) (jM _) rfl rfl) ?_
    refine ar (dd fY rfl (ll (i:=k) (by(first|omega|(simp;omega)))) rfl) ?_
    refine ar (cr ((c+(xs.getD k 0))+(ys.getD k 0)) (og (by(first|omega|(simp;omega))) (by(first|omega|(simp;omega)))) rfl) ?_
    refine aa<|bo<|bR 3<|a7 (fJ (r:=(c+xs.getD k 0+ys.getD k 0)%1000000000) rfl rfl (by omega) (lk (by omega)) rfl) ?_
    refine a7 (bq jv rfl rfl (by(first|omega|(simp;omega))) rfl) ?_
    refine gZ (bm (us:=((zs++List.replicate (xs.length+1-k) 0).set k ((c+xs.getD k 0+ys.getD k 0)%1000000000)).map (CellD.i .u32)) fY rfl rfl rfl rfl (by simp;omega) (qX (by(first|omega|(simp;omega)))) rfl) ?_
    refine bj<|ah<|ar (kv (r:=(c+xs.getD k 0+ys.getD k 0)/1000000000) rfl rfl (by omega) (by rw[tK (by omega)];exact rM (by omega) (by omega)) rfl) ?_
    refine ah ?_
    refine ar (cr ((k:Int)+1) (bL (by(first|omega|(simp;omega))) (by(first|omega|(simp;omega)))) rfl) ?_
    exact⟨⟨(k+1,(c+xs.getD k 0+ys.getD k 0)/1000000000,zs++[(c+xs.getD k 0+ys.getD k 0)%1000000000]),hI.step hLxs hLys hk hS⟩,aB ⟨rfl,rfl,rfl,rfl,by rw[show((k+1:Nat):Int)=(k:Int)+1 from by omega];rfl,trivial⟩ ⟨by rw[show xs.length+1-(k+1)=xs.length-k from by omega,←mW (m:=xs.length-k) (d:=(c+xs.getD k 0+ys.getD k 0)%1000000000) g6,show xs.length-k+1=xs.length+1-k from by omega];rfl,trivial⟩ rfl,by show xs.length-(k+1)<xs.length-k;omega⟩
   ·have hkq: ¬k<ys.length:=by simp only[decide_eq_false_iff_not] at hc5;omega
    have hq0:ys.getD k 0=0:=by rw[List.getD,uc (by omega)];rfl
    have hS:c+xs.getD k 0=c+xs.getD k 0+ys.getD k 0:=by omega
    refine aJ<|aa<|bo<|bR 3<|a7 (fJ (r:=(c+xs.getD k 0)%1000000000) rfl rfl (by omega) (lk (by omega)) rfl) ?_
    refine a7 (bq jv rfl rfl (by(first|omega|(simp;omega))) rfl) ?_
    refine gZ (bm (us:=((zs++List.replicate (xs.length+1-k) 0).set k ((c+xs.getD k 0)%1000000000)).map (CellD.i .u32)) fY rfl rfl rfl rfl (by simp;omega) (qX (by(first|omega|(simp;omega)))) rfl) ?_
    refine bj<|ah<|ar (kv (r:=(c+xs.getD k 0)/1000000000) rfl rfl (by omega) (by rw[tK (by omega)];exact rM (by omega) (by omega)) rfl) ?_
    refine ah ?_
    refine ar (cr ((k:Int)+1) (bL (by(first|omega|(simp;omega))) (by(first|omega|(simp;omega)))) rfl) ?_
    exact⟨⟨(k+1,(c+xs.getD k 0)/1000000000,zs++[(c+xs.getD k 0)%1000000000]),hI.step hLxs hLys hk hS⟩,aB ⟨rfl,rfl,rfl,rfl,by rw[show((k+1:Nat):Int)=(k:Int)+1 from by omega];rfl,trivial⟩ ⟨by rw[show xs.length+1-(k+1)=xs.length-k from by omega,←mW (m:=xs.length-k) (d:=(c+xs.getD k 0)%1000000000) g6,show xs.length-k+1=xs.length+1-k from by omega];rfl,trivial⟩ rfl,by show xs.length-(k+1)<xs.length-k;omega⟩
  ·have hk:k=xs.length:=by simp only[decide_eq_false_iff_not] at hc4;omega
   have hfin:(val xs+val ys:Int)=val ((zs++List.replicate (xs.length+1-k) 0).set xs.length c):=by rw[show xs.length+1-k=0+1 from by omega,mW (by omega)];simp only[List.replicate_zero,xx];rw[hI.done hk (by omega)]
   have hLf:Lim ((zs++List.replicate (xs.length+1-k) 0).set xs.length c):=(hI.L.append (Lim.zeros _)).set g3 (by omega)
   refine bG<|aa<|bo<|bR 4 ?_
   refine a7 (bq jv rfl rfl (by(first|omega|(simp;omega))) rfl) ?_
   refine gZ (bm (us:=((zs++List.replicate (xs.length+1-k) 0).set xs.length c).map (CellD.i .u32)) fY rfl rfl rfl rfl (by simp;omega) (qX (by(first|omega|(simp;omega)))) rfl) ?_
   refine bj<|aa ?_
   refine vJ (t:=5) (zs:=(zs++List.replicate (xs.length+1-k) 0).set xs.length c) (ys:=(zs++List.replicate (xs.length+1-k) 0).set xs.length c) rfl rfl (by first|omega|(simp;omega)|simp) (by omega) (by omega) (iB (by first|omega|(simp;omega)|simp)) ?_
   refine ah<|ac rfl (lF hLf (by simp;omega))<|bb ?_
   rw[hfin]
   exact ai (al ae)
theorem MO (hLxs:Lim xs) (hLys:Lim ys) (hn:xs.length≤100000000) (hlen:ys.length≤xs.length) (hle:val ys≤val xs):Ok Tryz.prog 274 [.c (cM xs),.c (cM ys)] [.c (cL (val xs-val ys))]:=by
 refine fD Tryz.func274 45 [.tmp 4] rfl<|aa<|ah<|aa<|ah ?_
 refine DL.mk<|ol (n7 (n:=xs.length) xj rfl rfl (by(first|omega|(simp;omega))) (by(first|omega|(simp;omega))) rfl) rfl<|fE ?_
 refine aa<|ah<|aa<|aa<|ah<|aT<|bF (ι:={t:Nat×Int×List Int // SInv xs ys t.1 t.2.1 t.2.2}) (fun i=>⟨45,[(0,.v (.c (cM xs))),(1,.v (.c (cM ys))),(5,.o 11 xs.length xs.length),(6,.v (.c (.i .u32 i.1.2.1))),(7,.v (.c (.i .i64 (i.1.1:Int))))],[(11,192,(i.1.2.2++List.replicate (xs.length-i.1.1) 0).map (CellD.i .u32))]⟩) (fun i=>xs.length-i.1.1) ⟨(0,0,[]),⟨Nat.zero_le _,mV 0,by decide,Lim.nil,rfl,by simp[val]⟩⟩ (aB ⟨rfl,rfl,rfl,rfl,rfl,trivial⟩ ⟨by rw[show(List.replicate xs.length (CellD.i .u32 0))=(([]:List Int)++List.replicate (xs.length-0) 0).map (CellD.i .u32) from by simp];rfl,trivial⟩ rfl) ?_
 rintro⟨⟨k,c,zs⟩,hI⟩
 replace hI:SInv xs ys k c zs:=hI
 have g1:=dH hLxs k
 have g2:=dH hLys k
 have g3:=hI.c0
 have g4:=hI.c1
 have g5:=hI.le
 have g6:=hI.len
 show Dw _ _ ⟨45,[(0,.v (.c (cM xs))),(1,.v (.c (cM ys))),(5,.o 11 xs.length xs.length),(6,.v (.c (.i .u32 c))),(7,.v (.c (.i .i64 (k:Int))))],[(11,192,(zs++List.replicate (xs.length-k) 0).map (CellD.i .u32))]⟩ _
 refine aa<|aa<|ah ?_
 refine aX rfl (fun hc1=>?_) (fun hc1=>?_)
 ·have hk:k<xs.length:=by simp only[decide_eq_true_eq] at hc1;omega
  refine aJ<|aa<|aT<|aa<|ah ?_
  refine ar (bJ jv rfl rfl (by(first|omega|(simp;omega))) (jM _) rfl rfl) ?_
  refine ar (dd fY rfl (ll (i:=k) (by(first|omega|(simp;omega)))) rfl) ?_
  refine ar (cr ((xs.getD k 0)+1000000000) (og (by(first|omega|(simp;omega))) (by(first|omega|(simp;omega)))) rfl) ?_
  refine ar (cr (((xs.getD k 0)+1000000000)-c) (qv (by(first|omega|(simp;omega))) (by(first|omega|(simp;omega)))) rfl) ?_
  refine aa<|aa<|ah ?_
  refine aX rfl (fun hc2=>?_) (fun hc2=>?_)
  ·have hkq:k<ys.length:=by simp only[decide_eq_true_eq] at hc2;omega
   refine ah ?_
   refine ar (bJ jv rfl rfl (by(first|omega|(simp;omega))) (jM _) rfl rfl) ?_
   refine ar (dd fY rfl (ll (i:=k) (by(first|omega|(simp;omega)))) rfl) ?_
   refine ar (cr ((((xs.getD k 0)+1000000000)-c)-(ys.getD k 0)) (qv (by(first|omega|(simp;omega))) (by(first|omega|(simp;omega)))) rfl) ?_
   refine aa<|ah<|aa<|aa<|ah ?_
   refine aX rfl (fun hc3=>?_) (fun hc3=>?_)
   ·simp only[decide_eq_true_eq] at hc3
    have hd1:0≤xs.getD k 0+1000000000-c-ys.getD k 0-1000000000:=by omega
    have hd2:xs.getD k 0+1000000000-c-ys.getD k 0-1000000000<1000000000:=by omega
    have hd3:(0:Int)≤0:=by omega
    have hd4:(0:Int)≤1:=by omega
    have hdS:xs.getD k 0+1000000000-c-ys.getD k 0-1000000000-1000000000*0=xs.getD k 0-c-ys.getD k 0:=by omega
    refine ah ?_
    refine ar (cr (((((xs.getD k 0)+1000000000)-c)-(ys.getD k 0))-1000000000) (qv (by(first|omega|(simp;omega))) (by(first|omega|(simp;omega)))) rfl) ?_
    refine bo<|bR 3 ?_
    refine a7 (bq jv rfl rfl (by(first|omega|(simp;omega))) rfl) ?_
    refine gZ (bm (us:=((zs++List.replicate (xs.length-k) 0).set k (((((xs.getD k 0)+1000000000)-c)-(ys.getD k 0))-1000000000)).map (CellD.i .u32)) fY rfl rfl rfl rfl (by simp;omega) (qX (by(first|omega|(simp;omega)))) rfl) ?_
    refine bj<|ah ?_
    refine ar (cr ((k:Int)+1) (bL (by(first|omega|(simp;omega))) (by(first|omega|(simp;omega)))) rfl) ?_
    exact⟨⟨(k+1,0,zs++[xs.getD k 0+1000000000-c-ys.getD k 0-1000000000]),hI.step hk hd1 hd2 hd3 hd4 hdS⟩,aB ⟨rfl,rfl,rfl,rfl,by rw[show((k+1:Nat):Int)=(k:Int)+1 from by omega];rfl,trivial⟩ ⟨by rw[show xs.length-(k+1)=xs.length-k-1 from by omega,←mW (m:=xs.length-k-1) (d:=xs.getD k 0+1000000000-c-ys.getD k 0-1000000000) g6,show xs.length-k-1+1=xs.length-k from by omega];rfl,trivial⟩ rfl,by show xs.length-(k+1)<xs.length-k;omega⟩
   ·simp only[decide_eq_false_iff_not] at hc3
    have hd1:0≤xs.getD k 0+1000000000-c-ys.getD k 0:=by omega
    have hd2:xs.getD k 0+1000000000-c-ys.getD k 0<1000000000:=by omega
    have hd3:(0:Int)≤1:=by omega
    have hd4:(1:Int)≤1:=by omega
    have hdS:xs.getD k 0+1000000000-c-ys.getD k 0-1000000000*1=xs.getD k 0-c-ys.getD k 0:=by omega
    refine aJ<|bo<|bR 3 ?_
    refine a7 (bq jv rfl rfl (by(first|omega|(simp;omega))) rfl) ?_
    refine gZ (bm (us:=((zs++List.replicate (xs.length-k) 0).set k ((((xs.getD k 0)+1000000000)-c)-(ys.getD k 0))).map (CellD.i .u32)) fY rfl rfl rfl rfl (by simp;omega) (qX (by(first|omega|(simp;omega)))) rfl) ?_
    refine bj<|ah ?_
    refine ar (cr ((k:Int)+1) (bL (by(first|omega|(simp;omega))) (by(first|omega|(simp;omega)))) rfl) ?_
    exact⟨⟨(k+1,1,zs++[xs.getD k 0+1000000000-c-ys.getD k 0]),hI.step hk hd1 hd2 hd3 hd4 hdS⟩,aB ⟨rfl,rfl,rfl,rfl,by rw[show((k+1:Nat):Int)=(k:Int)+1 from by omega];rfl,trivial⟩ ⟨by rw[show xs.length-(k+1)=xs.length-k-1 from by omega,←mW (m:=xs.length-k-1) (d:=xs.getD k 0+1000000000-c-ys.getD k 0) g6,show xs.length-k-1+1=xs.length-k from by omega];rfl,trivial⟩ rfl,by show xs.length-(k+1)<xs.length-k;omega⟩
  ·have hkq: ¬k<ys.length:=by simp only[decide_eq_false_iff_not] at hc2;omega
   have hq0:ys.getD k 0=0:=by rw[List.getD,uc (by omega)];rfl
   refine aJ<|aa<|ah<|aa<|aa<|ah ?_
   refine aX rfl (fun hc4=>?_) (fun hc4=>?_)
   ·simp only[decide_eq_true_eq] at hc4
    have hd1:0≤xs.getD k 0+1000000000-c-1000000000:=by omega
    have hd2:xs.getD k 0+1000000000-c-1000000000<1000000000:=by omega
    have hd3:(0:Int)≤0:=by omega
    have hd4:(0:Int)≤1:=by omega
    have hdS:xs.getD k 0+1000000000-c-1000000000-1000000000*0=xs.getD k 0-c-ys.getD k 0:=by omega
    refine ah ?_
    refine ar (cr ((((xs.getD k 0)+1000000000)-c)-1000000000) (qv (by(first|omega|(simp;omega))) (by(first|omega|(simp;omega)))) rfl) ?_
    refine bo<|bR 3 ?_
    refine a7 (bq jv rfl rfl (by(first|omega|(simp;omega))) rfl) ?_
    refine gZ (bm (us:=((zs++List.replicate (xs.length-k) 0).set k ((((xs.getD k 0)+1000000000)-c)-1000000000)).map (CellD.i .u32)) fY rfl rfl rfl rfl (by simp;omega) (qX (by(first|omega|(simp;omega)))) rfl) ?_
    refine bj<|ah ?_
    refine ar (cr ((k:Int)+1) (bL (by(first|omega|(simp;omega))) (by(first|omega|(simp;omega)))) rfl) ?_
    exact⟨⟨(k+1,0,zs++[xs.getD k 0+1000000000-c-1000000000]),hI.step hk hd1 hd2 hd3 hd4 hdS⟩,aB ⟨rfl,rfl,rfl,rfl,by rw[show((k+1:Nat):Int)=(k:Int)+1 from by omega];rfl,trivial⟩ ⟨by rw[show xs.length-(k+1)=xs.length-k-1 from by omega,←mW (m:=xs.length-k-1) (d:=xs.getD k 0+1000000000-c-1000000000) g6,show xs.length-k-1+1=xs.length-k from by omega];rfl,trivial⟩ rfl,by show xs.length-(k+1)<xs.length-k;omega⟩
   ·simp only[decide_eq_false_iff_not] at hc4
    have hd1:0≤xs.getD k 0+1000000000-c:=by omega
    have hd2:xs.getD k 0+1000000000-c<1000000000:=by omega
    have hd3:(0:Int)≤1:=by omega
    have hd4:(1:Int)≤1:=by omega
    have hdS:xs.getD k 0+1000000000-c-1000000000*1=xs.getD k 0-c-ys.getD k 0:=by omega
    refine aJ<|bo<|bR 3 ?_
    refine a7 (bq jv rfl rfl (by(first|omega|(simp;omega))) rfl) ?_
    refine gZ (bm (us:=((zs++List.replicate (xs.length-k) 0).set k (((xs.getD k 0)+1000000000)-c)).map (CellD.i .u32)) fY rfl rfl rfl rfl (by simp;omega) (qX (by(first|omega|(simp;omega)))) rfl) ?_
    refine bj<|ah ?_
    refine ar (cr ((k:Int)+1) (bL (by(first|omega|(simp;omega))) (by(first|omega|(simp;omega)))) rfl) ?_
    exact⟨⟨(k+1,1,zs++[xs.getD k 0+1000000000-c]),hI.step hk hd1 hd2 hd3 hd4 hdS⟩,aB ⟨rfl,rfl,rfl,rfl,by rw[show((k+1:Nat):Int)=(k:Int)+1 from by omega];rfl,trivial⟩ ⟨by rw[show xs.length-(k+1)=xs.length-k-1 from by omega,←mW (m:=xs.length-k-1) (d:=xs.getD k 0+1000000000-c) g6,show xs.length-k-1+1=xs.length-k from by omega];rfl,trivial⟩ rfl,by show xs.length-(k+1)<xs.length-k;omega⟩
 ·have hk:k=xs.length:=by simp only[decide_eq_false_iff_not] at hc1;omega
  have hfin:val xs-val ys=val (zs++List.replicate (xs.length-k) 0):=by rw[show xs.length-k=0 from by omega];simp only[List.replicate_zero,xx];rw[hI.done hk hlen hle]
  have hLf:Lim (zs++List.replicate (xs.length-k) 0):=hI.L.append (Lim.zeros _)
  refine bG<|aa ?_
  refine vJ (t:=5) (zs:=zs++List.replicate (xs.length-k) 0) (ys:=zs++List.replicate (xs.length-k) 0) rfl rfl (by first|omega|(simp;omega)|simp) (by omega) (by omega) (iB (by first|omega|(simp;omega)|simp)) ?_
  refine ah<|ac rfl (lF hLf (by simp;omega))<|bb ?_
  rw[hfin]
  exact ai (al ae)
theorem Ea (hLxs:Lim xs) (hLys:Lim ys) (hn:xs.length≤100000000) (hm:ys.length≤100000000):Ok Tryz.prog 212 [.c (cM xs),.c (cM ys)] [.c (cL (val xs*val ys))]:=by
 refine fD Tryz.func212 68 [.tmp 4] rfl<|aa<|ah<|aa<|ah ?_
 refine ar (cr ((xs.length:Int)+(ys.length:Int)) (bL (by(first|omega|(simp;omega))) (by(first|omega|(simp;omega)))) rfl) ?_
 refine DL.mk<|ol (n7 (n:=xs.length+ys.length) xj rfl rfl (by(first|omega|(simp;omega))) (by(first|omega|(simp;omega))) rfl) rfl<|fE ?_
 refine aa<|aa<|ah<|aT<|bF (ι:={t:Nat×List Int // TInv xs ys t.1 0 0 t.2}) (fun i=>⟨68,[(0,.v (.c (cM xs))),(1,.v (.c (cM ys))),(5,.o 14 (xs.length+ys.length) (xs.length+ys.length)),(6,.v (.c (.i .i64 (i.1.1:Int))))],[(14,192,i.1.2.map (CellD.i .u32))]⟩) (fun i=>xs.length-i.1.1) ⟨(0,List.replicate (xs.length+ys.length) 0),TInv.start⟩ (aB ⟨rfl,rfl,rfl,rfl,trivial⟩ ⟨by rw[show(List.replicate (xs.length+ys.length) (CellD.i .u32 0))=(List.replicate (xs.length+ys.length) 0).map (CellD.i .u32) from by simp];rfl,trivial⟩ rfl) ?_
 rintro⟨⟨j,zs⟩,hI⟩
 replace hI:TInv xs ys j 0 0 zs:=hI
 have g5:=hI.ik
 have g6:=hI.len
 show Dw _ _ ⟨68,[(0,.v (.c (cM xs))),(1,.v (.c (cM ys))),(5,.o 14 (xs.length+ys.length) (xs.length+ys.length)),(6,.v (.c (.i .i64 (j:Int))))],[(14,192,zs.map (CellD.i .u32))]⟩ _
 refine aa<|aa<|ah ?_
 refine aX rfl (fun hc1=>?_) (fun hc1=>?_)
 ·have hj:j<xs.length:=by simp only[decide_eq_true_eq] at hc1;omega
  refine aJ<|aa<|aT<|aa<|ah<|aa<|aa<|ah<|aT<|bF (ι:={t:Nat×Int×List Int // TInv xs ys j t.1 t.2.1 t.2.2}) (fun i=>⟨68,[(0,.v (.c (cM xs))),(1,.v (.c (cM ys))),(5,.o 14 (xs.length+ys.length) (xs.length+ys.length)),(6,.v (.c (.i .i64 (j:Int)))),(7,.v (.c (.i .u64 i.1.2.1))),(8,.v (.c (.i .i64 (i.1.1:Int))))],[(14,192,i.1.2.2.map (CellD.i .u32))]⟩) (fun i=>ys.length-i.1.1) ⟨(0,0,zs),hI⟩ (aB ⟨rfl,rfl,rfl,rfl,rfl,rfl,trivial⟩ ⟨rfl,trivial⟩ rfl) ?_
  clear hI g6
  rintro⟨⟨k,c,zs⟩,hI⟩
  replace hI:TInv xs ys j k c zs:=hI
  have g1:=dH hLxs j
  have g2:=dH hLys k
  have g8:=dH hI.L (j+k)
  have g3:=hI.c0
  have g4:=hI.c1
  have g5:=hI.ik
  have g7:=hI.kk
  have g6:=hI.len
  show Dw _ _ ⟨68,[(0,.v (.c (cM xs))),(1,.v (.c (cM ys))),(5,.o 14 (xs.length+ys.length) (xs.length+ys.length)),(6,.v (.c (.i .i64 (j:Int)))),(7,.v (.c (.i .u64 c))),(8,.v (.c (.i .i64 (k:Int))))],[(14,192,zs.map (CellD.i .u32))]⟩ _
  refine aa<|aa<|ah ?_
  refine aX rfl (fun hc2=>?_) (fun hc2=>?_)
  ·have hk:k<ys.length:=by simp only[decide_eq_true_eq] at hc2;omega
   have hm0:0≤xs.getD j 0*ys.getD k 0:=f9 g1.1 g2.1
   have hm1:xs.getD j 0*ys.getD k 0≤999999999*999999999:=qo (by omega) (by omega) g2.1 (by omega)
   refine aJ<|aa<|aT<|aa<|lq 22 rfl rfl<|dU 4<|bH (cr ((j:Int)+(k:Int)) (bL (by omega) (by omega)) rfl) ?_
   refine bH (bq jv rfl rfl (by(first|omega|(simp;omega))) rfl) ?_
   refine bH (cT fY rfl rfl (abo (i:=j+k) (by(first|omega|(simp;omega)))) rfl) ?_
   refine bH (cS (r:=zs.getD (j+k) 0) jR gh rfl (jk (by(first|omega|(simp;omega))) (by(first|omega|(simp;omega)))) rfl) ?_
   refine bH (cr (c+(zs.getD (j+k) 0)) (gy (by(first|omega|(simp;omega))) (by(first|omega|(simp;omega)))) rfl) ?_
   refine dU 2 ?_
   refine bH (bJ jv rfl rfl (by(first|omega|(simp;omega))) (jM _) rfl rfl) ?_
   refine bH (dd fY rfl (ll (i:=j) (by(first|omega|(simp;omega)))) rfl) ?_
   refine bH (cS (r:=xs.getD j 0) jR gh rfl (jk (by(first|omega|(simp;omega))) (by(first|omega|(simp;omega)))) rfl) ?_
   refine dU 2 ?_
   refine bH (bJ jv rfl rfl (by(first|omega|(simp;omega))) (jM _) rfl rfl) ?_
   refine bH (dd fY rfl (ll (i:=k) (by(first|omega|(simp;omega)))) rfl) ?_
   refine bH (cS (r:=ys.getD k 0) jR gh rfl (jk (by(first|omega|(simp;omega))) (by(first|omega|(simp;omega)))) rfl) ?_
   refine bH (cr ((xs.getD j 0)*(ys.getD k 0)) (iT (by(first|omega|(simp;omega))) (by(first|omega|(simp;omega)))) rfl) ?_
   refine bH (cr ((c+(zs.getD (j+k) 0))+((xs.getD j 0)*(ys.getD k 0))) (gy (by(first|omega|(simp;omega))) (by(first|omega|(simp;omega)))) rfl) ?_
   refine yQ<|dz<|bj<|aa<|bo<|bR 3<|a7 (cr ((j:Int)+(k:Int)) (bL (by omega) (by omega)) rfl)<|bR 1<|a7 (fJ (r:=(c+zs.getD (j+k) 0+xs.getD j 0*ys.getD k 0)%1000000000) rfl rfl (by omega) (lk (by omega)) rfl) ?_
   refine a7 (cS (r:=(c+zs.getD (j+k) 0+xs.getD j 0*ys.getD k 0)%1000000000) gh jR rfl (rM (by omega) (by omega)) rfl) ?_
   refine a7 (bq jv rfl rfl (by(first|omega|(simp;omega))) rfl) ?_
   refine gZ (bm (us:=(zs.set (j+k) ((c+zs.getD (j+k) 0+xs.getD j 0*ys.getD k 0)%1000000000)).map (CellD.i .u32)) fY rfl rfl rfl rfl (by simp;omega) (qX (by(first|omega|(simp;omega)))) rfl) ?_
   refine bj<|ah<|ar (kv (r:=(c+zs.getD (j+k) 0+xs.getD j 0*ys.getD k 0)/1000000000) rfl rfl (by omega) (by rw[tK (by omega)];exact jk (by omega) (by omega)) rfl) ?_
   refine ah ?_
   refine ar (cr ((k:Int)+1) (bL (by(first|omega|(simp;omega))) (by(first|omega|(simp;omega)))) rfl) ?_
   exact⟨⟨(k+1,(c+zs.getD (j+k) 0+xs.getD j 0*ys.getD k 0)/1000000000,zs.set (j+k) ((c+zs.getD (j+k) 0+xs.getD j 0*ys.getD k 0)%1000000000)),hI.step hLxs hLys hj hk rfl⟩,aB ⟨rfl,rfl,rfl,rfl,rfl,by rw[show((k+1:Nat):Int)=(k:Int)+1 from by omega];rfl,trivial⟩ ⟨rfl,trivial⟩ rfl,by show ys.length-(k+1)<ys.length-k;omega⟩
  ·have hk:k=ys.length:=by simp only[decide_eq_false_iff_not] at hc2;omega
   refine bG<|bo<|bR 4 ?_
   refine a7 (cr ((j:Int)+(ys.length:Int)) (bL (by(first|omega|(simp;omega))) (by(first|omega|(simp;omega)))) rfl) ?_
   refine bR 1<|a7 (cS (r:=c) gh jR rfl (rM (by omega) (by omega)) rfl) ?_
   refine a7 (bq jv rfl rfl (by(first|omega|(simp;omega))) rfl) ?_
   refine gZ (bm (us:=(zs.set (j+ys.length) c).map (CellD.i .u32)) fY rfl rfl rfl rfl (by simp;omega) (qX (by(first|omega|(simp;omega)))) rfl) ?_
   refine bj<|ah ?_
   refine ar (cr ((j:Int)+1) (bL (by(first|omega|(simp;omega))) (by(first|omega|(simp;omega)))) rfl) ?_
   exact⟨⟨(j+1,zs.set (j+ys.length) c),hI.row hj hk⟩,aB ⟨rfl,rfl,rfl,by rw[show((j+1:Nat):Int)=(j:Int)+1 from by omega];rfl,trivial⟩ ⟨rfl,trivial⟩ rfl,by show xs.length-(j+1)<xs.length-j;omega⟩
 ·have hj:j=xs.length:=by simp only[decide_eq_false_iff_not] at hc1;omega
  have hfin:val xs*val ys=val zs:=(hI.done hj).symm
  have hLf:Lim zs:=hI.L
  refine bG<|aa ?_
  refine vJ (t:=5) (zs:=zs) (ys:=zs) rfl rfl (by first|omega|(simp;omega)|simp) (by omega) (by omega) (iB (by first|omega|(simp;omega)|simp)) ?_
  refine ah<|ac rfl (lF hLf (by omega))<|bb ?_
  rw[hfin]
  exact ai (al ae)
theorem J7 (hLxs:Lim xs) (hn:xs.length≤100000000) (h0:0≤m) (h1:m<1000000000):Ok Tryz.prog 275 [.c (cM xs),.c (.i .u32 m)] [.c (cL (val xs*m))]:=by
 have hv1:val [m]=m:=by simp[val]
 refine bU Tryz.func275 rfl<|ar (wM xj rfl rfl) ?_
 refine ac rfl (lF (Lim.nil.cons h0 h1) (dV rfl))<|ac rfl (Ea hLxs (bZ _) hn (iA (x:=val [m]) (k:=100000000) (by rw[hv1];exact iw (by omega) (by omega) (by omega))))<|ai ?_
 rw[show val xs*m=val xs*val (dG (val [m]).natAbs) from by rw[cm,show(((val [m]).natAbs:Nat):Int)=m from by simp[val];omega]]
 exact al ae
theorem Gn (hLxs:Lim xs) (hLys:Lim ys) (nX:Nrm xs) (nY:Nrm ys) (hn:xs.length≤100000000) (_hm:ys.length≤100000000):Ok Tryz.prog 214 [.c (cM xs),.c (cM ys)] [.c (.i .i64 (eL (val xs) (val ys)))]:=by
 refine fD Tryz.func214 41 [.tmp 4] rfl<|aa<|ah<|aa<|aa<|ah ?_
 refine aX rfl (fun hc1=>?_) (fun hc1=>?_)
 ·have hne:xs.length≠ys.length:=by simp only[bne_iff_ne,ne_eq] at hc1;omega
  refine aa<|aa<|ah ?_
  refine aX rfl (fun hc2=>?_) (fun hc2=>?_)
  ·have hfin:eL (val xs) (val ys)= -1:=fy (Ba nY hLxs hLys (by simp only[decide_eq_true_eq] at hc2;omega))
   refine aa<|ah<|bb ?_
   rw[hfin]
   exact ai (al ae)
  ·have hfin:eL (val xs) (val ys)=1:=fF (Ba nX hLys hLxs (by simp only[decide_eq_false_iff_not] at hc2;omega))
   refine aJ<|aa<|ah<|bb ?_
   rw[hfin]
   exact ai (al ae)
 ·have heq:xs.length=ys.length:=by simp only[bne_eq_false_iff_eq] at hc1;omega
  refine aJ<|aa<|aa<|ah ?_
  refine ar (cr ((xs.length:Int)-1) (bT (by(first|omega|(simp;omega))) (by(first|omega|(simp;omega)))) rfl) ?_
  refine aT<|bF (ι:={j:Nat // j≤xs.length∧xs.drop j=ys.drop j}) (fun i=>⟨41,[(0,.v (.c (cM xs))),(1,.v (.c (cM ys))),(5,.v (.c (.i .i64 ((i.1:Int)-1))))],[]⟩) (fun i=>i.1) ⟨xs.length,cK _,by rw[qz (cK _),qz (by omega)]⟩ (aB ⟨rfl,rfl,rfl,trivial⟩ trivial rfl) ?_
  rintro⟨j,hj,hD⟩
  show Dw _ _ ⟨41,[(0,.v (.c (cM xs))),(1,.v (.c (cM ys))),(5,.v (.c (.i .i64 ((j:Int)-1))))],[]⟩ _
  refine aa<|aa<|ah ?_
  refine aX rfl (fun hc3=>?_) (fun hc3=>?_)
  ·obtain⟨q,rfl⟩: ∃q,j=q+1:=⟨j-1,by simp only[decide_eq_true_eq] at hc3;omega⟩
   have e1:=getD_some (xs:=xs) (i:=q) (by omega)
   have e2:=getD_some (xs:=ys) (i:=q) (by omega)
   refine qu (σ':=⟨41,[(0,.v (.c (cM xs))),(1,.v (.c (cM ys))),(5,.v (.c (.i .i64 (q:Int))))],[]⟩) (aB ⟨rfl,rfl,by rw[show(q:Int)=((q+1:Nat):Int)-1 from by omega];rfl,trivial⟩ trivial rfl) ?_
   refine aJ<|aa<|aT<|aa<|aa<|di 9 [] ?_
   refine aq (bJ jv rfl rfl (by(first|omega|(simp;omega))) (jM _) rfl rfl) ?_
   refine aq (dd fY rfl (ll (i:=q) (by(first|omega|(simp;omega)))) rfl) ?_
   refine aq (bJ jv rfl rfl (by(first|omega|(simp;omega))) (jM _) rfl rfl) ?_
   refine aq (dd fY rfl (ll (i:=q) (by(first|omega|(simp;omega)))) rfl) ?_
   refine aX rfl (fun hc4=>?_) (fun hc4=>?_)
   ·have hfin:eL (val xs) (val ys)= -1:=fy (EA hLxs hLys e1 e2 hD (by simpa using hc4))
    refine aa<|ah<|bb ?_
    rw[hfin]
    exact ai (al ae)
   ·have hlt: ¬xs.getD q 0<ys.getD q 0:=by simpa using hc4
    refine aJ<|aa<|di 9 [] ?_
    refine aq (bJ jv rfl rfl (by(first|omega|(simp;omega))) (jM _) rfl rfl) ?_
    refine aq (dd fY rfl (ll (i:=q) (by(first|omega|(simp;omega)))) rfl) ?_
    refine aq (bJ jv rfl rfl (by(first|omega|(simp;omega))) (jM _) rfl rfl) ?_
    refine aq (dd fY rfl (ll (i:=q) (by(first|omega|(simp;omega)))) rfl) ?_
    refine aX rfl (fun hc5=>?_) (fun hc5=>?_)
    ·have hfin:eL (val xs) (val ys)=1:=fF (EA hLys hLxs e2 e1 hD.symm (by simpa using hc5))
     refine aa<|ah<|bb ?_
     rw[hfin]
     exact ai (al ae)
    ·have hgt: ¬xs.getD q 0>ys.getD q 0:=by simpa using hc5
     refine aJ<|ah ?_
     refine ar (cr ((q:Int)-1) (bT (by(first|omega|(simp;omega))) (by(first|omega|(simp;omega)))) rfl) ?_
     exact⟨⟨q,by omega,MB (by omega) (by omega) hD (by omega)⟩,aB ⟨rfl,rfl,rfl,trivial⟩ trivial rfl,by show q<q+1;omega⟩
  ·have hz:j=0:=by simp only[decide_eq_false_iff_not] at hc3;omega
   have hfin:eL (val xs) (val ys)=0:=by subst hz;simp only[tR] at hD;rw[hD];exact kQ rfl
   refine bG<|aa<|ah<|bb ?_
   rw[hfin]
   exact ai (al ae)
theorem zG (hLxs:Lim xs) (hn:xs.length≤100000000) (hb:val xs≤18446744073709551615):Ok Tryz.prog 217 [.c (cM xs)] [.c (.i .u64 (val xs))]:=by
 refine fD Tryz.func217 21 [.tmp 2] rfl<|aa<|ah<|aa<|ah<|aa<|aa<|ah ?_
 refine ar (cr ((xs.length:Int)-1) (bT (by(first|omega|(simp;omega))) (by(first|omega|(simp;omega)))) rfl) ?_
 refine aT<|bF (ι:={t:Nat×Int // ShInv xs t.1 t.2}) (fun i=>⟨21,[(0,.v (.c (cM xs))),(3,.v (.c (.i .u64 i.1.2))),(4,.v (.c (.i .i64 ((i.1.1:Int)-1))))],[]⟩) (fun i=>i.1.1) ⟨(xs.length,0),⟨Nat.le_refl _,mV 0,by rw[tI];simp⟩⟩ (aB ⟨rfl,rfl,rfl,trivial⟩ trivial rfl) ?_
 rintro⟨⟨j,r⟩,hI⟩
 replace hI:ShInv xs j r:=hI
 have g5:=hI.le
 have g3:=hI.r0
 show Dw _ _ ⟨21,[(0,.v (.c (cM xs))),(3,.v (.c (.i .u64 r))),(4,.v (.c (.i .i64 ((j:Int)-1))))],[]⟩ _
 refine aa<|aa<|ah ?_
 refine aX rfl (fun hc1=>?_) (fun hc1=>?_)
 ·obtain⟨q,rfl⟩: ∃q,j=q+1:=⟨j-1,by simp only[decide_eq_true_eq] at hc1;omega⟩
  have hS:=hI.step hLxs
  have hB:=hS.bound hLxs
  have g1:=dH hLxs q
  refine qu (σ':=⟨21,[(0,.v (.c (cM xs))),(3,.v (.c (.i .u64 r))),(4,.v (.c (.i .i64 (q:Int))))],[]⟩) (aB ⟨rfl,rfl,by rw[show(q:Int)=((q+1:Nat):Int)-1 from by omega];rfl,trivial⟩ trivial rfl) ?_
  refine aJ<|aa<|aT<|ah ?_
  refine ar (cr (r*1000000000) (iT (by(first|omega|(simp;omega))) (by(first|omega|(simp;omega)))) rfl) ?_
  refine ar (bJ jv rfl rfl (by(first|omega|(simp;omega))) (jM _) rfl rfl) ?_
  refine ar (dd fY rfl (ll (i:=q) (by(first|omega|(simp;omega)))) rfl) ?_
  refine ar (cS (r:=xs.getD q 0) jR gh rfl (jk (by(first|omega|(simp;omega))) (by(first|omega|(simp;omega)))) rfl) ?_
  refine ar (cr ((r*1000000000)+(xs.getD q 0)) (gy (by(first|omega|(simp;omega))) (by(first|omega|(simp;omega)))) rfl) ?_
  refine ah ?_
  refine ar (cr ((q:Int)-1) (bT (by(first|omega|(simp;omega))) (by(first|omega|(simp;omega)))) rfl) ?_
  exact⟨⟨(q,r*1000000000+xs.getD q 0),hS⟩,aB ⟨rfl,rfl,rfl,trivial⟩ trivial rfl,by show q<q+1;omega⟩
 ·have hz:j=0:=by simp only[decide_eq_false_iff_not] at hc1;omega
  have hfin:val xs=r:=by subst hz;have:=hI.v;simp[val,sI] at this;omega
  refine bG<|aa<|ah<|bb ?_
  rw[hfin]
  exact ai (al ae)
theorem Jy (hL:Lim xs) (hn:xs.length≤1000000000):Ok Tryz.prog 195 [.c (.b neg),.c (cM xs)] [dI (sg neg (val xs))]:=by
 refine bU Tryz.func195 rfl<|ac rfl (lF hL (by omega)) ?_
 refine kT (bp rfl) (fun c1 hb1=>?_)
 cases c1
 ·have hfin:dI (sg neg (val xs))=.a ([.b false]++[cL (val xs)]):=by rw[hb1,du];unfold dI cI;rw[show decide (val xs<0)=false from by have:=dg hL;simp;omega];rfl
  refine ar (aC (us:=([.b false]++[cL (val xs)])) Kb H4 rfl rfl rfl) ?_
  refine ai ?_
  rw[hfin]
  exact a8 fh rfl ae
 ·have hfin:dI (sg neg (val xs))=.a ([.b (decide (((dG (val xs).natAbs).length:Int)>0))]++[cL (val xs)]):=by rw[hb1];exact Tv (dg hL)
  refine ar (aC (us:=([.b (decide ((((dG (val xs).natAbs).length:Int))>0))]++[cL (val xs)])) Kb H4 rfl rfl rfl) ?_
  refine ai ?_
  rw[hfin]
  exact a8 fh rfl ae
theorem PT (h:0<r):dG r.toNat=(r%1000000000)::dG (r/1000000000).toNat:=by
 rw[AS (by omega)]
 congr 1
 ·omega
 ·congr 1;omega
set_option maxHeartbeats 1000000 in
set_option maxRecDepth 10000 in
theorem I8 (u:Int) (w:World) (h0:0≤u) (h1:u≤18446744073709551615):
 Calls Tryz.prog 196 #[.int .u64 u] w fun e w'=> ∃v,e=.returned v∧w'.ownsRow w.heap.size 192 1 v (dG u.toNat).length ((dG u.toNat).map (Value.int .u32))∧Below w.heap.size w w':=by
 obtain⟨i0,hi0,hz0,hz1,hz2⟩:=info_parts ou
 have hlen:(dG u.toNat).length≤3:=by
  refine(jw _).len (bZ _) ?_
  rw[cm]
  have h3:pw 3=1000000000000000000000000000:=by decide
  omega
 go_enter Tryz.func196,Tryz.ntmps196
 go_wp2_with fail
 go_loopw [0,3] (fun n v wr=> ∃(r:Int) (k:Nat) (zs:List Int),n=.int .u64 r∧0≤r∧r≤u∧wr.ownsRow w.heap.size 192 1 v k (zs.map (Value.int .u32))∧Below w.heap.size w wr∧Hid (zs.length=k∧dG u.toNat=zs++dG r.toNat))
  (fun n _ _=>(intOf n).toNat)
 case atStart=>exact⟨u,0,[],rfl,h0,mV _,qE _ _ _ _,fu _ _,rfl,rfl⟩
 case round=>
  obtain⟨r,k,zs,rfl,hr0,hru,hown,hbel,H⟩:=hrel
  have hz:=hbel.size
  by_cases hr:0<r
  ·have Hs:Hid ((zs++[r%1000000000]).length=k+1∧dG u.toNat=(zs++[r%1000000000])++dG (r/1000000000).toNat):=by
    obtain⟨l1,l2⟩:=H.out
    refine⟨by simp[l1],?_⟩
    rw[l2,PT hr];simp
   have hk:k≤3:=by
    obtain⟨l1,l2⟩:=H.out
    rw[l2] at hlen
    simp at hlen;omega
   clear H
   have e1:r.tmod 1000000000=r%1000000000:=lk hr0
   have e2:IntKind.u32.wrap (r%1000000000)=r%1000000000:=rM (by omega) (by omega)
   have e3:r.tdiv 1000000000=r/1000000000:=tK hr0
   have e4:IntKind.u64.wrap (r/1000000000)=r/1000000000:=jk (by omega) (by omega)
   go_wp2_with (at_builtin;go_must (refine wpList_append_own _ rfl _ _ 31 rfl w.heap.size 192 i0 (.int .u32 0) 1 4 oM hi0 hz0 hz1 hz2 rfl (by decide) _ _ _ rfl (hown.alloc _) ⟨wr.heap.size,0,none⟩ 1 1 [.int .u32 _] rfl rfl (cell_one_new _ _ _) (by simp[Value.oneCell']) (by unfold maxLen;omega) (by omega) (by simp;omega) ?_);intro v' w1 hown' hgrow' _)
   go_roundw
   case rel=>exact⟨r/1000000000,k+1,_,by first|rfl|(simp[e3,e4]),by omega,by omega,by simpa using hown',jx hown hbel hz hgrow',Hs⟩
   case measure=>simp[intOf]<;>omega
  ·obtain rfl:r=0:=by omega
   have Hs:Hid (zs.length=k∧dG u.toNat=zs):=by
    obtain⟨l1,l2⟩:=H.out
    refine⟨l1,?_⟩
    rw[l2];simp[lC]
   clear H
   go_wp2
   go_ret
   obtain⟨l1,l2⟩:=Hs.out
   exact⟨_,rfl,by rw[l2,l1];exact hown,hbel⟩
theorem r7 (h0:0≤u) (h1:u≤18446744073709551615):Ok Tryz.prog 196 [.c (.i .u64 u)] [.c (cL u)]:=⟨by kernel_rfl,fun av vs w hav h=>by
 obtain⟨vs⟩:=vs
 match vs,h.1,h with
 |[v],_,h=>
  obtain rfl:=jX h.uncons.1
  refine(I8 u w h0 h1).mono ?_
  rintro e w' ⟨v,rfl,g1,g2⟩
  obtain⟨A,c,rfl⟩:=CU g1
  refine⟨_,rfl,?_,g2⟩
  have hn:u.natAbs=u.toNat:=by omega
  have hsl:=Ow.sl ⟨g1,bZ _⟩
  have:=xb (av:=av) hsl.1 hsl.2.1 hsl.2.2.1 (fun b off e hV=>by have:=Ow.fresh (k:=w.heap.size) (⟨g1,bZ _⟩:Ow w' w.heap.size _ _ _) (cK _) b off e;have:=hav b hV;omega)
  show RdC av w' _ (cL u)
  unfold cL
  rw[hn];exact this⟩
structure DInv (us:List Int) (V:Int) (N j:Nat) (R:Int) (zs:List Int):Prop where
 le:j≤us.length
 R0:0≤R
 RV:R<V
 L:Lim zs
 len:zs.length=N
 hN:us.length≤N
 v:val (us.drop j)=val ((zs.take us.length).drop j)*V+R
theorem DY (h:i<xs.length):val (xs.drop i)=xs.getD i 0+1000000000*val (xs.drop (i+1)):=by
 rw[pr h,eY]
 grind
theorem DInv.start (hV:0<V) (hN:us.length≤N):DInv us V N us.length 0 (List.replicate N 0):=
 ⟨Nat.le_refl _,mV _,hV,Lim.zeros _,by simp,hN,by rw[qz (cK _),qz (by simp;omega)];simp[val]⟩
theorem DInv.step {q R':Int}(h:DInv us V N (i+1) R zs) (_hL:Lim us) (hq0:0≤q) (hq1:q<1000000000) (hR0:0≤R') (hRV:R'<V) (he:us.getD i 0+1000000000*R=q*V+R'):DInv us V N i R' (zs.set i q):=by
 have hi:i<us.length:=h.le
 have hlen:=h.len
 have hN:=h.hN
 refine⟨by omega,hR0,hRV,h.L.set hq0 hq1,by simp[hlen],hN,?_⟩
 have e1:((zs.set i q).take us.length)=(zs.take us.length).set i q:=by rw[List.take_set]
 have hi2:i<((zs.take us.length).set i q).length:=by grind
 rw[DY hi,h.v,e1,DY hi2]
 have e3:((zs.take us.length).set i q).drop (i+1)=(zs.take us.length).drop (i+1):=by rw[List.drop_set_of_lt (by omega)]
 grind
theorem DInv.done (h:DInv us V N 0 R zs):val us/V=val (zs.take us.length)∧val us%V=R:=by
 have hv:=h.v
 simp only[tR] at hv
 have h0:=h.R0
 have h1:=h.RV
 exact(Int.ediv_emod_unique (show 0<V by omega)).2 ⟨by rw[hv,tx V];omega,h0,h1⟩
theorem El (hR:0≤R) (hV:R<V) (hd:0≤d) (hd1:d<1000000000):0≤(d+1000000000*R)/V∧(d+1000000000*R)/V≤999999999:=by
 refine⟨Int.ediv_nonneg (by omega) (by omega),?_⟩
 have:(d+1000000000*R)/V<1000000000:=Int.ediv_lt_of_lt_mul (by omega) (by omega)
 omega
theorem Wd {T hi top:Int}(hV:top*pw n≤V) (htop:0<top) (hT:T<(hi+1)*pw n) (hT0:0≤T) (hVp:0<V):T/V≤hi/top:=by
 have h1:T/V*V≤T:=Int.ediv_mul_le _ (by omega)
 have h0:0≤T/V:=s9 hT0 (by omega)
 generalize T/V=q at*
 have h2:q*(top*pw n)≤q*V:=nh hV h0
 have hp:=dw n
 have h3:q*top*pw n<(hi+1)*pw n:=by grind
 have h4:q*top<hi+1:=Int.lt_of_mul_lt_mul_right h3 (by omega)
 exact(Int.le_ediv_iff_mul_le htop).2 (by omega)
structure HInv (rs:List Int) (n:Nat) (H:Int):Prop where
 h0:0≤H
 h1:H≤999999999999999999
 h:val rs<(H+1)*pw (n-1)
theorem TQ (hL:Lim rs) (hn:1≤n) (hl:rs.length=n+1):HInv rs n (rs.getD n 0*1000000000+rs.getD (n-1) 0):=by
 have g1:=dH hL n
 have g2:=dH hL (n-1)
 refine⟨by omega,by omega,?_⟩
 obtain⟨k,rfl⟩: ∃k,n=k+1:=⟨n-1,by omega⟩
 have e1:=nD (xs:=rs) (k:=k+1) (by omega)
 have e2:=nD (xs:=rs) (k:=k) (by omega)
 rw[dC (by omega),e2] at e1
 have h1:=fS (hL.take k)
 rw[e1,eu]
 grind
theorem Tg (hL:Lim rs) (hn:1≤n) (hl:rs.length=n):HInv rs n (rs.getD (n-1) 0):=by
 have g2:=dH hL (n-1)
 refine⟨by omega,by omega,?_⟩
 obtain⟨k,rfl⟩: ∃k,n=k+1:=⟨n-1,by omega⟩
 have e2:=nD (xs:=rs) (k:=k) (by omega)
 have h1:=fS (hL.take k)
 grind
theorem RB (hL:Lim rs) (hl:rs.length<n):HInv rs n 0:=by
 refine⟨by omega,by omega,?_⟩
 have h1:=fS hL
 have:=mJ (n:=rs.length) (m:=n-1) (by omega)
 omega
theorem HP (hL:Lim vs) (hN:Nrm vs) (hne:vs≠ []):0<vs.getD (vs.length-1) 0∧vs.getD (vs.length-1) 0*pw (vs.length-1)≤val vs:=by
 obtain⟨ys,y,e,hy⟩:=hN.last hne
 have hl:vs.length=ys.length+1:=by grind
 have hk:vs.length-1<vs.length:=by omega
 have e1:=nD hk
 have h1:=dg (hL.take (vs.length-1))
 have h2:=dH hL (vs.length-1)
 grind
theorem wk (h0:0≤r) (h:r<pw n):(dG r.natAbs).length≤n:=by
 refine(jw _).len (bZ _) ?_
 rw[cm];omega
theorem Yc {x y s:Int}(hs:0<s):(x*s)/(y*s)=x/y∧(x*s)%(y*s)=x%y*s:=by
 refine⟨Int.mul_ediv_mul_of_pos_left x y hs,?_⟩
 rw[tx x,tx y,Int.mul_emod_mul_of_pos _ _ hs,tx]
theorem FA (h:Sz k a):Sz k (a.natAbs:Int):=h.of_le (by omega)
theorem pq {b:Int}(ha:Sz 100000000 a) (hb:Sz 100000000 b):Ok Tryz.prog 214 [.c (cL a),.c (cL b)] [.c (.i .i64 (eL a.natAbs b.natAbs))]:=by
 have:=Gn (bZ a.natAbs) (bZ b.natAbs) (jw _) (jw _) (iA ha) (iA hb)
 rw[cm,cm] at this
 exact this
theorem Ur {b:Int}(ha:Sz 100000000 a) (hb:Sz 100000000 b):Ok Tryz.prog 273 [.c (cL a),.c (cL b)] [.c (cL ((a.natAbs:Int)+b.natAbs))]:=by
 have:=PO (bZ a.natAbs) (bZ b.natAbs) (iA ha) (iA hb)
 rw[cm,cm] at this
 exact this
theorem x5 {b:Int}(ha:Sz 100000000 a) (h:b.natAbs≤a.natAbs):Ok Tryz.prog 274 [.c (cL a),.c (cL b)] [.c (cL ((a.natAbs:Int)-b.natAbs))]:=by
 have:=MO (bZ a.natAbs) (bZ b.natAbs) (iA ha) ((jw _).len (bZ _) (by have:=fS (bZ a.natAbs);rw[cm] at this⊢;omega)) (by rw[cm,cm];omega)
 rw[cm,cm] at this
 exact this
theorem Oz {b:Int}(ha:Sz 100000000 a) (hb:Sz 100000000 b):Ok Tryz.prog 212 [.c (cL a),.c (cL b)] [.c (cL ((a.natAbs:Int)*b.natAbs))]:=by
 have:=Ea (bZ a.natAbs) (bZ b.natAbs) (iA ha) (iA hb)
 rw[cm,cm] at this
 exact this
theorem aah (ha:Sz 100000000 a) (h0:0≤m) (h1:m<1000000000):Ok Tryz.prog 275 [.c (cL a),.c (.i .u32 m)] [.c (cL ((a.natAbs:Int)*m))]:=by
 have:=J7 (bZ a.natAbs) (iA ha) h0 h1
 rw[cm] at this
 exact this
theorem jg (ha:Sz 100000000 a):Ok Tryz.prog 195 [.c (.b neg),.c (cL a)] [dI (sg neg (a.natAbs:Int))]:=by
 have:=Jy (neg:=neg) (bZ a.natAbs) (by have:=iA ha;omega)
 rw[cm] at this
 exact this
theorem Qf (hr:0≤r) (h0:0≤d) (h1:d<1000000000) (hl:(dG r.natAbs).length≤100000000):Ok Tryz.prog 215 [.c (cM (d::dG r.natAbs))] [.c (cL (d+1000000000*r))]:=by
 have:=lF (Lim.cons h0 h1 (bZ r.natAbs)) (by simp;omega)
 rw[eY,cm] at this
 rw[show((r.natAbs:Nat):Int)=r from by omega] at this
 exact this
theorem Iq (ha:a.natAbs≤18446744073709551615):Ok Tryz.prog 217 [.c (cL a)] [.c (.i .u64 (a.natAbs:Int))]:=by
 have:=zG (bZ a.natAbs) (by have h3:pw 3=1000000000000000000000000000:=by decide
                            have:=(jw a.natAbs).len (bZ _) (k:=3) (by rw[cm];omega)
                            omega) (by rw[cm];omega)
 rw[cm] at this
 exact this
end Go.Proofs.YtkmdgigkbhmilaaGreat
