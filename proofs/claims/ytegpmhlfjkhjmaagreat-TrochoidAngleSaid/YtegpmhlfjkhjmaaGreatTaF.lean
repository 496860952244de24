/-Data:runs of simple operations in one step,computed. -/
import Derived.Test.YtegpmhlfjkhjmaaGreatTaE
import Derived.Test.YtegpmhlfjkhjmaaGreatProg
namespace Go.Proofs.YtegpmhlfjkhjmaaGreat
open Go Go.RowKit
variable {ops:Array Oper}{B:BF}{z:CellD}{Q:Exit→St→Prop}{S a b c d m r u v x y:Int}{ki:IntKind}{tm:List (Nat×DV)}{bx nb:List (Nat×TypeId×List CellD)}{cs:List CellD}{p q rs xs ys zs:List Int}{hs sd:List Nat}{l os pre tail:List Oper}{N by_ i id j k n:Nat}{op:Op}{P:Program}{σ:St}{K:St→Prop}{T:TF}{U e t1 t2 xt yt:TypeId}
variable {ty:TypeId}{pos:String}{af:Array Edge}{g:Option (Nat×Bool)}{dst:Option Nat}
theorem ny:type_of% @Int.mul_zero:=@Int.mul_zero
theorem pc:type_of% @Int.fdiv_eq_ediv_of_nonneg:=@Int.fdiv_eq_ediv_of_nonneg
theorem re:type_of% @List.forall_mem_cons:=@List.forall_mem_cons
theorem uZ:type_of% @Bool.cond_eq_ite:=@Bool.cond_eq_ite
theorem rS:type_of% @Int.mul_ediv_add_emod:=@Int.mul_ediv_add_emod
theorem rJ:type_of% @Int.tmod_eq_emod_of_nonneg:=@Int.tmod_eq_emod_of_nonneg
theorem AY:type_of% @Int.ediv_le_self:=@Int.ediv_le_self
theorem Ax:type_of% @Int.eq_ofNat_of_zero_le:=@Int.eq_ofNat_of_zero_le
structure Tb where
 ty:Nat→Option (Bool×Nat)
 fd:Nat→Nat→Option Nat
 sl:Nat→Option Nat
structure TbOk (P:Program) (b:Tb):Prop where
 ty: ∀U r,b.ty U=some r→sG P U=some r
 fd: ∀U f r,b.fd U f=some r→PD P U f=some r
 sl: ∀U r,b.sl U=some r→xU P U=some r
inductive SA where
 |sk
 |v (x:DV)
 |bx (U:TypeId) (cs:List CellD)
 |st (k:Nat) (U:TypeId) (cs:List CellD)
def SA.eff:SA→Eff
 | .sk=>.skip
 | .v x=>.r x
 | .bx U cs=>.a U cs none
 | .st k U cs=>.s k U cs
def LK (b:Tb) (T:TF) (B:BF):Op→Option SA
 | .move x=>match cO T x with
   |some dv=>some (.v dv)
   |none=>none
 | .assign x=>match cO T x with
   |some dv=>some (.v dv)
   |none=>none
 | .extract x i=>match cO T x with
   |some (.t ds)=>match ds[i]? with
    |some d=>some (.v (.v d))
    |none=>none
   |_=>none
 | .binOp op _ x y _=>match cO T x,cO T y with
   |some (.v (.c (.i k1 a))),some (.v (.c (.i k2 e)))=>match decEq k1 k2 with
    | .isTrue _=>match Vt op a e with
      |some r=>some (.v (.v (.c (.b r))))
      |none=>none
    | .isFalse _=>none
   |_,_=>none
 | .pick c x y=>match cO T c with
   |some (.v (.c (.b true)))=>match cO T x with
    |some dv=>match mN dv with
     |none=>some (.v dv)
     |some _=>none
    |none=>none
   |some (.v (.c (.b false)))=>match cO T y with
    |some dv=>match mN dv with
     |none=>some (.v dv)
     |some _=>none
    |none=>none
   |_=>none
 | .unOp .not _xt x=>match cO T x with
   |some (.v (.c (.b r)))=>some (.v (.v (.c (.b (!r)))))
   |_=>none
 | .box U x=>match cO T x with
   |some (.v (.a us))=>some (.bx U us)
   |some (.v (.c u))=>some (.bx U [u])
   |_=>none
 | .fieldAddr U x f=>match cO T x,b.fd U f with
   |some (.p k off),some o'=>some (.v (.p k (off+o')))
   |_,_=>none
 | .load U x=>match cO T x with
   |some (.p k off)=>match B k,b.ty U with
    |some (_,cs),some (true,n)=>bif Nat.beq off 0&&Nat.beq cs.length n then some (.v (.v (.a cs))) else none
    |some (_,cs),some (false,_)=>match cs[off]? with
     |some u=>some (.v (.v (.c u)))
     |none=>none
    |_,_=>none
   |_=>none
 | .store U ax x=>match cO T ax,cO T x,b.ty U with
   |some (.p k off),some (.v (.a us)),some (true,m)=>match B k with
    |some (W,cs)=>bif Nat.beq off 0&&Nat.beq us.length m&&Nat.beq cs.length m then some (.st k W us) else none
    |none=>none
   |_,_,_=>none
 | .call ⟨.builtin .len,⟨[x]⟩,⟨[U]⟩⟩=>match cO T x,b.sl U with
   |some (.v (.c (.s n _))),some _=>some (.v (.v (.c (.i .i64 n))))
   |_,_=>none
 |_=>none
def Fb (b:Tb) (ops:Array Oper) (T:TF) (B:BF) (o:Oper):Option SA:=
 match gd ops o T with
 |some true=>LK b T B o.op
 |some false=>some .sk
 |none=>none
section
variable {P:Program}{b:Tb}{ops:Array Oper}{T:TF}{B:BF}
theorem HH (hb:TbOk P b) {s:SA}(hg:gd ops ⟨dst,op,ty,pos,af,g⟩ T=some true) (h:LK b T B op=some s)
 (hd: ∀k U cs,s=.st k U cs→dst=none):Sem P ops ⟨dst,op,ty,pos,af,g⟩ T B s.eff:=by
 unfold LK at h
 split at h
 ·split at h
  ·rename_i e;cases h;exact HT e hg
  ·cases h
 ·split at h
  ·rename_i e;cases h;exact J0 e hg
  ·cases h
 ·split at h
  ·rename_i e
   split at h
   ·rename_i e2;cases h;exact II e e2 hg
   ·cases h
  ·cases h
 ·split at h
  ·rename_i e1 e2
   split at h
   ·rename_i hk _
    subst hk
    split at h
    ·rename_i e3;cases h;exact LC e1 e2 e3 hg
    ·cases h
   grind
  grind
 ·split at h
  ·rename_i e
   split at h
   ·rename_i e2
    split at h
    ·rename_i e3;cases h;exact Jo (b:=true) e e2 e3 hg
    grind
   grind
  ·rename_i e
   split at h
   ·rename_i e2
    split at h
    ·rename_i e3;cases h;exact Jo (b:=false) e e2 e3 hg
    grind
   grind
  grind
 ·split at h
  ·rename_i e;cases h;exact Wq e hg
  grind
 ·split at h
  ·rename_i e;cases h;exact Ot e hg
  ·rename_i e;cases h;exact Oe e hg
  grind
 ·split at h
  ·rename_i e1 e2;cases h;exact M5 (hb.fd _ _ _ e2) e1 hg
  grind
 ·split at h
  ·rename_i e
   split at h
   ·rename_i e1 e2
    rw[uZ] at h
    split at h
    ·rename_i hc
     cases h
     rw[di] at hc
     have h0:=jv hc.1
     have hl:=jv hc.2
     subst h0
     exact cD (hb.ty _ _ e2) e e1 (by rw[wC];exact kZ (qe hl)) hl hg
    grind
   ·rename_i e1 e2
    split at h
    ·rename_i e3;cases h;exact pQ (hb.ty _ _ e2) e e1 e3 hg
    grind
   grind
  grind
 ·split at h
  ·rename_i e1 e2 e3
   split at h
   ·rename_i e4
    rw[uZ] at h
    split at h
    ·rename_i hc
     cases h
     rw[di,di] at hc
     have h0:=jv hc.1.1
     subst h0
     have:=hd _ _ _ rfl
     subst this
     exact dN (hb.ty _ _ e3) e1 e2 e4 (jv hc.1.2) (jv hc.2) hg
    grind
   grind
  grind
 ·split at h
  ·rename_i e1 e2;cases h;exact V9 (hb.sl _ _ e2) e1 hg
  grind
 grind
theorem iG (hb:TbOk P b) {s:SA}(h:Fb b ops T B ⟨dst,op,ty,pos,af,g⟩=some s)
 (hd: ∀k U cs,s=.st k U cs→dst=none):Sem P ops ⟨dst,op,ty,pos,af,g⟩ T B s.eff:=by
 unfold Fb at h
 split at h
 ·rename_i e;exact HH hb e h hd
 ·rename_i e;cases h;exact tg e
 grind
end
section
variable (P:Program) (b:Tb) (ops:Array Oper) (K:St→Prop) (n:Nat)
def Yq:Nat→List Oper→List (Nat×DV)→List (Nat×TypeId×List CellD)→Prop
 |0,os,tm,bx=>dl P ops os ⟨n,tm,bx⟩ K
 |_+1,[],_,_=>False
 |k+1,o::os,tm,bx=>match o.dst,Fb b ops (fun s=>aQ s tm) (fun l=>aQ l bx) o with
  |some t,some .sk=>Yq k os ((t,.u)::tm) bx
  |some t,some (.v x)=>Yq k os ((t,x)::tm) bx
  |some t,some (.bx U cs)=>match aQ t bx with
   |none=>Yq k os ((t,.p t 0)::tm) ((t,U,cs)::bx)
   |some _=>False
  |none,some (.st j U cs)=>Yq k os tm ((j,U,cs)::bx)
  |_,_=>False
variable {P b ops K n}
theorem Qy (hb:TbOk P b): ∀ {k:Nat}{os:List Oper}{tm:List (Nat×DV)}{bx:List (Nat×TypeId×List CellD)},Yq P b ops K n k os tm bx→dl P ops os ⟨n,tm,bx⟩ K
 |0,os,tm,bx,h=>h
 |k+1,[],tm,bx,h=>h.elim
 |k+1,⟨dst,op,ty,pos,af,g⟩::os,tm,bx,h=>by
  unfold Yq at h
  split at h
  ·rename_i t e1 e2
   cases e1
   exact xq (iG hb e2 (fun _ _ _ e=>by cases e)) (Qy hb h)
  ·rename_i t x e1 e2
   cases e1
   exact aO (iG hb e2 (fun _ _ _ e=>by cases e)) (Qy hb h)
  ·rename_i t U cs e1 e2
   cases e1
   split at h
   ·rename_i e3;exact rQ (iG hb e2 (fun _ _ _ e=>by cases e)) e3 (Qy hb h)
   ·exact h.elim
  ·rename_i j U cs e1 e2
   cases e1
   exact jk (iG hb e2 (fun _ _ _ _=>rfl)) (Qy hb h)
  ·exact h.elim
end
section
variable (P:Program) (b:Tb) (ops:Array Oper) (K:St→Prop) (n:Nat)
def YS:List Oper→List (Nat×DV)→List (Nat×TypeId×List CellD)→Prop
 |[],tm,bx=>K ⟨n,tm,bx⟩
 |o::os,tm,bx=>match o.dst,Fb b ops (fun s=>aQ s tm) (fun l=>aQ l bx) o with
  |some t,some .sk=>YS os ((t,.u)::tm) bx
  |some t,some (.v x)=>YS os ((t,x)::tm) bx
  |some t,some (.bx U cs)=>match aQ t bx with
   |none=>YS os ((t,.p t 0)::tm) ((t,U,cs)::bx)
   |some _=>False
  |none,some (.st j U cs)=>YS os tm ((j,U,cs)::bx)
  |_,_=>False
variable {P b ops K n}
theorem HR (hb:TbOk P b): ∀ {os:List Oper}{tm:List (Nat×DV)}{bx:List (Nat×TypeId×List CellD)},YS b ops K n os tm bx→dl P ops os ⟨n,tm,bx⟩ K
 |[],tm,bx,h=>h
 |⟨dst,op,ty,pos,af,g⟩::os,tm,bx,h=>by
  unfold YS at h
  split at h
  ·rename_i t e1 e2
   cases e1
   exact xq (iG hb e2 (fun _ _ _ e=>by cases e)) (HR hb h)
  ·rename_i t x e1 e2
   cases e1
   exact aO (iG hb e2 (fun _ _ _ e=>by cases e)) (HR hb h)
  ·rename_i t U cs e1 e2
   cases e1
   split at h
   ·rename_i e3;exact rQ (iG hb e2 (fun _ _ _ e=>by cases e)) e3 (HR hb h)
   ·exact h.elim
  ·rename_i j U cs e1 e2
   cases e1
   exact jk (iG hb e2 (fun _ _ _ _=>rfl)) (HR hb h)
  ·exact h.elim
end
section
variable (P:Program) (b:Tb) (ops:Array Oper) (hs:List Nat) (K:Sq→Prop) (n:Nat)
def stq:Nat→List Oper→List (Nat×DV)→List (Nat×TypeId×List CellD)→List (Nat×TypeId×List CellD)→List Nat→Prop
 |0,os,tm,bx,nb,sd=>dq P ops hs os ⟨⟨n,tm,bx⟩,nb,sd⟩ K
 |_+1,[],_,_,_,_=>False
 |k+1,o::os,tm,bx,nb,sd=>match o.dst,Fb b ops (fun s=>aQ s tm) (hid hs (fun l=>aQ l bx)) o with
  |some t,some .sk=>stq k os ((t,.u)::tm) bx nb sd
  |some t,some (.v x)=>stq k os ((t,x)::tm) bx nb sd
  |some t,some (.bx U cs)=>match aQ t (nb++bx) with
   |none=>stq k os ((t,.p t 0)::tm) bx ((t,U,cs)::nb) sd
   |some _=>False
  |_,_=>False
variable {P b ops hs K n}
theorem Vu (hb:TbOk P b): ∀ {k:Nat}{os:List Oper}{tm:List (Nat×DV)}{bx nb:List (Nat×TypeId×List CellD)}{sd:List Nat},stq P b ops hs K n k os tm bx nb sd→dq P ops hs os ⟨⟨n,tm,bx⟩,nb,sd⟩ K
 |0,os,tm,bx,nb,sd,h=>h
 |k+1,[],tm,bx,nb,sd,h=>h.elim
 |k+1,⟨dst,op,ty,pos,af,g⟩::os,tm,bx,nb,sd,h=>by
  unfold stq at h
  split at h
  ·rename_i t e1 e2
   cases e1
   exact B7 (iG hb e2 (fun _ _ _ e=>by cases e)) (Vu hb h)
  ·rename_i t x e1 e2
   cases e1
   exact cK (iG hb e2 (fun _ _ _ e=>by cases e)) (Vu hb h)
  ·rename_i t U cs e1 e2
   cases e1
   split at h
   ·rename_i e3;exact AU (iG hb e2 (fun _ _ _ e=>by cases e)) e3 (Vu hb h)
   ·exact h.elim
  ·exact h.elim
end
section
variable (P:Program) (b:Tb) (ops:Array Oper) (hs:List Nat) (K:Sq→Prop) (n:Nat)
def sqe:List Oper→List (Nat×DV)→List (Nat×TypeId×List CellD)→List (Nat×TypeId×List CellD)→List Nat→Prop
 |[],tm,bx,nb,sd=>K ⟨⟨n,tm,bx⟩,nb,sd⟩
 |o::os,tm,bx,nb,sd=>match o.dst,Fb b ops (fun s=>aQ s tm) (hid hs (fun l=>aQ l bx)) o with
  |some t,some .sk=>sqe os ((t,.u)::tm) bx nb sd
  |some t,some (.v x)=>sqe os ((t,x)::tm) bx nb sd
  |some t,some (.bx U cs)=>match aQ t (nb++bx) with
   |none=>sqe os ((t,.p t 0)::tm) bx ((t,U,cs)::nb) sd
   |some _=>False
  |_,_=>False
variable {P b ops hs K n}
theorem Mi (hb:TbOk P b): ∀ {os:List Oper}{tm:List (Nat×DV)}{bx nb:List (Nat×TypeId×List CellD)}{sd:List Nat},sqe b ops hs K n os tm bx nb sd→dq P ops hs os ⟨⟨n,tm,bx⟩,nb,sd⟩ K
 |[],tm,bx,nb,sd,h=>h
 |⟨dst,op,ty,pos,af,g⟩::os,tm,bx,nb,sd,h=>by
  unfold sqe at h
  split at h
  ·rename_i t e1 e2
   cases e1
   exact B7 (iG hb e2 (fun _ _ _ e=>by cases e)) (Mi hb h)
  ·rename_i t x e1 e2
   cases e1
   exact cK (iG hb e2 (fun _ _ _ e=>by cases e)) (Mi hb h)
  ·rename_i t U cs e1 e2
   cases e1
   split at h
   ·rename_i e3;exact AU (iG hb e2 (fun _ _ _ e=>by cases e)) e3 (Mi hb h)
   ·exact h.elim
  ·exact h.elim
end
theorem Se {f:Nat→Bool}(h:(List.range N).all f=true): ∀U,U<N→f U=true:=by grind
theorem TbOk.of {t:Nat→Option (Bool×Nat)}{f:Nat→Nat→Option Nat}{s:Nat→Option Nat}
 (h1:((List.range N).all fun U=>match t U with|none=>true|some r=>decide (sG P U=some r))=true)
 (h2:((List.range N).all fun U=>(List.range 16).all fun i=>match f U i with|none=>true|some r=>decide (PD P U i=some r))=true)
 (h3:((List.range N).all fun U=>match s U with|none=>true|some r=>decide (xU P U=some r))=true):
 TbOk P ⟨fun U=>bif Nat.blt U N then t U else none,fun U i=>bif Nat.blt U N&&Nat.blt i 16 then f U i else none,fun U=>bif Nat.blt U N then s U else none⟩:=by
 have hlt: ∀ {a c:Nat},Nat.blt a c=true→a<c:=fun h=>gj h
 refine⟨fun U r h=>?_,fun U i r h=>?_,fun U r h=>?_⟩
 ·grind
 ·dsimp only at h
  rw[uZ] at h
  split at h
  ·rename_i hc
   rw[di] at hc
   have:=Se (Se h2 U (hlt hc.1)) i (hlt hc.2)
   grind
  grind
 grind
theorem jK:Tryz.prog.follows .mixedOrders=true:=by kernel_rfl
theorem jQ:Tryz.prog.underlying 4=some .bool:=by kernel_rfl
theorem wq (m:Nat) (hpre:l.take m=pre) (htail:l.drop m=tail)
 (h:dq Tryz.prog l.toArray [] pre ⟨σ,[],[]⟩ fun s=>dl Tryz.prog l.toArray tail s.merge (Q .normal)) (hc:N2 l.toArray m σ.n=true:=by kernel_rfl):Dw Tryz.prog (.region id l.toArray true) σ Q:=xr m [] jK hc hpre htail h
theorem kj:xF Tryz.prog 106=some (47,20,320,[.b false,.s 0 [],.b false,.s 0 [],.b false,.s 0 [],.b false,.s 0 [],.b false,.s 0 [],.b false,.s 0 [],.b false,.s 0 [],.b false,.s 0 [],.b false,.s 0 [],.b false,.s 0 []]):=by kernel_rfl
theorem E1:xF Tryz.prog 144=some (219,7,56,[.i .i64 0,.i .i64 0,.i .i64 0,.i .i64 0,.i .i64 0,.i .i64 0,.i .i64 0]):=by kernel_rfl
theorem D1:xF Tryz.prog 222=some (2,1,8,[.i .i64 0]):=by kernel_rfl
theorem U9:xF Tryz.prog 28=some (40,12,192,[.b false,.s 0 [],.b false,.s 0 [],.b false,.s 0 [],.b false,.s 0 [],.b false,.s 0 [],.b false,.s 0 []]):=by kernel_rfl
theorem xH:xF Tryz.prog 31=some (49,66,1040,[.b false,.b false,.s 0 [],.b false,.s 0 [],.b false,.s 0 [],.b false,.s 0 [],.b false,.s 0 [],.b false,.s 0 [],.b false,.s 0 [],.b false,.s 0 [],.b false,.s 0 [],.b false,.s 0 [],.b false,.s 0 [],.b false,.s 0 [],.b false,.b false,.s 0 [],.b false,.s 0 [],.b false,.s 0 [],.b false,.s 0 [],.b false,.s 0 [],.b false,.s 0 [],.b false,.s 0 [],.b false,.s 0 [],.b false,.s 0 [],.b false,.s 0 [],.b false,.s 0 [],.b false,.s 0 [],.b false,.s 0 [],.b false,.s 0 [],.b false,.s 0 [],.b false,.s 0 [],.b false,.s 0 [],.b false,.s 0 [],.b false,.s 0 [],.b false,.s 0 []]):=by kernel_rfl
theorem yM:xF Tryz.prog 34=some (194,1,4,[.i .u32 0]):=by kernel_rfl
theorem xX:xF Tryz.prog 77=some (72,2,16,[.i .i64 0,.i .i64 0]):=by kernel_rfl
theorem aaV:xF Tryz.prog 95=some (4,1,1,[.b false]):=by kernel_rfl
theorem QJ:PD Tryz.prog 49 4=some 26:=by kernel_rfl
theorem Kk:PD Tryz.prog 49 5=some 46:=by kernel_rfl
theorem R9:PD Tryz.prog 72 0=some 0:=by kernel_rfl
theorem OQ:PD Tryz.prog 72 1=some 1:=by kernel_rfl
theorem nA:G6 Tryz.prog 129=some [(0,4),(4,4),(8,4)]:=by kernel_rfl
theorem Wt:G6 Tryz.prog 148=some [(0,1),(1,1),(2,1)]:=by kernel_rfl
theorem Po:G6 Tryz.prog 186=some [(0,4),(4,4),(8,4),(12,4),(16,4),(20,4)]:=by kernel_rfl
theorem RD:G6 Tryz.prog 219=some [(0,1),(1,3),(4,2),(6,1)]:=by kernel_rfl
theorem qZ:G6 Tryz.prog 230=some [(0,1),(1,1)]:=by kernel_rfl
theorem MK:G6 Tryz.prog 256=some [(0,4),(4,4)]:=by kernel_rfl
theorem aaK:G6 Tryz.prog 313=some [(0,1)]:=by kernel_rfl
theorem J5:G6 Tryz.prog 36=some [(0,1),(1,1)]:=by kernel_rfl
theorem v5:G6 Tryz.prog 38=some [(0,2),(2,2)]:=by kernel_rfl
theorem OM:G6 Tryz.prog 40=some [(0,4),(4,4),(8,4)]:=by kernel_rfl
theorem acK:G6 Tryz.prog 45=some [(0,4),(4,4),(8,4)]:=by kernel_rfl
theorem Kw:G6 Tryz.prog 47=some [(0,4),(4,4),(8,4),(12,4),(16,4)]:=by kernel_rfl
theorem abY:G6 Tryz.prog 49=some [(0,1),(1,12),(13,12),(25,1),(26,20),(46,20)]:=by kernel_rfl
theorem abb:G6 Tryz.prog 65=some [(0,4),(4,4)]:=by kernel_rfl
theorem ue:G6 Tryz.prog 72=some [(0,1),(1,1)]:=by kernel_rfl
theorem f7:xU Tryz.prog 106=some 20:=by kernel_rfl
theorem jI:xU Tryz.prog 222=some 1:=by kernel_rfl
theorem ZG:xU Tryz.prog 28=some 12:=by kernel_rfl
theorem qN:xU Tryz.prog 31=some 66:=by kernel_rfl
theorem jz:xU Tryz.prog 34=some 1:=by kernel_rfl
theorem vU:xU Tryz.prog 77=some 2:=by kernel_rfl
theorem PI:xU Tryz.prog 95=some 1:=by kernel_rfl
theorem d9:sG Tryz.prog 129=some (true,12):=by kernel_rfl
theorem WO:sG Tryz.prog 148=some (true,3):=by kernel_rfl
theorem QP:sG Tryz.prog 186=some (true,24):=by kernel_rfl
theorem f5:sG Tryz.prog 194=some (false,1):=by kernel_rfl
theorem yQ:sG Tryz.prog 2=some (false,1):=by kernel_rfl
theorem kv:sG Tryz.prog 230=some (true,2):=by kernel_rfl
theorem Lm:sG Tryz.prog 256=some (true,8):=by kernel_rfl
theorem d5:sG Tryz.prog 36=some (true,2):=by kernel_rfl
theorem bU:sG Tryz.prog 38=some (true,4):=by kernel_rfl
theorem sK:sG Tryz.prog 4=some (false,1):=by kernel_rfl
theorem AX:sG Tryz.prog 40=some (true,12):=by kernel_rfl
theorem adr:sG Tryz.prog 45=some (true,12):=by kernel_rfl
theorem cn:sG Tryz.prog 47=some (true,20):=by kernel_rfl
theorem cG:sG Tryz.prog 49=some (true,66):=by kernel_rfl
theorem YW:sG Tryz.prog 65=some (true,8):=by kernel_rfl
theorem tR:sG Tryz.prog 72=some (true,2):=by kernel_rfl
theorem FF:Tryz.prog.underlying 171=some (.int .u64):=by kernel_rfl
theorem fX:Tryz.prog.underlying 190=some (.int .u64):=by kernel_rfl
theorem jN:Tryz.prog.underlying 194=some (.int .u32):=by kernel_rfl
theorem Ec:Tryz.prog.underlying 2=some (.int .i64):=by kernel_rfl
theorem Ta:Tryz.prog.underlying 3=some (.int .i64):=by kernel_rfl
theorem abF:Tryz.prog.underlying 5=some (.int .u8):=by kernel_rfl
theorem Xs:Tryz.prog.underlying 52=some (.int .i8):=by kernel_rfl
theorem lW:AQ Tryz.prog 129=some [.b false,.s 0 [],.b false,.s 0 [],.b false,.s 0 [],.b false,.s 0 [],.b false,.s 0 [],.b false,.s 0 []]:=by kernel_rfl
theorem Qc:AQ Tryz.prog 148=some [.i .i64 0,.i .i64 0,.i .i64 0]:=by kernel_rfl
theorem I3:AQ Tryz.prog 186=some [.b false,.s 0 [],.b false,.s 0 [],.b false,.s 0 [],.b false,.s 0 [],.b false,.s 0 [],.b false,.s 0 [],.b false,.s 0 [],.b false,.s 0 [],.b false,.s 0 [],.b false,.s 0 [],.b false,.s 0 [],.b false,.s 0 []]:=by kernel_rfl
theorem S3:AQ Tryz.prog 219=some [.i .i64 0,.i .i64 0,.i .i64 0,.i .i64 0,.i .i64 0,.i .i64 0,.i .i64 0]:=by kernel_rfl
theorem p9:AQ Tryz.prog 230=some [.i .i64 0,.i .i64 0]:=by kernel_rfl
theorem I6:AQ Tryz.prog 256=some [.b false,.s 0 [],.b false,.s 0 [],.b false,.s 0 [],.b false,.s 0 []]:=by kernel_rfl
theorem aaU:AQ Tryz.prog 303=some [.i .i64 0,.b false,.s 0 [],.b false,.s 0 [],.b false,.s 0 [],.b false,.s 0 [],.b false,.s 0 [],.b false,.s 0 []]:=by kernel_rfl
theorem abz:AQ Tryz.prog 313=some [.b false]:=by kernel_rfl
theorem D9:AQ Tryz.prog 36=some [.b false,.s 0 []]:=by kernel_rfl
theorem vg:AQ Tryz.prog 38=some [.b false,.s 0 [],.b false,.s 0 []]:=by kernel_rfl
theorem NF:AQ Tryz.prog 40=some [.b false,.s 0 [],.b false,.s 0 [],.b false,.s 0 [],.b false,.s 0 [],.b false,.s 0 [],.b false,.s 0 []]:=by kernel_rfl
theorem Zm:AQ Tryz.prog 45=some [.b false,.s 0 [],.b false,.s 0 [],.b false,.s 0 [],.b false,.s 0 [],.b false,.s 0 [],.b false,.s 0 []]:=by kernel_rfl
theorem De:AQ Tryz.prog 47=some [.b false,.s 0 [],.b false,.s 0 [],.b false,.s 0 [],.b false,.s 0 [],.b false,.s 0 [],.b false,.s 0 [],.b false,.s 0 [],.b false,.s 0 [],.b false,.s 0 [],.b false,.s 0 []]:=by kernel_rfl
theorem OE:AQ Tryz.prog 49=some [.b false,.b false,.s 0 [],.b false,.s 0 [],.b false,.s 0 [],.b false,.s 0 [],.b false,.s 0 [],.b false,.s 0 [],.b false,.s 0 [],.b false,.s 0 [],.b false,.s 0 [],.b false,.s 0 [],.b false,.s 0 [],.b false,.s 0 [],.b false,.b false,.s 0 [],.b false,.s 0 [],.b false,.s 0 [],.b false,.s 0 [],.b false,.s 0 [],.b false,.s 0 [],.b false,.s 0 [],.b false,.s 0 [],.b false,.s 0 [],.b false,.s 0 [],.b false,.s 0 [],.b false,.s 0 [],.b false,.s 0 [],.b false,.s 0 [],.b false,.s 0 [],.b false,.s 0 [],.b false,.s 0 [],.b false,.s 0 [],.b false,.s 0 [],.b false,.s 0 []]:=by kernel_rfl
theorem Y2:AQ Tryz.prog 65=some [.b false,.s 0 [],.b false,.s 0 [],.b false,.s 0 [],.b false,.s 0 []]:=by kernel_rfl
theorem tD:AQ Tryz.prog 72=some [.i .i64 0,.i .i64 0]:=by kernel_rfl
theorem aaO:AQ Tryz.prog 75=some [.i .i64 0,.i .i64 0]:=by kernel_rfl
def gT {α:Type}(U n:Nat) (x y:Option α):Option α:=bif Nat.blt U n then x else y
def jZ {α:Type}(U n:Nat) (x:α):Option α:=bif Nat.beq U n then some x else none
def Ag (U n:Nat) (x:Option Nat):Option Nat:=bif Nat.beq U n then x else none
def mS:List Nat→Nat→Option Nat
 |[],_=>none
 |x::_,0=>some x
 |_::l,i+1=>mS l i
def tyF (U:Nat):Option (Bool×Nat):=gT U 72 (gT U 34 (gT U 12 (gT U 6 (gT U 4 (gT U 3 (jZ U 2 (false,1)) (jZ U 3 (false,1))) (gT U 5 (jZ U 4 (false,1)) (jZ U 5 (false,1)))) (gT U 10 (gT U 9 (jZ U 6 (false,1)) (jZ U 9 (false,1))) (gT U 11 (jZ U 10 (false,1)) (jZ U 11 (false,1))))) (gT U 25 (gT U 22 (gT U 21 (jZ U 12 (false,1)) (jZ U 21 (false,1))) (gT U 23 (jZ U 22 (false,1)) (jZ U 23 (false,1)))) (gT U 28 (gT U 26 (jZ U 25 (true,4)) (jZ U 26 (false,1))) (gT U 31 (jZ U 28 (false,1)) (jZ U 31 (false,1)))))) (gT U 46 (gT U 39 (gT U 37 (gT U 36 (jZ U 34 (false,1)) (jZ U 36 (true,2))) (gT U 38 (jZ U 37 (true,4)) (jZ U 38 (true,4)))) (gT U 44 (gT U 40 (jZ U 39 (true,12)) (jZ U 40 (true,12))) (gT U 45 (jZ U 44 (true,12)) (jZ U 45 (true,12))))) (gT U 52 (gT U 48 (gT U 47 (jZ U 46 (true,20)) (jZ U 47 (true,20))) (gT U 49 (jZ U 48 (true,66)) (jZ U 49 (true,66)))) (gT U 64 (gT U 56 (jZ U 52 (false,1)) (jZ U 56 (true,3))) (gT U 65 (jZ U 64 (true,8)) (jZ U 65 (true,8))))))) (gT U 194 (gT U 106 (gT U 76 (gT U 74 (gT U 73 (jZ U 72 (true,2)) (jZ U 73 (true,8))) (gT U 75 (jZ U 74 (true,8)) (jZ U 75 (true,2)))) (gT U 78 (gT U 77 (jZ U 76 (true,2)) (jZ U 77 (false,1))) (gT U 95 (jZ U 78 (false,1)) (jZ U 95 (false,1))))) (gT U 171 (gT U 144 (gT U 129 (jZ U 106 (false,1)) (jZ U 129 (true,12))) (gT U 148 (jZ U 144 (false,1)) (jZ U 148 (true,3)))) (gT U 186 (gT U 185 (jZ U 171 (false,1)) (jZ U 185 (true,24))) (gT U 190 (jZ U 186 (true,24)) (jZ U 190 (false,1)))))) (gT U 284 (gT U 230 (gT U 219 (gT U 218 (jZ U 194 (false,1)) (jZ U 218 (true,7))) (gT U 222 (jZ U 219 (true,7)) (jZ U 222 (false,1)))) (gT U 255 (gT U 238 (jZ U 230 (true,2)) (jZ U 238 (false,1))) (gT U 256 (jZ U 255 (true,8)) (jZ U 256 (true,8))))) (gT U 331 (gT U 303 (gT U 302 (jZ U 284 (false,1)) (jZ U 302 (true,13))) (gT U 313 (jZ U 303 (true,13)) (jZ U 313 (true,1)))) (gT U 335 (gT U 332 (jZ U 331 (false,1)) (jZ U 332 (false,1))) (gT U 336 (jZ U 335 (false,1)) (jZ U 336 (false,1)))))))
def slF (U:Nat):Option Nat:=gT U 77 (gT U 31 (gT U 28 (jZ U 26 4) (jZ U 28 12)) (gT U 34 (jZ U 31 66) (jZ U 34 1))) (gT U 106 (gT U 95 (jZ U 77 2) (jZ U 95 1)) (gT U 144 (jZ U 106 20) (gT U 222 (jZ U 144 7) (jZ U 222 1))))
def fdF (U i:Nat):Option Nat:=gT U 72 (gT U 45 (gT U 38 (gT U 36 (Ag U 25 (mS [0,1,2,3] i)) (gT U 37 (Ag U 36 (mS [0,1] i)) (Ag U 37 (mS [0,2] i)))) (gT U 40 (gT U 39 (Ag U 38 (mS [0,2] i)) (Ag U 39 (mS [0,4,8] i))) (gT U 44 (Ag U 40 (mS [0,4,8] i)) (Ag U 44 (mS [0,4,8] i))))) (gT U 48 (gT U 46 (Ag U 45 (mS [0,4,8] i)) (gT U 47 (Ag U 46 (mS [0,4,8,12,16] i)) (Ag U 47 (mS [0,4,8,12,16] i)))) (gT U 64 (gT U 49 (Ag U 48 (mS [0,1,13,25,26,46] i)) (Ag U 49 (mS [0,1,13,25,26,46] i))) (gT U 65 (Ag U 64 (mS [0,4] i)) (Ag U 65 (mS [0,4] i)))))) (gT U 218 (gT U 129 (gT U 73 (Ag U 72 (mS [0,1] i)) (gT U 74 (Ag U 73 (mS [0,2,4,5,6,7] i)) (Ag U 74 (mS [0,2,4,5,6,7] i)))) (gT U 185 (gT U 148 (Ag U 129 (mS [0,4,8] i)) (Ag U 148 (mS [0,1,2] i))) (gT U 186 (Ag U 185 (mS [0,4,8,12,16,20] i)) (Ag U 186 (mS [0,4,8,12,16,20] i))))) (gT U 256 (gT U 230 (gT U 219 (Ag U 218 (mS [0,1,4,6] i)) (Ag U 219 (mS [0,1,4,6] i))) (gT U 255 (Ag U 230 (mS [0,1] i)) (Ag U 255 (mS [0,4] i)))) (gT U 303 (gT U 302 (Ag U 256 (mS [0,4] i)) (Ag U 302 (mS [0,1] i))) (gT U 313 (Ag U 303 (mS [0,1] i)) (Ag U 313 (mS [0] i))))))
def tb:Tb:=⟨fun U=>bif Nat.blt U 337 then tyF U else none,fun U i=>bif Nat.blt U 337&&Nat.blt i 16 then fdF U i else none,fun U=>bif Nat.blt U 337 then slF U else none⟩
theorem So:TbOk Tryz.prog tb:=TbOk.of (by kernel_rfl) (by kernel_rfl) (by kernel_rfl)
theorem bH (k:Nat) (h:Yq Tryz.prog tb ops K n k os tm bx):dl Tryz.prog ops os ⟨n,tm,bx⟩ K:=Qy So h
theorem ji {K:Sq→Prop}(k:Nat) (h:stq Tryz.prog tb ops hs K n k os tm bx nb sd):dq Tryz.prog ops hs os ⟨⟨n,tm,bx⟩,nb,sd⟩ K:=Vu So h
theorem gi (h:YS tb ops K n os tm bx):dl Tryz.prog ops os ⟨n,tm,bx⟩ K:=HR So h
theorem Gm {K:Sq→Prop}(h:sqe tb ops hs K n os tm bx nb sd):dq Tryz.prog ops hs os ⟨⟨n,tm,bx⟩,nb,sd⟩ K:=Mi So h
def cQ (n d:Int):List CellD:=cI n++cI d
def dQ (n d:Int):D0:=.a (cQ n d)
def cR (x:Rat):List CellD:=cQ x.num (x.den:Int)
def dR (x:Rat):D0:=.a (cR x)
theorem BA {q:Int}(hy:y≠0) (h:x=y*q+r) (hp:0<y→0≤r∧r<y) (hn:y<0→y<r∧r≤0):x.fdiv y=q∧x.fmod y=r:=by
 have hfd:x.fdiv y=q:=by
  rcases Int.lt_or_gt_of_ne hy with h0|h0
  ·obtain⟨h1,h2⟩:=hn h0
   rw[←Int.neg_fdiv_neg,pc _ (by omega)]
   have:=(Int.ediv_emod_unique (a:= -x) (b:= -y) (r:= -r) (q:=q) (by omega)).2 ⟨by rw[h];simp only[Int.neg_mul];omega,by omega,by omega⟩
   grind
  ·obtain⟨h1,h2⟩:=hp h0
   rw[pc _ (by omega)]
   exact((Int.ediv_emod_unique (a:=x) (b:=y) (r:=r) (q:=q) h0).2 ⟨by rw[h];omega,h1,h2⟩).1
 have:=Int.mul_fdiv_add_fmod x y
 grind
def q0 (x y:Int):Int:=sg (!(decide (x<0)==decide (y<0))) ((x.natAbs:Int)/y.natAbs)
def r0 (x y:Int):Int:=sg (decide (x<0)) ((x.natAbs:Int)%y.natAbs)
theorem WF:x=y*q0 x y+r0 x y:=by
 have h:=rS (x.natAbs:Int) y.natAbs
 unfold q0 r0
 obtain⟨q,hq⟩: ∃q,(x.natAbs:Int)/y.natAbs=q:=⟨_,rfl⟩
 obtain⟨r,hr⟩: ∃r,(x.natAbs:Int)%y.natAbs=r:=⟨_,rfl⟩
 rw[hq,hr]
 rw[hq,hr] at h
 by_cases hx:x<0<;>by_cases hy:y<0
 ·rw[show(x.natAbs:Int)= -x from by omega,show(y.natAbs:Int)= -y from by omega,Int.neg_mul] at h
  rw[show(!(decide (x<0)==decide (y<0)))=false from by simp[hx,hy],show decide (x<0)=true from by simp[hx],gV,cW]
  omega
 ·rw[show(x.natAbs:Int)= -x from by omega,show(y.natAbs:Int)=y from by omega] at h
  rw[show(!(decide (x<0)==decide (y<0)))=true from by simp[hx,hy],show decide (x<0)=true from by simp[hx],gV,gV,Int.mul_neg]
  omega
 ·rw[show(x.natAbs:Int)=x from by omega,show(y.natAbs:Int)= -y from by omega,Int.neg_mul] at h
  rw[show(!(decide (x<0)==decide (y<0)))=true from by simp[hx,hy],show decide (x<0)=false from by simp[hx],gV,cW,Int.mul_neg]
  omega
 ·rw[show(x.natAbs:Int)=x from by omega,show(y.natAbs:Int)=y from by omega] at h
  rw[show(!(decide (x<0)==decide (y<0)))=false from by simp[hx,hy],show decide (x<0)=false from by simp[hx],cW,cW]
  omega
theorem Nd (hy:y≠0):0≤(x.natAbs:Int)%y.natAbs∧(x.natAbs:Int)%y.natAbs<y.natAbs:=⟨Int.emod_nonneg _ (by omega),oJ _ (by omega)⟩
theorem yS (hy:y≠0) (h:r0 x y=0∨(r0 x y<0↔y<0)):x.fdiv y=q0 x y∧x.fmod y=r0 x y:=by
 refine BA hy WF ?_ ?_
 all_goals
  have:=Nd (x:=x) hy
  unfold r0 at*
  by_cases hx:x<0
  ·simp only[hx,decide_true,gV] at*;omega
  ·simp only[hx,decide_false,cW] at*;omega
theorem Js (hy:y≠0) (h0:r0 x y≠0) (h: ¬(r0 x y<0↔y<0)):x.fdiv y=q0 x y-1∧x.fmod y=r0 x y+y:=by
 refine BA hy ?_ ?_ ?_
 ·have:=WF (x:=x) (y:=y)
  rw[Int.mul_sub];omega
 all_goals
  have:=Nd (x:=x) hy
  unfold r0 at*
  by_cases hx:x<0
  ·simp only[hx,decide_true,gV] at*;omega
  ·simp only[hx,decide_false,cW] at*;omega
theorem Fz:(dJ y.natAbs).length=0↔y=0:=by
 rw[nJ,eZ];omega
theorem tG (h:decide (((dJ r.natAbs).length:Int)>0)=true):r≠0:=by
 intro e
 have:=Fz.2 e
 grind
theorem td (h:decide (((dJ r.natAbs).length:Int)>0)=false):r=0:=by
 simp only[decide_eq_false_iff_not] at h
 exact Fz.1 (by omega)
theorem GZ (h:(!(decide (a<0)==decide (b<0)))=true): ¬(a<0↔b<0):=by simpa using h
theorem FX (h:(!(decide (a<0)==decide (b<0)))=false):(a<0↔b<0):=by simpa using h
theorem Sz.q0 (hx:Sz k x):Sz k (q0 x y):=by
 refine hx.of_le ?_
 have h1:(x.natAbs:Int)/(y.natAbs:Int)≤x.natAbs:=AY _ (by omega)
 have h2:0≤(x.natAbs:Int)/(y.natAbs:Int):=uC (by omega) (by omega)
 unfold Go.Proofs.YtegpmhlfjkhjmaaGreat.q0
 generalize (!(decide (x<0)==decide (y<0)))=s
 cases s
 ·rw[cW];omega
 ·rw[gV];omega
theorem Sz.r0 (hy:y≠0) (h:Sz k y):Sz k (r0 x y):=by
 refine h.of_le ?_
 have:=Nd (x:=x) hy
 unfold Go.Proofs.YtegpmhlfjkhjmaaGreat.r0
 generalize decide (x<0)=s
 cases s
 ·rw[cW];omega
 ·rw[gV];omega
theorem FG (h1:0≤a) (h2:0≤c):Int.gcd c (a%c)=Int.gcd a c:=by
 obtain⟨m,rfl⟩:=Ax h1
 obtain⟨n,rfl⟩:=Ax h2
 show Nat.gcd n (m%n)=Nat.gcd m n
 rw[Nat.gcd_comm m n,Nat.gcd_rec n m,Nat.gcd_comm]
structure GInv (x y a c:Int):Prop where
 sa:Sz 100000000 a
 sc:Sz 100000000 c
 a0:0≤a
 c0:0≤c
 g:Int.gcd a c=Int.gcd x y
theorem GInv.start (hx:Sz 100000000 x) (hy:Sz 100000000 y):GInv x y (sg false (x.natAbs:Int)) (sg false (y.natAbs:Int)):=by
 rw[cW,cW]
 exact⟨hx.of_le (by omega),hy.of_le (by omega),by omega,by omega,rfl⟩
theorem GInv.step (h:GInv x y a c) (hc:c≠0):GInv x y c (sg false ((a.natAbs:Int)%c.natAbs)):=by
 rw[cW]
 have h1:=h.a0
 have h2:=h.c0
 have e1:(a.natAbs:Int)=a:=by omega
 have e2:(c.natAbs:Int)=c:=by omega
 rw[e1,e2]
 have h3:=po a hc
 have h4:=oJ a (show 0<c by omega)
 exact⟨h.sc,h.sc.of_le (by omega),h2,h3,by rw[←h.g,FG h1 h2]⟩
theorem GInv.less (h:GInv x y a c) (hc:c≠0):(sg false ((a.natAbs:Int)%c.natAbs)).toNat<c.toNat:=by
 rw[cW]
 have:=h.c0
 have:=Nd (x:=a) hc
 omega
theorem GInv.done (h:GInv x y a c) (hc:c=0):(Int.gcd x y:Int)=sg false (a.natAbs:Int):=by
 rw[←h.g,hc,cW];simp
structure GInv2 (x y u v:Int):Prop where
 u0:0≤u
 u1:u≤18446744073709551615
 v0:0≤v
 v1:v≤18446744073709551615
 g:Int.gcd u v=Int.gcd x y
theorem GInv.word (h:GInv x y a c) (ha:decide (a.natAbs<1000000000000000000)=true) (hc:decide (c.natAbs<1000000000000000000)=true):
 GInv2 x y (if a.natAbs<1000000000000000000 then(a.natAbs:Int) else 0) (if c.natAbs<1000000000000000000 then(c.natAbs:Int) else 0):=by
 rw[decide_eq_true_eq] at ha hc
 rw[if_pos ha,if_pos hc]
 exact⟨by omega,by omega,by omega,by omega,by rw[←h.g];rfl⟩
theorem GInv2.step (h:GInv2 x y u v) (hv:v>0):GInv2 x y v (u.tmod v):=by
 have h1:=h.u0
 rw[rJ h1]
 have h3:=po u (show v≠0 by omega)
 have h4:=oJ u hv
 exact⟨h.v0,h.v1,h3,by have:=h.v1;omega,by rw[←h.g,FG h1 h.v0]⟩
theorem GInv2.less (h:GInv2 x y u v) (hv:v>0):(u.tmod v).toNat<v.toNat:=by
 rw[rJ h.u0]
 have h4:=oJ u hv
 omega
theorem GInv2.done (h:GInv2 x y u v) (hv:v≤0):(Int.gcd x y:Int)=sg false u:=by
 have h0:=h.v0
 have h1:=h.u0
 rw[←h.g,show v=0 from by omega,cW];simp;omega
theorem Vm (h:Lim xs):trm xs=dJ (val xs).natAbs:=by
 have h0:=cS h
 rw[JS (uz xs) h.trm,ja]
 grind
def cM (xs:List Int):CellD:=.s xs.length (xs.map (CellD.i .u32))
theorem WD (e:Int):cL e=cM (dJ e.natAbs):=rfl
theorem RJ (h:Lim xs):cL (val xs)=cM (trm xs):=by rw[WD,Vm h]
theorem jR (xs:List Int):(xs.map (CellD.i .u32)).length=xs.length*1:=by simp
theorem lJ (h:i<xs.length):((xs.map (CellD.i .u32)).drop (i*1))[0]? =some (.i .u32 (xs.getD i 0)):=by grind
theorem aa9 (h:i<xs.length):(xs.map (CellD.i .u32))[i*1]? =some (.i .u32 (xs.getD i 0)):=by grind
theorem rf (h:i<xs.length):(xs.map (CellD.i .u32)).take (i*1)++[CellD.i .u32 x]++(xs.map (CellD.i .u32)).drop (i*1+1)=(xs.set i x).map (CellD.i .u32):=by
 rw[List.set_eq_take_append_cons_drop,if_pos h]
 simp
theorem du (h:Lim xs) (i:Nat):0≤xs.getD i 0∧xs.getD i 0<1000000000:=by
 rw[List.getD]
 cases hx:xs[i]? with
 |none=>simp
 |some x=>exact h.at_ hx
theorem getD_some (h:i<xs.length):xs[i]? =some (xs.getD i 0):=by grind
theorem qO (h0: -9223372036854775808≤x) (h1:x≤9223372036854775807):IntKind.i64.wrap x=x:=by unfold IntKind.wrap;simp[IntKind.bits,IntKind.signed];omega
theorem iE (h0:0≤x) (h1:x≤18446744073709551615):IntKind.u64.wrap x=x:=by unfold IntKind.wrap;simp[IntKind.bits,IntKind.signed];omega
theorem sX (h0:0≤x) (h1:x≤4294967295):IntKind.u32.wrap x=x:=by unfold IntKind.wrap;simp[IntKind.bits,IntKind.signed];omega
theorem aT (h0: -9223372036854775808≤a+b) (h1:a+b≤9223372036854775807):Dj .add .i64 a b=some (a+b):=congrArg some (qO h0 h1)
theorem dZ {x y:Operand}{ty:TypeId}(hj:j<9223372036854775807) (h:(cO T x,cO T y,gd ops ⟨dst,.binOp .add xt x y yt,ty,pos,af,g⟩ T)=(some (.v (.c (.i .i64 j))),some (.v (.c (.i .i64 1))),some true)):Sem P ops ⟨dst,.binOp .add xt x y yt,ty,pos,af,g⟩ T B (.r (.v (.c (.i .i64 ((j+1:Nat):Int))))):=
 er (congrArg Prod.fst h) (congrArg (fun q=>q.2.1) h) ((aT (by omega) (by omega)).trans (congrArg some (by omega))) (congrArg (fun q=>q.2.2) h)
theorem aS (h0: -9223372036854775808≤a-b) (h1:a-b≤9223372036854775807):Dj .sub .i64 a b=some (a-b):=congrArg some (qO h0 h1)
theorem gn (h0:0≤a+b) (h1:a+b≤18446744073709551615):Dj .add .u64 a b=some (a+b):=congrArg some (iE h0 h1)
theorem I1 (h0:0≤a-b) (h1:a-b≤18446744073709551615):Dj .sub .u64 a b=some (a-b):=congrArg some (iE h0 h1)
theorem iK (h0:0≤a*b) (h1:a*b≤18446744073709551615):Dj .mul .u64 a b=some (a*b):=congrArg some (iE h0 h1)
theorem oF (h0:0≤a+b) (h1:a+b≤4294967295):Dj .add .u32 a b=some (a+b):=congrArg some (sX h0 h1)
theorem rl (h0:0≤a-b) (h1:a-b≤4294967295):Dj .sub .u32 a b=some (a-b):=congrArg some (sX h0 h1)
theorem Oj (h1:0<k) (hk:k≤xs.length) (hT:trm (xs.take k)=trm xs) (h:((xs.take k).getD (k-1) 0==0)=true):trm (xs.take (k-1))=trm xs:=by
 obtain⟨j,rfl⟩: ∃j,k=j+1:=⟨k-1,by omega⟩
 rw[Nat.add_sub_cancel] at*
 have hx:=getD_some (xs:=xs) (i:=j) (by omega)
 rw[←hT,sE hx (by simpa using h)]
theorem Np (h1:0<k) (hk:k≤xs.length) (hT:trm (xs.take k)=trm xs) (h:((xs.take k).getD (k-1) 0==0)=false):trm xs=xs.take k:=by
 obtain⟨j,rfl⟩: ∃j,k=j+1:=⟨k-1,by omega⟩
 have hx:=getD_some (xs:=xs) (i:=j) (by omega)
 rw[←hT,rM hx (by simpa using h)]
section
variable {P:Program}{ops:Array Oper}{T:TF}{B:BF}
theorem iJ {x y:Operand}{k:IntKind}{n:Int}
 (hx:cO T x=some (.v (.c (.i k m)))) (hy:cO T y=some (.v (.c (.i k n)))) (h0:n≠0) (hr:k.wrap (m.tdiv n)=r) (hg:gd ops ⟨dst,.binOp .quo xt x y yt,ty,pos,af,g⟩ T=some true):
 Sem P ops ⟨dst,.binOp .quo xt x y yt,ty,pos,af,g⟩ T B (.r (.v (.c (.i k r)))):=by subst hr;exact Ub hx hy h0 hg
theorem mW {x y:Operand}{k:IntKind}{n:Int}
 (hx:cO T x=some (.v (.c (.i k m)))) (hy:cO T y=some (.v (.c (.i k n)))) (h0:n≠0) (hr:m.tmod n=r) (hg:gd ops ⟨dst,.binOp .rem xt x y yt,ty,pos,af,g⟩ T=some true):
 Sem P ops ⟨dst,.binOp .rem xt x y yt,ty,pos,af,g⟩ T B (.r (.v (.c (.i k r)))):=by subst hr;exact FA hx hy h0 hg
theorem b6 {x:Operand}{k1 k2 k:IntKind}
 (h1:P.underlying t1=some (.int k1)) (h2:P.underlying t2=some (.int k2)) (hx:cO T x=some (.v (.c (.i k m)))) (hr:k2.wrap m=r) (hg:gd ops ⟨dst,.convert t1 t2 x,ty,pos,af,g⟩ T=some true):
 Sem P ops ⟨dst,.convert t1 t2 x,ty,pos,af,g⟩ T B (.r (.v (.c (.i k2 r)))):=by subst hr;exact SJ h1 h2 hx hg
theorem yw {x:Operand}
 (hU:xF P U=some (e,1,by_,[z])) (hx:cO T x=some (.v (.c (.i .u32 m)))) (hg:gd ops ⟨dst,.buildSlice U 1 #[(0,x)],ty,pos,af,g⟩ T=some true):
 Sem P ops ⟨dst,.buildSlice U 1 #[(0,x)],ty,pos,af,g⟩ T B (.r (.v (.c (cM [m])))):=by
 have h:=qA (B:=B) (n:=1) (us:=[.i .u32 m]) (dps:=[(0,.c (.i .u32 m))]) hU (by unfold uM;rw[hx];rfl) rfl (by omega) (by omega) hg
 refine⟨pF rfl,fun V β a w hs=>?_⟩
 obtain⟨hw,hg⟩:=h V β a w hs
 refine⟨hw,hg.mono ?_⟩
 rintro v w' ⟨vs,rfl,rfl,hr⟩
 refine⟨?_,(fJ _ w).alloc (ck _) _⟩
 have hkeep:=Keep.below (av:=V) ((fJ w.heap.size w).alloc (ck _) (.cells vs e))
 have hr2:=hr.keep hkeep
 have hvl:vs.size=1:=by have:=hr.1;simpa using this
 refine .s w.heap.size 0 1 1 1 _ (fun j=>vs.getD j undef) (by omega) (by omega) (by omega) rfl (by simp) (fun h=>by have:=hs.av _ h;omega) (fun j hj=>?_) (fun j u hj=>?_)
 ·simp_all
 ·have hlt:j<1:=by have:=(j9.1 hj).1;simpa using this
  refine hr2.2 j _ u ?_ hj
  have:j<vs.size:=by omega
  simp[Array.getD,this]
theorem FS {x y:Operand}{m:Nat}{zs:List CellD}
 (hU:xF P U=some (e,m,by_,zs)) (hx:cO T x=some (.o k n n)) (hy:cO T y=some (.v (.c (.s 0 [])))) (hb:B k=some (e,cs)) (hcs:cs.length=n*m) (hn:0<n) (hn2:n≤9223372036854775807)
 (hg:gd ops ⟨dst,.call ⟨.builtin .append,#[x,y],#[U,U]⟩,ty,pos,af,g⟩ T=some true):
 Sem P ops ⟨dst,.call ⟨.builtin .append,#[x,y],#[U,U]⟩,ty,pos,af,g⟩ T B (.c k (.v (.c (.s n cs)))):=by
 refine⟨rfl,by rw[hb];simp,fun V β a w hs=>⟨eL hs hg,?_⟩⟩
 have e1:a.eval x=.slice (some ⟨β k,0,none⟩) n n:=aC hs (x:=x) (by simp[Op.operands,Call.operands]) hx
 have h2:RdC V w (a.eval y) (.s 0 []):=aC hs (x:=y) (by simp[Op.operands,Call.operands]) hy
 have h3: ∃A c,a.eval y=.slice A 0 c:=by
  generalize a.eval y=v at h2
  cases h2 with
  |s0 A c _=>exact⟨A,c,rfl⟩
  |s b off c sz _ _ cv h0=>omega
 obtain⟨A,c,e2⟩:=h3
 obtain⟨hu,i,z,hi,hz,hsz,hby,_,hzr⟩:=jB hU
 obtain⟨hvk,vs,ev,hr⟩:=hs.box k e cs hb
 have hfirst: ∀w,(Builtin.firstCells m 0 (.slice A 0 c)).run P w=.ok #[] w:=by
  intro w
  cases A with
  |none=>rfl
  |some A=>simp[Builtin.firstCells,loadCells,loadCellsFrom]
 have hexec:(execOp a.eval ⟨dst,.call ⟨.builtin .append,#[x,y],#[U,U]⟩,ty,pos,af,g⟩).run P w=.ok (.value (.slice (some ⟨β k,0,none⟩) n n)) w:=by
  simp only[execOp,resolve,invoke,builtin,eM,gK,fi,uw,ru,uk,e1,e2]
  simp[Builtin.append_,run_underlying hu,sizeOf,typeInfo,program,Sem.run,hi,hsz,Builtin.lenOf,hfirst,storeCells]
 unfold Gives
 rw[hexec]
 refine⟨?_,fJ _ _⟩
 have hkeep:Keep V (fun b=>V b∧b≠β k) w w:=⟨Nat.le_refl _,fun _ _ _=>rfl,fun _ _ h=>h.1⟩
 have hr2:=hr.keep hkeep
 have hvl:vs.size=n*m:=by have:=hr.1;simp at this;omega
 refine .s (β k) 0 n m n cs (fun j=>vs.getD j undef) hn (ck _) hn2 hcs (hs.av _ hvk) (fun h=>h.2 rfl) (fun j hj=>?_) (fun j u hj=>?_)
 ·rw[iV,dr ev]
  have:j<vs.size:=by omega
  simp[Array.getD,this]
 ·have hlt:j<cs.length:=(j9.1 hj).1
  refine hr2.2 j _ u ?_ hj
  have:j<vs.size:=by omega
  simp[Array.getD,this]
theorem Eg {x y:Operand}
 (hU:xF P U=some (e,1,4,[z])) (hx:cO T x=some (.o k 1 1)) (hy:cO T y=some (.v (.c (cM rs)))) (hb:B k=some (e,[.i .u32 d])) (hl:rs.length≤1000000000)
 (hg:gd ops ⟨dst,.call ⟨.builtin .append,#[x,y],#[U,U]⟩,ty,pos,af,g⟩ T=some true):
 Sem P ops ⟨dst,.call ⟨.builtin .append,#[x,y],#[U,U]⟩,ty,pos,af,g⟩ T B (.c k (.v (.c (cM (d::rs))))):=by
 cases rs with
 |nil=>exact FS (n:=1) hU hx hy hb rfl (by omega) (by omega) hg
 |cons r rs=>
  have:=zC (us:=(d::r::rs).map (CellD.i .u32)) hU hx hy hb rfl (jR _) (by omega) (by simp) (by omega) (by simp at hl⊢;omega) (by simp at hl⊢;unfold maxLen;omega) rfl hg
  unfold cM
  grind
theorem wY {c:Code}{t n' c':Nat}
 (ht:aQ t tm=some (.o k n' c')) (hb:aQ k bx=some (U,zs.map (CellD.i .u32))) (hm:zs.length=c') (hn:n'≤c') (hc:c'≤9223372036854775807) (hu:zs.take n'=ys)
 (h:Dw P c ⟨N,(t,.v (.c (cM ys)))::kX k tm,jT k bx⟩ Q):Dw P c ⟨N,tm,bx⟩ Q:=by
 refine d7 ht hb (m:=1) (us:=ys.map (CellD.i .u32)) (by simp[hm]) hn hc (by rw[Nat.mul_one,←List.map_take,hu]) ?_
 unfold cM at h
 grind
theorem H4 {x h:Operand}
 (hU:xU P U=some 1) (hx:cO T x=some (.v (.c (cM xs)))) (hh:cO T h=some (.v (.c (.i ki j)))) (hj:j≤xs.length) (hg:gd ops ⟨dst,.slice U x none (some h) none,ty,pos,af,g⟩ T=some true):
 Sem P ops ⟨dst,.slice U x none (some h) none,ty,pos,af,g⟩ T B (.r (.v (.c (cM (xs.take j))))):=by
 have:=Bm (B:=B) hU hx hh (by omega) (jR xs) rfl hg
 have e:CellD.s ((j:Int).toNat) ((xs.map (CellD.i .u32)).take ((j:Int).toNat*1))=cM (xs.take j):=by
  unfold cM
  rw[Int.toNat_natCast,Nat.mul_one,gX,q5 hj,List.map_take]
 grind
theorem we {x h:Operand}{c q m:Nat}
 (hU:xU P U=some m) (hx:cO T x=some (.o k n c)) (hh:cO T h=some (.v (.c (.i ki q)))) (hq:q≤c) (hg:gd ops ⟨dst,.slice U x none (some h) none,ty,pos,af,g⟩ T=some true):
 Sem P ops ⟨dst,.slice U x none (some h) none,ty,pos,af,g⟩ T B (.r (.o k q c)):=
 bI hg (fun k' e=>by
  obtain rfl:k=k':=by injection e
  exact oi (ops:=ops) (o:=⟨dst,.slice U x none (some h) none,ty,pos,af,g⟩) (by simp[Op.operands]) hx rfl) (fun V β a w hs=>by
  have e:a.eval x=.slice (some ⟨β k,0,none⟩) n c:=aC hs (x:=x) (by simp[Op.operands]) hx
  have h2:=fO (aC hs (x:=h) (by simp[Op.operands]) hh)
  unfold xU at hU
  split at hU
  case h_2=>cases hU
  rename_i el hul
  cases hinf:P.info? el with
  |none=>rw[hinf] at hU;cases hU
  |some inf=>
   rw[hinf] at hU
   simp at hU
   have hso: ∀w,(sizeOf el).run P w=.ok m w:=fun w=>by unfold sizeOf typeInfo;simp[program,Sem.run,hinf,hU]
   refine⟨.slice (some ⟨β k,0,none⟩) q c,?_,rfl⟩
   simp[execOp,Instr.sliceAt,Instr.slice,run_underlying hul,e,h2,Instr.sliceBounds,Instr.sliceBound,asIntOf,hq,hso,Addr.add])
end
class TaC (P:Program) where
 b:Tb
 zc:List (Nat×List CellD)
 op:Nat→Bool
 ok:TbOk P b
 zk: ∀U zs,aQ U zc=some zs→AQ P U=some zs
 mo:P.follows .mixedOrders=true
theorem HL {α:Type}{t:Nat}{x:α}: ∀ {l:List (Nat×α)},aQ t l=some x→(t,x)∈l
 |[],h=>by cases h
 |(k,y)::r,h=>by
  unfold aQ at h
  cases e:Nat.beq k t with
  |true=>rw[e] at h;cases h;rw[jv e];exact io
  |false=>rw[e] at h;exact jd _ (HL h)
theorem ZH {l:List (Nat×List CellD)}(h: ∀p∈l,AQ P p.1=some p.2): ∀U zs,aQ U l=some zs→AQ P U=some zs:=fun _U _zs e=>h _ (HL e)
section
variable (P:Program) [C:TaC P]
def SE (T:TF) (B:BF):Op→Option SA
 | .load U x=>match cO T x with
   |some (.p k off)=>match B k,C.b.ty U with
    |some (W,cs),some (true,n)=>bif C.op W then none else bif Nat.beq off 0&&Nat.beq cs.length n then some (.v (.v (.a cs))) else
     bif Nat.ble (off+n) cs.length&&Nat.ble cs.length 24 then some (.v (.v (.a ((cs.drop off).take n)))) else none
    |some (W,cs),some (false,_)=>bif C.op W then none else match cs[off]? with
     |some u=>some (.v (.v (.c u)))
     |none=>none
    |_,_=>none
   |_=>none
 | .store U ax x=>match cO T ax,cO T x,C.b.ty U with
   |some (.p k off),some (.v (.a us)),some (true,m)=>match B k with
    |some (W,cs)=>bif C.op W then none else bif Nat.beq off 0&&Nat.beq us.length m&&Nat.beq cs.length m then some (.st k W us) else none
    |none=>none
   |_,_,_=>none
 | .alloc U=>match aQ U C.zc with
   |some zs=>some (.bx U zs)
   |none=>none
 |op=>LK C.b T B op
def MO (ops:Array Oper) (T:TF) (B:BF) (o:Oper):Option SA:=
 match gd ops o T with
 |some true=>SE P T B o.op
 |some false=>some .sk
 |none=>none
def gst (ops:Array Oper) (d:Option Nat):List Oper→Bool
 |⟨_,_,_,_,_,some (j,_)⟩::_=>match ops[j]?,d with
  |some ⟨some t,_,_,_,_,_⟩,some u=>Nat.beq t u
  |_,_=>false
 |_=>false
variable {P}
theorem SH {s:SA}(hg:gd ops ⟨dst,op,ty,pos,af,g⟩ T=some true) (h:SE P T B op=some s)
 (hd: ∀k U cs,s=.st k U cs→dst=none):Sem P ops ⟨dst,op,ty,pos,af,g⟩ T B s.eff:=by
 unfold SE at h
 split at h
 ·split at h
  ·rename_i e
   split at h
   ·rename_i e1 e2
    rw[uZ,uZ,uZ] at h
    split at h
    ·cases h
    ·split at h
     ·rename_i hc
      cases h
      rw[di] at hc
      have h0:=jv hc.1
      have hl:=jv hc.2
      subst h0
      exact cD (C.ok.ty _ _ e2) e e1 (by rw[wC];exact kZ (qe hl)) hl hg
     ·split at h
      ·rename_i hc
       cases h
       rw[di] at hc
       have h0:=gj hc.1
       exact cD (C.ok.ty _ _ e2) e e1 rfl (by rw[gX,lZ];omega) hg
      ·cases h
   ·rename_i e1 e2
    rw[uZ] at h
    split at h
    ·cases h
    ·split at h
     ·rename_i e3;cases h;exact pQ (C.ok.ty _ _ e2) e e1 e3 hg
     ·cases h
   ·cases h
  ·cases h
 ·split at h
  ·rename_i e1 e2 e3
   split at h
   ·rename_i e4
    rw[uZ,uZ] at h
    split at h
    ·cases h
    ·split at h
     ·rename_i hc
      cases h
      rw[di,di] at hc
      have h0:=jv hc.1.1
      subst h0
      have:=hd _ _ _ rfl
      subst this
      exact dN (C.ok.ty _ _ e3) e1 e2 e4 (jv hc.1.2) (jv hc.2) hg
     ·cases h
   ·cases h
  ·cases h
 ·split at h
  ·rename_i e;cases h;exact jc (C.zk _ _ e) hg
  ·cases h
 ·exact HH C.ok hg h hd
theorem qu {s:SA}(h:MO P ops T B ⟨dst,op,ty,pos,af,g⟩=some s)
 (hd: ∀k U cs,s=.st k U cs→dst=none):Sem P ops ⟨dst,op,ty,pos,af,g⟩ T B s.eff:=by
 unfold MO at h
 split at h
 ·rename_i e;exact SH e h hd
 ·rename_i e;cases h;exact tg e
 ·cases h
end
structure DL (P:Program) (ops:Array Oper) (os:List Oper) (σ:St) (K:St→Prop):Prop where
 h:dl P ops os σ K
structure DQ (P:Program) (ops:Array Oper) (hs:List Nat) (os:List Oper) (s:Sq) (K:Sq→Prop):Prop where
 h:dq P ops hs os s K
structure DW (P:Program) (c:Code) (σ:St) (Q:Exit→St→Prop):Prop where
 h:Dw P c σ Q
section
variable (P:Program) [C:TaC P] (ops:Array Oper) (K:St→Prop) (n:Nat)
def JJ:List Oper→List (Nat×DV)→List (Nat×TypeId×List CellD)→Prop
 |[],tm,bx=>K ⟨n,tm,bx⟩
 |o::os,tm,bx=>bif gst ops o.dst os then DL P ops (o::os) ⟨n,tm,bx⟩ K else match o.dst,MO P ops (fun s=>aQ s tm) (fun l=>aQ l bx) o with
  |some t,some .sk=>JJ os ((t,.u)::tm) bx
  |some t,some (.v x)=>JJ os ((t,x)::tm) bx
  |some t,some (.bx U cs)=>match aQ t bx with
   |none=>JJ os ((t,.p t 0)::tm) ((t,U,cs)::bx)
   |some _=>DL P ops (o::os) ⟨n,tm,bx⟩ K
  |none,some (.st j U cs)=>JJ os tm ((j,U,cs)::bx)
  |_,_=>DL P ops (o::os) ⟨n,tm,bx⟩ K
variable {P ops K n}
theorem fa: ∀ {os:List Oper}{tm:List (Nat×DV)}{bx:List (Nat×TypeId×List CellD)},JJ P ops K n os tm bx→dl P ops os ⟨n,tm,bx⟩ K
 |[],tm,bx,h=>h
 |⟨dst,op,ty,pos,af,g⟩::os,tm,bx,h=>by
  unfold JJ at h
  rw[uZ] at h
  split at h
  ·exact h.h
  ·split at h
   ·rename_i t e1 e2
    cases e1
    exact xq (qu e2 (fun _ _ _ e=>by cases e)) (fa h)
   ·rename_i t x e1 e2
    cases e1
    exact aO (qu e2 (fun _ _ _ e=>by cases e)) (fa h)
   ·rename_i t U cs e1 e2
    cases e1
    split at h
    ·rename_i e3;exact rQ (qu e2 (fun _ _ _ e=>by cases e)) e3 (fa h)
    ·exact h.h
   ·rename_i j U cs e1 e2
    cases e1
    exact jk (qu e2 (fun _ _ _ _=>rfl)) (fa h)
   ·exact h.h
end
section
variable (P:Program) [C:TaC P] (ops:Array Oper) (hs:List Nat) (K:Sq→Prop) (n:Nat)
def Tk:List Oper→List (Nat×DV)→List (Nat×TypeId×List CellD)→List (Nat×TypeId×List CellD)→List Nat→Prop
 |[],tm,bx,nb,sd=>K ⟨⟨n,tm,bx⟩,nb,sd⟩
 |o::os,tm,bx,nb,sd=>bif gst ops o.dst os then DQ P ops hs (o::os) ⟨⟨n,tm,bx⟩,nb,sd⟩ K else match o.dst,MO P ops (fun s=>aQ s tm) (hid hs (fun l=>aQ l bx)) o with
  |some t,some .sk=>Tk os ((t,.u)::tm) bx nb sd
  |some t,some (.v x)=>Tk os ((t,x)::tm) bx nb sd
  |some t,some (.bx U cs)=>match aQ t (nb++bx) with
   |none=>Tk os ((t,.p t 0)::tm) bx ((t,U,cs)::nb) sd
   |some _=>DQ P ops hs (o::os) ⟨⟨n,tm,bx⟩,nb,sd⟩ K
  |_,_=>DQ P ops hs (o::os) ⟨⟨n,tm,bx⟩,nb,sd⟩ K
variable {P ops hs K n}
theorem dP: ∀ {os:List Oper}{tm:List (Nat×DV)}{bx nb:List (Nat×TypeId×List CellD)}{sd:List Nat},Tk P ops hs K n os tm bx nb sd→dq P ops hs os ⟨⟨n,tm,bx⟩,nb,sd⟩ K
 |[],tm,bx,nb,sd,h=>h
 |⟨dst,op,ty,pos,af,g⟩::os,tm,bx,nb,sd,h=>by
  unfold Tk at h
  rw[uZ] at h
  split at h
  ·exact h.h
  ·split at h
   ·rename_i t e1 e2
    cases e1
    exact B7 (qu e2 (fun _ _ _ e=>by cases e)) (dP h)
   ·rename_i t x e1 e2
    cases e1
    exact cK (qu e2 (fun _ _ _ e=>by cases e)) (dP h)
   ·rename_i t U cs e1 e2
    cases e1
    split at h
    ·rename_i e3;exact AU (qu e2 (fun _ _ _ e=>by cases e)) e3 (dP h)
    ·exact h.h
   ·exact h.h
end
section
variable (P:Program) [C:TaC P]
def Tj:Code→St→(Exit→St→Prop)→Prop
 | .seq x y,σ,Q=>Tj x σ (Fh (fun σ'=>Tj y σ' Q) Q)
 | .skip,σ,Q=>Q .normal σ
 | .ret,σ,Q=>Q .ret σ
 | .exit id,σ,Q=>Q (.exit id) σ
 | .block id c,σ,Q=>Tj c σ (Sk id Q)
 | .region id ⟨l⟩ false,⟨n,tm,bx⟩,Q=>bif NM ⟨l⟩ n then JJ P ⟨l⟩ (Q .normal) n l tm bx else DW P (.region id ⟨l⟩ false) ⟨n,tm,bx⟩ Q
 |c,σ,Q=>DW P c σ Q
variable {P}
theorem ac9 {c:Code}: ∀ {σ:St}{Q Q':Exit→St→Prop},(∀e σ',Q e σ'→Q' e σ')→Tj P c σ Q→Dw P c σ Q':=by
 induction c with
 |seq x y ihx ihy=>
  intro σ Q Q' hq h
  refine ae (ihx (fun e σ' he=>?_) h)
  cases e with
  |normal=>exact ihy hq he
  |_=>exact hq _ _ he
 |skip=>intro σ Q Q' hq h;exact aA (hq _ _ h)
 |ret=>intro σ Q Q' hq h;exact ba (hq _ _ h)
 |exit id=>intro σ Q Q' hq h;exact bV (hq _ _ h)
 |block id c ih=>
  intro σ Q Q' hq h
  refine Dw.mono (aG (ih (fun e σ' he=>he) h)) hq
 |region id ops draw=>
  intro σ Q Q' hq h
  obtain⟨l⟩:=ops
  obtain⟨n,tm,bx⟩:=σ
  cases draw with
  |true=>exact Dw.mono h.h hq
  |false=>
   have h:bif NM ⟨l⟩ n then JJ P ⟨l⟩ (Q .normal) n l tm bx else DW P (.region id ⟨l⟩ false) ⟨n,tm,bx⟩ Q:=h
   rw[uZ] at h
   split at h
   ·rename_i hc;exact Dw.mono (AB hc (fa h)) hq
   ·exact Dw.mono h.h hq
 |_=>intro σ Q Q' hq h;exact Dw.mono h.h hq
theorem gZ {c:Code}(h:Tj P c σ Q):Dw P c σ Q:=ac9 (fun _ _ h=>h) h
end
section
variable {P:Program}[C:TaC P] {ops:Array Oper}{os:List Oper}{n t:Nat}{tm:List (Nat×DV)}{bx nb:List (Nat×TypeId×List CellD)}{K:St→Prop}{K':Sq→Prop}{hs sd:List Nat}{ty:TypeId}{pos:String}{af:Array Edge}{g:Option (Nat×Bool)}{op:Op}
omit C in
theorem MQ {K2:Sq→Prop}(hk: ∀s,K' s→K2 s): ∀ {os:List Oper}{s:Sq},dq P ops hs os s K'→dq P ops hs os s K2
 |[],s,h=>hk s h
 |_::_,_,⟨e,a,b,c,d,f,h⟩=>⟨e,a,b,c,d,f,MQ hk h⟩
theorem ar {x:DV}(h:Sem P ops ⟨some t,op,ty,pos,af,g⟩ (fun s=>aQ s tm) (fun k=>aQ k bx) (.r x)) (hk:JJ P ops K n os ((t,x)::tm) bx):DL P ops (⟨some t,op,ty,pos,af,g⟩::os) ⟨n,tm,bx⟩ K:=⟨aO h (fa hk)⟩
theorem aq {x:DV}(h:Sem P ops ⟨some t,op,ty,pos,af,g⟩ (fun s=>aQ s tm) (hid hs (fun k=>aQ k bx)) (.r x)) (hk:Tk P ops hs K' n os ((t,x)::tm) bx nb sd):DQ P ops hs (⟨some t,op,ty,pos,af,g⟩::os) ⟨⟨n,tm,bx⟩,nb,sd⟩ K':=⟨cK h (dP hk)⟩
theorem r9 (h:Sem P ops ⟨none,op,ty,pos,af,g⟩ (fun s=>aQ s tm) (fun k=>aQ k bx) (.s k U cs)) (hk:JJ P ops K n os tm ((k,U,cs)::bx)):DL P ops (⟨none,op,ty,pos,af,g⟩::os) ⟨n,tm,bx⟩ K:=⟨jk h (fa hk)⟩
theorem lg {b:Bool}(h:Sem P ops ⟨some t,op,ty,pos,af,g⟩ (fun s=>aQ s tm) (fun k=>aQ k bx) (.r (.v (.c (.b b))))) (hk: ∀c,b=c→JJ P ops K n os ((t,.v (.c (.b c)))::tm) bx):DL P ops (⟨some t,op,ty,pos,af,g⟩::os) ⟨n,tm,bx⟩ K:=⟨OL h fun c e=>fa (hk c e)⟩
theorem D5 {b:Bool}(h:Sem P ops ⟨some t,op,ty,pos,af,g⟩ (fun s=>aQ s tm) (hid hs (fun k=>aQ k bx)) (.r (.v (.c (.b b))))) (hk: ∀c,b=c→Tk P ops hs K' n os ((t,.v (.c (.b c)))::tm) bx nb sd):DQ P ops hs (⟨some t,op,ty,pos,af,g⟩::os) ⟨⟨n,tm,bx⟩,nb,sd⟩ K':=⟨RO h fun c e=>dP (hk c e)⟩
section
variable {fo:Operand}{args:Array Operand}{at_:Array TypeId}{f:FuncId}{ds rs:List D0}
theorem ac (h:(cO (fun s=>aQ s tm) fo,qK (fun s=>aQ s tm) args.toList,gd ops ⟨some t,.call ⟨.value fo,args,at_⟩,ty,pos,af,g⟩ fun s=>aQ s tm)=(some (.v (.c (.f f))),some ds,some true)) (hok:Ok P f ds rs) (hk:JJ P ops K n os ((t,xV rs)::tm) bx):
 DL P ops (⟨some t,.call ⟨.value fo,args,at_⟩,ty,pos,af,g⟩::os) ⟨n,tm,bx⟩ K:=ar (dg h hok) hk
theorem aI (h:(cO (fun s=>aQ s tm) fo,qK (fun s=>aQ s tm) args.toList,gd ops ⟨some t,.call ⟨.value fo,args,at_⟩,ty,pos,af,g⟩ fun s=>aQ s tm)=(some (.v (.c (.f f))),some ds,some true)) (hok:Ok P f ds rs) (hk:Tk P ops hs K' n os ((t,xV rs)::tm) bx nb sd):
 DQ P ops hs (⟨some t,.call ⟨.value fo,args,at_⟩,ty,pos,af,g⟩::os) ⟨⟨n,tm,bx⟩,nb,sd⟩ K':=aq (dg h hok) hk
end
variable {Q:Exit→St→Prop}{x y:Code}{σ:St}
theorem dS {b:Bool}(hb:aQ t σ.tm=some (.v (.c (.b b)))) (ht:b=true→Tj P x σ Q) (hf:b=false→Tj P y σ Q):DW P (.cond (.tmp t) x y) σ Q:=⟨aP hb (fun e=>gZ (ht e)) fun e=>gZ (hf e)⟩
theorem lr (hb:aQ t tm=some (.v (.c (.b true)))) (h:Tj P x ⟨n,tm,bx⟩ Q):DW P (.cond (.tmp t) x y) ⟨n,tm,bx⟩ Q:=⟨cz hb (gZ h)⟩
theorem qq (hb:aQ t tm=some (.v (.c (.b false)))) (h:Tj P y ⟨n,tm,bx⟩ Q):DW P (.cond (.tmp t) x y) ⟨n,tm,bx⟩ Q:=⟨bh hb (gZ h)⟩
theorem dF (m:Nat) (hs:List Nat) (h:Tk P l.toArray hs (fun s=>JJ P l.toArray (Q .normal) s.st.n (l.drop m) s.st.tm (s.nb++s.st.bx)) n (l.take m) tm bx [] []) (hc:N2 l.toArray m n=true:=by kernel_rfl):
 DW P (.region id l.toArray true) ⟨n,tm,bx⟩ Q:=⟨xr m hs C.mo hc rfl rfl (MQ (fun _ hk=>fa hk) (dP h))⟩
theorem ah (h:JJ P l.toArray (Q .normal) n l tm bx) (hn:NM l.toArray n=true:=by kernel_rfl):Dw P (.region id l.toArray false) ⟨n,tm,bx⟩ Q:=AB hn (fa h)
theorem cX (m:Nat) (hs:List Nat) (h:Tk P l.toArray hs (fun s=>JJ P l.toArray (Q .normal) s.st.n (l.drop m) s.st.tm (s.nb++s.st.bx)) n (l.take m) tm bx [] []) (hc:N2 l.toArray m n=true:=by kernel_rfl):
 Dw P (.region id l.toArray true) ⟨n,tm,bx⟩ Q:=(dF m hs h hc).h
theorem b9 {f:FuncId}{fn:Func}{c:Code}{ds rs:List D0}(hf:P.funcs[f]? =some fn) (hb:fn.body=some c) (h:Tj P c ⟨fn.ntmps,mU 0 ds,[]⟩ fun e σ=>(e=.normal∨e=.ret)∧qP P σ fn.results.toList=some rs)
 (hcal:fT P f=true:=by kernel_rfl) (hlen:Nat.ble ds.length fn.ntmps=true:=by rfl):Ok P f ds rs:=Ok.of hcal hf hb hlen (gZ h)
end
def zcT:List (Nat×List CellD):=[(36,[.b false,.s 0 []]),(38,[.b false,.s 0 [],.b false,.s 0 []]),(40,[.b false,.s 0 [],.b false,.s 0 [],.b false,.s 0 [],.b false,.s 0 [],.b false,.s 0 [],.b false,.s 0 []]),(45,[.b false,.s 0 [],.b false,.s 0 [],.b false,.s 0 [],.b false,.s 0 [],.b false,.s 0 [],.b false,.s 0 []]),(47,[.b false,.s 0 [],.b false,.s 0 [],.b false,.s 0 [],.b false,.s 0 [],.b false,.s 0 [],.b false,.s 0 [],.b false,.s 0 [],.b false,.s 0 [],.b false,.s 0 [],.b false,.s 0 []]),(49,[.b false,.b false,.s 0 [],.b false,.s 0 [],.b false,.s 0 [],.b false,.s 0 [],.b false,.s 0 [],.b false,.s 0 [],.b false,.s 0 [],.b false,.s 0 [],.b false,.s 0 [],.b false,.s 0 [],.b false,.s 0 [],.b false,.s 0 [],.b false,.b false,.s 0 [],.b false,.s 0 [],.b false,.s 0 [],.b false,.s 0 [],.b false,.s 0 [],.b false,.s 0 [],.b false,.s 0 [],.b false,.s 0 [],.b false,.s 0 [],.b false,.s 0 [],.b false,.s 0 [],.b false,.s 0 [],.b false,.s 0 [],.b false,.s 0 [],.b false,.s 0 [],.b false,.s 0 [],.b false,.s 0 [],.b false,.s 0 [],.b false,.s 0 [],.b false,.s 0 []]),(65,[.b false,.s 0 [],.b false,.s 0 [],.b false,.s 0 [],.b false,.s 0 []]),(72,[.i .i64 0,.i .i64 0]),(129,[.b false,.s 0 [],.b false,.s 0 [],.b false,.s 0 [],.b false,.s 0 [],.b false,.s 0 [],.b false,.s 0 []]),(148,[.i .i64 0,.i .i64 0,.i .i64 0]),(186,[.b false,.s 0 [],.b false,.s 0 [],.b false,.s 0 [],.b false,.s 0 [],.b false,.s 0 [],.b false,.s 0 [],.b false,.s 0 [],.b false,.s 0 [],.b false,.s 0 [],.b false,.s 0 [],.b false,.s 0 [],.b false,.s 0 []]),(230,[.i .i64 0,.i .i64 0]),(256,[.b false,.s 0 [],.b false,.s 0 [],.b false,.s 0 [],.b false,.s 0 []]),(303,[.i .i64 0,.b false,.s 0 [],.b false,.s 0 [],.b false,.s 0 [],.b false,.s 0 [],.b false,.s 0 [],.b false,.s 0 []])]
def opF (U:Nat):Bool:=bif Nat.beq U 303 then true else bif Nat.beq U 49 then true else false
instance:TaC Tryz.prog:=⟨tb,zcT,opF,So,ZH (re.2 ⟨D9,re.2 ⟨vg,re.2 ⟨NF,re.2 ⟨Zm,re.2 ⟨De,re.2 ⟨OE,re.2 ⟨Y2,re.2 ⟨tD,re.2 ⟨lW,re.2 ⟨Qc,re.2 ⟨I3,re.2 ⟨p9,re.2 ⟨I6,re.2 ⟨aaU,fun _ h=>nomatch h⟩⟩⟩⟩⟩⟩⟩⟩⟩⟩⟩⟩⟩⟩),jK⟩
theorem mT (hL:Lim xs) (hn:xs.length≤1000000000):Ok Tryz.prog 168 [.c (cM xs)] [.c (cL (val xs))]:=by
 refine b9 Tryz.func168 rfl ?_
 refine DW.mk<|bv (ι:={k:Nat // k≤xs.length∧trm (xs.take k)=trm xs}) (fun i=>⟨21,[(0,.v (.c (cM (xs.take i.1))))],[]⟩) (fun i=>i.1) ⟨xs.length,ck _,by rw[qh]⟩ (ap ⟨by rw[qh];rfl,trivial⟩ trivial rfl) ?_
 rintro⟨k,hk0,hT⟩
 have hk:(xs.take k).length=k:=by rw[gX];omega
 dsimp only
 refine gZ ?_
 refine lg (bJ rfl) (fun c1 hb1=>?_)
 cases c1
 ·have hz:k=0:=by simp only[decide_eq_false_iff_not] at hb1;omega
  have hfin:cL (val xs)=cM (xs.take k):=by rw[RJ hL,←hT,hz];rfl
  refine qq rfl<|ai ?_
  rw[hfin]
  exact ak ag
 ·have h1:0<k:=by simp only[decide_eq_true_eq] at hb1;omega
  refine ar (bF (((k-1:Nat):Int)) (by rw[hk,show((k-1:Nat):Int)=(k:Int)-1 from by omega];exact aS (by omega) (by omega)) rfl)<|ar (bc jz rfl rfl (by omega) (jR _) rfl rfl) ?_
  refine ar (bn f5 rfl (lJ (i:=(k-1)) (by omega)) rfl) ?_
  refine dS rfl (fun hc2=>?_) (fun hc2=>?_)
  ·have hstep:=Oj h1 hk0 hT hc2
   refine ar (bF (((k-1:Nat):Int)) (by rw[hk,show((k-1:Nat):Int)=(k:Int)-1 from by omega];exact aS (by omega) (by omega)) rfl)<|ar (H4 (xs:=xs.take k) (j:=(k-1)) jz rfl rfl (by omega) rfl) ?_
   exact⟨⟨k-1,by omega,hstep⟩,ap ⟨by rw[show xs.take (k-1)=(xs.take k).take (k-1) from by rw[List.take_take,q5 (by omega)]];rfl,trivial⟩ trivial rfl,by show k-1<k;omega⟩
  ·have hfin:cL (val xs)=cM (xs.take k):=by rw[RJ hL];exact congrArg cM (Np h1 hk0 hT hc2)
   refine ai ?_
   rw[hfin]
   exact ak ag
theorem nQ (h:k<xs.length):val (xs.take (k+1))=val (xs.take k)+pw k*xs.getD k 0:=bm (getD_some h)
theorem qG (k:Nat):val (xs.take (k+1))=val (xs.take k)+pw k*xs.getD k 0:=by
 by_cases h:k<xs.length
 ·exact nQ h
 ·rw[f9 (by omega),List.getD,rT (by omega)];simp
structure PInv (p q:List Int) (k:Nat) (c:Int) (zs:List Int):Prop where
 le:k≤p.length
 c0:0≤c
 c1:c≤1
 L:Lim zs
 len:zs.length=k
 v:val zs+pw k*c=val (p.take k)+val (q.take k)
theorem PInv.step (h:PInv p q k c zs) (hp:Lim p) (hq:Lim q) (hk:k<p.length) (hS:S=c+p.getD k 0+q.getD k 0):PInv p q (k+1) (S/1000000000) (zs++[S%1000000000]):=by
 have h1:=du hp k
 have h2:=du hq k
 have:=h.c0
 have:=h.c1
 refine⟨hk,by omega,by omega,h.L.snoc (by omega) (by omega),by simp[h.len],?_⟩
 rw[qG k,qG k,nD h.len h.v (d:=S%1000000000) (c':=S/1000000000) (t:=p.getD k 0+q.getD k 0) (by omega)]
 grind
theorem PInv.done (h:PInv p q k c zs) (hk:k=p.length) (hq:q.length≤p.length):val (zs++[c])=val p+val q:=by
 have:=h.v
 rw[qt,h.len,this,hk,de (ck _),de hq]
structure SInv (p q:List Int) (k:Nat) (c:Int) (zs:List Int):Prop where
 le:k≤p.length
 c0:0≤c
 c1:c≤1
 L:Lim zs
 len:zs.length=k
 v:val zs-pw k*c=val (p.take k)-val (q.take k)
theorem SInv.step {c':Int}(h:SInv p q k c zs) (hk:k<p.length) (hd:0≤d) (hd2:d<1000000000) (hc0:0≤c') (hc1:c'≤1) (hS:d-1000000000*c'=p.getD k 0-c-q.getD k 0):SInv p q (k+1) c' (zs++[d]):=by
 refine⟨hk,hc0,hc1,h.L.snoc hd hd2,by simp[h.len],?_⟩
 have h1:=nD (zs:=zs) (k:=k) (c:= -c) (S:=val (p.take k)-val (q.take k)) (t:=p.getD k 0-q.getD k 0) (d:=d) (c':= -c') h.len (by rw[Int.mul_neg];have:=h.v;omega) (by omega)
 rw[qG k,qG k]
 grind
theorem SInv.done (h:SInv p q k c zs) (hk:k=p.length) (hq:q.length≤p.length) (hv:val q≤val p):val zs=val p-val q:=by
 have h1:=h.v
 rw[hk,de (ck _),de hq] at h1
 have h2:=fR h.L
 rw[h.len,hk] at h2
 have h4:=h.c0
 have h5:=h.c1
 have:c=0∨c=1:=by omega
 grind
structure TInv (p q:List Int) (i k:Nat) (c:Int) (zs:List Int):Prop where
 ik:i≤p.length
 kk:k≤q.length
 c0:0≤c
 c1:c<1000000000
 L:Lim zs
 len:zs.length=p.length+q.length
 z:Zr zs (i+q.length)
 v:val zs+pw (i+k)*c=val (p.take i)*val q+pw i*(p.getD i 0*val (q.take k))
theorem TInv.start:TInv p q 0 0 0 (List.replicate (p.length+q.length) 0):=
 ⟨Nat.zero_le _,iW _,by omega,by omega,Lim.zeros _,by simp,Zr.zeros _ _,by rw[AE];simp[val]⟩
theorem TInv.step (h:TInv p q i k c zs) (hp:Lim p) (hq:Lim q) (hi:i<p.length) (hk:k<q.length) (hS:S=c+zs.getD (i+k) 0+p.getD i 0*q.getD k 0):
 TInv p q i (k+1) (S/1000000000) (zs.set (i+k) (S%1000000000)):=by
 have h1:=du hp i
 have h2:=du hq k
 have h3:=du h.L (i+k)
 have hc0:=h.c0
 have hc1:=h.c1
 have hm0:0≤p.getD i 0*q.getD k 0:=fU h1.1 h2.1
 have hm1:p.getD i 0*q.getD k 0≤999999999*999999999:=qS (by omega) (by omega) h2.1 (by omega)
 have hlt:i+k<zs.length:=by rw[h.len];omega
 refine⟨h.ik,hk,by omega,by omega,h.L.set (by omega) (by omega),by simp[h.len],h.z.set (by omega),?_⟩
 rw[Cl (getD_some hlt),nQ hk,show i+(k+1)=i+k+1 from by omega,dT]
 have hv:=h.v
 rw[qv i k] at*
 grind
theorem TInv.row (h:TInv p q i k c zs) (hi:i<p.length) (hk:k=q.length):TInv p q (i+1) 0 0 (zs.set (i+q.length) c):=by
 have hlt:i+q.length<zs.length:=by rw[h.len];omega
 have hz:zs.getD (i+q.length) 0=0:=h.z (i+q.length) _ (ck _) (getD_some hlt)
 refine⟨hi,iW _,by omega,by omega,h.L.set h.c0 h.c1,by simp[h.len],?_,?_⟩
 ·rw[show i+1+q.length=i+q.length+1 from by omega];exact h.z.set_at
 ·rw[Cl (getD_some hlt),hz,nQ hi]
  have hv:=h.v
  simp only[List.take_zero,val,ny,Int.add_zero,Int.sub_zero]
  grind
theorem TInv.done (h:TInv p q i 0 0 zs) (hi:i=p.length):val zs=val p*val q:=by
 have hv:=h.v
 grind
theorem Om (hx:i<xs.length) (hy:i<ys.length) (h:xs.drop (i+1)=ys.drop (i+1)) (he:xs.getD i 0=ys.getD i 0):xs.drop i=ys.drop i:=by
 rw[nI hx,nI hy,h]
 grind
theorem Wc (h:0≤v):dI (sg true v)=.a ([.b (decide (((dJ v.natAbs).length:Int)>0))]++[cL v]):=by
 rw[gV]
 unfold dI cI
 have e1:cL (-v)=cL v:=by unfold cL;rw[Int.natAbs_neg]
 have e2:decide (-v<0)=decide (((dJ v.natAbs).length:Int)>0):=by
  by_cases h0:v=0
  ·subst h0;simp[lT]
  ·have:(dJ v.natAbs).length≠0:=fun e=>h0 (Fz.1 e)
   rw[show decide (-v<0)=true from by simp;omega,show decide (((dJ v.natAbs).length:Int)>0)=true from by simp only[decide_eq_true_eq];omega]
 grind
structure ShInv (xs:List Int) (j:Nat) (r:Int):Prop where
 le:j≤xs.length
 r0:0≤r
 v:r*pw j+val (xs.take j)=val xs
theorem ShInv.step (h:ShInv xs (i+1) r) (hL:Lim xs):ShInv xs i (r*1000000000+xs.getD i 0):=by
 have h1:=du hL i
 refine⟨by have:=h.le;omega,by have:=h.r0;omega,?_⟩
 have hv:=h.v
 rw[qG i,dT] at hv
 grind
theorem ShInv.bound (h:ShInv xs j r) (hL:Lim xs):r≤val xs:=by
 have:=h.v
 have h1:=cU j
 have h2:=cS (hL.take j)
 have h3:=m8 h1 h.r0
 grind
end Go.Proofs.YtegpmhlfjkhjmaaGreat
