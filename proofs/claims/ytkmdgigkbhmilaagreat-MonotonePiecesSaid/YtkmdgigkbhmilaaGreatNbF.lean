/-Arguments opened:ways,grid positions,what a contract gives a row. No condition. -/
import Derived.Test.YtkmdgigkbhmilaaGreatNbE
import Derived.Test.YtkmdgigkbhmilaaGreatRows
import Derived.Deep.Slices
import Derived.ProofKit
import Derived.OpenShut
import Derived.Carry
import Derived.Test.YtkmdgigkbhmilaaGreatProg
namespace Go.Proofs.YtkmdgigkbhmilaaGreat
open Go.ChangeShapes Go.WideShapes Go.ChangeAt Go.RowKit Go.Deep
theorem own:ownKnob Tryz.prog.godebug=none:=by kernel_rfl
theorem jq:laidOutB Tryz.prog=true:=by kernel_rfl
def RN:Nat→Prop:=fun _=>False
section
variable {H:Type}{enc:TypeId×Value→H}{w:World}{base:Nat}{spare:Nat→Bool}{held:Bool}
theorem wF {f:FuncId}{ds:List D0}{vs:Array Value}{W:World}(h:Ok Tryz.prog f ds [.c (.b true)]) (hr:RdL RN W vs.toList ds):Calls Tryz.prog f vs W fun e W'=>e=.returned (.bool true)∧Below W.heap.size W W':=
 (h.run RN vs W (fun _ h=>h.elim) hr).mono fun e w' ⟨v,e1,h1,h2⟩=>by
  have:=RdC.bool_eq h1
  subst this
  exact⟨e1,h2⟩
end
section
variable {H:Type}{enc:TypeId×Value→H}{w:World}{base:Nat}{spare:Nat→Bool}{held:Bool}
set_option maxRecDepth 100000 in
theorem CH {fuel:Nat}{cs:List Value}{x:DataW H×List MemPlace}(h:DataW.trod enc Tryz.prog w base spare held fuel 24 cs=some x):
 ∃K U A B C D E F:Int,(0≤K∧K≤255)∧(0≤U∧U≤255)∧(-128≤A∧A≤127)∧(-128≤B∧B≤127)∧(-128≤C∧C≤127)∧(-128≤D∧D≤127)∧(-128≤E∧E≤127)∧(-128≤F∧F≤127)∧RdCs RN w cs ([.i .u8 K]++[.i .u8 U]++[.i .i8 A]++[.i .i8 B]++[.i .i8 C]++[.i .i8 D]++[.i .i8 E]++[.i .i8 F]):=by
 obtain⟨xs,n,_,_,hcl,hxl,hf⟩:=DataW.trod_struct (P:=Tryz.prog) Tryz.underlying24 h
 have hcl:cs.length=8:=hcl.trans (by kernel_rfl)
 have hxl:xs.length=8:=hxl.trans (by kernel_rfl)
 match cs,hcl with
 |[c0,c1,c2,c3,c4,c5,c6,c7],_=>
  have h0:DataW.trod enc Tryz.prog w base spare held n 5 [c0]=xs[0]? :=hf 0 _ rfl
  have h1:DataW.trod enc Tryz.prog w base spare held n 5 [c1]=xs[1]? :=hf 1 _ rfl
  have h2:DataW.trod enc Tryz.prog w base spare held n 22 [c2]=xs[2]? :=hf 2 _ rfl
  have h3:DataW.trod enc Tryz.prog w base spare held n 22 [c3]=xs[3]? :=hf 3 _ rfl
  have h4:DataW.trod enc Tryz.prog w base spare held n 22 [c4]=xs[4]? :=hf 4 _ rfl
  have h5:DataW.trod enc Tryz.prog w base spare held n 22 [c5]=xs[5]? :=hf 5 _ rfl
  have h6:DataW.trod enc Tryz.prog w base spare held n 22 [c6]=xs[6]? :=hf 6 _ rfl
  have h7:DataW.trod enc Tryz.prog w base spare held n 22 [c7]=xs[7]? :=hf 7 _ rfl
  rw[List.getElem?_eq_getElem (by omega)] at h0 h1 h2 h3 h4 h5 h6 h7
  obtain⟨K,e0,_,g0⟩:=DataW.trod_int (P:=Tryz.prog) Tryz.underlying5 h0
  obtain⟨U,e1,_,g1⟩:=DataW.trod_int (P:=Tryz.prog) Tryz.underlying5 h1
  obtain⟨A,e2,_,g2⟩:=DataW.trod_int (P:=Tryz.prog) Tryz.underlying22 h2
  obtain⟨B,e3,_,g3⟩:=DataW.trod_int (P:=Tryz.prog) Tryz.underlying22 h3
  obtain⟨C,e4,_,g4⟩:=DataW.trod_int (P:=Tryz.prog) Tryz.underlying22 h4
  obtain⟨D,e5,_,g5⟩:=DataW.trod_int (P:=Tryz.prog) Tryz.underlying22 h5
  obtain⟨E,e6,_,g6⟩:=DataW.trod_int (P:=Tryz.prog) Tryz.underlying22 h6
  obtain⟨F,e7,_,g7⟩:=DataW.trod_int (P:=Tryz.prog) Tryz.underlying22 h7
  simp at e0 e1 e2 e3 e4 e5 e6 e7
  subst e0 e1 e2 e3 e4 e5 e6 e7
  simp[Lit.wf,IntKind.min,IntKind.max,IntKind.signed,IntKind.bits] at g0 g1 g2 g3 g4 g5 g6 g7
  have k: ∀(t:IntKind) (q:Int),RdCs RN w [Value.int t q] [.i t q]:=fun t q=>RdCs.cons (.i _ _) RdCs.nil
  exact⟨K,U,A,B,C,D,E,F,by omega,by omega,by omega,by omega,by omega,by omega,by omega,by omega,RdCs.append (RdCs.append (RdCs.append (RdCs.append (RdCs.append (RdCs.append (RdCs.append (k .u8 K) (k .u8 U)) (k .i8 A)) (k .i8 B)) (k .i8 C)) (k .i8 D)) (k .i8 E)) (k .i8 F)⟩
set_option maxRecDepth 100000 in
theorem jc {fuel:Nat}{cs:List Value}{x:DataW H×List MemPlace}(h:DataW.trod enc Tryz.prog w base spare held fuel 26 cs=some x):
 ∃K U A B C D E F K' U' A' B' C' D' E' F' N:Int,(0≤K∧K≤255)∧(0≤U∧U≤255)∧(-128≤A∧A≤127)∧(-128≤B∧B≤127)∧(-128≤C∧C≤127)∧(-128≤D∧D≤127)∧(-128≤E∧E≤127)∧(-128≤F∧F≤127)∧(0≤K'∧K'≤255)∧(0≤U'∧U'≤255)∧(-128≤A'∧A'≤127)∧(-128≤B'∧B'≤127)∧(-128≤C'∧C'≤127)∧(-128≤D'∧D'≤127)∧(-128≤E'∧E'≤127)∧(-128≤F'∧F'≤127)∧(0≤N∧N≤255)∧RdCs RN w cs (([.i .u8 K]++[.i .u8 U]++[.i .i8 A]++[.i .i8 B]++[.i .i8 C]++[.i .i8 D]++[.i .i8 E]++[.i .i8 F])++([.i .u8 K']++[.i .u8 U']++[.i .i8 A']++[.i .i8 B']++[.i .i8 C']++[.i .i8 D']++[.i .i8 E']++[.i .i8 F'])++[.i .u8 N]):=by
 obtain⟨xs,n,_,_,hcl,hxl,hf⟩:=DataW.trod_struct (P:=Tryz.prog) Tryz.underlying26 h
 have hcl:cs.length=17:=hcl.trans (by kernel_rfl)
 have hxl:xs.length=3:=hxl.trans (by kernel_rfl)
 match cs,hcl with
 |[c0,c1,c2,c3,c4,c5,c6,c7,c8,c9,c10,c11,c12,c13,c14,c15,c16],_=>
  have h0:DataW.trod enc Tryz.prog w base spare held n 24 [c0,c1,c2,c3,c4,c5,c6,c7]=xs[0]? :=hf 0 _ rfl
  have h1:DataW.trod enc Tryz.prog w base spare held n 24 [c8,c9,c10,c11,c12,c13,c14,c15]=xs[1]? :=hf 1 _ rfl
  have h2:DataW.trod enc Tryz.prog w base spare held n 5 [c16]=xs[2]? :=hf 2 _ rfl
  rw[List.getElem?_eq_getElem (by omega)] at h0 h1 h2
  obtain⟨K,U,A,B,C,D,E,F,b0,b1,b2,b3,b4,b5,b6,b7,r0⟩:=CH h0
  obtain⟨K',U',A',B',C',D',E',F',d0,d1,d2,d3,d4,d5,d6,d7,r1⟩:=CH h1
  obtain⟨N,e2,_,g2⟩:=DataW.trod_int (P:=Tryz.prog) Tryz.underlying5 h2
  simp at e2
  subst e2
  simp[Lit.wf,IntKind.min,IntKind.max,IntKind.signed,IntKind.bits] at g2
  exact⟨K,U,A,B,C,D,E,F,K',U',A',B',C',D',E',F',N,b0,b1,b2,b3,b4,b5,b6,b7,d0,d1,d2,d3,d4,d5,d6,d7,by omega,RdCs.append (RdCs.append r0 r1) (RdCs.cons (.i _ _) RdCs.nil)⟩
end
end Go.Proofs.YtkmdgigkbhmilaaGreat
namespace Go.Proofs.YtkmdgigkbhmilaaGreat
open Go Go.RowKit
variable {ty:TypeId}{pos:String}{af:Array Edge}{g:Option (Nat×Bool)}{dst:Option Nat}
section
variable {P:Program}{ops:Array Oper}{T:TF}{B:BF}{dst:Option Nat}{x y c:Operand}{ty U W xt yt:TypeId}{pos:String}{af:Array Edge}{g:Option (Nat×Bool)}{dv:DV}{k off n m:Nat}{cs us:List CellD}{u:CellD}
theorem bN (h:(di T x,gd ops ⟨dst,.move x,ty,pos,af,g⟩ T)=(some dv,some true)):Sem P ops ⟨dst,.move x,ty,pos,af,g⟩ T B (.r dv):=Ce (congrArg Prod.fst h) (congrArg Prod.snd h)
theorem Vt (hU:nv P U=some (false,n)) (h:(di T x,B k,cs[off]?,gd ops ⟨dst,.load U x,ty,pos,af,g⟩ T)=(some (.p k off),some (W,cs),some u,some true)):Sem P ops ⟨dst,.load U x,ty,pos,af,g⟩ T B (.r (.v (.c u))):=
 bE hU (congrArg Prod.fst h) (congrArg (fun q=>q.2.1) h) (congrArg (fun q=>q.2.2.1) h) (congrArg (fun q=>q.2.2.2) h)
theorem aF (us:List CellD) (hU:nv P U=some (true,n)) (h:(di T x,B k,(cs.drop off).take n,us.length,gd ops ⟨dst,.load U x,ty,pos,af,g⟩ T)=(some (.p k off),some (W,cs),us,n,some true)):Sem P ops ⟨dst,.load U x,ty,pos,af,g⟩ T B (.r (.v (.a us))):=
 aA hU (congrArg Prod.fst h) (congrArg (fun q=>q.2.1) h) (congrArg (fun q=>q.2.2.1) h) (congrArg (fun q=>q.2.2.2.1) h) (congrArg (fun q=>q.2.2.2.2) h)
theorem cD (us:List CellD) (hU:nv P U=some (true,n)) (h:(di T x,B k,us.length,gd ops ⟨dst,.load U x,ty,pos,af,g⟩ T)=(some (.p k off),some (W,cs),n,some true)) (hu:(cs.drop off).take n=us):Sem P ops ⟨dst,.load U x,ty,pos,af,g⟩ T B (.r (.v (.a us))):=
 aA hU (congrArg Prod.fst h) (congrArg (fun q=>q.2.1) h) hu (congrArg (fun q=>q.2.2.1) h) (congrArg (fun q=>q.2.2.2) h)
theorem Vr (hU:nv P U=some (true,n)) (h:(di T x,B k,cs.length,gd ops ⟨dst,.load U x,ty,pos,af,g⟩ T)=(some (.p k 0),some (W,cs),n,some true)):Sem P ops ⟨dst,.load U x,ty,pos,af,g⟩ T B (.r (.v (.a cs))):=
 aA hU (congrArg Prod.fst h) (congrArg (fun q=>q.2.1) h) (by rw[List.drop_zero];exact List.take_of_length_le (Nat.le_of_eq (congrArg (fun q=>q.2.2.1) h))) (congrArg (fun q=>q.2.2.1) h) (congrArg (fun q=>q.2.2.2) h)
theorem iP {op:BinOp}{kk:IntKind}{a e:Int}{b:Bool}(h:(di T x,di T y,MP op a e,gd ops ⟨dst,.binOp op xt x y yt,ty,pos,af,g⟩ T)=(some (.v (.c (.i kk a))),some (.v (.c (.i kk e))),some b,some true)):
 Sem P ops ⟨dst,.binOp op xt x y yt,ty,pos,af,g⟩ T B (.r (.v (.c (.b b)))):=FI (congrArg Prod.fst h) (congrArg (fun q=>q.2.1) h) (congrArg (fun q=>q.2.2.1) h) (congrArg (fun q=>q.2.2.2) h)
theorem fG {ax:Operand}(hU:nv P U=some (true,m)) (h:(di T ax,di T x,B k,us.length,cs.length,gd ops ⟨none,.store U ax x,ty,pos,af,g⟩ T)=(some (.p k 0),some (.v (.a us)),some (W,cs),m,m,some true)):
 Sem P ops ⟨none,.store U ax x,ty,pos,af,g⟩ T B (.s k W us):=aZ hU (congrArg Prod.fst h) (congrArg (fun q=>q.2.1) h) (congrArg (fun q=>q.2.2.1) h) (congrArg (fun q=>q.2.2.2.1) h) (congrArg (fun q=>q.2.2.2.2.1) h) (congrArg (fun q=>q.2.2.2.2.2) h)
theorem am {fo:Operand}{args:Array Operand}{at_:Array TypeId}{f:FuncId}{ds rs:List D0}(h:(di T fo,nI T args.toList,gd ops ⟨dst,.call ⟨.value fo,args,at_⟩,ty,pos,af,g⟩ T)=(some (.v (.c (.f f))),some ds,some true)) (hok:Ok P f ds rs):
 Sem P ops ⟨dst,.call ⟨.value fo,args,at_⟩,ty,pos,af,g⟩ T B (.r (s8 rs)):=L5 (congrArg Prod.fst h) (congrArg (fun q=>q.2.1) h) hok (congrArg (fun q=>q.2.2) h)
end
section
variable {P:Program}{σ:St}{Q:Exit→St→Prop}{n t:Nat}{tm:List (Nat×DV)}{bx:List (Nat×TypeId×List CellD)}{rt:List ResultVar}{ds rs:List D0}
theorem ab {id:Nat}{l:List Oper}(h:dl P l.toArray l σ (Q .normal)) (hn:Q2 l.toArray σ.n=true:=by kernel_rfl):Dw P (.region id l.toArray false) σ Q:=HB hn h
theorem Ok.fn {f:FuncId}{fn:Func}{c:Code}(hf:P.funcs[f]? =some fn) (n:Nat) (rt:List ResultVar) (hb:fn.body=some c) (h:Dw P c ⟨n,jX 0 ds,[]⟩ fun e σ=>(e=.normal∨e=.ret)∧nl P σ rt=some rs)
 (hcal:fg P f=true:=by kernel_rfl) (hlen:Nat.ble ds.length fn.ntmps=true:=by rfl) (hn:fn.ntmps=n:=by rfl) (hr:fn.results.toList=rt:=by rfl):Ok P f ds rs:=by
 subst hn hr
 exact Ok.of hcal hf hb hlen h
theorem aq (h:nl P σ rt=some rs):(Exit.ret=.normal∨Exit.ret=.ret)∧nl P σ rt=some rs:=⟨.inr rfl,h⟩
theorem JG (h:nl P σ rt=some rs):(Exit.normal=.normal∨Exit.normal=.ret)∧nl P σ rt=some rs:=⟨.inl rfl,h⟩
theorem aE {d:D0}(hr:nl P ⟨n,tm,bx⟩ rt=some ds) (h:aT t tm=some (.v d):=by rfl):nl P ⟨n,tm,bx⟩ (.tmp t::rt)=some (d::ds):=Jl h hr
theorem a7 {U W:TypeId}{m k off:Nat}{cs us:List CellD}(hU:nv P U=some (true,m)) (h:(aT t tm,aT k bx,(cs.drop off).take m,us.length)=(some (.p k off),some (W,cs),us,m))
 (hr:nl P ⟨n,tm,bx⟩ rt=some ds):nl P ⟨n,tm,bx⟩ (.cell t U::rt)=some (.a us::ds):=fr hU (congrArg Prod.fst h) (congrArg (fun q=>q.2.1) h) (congrArg (fun q=>q.2.2.1) h) (congrArg (fun q=>q.2.2.2) h) hr
end
structure Tb where
 ty:Nat→Option (Bool×Nat)
 fd:Nat→Nat→Option Nat
 sl:Nat→Option Nat
structure TbOk (P:Program) (b:Tb):Prop where
 ty: ∀U r,b.ty U=some r→nv P U=some r
 fd: ∀U f r,b.fd U f=some r→Mb P U f=some r
 sl: ∀U r,b.sl U=some r→qP P U=some r
inductive SA where
 |sk
 |v (x:DV)
 |bx (U:TypeId) (cs:List CellD)
 |st (k:Nat) (U:TypeId) (cs:List CellD)
def SA.eff:SA→Eff
 | .sk=>.skip
 | .v x=>.r x
 | .bx U cs=>.a U cs none
 | .st k U cs=>.s k U cs
def LT (b:Tb) (T:TF) (B:BF):Op→Option SA
 | .move x=>match di T x with
   |some dv=>some (.v dv)
   |none=>none
 | .assign x=>match di T x with
   |some dv=>some (.v dv)
   |none=>none
 | .extract x i=>match di T x with
   |some (.t ds)=>match ds[i]? with
    |some d=>some (.v (.v d))
    |none=>none
   |_=>none
 | .binOp op _ x y _=>match di T x,di T y with
   |some (.v (.c (.i k1 a))),some (.v (.c (.i k2 e)))=>match decEq k1 k2 with
    | .isTrue _=>match MP op a e with
      |some r=>some (.v (.v (.c (.b r))))
      |none=>none
    | .isFalse _=>none
   |_,_=>none
 | .pick c x y=>match di T c with
   |some (.v (.c (.b true)))=>match di T x with
    |some dv=>match iB dv with
     |none=>some (.v dv)
     |some _=>none
    |none=>none
   |some (.v (.c (.b false)))=>match di T y with
    |some dv=>match iB dv with
     |none=>some (.v dv)
     |some _=>none
    |none=>none
   |_=>none
 | .unOp .not _xt x=>match di T x with
   |some (.v (.c (.b r)))=>some (.v (.v (.c (.b (!r)))))
   |_=>none
 | .box U x=>match di T x with
   |some (.v (.a us))=>some (.bx U us)
   |some (.v (.c u))=>some (.bx U [u])
   |_=>none
 | .fieldAddr U x f=>match di T x,b.fd U f with
   |some (.p k off),some o'=>some (.v (.p k (off+o')))
   |_,_=>none
 | .load U x=>match di T x with
   |some (.p k off)=>match B k,b.ty U with
    |some (_,cs),some (true,n)=>bif Nat.beq off 0&&Nat.beq cs.length n then some (.v (.v (.a cs))) else none
    |some (_,cs),some (false,_)=>match cs[off]? with
     |some u=>some (.v (.v (.c u)))
     |none=>none
    |_,_=>none
   |_=>none
 | .store U ax x=>match di T ax,di T x,b.ty U with
   |some (.p k off),some (.v (.a us)),some (true,m)=>match B k with
    |some (W,cs)=>bif Nat.beq off 0&&Nat.beq us.length m&&Nat.beq cs.length m then some (.st k W us) else none
    |none=>none
   |_,_,_=>none
 | .call ⟨.builtin .len,⟨[x]⟩,⟨[U]⟩⟩=>match di T x,b.sl U with
   |some (.v (.c (.s n _))),some _=>some (.v (.v (.c (.i .i64 n))))
   |_,_=>none
 |_=>none
def yd (b:Tb) (ops:Array Oper) (T:TF) (B:BF) (o:Oper):Option SA:=
 match gd ops o T with
 |some true=>LT b T B o.op
 |some false=>some .sk
 |none=>none
section
variable {P:Program}{b:Tb}{ops:Array Oper}{T:TF}{B:BF}
theorem J6 (hb:TbOk P b) {op:Op}{s:SA}(hg:gd ops ⟨dst,op,ty,pos,af,g⟩ T=some true) (h:LT b T B op=some s)
 (hd: ∀k U cs,s=.st k U cs→dst=none):Sem P ops ⟨dst,op,ty,pos,af,g⟩ T B s.eff:=by
 unfold LT at h
 split at h
 ·split at h
  ·rename_i e;cases h;exact Ce e hg
  ·cases h
 ·split at h
  ·rename_i e;cases h;exact Dx e hg
  ·cases h
 ·split at h
  ·rename_i e
   split at h
   ·rename_i e2;cases h;exact CK e e2 hg
   ·cases h
  ·cases h
 ·split at h
  ·rename_i e1 e2
   split at h
   ·rename_i hk _
    subst hk
    split at h
    ·rename_i e3;cases h;exact FI e1 e2 e3 hg
    ·cases h
   ·cases h
  ·cases h
 ·split at h
  ·rename_i e
   split at h
   ·rename_i e2
    split at h
    ·rename_i e3;cases h;exact AI (b:=true) e e2 e3 hg
    ·cases h
   ·cases h
  ·rename_i e
   split at h
   ·rename_i e2
    split at h
    ·rename_i e3;cases h;exact AI (b:=false) e e2 e3 hg
    ·cases h
   ·cases h
  ·cases h
 ·split at h
  ·rename_i e;cases h;exact NT e hg
  ·cases h
 ·split at h
  ·rename_i e;cases h;exact G1 e hg
  ·rename_i e;cases h;exact GG e hg
  ·cases h
 ·split at h
  ·rename_i e1 e2;cases h;exact GQ (hb.fd _ _ _ e2) e1 hg
  ·cases h
 ·split at h
  ·rename_i e
   split at h
   ·rename_i e1 e2
    rw[Bool.cond_eq_ite] at h
    split at h
    ·rename_i hc
     cases h
     rw[Bool.and_eq_true] at hc
     have h0:=Nat.eq_of_beq_eq_true hc.1
     have hl:=Nat.eq_of_beq_eq_true hc.2
     subst h0
     exact aA (hb.ty _ _ e2) e e1 (by rw[List.drop_zero];exact List.take_of_length_le (Nat.le_of_eq hl)) hl hg
    ·cases h
   ·rename_i e1 e2
    split at h
    ·rename_i e3;cases h;exact bE (hb.ty _ _ e2) e e1 e3 hg
    ·cases h
   ·cases h
  ·cases h
 ·split at h
  ·rename_i e1 e2 e3
   split at h
   ·rename_i e4
    rw[Bool.cond_eq_ite] at h
    split at h
    ·rename_i hc
     cases h
     rw[Bool.and_eq_true,Bool.and_eq_true] at hc
     have h0:=Nat.eq_of_beq_eq_true hc.1.1
     subst h0
     have:=hd _ _ _ rfl
     subst this
     exact aZ (hb.ty _ _ e3) e1 e2 e4 (Nat.eq_of_beq_eq_true hc.1.2) (Nat.eq_of_beq_eq_true hc.2) hg
    ·cases h
   ·cases h
  ·cases h
 ·split at h
  ·rename_i e1 e2;cases h;exact Mk (hb.sl _ _ e2) e1 hg
  ·cases h
 ·cases h
theorem f9 (hb:TbOk P b) {op:Op}{s:SA}(h:yd b ops T B ⟨dst,op,ty,pos,af,g⟩=some s)
 (hd: ∀k U cs,s=.st k U cs→dst=none):Sem P ops ⟨dst,op,ty,pos,af,g⟩ T B s.eff:=by
 unfold yd at h
 split at h
 ·rename_i e;exact J6 hb e h hd
 ·rename_i e;cases h;exact LV e
 ·cases h
end
section
variable (P:Program) (b:Tb) (ops:Array Oper) (K:St→Prop) (n:Nat)
def QA:Nat→List Oper→List (Nat×DV)→List (Nat×TypeId×List CellD)→Prop
 |0,os,tm,bx=>dl P ops os ⟨n,tm,bx⟩ K
 |_+1,[],_,_=>False
 |k+1,o::os,tm,bx=>match o.dst,yd b ops (fun s=>aT s tm) (fun l=>aT l bx) o with
  |some t,some .sk=>QA k os ((t,.u)::tm) bx
  |some t,some (.v x)=>QA k os ((t,x)::tm) bx
  |some t,some (.bx U cs)=>match aT t bx with
   |none=>QA k os ((t,.p t 0)::tm) ((t,U,cs)::bx)
   |some _=>False
  |none,some (.st j U cs)=>QA k os tm ((j,U,cs)::bx)
  |_,_=>False
variable {P b ops K n}
theorem Ky (hb:TbOk P b): ∀ {k:Nat}{os:List Oper}{tm:List (Nat×DV)}{bx:List (Nat×TypeId×List CellD)},QA P b ops K n k os tm bx→dl P ops os ⟨n,tm,bx⟩ K
 |0,os,tm,bx,h=>h
 |k+1,[],tm,bx,h=>h.elim
 |k+1,⟨dst,op,ty,pos,af,g⟩::os,tm,bx,h=>by
  unfold QA at h
  split at h
  ·rename_i t e1 e2
   cases e1
   exact EC (f9 hb e2 (fun _ _ _ e=>by cases e)) (Ky hb h)
  ·rename_i t x e1 e2
   cases e1
   exact ah (f9 hb e2 (fun _ _ _ e=>by cases e)) (Ky hb h)
  ·rename_i t U cs e1 e2
   cases e1
   split at h
   ·rename_i e3;exact aC (f9 hb e2 (fun _ _ _ e=>by cases e)) e3 (Ky hb h)
   ·exact h.elim
  ·rename_i j U cs e1 e2
   cases e1
   exact bL (f9 hb e2 (fun _ _ _ _=>rfl)) (Ky hb h)
  ·exact h.elim
end
section
variable (P:Program) (b:Tb) (ops:Array Oper) (K:St→Prop) (n:Nat)
def Rs:List Oper→List (Nat×DV)→List (Nat×TypeId×List CellD)→Prop
 |[],tm,bx=>K ⟨n,tm,bx⟩
 |o::os,tm,bx=>match o.dst,yd b ops (fun s=>aT s tm) (fun l=>aT l bx) o with
  |some t,some .sk=>Rs os ((t,.u)::tm) bx
  |some t,some (.v x)=>Rs os ((t,x)::tm) bx
  |some t,some (.bx U cs)=>match aT t bx with
   |none=>Rs os ((t,.p t 0)::tm) ((t,U,cs)::bx)
   |some _=>False
  |none,some (.st j U cs)=>Rs os tm ((j,U,cs)::bx)
  |_,_=>False
variable {P b ops K n}
theorem AW (hb:TbOk P b): ∀ {os:List Oper}{tm:List (Nat×DV)}{bx:List (Nat×TypeId×List CellD)},Rs b ops K n os tm bx→dl P ops os ⟨n,tm,bx⟩ K
 |[],tm,bx,h=>h
 |⟨dst,op,ty,pos,af,g⟩::os,tm,bx,h=>by
  unfold Rs at h
  split at h
  ·rename_i t e1 e2
   cases e1
   exact EC (f9 hb e2 (fun _ _ _ e=>by cases e)) (AW hb h)
  ·rename_i t x e1 e2
   cases e1
   exact ah (f9 hb e2 (fun _ _ _ e=>by cases e)) (AW hb h)
  ·rename_i t U cs e1 e2
   cases e1
   split at h
   ·rename_i e3;exact aC (f9 hb e2 (fun _ _ _ e=>by cases e)) e3 (AW hb h)
   ·exact h.elim
  ·rename_i j U cs e1 e2
   cases e1
   exact bL (f9 hb e2 (fun _ _ _ _=>rfl)) (AW hb h)
  ·exact h.elim
end
section
variable (P:Program) (b:Tb) (ops:Array Oper) (hs:List Nat) (K:Sq→Prop) (n:Nat)
def R9:Nat→List Oper→List (Nat×DV)→List (Nat×TypeId×List CellD)→List (Nat×TypeId×List CellD)→List Nat→Prop
 |0,os,tm,bx,nb,sd=>dq P ops hs os ⟨⟨n,tm,bx⟩,nb,sd⟩ K
 |_+1,[],_,_,_,_=>False
 |k+1,o::os,tm,bx,nb,sd=>match o.dst,yd b ops (fun s=>aT s tm) (hid hs (fun l=>aT l bx)) o with
  |some t,some .sk=>R9 k os ((t,.u)::tm) bx nb sd
  |some t,some (.v x)=>R9 k os ((t,x)::tm) bx nb sd
  |some t,some (.bx U cs)=>match aT t (nb++bx) with
   |none=>R9 k os ((t,.p t 0)::tm) bx ((t,U,cs)::nb) sd
   |some _=>False
  |_,_=>False
variable {P b ops hs K n}
theorem Mj (hb:TbOk P b): ∀ {k:Nat}{os:List Oper}{tm:List (Nat×DV)}{bx nb:List (Nat×TypeId×List CellD)}{sd:List Nat},R9 P b ops hs K n k os tm bx nb sd→dq P ops hs os ⟨⟨n,tm,bx⟩,nb,sd⟩ K
 |0,os,tm,bx,nb,sd,h=>h
 |k+1,[],tm,bx,nb,sd,h=>h.elim
 |k+1,⟨dst,op,ty,pos,af,g⟩::os,tm,bx,nb,sd,h=>by
  unfold R9 at h
  split at h
  ·rename_i t e1 e2
   cases e1
   exact FX (f9 hb e2 (fun _ _ _ e=>by cases e)) (Mj hb h)
  ·rename_i t x e1 e2
   cases e1
   exact aj (f9 hb e2 (fun _ _ _ e=>by cases e)) (Mj hb h)
  ·rename_i t U cs e1 e2
   cases e1
   split at h
   ·rename_i e3;exact ba (f9 hb e2 (fun _ _ _ e=>by cases e)) e3 (Mj hb h)
   ·exact h.elim
  ·exact h.elim
end
section
variable (P:Program) (b:Tb) (ops:Array Oper) (hs:List Nat) (K:Sq→Prop) (n:Nat)
def Sa:List Oper→List (Nat×DV)→List (Nat×TypeId×List CellD)→List (Nat×TypeId×List CellD)→List Nat→Prop
 |[],tm,bx,nb,sd=>K ⟨⟨n,tm,bx⟩,nb,sd⟩
 |o::os,tm,bx,nb,sd=>match o.dst,yd b ops (fun s=>aT s tm) (hid hs (fun l=>aT l bx)) o with
  |some t,some .sk=>Sa os ((t,.u)::tm) bx nb sd
  |some t,some (.v x)=>Sa os ((t,x)::tm) bx nb sd
  |some t,some (.bx U cs)=>match aT t (nb++bx) with
   |none=>Sa os ((t,.p t 0)::tm) bx ((t,U,cs)::nb) sd
   |some _=>False
  |_,_=>False
variable {P b ops hs K n}
theorem Fl (hb:TbOk P b): ∀ {os:List Oper}{tm:List (Nat×DV)}{bx nb:List (Nat×TypeId×List CellD)}{sd:List Nat},Sa b ops hs K n os tm bx nb sd→dq P ops hs os ⟨⟨n,tm,bx⟩,nb,sd⟩ K
 |[],tm,bx,nb,sd,h=>h
 |⟨dst,op,ty,pos,af,g⟩::os,tm,bx,nb,sd,h=>by
  unfold Sa at h
  split at h
  ·rename_i t e1 e2
   cases e1
   exact FX (f9 hb e2 (fun _ _ _ e=>by cases e)) (Fl hb h)
  ·rename_i t x e1 e2
   cases e1
   exact aj (f9 hb e2 (fun _ _ _ e=>by cases e)) (Fl hb h)
  ·rename_i t U cs e1 e2
   cases e1
   split at h
   ·rename_i e3;exact ba (f9 hb e2 (fun _ _ _ e=>by cases e)) e3 (Fl hb h)
   ·exact h.elim
  ·exact h.elim
end
theorem zr {N:Nat}{f:Nat→Bool}(h:(List.range N).all f=true): ∀U,U<N→f U=true:=fun U hU=>List.all_eq_true.1 h U (List.mem_range.2 hU)
theorem TbOk.of {P:Program}{N:Nat}{t:Nat→Option (Bool×Nat)}{f:Nat→Nat→Option Nat}{s:Nat→Option Nat}
 (h1:((List.range N).all fun U=>match t U with|none=>true|some r=>decide (nv P U=some r))=true)
 (h2:((List.range N).all fun U=>(List.range 16).all fun i=>match f U i with|none=>true|some r=>decide (Mb P U i=some r))=true)
 (h3:((List.range N).all fun U=>match s U with|none=>true|some r=>decide (qP P U=some r))=true):
 TbOk P ⟨fun U=>bif Nat.blt U N then t U else none,fun U i=>bif Nat.blt U N&&Nat.blt i 16 then f U i else none,fun U=>bif Nat.blt U N then s U else none⟩:=by
 have hlt: ∀ {a c:Nat},Nat.blt a c=true→a<c:=fun h=>Nat.le_of_ble_eq_true h
 refine⟨fun U r h=>?_,fun U i r h=>?_,fun U r h=>?_⟩
 ·dsimp only at h
  rw[Bool.cond_eq_ite] at h
  split at h
  ·rename_i hc
   have:=zr h1 U (hlt hc)
   exact of_decide_eq_true (by rw[h] at this;exact this)
  ·cases h
 ·dsimp only at h
  rw[Bool.cond_eq_ite] at h
  split at h
  ·rename_i hc
   rw[Bool.and_eq_true] at hc
   have:=zr (zr h2 U (hlt hc.1)) i (hlt hc.2)
   exact of_decide_eq_true (by rw[h] at this;exact this)
  ·cases h
 ·dsimp only at h
  rw[Bool.cond_eq_ite] at h
  split at h
  ·rename_i hc
   have:=zr h3 U (hlt hc)
   exact of_decide_eq_true (by rw[h] at this;exact this)
  ·cases h
theorem aU:Tryz.prog.follows .mixedOrders=true:=by kernel_rfl
theorem fp:Tryz.prog.underlying 4=some .bool:=by kernel_rfl
theorem aR {σ:St}{Q:Exit→St→Prop}{id:Nat}{l pre tail:List Oper}(m:Nat) (hpre:l.take m=pre) (htail:l.drop m=tail)
 (h:dq Tryz.prog l.toArray [] pre ⟨σ,[],[]⟩ fun s=>dl Tryz.prog l.toArray tail s.merge (Q .normal)) (hc:Jj l.toArray m σ.n=true:=by kernel_rfl):Dw Tryz.prog (.region id l.toArray true) σ Q:=bZ m [] aU hc hpre htail h
theorem Pk:pc Tryz.prog 238=some (2,1,8,[.i .i64 0]):=by kernel_rfl
theorem qZ:pc Tryz.prog 31=some (192,1,4,[.i .u32 0]):=by kernel_rfl
theorem gA:pc Tryz.prog 39=some (48,66,1040,[.b false,.b false,.s 0 [],.b false,.s 0 [],.b false,.s 0 [],.b false,.s 0 [],.b false,.s 0 [],.b false,.s 0 [],.b false,.s 0 [],.b false,.s 0 [],.b false,.s 0 [],.b false,.s 0 [],.b false,.s 0 [],.b false,.s 0 [],.b false,.b false,.s 0 [],.b false,.s 0 [],.b false,.s 0 [],.b false,.s 0 [],.b false,.s 0 [],.b false,.s 0 [],.b false,.s 0 [],.b false,.s 0 [],.b false,.s 0 [],.b false,.s 0 [],.b false,.s 0 [],.b false,.s 0 [],.b false,.s 0 [],.b false,.s 0 [],.b false,.s 0 [],.b false,.s 0 [],.b false,.s 0 [],.b false,.s 0 [],.b false,.s 0 [],.b false,.s 0 []]):=by kernel_rfl
theorem ft:pc Tryz.prog 64=some (46,20,320,[.b false,.s 0 [],.b false,.s 0 [],.b false,.s 0 [],.b false,.s 0 [],.b false,.s 0 [],.b false,.s 0 [],.b false,.s 0 [],.b false,.s 0 [],.b false,.s 0 [],.b false,.s 0 []]):=by kernel_rfl
theorem LG:Mb Tryz.prog 48 3=some 25:=by kernel_rfl
theorem H3:Mb Tryz.prog 48 4=some 26:=by kernel_rfl
theorem Kl:Mb Tryz.prog 48 5=some 46:=by kernel_rfl
theorem Cs:Ep Tryz.prog 116=some [(0,1),(1,12)]:=by kernel_rfl
theorem AX:Ep Tryz.prog 119=some [(0,1),(1,12)]:=by kernel_rfl
theorem OJ:Ep Tryz.prog 153=some [(0,4),(4,4),(8,4),(12,4),(16,4),(20,4)]:=by kernel_rfl
theorem lk:Ep Tryz.prog 202=some [(0,1),(1,1)]:=by kernel_rfl
theorem Sy:Ep Tryz.prog 233=some [(0,1)]:=by kernel_rfl
theorem DR:Ep Tryz.prog 33=some [(0,1),(1,1)]:=by kernel_rfl
theorem qC:Ep Tryz.prog 35=some [(0,2),(2,2)]:=by kernel_rfl
theorem nr:Ep Tryz.prog 37=some [(0,4),(4,4)]:=by kernel_rfl
theorem Mx:Ep Tryz.prog 42=some [(0,4),(4,4),(8,4)]:=by kernel_rfl
theorem Qk:Ep Tryz.prog 44=some [(0,4),(4,4),(8,4)]:=by kernel_rfl
theorem zp:Ep Tryz.prog 46=some [(0,4),(4,4),(8,4),(12,4),(16,4)]:=by kernel_rfl
theorem Eo:Ep Tryz.prog 48=some [(0,1),(1,12),(13,12),(25,1),(26,20),(46,20)]:=by kernel_rfl
theorem lQ:Ep Tryz.prog 49=some [(0,4),(4,4),(8,4)]:=by kernel_rfl
theorem E0:qP Tryz.prog 238=some 1:=by kernel_rfl
theorem gX:qP Tryz.prog 31=some 1:=by kernel_rfl
theorem eu:qP Tryz.prog 39=some 66:=by kernel_rfl
theorem ek:qP Tryz.prog 64=some 20:=by kernel_rfl
theorem wd:nv Tryz.prog 116=some (true,13):=by kernel_rfl
theorem rD:nv Tryz.prog 119=some (true,13):=by kernel_rfl
theorem O8:nv Tryz.prog 153=some (true,24):=by kernel_rfl
theorem eQ:nv Tryz.prog 192=some (false,1):=by kernel_rfl
theorem Sc:nv Tryz.prog 2=some (false,1):=by kernel_rfl
theorem gi:nv Tryz.prog 202=some (true,2):=by kernel_rfl
theorem Nn:nv Tryz.prog 24=some (true,8):=by kernel_rfl
theorem n8:nv Tryz.prog 26=some (true,17):=by kernel_rfl
theorem qB:nv Tryz.prog 3=some (false,1):=by kernel_rfl
theorem bU:nv Tryz.prog 33=some (true,2):=by kernel_rfl
theorem aD:nv Tryz.prog 35=some (true,4):=by kernel_rfl
theorem MB:nv Tryz.prog 37=some (true,8):=by kernel_rfl
theorem xf:nv Tryz.prog 4=some (false,1):=by kernel_rfl
theorem sZ:nv Tryz.prog 42=some (true,12):=by kernel_rfl
theorem mJ:nv Tryz.prog 44=some (true,12):=by kernel_rfl
theorem bo:nv Tryz.prog 46=some (true,20):=by kernel_rfl
theorem bd:nv Tryz.prog 48=some (true,66):=by kernel_rfl
theorem dx:nv Tryz.prog 49=some (true,12):=by kernel_rfl
theorem fk:Tryz.prog.underlying 183=some (.int .u64):=by kernel_rfl
theorem iv:Tryz.prog.underlying 192=some (.int .u32):=by kernel_rfl
theorem kZ:Tryz.prog.underlying 2=some (.int .i64):=by kernel_rfl
theorem SL:Tryz.prog.underlying 22=some (.int .i8):=by kernel_rfl
theorem qK:Tryz.prog.underlying 27=some (.int .i16):=by kernel_rfl
theorem Vx:Tryz.prog.underlying 3=some (.int .i64):=by kernel_rfl
theorem Kg:Tryz.prog.underlying 5=some (.int .u8):=by kernel_rfl
theorem ru:zn Tryz.prog 116=some [.i .i64 0,.b false,.s 0 [],.b false,.s 0 [],.b false,.s 0 [],.b false,.s 0 [],.b false,.s 0 [],.b false,.s 0 []]:=by kernel_rfl
theorem nN:zn Tryz.prog 119=some [.i .i64 0,.b false,.s 0 [],.b false,.s 0 [],.b false,.s 0 [],.b false,.s 0 [],.b false,.s 0 [],.b false,.s 0 []]:=by kernel_rfl
theorem E4:zn Tryz.prog 153=some [.b false,.s 0 [],.b false,.s 0 [],.b false,.s 0 [],.b false,.s 0 [],.b false,.s 0 [],.b false,.s 0 [],.b false,.s 0 [],.b false,.s 0 [],.b false,.s 0 [],.b false,.s 0 [],.b false,.s 0 [],.b false,.s 0 []]:=by kernel_rfl
theorem dB:zn Tryz.prog 202=some [.i .i64 0,.i .i64 0]:=by kernel_rfl
theorem S3:zn Tryz.prog 233=some [.b false]:=by kernel_rfl
theorem dL:zn Tryz.prog 33=some [.b false,.s 0 []]:=by kernel_rfl
theorem bJ:zn Tryz.prog 35=some [.b false,.s 0 [],.b false,.s 0 []]:=by kernel_rfl
theorem il:zn Tryz.prog 37=some [.b false,.s 0 [],.b false,.s 0 [],.b false,.s 0 [],.b false,.s 0 []]:=by kernel_rfl
theorem tX:zn Tryz.prog 42=some [.b false,.s 0 [],.b false,.s 0 [],.b false,.s 0 [],.b false,.s 0 [],.b false,.s 0 [],.b false,.s 0 []]:=by kernel_rfl
theorem Eh:zn Tryz.prog 44=some [.b false,.s 0 [],.b false,.s 0 [],.b false,.s 0 [],.b false,.s 0 [],.b false,.s 0 [],.b false,.s 0 []]:=by kernel_rfl
theorem fO:zn Tryz.prog 46=some [.b false,.s 0 [],.b false,.s 0 [],.b false,.s 0 [],.b false,.s 0 [],.b false,.s 0 [],.b false,.s 0 [],.b false,.s 0 [],.b false,.s 0 [],.b false,.s 0 [],.b false,.s 0 []]:=by kernel_rfl
theorem eo:zn Tryz.prog 48=some [.b false,.b false,.s 0 [],.b false,.s 0 [],.b false,.s 0 [],.b false,.s 0 [],.b false,.s 0 [],.b false,.s 0 [],.b false,.s 0 [],.b false,.s 0 [],.b false,.s 0 [],.b false,.s 0 [],.b false,.s 0 [],.b false,.s 0 [],.b false,.b false,.s 0 [],.b false,.s 0 [],.b false,.s 0 [],.b false,.s 0 [],.b false,.s 0 [],.b false,.s 0 [],.b false,.s 0 [],.b false,.s 0 [],.b false,.s 0 [],.b false,.s 0 [],.b false,.s 0 [],.b false,.s 0 [],.b false,.s 0 [],.b false,.s 0 [],.b false,.s 0 [],.b false,.s 0 [],.b false,.s 0 [],.b false,.s 0 [],.b false,.s 0 [],.b false,.s 0 []]:=by kernel_rfl
theorem de:zn Tryz.prog 49=some [.b false,.s 0 [],.b false,.s 0 [],.b false,.s 0 [],.b false,.s 0 [],.b false,.s 0 [],.b false,.s 0 []]:=by kernel_rfl
def V9 (U:Nat):Option (Bool×Nat):=bif Nat.blt U 45 then(bif Nat.blt U 29 then(bif Nat.blt U 21 then(bif Nat.blt U 5 then(bif Nat.blt U 3 then(bif Nat.beq U 2 then some (false,1) else none) else(bif Nat.blt U 4 then(bif Nat.beq U 3 then some (false,1) else none) else(bif Nat.beq U 4 then some (false,1) else none))) else(bif Nat.blt U 6 then(bif Nat.beq U 5 then some (false,1) else none) else(bif Nat.blt U 12 then(bif Nat.beq U 6 then some (false,1) else none) else(bif Nat.beq U 12 then some (false,1) else none)))) else(bif Nat.blt U 25 then(bif Nat.blt U 22 then(bif Nat.beq U 21 then some (false,1) else none) else(bif Nat.blt U 24 then(bif Nat.beq U 22 then some (false,1) else none) else(bif Nat.beq U 24 then some (true,8) else none))) else(bif Nat.blt U 26 then(bif Nat.beq U 25 then some (true,17) else none) else(bif Nat.blt U 27 then(bif Nat.beq U 26 then some (true,17) else none) else(bif Nat.beq U 27 then some (false,1) else none))))) else(bif Nat.blt U 37 then(bif Nat.blt U 34 then(bif Nat.blt U 31 then(bif Nat.beq U 29 then some (true,3) else none) else(bif Nat.blt U 33 then(bif Nat.beq U 31 then some (false,1) else none) else(bif Nat.beq U 33 then some (true,2) else none))) else(bif Nat.blt U 35 then(bif Nat.beq U 34 then some (true,4) else none) else(bif Nat.blt U 36 then(bif Nat.beq U 35 then some (true,4) else none) else(bif Nat.beq U 36 then some (true,8) else none)))) else(bif Nat.blt U 42 then(bif Nat.blt U 39 then(bif Nat.beq U 37 then some (true,8) else none) else(bif Nat.blt U 41 then(bif Nat.beq U 39 then some (false,1) else none) else(bif Nat.beq U 41 then some (true,12) else none))) else(bif Nat.blt U 43 then(bif Nat.beq U 42 then some (true,12) else none) else(bif Nat.blt U 44 then(bif Nat.beq U 43 then some (true,12) else none) else(bif Nat.beq U 44 then some (true,12) else none)))))) else(bif Nat.blt U 119 then(bif Nat.blt U 60 then(bif Nat.blt U 48 then(bif Nat.blt U 46 then(bif Nat.beq U 45 then some (true,20) else none) else(bif Nat.blt U 47 then(bif Nat.beq U 46 then some (true,20) else none) else(bif Nat.beq U 47 then some (true,66) else none))) else(bif Nat.blt U 49 then(bif Nat.beq U 48 then some (true,66) else none) else(bif Nat.blt U 50 then(bif Nat.beq U 49 then some (true,12) else none) else(bif Nat.beq U 50 then some (false,1) else none)))) else(bif Nat.blt U 115 then(bif Nat.blt U 62 then(bif Nat.beq U 60 then some (false,1) else none) else(bif Nat.blt U 64 then(bif Nat.beq U 62 then some (true,6) else none) else(bif Nat.beq U 64 then some (false,1) else none))) else(bif Nat.blt U 116 then(bif Nat.beq U 115 then some (true,13) else none) else(bif Nat.blt U 118 then(bif Nat.beq U 116 then some (true,13) else none) else(bif Nat.beq U 118 then some (true,13) else none))))) else(bif Nat.blt U 233 then(bif Nat.blt U 183 then(bif Nat.blt U 152 then(bif Nat.beq U 119 then some (true,13) else none) else(bif Nat.blt U 153 then(bif Nat.beq U 152 then some (true,24) else none) else(bif Nat.beq U 153 then some (true,24) else none))) else(bif Nat.blt U 192 then(bif Nat.beq U 183 then some (false,1) else none) else(bif Nat.blt U 202 then(bif Nat.beq U 192 then some (false,1) else none) else(bif Nat.beq U 202 then some (true,2) else none)))) else(bif Nat.blt U 262 then(bif Nat.blt U 238 then(bif Nat.beq U 233 then some (true,1) else none) else(bif Nat.blt U 244 then(bif Nat.beq U 238 then some (false,1) else none) else(bif Nat.beq U 244 then some (false,1) else none))) else(bif Nat.blt U 266 then(bif Nat.blt U 263 then(bif Nat.beq U 262 then some (false,1) else none) else(bif Nat.beq U 263 then some (false,1) else none)) else(bif Nat.blt U 267 then(bif Nat.beq U 266 then some (false,1) else none) else(bif Nat.beq U 267 then some (false,1) else none))))))
def Wa (U:Nat):Option Nat:=bif Nat.blt U 64 then(bif Nat.blt U 39 then(bif Nat.beq U 31 then some 1 else none) else(bif Nat.beq U 39 then some 66 else none)) else(bif Nat.blt U 238 then(bif Nat.beq U 64 then some 20 else none) else(bif Nat.beq U 238 then some 1 else none))
def V2 (U i:Nat):Option Nat:=bif Nat.blt U 45 then(bif Nat.blt U 35 then(bif Nat.blt U 29 then(bif Nat.blt U 25 then(bif Nat.beq U 24 then(bif Nat.blt i 4 then(bif Nat.blt i 2 then(bif Nat.blt i 1 then(bif Nat.beq i 0 then some 0 else none) else(bif Nat.beq i 1 then some 1 else none)) else(bif Nat.blt i 3 then(bif Nat.beq i 2 then some 2 else none) else(bif Nat.beq i 3 then some 3 else none))) else(bif Nat.blt i 6 then(bif Nat.blt i 5 then(bif Nat.beq i 4 then some 4 else none) else(bif Nat.beq i 5 then some 5 else none)) else(bif Nat.blt i 7 then(bif Nat.beq i 6 then some 6 else none) else(bif Nat.beq i 7 then some 7 else none)))) else none) else(bif Nat.blt U 26 then(bif Nat.beq U 25 then(bif Nat.blt i 1 then(bif Nat.beq i 0 then some 0 else none) else(bif Nat.blt i 2 then(bif Nat.beq i 1 then some 8 else none) else(bif Nat.beq i 2 then some 16 else none))) else none) else(bif Nat.beq U 26 then(bif Nat.blt i 1 then(bif Nat.beq i 0 then some 0 else none) else(bif Nat.blt i 2 then(bif Nat.beq i 1 then some 8 else none) else(bif Nat.beq i 2 then some 16 else none))) else none))) else(bif Nat.blt U 33 then(bif Nat.beq U 29 then(bif Nat.blt i 1 then(bif Nat.beq i 0 then some 0 else none) else(bif Nat.blt i 2 then(bif Nat.beq i 1 then some 1 else none) else(bif Nat.beq i 2 then some 2 else none))) else none) else(bif Nat.blt U 34 then(bif Nat.beq U 33 then(bif Nat.blt i 1 then(bif Nat.beq i 0 then some 0 else none) else(bif Nat.beq i 1 then some 1 else none)) else none) else(bif Nat.beq U 34 then(bif Nat.blt i 1 then(bif Nat.beq i 0 then some 0 else none) else(bif Nat.beq i 1 then some 2 else none)) else none)))) else(bif Nat.blt U 41 then(bif Nat.blt U 36 then(bif Nat.beq U 35 then(bif Nat.blt i 1 then(bif Nat.beq i 0 then some 0 else none) else(bif Nat.beq i 1 then some 2 else none)) else none) else(bif Nat.blt U 37 then(bif Nat.beq U 36 then(bif Nat.blt i 1 then(bif Nat.beq i 0 then some 0 else none) else(bif Nat.beq i 1 then some 4 else none)) else none) else(bif Nat.beq U 37 then(bif Nat.blt i 1 then(bif Nat.beq i 0 then some 0 else none) else(bif Nat.beq i 1 then some 4 else none)) else none))) else(bif Nat.blt U 43 then(bif Nat.blt U 42 then(bif Nat.beq U 41 then(bif Nat.blt i 1 then(bif Nat.beq i 0 then some 0 else none) else(bif Nat.blt i 2 then(bif Nat.beq i 1 then some 4 else none) else(bif Nat.beq i 2 then some 8 else none))) else none) else(bif Nat.beq U 42 then(bif Nat.blt i 1 then(bif Nat.beq i 0 then some 0 else none) else(bif Nat.blt i 2 then(bif Nat.beq i 1 then some 4 else none) else(bif Nat.beq i 2 then some 8 else none))) else none)) else(bif Nat.blt U 44 then(bif Nat.beq U 43 then(bif Nat.blt i 1 then(bif Nat.beq i 0 then some 0 else none) else(bif Nat.blt i 2 then(bif Nat.beq i 1 then some 4 else none) else(bif Nat.beq i 2 then some 8 else none))) else none) else(bif Nat.beq U 44 then(bif Nat.blt i 1 then(bif Nat.beq i 0 then some 0 else none) else(bif Nat.blt i 2 then(bif Nat.beq i 1 then some 4 else none) else(bif Nat.beq i 2 then some 8 else none))) else none))))) else(bif Nat.blt U 116 then(bif Nat.blt U 48 then(bif Nat.blt U 46 then(bif Nat.beq U 45 then(bif Nat.blt i 2 then(bif Nat.blt i 1 then(bif Nat.beq i 0 then some 0 else none) else(bif Nat.beq i 1 then some 4 else none)) else(bif Nat.blt i 3 then(bif Nat.beq i 2 then some 8 else none) else(bif Nat.blt i 4 then(bif Nat.beq i 3 then some 12 else none) else(bif Nat.beq i 4 then some 16 else none)))) else none) else(bif Nat.blt U 47 then(bif Nat.beq U 46 then(bif Nat.blt i 2 then(bif Nat.blt i 1 then(bif Nat.beq i 0 then some 0 else none) else(bif Nat.beq i 1 then some 4 else none)) else(bif Nat.blt i 3 then(bif Nat.beq i 2 then some 8 else none) else(bif Nat.blt i 4 then(bif Nat.beq i 3 then some 12 else none) else(bif Nat.beq i 4 then some 16 else none)))) else none) else(bif Nat.beq U 47 then(bif Nat.blt i 3 then(bif Nat.blt i 1 then(bif Nat.beq i 0 then some 0 else none) else(bif Nat.blt i 2 then(bif Nat.beq i 1 then some 1 else none) else(bif Nat.beq i 2 then some 13 else none))) else(bif Nat.blt i 4 then(bif Nat.beq i 3 then some 25 else none) else(bif Nat.blt i 5 then(bif Nat.beq i 4 then some 26 else none) else(bif Nat.beq i 5 then some 46 else none)))) else none))) else(bif Nat.blt U 62 then(bif Nat.blt U 49 then(bif Nat.beq U 48 then(bif Nat.blt i 3 then(bif Nat.blt i 1 then(bif Nat.beq i 0 then some 0 else none) else(bif Nat.blt i 2 then(bif Nat.beq i 1 then some 1 else none) else(bif Nat.beq i 2 then some 13 else none))) else(bif Nat.blt i 4 then(bif Nat.beq i 3 then some 25 else none) else(bif Nat.blt i 5 then(bif Nat.beq i 4 then some 26 else none) else(bif Nat.beq i 5 then some 46 else none)))) else none) else(bif Nat.beq U 49 then(bif Nat.blt i 1 then(bif Nat.beq i 0 then some 0 else none) else(bif Nat.blt i 2 then(bif Nat.beq i 1 then some 4 else none) else(bif Nat.beq i 2 then some 8 else none))) else none)) else(bif Nat.blt U 115 then(bif Nat.beq U 62 then(bif Nat.blt i 3 then(bif Nat.blt i 1 then(bif Nat.beq i 0 then some 0 else none) else(bif Nat.blt i 2 then(bif Nat.beq i 1 then some 1 else none) else(bif Nat.beq i 2 then some 2 else none))) else(bif Nat.blt i 4 then(bif Nat.beq i 3 then some 3 else none) else(bif Nat.blt i 5 then(bif Nat.beq i 4 then some 4 else none) else(bif Nat.beq i 5 then some 5 else none)))) else none) else(bif Nat.beq U 115 then(bif Nat.blt i 1 then(bif Nat.beq i 0 then some 0 else none) else(bif Nat.beq i 1 then some 1 else none)) else none)))) else(bif Nat.blt U 152 then(bif Nat.blt U 118 then(bif Nat.beq U 116 then(bif Nat.blt i 1 then(bif Nat.beq i 0 then some 0 else none) else(bif Nat.beq i 1 then some 1 else none)) else none) else(bif Nat.blt U 119 then(bif Nat.beq U 118 then(bif Nat.blt i 1 then(bif Nat.beq i 0 then some 0 else none) else(bif Nat.beq i 1 then some 1 else none)) else none) else(bif Nat.beq U 119 then(bif Nat.blt i 1 then(bif Nat.beq i 0 then some 0 else none) else(bif Nat.beq i 1 then some 1 else none)) else none))) else(bif Nat.blt U 202 then(bif Nat.blt U 153 then(bif Nat.beq U 152 then(bif Nat.blt i 3 then(bif Nat.blt i 1 then(bif Nat.beq i 0 then some 0 else none) else(bif Nat.blt i 2 then(bif Nat.beq i 1 then some 4 else none) else(bif Nat.beq i 2 then some 8 else none))) else(bif Nat.blt i 4 then(bif Nat.beq i 3 then some 12 else none) else(bif Nat.blt i 5 then(bif Nat.beq i 4 then some 16 else none) else(bif Nat.beq i 5 then some 20 else none)))) else none) else(bif Nat.beq U 153 then(bif Nat.blt i 3 then(bif Nat.blt i 1 then(bif Nat.beq i 0 then some 0 else none) else(bif Nat.blt i 2 then(bif Nat.beq i 1 then some 4 else none) else(bif Nat.beq i 2 then some 8 else none))) else(bif Nat.blt i 4 then(bif Nat.beq i 3 then some 12 else none) else(bif Nat.blt i 5 then(bif Nat.beq i 4 then some 16 else none) else(bif Nat.beq i 5 then some 20 else none)))) else none)) else(bif Nat.blt U 233 then(bif Nat.beq U 202 then(bif Nat.blt i 1 then(bif Nat.beq i 0 then some 0 else none) else(bif Nat.beq i 1 then some 1 else none)) else none) else(bif Nat.beq U 233 then(bif Nat.beq i 0 then some 0 else none) else none)))))
def tb:Tb:=⟨fun U=>bif Nat.blt U 268 then V9 U else none,fun U i=>bif Nat.blt U 268&&Nat.blt i 16 then V2 U i else none,fun U=>bif Nat.blt U 268 then Wa U else none⟩
theorem Mg:TbOk Tryz.prog tb:=TbOk.of (by kernel_rfl) (by kernel_rfl) (by kernel_rfl)
theorem al {ops:Array Oper}{K:St→Prop}{n:Nat}{os:List Oper}{tm:List (Nat×DV)}{bx:List (Nat×TypeId×List CellD)}(k:Nat) (h:QA Tryz.prog tb ops K n k os tm bx):dl Tryz.prog ops os ⟨n,tm,bx⟩ K:=Ky Mg h
theorem ap {ops:Array Oper}{hs:List Nat}{K:Sq→Prop}{n:Nat}{os:List Oper}{tm:List (Nat×DV)}{bx nb:List (Nat×TypeId×List CellD)}{sd:List Nat}(k:Nat) (h:R9 Tryz.prog tb ops hs K n k os tm bx nb sd):dq Tryz.prog ops hs os ⟨⟨n,tm,bx⟩,nb,sd⟩ K:=Mj Mg h
theorem ag {ops:Array Oper}{K:St→Prop}{n:Nat}{os:List Oper}{tm:List (Nat×DV)}{bx:List (Nat×TypeId×List CellD)}(h:Rs tb ops K n os tm bx):dl Tryz.prog ops os ⟨n,tm,bx⟩ K:=AW Mg h
theorem bk {ops:Array Oper}{hs:List Nat}{K:Sq→Prop}{n:Nat}{os:List Oper}{tm:List (Nat×DV)}{bx nb:List (Nat×TypeId×List CellD)}{sd:List Nat}(h:Sa tb ops hs K n os tm bx nb sd):dq Tryz.prog ops hs os ⟨⟨n,tm,bx⟩,nb,sd⟩ K:=Fl Mg h
def cQ (n d:Int):List CellD:=cI n++cI d
def dQ (n d:Int):D0:=.a (cQ n d)
def cR (x:Rat):List CellD:=cQ x.num (x.den:Int)
def dR (x:Rat):D0:=.a (cR x)
theorem tQ {x y q r:Int}(hy:y≠0) (h:x=y*q+r) (hp:0<y→0≤r∧r<y) (hn:y<0→y<r∧r≤0):x.fdiv y=q∧x.fmod y=r:=by
 have hfd:x.fdiv y=q:=by
  rcases Int.lt_or_gt_of_ne hy with h0|h0
  ·obtain⟨h1,h2⟩:=hn h0
   rw[←Int.neg_fdiv_neg,Int.fdiv_eq_ediv_of_nonneg _ (by omega)]
   have:=(Int.ediv_emod_unique (a:= -x) (b:= -y) (r:= -r) (q:=q) (by omega)).2 ⟨by rw[h];simp only[Int.neg_mul];omega,by omega,by omega⟩
   exact this.1
  ·obtain⟨h1,h2⟩:=hp h0
   rw[Int.fdiv_eq_ediv_of_nonneg _ (by omega)]
   exact((Int.ediv_emod_unique (a:=x) (b:=y) (r:=r) (q:=q) h0).2 ⟨by rw[h];omega,h1,h2⟩).1
 refine⟨hfd,?_⟩
 have:=Int.mul_fdiv_add_fmod x y
 rw[hfd] at this
 omega
def q0 (x y:Int):Int:=sg (!(decide (x<0)==decide (y<0))) ((x.natAbs:Int)/y.natAbs)
def r0 (x y:Int):Int:=sg (decide (x<0)) ((x.natAbs:Int)%y.natAbs)
theorem Pb {x y:Int}:x=y*q0 x y+r0 x y:=by
 have h:=Int.mul_ediv_add_emod (x.natAbs:Int) y.natAbs
 unfold q0 r0
 obtain⟨q,hq⟩: ∃q,(x.natAbs:Int)/y.natAbs=q:=⟨_,rfl⟩
 obtain⟨r,hr⟩: ∃r,(x.natAbs:Int)%y.natAbs=r:=⟨_,rfl⟩
 rw[hq,hr]
 rw[hq,hr] at h
 clear hq hr
 by_cases hx:x<0<;>by_cases hy:y<0
 ·rw[show(x.natAbs:Int)= -x from by omega,show(y.natAbs:Int)= -y from by omega,Int.neg_mul] at h
  rw[show(!(decide (x<0)==decide (y<0)))=false from by simp[hx,hy],show decide (x<0)=true from by simp[hx],fH,dj]
  omega
 ·rw[show(x.natAbs:Int)= -x from by omega,show(y.natAbs:Int)=y from by omega] at h
  rw[show(!(decide (x<0)==decide (y<0)))=true from by simp[hx,hy],show decide (x<0)=true from by simp[hx],fH,fH,Int.mul_neg]
  omega
 ·rw[show(x.natAbs:Int)=x from by omega,show(y.natAbs:Int)= -y from by omega,Int.neg_mul] at h
  rw[show(!(decide (x<0)==decide (y<0)))=true from by simp[hx,hy],show decide (x<0)=false from by simp[hx],fH,dj,Int.mul_neg]
  omega
 ·rw[show(x.natAbs:Int)=x from by omega,show(y.natAbs:Int)=y from by omega] at h
  rw[show(!(decide (x<0)==decide (y<0)))=false from by simp[hx,hy],show decide (x<0)=false from by simp[hx],dj,dj]
  omega
theorem B7 {x y:Int}(hy:y≠0):0≤(x.natAbs:Int)%y.natAbs∧(x.natAbs:Int)%y.natAbs<y.natAbs:=⟨Int.emod_nonneg _ (by omega),Int.emod_lt_of_pos _ (by omega)⟩
theorem rL {x y:Int}(hy:y≠0) (h:r0 x y=0∨(r0 x y<0↔y<0)):x.fdiv y=q0 x y∧x.fmod y=r0 x y:=by
 refine tQ hy Pb ?_ ?_
 all_goals
  intro h0
  have:=B7 (x:=x) hy
  unfold r0 at*
  by_cases hx:x<0
  ·simp only[hx,decide_true,fH] at*;omega
  ·simp only[hx,decide_false,dj] at*;omega
theorem Ck {x y:Int}(hy:y≠0) (h0:r0 x y≠0) (h: ¬(r0 x y<0↔y<0)):x.fdiv y=q0 x y-1∧x.fmod y=r0 x y+y:=by
 refine tQ hy ?_ ?_ ?_
 ·have:=Pb (x:=x) (y:=y)
  rw[Int.mul_sub];omega
 all_goals
  intro hy0
  have:=B7 (x:=x) hy
  unfold r0 at*
  by_cases hx:x<0
  ·simp only[hx,decide_true,fH] at*;omega
  ·simp only[hx,decide_false,dj] at*;omega
theorem An {y:Int}:(du y.natAbs).length=0↔y=0:=by
 rw[List.length_eq_zero_iff,dZ];omega
theorem nT {r:Int}(h:decide (((du r.natAbs).length:Int)>0)=true):r≠0:=by
 intro e
 have:=An.2 e
 simp only[decide_eq_true_eq] at h
 omega
theorem nW {r:Int}(h:decide (((du r.natAbs).length:Int)>0)=false):r=0:=by
 simp only[decide_eq_false_iff_not] at h
 exact An.1 (by omega)
theorem Ag {a b:Int}(h:(!(decide (a<0)==decide (b<0)))=true): ¬(a<0↔b<0):=by simpa using h
theorem Ai {a b:Int}(h:(!(decide (a<0)==decide (b<0)))=false):(a<0↔b<0):=by simpa using h
theorem Sz.q0 {k:Nat}{x y:Int}(hx:Sz k x):Sz k (q0 x y):=by
 refine hx.of_le ?_
 have h1:(x.natAbs:Int)/(y.natAbs:Int)≤x.natAbs:=Int.ediv_le_self _ (by omega)
 have h2:0≤(x.natAbs:Int)/(y.natAbs:Int):=Int.ediv_nonneg (by omega) (by omega)
 unfold Go.Proofs.YtkmdgigkbhmilaaGreat.q0
 generalize (!(decide (x<0)==decide (y<0)))=s
 cases s
 ·rw[dj];omega
 ·rw[fH];omega
theorem Sz.r0 {k:Nat}{x y:Int}(hy:y≠0) (h:Sz k y):Sz k (r0 x y):=by
 refine h.of_le ?_
 have:=B7 (x:=x) hy
 unfold Go.Proofs.YtkmdgigkbhmilaaGreat.r0
 generalize decide (x<0)=s
 cases s
 ·rw[dj];omega
 ·rw[fH];omega
theorem AH {a c:Int}(h1:0≤a) (h2:0≤c):Int.gcd c (a%c)=Int.gcd a c:=by
 obtain⟨m,rfl⟩:=Int.eq_ofNat_of_zero_le h1
 obtain⟨n,rfl⟩:=Int.eq_ofNat_of_zero_le h2
 rw[←Int.natCast_emod]
 show Nat.gcd n (m%n)=Nat.gcd m n
 rw[Nat.gcd_comm m n,Nat.gcd_rec n m,Nat.gcd_comm]
structure GInv (x y a c:Int):Prop where
 sa:Sz 1000000 a
 sc:Sz 1000000 c
 a0:0≤a
 c0:0≤c
 g:Int.gcd a c=Int.gcd x y
theorem GInv.start {x y:Int}(hx:Sz 1000000 x) (hy:Sz 1000000 y):GInv x y (sg false (x.natAbs:Int)) (sg false (y.natAbs:Int)):=by
 rw[dj,dj]
 exact⟨hx.of_le (by omega),hy.of_le (by omega),by omega,by omega,rfl⟩
theorem GInv.step {x y a c:Int}(h:GInv x y a c) (hc:c≠0):GInv x y c (sg false ((a.natAbs:Int)%c.natAbs)):=by
 rw[dj]
 have h1:=h.a0
 have h2:=h.c0
 have e1:(a.natAbs:Int)=a:=by omega
 have e2:(c.natAbs:Int)=c:=by omega
 rw[e1,e2]
 have h3:=Int.emod_nonneg a hc
 have h4:=Int.emod_lt_of_pos a (show 0<c by omega)
 exact⟨h.sc,h.sc.of_le (by omega),h2,h3,by rw[←h.g,AH h1 h2]⟩
theorem GInv.less {x y a c:Int}(h:GInv x y a c) (hc:c≠0):(sg false ((a.natAbs:Int)%c.natAbs)).toNat<c.toNat:=by
 rw[dj]
 have:=h.c0
 have:=B7 (x:=a) hc
 omega
theorem GInv.done {x y a c:Int}(h:GInv x y a c) (hc:c=0):(Int.gcd x y:Int)=sg false (a.natAbs:Int):=by
 rw[←h.g,hc,dj];simp
structure GInv2 (x y u v:Int):Prop where
 u0:0≤u
 u1:u≤18446744073709551615
 v0:0≤v
 v1:v≤18446744073709551615
 g:Int.gcd u v=Int.gcd x y
theorem GInv.word {x y a c:Int}(h:GInv x y a c) (ha:decide (a.natAbs<1000000000000000000)=true) (hc:decide (c.natAbs<1000000000000000000)=true):
 GInv2 x y (if a.natAbs<1000000000000000000 then(a.natAbs:Int) else 0) (if c.natAbs<1000000000000000000 then(c.natAbs:Int) else 0):=by
 rw[decide_eq_true_eq] at ha hc
 rw[if_pos ha,if_pos hc]
 exact⟨by omega,by omega,by omega,by omega,by rw[←h.g];rfl⟩
theorem GInv2.step {x y u v:Int}(h:GInv2 x y u v) (hv:v>0):GInv2 x y v (u.tmod v):=by
 have h1:=h.u0
 rw[Int.tmod_eq_emod_of_nonneg h1]
 have h3:=Int.emod_nonneg u (show v≠0 by omega)
 have h4:=Int.emod_lt_of_pos u hv
 exact⟨h.v0,h.v1,h3,by have:=h.v1;omega,by rw[←h.g,AH h1 h.v0]⟩
theorem GInv2.less {x y u v:Int}(h:GInv2 x y u v) (hv:v>0):(u.tmod v).toNat<v.toNat:=by
 rw[Int.tmod_eq_emod_of_nonneg h.u0]
 have h3:=Int.emod_nonneg u (show v≠0 by omega)
 have h4:=Int.emod_lt_of_pos u hv
 omega
theorem GInv2.done {x y u v:Int}(h:GInv2 x y u v) (hv:v≤0):(Int.gcd x y:Int)=sg false u:=by
 have h0:=h.v0
 have h1:=h.u0
 rw[←h.g,show v=0 from by omega,dj];simp;omega
theorem E1 {xs:List Int}(h:Lim xs):trm xs=du (val xs).natAbs:=by
 have h0:=cK h
 rw[Db (oM xs) h.trm,gD]
 congr 1;omega
def cM (xs:List Int):CellD:=.s xs.length (xs.map (CellD.i .u32))
theorem Pr (e:Int):cL e=cM (du e.natAbs):=rfl
theorem Kb {xs:List Int}(h:Lim xs):cL (val xs)=cM (trm xs):=by rw[Pr,E1 h]
theorem ig (xs:List Int):(xs.map (CellD.i .u32)).length=xs.length*1:=by simp
theorem iW {xs:List Int}{i:Nat}(h:i<xs.length):((xs.map (CellD.i .u32)).drop (i*1))[0]? =some (.i .u32 (xs.getD i 0)):=by
 rw[Nat.mul_one,List.getElem?_drop,Nat.add_zero,List.getElem?_map,List.getElem?_eq_getElem h]
 simp[List.getD,h]
theorem SQ {xs:List Int}{i:Nat}(h:i<xs.length):(xs.map (CellD.i .u32))[i*1]? =some (.i .u32 (xs.getD i 0)):=by
 rw[Nat.mul_one,List.getElem?_map,List.getElem?_eq_getElem h]
 simp[List.getD,h]
theorem mW {xs:List Int}{i:Nat}{x:Int}(h:i<xs.length):(xs.map (CellD.i .u32)).take (i*1)++[CellD.i .u32 x]++(xs.map (CellD.i .u32)).drop (i*1+1)=(xs.set i x).map (CellD.i .u32):=by
 rw[Nat.mul_one,←List.map_take,←List.map_drop,←List.map_singleton,←List.map_append,←List.map_append]
 congr 1
 rw[List.set_eq_take_append_cons_drop,if_pos h]
 simp
theorem dw {xs:List Int}(h:Lim xs) (i:Nat):0≤xs.getD i 0∧xs.getD i 0<1000000000:=by
 rw[List.getD]
 cases hx:xs[i]? with
 |none=>simp
 |some x=>exact h.at_ hx
theorem getD_some {xs:List Int}{i:Nat}(h:i<xs.length):xs[i]? =some (xs.getD i 0):=by
 rw[List.getElem?_eq_getElem h];simp[List.getD,h]
theorem iU {x:Int}(h0: -9223372036854775808≤x) (h1:x≤9223372036854775807):IntKind.i64.wrap x=x:=by unfold IntKind.wrap;simp[IntKind.bits,IntKind.signed];omega
theorem gG {x:Int}(h0:0≤x) (h1:x≤18446744073709551615):IntKind.u64.wrap x=x:=by unfold IntKind.wrap;simp[IntKind.bits,IntKind.signed];omega
theorem nP {x:Int}(h0:0≤x) (h1:x≤4294967295):IntKind.u32.wrap x=x:=by unfold IntKind.wrap;simp[IntKind.bits,IntKind.signed];omega
theorem aQ {a b:Int}(h0: -9223372036854775808≤a+b) (h1:a+b≤9223372036854775807):xu .add .i64 a b=some (a+b):=congrArg some (iU h0 h1)
theorem bV {a b:Int}(h0: -9223372036854775808≤a-b) (h1:a-b≤9223372036854775807):xu .sub .i64 a b=some (a-b):=congrArg some (iU h0 h1)
theorem fh {a b:Int}(h0:0≤a+b) (h1:a+b≤18446744073709551615):xu .add .u64 a b=some (a+b):=congrArg some (gG h0 h1)
theorem Bt {a b:Int}(h0:0≤a-b) (h1:a-b≤18446744073709551615):xu .sub .u64 a b=some (a-b):=congrArg some (gG h0 h1)
theorem gn {a b:Int}(h0:0≤a*b) (h1:a*b≤18446744073709551615):xu .mul .u64 a b=some (a*b):=congrArg some (gG h0 h1)
theorem kT {a b:Int}(h0:0≤a+b) (h1:a+b≤4294967295):xu .add .u32 a b=some (a+b):=congrArg some (nP h0 h1)
theorem nj {a b:Int}(h0:0≤a-b) (h1:a-b≤4294967295):xu .sub .u32 a b=some (a-b):=congrArg some (nP h0 h1)
theorem Gr {xs:List Int}{k:Nat}(h1:0<k) (hk:k≤xs.length) (hT:trm (xs.take k)=trm xs) (h:((xs.take k).getD (k-1) 0==0)=true):trm (xs.take (k-1))=trm xs:=by
 obtain⟨j,rfl⟩: ∃j,k=j+1:=⟨k-1,by omega⟩
 rw[Nat.add_sub_cancel] at*
 have hx:=getD_some (xs:=xs) (i:=j) (by omega)
 have e:(xs.take (j+1)).getD j 0=xs.getD j 0:=by simp[List.getD]
 rw[e] at h
 rw[←hT,nu hx (by simpa using h)]
theorem Hp {xs:List Int}{k:Nat}(h1:0<k) (hk:k≤xs.length) (hT:trm (xs.take k)=trm xs) (h:((xs.take k).getD (k-1) 0==0)=false):trm xs=xs.take k:=by
 obtain⟨j,rfl⟩: ∃j,k=j+1:=⟨k-1,by omega⟩
 rw[Nat.add_sub_cancel] at*
 have hx:=getD_some (xs:=xs) (i:=j) (by omega)
 have e:(xs.take (j+1)).getD j 0=xs.getD j 0:=by simp[List.getD]
 rw[e] at h
 rw[←hT,ns hx (by simpa using h)]
section
variable {P:Program}{ops:Array Oper}{T:TF}{B:BF}
theorem iD {xt yt:TypeId}{x y:Operand}{k:IntKind}{m n r:Int}
 (hx:di T x=some (.v (.c (.i k m)))) (hy:di T y=some (.v (.c (.i k n)))) (h0:n≠0) (hr:k.wrap (m.tdiv n)=r) (hg:gd ops ⟨dst,.binOp .quo xt x y yt,ty,pos,af,g⟩ T=some true):
 Sem P ops ⟨dst,.binOp .quo xt x y yt,ty,pos,af,g⟩ T B (.r (.v (.c (.i k r)))):=by subst hr;exact Oa hx hy h0 hg
theorem eF {xt yt:TypeId}{x y:Operand}{k:IntKind}{m n r:Int}
 (hx:di T x=some (.v (.c (.i k m)))) (hy:di T y=some (.v (.c (.i k n)))) (h0:n≠0) (hr:m.tmod n=r) (hg:gd ops ⟨dst,.binOp .rem xt x y yt,ty,pos,af,g⟩ T=some true):
 Sem P ops ⟨dst,.binOp .rem xt x y yt,ty,pos,af,g⟩ T B (.r (.v (.c (.i k r)))):=by subst hr;exact yM hx hy h0 hg
theorem bF {t1 t2:TypeId}{x:Operand}{k1 k2 k:IntKind}{m r:Int}
 (h1:P.underlying t1=some (.int k1)) (h2:P.underlying t2=some (.int k2)) (hx:di T x=some (.v (.c (.i k m)))) (hr:k2.wrap m=r) (hg:gd ops ⟨dst,.convert t1 t2 x,ty,pos,af,g⟩ T=some true):
 Sem P ops ⟨dst,.convert t1 t2 x,ty,pos,af,g⟩ T B (.r (.v (.c (.i k2 r)))):=by subst hr;exact HT h1 h2 hx hg
theorem q8 {U e:TypeId}{x:Operand}{by_:Nat}{z:CellD}{m:Int}
 (hU:pc P U=some (e,1,by_,[z])) (hx:di T x=some (.v (.c (.i .u32 m)))) (hg:gd ops ⟨dst,.buildSlice U 1 #[(0,x)],ty,pos,af,g⟩ T=some true):
 Sem P ops ⟨dst,.buildSlice U 1 #[(0,x)],ty,pos,af,g⟩ T B (.r (.v (.c (cM [m])))):=by
 have h:=gg (B:=B) (n:=1) (us:=[.i .u32 m]) (dps:=[(0,.c (.i .u32 m))]) hU (by unfold pT;rw[hx];rfl) rfl (by omega) (by omega) hg
 refine⟨mG rfl,fun V β a w hs=>?_⟩
 obtain⟨hw,hg⟩:=h V β a w hs
 refine⟨hw,hg.mono ?_⟩
 rintro v w' ⟨vs,rfl,rfl,hr⟩
 refine⟨?_,(Below.refl _ w).alloc (Nat.le_refl _) _⟩
 have hkeep:=Keep.below (av:=V) ((Below.refl w.heap.size w).alloc (Nat.le_refl _) (.cells vs e))
 have hr2:=hr.keep hkeep
 have hvl:vs.size=1:=by have:=hr.1;simpa using this
 refine .s w.heap.size 0 1 1 1 _ (fun j=>vs.getD j undef) (by omega) (by omega) (by omega) rfl (by simp) (fun h=>by have:=hs.av _ h;omega) (fun j hj=>?_) (fun j u hj=>?_)
 ·rw[Nat.zero_add,cE (heap_alloc_new w (.cells vs e))]
  have:j<vs.size:=by omega
  simp[Array.getD,this]
 ·have hlt:j<1:=by have:=(List.getElem?_eq_some_iff.1 hj).1;simpa using this
  refine hr2.2 j _ u ?_ hj
  rw[Array.getElem?_toList]
  have:j<vs.size:=by omega
  simp[Array.getD,this]
theorem zI {x y:Operand}{U e:TypeId}{n m by_ k:Nat}{cs zs:List CellD}
 (hU:pc P U=some (e,m,by_,zs)) (hx:di T x=some (.o k n n)) (hy:di T y=some (.v (.c (.s 0 [])))) (hb:B k=some (e,cs)) (hcs:cs.length=n*m) (hn:0<n) (hn2:n≤9223372036854775807)
 (hg:gd ops ⟨dst,.call ⟨.builtin .append,#[x,y],#[U,U]⟩,ty,pos,af,g⟩ T=some true):
 Sem P ops ⟨dst,.call ⟨.builtin .append,#[x,y],#[U,U]⟩,ty,pos,af,g⟩ T B (.c k (.v (.c (.s n cs)))):=by
 refine⟨rfl,by rw[hb];simp,fun V β a w hs=>⟨d8 hs hg,?_⟩⟩
 have e1:a.eval x=.slice (some ⟨β k,0,none⟩) n n:=aS hs (x:=x) (by simp[Op.operands,Call.operands]) hx
 have h2:RdC V w (a.eval y) (.s 0 []):=aS hs (x:=y) (by simp[Op.operands,Call.operands]) hy
 have h3: ∃A c,a.eval y=.slice A 0 c:=by
  generalize a.eval y=v at h2
  cases h2 with
  |s0 A c _=>exact⟨A,c,rfl⟩
  |s b off c sz _ _ cv h0=>omega
 obtain⟨A,c,e2⟩:=h3
 obtain⟨hu,i,z,hi,hz,hsz,hby,_,hzr⟩:=gI hU
 obtain⟨hvk,vs,ev,hr⟩:=hs.box k e cs hb
 have hfirst: ∀w,(Builtin.firstCells m 0 (.slice A 0 c)).run P w=.ok #[] w:=by
  intro w
  cases A with
  |none=>rfl
  |some A=>simp[Builtin.firstCells,loadCells,loadCellsFrom]
 have hexec:(execOp a.eval ⟨dst,.call ⟨.builtin .append,#[x,y],#[U,U]⟩,ty,pos,af,g⟩).run P w=.ok (.value (.slice (some ⟨β k,0,none⟩) n n)) w:=by
  simp only[execOp,resolve,invoke,builtin,Sem.run_bind,Sem.run_pure,Result.andThen_ok,List.map_toArray,List.map_cons,List.map_nil,e1,e2]
  simp[Builtin.append_,run_underlying hu,sizeOf,typeInfo,program,Sem.run,hi,hsz,Builtin.lenOf,hfirst,storeCells]
 unfold Gives
 rw[hexec]
 refine⟨?_,Below.refl _ _⟩
 have hkeep:Keep V (fun b=>V b∧b≠β k) w w:=⟨Nat.le_refl _,fun _ _ _=>rfl,fun _ _ h=>h.1⟩
 have hr2:=hr.keep hkeep
 have hvl:vs.size=n*m:=by have:=hr.1;simp at this;omega
 refine .s (β k) 0 n m n cs (fun j=>vs.getD j undef) hn (Nat.le_refl _) hn2 hcs (hs.av _ hvk) (fun h=>h.2 rfl) (fun j hj=>?_) (fun j u hj=>?_)
 ·rw[Nat.zero_add,cE ev]
  have:j<vs.size:=by omega
  simp[Array.getD,this]
 ·have hlt:j<cs.length:=(List.getElem?_eq_some_iff.1 hj).1
  refine hr2.2 j _ u ?_ hj
  rw[Array.getElem?_toList]
  have:j<vs.size:=by omega
  simp[Array.getD,this]
theorem xx {x y:Operand}{U e:TypeId}{k:Nat}{z:CellD}{d:Int}{rs:List Int}
 (hU:pc P U=some (e,1,4,[z])) (hx:di T x=some (.o k 1 1)) (hy:di T y=some (.v (.c (cM rs)))) (hb:B k=some (e,[.i .u32 d])) (hl:rs.length≤10000000)
 (hg:gd ops ⟨dst,.call ⟨.builtin .append,#[x,y],#[U,U]⟩,ty,pos,af,g⟩ T=some true):
 Sem P ops ⟨dst,.call ⟨.builtin .append,#[x,y],#[U,U]⟩,ty,pos,af,g⟩ T B (.c k (.v (.c (cM (d::rs))))):=by
 cases rs with
 |nil=>exact zI (n:=1) hU hx hy hb rfl (by omega) (by omega) hg
 |cons r rs=>
  have:=rq (us:=(d::r::rs).map (CellD.i .u32)) hU hx hy hb rfl (ig _) (by omega) (by simp) (by omega) (by simp at hl⊢;omega) (by simp at hl⊢;unfold maxLen;omega) rfl hg
  unfold cM
  rw[show(d::r::rs).length=1+(r::rs).length from by simp;omega]
  exact this
theorem qg {c:Code}{Q:Exit→St→Prop}{N t k n' c':Nat}{tm:List (Nat×DV)}{bx:List (Nat×TypeId×List CellD)}{U:TypeId}{zs ys:List Int}
 (ht:aT t tm=some (.o k n' c')) (hb:aT k bx=some (U,zs.map (CellD.i .u32))) (hm:zs.length=c') (hn:n'≤c') (hc:c'≤9223372036854775807) (hu:zs.take n'=ys)
 (h:Dw P c ⟨N,(t,.v (.c (cM ys)))::jg k tm,iK k bx⟩ Q):Dw P c ⟨N,tm,bx⟩ Q:=by
 refine cV ht hb (m:=1) (us:=ys.map (CellD.i .u32)) (by simp[hm]) hn hc (by rw[Nat.mul_one,←List.map_take,hu]) ?_
 have e:n'=ys.length:=by rw[←hu,List.length_take];omega
 unfold cM at h
 rw[←e] at h
 exact h
theorem BW {x h:Operand}{U:TypeId}{xs:List Int}{j:Nat}{ki:IntKind}
 (hU:qP P U=some 1) (hx:di T x=some (.v (.c (cM xs)))) (hh:di T h=some (.v (.c (.i ki j)))) (hj:j≤xs.length) (hg:gd ops ⟨dst,.slice U x none (some h) none,ty,pos,af,g⟩ T=some true):
 Sem P ops ⟨dst,.slice U x none (some h) none,ty,pos,af,g⟩ T B (.r (.v (.c (cM (xs.take j))))):=by
 have:=jF (B:=B) hU hx hh (by omega) (ig xs) rfl hg
 have e:CellD.s ((j:Int).toNat) ((xs.map (CellD.i .u32)).take ((j:Int).toNat*1))=cM (xs.take j):=by
  unfold cM
  rw[Int.toNat_natCast,Nat.mul_one,List.length_take,Nat.min_eq_left hj,List.map_take]
 rw[e] at this;exact this
theorem gV {x h:Operand}{U:TypeId}{k n c q m:Nat}{ki:IntKind}
 (hU:qP P U=some m) (hx:di T x=some (.o k n c)) (hh:di T h=some (.v (.c (.i ki q)))) (hq:q≤c) (hg:gd ops ⟨dst,.slice U x none (some h) none,ty,pos,af,g⟩ T=some true):
 Sem P ops ⟨dst,.slice U x none (some h) none,ty,pos,af,g⟩ T B (.r (.o k q c)):=
 bO hg (fun k' e=>by
  obtain rfl:k=k':=by injection e
  exact mX (ops:=ops) (o:=⟨dst,.slice U x none (some h) none,ty,pos,af,g⟩) (by simp[Op.operands]) hx rfl) (fun V β a w hs=>by
  have e:a.eval x=.slice (some ⟨β k,0,none⟩) n c:=aS hs (x:=x) (by simp[Op.operands]) hx
  have h2:=RdC.int_eq (aS hs (x:=h) (by simp[Op.operands]) hh)
  unfold qP at hU
  split at hU
  case h_2=>cases hU
  rename_i el hul
  cases hinf:P.info? el with
  |none=>rw[hinf] at hU;cases hU
  |some inf=>
   rw[hinf] at hU
   simp at hU
   have hso: ∀w,(sizeOf el).run P w=.ok m w:=fun w=>by unfold sizeOf typeInfo;simp[program,Sem.run,hinf,hU]
   refine⟨.slice (some ⟨β k,0,none⟩) q c,?_,rfl⟩
   simp[execOp,Instr.sliceAt,Instr.slice,run_underlying hul,e,h2,Instr.sliceBounds,Instr.sliceBound,asIntOf,hq,hso,Addr.add])
end
theorem jj {xs:List Int}(hL:Lim xs) (hn:xs.length≤10000000):Ok Tryz.prog 215 [.c (cM xs)] [.c (cL (val xs))]:=by
 refine Ok.fn Tryz.func215 21 [.tmp 2] rfl<|aa<|ab<|ag<|aa<|aJ<|bD (ι:={k:Nat // k≤xs.length∧trm (xs.take k)=trm xs}) (fun i=>⟨21,[(0,.v (.c (cM (xs.take i.1))))],[]⟩) (fun i=>i.1) ⟨xs.length,Nat.le_refl _,by rw[List.take_length]⟩ (aM ⟨by rw[List.take_length];rfl,trivial⟩ trivial rfl) ?_
 rintro⟨k,hk0,hT⟩
 have hk:(xs.take k).length=k:=by rw[List.length_take];omega
 show Dw _ _ ⟨21,[(0,.v (.c (cM (xs.take k))))],[]⟩ _
 refine aa<|aa<|ab<|al 3 ?_
 refine cg (bN rfl) (fun c1 hb1=>?_)
 cases c1
 ·have hz:k=0:=by simp only[decide_eq_false_iff_not] at hb1;omega
  have hfin:cL (val xs)=cM (xs.take k):=by rw[Kb hL,←hT,hz];rfl
  refine ag<|aP rfl<|bj<|aa<|ab<|ag<|an ?_
  rw[hfin]
  exact aq (aE ae)
 ·have h1:0<k:=by simp only[decide_eq_true_eq] at hb1;omega
  refine al 3<|ah (aK (r:=((k-1:Nat):Int)) rfl rfl (by rw[hk,show((k-1:Nat):Int)=(k:Int)-1 from by omega];exact bV (by omega) (by omega)) rfl) ?_
  refine ah (aW gX rfl rfl (by omega) (ig _) rfl rfl) ?_
  refine ah (cU eQ rfl (iW (i:=(k-1)) (by omega)) rfl) ?_
  refine ag ?_
  refine aw rfl (fun hc2=>?_) (fun hc2=>?_)
  ·have hstep:=Gr h1 hk0 hT hc2
   refine ao<|aJ<|ab<|al 3<|ah (aK (r:=((k-1:Nat):Int)) rfl rfl (by rw[hk,show((k-1:Nat):Int)=(k:Int)-1 from by omega];exact bV (by omega) (by omega)) rfl) ?_
   refine ah (BW (xs:=xs.take k) (j:=(k-1)) gX rfl rfl (by omega) rfl) ?_
   refine ag ?_
   exact⟨⟨k-1,by omega,hstep⟩,aM ⟨by rw[show xs.take (k-1)=(xs.take k).take (k-1) from by rw[List.take_take,Nat.min_eq_left (by omega)]];rfl,trivial⟩ trivial rfl,by show k-1<k;omega⟩
  ·have hfin:cL (val xs)=cM (xs.take k):=by rw[Kb hL];exact congrArg cM (Hp h1 hk0 hT hc2)
   refine bj<|aa<|ab<|ag<|an ?_
   rw[hfin]
   exact aq (aE ae)
theorem kg {xs:List Int}{k:Nat}(h:k<xs.length):val (xs.take (k+1))=val (xs.take k)+pw k*xs.getD k 0:=bh (getD_some h)
theorem mt {xs:List Int}(k:Nat):val (xs.take (k+1))=val (xs.take k)+pw k*xs.getD k 0:=by
 by_cases h:k<xs.length
 ·exact kg h
 ·rw[fc (by omega),List.getD,List.getElem?_eq_none (by omega)];simp
structure PInv (p q:List Int) (k:Nat) (c:Int) (zs:List Int):Prop where
 le:k≤p.length
 c0:0≤c
 c1:c≤1
 L:Lim zs
 len:zs.length=k
 v:val zs+pw k*c=val (p.take k)+val (q.take k)
theorem PInv.step {p q zs:List Int}{k:Nat}{c S:Int}(h:PInv p q k c zs) (hp:Lim p) (hq:Lim q) (hk:k<p.length) (hS:S=c+p.getD k 0+q.getD k 0):PInv p q (k+1) (S/1000000000) (zs++[S%1000000000]):=by
 have h1:=dw hp k
 have h2:=dw hq k
 have:=h.c0
 have:=h.c1
 refine⟨hk,by omega,by omega,h.L.snoc (by omega) (by omega),by simp[h.len],?_⟩
 rw[mt k,mt k,jV h.len h.v (d:=S%1000000000) (c':=S/1000000000) (t:=p.getD k 0+q.getD k 0) (by omega)]
 rw[Int.mul_add];omega
theorem PInv.done {p q zs:List Int}{k:Nat}{c:Int}(h:PInv p q k c zs) (hk:k=p.length) (hq:q.length≤p.length):val (zs++[c])=val p+val q:=by
 have:=h.v
 rw[mE,h.len,this,hk,co (Nat.le_refl _),co hq]
structure SInv (p q:List Int) (k:Nat) (c:Int) (zs:List Int):Prop where
 le:k≤p.length
 c0:0≤c
 c1:c≤1
 L:Lim zs
 len:zs.length=k
 v:val zs-pw k*c=val (p.take k)-val (q.take k)
theorem SInv.step {p q zs:List Int}{k:Nat}{c d c':Int}(h:SInv p q k c zs) (hk:k<p.length) (hd:0≤d) (hd2:d<1000000000) (hc0:0≤c') (hc1:c'≤1) (hS:d-1000000000*c'=p.getD k 0-c-q.getD k 0):SInv p q (k+1) c' (zs++[d]):=by
 refine⟨hk,hc0,hc1,h.L.snoc hd hd2,by simp[h.len],?_⟩
 have h1:=jV (zs:=zs) (k:=k) (c:= -c) (S:=val (p.take k)-val (q.take k)) (t:=p.getD k 0-q.getD k 0) (d:=d) (c':= -c') h.len (by rw[Int.mul_neg];have:=h.v;omega) (by omega)
 rw[Int.mul_neg] at h1
 rw[mt k,mt k]
 rw[Int.mul_sub] at h1
 omega
theorem SInv.done {p q zs:List Int}{k:Nat}{c:Int}(h:SInv p q k c zs) (hk:k=p.length) (hq:q.length≤p.length) (hv:val q≤val p):val zs=val p-val q:=by
 have h1:=h.v
 rw[hk,co (Nat.le_refl _),co hq] at h1
 have h2:=eI h.L
 have h3:=cK h.L
 rw[h.len,hk] at h2
 have h4:=h.c0
 have h5:=h.c1
 have:c=0∨c=1:=by omega
 rcases this with rfl|rfl
 ·omega
 ·rw[Int.mul_one] at h1;omega
structure TInv (p q:List Int) (i k:Nat) (c:Int) (zs:List Int):Prop where
 ik:i≤p.length
 kk:k≤q.length
 c0:0≤c
 c1:c<1000000000
 L:Lim zs
 len:zs.length=p.length+q.length
 z:Zr zs (i+q.length)
 v:val zs+pw (i+k)*c=val (p.take i)*val q+pw i*(p.getD i 0*val (q.take k))
theorem TInv.start {p q:List Int}:TInv p q 0 0 0 (List.replicate (p.length+q.length) 0):=
 ⟨Nat.zero_le _,Nat.zero_le _,by omega,by omega,Lim.zeros _,by simp,Zr.zeros _ _,by rw[tA];simp[val]⟩
theorem Gk {Z a b c d o c' x y Q M S:Int}(hv:Z+a*b*c=M+a*(x*Q)) (e1:d+1000000000*c'=S) (hS:S=c+o+x*y):Z+a*b*(d-o)+1000000000*(a*b)*c'=M+a*(x*(Q+b*y)):=by
 grind
theorem TInv.step {p q zs:List Int}{i k:Nat}{c S:Int}(h:TInv p q i k c zs) (hp:Lim p) (hq:Lim q) (hi:i<p.length) (hk:k<q.length) (hS:S=c+zs.getD (i+k) 0+p.getD i 0*q.getD k 0):
 TInv p q i (k+1) (S/1000000000) (zs.set (i+k) (S%1000000000)):=by
 have h1:=dw hp i
 have h2:=dw hq k
 have h3:=dw h.L (i+k)
 have hc0:=h.c0
 have hc1:=h.c1
 have hm0:0≤p.getD i 0*q.getD k 0:=Int.mul_nonneg h1.1 h2.1
 have hm1:p.getD i 0*q.getD k 0≤999999999*999999999:=Int.mul_le_mul (by omega) (by omega) h2.1 (by omega)
 have hlt:i+k<zs.length:=by rw[h.len];omega
 refine⟨h.ik,hk,by omega,by omega,h.L.set (by omega) (by omega),by simp[h.len],h.z.set (by omega),?_⟩
 rw[uh (getD_some hlt),kg hk,show i+(k+1)=i+k+1 from by omega,eh]
 have hv:=h.v
 have e1:S%1000000000+1000000000*(S/1000000000)=S:=Int.emod_add_mul_ediv S 1000000000
 rw[qQ i k] at*
 exact Gk hv e1 hS
theorem TInv.row {p q zs:List Int}{i k:Nat}{c:Int}(h:TInv p q i k c zs) (hi:i<p.length) (hk:k=q.length):TInv p q (i+1) 0 0 (zs.set (i+q.length) c):=by
 subst hk
 have hlt:i+q.length<zs.length:=by rw[h.len];omega
 have hz:zs.getD (i+q.length) 0=0:=h.z (i+q.length) _ (Nat.le_refl _) (getD_some hlt)
 refine⟨hi,Nat.zero_le _,by omega,by omega,h.L.set h.c0 h.c1,by simp[h.len],?_,?_⟩
 ·rw[show i+1+q.length=i+q.length+1 from by omega];exact h.z.set_at
 ·rw[uh (getD_some hlt),hz,kg hi]
  have hv:=h.v
  rw[co (Nat.le_refl _)] at hv
  simp only[List.take_zero,val,Int.mul_zero,Int.add_zero,Int.sub_zero]
  generalize pw (i+q.length)=a at*
  generalize pw i=b at*
  generalize p.getD i 0=x at*
  generalize val q=Q at*
  generalize val zs=Z at*
  generalize val (p.take i)=M at*
  grind
theorem TInv.done {p q zs:List Int}{i:Nat}(h:TInv p q i 0 0 zs) (hi:i=p.length):val zs=val p*val q:=by
 have hv:=h.v
 subst hi
 rw[co (Nat.le_refl _)] at hv
 simp[val] at hv
 exact hv
theorem Gn {xs ys:List Int}{i:Nat}(hx:i<xs.length) (hy:i<ys.length) (h:xs.drop (i+1)=ys.drop (i+1)) (he:xs.getD i 0=ys.getD i 0):xs.drop i=ys.drop i:=by
 rw[List.drop_eq_getElem_cons hx,List.drop_eq_getElem_cons hy,h]
 congr 1
 simpa [List.getD,hx,hy] using he
theorem MW {v:Int}(h:0≤v):dI (sg true v)=.a ([.b (decide (((du v.natAbs).length:Int)>0))]++[cL v]):=by
 rw[fH]
 unfold dI cI
 have e1:cL (-v)=cL v:=by unfold cL;rw[Int.natAbs_neg]
 rw[e1]
 have e2:decide (-v<0)=decide (((du v.natAbs).length:Int)>0):=by
  by_cases h0:v=0
  ·subst h0;simp[iG]
  ·have:(du v.natAbs).length≠0:=fun e=>h0 (An.1 e)
   rw[show decide (-v<0)=true from by simp;omega,show decide (((du v.natAbs).length:Int)>0)=true from by simp only[decide_eq_true_eq];omega]
 rw[e2];rfl
structure ShInv (xs:List Int) (j:Nat) (r:Int):Prop where
 le:j≤xs.length
 r0:0≤r
 v:r*pw j+val (xs.take j)=val xs
theorem ShInv.step {xs:List Int}{i:Nat}{r:Int}(h:ShInv xs (i+1) r) (hL:Lim xs):ShInv xs i (r*1000000000+xs.getD i 0):=by
 have h1:=dw hL i
 refine⟨by have:=h.le;omega,by have:=h.r0;omega,?_⟩
 have hv:=h.v
 rw[mt i,eh] at hv
 rw[←hv]
 generalize pw i=a at*
 grind
theorem ShInv.bound {xs:List Int}{j:Nat}{r:Int}(h:ShInv xs j r) (hL:Lim xs):r≤val xs:=by
 have:=h.v
 have h1:=dJ j
 have h2:=cK (hL.take j)
 have h3:=Int.mul_le_mul_of_nonneg_left h1 h.r0
 rw[Int.mul_one] at h3
 omega
end Go.Proofs.YtkmdgigkbhmilaaGreat
