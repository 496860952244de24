/-Ways:directions,ranges. -/
import Derived.Test.YtegpmhlfjkhjmaaGreatTaV
namespace Go.Proofs.YtegpmhlfjkhjmaaGreat
open Go Go.RowKit
variable {D k:Ci}{a a1 a2 b b1 b2 n s t x0 x1 x2 x3:Int}{A p q:Pt}{c m x y:Rat}
theorem rG:type_of% @Tryz.func288:=@Tryz.func288
theorem rH:type_of% @Tryz.func202:=@Tryz.func202
theorem rU:type_of% @Tryz.func111:=@Tryz.func111
theorem MC:Ok Tryz.prog 201 [.c (.i .i64 a),.c (.i .i64 b)] [.c (.i .i64 (vj b a))]:=by
 refine b9 Tryz.func201 rfl ?_
 refine dS rfl (fun hc1=>?_) (fun hc1=>?_)
 ·refine ai ?_
  rw[WW (show decide (b<a)=true from hc1)]
  exact ak ag
 ·refine dS rfl (fun hc2=>?_) (fun hc2=>?_)
  ·refine ai ?_
   rw[WM (show decide (b>a)=true from hc2)]
   exact ak ag
  ·refine ai ?_
   rw[XR (show decide (b<a)=false from hc1) (show decide (b>a)=false from hc2)]
   exact ak ag
theorem Iv (h0: -1≤n) (h1:n≤1):Ok Tryz.prog 200 [.c (.i .i64 n)] [.c (.i .i64 n)]:=by
 refine b9 Tryz.func200 rfl<|ar (zU rfl rfl rfl) ?_
 refine ar (tv (c:=n) (zN rfl rfl rfl) (by omega)) ?_
 exact ai (ak ag)
theorem zw:Ok Tryz.prog 110 [.a (([.i .i64 a1]++[.i .i64 a2])),.a (([.i .i64 b1]++[.i .i64 b2]))] [.a (([.i .i64 (vj a1 b1)]++[.i .i64 (vj a2 b2)])),.c (.b (G8 a1 a2 b1 b2))]:=by
 refine b9 Tryz.func110 rfl<|dF 14 [] ?_
 refine aI rfl (MC) ?_
 refine aI rfl (Iv (Ge _ _).1 (Ge _ _).2) ?_
 refine aI rfl (MC) ?_
 refine aI rfl (Iv (Ge _ _).1 (Ge _ _).2) ?_
 refine aq (aF (us:=([.i .i64 (vj a1 b1)]++[.i .i64 (vj a2 b2)])) ue tD rfl rfl rfl) ?_
 refine dF 10 [4,999999] ?_
 refine aq (kG rfl rfl jQ rfl) ?_
 refine DQ.mk<|jE (eQ tR rfl) rfl rfl rfl rfl<|dP ?_
 exact ai (bj tR rfl (ak ag))
theorem Hn:Ok Tryz.prog 108 [.c (.i .i64 a),.c (.i .i64 b)] [.c (.i .i64 (vj a b))]:=by
 refine b9 Tryz.func108 rfl ?_
 refine dS rfl (fun hc1=>?_) (fun hc1=>?_)
 ·refine ai ?_
  rw[WW hc1]
  exact ak ag
 ·refine dS rfl (fun hc2=>?_) (fun hc2=>?_)
  ·refine ai ?_
   rw[WM hc2]
   exact ak ag
  ·refine ai ?_
   rw[XR hc1 hc2]
   exact ak ag
theorem BL:Ok Tryz.prog 34 [.a (([.i .i64 a1]++[.i .i64 a2])),.a (([.i .i64 b1]++[.i .i64 b2]))] [.a (([.i .i64 (vj a1 b1)]++[.i .i64 (vj a2 b2)])),.c (.b (G8 a1 a2 b1 b2))]:=by
 refine b9 Tryz.func34 rfl<|dF 12 [] ?_
 refine aI rfl (Hn) ?_
 refine aI rfl (Hn) ?_
 refine aq (aF (us:=([.i .i64 (vj a1 b1)]++[.i .i64 (vj a2 b2)])) ue tD rfl rfl rfl) ?_
 refine dF 10 [4,999999] ?_
 refine aq (kG rfl rfl jQ rfl) ?_
 refine DQ.mk<|jE (eQ tR rfl) rfl rfl rfl rfl<|dP ?_
 exact ai (bj tR rfl (ak ag))
theorem qW {x:Int}:Ok Tryz.prog 194 [.c (.i .i64 x)] [.c (.b (fb x))]:=by
 refine b9 Tryz.func194 rfl ?_
 refine lg (bJ rfl) (fun c1 hb1=>?_)
 cases c1
 ·refine ai ?_
  rw[W3 hb1]
  exact ak ag
 ·refine ai ?_
  rw[Xj hb1]
  exact ak ag
theorem f8 {x:Int}:Ok Tryz.prog 203 [.c (.i .i64 x)] [.c (.b (fb x))]:=by
 refine b9 Tryz.func203 rfl ?_
 refine lg (bJ rfl) (fun c1 hb1=>?_)
 cases c1
 ·refine ai ?_
  rw[W3 hb1]
  exact ak ag
 ·refine ai ?_
  rw[Xj hb1]
  exact ak ag
theorem Uc (z0:fb x0=true):Ok Tryz.prog 288 [.c (.s 1 ([.i .i64 x0])),.c (.f 203)] [.c (.i .i64 0)]:=by
 refine b9 rG rfl ?_
 refine DW.mk<|bv (ι:=Nat) (fun i=>match i with|_=>⟨19,[(0,.v (.c (.s 1 ([.i .i64 x0])))),(1,.v (.c (.f 203))),(7,.v (.c (.i .i64 1))),(8,.v (.c (.i .i64 0))),(4,.v (.c (.i .i64 0)))],[]⟩) (fun i=>0-i) 0 (ap (bo rfl) trivial rfl) ?_
 intro i
 match i with
 |_=>
  show Dw _ _ ⟨19,[(0,.v (.c (.s 1 ([.i .i64 x0])))),(1,.v (.c (.f 203))),(7,.v (.c (.i .i64 1))),(8,.v (.c (.i .i64 0))),(4,.v (.c (.i .i64 0)))],[]⟩ _
  refine gZ<|lr rfl<|ar (bc jI rfl rfl (by decide) rfl rfl rfl) ?_
  refine ar (bn yQ rfl rfl rfl) ?_
  refine ac rfl (cE f8 z0)<|lr rfl ?_
  exact ai (ak ag)
theorem VF (z0:fb x0=true):Ok Tryz.prog 202 [.c (.s 1 ([.i .i64 x0])),.c (.f 203)] [.c (.b true)]:=by
 refine b9 rH rfl<|ac rfl (Uc z0) ?_
 exact ai (ak ag)
theorem SW (z0:fb x0=true):Ok Tryz.prog 111 [.c (.s 1 ([.i .i64 x0]))] [.c (.b false)]:=by
 refine b9 rU rfl<|ac rfl (VF z0) ?_
 exact ai (ak ag)
theorem U6 (z0:fb x0=false):Ok Tryz.prog 288 [.c (.s 1 ([.i .i64 x0])),.c (.f 203)] [.c (.i .i64 (-1))]:=by
 refine b9 rG rfl ?_
 refine DW.mk<|bv (ι:=Nat) (fun i=>match i with|0=>⟨19,[(0,.v (.c (.s 1 ([.i .i64 x0])))),(1,.v (.c (.f 203))),(7,.v (.c (.i .i64 1))),(8,.v (.c (.i .i64 0))),(4,.v (.c (.i .i64 0)))],[]⟩|_+1=>⟨19,[(0,.v (.c (.s 1 ([.i .i64 x0])))),(1,.v (.c (.f 203))),(7,.v (.c (.i .i64 1))),(8,.v (.c (.i .i64 1))),(4,.v (.c (.i .i64 0)))],[]⟩) (fun i=>1-i) 0 (ap (bo rfl) trivial rfl) ?_
 intro i
 match i with
 |0=>
  show Dw _ _ ⟨19,[(0,.v (.c (.s 1 ([.i .i64 x0])))),(1,.v (.c (.f 203))),(7,.v (.c (.i .i64 1))),(8,.v (.c (.i .i64 0))),(4,.v (.c (.i .i64 0)))],[]⟩ _
  refine gZ<|lr rfl<|ar (bc jI rfl rfl (by decide) rfl rfl rfl) ?_
  refine ar (bn yQ rfl rfl rfl) ?_
  refine ac rfl (cE f8 z0)<|qq rfl<|ar (er (r:=1) rfl rfl rfl rfl) ?_
  exact⟨1,ap (bo rfl) trivial rfl,by show 1-1<1-0;decide⟩
 |z+1=>
  show Dw _ _ ⟨19,[(0,.v (.c (.s 1 ([.i .i64 x0])))),(1,.v (.c (.f 203))),(7,.v (.c (.i .i64 1))),(8,.v (.c (.i .i64 1))),(4,.v (.c (.i .i64 0)))],[]⟩ _
  refine gZ<|qq rfl ?_
  exact ai (ak ag)
theorem Vq (z0:fb x0=false):Ok Tryz.prog 202 [.c (.s 1 ([.i .i64 x0])),.c (.f 203)] [.c (.b false)]:=by
 refine b9 rH rfl<|ac rfl (U6 z0) ?_
 exact ai (ak ag)
theorem PF (z0:fb x0=false):Ok Tryz.prog 111 [.c (.s 1 ([.i .i64 x0]))] [.c (.b true)]:=by
 refine b9 rU rfl<|ac rfl (Vq z0) ?_
 exact ai (ak ag)
theorem Rn:Ok Tryz.prog 111 [.c (.s 1 ([.i .i64 x0]))] [.c (.b (!fb x0))]:=by
 cases z0:fb x0 with
 |true=>exact cE (SW z0) (by simp)
 |false=>
 exact cE (PF z0) (by simp)
theorem VB (z0:fb x0=true):Ok Tryz.prog 288 [.c (.s 2 ([.i .i64 x0]++[.i .i64 x1])),.c (.f 203)] [.c (.i .i64 0)]:=by
 refine b9 rG rfl ?_
 refine DW.mk<|bv (ι:=Nat) (fun i=>match i with|_=>⟨19,[(0,.v (.c (.s 2 ([.i .i64 x0]++[.i .i64 x1])))),(1,.v (.c (.f 203))),(7,.v (.c (.i .i64 2))),(8,.v (.c (.i .i64 0))),(4,.v (.c (.i .i64 0)))],[]⟩) (fun i=>0-i) 0 (ap (bo rfl) trivial rfl) ?_
 intro i
 match i with
 |_=>
  show Dw _ _ ⟨19,[(0,.v (.c (.s 2 ([.i .i64 x0]++[.i .i64 x1])))),(1,.v (.c (.f 203))),(7,.v (.c (.i .i64 2))),(8,.v (.c (.i .i64 0))),(4,.v (.c (.i .i64 0)))],[]⟩ _
  refine gZ<|lr rfl<|ar (bc jI rfl rfl (by decide) rfl rfl rfl) ?_
  refine ar (bn yQ rfl rfl rfl) ?_
  refine ac rfl (cE f8 z0)<|lr rfl ?_
  exact ai (ak ag)
theorem TQ (z0:fb x0=true):Ok Tryz.prog 202 [.c (.s 2 ([.i .i64 x0]++[.i .i64 x1])),.c (.f 203)] [.c (.b true)]:=by
 refine b9 rH rfl<|ac rfl (VB z0) ?_
 exact ai (ak ag)
theorem P9 (z0:fb x0=true):Ok Tryz.prog 111 [.c (.s 2 ([.i .i64 x0]++[.i .i64 x1]))] [.c (.b false)]:=by
 refine b9 rU rfl<|ac rfl (TQ z0) ?_
 exact ai (ak ag)
theorem UK (z0:fb x0=false) (z1:fb x1=true):Ok Tryz.prog 288 [.c (.s 2 ([.i .i64 x0]++[.i .i64 x1])),.c (.f 203)] [.c (.i .i64 1)]:=by
 refine b9 rG rfl ?_
 refine DW.mk<|bv (ι:=Nat) (fun i=>match i with|0=>⟨19,[(0,.v (.c (.s 2 ([.i .i64 x0]++[.i .i64 x1])))),(1,.v (.c (.f 203))),(7,.v (.c (.i .i64 2))),(8,.v (.c (.i .i64 0))),(4,.v (.c (.i .i64 0)))],[]⟩|_+1=>⟨19,[(0,.v (.c (.s 2 ([.i .i64 x0]++[.i .i64 x1])))),(1,.v (.c (.f 203))),(7,.v (.c (.i .i64 2))),(8,.v (.c (.i .i64 1))),(4,.v (.c (.i .i64 0)))],[]⟩) (fun i=>1-i) 0 (ap (bo rfl) trivial rfl) ?_
 intro i
 match i with
 |0=>
  show Dw _ _ ⟨19,[(0,.v (.c (.s 2 ([.i .i64 x0]++[.i .i64 x1])))),(1,.v (.c (.f 203))),(7,.v (.c (.i .i64 2))),(8,.v (.c (.i .i64 0))),(4,.v (.c (.i .i64 0)))],[]⟩ _
  refine gZ<|lr rfl<|ar (bc jI rfl rfl (by decide) rfl rfl rfl) ?_
  refine ar (bn yQ rfl rfl rfl) ?_
  refine ac rfl (cE f8 z0)<|qq rfl<|ar (er (r:=1) rfl rfl rfl rfl) ?_
  exact⟨1,ap (bo rfl) trivial rfl,by show 1-1<1-0;decide⟩
 |z+1=>
  show Dw _ _ ⟨19,[(0,.v (.c (.s 2 ([.i .i64 x0]++[.i .i64 x1])))),(1,.v (.c (.f 203))),(7,.v (.c (.i .i64 2))),(8,.v (.c (.i .i64 1))),(4,.v (.c (.i .i64 0)))],[]⟩ _
  refine gZ<|lr rfl<|ar (bc jI rfl rfl (by decide) rfl rfl rfl) ?_
  refine ar (bn yQ rfl rfl rfl) ?_
  refine ac rfl (cE f8 z1)<|lr rfl ?_
  exact ai (ak ag)
theorem Ty (z0:fb x0=false) (z1:fb x1=true):Ok Tryz.prog 202 [.c (.s 2 ([.i .i64 x0]++[.i .i64 x1])),.c (.f 203)] [.c (.b true)]:=by
 refine b9 rH rfl<|ac rfl (UK z0 z1) ?_
 exact ai (ak ag)
theorem QX (z0:fb x0=false) (z1:fb x1=true):Ok Tryz.prog 111 [.c (.s 2 ([.i .i64 x0]++[.i .i64 x1]))] [.c (.b false)]:=by
 refine b9 rU rfl<|ac rfl (Ty z0 z1) ?_
 exact ai (ak ag)
theorem Ve (z0:fb x0=false) (z1:fb x1=false):Ok Tryz.prog 288 [.c (.s 2 ([.i .i64 x0]++[.i .i64 x1])),.c (.f 203)] [.c (.i .i64 (-1))]:=by
 refine b9 rG rfl ?_
 refine DW.mk<|bv (ι:=Nat) (fun i=>match i with|0=>⟨19,[(0,.v (.c (.s 2 ([.i .i64 x0]++[.i .i64 x1])))),(1,.v (.c (.f 203))),(7,.v (.c (.i .i64 2))),(8,.v (.c (.i .i64 0))),(4,.v (.c (.i .i64 0)))],[]⟩|1=>⟨19,[(0,.v (.c (.s 2 ([.i .i64 x0]++[.i .i64 x1])))),(1,.v (.c (.f 203))),(7,.v (.c (.i .i64 2))),(8,.v (.c (.i .i64 1))),(4,.v (.c (.i .i64 0)))],[]⟩|_+2=>⟨19,[(0,.v (.c (.s 2 ([.i .i64 x0]++[.i .i64 x1])))),(1,.v (.c (.f 203))),(7,.v (.c (.i .i64 2))),(8,.v (.c (.i .i64 2))),(4,.v (.c (.i .i64 0)))],[]⟩) (fun i=>2-i) 0 (ap (bo rfl) trivial rfl) ?_
 intro i
 match i with
 |0=>
  show Dw _ _ ⟨19,[(0,.v (.c (.s 2 ([.i .i64 x0]++[.i .i64 x1])))),(1,.v (.c (.f 203))),(7,.v (.c (.i .i64 2))),(8,.v (.c (.i .i64 0))),(4,.v (.c (.i .i64 0)))],[]⟩ _
  refine gZ<|lr rfl<|ar (bc jI rfl rfl (by decide) rfl rfl rfl) ?_
  refine ar (bn yQ rfl rfl rfl) ?_
  refine ac rfl (cE f8 z0)<|qq rfl<|ar (er (r:=1) rfl rfl rfl rfl) ?_
  exact⟨1,ap (bo rfl) trivial rfl,by show 2-1<2-0;decide⟩
 |1=>
  show Dw _ _ ⟨19,[(0,.v (.c (.s 2 ([.i .i64 x0]++[.i .i64 x1])))),(1,.v (.c (.f 203))),(7,.v (.c (.i .i64 2))),(8,.v (.c (.i .i64 1))),(4,.v (.c (.i .i64 0)))],[]⟩ _
  refine gZ<|lr rfl<|ar (bc jI rfl rfl (by decide) rfl rfl rfl) ?_
  refine ar (bn yQ rfl rfl rfl) ?_
  refine ac rfl (cE f8 z1)<|qq rfl<|ar (er (r:=2) rfl rfl rfl rfl) ?_
  exact⟨2,ap (bo rfl) trivial rfl,by show 2-2<2-1;decide⟩
 |z+2=>
  show Dw _ _ ⟨19,[(0,.v (.c (.s 2 ([.i .i64 x0]++[.i .i64 x1])))),(1,.v (.c (.f 203))),(7,.v (.c (.i .i64 2))),(8,.v (.c (.i .i64 2))),(4,.v (.c (.i .i64 0)))],[]⟩ _
  refine gZ<|qq rfl ?_
  exact ai (ak ag)
theorem Wg (z0:fb x0=false) (z1:fb x1=false):Ok Tryz.prog 202 [.c (.s 2 ([.i .i64 x0]++[.i .i64 x1])),.c (.f 203)] [.c (.b false)]:=by
 refine b9 rH rfl<|ac rfl (Ve z0 z1) ?_
 exact ai (ak ag)
theorem R8 (z0:fb x0=false) (z1:fb x1=false):Ok Tryz.prog 111 [.c (.s 2 ([.i .i64 x0]++[.i .i64 x1]))] [.c (.b true)]:=by
 refine b9 rU rfl<|ac rfl (Wg z0 z1) ?_
 exact ai (ak ag)
theorem RL:Ok Tryz.prog 111 [.c (.s 2 ([.i .i64 x0]++[.i .i64 x1]))] [.c (.b (!(fb x0||fb x1)))]:=by
 cases z0:fb x0 with
 |true=>exact cE (P9 z0) (by simp)
 |false=>
 cases z1:fb x1 with
 |true=>exact cE (QX z0 z1) (by simp)
 |false=>
 exact cE (R8 z0 z1) (by simp)
theorem V6 (z0:fb x0=true):Ok Tryz.prog 288 [.c (.s 4 ([.i .i64 x0]++[.i .i64 x1]++[.i .i64 x2]++[.i .i64 x3])),.c (.f 203)] [.c (.i .i64 0)]:=by
 refine b9 rG rfl ?_
 refine DW.mk<|bv (ι:=Nat) (fun i=>match i with|_=>⟨19,[(0,.v (.c (.s 4 ([.i .i64 x0]++[.i .i64 x1]++[.i .i64 x2]++[.i .i64 x3])))),(1,.v (.c (.f 203))),(7,.v (.c (.i .i64 4))),(8,.v (.c (.i .i64 0))),(4,.v (.c (.i .i64 0)))],[]⟩) (fun i=>0-i) 0 (ap (bo rfl) trivial rfl) ?_
 intro i
 match i with
 |_=>
  show Dw _ _ ⟨19,[(0,.v (.c (.s 4 ([.i .i64 x0]++[.i .i64 x1]++[.i .i64 x2]++[.i .i64 x3])))),(1,.v (.c (.f 203))),(7,.v (.c (.i .i64 4))),(8,.v (.c (.i .i64 0))),(4,.v (.c (.i .i64 0)))],[]⟩ _
  refine gZ<|lr rfl<|ar (bc jI rfl rfl (by decide) rfl rfl rfl) ?_
  refine ar (bn yQ rfl rfl rfl) ?_
  refine ac rfl (cE f8 z0)<|lr rfl ?_
  exact ai (ak ag)
theorem TM (z0:fb x0=true):Ok Tryz.prog 202 [.c (.s 4 ([.i .i64 x0]++[.i .i64 x1]++[.i .i64 x2]++[.i .i64 x3])),.c (.f 203)] [.c (.b true)]:=by
 refine b9 rH rfl<|ac rfl (V6 z0) ?_
 exact ai (ak ag)
theorem OU (z0:fb x0=true):Ok Tryz.prog 111 [.c (.s 4 ([.i .i64 x0]++[.i .i64 x1]++[.i .i64 x2]++[.i .i64 x3]))] [.c (.b false)]:=by
 refine b9 rU rfl<|ac rfl (TM z0) ?_
 exact ai (ak ag)
theorem VC (z0:fb x0=false) (z1:fb x1=true):Ok Tryz.prog 288 [.c (.s 4 ([.i .i64 x0]++[.i .i64 x1]++[.i .i64 x2]++[.i .i64 x3])),.c (.f 203)] [.c (.i .i64 1)]:=by
 refine b9 rG rfl ?_
 refine DW.mk<|bv (ι:=Nat) (fun i=>match i with|0=>⟨19,[(0,.v (.c (.s 4 ([.i .i64 x0]++[.i .i64 x1]++[.i .i64 x2]++[.i .i64 x3])))),(1,.v (.c (.f 203))),(7,.v (.c (.i .i64 4))),(8,.v (.c (.i .i64 0))),(4,.v (.c (.i .i64 0)))],[]⟩|_+1=>⟨19,[(0,.v (.c (.s 4 ([.i .i64 x0]++[.i .i64 x1]++[.i .i64 x2]++[.i .i64 x3])))),(1,.v (.c (.f 203))),(7,.v (.c (.i .i64 4))),(8,.v (.c (.i .i64 1))),(4,.v (.c (.i .i64 0)))],[]⟩) (fun i=>1-i) 0 (ap (bo rfl) trivial rfl) ?_
 intro i
 match i with
 |0=>
  show Dw _ _ ⟨19,[(0,.v (.c (.s 4 ([.i .i64 x0]++[.i .i64 x1]++[.i .i64 x2]++[.i .i64 x3])))),(1,.v (.c (.f 203))),(7,.v (.c (.i .i64 4))),(8,.v (.c (.i .i64 0))),(4,.v (.c (.i .i64 0)))],[]⟩ _
  refine gZ<|lr rfl<|ar (bc jI rfl rfl (by decide) rfl rfl rfl) ?_
  refine ar (bn yQ rfl rfl rfl) ?_
  refine ac rfl (cE f8 z0)<|qq rfl<|ar (er (r:=1) rfl rfl rfl rfl) ?_
  exact⟨1,ap (bo rfl) trivial rfl,by show 1-1<1-0;decide⟩
 |z+1=>
  show Dw _ _ ⟨19,[(0,.v (.c (.s 4 ([.i .i64 x0]++[.i .i64 x1]++[.i .i64 x2]++[.i .i64 x3])))),(1,.v (.c (.f 203))),(7,.v (.c (.i .i64 4))),(8,.v (.c (.i .i64 1))),(4,.v (.c (.i .i64 0)))],[]⟩ _
  refine gZ<|lr rfl<|ar (bc jI rfl rfl (by decide) rfl rfl rfl) ?_
  refine ar (bn yQ rfl rfl rfl) ?_
  refine ac rfl (cE f8 z1)<|lr rfl ?_
  exact ai (ak ag)
theorem U5 (z0:fb x0=false) (z1:fb x1=true):Ok Tryz.prog 202 [.c (.s 4 ([.i .i64 x0]++[.i .i64 x1]++[.i .i64 x2]++[.i .i64 x3])),.c (.f 203)] [.c (.b true)]:=by
 refine b9 rH rfl<|ac rfl (VC z0 z1) ?_
 exact ai (ak ag)
theorem Py (z0:fb x0=false) (z1:fb x1=true):Ok Tryz.prog 111 [.c (.s 4 ([.i .i64 x0]++[.i .i64 x1]++[.i .i64 x2]++[.i .i64 x3]))] [.c (.b false)]:=by
 refine b9 rU rfl<|ac rfl (U5 z0 z1) ?_
 exact ai (ak ag)
theorem V4 (z0:fb x0=false) (z1:fb x1=false) (z2:fb x2=true):Ok Tryz.prog 288 [.c (.s 4 ([.i .i64 x0]++[.i .i64 x1]++[.i .i64 x2]++[.i .i64 x3])),.c (.f 203)] [.c (.i .i64 2)]:=by
 refine b9 rG rfl ?_
 refine DW.mk<|bv (ι:=Nat) (fun i=>match i with|0=>⟨19,[(0,.v (.c (.s 4 ([.i .i64 x0]++[.i .i64 x1]++[.i .i64 x2]++[.i .i64 x3])))),(1,.v (.c (.f 203))),(7,.v (.c (.i .i64 4))),(8,.v (.c (.i .i64 0))),(4,.v (.c (.i .i64 0)))],[]⟩|1=>⟨19,[(0,.v (.c (.s 4 ([.i .i64 x0]++[.i .i64 x1]++[.i .i64 x2]++[.i .i64 x3])))),(1,.v (.c (.f 203))),(7,.v (.c (.i .i64 4))),(8,.v (.c (.i .i64 1))),(4,.v (.c (.i .i64 0)))],[]⟩|_+2=>⟨19,[(0,.v (.c (.s 4 ([.i .i64 x0]++[.i .i64 x1]++[.i .i64 x2]++[.i .i64 x3])))),(1,.v (.c (.f 203))),(7,.v (.c (.i .i64 4))),(8,.v (.c (.i .i64 2))),(4,.v (.c (.i .i64 0)))],[]⟩) (fun i=>2-i) 0 (ap (bo rfl) trivial rfl) ?_
 intro i
 match i with
 |0=>
  show Dw _ _ ⟨19,[(0,.v (.c (.s 4 ([.i .i64 x0]++[.i .i64 x1]++[.i .i64 x2]++[.i .i64 x3])))),(1,.v (.c (.f 203))),(7,.v (.c (.i .i64 4))),(8,.v (.c (.i .i64 0))),(4,.v (.c (.i .i64 0)))],[]⟩ _
  refine gZ<|lr rfl<|ar (bc jI rfl rfl (by decide) rfl rfl rfl) ?_
  refine ar (bn yQ rfl rfl rfl) ?_
  refine ac rfl (cE f8 z0)<|qq rfl<|ar (er (r:=1) rfl rfl rfl rfl) ?_
  exact⟨1,ap (bo rfl) trivial rfl,by show 2-1<2-0;decide⟩
 |1=>
  show Dw _ _ ⟨19,[(0,.v (.c (.s 4 ([.i .i64 x0]++[.i .i64 x1]++[.i .i64 x2]++[.i .i64 x3])))),(1,.v (.c (.f 203))),(7,.v (.c (.i .i64 4))),(8,.v (.c (.i .i64 1))),(4,.v (.c (.i .i64 0)))],[]⟩ _
  refine gZ<|lr rfl<|ar (bc jI rfl rfl (by decide) rfl rfl rfl) ?_
  refine ar (bn yQ rfl rfl rfl) ?_
  refine ac rfl (cE f8 z1)<|qq rfl<|ar (er (r:=2) rfl rfl rfl rfl) ?_
  exact⟨2,ap (bo rfl) trivial rfl,by show 2-2<2-1;decide⟩
 |z+2=>
  show Dw _ _ ⟨19,[(0,.v (.c (.s 4 ([.i .i64 x0]++[.i .i64 x1]++[.i .i64 x2]++[.i .i64 x3])))),(1,.v (.c (.f 203))),(7,.v (.c (.i .i64 4))),(8,.v (.c (.i .i64 2))),(4,.v (.c (.i .i64 0)))],[]⟩ _
  refine gZ<|lr rfl<|ar (bc jI rfl rfl (by decide) rfl rfl rfl) ?_
  refine ar (bn yQ rfl rfl rfl) ?_
  refine ac rfl (cE f8 z2)<|lr rfl ?_
  exact ai (ak ag)
theorem Ut (z0:fb x0=false) (z1:fb x1=false) (z2:fb x2=true):Ok Tryz.prog 202 [.c (.s 4 ([.i .i64 x0]++[.i .i64 x1]++[.i .i64 x2]++[.i .i64 x3])),.c (.f 203)] [.c (.b true)]:=by
 refine b9 rH rfl<|ac rfl (V4 z0 z1 z2) ?_
 exact ai (ak ag)
theorem Q5 (z0:fb x0=false) (z1:fb x1=false) (z2:fb x2=true):Ok Tryz.prog 111 [.c (.s 4 ([.i .i64 x0]++[.i .i64 x1]++[.i .i64 x2]++[.i .i64 x3]))] [.c (.b false)]:=by
 refine b9 rU rfl<|ac rfl (Ut z0 z1 z2) ?_
 exact ai (ak ag)
theorem UH (z0:fb x0=false) (z1:fb x1=false) (z2:fb x2=false) (z3:fb x3=true):Ok Tryz.prog 288 [.c (.s 4 ([.i .i64 x0]++[.i .i64 x1]++[.i .i64 x2]++[.i .i64 x3])),.c (.f 203)] [.c (.i .i64 3)]:=by
 refine b9 rG rfl ?_
 refine DW.mk<|bv (ι:=Nat) (fun i=>match i with|0=>⟨19,[(0,.v (.c (.s 4 ([.i .i64 x0]++[.i .i64 x1]++[.i .i64 x2]++[.i .i64 x3])))),(1,.v (.c (.f 203))),(7,.v (.c (.i .i64 4))),(8,.v (.c (.i .i64 0))),(4,.v (.c (.i .i64 0)))],[]⟩|1=>⟨19,[(0,.v (.c (.s 4 ([.i .i64 x0]++[.i .i64 x1]++[.i .i64 x2]++[.i .i64 x3])))),(1,.v (.c (.f 203))),(7,.v (.c (.i .i64 4))),(8,.v (.c (.i .i64 1))),(4,.v (.c (.i .i64 0)))],[]⟩|2=>⟨19,[(0,.v (.c (.s 4 ([.i .i64 x0]++[.i .i64 x1]++[.i .i64 x2]++[.i .i64 x3])))),(1,.v (.c (.f 203))),(7,.v (.c (.i .i64 4))),(8,.v (.c (.i .i64 2))),(4,.v (.c (.i .i64 0)))],[]⟩|_+3=>⟨19,[(0,.v (.c (.s 4 ([.i .i64 x0]++[.i .i64 x1]++[.i .i64 x2]++[.i .i64 x3])))),(1,.v (.c (.f 203))),(7,.v (.c (.i .i64 4))),(8,.v (.c (.i .i64 3))),(4,.v (.c (.i .i64 0)))],[]⟩) (fun i=>3-i) 0 (ap (bo rfl) trivial rfl) ?_
 intro i
 match i with
 |0=>
  show Dw _ _ ⟨19,[(0,.v (.c (.s 4 ([.i .i64 x0]++[.i .i64 x1]++[.i .i64 x2]++[.i .i64 x3])))),(1,.v (.c (.f 203))),(7,.v (.c (.i .i64 4))),(8,.v (.c (.i .i64 0))),(4,.v (.c (.i .i64 0)))],[]⟩ _
  refine gZ<|lr rfl<|ar (bc jI rfl rfl (by decide) rfl rfl rfl) ?_
  refine ar (bn yQ rfl rfl rfl) ?_
  refine ac rfl (cE f8 z0)<|qq rfl<|ar (er (r:=1) rfl rfl rfl rfl) ?_
  exact⟨1,ap (bo rfl) trivial rfl,by show 3-1<3-0;decide⟩
 |1=>
  show Dw _ _ ⟨19,[(0,.v (.c (.s 4 ([.i .i64 x0]++[.i .i64 x1]++[.i .i64 x2]++[.i .i64 x3])))),(1,.v (.c (.f 203))),(7,.v (.c (.i .i64 4))),(8,.v (.c (.i .i64 1))),(4,.v (.c (.i .i64 0)))],[]⟩ _
  refine gZ<|lr rfl<|ar (bc jI rfl rfl (by decide) rfl rfl rfl) ?_
  refine ar (bn yQ rfl rfl rfl) ?_
  refine ac rfl (cE f8 z1)<|qq rfl<|ar (er (r:=2) rfl rfl rfl rfl) ?_
  exact⟨2,ap (bo rfl) trivial rfl,by show 3-2<3-1;decide⟩
 |2=>
  show Dw _ _ ⟨19,[(0,.v (.c (.s 4 ([.i .i64 x0]++[.i .i64 x1]++[.i .i64 x2]++[.i .i64 x3])))),(1,.v (.c (.f 203))),(7,.v (.c (.i .i64 4))),(8,.v (.c (.i .i64 2))),(4,.v (.c (.i .i64 0)))],[]⟩ _
  refine gZ<|lr rfl<|ar (bc jI rfl rfl (by decide) rfl rfl rfl) ?_
  refine ar (bn yQ rfl rfl rfl) ?_
  refine ac rfl (cE f8 z2)<|qq rfl<|ar (er (r:=3) rfl rfl rfl rfl) ?_
  exact⟨3,ap (bo rfl) trivial rfl,by show 3-3<3-2;decide⟩
 |z+3=>
  show Dw _ _ ⟨19,[(0,.v (.c (.s 4 ([.i .i64 x0]++[.i .i64 x1]++[.i .i64 x2]++[.i .i64 x3])))),(1,.v (.c (.f 203))),(7,.v (.c (.i .i64 4))),(8,.v (.c (.i .i64 3))),(4,.v (.c (.i .i64 0)))],[]⟩ _
  refine gZ<|lr rfl<|ar (bc jI rfl rfl (by decide) rfl rfl rfl) ?_
  refine ar (bn yQ rfl rfl rfl) ?_
  refine ac rfl (cE f8 z3)<|lr rfl ?_
  exact ai (ak ag)
theorem Wo (z0:fb x0=false) (z1:fb x1=false) (z2:fb x2=false) (z3:fb x3=true):Ok Tryz.prog 202 [.c (.s 4 ([.i .i64 x0]++[.i .i64 x1]++[.i .i64 x2]++[.i .i64 x3])),.c (.f 203)] [.c (.b true)]:=by
 refine b9 rH rfl<|ac rfl (UH z0 z1 z2 z3) ?_
 exact ai (ak ag)
theorem Qv (z0:fb x0=false) (z1:fb x1=false) (z2:fb x2=false) (z3:fb x3=true):Ok Tryz.prog 111 [.c (.s 4 ([.i .i64 x0]++[.i .i64 x1]++[.i .i64 x2]++[.i .i64 x3]))] [.c (.b false)]:=by
 refine b9 rU rfl<|ac rfl (Wo z0 z1 z2 z3) ?_
 exact ai (ak ag)
theorem TG (z0:fb x0=false) (z1:fb x1=false) (z2:fb x2=false) (z3:fb x3=false):Ok Tryz.prog 288 [.c (.s 4 ([.i .i64 x0]++[.i .i64 x1]++[.i .i64 x2]++[.i .i64 x3])),.c (.f 203)] [.c (.i .i64 (-1))]:=by
 refine b9 rG rfl ?_
 refine DW.mk<|bv (ι:=Nat) (fun i=>match i with|0=>⟨19,[(0,.v (.c (.s 4 ([.i .i64 x0]++[.i .i64 x1]++[.i .i64 x2]++[.i .i64 x3])))),(1,.v (.c (.f 203))),(7,.v (.c (.i .i64 4))),(8,.v (.c (.i .i64 0))),(4,.v (.c (.i .i64 0)))],[]⟩|1=>⟨19,[(0,.v (.c (.s 4 ([.i .i64 x0]++[.i .i64 x1]++[.i .i64 x2]++[.i .i64 x3])))),(1,.v (.c (.f 203))),(7,.v (.c (.i .i64 4))),(8,.v (.c (.i .i64 1))),(4,.v (.c (.i .i64 0)))],[]⟩|2=>⟨19,[(0,.v (.c (.s 4 ([.i .i64 x0]++[.i .i64 x1]++[.i .i64 x2]++[.i .i64 x3])))),(1,.v (.c (.f 203))),(7,.v (.c (.i .i64 4))),(8,.v (.c (.i .i64 2))),(4,.v (.c (.i .i64 0)))],[]⟩|3=>⟨19,[(0,.v (.c (.s 4 ([.i .i64 x0]++[.i .i64 x1]++[.i .i64 x2]++[.i .i64 x3])))),(1,.v (.c (.f 203))),(7,.v (.c (.i .i64 4))),(8,.v (.c (.i .i64 3))),(4,.v (.c (.i .i64 0)))],[]⟩|_+4=>⟨19,[(0,.v (.c (.s 4 ([.i .i64 x0]++[.i .i64 x1]++[.i .i64 x2]++[.i .i64 x3])))),(1,.v (.c (.f 203))),(7,.v (.c (.i .i64 4))),(8,.v (.c (.i .i64 4))),(4,.v (.c (.i .i64 0)))],[]⟩) (fun i=>4-i) 0 (ap (bo rfl) trivial rfl) ?_
 intro i
 match i with
 |0=>
  show Dw _ _ ⟨19,[(0,.v (.c (.s 4 ([.i .i64 x0]++[.i .i64 x1]++[.i .i64 x2]++[.i .i64 x3])))),(1,.v (.c (.f 203))),(7,.v (.c (.i .i64 4))),(8,.v (.c (.i .i64 0))),(4,.v (.c (.i .i64 0)))],[]⟩ _
  refine gZ<|lr rfl<|ar (bc jI rfl rfl (by decide) rfl rfl rfl) ?_
  refine ar (bn yQ rfl rfl rfl) ?_
  refine ac rfl (cE f8 z0)<|qq rfl<|ar (er (r:=1) rfl rfl rfl rfl) ?_
  exact⟨1,ap (bo rfl) trivial rfl,by show 4-1<4-0;decide⟩
 |1=>
  show Dw _ _ ⟨19,[(0,.v (.c (.s 4 ([.i .i64 x0]++[.i .i64 x1]++[.i .i64 x2]++[.i .i64 x3])))),(1,.v (.c (.f 203))),(7,.v (.c (.i .i64 4))),(8,.v (.c (.i .i64 1))),(4,.v (.c (.i .i64 0)))],[]⟩ _
  refine gZ<|lr rfl<|ar (bc jI rfl rfl (by decide) rfl rfl rfl) ?_
  refine ar (bn yQ rfl rfl rfl) ?_
  refine ac rfl (cE f8 z1)<|qq rfl<|ar (er (r:=2) rfl rfl rfl rfl) ?_
  exact⟨2,ap (bo rfl) trivial rfl,by show 4-2<4-1;decide⟩
 |2=>
  show Dw _ _ ⟨19,[(0,.v (.c (.s 4 ([.i .i64 x0]++[.i .i64 x1]++[.i .i64 x2]++[.i .i64 x3])))),(1,.v (.c (.f 203))),(7,.v (.c (.i .i64 4))),(8,.v (.c (.i .i64 2))),(4,.v (.c (.i .i64 0)))],[]⟩ _
  refine gZ<|lr rfl<|ar (bc jI rfl rfl (by decide) rfl rfl rfl) ?_
  refine ar (bn yQ rfl rfl rfl) ?_
  refine ac rfl (cE f8 z2)<|qq rfl<|ar (er (r:=3) rfl rfl rfl rfl) ?_
  exact⟨3,ap (bo rfl) trivial rfl,by show 4-3<4-2;decide⟩
 |3=>
  show Dw _ _ ⟨19,[(0,.v (.c (.s 4 ([.i .i64 x0]++[.i .i64 x1]++[.i .i64 x2]++[.i .i64 x3])))),(1,.v (.c (.f 203))),(7,.v (.c (.i .i64 4))),(8,.v (.c (.i .i64 3))),(4,.v (.c (.i .i64 0)))],[]⟩ _
  refine gZ<|lr rfl<|ar (bc jI rfl rfl (by decide) rfl rfl rfl) ?_
  refine ar (bn yQ rfl rfl rfl) ?_
  refine ac rfl (cE f8 z3)<|qq rfl<|ar (er (r:=4) rfl rfl rfl rfl) ?_
  exact⟨4,ap (bo rfl) trivial rfl,by show 4-4<4-3;decide⟩
 |z+4=>
  show Dw _ _ ⟨19,[(0,.v (.c (.s 4 ([.i .i64 x0]++[.i .i64 x1]++[.i .i64 x2]++[.i .i64 x3])))),(1,.v (.c (.f 203))),(7,.v (.c (.i .i64 4))),(8,.v (.c (.i .i64 4))),(4,.v (.c (.i .i64 0)))],[]⟩ _
  refine gZ<|qq rfl ?_
  exact ai (ak ag)
theorem V2 (z0:fb x0=false) (z1:fb x1=false) (z2:fb x2=false) (z3:fb x3=false):Ok Tryz.prog 202 [.c (.s 4 ([.i .i64 x0]++[.i .i64 x1]++[.i .i64 x2]++[.i .i64 x3])),.c (.f 203)] [.c (.b false)]:=by
 refine b9 rH rfl<|ac rfl (TG z0 z1 z2 z3) ?_
 exact ai (ak ag)
theorem Qx (z0:fb x0=false) (z1:fb x1=false) (z2:fb x2=false) (z3:fb x3=false):Ok Tryz.prog 111 [.c (.s 4 ([.i .i64 x0]++[.i .i64 x1]++[.i .i64 x2]++[.i .i64 x3]))] [.c (.b true)]:=by
 refine b9 rU rfl<|ac rfl (V2 z0 z1 z2 z3) ?_
 exact ai (ak ag)
theorem ZQ:Ok Tryz.prog 111 [.c (.s 4 ([.i .i64 x0]++[.i .i64 x1]++[.i .i64 x2]++[.i .i64 x3]))] [.c (.b (!(fb x0||(fb x1||(fb x2||fb x3)))))]:=by
 cases z0:fb x0 with
 |true=>exact cE (OU z0) (by simp)
 |false=>
 cases z1:fb x1 with
 |true=>exact cE (Py z0 z1) (by simp)
 |false=>
 cases z2:fb x2 with
 |true=>exact cE (Q5 z0 z1 z2) (by simp)
 |false=>
 cases z3:fb x3 with
 |true=>exact cE (Qv z0 z1 z2 z3) (by simp)
 |false=>
 exact cE (Qx z0 z1 z2 z3) (by simp)
theorem pO {x y r:Int}(hr:0≤r):Ok Tryz.prog 196 [.a (([.i .i64 x]++[.i .i64 y])),.c (.i .i64 r)] [.c (.b (Jz x y r))]:=by
 refine b9 Tryz.func196 rfl ?_
 refine ar (bW (n:=2) (us:=[.i .i64 x]++[.i .i64 y]) D1 rfl rfl rfl (by decide) (by decide) rfl) ?_
 refine ac rfl (RL) ?_
 refine lg (bJ rfl) (fun c1 hb1=>?_)
 cases c1
 ·refine ar (bJ rfl)<|ai ?_
  unfold Jz
  rw[hb1]
  exact ak ag
 ·have g1:fb x=false∧fb y=false:=by simpa using hb1
  have g2:=xO g1.1
  have g3:=xO g1.2
  refine lg (bJ rfl) (fun c2 hb2=>?_)
  cases c2
  ·refine ai ?_
   unfold Jz
   rw[hb1,hb2]
   exact ak ag
  ·have g4:=of_decide_eq_true hb2
   refine ar (bF (x-r) (aS (by omega) (by omega)) rfl) ?_
   refine ar (bF (x+r) (aT (by omega) (by omega)) rfl) ?_
   refine ar (bF (y-r) (aS (by omega) (by omega)) rfl) ?_
   refine ar (bF (y+r) (aT (by omega) (by omega)) rfl) ?_
   refine ar (bW (n:=4) (us:=[.i .i64 (x-r)]++[.i .i64 (x+r)]++[.i .i64 (y-r)]++[.i .i64 (y+r)]) D1 rfl rfl rfl (by decide) (by decide) rfl) ?_
   refine ac rfl (ZQ)<|ai ?_
   unfold Jz
   rw[hb1,hb2]
   exact ak ag
theorem LH {x y r:Int}:Ok Tryz.prog 193 [.a (([.i .i64 x]++[.i .i64 y])),.c (.i .i64 r)] [.c (.b (pI x y r))]:=by
 refine b9 Tryz.func193 rfl ?_
 refine ac rfl (qW) ?_
 refine lg (bJ rfl) (fun c1 hb1=>?_)
 cases c1
 ·refine ac rfl (qW) ?_
  refine lg (bJ rfl) (fun c2 hb2=>?_)
  cases c2
  ·refine ac rfl (qW) ?_
   refine dS rfl (fun hc3=>?_) (fun hc3=>?_)
   ·refine ai ?_
    rw[show pI x y r=true from by unfold pI;simp[hb1,hb2,hc3]]
    exact ak ag
   ·have g1:=xO hb1
    have g2:=xO hb2
    have g3:=xO hc3
    refine ar (bF (x+r) (aT (by omega) (by omega)) rfl)<|ac rfl (qW) ?_
    refine lg (bJ rfl) (fun c4 hb4=>?_)
    cases c4
    ·refine ar (bF (x-r) (aS (by omega) (by omega)) rfl)<|ac rfl (qW) ?_
     refine lg (bJ rfl) (fun c5 hb5=>?_)
     cases c5
     ·refine ar (bF (y+r) (aT (by omega) (by omega)) rfl)<|ac rfl (qW) ?_
      refine lg (bJ rfl) (fun c6 hb6=>?_)
      cases c6
      ·refine ar (bF (y-r) (aS (by omega) (by omega)) rfl)<|ac rfl (qW)<|ai ?_
       rw[show pI x y r=fb (y-r) from by unfold pI;simp[hb1,hb2,hc3,hb4,hb5,hb6]]
       exact ak ag
      ·refine ai ?_
       rw[show pI x y r=true from by unfold pI;simp[hb1,hb2,hc3,hb4,hb5,hb6]]
       exact ak ag
     ·refine ar (bJ rfl)<|ai ?_
      rw[show pI x y r=true from by unfold pI;simp[hb1,hb2,hc3,hb4,hb5]]
      exact ak ag
    ·refine ar (bJ rfl)<|ar (bJ rfl)<|ai ?_
     rw[show pI x y r=true from by unfold pI;simp[hb1,hb2,hc3,hb4]]
     exact ak ag
  ·refine lr rfl<|ai ?_
   rw[show pI x y r=true from by unfold pI;simp[hb1,hb2]]
   exact ak ag
 ·refine ar (bJ rfl)<|lr rfl<|ai ?_
  rw[show pI x y r=true from by unfold pI;simp[hb1]]
  exact ak ag
theorem Tw (hx:Rz 300 x) (hy:Rz 300 y):Ok Tryz.prog 115 [dR x,dR y] [dR (x+y)]:=by
 refine b9 Tryz.func115 rfl<|ac rfl (TN (bk hx) (bk hy)) ?_
 exact ai (bj bU rfl ag)
theorem G4 (hx:Rz 300 x) (hy:Rz 300 y):Ok Tryz.prog 117 [dR x,dR y] [dR (x-y)]:=by
 refine b9 Tryz.func117 rfl<|ac rfl (Wh (bk hx) (bk hy)) ?_
 exact ai (bj bU rfl ag)
theorem xv (hx:Rz 300 x) (hy:Rz 300 y):Ok Tryz.prog 155 [dR x,dR y] [dR (x*y)]:=by
 refine b9 Tryz.func155 rfl<|ac rfl (Vo (bk hx) (bk hy)) ?_
 exact ai (bj bU rfl ag)
theorem BZ (hx:Rz 300 x):Ok Tryz.prog 63 [dR x] [.c (.b (j6 x))]:=by
 refine b9 Tryz.func63 rfl<|ac rfl (gN (by omega) (by omega))<|dF 12 [] ?_
 refine aI rfl (xx (bk hx) (bk (fu (dC (k:=3) (by decide) (by decide) (by decide)) (by decide)))) ?_
 refine D5 (bJ rfl) (fun c1 hb1=>?_)
 cases c1
 ·refine ai ?_
  rw[PQ hb1]
  exact ak ag
 ·refine aI rfl (LF (bk hx)) ?_
  refine aI rfl (xx (bk (Rz.neg hx)) (bk (fu (dC (k:=3) (by decide) (by decide) (by decide)) (by decide))))<|ai ?_
  rw[aab hb1]
  exact ak ag
theorem TU (hx:Rz 300 x):Ok Tryz.prog 109 [dR x] [.c (.b (j6 x))]:=by
 refine b9 Tryz.func109 rfl<|ac rfl (gN (by omega) (by omega))<|dF 12 [] ?_
 refine aI rfl (xx (bk hx) (bk (fu (dC (k:=3) (by decide) (by decide) (by decide)) (by decide)))) ?_
 refine D5 (bJ rfl) (fun c1 hb1=>?_)
 cases c1
 ·refine ai ?_
  rw[PQ hb1]
  exact ak ag
 ·refine aI rfl (LF (bk (fu (dC (k:=3) (by decide) (by decide) (by decide)) (by decide))))<|aI rfl (xx (bk hx) (bk (Rz.neg (fu (dC (k:=3) (by decide) (by decide) (by decide)) (by decide)))))<|ai ?_
  rw[VD hb1]
  exact ak ag
theorem PU {R r e:Rat}(hR:Rz 20 R) (hr:Rz 20 r) (he:Rz 20 e) (h0:((2:Int):Rat)*(e*r)≠0):Ok Tryz.prog 69 [dR R,dR r,dR e] [dR (hfQ R r e)]:=by
 refine b9 Tryz.func69 rfl<|dF 12 [] ?_
 refine aI rfl (xv (bk hR) (bk hR)) ?_
 refine aI rfl (xv (bk he) (bk he)) ?_
 refine aI rfl (G4 (bk (a8 hR hR)) (bk (a8 he he))) ?_
 refine aI rfl (xv (bk hr) (bk hr)) ?_
 refine aI rfl (G4 (bk (df (a8 hR hR) (a8 he he))) (bk (a8 hr hr)))<|dF 13 [8,999999] ?_
 refine aI rfl (gN (by omega) (by omega)) ?_
 refine aI rfl (xv (bk he) (bk hr)) ?_
 refine aI rfl (xv (bk (fu (dC (k:=3) (by decide) (by decide) (by decide)) (by decide))) (bk (a8 he hr)))<|aI rfl (VT (bk (df (df (a8 hR hR) (a8 he he)) (a8 hr hr))) (bk (a8 (fu (dC (k:=3) (by decide) (by decide) (by decide)) (by decide)) (a8 he hr))) h0) ?_
 refine DQ.mk<|gD (eQ bU rfl) rfl rfl rfl rfl<|dP ?_
 refine qq rfl ?_
 exact ai (bj bU rfl ag)
theorem VP (hc:Rz 20 c) (ha:1≤a) (ha2:a≤10000000) (ht:1≤t) (ht2:t≤10000000) (hs:1≤s) (hs2:s≤10000001):Ok Tryz.prog 120 [.c (.i .i64 a),.c (.i .i64 t),.c (.i .i64 s),dR c] [.c (.b (D4 a t s c))]:=by
 have hza:Sz 3 a:=dC (by decide) (by omega) (by omega)
 have hzt:Sz 3 t:=dC (by decide) (by omega) (by omega)
 have hzs:Sz 3 s:=dC (by decide) (by omega) (by omega)
 have hz:=ab8 ha ht hs ha2 ht2 hs2
 have h0:((2:Int):Rat)*((((a+s:Int)):Rat)*((t:Int):Rat))≠0:=by
  have:(0:Rat)<((2:Int):Rat)*((((a+s:Int)):Rat)*((t:Int):Rat)):=jh (by decide) (yh ha ht (by omega))
  grind
 refine b9 Tryz.func120 rfl<|ac rfl (gN (by omega) (by omega))<|ar (bF (a+t) (aT (by omega) (by omega)) rfl)<|ac rfl (gN (by omega) (by omega))<|ac rfl (gN (by omega) (by omega))<|ar (bF (a+s) (aT (by omega) (by omega)) rfl)<|ac rfl (gN (by omega) (by omega))<|ac rfl (kJ (PU (bk (fu (Sz.addm hza hzt) (by decide))) (bk (fu hzt (by decide))) (bk (fu (Sz.addm hza hzs) (by decide))) h0) (x':=cq a t s) rfl) ?_
 refine ac rfl (xx (OA) (bk (fu (dC (k:=3) (by decide) (by decide) (by decide)) (by decide)))) ?_
 refine dS rfl (fun hc1=>?_) (fun hc1=>?_)
 ·exact(Wl ha ht hs hc1).elim
 ·refine ac rfl (xv (OA) (OA))<|dF 14 [] ?_
  refine aI rfl (ts) ?_
  refine D5 (bJ rfl) (fun c2 hb2=>?_)
  cases c2
  ·refine ai ?_
   rw[abC hb2]
   exact ak ag
  ·refine aI rfl (Tw (bk (a8 (by assumption) (by assumption))) (bk (a8 (by assumption) (by assumption)))) ?_
   refine aI rfl (G4 (bk (ju (a8 (by assumption) (by assumption)) (a8 (by assumption) (by assumption)))) (bk (fu (dC (k:=3) (by decide) (by decide) (by decide)) (by decide)))) ?_
   refine aI rfl (xx (bk (df (ju (a8 (by assumption) (by assumption)) (a8 (by assumption) (by assumption))) (fu (dC (k:=3) (by decide) (by decide) (by decide)) (by decide)))) (bk hc))<|ai ?_
   rw[acs hb2]
   exact ak ag
theorem Pw (hc:Rz 20 c) (ha:1≤a) (ha2:a≤10000000) (ht:1≤t) (ht2:t≤10000000) (h0:0≤n) (h1:n≤t):Ok Tryz.prog 119 [.c (.i .i64 n),.c (.p ([.i .i64 a])),.c (.p ([.i .i64 t])),.c (.p (cR c))] [.c (.b (!D4 a t (n+1) c))]:=by
 refine b9 Tryz.func119 rfl<|ar (yf yQ rfl rfl rfl) ?_
 refine ar (yf yQ rfl rfl rfl) ?_
 refine ar (bF (n+1) (aT (by omega) (by omega)) rfl)<|ar (mH (us:=cR c) bU rfl rfl rfl rfl) ?_
 refine ac rfl (VP hc ha ha2 ht ht2 (by omega) (by omega)) ?_
 exact ai (ak ag)
theorem Ph {N r:Int}(hN0:0≤N) (hN:N≤1000000000) (hr0:0≤r) (hr1:r≤N) (hφ: ∀i:Int,0≤i→i<N→Ok Tryz.prog 119 [.c (.i .i64 i),.c (.p ([.i .i64 a])),.c (.p ([.i .i64 t])),.c (.p (cR c))] [.c (.b (decide (r≤i)))]):Ok Tryz.prog 118 [.c (.i .i64 N),.c (.k 119 [.p ([.i .i64 a]),.p ([.i .i64 t]),.p (cR c)])] [.c (.i .i64 r)]:=by
 refine b9 Tryz.func118 rfl ?_
 refine DW.mk<|bv (ι:={p:Int×Int // 0≤p.1∧p.1≤r∧r≤p.2∧p.2≤N}) (fun i=>⟨26,[(0,.v (.c (.i .i64 N))),(1,.v (.c (.k 119 [.p ([.i .i64 a]),.p ([.i .i64 t]),.p (cR c)]))),(5,.v (.c (.i .i64 i.1.1))),(6,.v (.c (.i .i64 i.1.2)))],[]⟩) (fun i=>(i.1.2-i.1.1).toNat) ⟨(0,N),by show(0:Int)≤0;omega,hr0,hr1,by show N≤N;omega⟩ (ap (bo rfl) trivial rfl) ?_
 rintro⟨⟨lo,hi⟩,g1,g2,g3,g4⟩
 replace g1:0≤lo:=g1
 replace g2:lo≤r:=g2
 replace g3:r≤hi:=g3
 replace g4:hi≤N:=g4
 dsimp only
 refine gZ ?_
 refine dS rfl (fun hc1=>?_) (fun hc1=>?_)
 ·have hlt:lo<hi:=of_decide_eq_true hc1
  refine ar (bF (lo+hi) (aT (by omega) (by omega)) rfl)<|ar (b6 (r:=lo+hi) Ta FF rfl (iE (by omega) (by omega)) rfl) ?_
  refine ar (S0 (r:=(lo+hi)/2) rfl rfl (by decide) OH rfl) ?_
  refine ar (b6 (r:=(lo+hi)/2) FF Ta rfl (qO (by omega) (by omega)) rfl) ?_
  refine ar (pN rfl rfl (hφ _ (by omega) (by omega)) rfl) ?_
  refine dS rfl (fun hc2=>?_) (fun hc2=>?_)
  ·have hm: ¬r≤(lo+hi)/2:=by simpa using hc2
   refine ar (bF (((lo+hi)/2)+1) (aT (by omega) (by omega)) rfl) ?_
   exact⟨⟨((lo+hi)/2+1,hi),by show 0≤(lo+hi)/2+1;omega,by show(lo+hi)/2+1≤r;omega,g3,g4⟩,ap (bo rfl) trivial rfl,by show(hi-((lo+hi)/2+1)).toNat<(hi-lo).toNat;omega⟩
  ·have hm:r≤(lo+hi)/2:=by simpa using hc2
   exact⟨⟨(lo,(lo+hi)/2),g1,g2,by show r≤(lo+hi)/2;omega,by show(lo+hi)/2≤N;omega⟩,ap (bo rfl) trivial rfl,by show((lo+hi)/2-lo).toNat<(hi-lo).toNat;omega⟩
 ·have hlo:r=lo:=by have:=of_decide_eq_false hc1;omega
  refine ai ?_
  rw[hlo]
  exact ak ag
theorem Rm (hc:Rz 20 c) (ha:1≤a) (ha2:a≤10000000) (ht:1≤t) (ht2:t≤10000000) {r:Int}(hcos:j6 c=true) (hr0:0≤r) (hr1:r≤t+1) (hφ: ∀i:Int,0≤i→i<t+1→D4 a t (i+1) c=decide (i<r)):Ok Tryz.prog 39 [.c (.i .i64 a),.c (.i .i64 t),dR c] [.c (.i .i64 r),.c (.i .i64 0)]:=by
 refine eo Tryz.func39 33 [.tmp 6,.tmp 7] rfl<|ae<|ah<|ae<|ae<|bq<|bH 1<|aO (aJ (c:=false) (dG rfl) (decide_eq_false (by omega))) ?_
 refine bH 2<|aO (aJ (c:=false) (dG rfl) (decide_eq_false (by omega))) ?_
 refine bH 3<|aO (aJ (c:=false) (dG rfl) (decide_eq_false (by omega))) ?_
 refine bH 3<|aO (aJ (c:=false) (dG rfl) (decide_eq_false (by omega))) ?_
 refine bH 3<|aO (dg rfl (cE (BZ (bk hc)) hcos))<|gi<|bh rfl<|aA<|ae<|kW (t:=3) (k:=3) rfl rfl<|kW (t:=4) (k:=4) rfl rfl<|kW (t:=5) (k:=5) rfl rfl<|ah<|ar (yf yQ rfl rfl rfl) ?_
 refine ar (bF (t+1) (aT (by omega) (by omega)) rfl)<|ar (pT (us:=[.p ([.i .i64 a]),.p ([.i .i64 t]),.p (cR c)]) rfl rfl) ?_
 refine ac rfl (Ph (by omega) (by omega) hr0 hr1 (fun i g1 g2=>cE (Pw hc ha ha2 ht ht2 g1 (by omega)) (by rw[hφ i g1 g2];exact M9 i r)))<|ae<|ah<|ba ?_
 exact ai (ak (ak ag))
theorem VL (hc:Rz 20 c) (ha:1≤a) (ha2:a≤10000000) (ht:1≤t) (ht2:t≤10000000) (hcos:j6 c=true) (hs:1≤s) (hs2:s≤t+1):Ok Tryz.prog 112 [.c (.i .i64 s),.c (.i .i64 a),.c (.i .i64 t),dR c] [.c (.b (D4 a t s c))]:=by
 obtain⟨r,hr0,hr1,hφ⟩:=Tp c ha ht
 refine b9 Tryz.func112 rfl ?_
 refine ac rfl (Rm hc ha ha2 ht ht2 hcos hr0 hr1 hφ) ?_
 refine ar (bJ rfl) ?_
 rw[show D4 a t s c=decide (s≤r) from by
    have h9:=hφ (s-1) (by omega) (by omega)
    rw[Int.sub_add_cancel] at h9
    rw[h9]
    exact decide_eq_decide.2 (by omega)]
 exact ai (ak ag)
theorem z9 (hx:Rz 300 x) (hy:Rz 300 y) (h0:y≠0):Ok Tryz.prog 114 [dR x,dR y] [dR (x/y)]:=by
 refine b9 Tryz.func114 rfl<|ac rfl (Vd (bk hx) (bk hy) h0) ?_
 exact ai (bj bU rfl ag)
theorem gF (hx:Rz 300 x):Ok Tryz.prog 97 [dR x] [dR (x*x)]:=by
 refine b9 Tryz.func97 rfl<|ac rfl (UY (bk hx) (bk hx)) ?_
 exact ai (bj bU rfl ag)
theorem B4 (hx:Rz 6000000 x) (hy:Rz 6000000 y):Ok Tryz.prog 115 [dR x,dR y] [dR (x+y)]:=by
 refine b9 Tryz.func115 rfl<|ac rfl (jg (bk hx) (bk hy)) ?_
 exact ai (bj bU rfl ag)
theorem wy (hx:Rz 6000000 x) (hy:Rz 6000000 y):Ok Tryz.prog 117 [dR x,dR y] [dR (x-y)]:=by
 refine b9 Tryz.func117 rfl<|ac rfl (fj (bk hx) (bk hy)) ?_
 exact ai (bj bU rfl ag)
theorem oc (hx:Rz 6000000 x) (hy:Rz 6000000 y):Ok Tryz.prog 155 [dR x,dR y] [dR (x*y)]:=by
 refine b9 Tryz.func155 rfl<|ac rfl (cT (bk hx) (bk hy)) ?_
 exact ai (bj bU rfl ag)
theorem LL {A B C D M N xa xb ya yb:Rat}(hA:Rz 400000 A) (hB:Rz 400000 B) (hC:Rz 400000 C) (hD:Rz 400000 D) (hxa:Rz 400000 xa) (hxb:Rz 400000 xb) (hya:Rz 400000 ya) (hyb:Rz 400000 yb) (n0: -1≤n) (n1:n≤1):Ok Tryz.prog 274 [.a ((cR A++cR B++cR C++cR D++cR M++cR N)),.a ((cR xa++cR xb)),.a ((cR ya++cR yb)),.c (.i .i64 n)] [.a ((cR (A+((n:Int):Rat)*(xa*ya))++cR (B+((n:Int):Rat)*(xb*ya))++cR (C+((n:Int):Rat)*(xa*yb))++cR (D+((n:Int):Rat)*(xb*yb))++cR M++cR N))]:=by
 have hn:Rz 3 ((n:Int):Rat):=iI (by omega) (by omega)
 have hn2:Rz 6000000 ((n:Int):Rat):=hn.m_
 have k0:Rz 6000000 (xa*ya):=(hxa.mul hya).m_
 have j0:Rz 6000000 (((n:Int):Rat)*(xa*ya)):=(hn.mul (hxa.mul hya)).m_
 have k1:Rz 6000000 (xb*ya):=(hxb.mul hya).m_
 have j1:Rz 6000000 (((n:Int):Rat)*(xb*ya)):=(hn.mul (hxb.mul hya)).m_
 have k2:Rz 6000000 (xa*yb):=(hxa.mul hyb).m_
 have j2:Rz 6000000 (((n:Int):Rat)*(xa*yb)):=(hn.mul (hxa.mul hyb)).m_
 have k3:Rz 6000000 (xb*yb):=(hxb.mul hyb).m_
 have j3:Rz 6000000 (((n:Int):Rat)*(xb*yb)):=(hn.mul (hxb.mul hyb)).m_
 refine b9 Tryz.func274 rfl<|ac rfl (ig (by omega) (by omega))<|dF 11 [] ?_
 refine aI rfl (oc (by first|assumption|exact fC hxa (by decide)) (by first|assumption|exact fC hya (by decide))) ?_
 refine aI rfl (oc (by first|assumption|exact fC (fu (by assumption) (by decide)) (by decide)) (by first|assumption|exact fC (a8 hxa hya) (by decide))) ?_
 refine aI rfl (B4 (by first|assumption|exact fC hA (by decide)) (by first|assumption|exact fC (a8 (fu (by assumption) (by decide)) (a8 hxa hya)) (by decide))) ?_
 refine r9 (br (us:=(cR (A+((((n:Int):Rat))*(xa*ya)))++cR B++cR C++cR D++cR M++cR N)) bU rfl rfl rfl rfl (gj rfl) rfl rfl) ?_
 refine dF 11 [] ?_
 refine aI rfl (oc (by first|assumption|exact fC hxb (by decide)) (by first|assumption|exact fC hya (by decide))) ?_
 refine aI rfl (oc (by first|assumption|exact fC (fu (by assumption) (by decide)) (by decide)) (by first|assumption|exact fC (a8 hxb hya) (by decide))) ?_
 refine aI rfl (B4 (by first|assumption|exact fC hB (by decide)) (by first|assumption|exact fC (a8 (fu (by assumption) (by decide)) (a8 hxb hya)) (by decide))) ?_
 refine r9 (br (us:=(cR (A+((((n:Int):Rat))*(xa*ya)))++cR (B+((((n:Int):Rat))*(xb*ya)))++cR C++cR D++cR M++cR N)) bU rfl rfl rfl rfl (gj rfl) rfl rfl) ?_
 refine dF 11 [] ?_
 refine aI rfl (oc (by first|assumption|exact fC hxa (by decide)) (by first|assumption|exact fC hyb (by decide))) ?_
 refine aI rfl (oc (by first|assumption|exact fC (fu (by assumption) (by decide)) (by decide)) (by first|assumption|exact fC (a8 hxa hyb) (by decide))) ?_
 refine aI rfl (B4 (by first|assumption|exact fC hC (by decide)) (by first|assumption|exact fC (a8 (fu (by assumption) (by decide)) (a8 hxa hyb)) (by decide))) ?_
 refine r9 (br (us:=(cR (A+((((n:Int):Rat))*(xa*ya)))++cR (B+((((n:Int):Rat))*(xb*ya)))++cR (C+((((n:Int):Rat))*(xa*yb)))++cR D++cR M++cR N)) bU rfl rfl rfl rfl (gj rfl) rfl rfl) ?_
 refine dF 11 [] ?_
 refine aI rfl (oc (by first|assumption|exact fC hxb (by decide)) (by first|assumption|exact fC hyb (by decide))) ?_
 refine aI rfl (oc (by first|assumption|exact fC (fu (by assumption) (by decide)) (by decide)) (by first|assumption|exact fC (a8 hxb hyb) (by decide))) ?_
 refine aI rfl (B4 (by first|assumption|exact fC hD (by decide)) (by first|assumption|exact fC (a8 (fu (by assumption) (by decide)) (a8 hxb hyb)) (by decide))) ?_
 refine r9 (br (us:=(cR (A+((((n:Int):Rat))*(xa*ya)))++cR (B+((((n:Int):Rat))*(xb*ya)))++cR (C+((((n:Int):Rat))*(xa*yb)))++cR (D+((((n:Int):Rat))*(xb*yb)))++cR M++cR N)) bU rfl rfl rfl rfl (gj rfl) rfl rfl) ?_
 exact ai (bj QP rfl ag)
theorem Ws (hk:GK k) (hp:GP p) (hq:GP q) (hm:Rz 10 m):Ok Tryz.prog 154 [.a (bT k),.a (aw p),.a (aw q),dR m] [.c (.i .i64 (Nj k p q)),.c (.i .i64 (Il k p q m))]:=by
 obtain⟨s1,s2,s3,s4⟩:=RM hk hp hq
 obtain⟨c1,c2,c3,c4⟩:=abV hk hp hq
 obtain⟨d1,d2,d3,d4⟩:=acN hk hp hq hm
 have z0:Rz 400000 (0:Rat):=dW (by decide)
 have t0:Rz 400000 (p.a1-k.x):=s1.m_
 have t1:Rz 400000 (p.a2-k.y):=s2.m_
 have t2:Rz 400000 (q.a1-k.x):=s3.m_
 have t3:Rz 400000 (q.a2-k.y):=s4.m_
 have t4:Rz 400000 (p.b1):=hp.b1.m_
 have t5:Rz 400000 (p.b2):=hp.b2.m_
 have t6:Rz 400000 (q.b1):=hq.b1.m_
 have t7:Rz 400000 (q.b2):=hq.b2.m_
 have u0:Rz 400000 ((p.a1-k.x)*(q.a1-k.x)):=(s1.mul s3).m_
 have u1:Rz 400000 (p.b1*(q.a1-k.x)):=(hp.b1.mul s3).m_
 have u2:Rz 400000 ((p.a1-k.x)*q.b1):=(s1.mul hq.b1).m_
 have u3:Rz 400000 (p.b1*q.b1):=(hp.b1.mul hq.b1).m_
 have u4:Rz 400000 ((p.a1-k.x)*(q.a2-k.y)):=(s1.mul s4).m_
 have u5:Rz 400000 (p.b1*(q.a2-k.y)):=(hp.b1.mul s4).m_
 have u6:Rz 400000 ((p.a1-k.x)*q.b2):=(s1.mul hq.b2).m_
 have u7:Rz 400000 (p.b1*q.b2):=(hp.b1.mul hq.b2).m_
 have e1:Rz 6000000 (p.a1-k.x):=s1.m_
 have dA0:Rz 6000000 ((p.a1-k.x)*(q.a1-k.x)+(p.a2-k.y)*(q.a2-k.y)):=((s1.mul s3).add (s2.mul s4)).m_
 have hm6:Rz 6000000 m:=hm.m_
 refine eo Tryz.func154 86 [.tmp 8,.tmp 9] rfl<|ae<|ah<|ae<|cX 20 [10,11,999999] ?_
 refine aI rfl (wy (bk (hp.a1)) (bk (hk.x))) ?_
 refine aq (aF (us:=(cR (p.a1-k.x)++cR p.b1)) MK I6 rfl rfl rfl) ?_
 refine aI rfl (wy (bk (hp.a2)) (bk (hk.y))) ?_
 refine aq (aF (us:=(cR (p.a2-k.y)++cR p.b2)) MK I6 rfl rfl rfl) ?_
 refine DQ.mk<|gD (eQ Lm rfl) rfl rfl rfl rfl<|dP ?_
 refine DQ.mk<|gD (eQ Lm rfl) rfl rfl rfl rfl<|dP ?_
 refine ae<|cX 20 [12,13,999999] ?_
 refine aI rfl (wy (bk (hq.a1)) (bk (hk.x))) ?_
 refine aq (aF (us:=(cR (q.a1-k.x)++cR q.b1)) MK I6 rfl rfl rfl) ?_
 refine aI rfl (wy (bk (hq.a2)) (bk (hk.y))) ?_
 refine aq (aF (us:=(cR (q.a2-k.y)++cR q.b2)) MK I6 rfl rfl rfl) ?_
 refine DQ.mk<|gD (eQ Lm rfl) rfl rfl rfl rfl<|dP ?_
 refine DQ.mk<|gD (eQ Lm rfl) rfl rfl rfl rfl<|dP ?_
 refine ae<|ah<|ae<|ah<|ac rfl (kJ (ig (by decide) (by decide)) (show((0:Int):Rat)=0 from rfl))<|ae<|bq<|bH 5<|aO (nt (cR p.c) bU rfl)<|bH 1<|aO (nt (cR q.c) bU rfl)<|aO (aF (us:=(cR 0++cR 0++cR 0++cR 0++cR p.c++cR q.c)) Po I3 rfl rfl rfl) ?_
 refine rQ (jc I3 rfl) rfl<|gi<|ae<|cX 10 [] ?_
 refine aI rfl (Gr (LL (by first|assumption|(exact fC (by assumption) (by decide))) (by first|assumption|(exact fC (by assumption) (by decide))) (by first|assumption|(exact fC (by assumption) (by decide))) (by first|assumption|(exact fC (by assumption) (by decide))) (by first|assumption|(exact fC (by assumption) (by decide))) (by first|assumption|(exact fC (by assumption) (by decide))) (by first|assumption|(exact fC (by assumption) (by decide))) (by first|assumption|(exact fC (by assumption) (by decide))) (by decide) (by decide)) (vK _) (vK _) (vK _) (vK _)) ?_
 refine aI rfl (Gr (LL (by first|assumption|(exact fC (by assumption) (by decide))) (by first|assumption|(exact fC (by assumption) (by decide))) (by first|assumption|(exact fC (by assumption) (by decide))) (by first|assumption|(exact fC (by assumption) (by decide))) (by first|assumption|(exact fC (by assumption) (by decide))) (by first|assumption|(exact fC (by assumption) (by decide))) (by first|assumption|(exact fC (by assumption) (by decide))) (by first|assumption|(exact fC (by assumption) (by decide))) (by decide) (by decide)) (F2 _ _) (F2 _ _) (F2 _ _) (F2 _ _)) ?_
 refine ae<|ah ?_
 refine ac rfl (wy (bk (ju (a8 (df (hp.a1) (hk.x)) (df (hq.a1) (hk.x))) (a8 (df (hp.a2) (hk.y)) (df (hq.a2) (hk.y))))) (OA)) ?_
 refine r9 (br (us:=(cR ((((p.a1-k.x)*(q.a1-k.x))+((p.a2-k.y)*(q.a2-k.y)))-m)++cR ((p.b1*(q.a1-k.x))+(p.b2*(q.a2-k.y)))++cR (((p.a1-k.x)*q.b1)+((p.a2-k.y)*q.b2))++cR ((p.b1*q.b1)+(p.b2*q.b2))++cR p.c++cR q.c)) bU rfl rfl rfl rfl (gj rfl) rfl rfl) ?_
 refine ae<|cX 14 [] ?_
 refine aI rfl (Gr (LL (by first|assumption|(exact fC (by assumption) (by decide))) (by first|assumption|(exact fC (by assumption) (by decide))) (by first|assumption|(exact fC (by assumption) (by decide))) (by first|assumption|(exact fC (by assumption) (by decide))) (by first|assumption|(exact fC (by assumption) (by decide))) (by first|assumption|(exact fC (by assumption) (by decide))) (by first|assumption|(exact fC (by assumption) (by decide))) (by first|assumption|(exact fC (by assumption) (by decide))) (by decide) (by decide)) (vK _) (vK _) (vK _) (vK _)) ?_
 refine aI rfl (Gr (LL (by first|assumption|(exact fC (by assumption) (by decide))) (by first|assumption|(exact fC (by assumption) (by decide))) (by first|assumption|(exact fC (by assumption) (by decide))) (by first|assumption|(exact fC (by assumption) (by decide))) (by first|assumption|(exact fC (by assumption) (by decide))) (by first|assumption|(exact fC (by assumption) (by decide))) (by first|assumption|(exact fC (by assumption) (by decide))) (by first|assumption|(exact fC (by assumption) (by decide))) (by decide) (by decide)) (FW _ _) (FW _ _) (FW _ _) (FW _ _)) ?_
 refine aI rfl (cb (xC (c1.m_) (c2.m_) (c3.m_) (c4.m_) (hp.c.m_) (hq.c.m_)) (CS _ _ _ _ _ _)) ?_
 refine aI rfl (cb (xC (d1.m_) (d2.m_) (d3.m_) (d4.m_) (hp.c.m_) (hq.c.m_)) (CS _ _ _ _ _ _))<|ba ?_
 exact ai (ak (ak ag))
theorem ac0 {l:Ln}(_hl:GL l) (_hx:Rz 3 x):Ok Tryz.prog 64 [.a (([.b false]++oW l++w9++[.b false]++aw p++aw q)),dR x] [.c (.i .i64 0),.c (.i .i64 1)]:=by
 refine b9 Tryz.func64 rfl ?_
 refine ar (lp sK rfl) ?_
 refine ar (bJ rfl) ?_
 refine lr rfl ?_
 exact ai (ak (ak ag))
theorem JU (hk:GK k) (hp:GP p) (hq:GP q) (hx:Rz 3 x):Ok Tryz.prog 64 [.a (([.b true]++rx++bT k++[.b true]++aw p++aw q)),dR x] [.c (.i .i64 (Ea true k p q x)),.c (.i .i64 (Oy true k p q x))]:=by
 have hm:Rz 10 (x*k.q):=(hx.mul hk.q).m_
 have x6:Rz 6000000 x:=hx.m_
 have q6:Rz 6000000 k.q:=hk.q.m_
 have v1:=By hp.v
 have v2:=By hq.v
 have r1:Nj k q p=Eb true k p q:=aan v1 v2
 have r2:Il k q p (x*k.q)=Il k p q (x*k.q):=aaf v1 v2
 refine b9 Tryz.func64 rfl ?_
 refine ar (lp sK rfl) ?_
 refine ar (bJ rfl) ?_
 refine ac rfl (BZ (hx.m_)) ?_
 refine dS rfl (fun hc1=>?_) (fun hc1=>?_)
 ·have n1:j6 x=false:=by simpa using hc1
  refine ai ?_
  rw[(Gk n1:Ea true k p q x=0∧_).1,(Gk n1:Ea true k p q x=0∧_).2]
  exact ak (ak ag)
 ·have n1:j6 x=true:=by simpa using hc1
  refine dF 8 [6,7,999999] ?_
  refine aq (fv (aw p) cn rfl (by kernel_rfl)) ?_
  refine aq (fv (aw q) cn rfl (by kernel_rfl)) ?_
  refine DQ.mk<|gD (eQ cn rfl) rfl rfl rfl rfl<|dP ?_
  refine DQ.mk<|gD (eQ cn rfl) rfl rfl rfl rfl<|dP ?_
  refine ar (lp sK rfl)<|lr rfl ?_
  refine dF 15 [] ?_
  refine aq (fv (bT k) AX rfl (by kernel_rfl)) ?_
  refine aq (fv (cR k.q) bU rfl (by kernel_rfl)) ?_
  refine aI rfl (oc (bk hx) (bk (hk.q))) ?_
  refine aI rfl (Ws hk hq hp hm) ?_
  refine dS rfl (fun hc2=>?_) (fun hc2=>?_)
  ·have n2:decide (Eb true k p q≥0)=false:=by have n3:=of_decide_eq_true hc2;exact decide_eq_false (by rw[←r1];show ¬(_:Int)≥0;omega)
   refine ai ?_
   rw[(Gc n2:Ea true k p q x=0∧_).1,(Gc n2:Ea true k p q x=0∧_).2]
   exact ak (ak ag)
  ·have n2:decide (Eb true k p q≥0)=true:=by have n3:=of_decide_eq_false hc2;exact decide_eq_true (by rw[←r1];omega)
   refine ar (il (r:= -Il k q p (x*k.q)) rfl (IH (QB _ _ _ _)) rfl) ?_
   refine ai ?_
   rw[(Gw n1 n2).1,(Gw n1 n2).2,←r2]
   exact ak (ak ag)
theorem HJ (hk:GK k) (hp:GP p) (hq:GP q) (hx:Rz 3 x):Ok Tryz.prog 64 [.a (([.b true]++rx++bT k++[.b false]++aw p++aw q)),dR x] [.c (.i .i64 (Ea false k p q x)),.c (.i .i64 (Oy false k p q x))]:=by
 have hm:Rz 10 (x*k.q):=(hx.mul hk.q).m_
 have x6:Rz 6000000 x:=hx.m_
 have q6:Rz 6000000 k.q:=hk.q.m_
 refine b9 Tryz.func64 rfl ?_
 refine ar (lp sK rfl) ?_
 refine ar (bJ rfl) ?_
 refine ac rfl (BZ (hx.m_)) ?_
 refine dS rfl (fun hc1=>?_) (fun hc1=>?_)
 ·have n1:j6 x=false:=by simpa using hc1
  refine ai ?_
  rw[(Gk n1:Ea false k p q x=0∧_).1,(Gk n1:Ea false k p q x=0∧_).2]
  exact ak (ak ag)
 ·have n1:j6 x=true:=by simpa using hc1
  refine dF 8 [6,7,999999] ?_
  refine aq (fv (aw p) cn rfl (by kernel_rfl)) ?_
  refine aq (fv (aw q) cn rfl (by kernel_rfl)) ?_
  refine DQ.mk<|gD (eQ cn rfl) rfl rfl rfl rfl<|dP ?_
  refine DQ.mk<|gD (eQ cn rfl) rfl rfl rfl rfl<|dP ?_
  refine ar (lp sK rfl)<|qq rfl<|dF 15 [] ?_
  refine aq (fv (bT k) AX rfl (by kernel_rfl)) ?_
  refine aq (fv (cR k.q) bU rfl (by kernel_rfl)) ?_
  refine aI rfl (oc (bk hx) (bk (hk.q))) ?_
  refine aI rfl (Ws hk hp hq hm) ?_
  refine dS rfl (fun hc2=>?_) (fun hc2=>?_)
  ·have n2:decide (Eb false k p q≥0)=false:=by have n3:=of_decide_eq_true hc2;exact decide_eq_false (by show ¬Nj k p q≥0;show ¬(_:Int)≥0;omega)
   refine ai ?_
   rw[(Gc n2:Ea false k p q x=0∧_).1,(Gc n2:Ea false k p q x=0∧_).2]
   exact ak (ak ag)
  ·have n2:decide (Eb false k p q≥0)=true:=by have n3:=of_decide_eq_false hc2;exact decide_eq_true (by show Nj k p q≥0;omega)
   refine ar (il (r:= -Il k p q (x*k.q)) rfl (IH (QB _ _ _ _)) rfl) ?_
   refine ai ?_
   rw[(Gw n1 n2).1,(Gw n1 n2).2]
   exact ak (ak ag)
theorem acp {v:Cv}(hv:v.good) (hx:Rz 3 x):Ok Tryz.prog 64 [.a (aZ v),dR x] [.c (.i .i64 (UD v x)),.c (.i .i64 (Vb v x))]:=by
 cases v with
 |seg l p q=>exact ac0 hv.1 hx
 |arc k w p q=>
  cases w with
  |true=>exact JU hv.1 hv.2.1 hv.2.2 hx
  |false=>exact HJ hv.1 hv.2.1 hv.2.2 hx
section
variable {a1 b1 a2 b2 C:Re}(n1:aB (a1*a1+b1*b1-C)=0) (n2:aB (a2*a2+b2*b2-C)=0)
include n1 n2
theorem Ga (h:aB (a1+a2)=1):aB (a1*b2-b1*a2)=aB (b2-b1):=by
 have w:aB ((a1+a2)*(a1+a2)+(b1+b2)*(b1+b2))=1:=ms (Jc h h) (DE _)
 have e:=dm (x:=(a1*b2-b1*a2)*(a1+a2)+(a1*b2-b1*a2)*(a1+a2)) (y:=(b2-b1)*((a1+a2)*(a1+a2)+(b1+b2)*(b1+b2)))
  (z:=(b1+b2)*((a1*a1+b1*b1-C)-(a2*a2+b2*b2-C))) (aM fun n=>by simp only[aD,aj,aE];grind) (dA _ (iX n1 n2))
 rw[jL,aY,aY,h,w,sv,sv] at e
 exact e
theorem aap (h1:0≤aB a1) (h2:0≤aB a2) (hb:0≤aB (b2-b1)):0≤aB (a1*b2-b1*a2):=by
 have:=fP h1 h2
 have c:=bg (a1+a2)
 by_cases h:aB (a1+a2)=1
 ·rw[Ga n1 n2 h];exact hb
 ·have z1:aB a1=0:=by
   refine fe fun q=>h ?_
   exact ms (by have:=bg a1;omega) h2
  have z2:aB a2=0:=by
   refine fe fun q=>h ?_
   exact Eu h1 (by have:=bg a2;omega)
  rw[show a1*b2-b1*a2=b2*a1-b1*a2 from aM fun n=>by simp only[aj,aE];grind,iX (dA _ z1) (dA _ z2)];decide
theorem ZO {K c:Re}(hK:0≤aB K) (h1:0≤aB (a1-K)) (h2:0≤aB (a2-K)) (hc:0≤aB (K*K+K*K-C-c)):0≤aB (a1*a2+b1*b2-c):=by
 have p1:0≤aB ((a1+a2-(K+K))*(a1+a2+(K+K))):=by
  refine Dr ?_ ?_
  ·rw[show a1+a2-(K+K)=(a1-K)+(a2-K) from aM fun n=>by simp only[aD,aj];grind];exact fP h1 h2
  ·rw[show a1+a2+(K+K)=((a1-K)+(a2-K))+((K+K)+(K+K)) from aM fun n=>by simp only[aD,aj];grind];exact fP (fP h1 h2) (fP (fP hK hK) (fP hK hK))
 have p2:=fP (fP p1 (DE (b1+b2))) (fP hc hc)
 rw[dm (y:=(a1*a2+b1*b2-c)+(a1*a2+b1*b2-c)) (z:=(a1*a1+b1*b1-C)+(a2*a2+b2*b2-C)) (aM fun n=>by simp only[aD,aj,aE];grind) (nB n1 n2),jL] at p2
 exact p2
end
def BG (u v x y:Re):Re:=u*x+v*y
def CA (u v x y:Re):Re:=u*y-v*x
section
variable (u v x1 y1 x2 y2:Re)
theorem C1:BG u v x1 y1*CA u v x2 y2-CA u v x1 y1*BG u v x2 y2=(u*u+v*v)*(x1*y2-y1*x2):=aM fun n=>by simp only[BG,CA,aD,aj,aE];grind
theorem OV:BG u v x1 y1*BG u v x2 y2+CA u v x1 y1*CA u v x2 y2=(u*u+v*v)*(x1*x2+y1*y2):=aM fun n=>by simp only[BG,CA,aD,aj,aE];grind
theorem aaW {q:Re}(h:aB (x1*x1+y1*y1-q)=0):aB (BG u v x1 y1*BG u v x1 y1+CA u v x1 y1*CA u v x1 y1-(u*u+v*v)*q)=0:=by
 rw[show BG u v x1 y1*BG u v x1 y1+CA u v x1 y1*CA u v x1 y1-(u*u+v*v)*q=(u*u+v*v)*(x1*x1+y1*y1-q) from aM fun n=>by simp only[BG,CA,aD,aj,aE];grind]
 exact dA _ h
end
def uX (k D:Ci):Rat:=k.x-D.x
def uY (k D:Ci):Rat:=k.y-D.y
def kK (k D:Ci):Rat:=D.q-k.q-(uX k D*uX k D+uY k D*uY k D)
def fA (k D:Ci) (p:Pt):Re:=BG (Re.of (uX k D)) (Re.of (uY k D)) (rX k p) (rY k p)
def fB (k D:Ci) (p:Pt):Re:=CA (Re.of (uX k D)) (Re.of (uY k D)) (rX k p) (rY k p)
structure OnR (k:Ci) (p:Pt):Prop where
 v:BE p.b1 p.b2 p.c=true
 n:aB (rX k p*rX k p+rY k p*rY k p-Re.of k.q)=0
theorem OnK.r (h:OnK k p):OnR k p:=⟨h.1.v,aa7 h⟩
theorem yd (op:OnR k p):dE D p=aB (Re.of (kK k D)-(fA k D p+fA k D p)):=by
 rw[Ce op.v,←bG]
 exact dm (z:= -(rX k p*rX k p+rY k p*rY k p-Re.of k.q)) (aM fun n=>by simp only[xA,fA,BG,rX,rY,uX,uY,kK,aD,aj,aE,aV,aK];grind) (my op.n)
section
variable {l:Ln}{k:Ci}{x1 y1 x2 y2:Re}(n1:aB (x1*x1+y1*y1-Re.of k.q)=0) (n2:aB (x2*x2+y2*y2-Re.of k.q)=0)
def hL (l:Ln) (k:Ci) (x y:Re):Re:=Re.of l.a*x+Re.of l.b*y+Re.of (iU l k.x k.y)
include n1 n2
theorem Ni (hs:aB (hL l k x1 y1)*aB (hL l k x2 y2)= -1):0<cV l k:=by
 apply fe
 intro hn
 have hr:0≤aB (Re.of (-cV l k)):=by rw[bQ];exact gG (by grind)
 have key: ∀ {x y:Re},aB (x*x+y*y-Re.of k.q)=0→0≤aB (hL l k x y*(Re.of (iU l k.x k.y)+Re.of (iU l k.x k.y))-hL l k x y*hL l k x y):=fun{x y} h1=>by
  rw[dm (y:=(Re.of l.a*y-Re.of l.b*x)*(Re.of l.a*y-Re.of l.b*x)+Re.of (-cV l k)) (z:= -(Re.of (cZ l)*(x*x+y*y-Re.of k.q)))
   (aM fun n=>by simp only[hL,cV,cZ,aD,aj,aE,aK,aV];grind) (my (dA _ h1))]
  exact fP (DE _) hr
 have pos: ∀ {H V:Re},0≤aB (H*(V+V)-H*H)→aB H≠0→aB H*aB V=1:=fun{H V} h hH=>by
  have h2:aB (H*H)=1:=by
   rw[aY]
   rcases bg H with e|e|e
   ·rw[e];rfl
   ·exact absurd e hH
   ·rw[e];rfl
  have h3:=ms h2 h
  rw[show H*H+(H*(V+V)-H*H)=H*V+H*V from(aM fun n=>by simp only[aD,aj,aE];grind),jL,aY] at h3
  exact h3
 have z1:aB (hL l k x1 y1)≠0:=fun e=>by rw[e] at hs;omega
 have z2:aB (hL l k x2 y2)≠0:=fun e=>by rw[e] at hs;omega
 have a1:=pos (key n1) z1
 have a2:=pos (key n2) z2
 rcases bg (Re.of (iU l k.x k.y)) with e|e|e
 ·rw[e] at a1 a2
  rw[show aB (hL l k x1 y1)=1 by omega,show aB (hL l k x2 y2)=1 by omega] at hs
  exact absurd hs (by decide)
 ·rw[e] at a1;omega
 ·rw[e] at a1 a2
  rw[show aB (hL l k x1 y1)= -1 by omega,show aB (hL l k x2 y2)= -1 by omega] at hs
  exact absurd hs (by decide)
omit n1 n2 in
theorem Xn (hn:cZ l≠0):aB (Re.of (cZ l))=1∧Re.of (cZ l)=Re.of l.a*Re.of l.a+Re.of l.b*Re.of l.b:=by
 refine⟨?_,rfl⟩
 have:=FC (Re.of l.a) (Re.of l.b)
 have h:0≤aB (Re.of (cZ l)):=this.1
 have h2:=bg (Re.of (cZ l))
 have h3:aB (Re.of (cZ l))≠0:=fun e=>hn (by rw[bQ] at e;exact uN.1 e)
 omega
omit n1 n2 in
theorem L8 (h0:0<cV l k):aB (Re.rt (cV l k)*Re.rt (cV l k)+Re.of (iU l k.x k.y)*Re.of (iU l k.x k.y)-Re.of (cZ l)*Re.of k.q)=0:=by
 rw[show Re.rt (cV l k)*Re.rt (cV l k)+Re.of (iU l k.x k.y)*Re.of (iU l k.x k.y)-Re.of (cZ l)*Re.of k.q=Re.rt (cV l k)*Re.rt (cV l k)-Re.of (cV l k) from by unfold cV;exact(aM fun n=>by simp only[aD,aj,aE,aK];grind)]
 exact lh (uU h0)
theorem aai (hn:cZ l≠0) (hs1:s=1∨s= -1) (u1:0≤s*aB y1) (u2:0≤s*aB y2) (hx:aB (x2-x1)=1) (hs:aB (hL l k x1 y1)*aB (hL l k x2 y2)= -1):
 ∃A∈nP l k,aB (rX k A-x1)=1∧aB (x2-rX k A)=1∧aB (rY k A)=s∧aB (rX k A*rX k A+rY k A*rY k A-Re.of k.q)=0:=by
 have h0:=Ni n1 n2 hs
 obtain⟨mP,mQ⟩:=DI h0
 have lP:=Lx hn h0
 have lQ:=Le hn h0
 obtain⟨p0,pn⟩:=Xn hn
 have hr:=L8 h0
 have hr2:aB (-Re.rt (cV l k)* -Re.rt (cV l k)+Re.of (iU l k.x k.y)*Re.of (iU l k.x k.y)-Re.of (cZ l)*Re.of k.q)=0:=by
  rw[show-Re.rt (cV l k)* -Re.rt (cV l k)=Re.rt (cV l k)*Re.rt (cV l k) from aM fun n=>by simp only[aE,aV];grind];exact hr
 have oP:=lP.on pn p0 hr
 have oQ:=lQ.on pn p0 hr2
 rcases hs1 with rfl|rfl
 ·rcases Hw pn p0 hr lP lQ n1 n2 (by omega) (by omega) hx hs with⟨a,b,c⟩|⟨a,b,c⟩
  ·exact⟨_,mP,a,b,c,oP⟩
  ·exact⟨_,mQ,a,b,c,oQ⟩
 ·have sq: ∀y:Re,-y* -y=y*y:=fun y=>(aM fun n=>by simp only[aE,aV];grind)
  have fH: ∀x y:Re,Re.of l.a*x+ -Re.of l.b* -y+Re.of (iU l k.x k.y)=hL l k x y:=fun x y=>aM fun n=>by simp only[hL,aD,aE,aK,aV];grind
  have lP':=lP.flip
  have lQ':=lQ.flip
  rw[EK] at lQ'
  rcases Hw (b:= -Re.of l.b) (by rw[sq];exact pn) p0 hr lQ' lP' (by rw[sq];exact n1) (by rw[sq];exact n2) (by rw[bG];omega) (by rw[bG];omega) hx (by rw[fH,fH];exact hs) with⟨a,b,c⟩|⟨a,b,c⟩
  ·exact⟨_,mQ,a,b,by rw[bG] at c;omega,oQ⟩
  ·exact⟨_,mP,a,b,by rw[bG] at c;omega,oP⟩
end
theorem DR (p:Pt):hL (ca k D) k (rX k p) (rY k p)=Re.of (kK k D)-(fA k D p+fA k D p):=aM fun n=>by
 simp only[hL,ca,CQ,iU,fA,BG,uX,uY,kK,aD,aj,aE,aK];grind
section
variable {k D:Ci}(hk:RK k) (hD:RK D)
include hk hD
theorem WK (h:p∈iZ k D) (gA:GP A) (e:cP A p=0) (n:aB (rX k A*rX k A+rY k A*rY k A-Re.of k.q)=0):OnK k p∧aB (rX k A-rX k p)=0∧aB (rY k A-rY k p)=0:=by
 have gp:=z7 hk hD p h
 obtain⟨h1,h2⟩:=eH.1 e
 rw[nT (cg gA) (cg gp)] at h1
 rw[rW (cg gA) (cg gp)] at h2
 refine⟨⟨gp,?_⟩,?_,?_⟩
 ·rw[←CL gA gp e,yv gA]
  rw[show xA k A=rX k A*rX k A+rY k A*rY k A-Re.of k.q from rfl,n];rfl
 ·rw[show rX k A-rX k p=pX A-pX p from aM fun n=>by simp only[rX,aj,aK];grind];exact h1
 ·rw[show rY k A-rY k p=pY A-pY p from aM fun n=>by simp only[rY,aj,aK];grind];exact h2
theorem Lh (op:OnR k p) (oq:OnR k q) (hs1:s=1∨s= -1) (u1:0≤s*aB (rY k p)) (u2:0≤s*aB (rY k q)) (hx:aB (rX k q-rX k p)=1) (hs:dE D p*dE D q= -1):
 ∃z∈iZ k D,OnK k z∧aB (rX k z-rX k p)=1∧aB (rX k q-rX k z)=1∧aB (rY k z)=s:=by
 have e1:dE D p=aB (hL (ca k D) k (rX k p) (rY k p)):=by rw[DR];exact yd op
 have e2:dE D q=aB (hL (ca k D) k (rX k q) (rY k q)):=by rw[DR];exact yd oq
 rw[e1,e2] at hs
 have hc:tx k D=false:=by
  cases h:tx k D with
  |false=>rfl
  |true=>
   unfold tx at h
   rw[di] at h
   have a:=LO h.1
   have b:=LO h.2
   have:hL (ca k D) k (rX k p) (rY k p)=hL (ca k D) k (rX k q) (rY k q):=by
    rw[DR,DR]
    exact aM fun n=>by simp only[fA,BG,uX,uY,a,b,aD,aj,aE,aK];grind
   rw[this] at hs
   rcases bg (hL (ca k D) k (rX k q) (rY k q)) with e|e|e<;>rw[e] at hs<;>exact absurd hs (by decide)
 obtain⟨A,hA,a1,a2,a3,a4⟩:=aai op.n oq.n (rD hk.k hD.k hc).n hs1 u1 u2 hx hs
 have hA':A∈wh k D:=by unfold wh;rw[if_neg (by rw[hc];decide)];exact hA
 have gA:=te hk.k hD.k A hA'
 obtain⟨z,hz,e⟩:=(wS hk hD).2 A hA'
 obtain⟨oz,ex,ey⟩:=WK hk hD hz gA e a4
 refine⟨z,hz,oz,?_,?_,?_⟩
 ·rw[←a1];exact dm (z:= -(rX k A-rX k z)) (aM fun n=>by simp only[aj,aV];grind) (my ex)
 ·rw[←a2];exact dm (z:=rX k A-rX k z) (aM fun n=>by simp only[aj];grind) ex
 ·rw[←a3];exact(cY ey).symm
end
end Go.Proofs.YtegpmhlfjkhjmaaGreat
