/-EngagementAgree:the walk of the law. -/
import Derived.Test.YtegpmhlfjkhjmaaGreatYgY
namespace Go.Proofs.YtegpmhlfjkhjmaaGreat
open Go Go.RowKit
variable {a b c e:Int}
theorem D9:arB Tryz.prog 56=some (3,1):=by kernel_rfl
theorem VM (a0:0≤a) (a1:a≤255) (b0:0≤b) (b1:b≤255) (e0:0≤e) (e1:e≤255) (_c0: -128≤c) (_c1:c≤127) (hA:Ok Tryz.prog 7 [] [.c (.b true)]) (hP:Ok Tryz.prog 9 [.a (bo (po (e+1) (b+1))),.c (.s 1 (aJ bo [(po 0 (a+1))]))] [.c (.s 0 []),.c (.b false)]) (hd:ra ((a+1:Int):Rat) ((b+1:Int):Rat) ((e+1:Int):Rat)=false) (h1: ¬e+1≥a+1+(b+1)) (h2: ¬b+1≥a+1+(e+1)):Ok Tryz.prog 5 [.a (([.i .u8 a]++[.i .u8 b]++[.i .u8 e])),.c (.i .i8 c)] [.c (.b true)]:=by
 refine ex Tryz.func5 149 [.tmp 4] rfl<|ae<|ag<|ae<|ae<|ag<|ac rfl (hA)<|bn rfl<|aB<|ae<|fb 15 []<|aq (gG D9 rfl rfl (by decide) rfl) ?_
 refine aq (bv (r:=a) BD tW rfl (ii (by omega) (by omega)) rfl) ?_
 refine aq (bZ (a+1) ((congrArg some (ii (by omega) (by omega)))) rfl)<|aq (gG D9 rfl rfl (by decide) rfl) ?_
 refine aq (bv (r:=b) BD tW rfl (ii (by omega) (by omega)) rfl) ?_
 refine aq (bZ (b+1) ((congrArg some (ii (by omega) (by omega)))) rfl)<|aq (gG D9 rfl rfl (by decide) rfl) ?_
 refine aq (bv (r:=e) BD tW rfl (ii (by omega) (by omega)) rfl) ?_
 refine aq (bZ (e+1) ((congrArg some (ii (by omega) (by omega)))) rfl)<|ae<|ag<|ae<|ag<|ac rfl (uc (x:=e+1) (y:=0) (r:=b+1) (by omega) (by omega) (by omega) (by omega) (by omega) (by omega))<|ac rfl (uc (x:=0) (y:=0) (r:=a+1) (by omega) (by omega) (by omega) (by omega) (by omega) (by omega))<|ar (da (n:=1) (us:=(cR (((0:Int):Rat))++cR (((0:Int):Rat))++cR ((((a+1)*(a+1):Int):Rat)))) Su rfl rfl rfl (by decide) (by decide) rfl) ?_
 refine ae<|ag ?_
 refine ac rfl (hP)<|ae<|ag ?_
 refine ac rfl (cA (by omega) (by omega))<|ac rfl (cA (by omega) (by omega))<|ac rfl (cA (by omega) (by omega))<|ac rfl (GN (MF (by omega) (by omega) (by decide)) (MF (by omega) (by omega) (by decide)) (MF (by omega) (by omega) (by decide)) hd)<|ae<|ae<|ag<|dG rfl<|ae ?_
 refine bz<|bQ 3<|aW (bZ (a+1+(b+1)) ((congrArg some (ii (by omega) (by omega)))) rfl)<|aW (aU (c:=false) (ew rfl) (decide_eq_false h1)) ?_
 refine bQ 4<|aW (bZ (a+1+(e+1)) ((congrArg some (ii (by omega) (by omega)))) rfl)<|aW (aU (c:=false) (ew rfl) (decide_eq_false h2)) ?_
 refine fL<|ae<|bz<|bQ 6<|aW (aU (c:=true) (pp rfl rfl gY rfl) rfl) ?_
 refine fL<|a9 ?_
 exact ah (ak aa)
theorem RJ (a0:0≤a) (a1:a≤255) (b0:0≤b) (b1:b≤255) (e0:0≤e) (e1:e≤255) (_c0: -128≤c) (_c1:c≤127) (hA:Ok Tryz.prog 7 [] [.c (.b true)]) (hP:Ok Tryz.prog 9 [.a (bo (po (e+1) (b+1))),.c (.s 1 (aJ bo [(po 0 (a+1))]))] [.c (.s 0 []),.c (.b true)]) (hd:ra ((a+1:Int):Rat) ((b+1:Int):Rat) ((e+1:Int):Rat)=false) (h1:e+1≥a+1+(b+1)∨b+1≥a+1+(e+1)):Ok Tryz.prog 5 [.a (([.i .u8 a]++[.i .u8 b]++[.i .u8 e])),.c (.i .i8 c)] [.c (.b true)]:=by
 refine ex Tryz.func5 149 [.tmp 4] rfl<|ae<|ag<|ae<|ae<|ag<|ac rfl (hA)<|bn rfl<|aB<|ae<|fb 15 []<|aq (gG D9 rfl rfl (by decide) rfl) ?_
 refine aq (bv (r:=a) BD tW rfl (ii (by omega) (by omega)) rfl) ?_
 refine aq (bZ (a+1) ((congrArg some (ii (by omega) (by omega)))) rfl)<|aq (gG D9 rfl rfl (by decide) rfl) ?_
 refine aq (bv (r:=b) BD tW rfl (ii (by omega) (by omega)) rfl) ?_
 refine aq (bZ (b+1) ((congrArg some (ii (by omega) (by omega)))) rfl)<|aq (gG D9 rfl rfl (by decide) rfl) ?_
 refine aq (bv (r:=e) BD tW rfl (ii (by omega) (by omega)) rfl) ?_
 refine aq (bZ (e+1) ((congrArg some (ii (by omega) (by omega)))) rfl)<|ae<|ag<|ae<|ag<|ac rfl (uc (x:=e+1) (y:=0) (r:=b+1) (by omega) (by omega) (by omega) (by omega) (by omega) (by omega))<|ac rfl (uc (x:=0) (y:=0) (r:=a+1) (by omega) (by omega) (by omega) (by omega) (by omega) (by omega))<|ar (da (n:=1) (us:=(cR (((0:Int):Rat))++cR (((0:Int):Rat))++cR ((((a+1)*(a+1):Int):Rat)))) Su rfl rfl rfl (by decide) (by decide) rfl) ?_
 refine ae<|ag ?_
 refine ac rfl (hP)<|ae<|ag ?_
 refine ac rfl (cA (by omega) (by omega))<|ac rfl (cA (by omega) (by omega))<|ac rfl (cA (by omega) (by omega))<|ac rfl (GN (MF (by omega) (by omega) (by decide)) (MF (by omega) (by omega) (by decide)) (MF (by omega) (by omega) (by decide)) hd)<|ae<|ae<|ag<|dG rfl<|ae ?_
 refine bz<|bQ 3<|aW (bZ (a+1+(b+1)) ((congrArg some (ii (by omega) (by omega)))) rfl)<|bQ 1 ?_
 refine UR (bq rfl) (fun c1 hb1=>?_)
 cases c1
 ·have hz:=hb1
  refine bQ 3<|aW (bZ (a+1+(e+1)) ((congrArg some (ii (by omega) (by omega)))) rfl)<|aW (aU (c:=true) (ew rfl) (decide_eq_true (h1.resolve_left (of_decide_eq_false hz)))) ?_
  refine fL<|ae<|bz<|bQ 6<|aW (aU (c:=true) (pp rfl rfl gY rfl) rfl) ?_
  refine fL<|a9 ?_
  exact ah (ak aa)
 ·refine fL<|ae<|bz<|bQ 6<|aW (aU (c:=true) (pp rfl rfl gY rfl) rfl) ?_
  refine fL<|a9 ?_
  exact ah (ak aa)
theorem RB (a0:0≤a) (a1:a≤255) (b0:0≤b) (b1:b≤255) (e0:0≤e) (e1:e≤255) (c0: -128≤c) (c1:c≤127) (hA:Ok Tryz.prog 7 [] [.c (.b true)]) {u v:Pt}(hP:Ok Tryz.prog 9 [.a (bo (po (e+1) (b+1))),.c (.s 1 (aJ bo [(po 0 (a+1))]))] [.c (.s [Cv.arc (po (e+1) (b+1)) false u v].length (aJ aG [Cv.arc (po (e+1) (b+1)) false u v])),.c (.b false)]) (hd:ra ((a+1:Int):Rat) ((b+1:Int):Rat) ((e+1:Int):Rat)=true) (hkk:GK (po (e+1) (b+1))) (vc:CvV (Cv.arc (po (e+1) (b+1)) false u v)) (gA:GP (rP ((e+1+(b+1):Int):Rat) ((0:Int):Rat))) (hR:(Cv.arc (po (e+1) (b+1)) false u v).on (rP ((e+1+(b+1):Int):Rat) ((0:Int):Rat))=true) (g1:CB (po (e+1) (b+1)) u (rP ((e+1+(b+1):Int):Rat) ((0:Int):Rat))=1) (g2:CB (po (e+1) (b+1)) (rP ((e+1+(b+1):Int):Rat) ((0:Int):Rat)) v=1) (p1:zf ((rP ((e+1+(b+1):Int):Rat) ((0:Int):Rat)).a1-(po (e+1) (b+1)).x) ((rP ((e+1+(b+1):Int):Rat) ((0:Int):Rat)).a2-(po (e+1) (b+1)).y) (rP ((e+1+(b+1):Int):Rat) ((0:Int):Rat)).b1 (rP ((e+1+(b+1):Int):Rat) ((0:Int):Rat)).b2 (rP ((e+1+(b+1):Int):Rat) ((0:Int):Rat)).c=(po (e+1) (b+1)).q) (p2:qC (po (e+1) (b+1)) (rP ((e+1+(b+1):Int):Rat) ((0:Int):Rat))=0) (p3:cP (rP ((e+1+(b+1):Int):Rat) ((0:Int):Rat)) (rP (po (e+1) (b+1)).x (po (e+1) (b+1)).y)≠0) (p4:iC (po (e+1) (b+1)).q=true) (hM:Ok Tryz.prog 15 [.a (bo (po (e+1) (b+1))),.c (.s 1 (aJ bo [(po 0 (a+1))])),dR (Rat.divInt c 16)] [.c (.b (CG false (Rat.divInt c 16) [Cv.arc (po (e+1) (b+1)) false u v]))]) (hH:mQ (Rat.divInt c 16)=true→CG false (Rat.divInt c 16) [Cv.arc (po (e+1) (b+1)) false u v]=Gx (CA ((a+1:Int):Rat) ((b+1:Int):Rat) ((e+1:Int):Rat)) (Rat.divInt c 16)):Ok Tryz.prog 5 [.a (([.i .u8 a]++[.i .u8 b]++[.i .u8 e])),.c (.i .i8 c)] [.c (.b true)]:=by
 have hx:Rz 3 (Rat.divInt c 16):=(Rz.of (k:=1) (qP (by omega) (by omega)) (qP (by decide) (by decide)) (by decide)).m_
 have zH:Rz 60 (CA ((a+1:Int):Rat) ((b+1:Int):Rat) ((e+1:Int):Rat)):=agH (by omega) (by omega) (by omega) (by omega) (by omega) (by omega)
 have sS:iQ (po (e+1) (b+1)) (po (e+1) (b+1))=true:=by unfold iQ yV;rw[jl,jl,jl];rfl
 refine ex Tryz.func5 149 [.tmp 4] rfl<|ae<|ag<|ae<|ae<|ag<|ac rfl (hA)<|bn rfl<|aB<|ae<|fb 15 []<|aq (gG D9 rfl rfl (by decide) rfl) ?_
 refine aq (bv (r:=a) BD tW rfl (ii (by omega) (by omega)) rfl) ?_
 refine aq (bZ (a+1) ((congrArg some (ii (by omega) (by omega)))) rfl)<|aq (gG D9 rfl rfl (by decide) rfl) ?_
 refine aq (bv (r:=b) BD tW rfl (ii (by omega) (by omega)) rfl) ?_
 refine aq (bZ (b+1) ((congrArg some (ii (by omega) (by omega)))) rfl)<|aq (gG D9 rfl rfl (by decide) rfl) ?_
 refine aq (bv (r:=e) BD tW rfl (ii (by omega) (by omega)) rfl) ?_
 refine aq (bZ (e+1) ((congrArg some (ii (by omega) (by omega)))) rfl)<|ae<|ag<|ae<|ag<|ac rfl (uc (x:=e+1) (y:=0) (r:=b+1) (by omega) (by omega) (by omega) (by omega) (by omega) (by omega))<|ac rfl (uc (x:=0) (y:=0) (r:=a+1) (by omega) (by omega) (by omega) (by omega) (by omega) (by omega))<|ar (da (n:=1) (us:=(cR (((0:Int):Rat))++cR (((0:Int):Rat))++cR ((((a+1)*(a+1):Int):Rat)))) Su rfl rfl rfl (by decide) (by decide) rfl) ?_
 refine ae<|ag ?_
 refine ac rfl (hP)<|ae<|ag ?_
 refine ac rfl (cA (by omega) (by omega))<|ac rfl (cA (by omega) (by omega))<|ac rfl (cA (by omega) (by omega))<|ac rfl (Dh (MF (by omega) (by omega) (by decide)) (MF (by omega) (by omega) (by decide)) (MF (by omega) (by omega) (by decide)) hd)<|ae<|ae<|ag<|bn rfl<|aB ?_
 refine ae<|ae<|nu 34 rfl rfl<|cE 4<|bh (aU (c:=false) (ew rfl) (rfl)) ?_
 refine cE 3<|bh (cb rfl (jk (zH.m_)))<|cE 4<|bh (bK (us:=aG (Cv.arc (po (e+1) (b+1)) false u v)++aJ aG ([Cv.arc (po (e+1) (b+1)) false u v].drop (0+1))) lB rfl rfl (⟨by decide,Int.one_pos⟩) (aM aj _) (iH aj (eh (d:=bL) (show 0<[Cv.arc (po (e+1) (b+1)) false u v].length from Nat.zero_lt_one))) rfl) ?_
 refine bh (qh aj bT rfl)<|bh (cb rfl (UK vc))<|cE 4<|bh (bK (us:=aG (Cv.arc (po (e+1) (b+1)) false u v)++aJ aG ([Cv.arc (po (e+1) (b+1)) false u v].drop (0+1))) lB rfl rfl (⟨by decide,Int.one_pos⟩) (aM aj _) (iH aj (eh (d:=bL) (show 0<[Cv.arc (po (e+1) (b+1)) false u v].length from Nat.zero_lt_one))) rfl) ?_
 refine bh (pj XR rfl rfl rfl) ?_
 refine bh (ci mv rfl rfl rfl) ?_
 refine cE 4<|bh (bK (us:=aG (Cv.arc (po (e+1) (b+1)) false u v)++aJ aG ([Cv.arc (po (e+1) (b+1)) false u v].drop (0+1))) lB rfl rfl (⟨by decide,Int.one_pos⟩) (aM aj _) (iH aj (eh (d:=bL) (show 0<[Cv.arc (po (e+1) (b+1)) false u v].length from Nat.zero_lt_one))) rfl) ?_
 refine bh (pj WN rfl rfl rfl) ?_
 refine bh (gF (us:=bo (((po (e+1) (b+1))))) sI rfl (OO) (pQ _) rfl) ?_
 refine cE 1<|bh (cb rfl (eG (c:=true) (Zq hkk hkk) sS))<|Aq<|dN<|bD<|bn rfl<|aB<|ae<|ag<|ar (bZ (e+1+(b+1)) ((congrArg some (ii (by omega) (by omega)))) rfl)<|ac rfl (BA (by omega) (by omega) (by decide) (by decide))<|ac rfl ((show Ok _ _ _ [.a (ai (rP ((e+1+(b+1):Int):Rat) ((0:Int):Rat)))] from AY))<|ae<|ae ?_
 refine fb 16 []<|aq (bK (us:=aG (Cv.arc (po (e+1) (b+1)) false u v)++aJ aG ([Cv.arc (po (e+1) (b+1)) false u v].drop (0+1))) lB rfl rfl (⟨by decide,Int.one_pos⟩) (aM aj _) (iH aj (eh (d:=bL) (show 0<[Cv.arc (po (e+1) (b+1)) false u v].length from Nat.zero_lt_one))) rfl) ?_
 refine aq (qh aj bT rfl) ?_
 refine aC rfl (eG (c:=true) (YT vc.g gA) hR) ?_
 refine aq (bq rfl) ?_
 refine aq (bK (us:=aG (Cv.arc (po (e+1) (b+1)) false u v)++aJ aG ([Cv.arc (po (e+1) (b+1)) false u v].drop (0+1))) lB rfl rfl (⟨by decide,Int.one_pos⟩) (aM aj _) (iH aj (eh (d:=bL) (show 0<[Cv.arc (po (e+1) (b+1)) false u v].length from Nat.zero_lt_one))) rfl) ?_
 refine aq (qh aj bT rfl) ?_
 refine aC rfl (cA (by omega) (by omega))<|aC rfl (VB hkk vc.g.2.1 vc.g.2.2 gA g1 g2 p4 vc.pos p1 p2 p3)<|bn rfl<|aB<|ae<|nu 17 rfl rfl<|cE 1<|bh (cb rfl (Qf (by omega) (by omega)))<|bh (cb rfl (Ma (hx.m_)))<|cE 1 ?_
 refine JB (bq rfl) (fun c1 hb1=>?_)
 cases c1
 ·have hz:mQ (Rat.divInt c 16)=true:=by simpa using hb1
  refine cE 3<|bh (cb rfl (Qf (by omega) (by omega)))<|bh (cb rfl (hM))<|cE 2<|bh (cb rfl (Qf (by omega) (by omega)))<|bh (cb rfl (Sn zH (hx.m_)))<|bh (aU (c:=true) (pp rfl rfl gY rfl) (by rw[hH hz];exact beq_self_eq_true _)) ?_
  refine Aq<|dN<|bD<|a9 ?_
  exact ah (ak aa)
 ·refine Aq<|dN<|bD<|a9 ?_
  exact ah (ak aa)
theorem VY (a0:0≤a) (a1:a≤255) (b0:0≤b) (b1:b≤255) (e0:0≤e) (e1:e≤255) (c0: -128≤c) (c1:c≤127) (hA:Ok Tryz.prog 7 [] [.c (.b true)]):Ok Tryz.prog 5 [.a ([.i .u8 a]++[.i .u8 b]++[.i .u8 e]),.c (.i .i8 c)] [.c (.b true)]:=by
 have o:=TO (d:=e+1) (r:=b+1) (R:=a+1) (by omega) (by omega) (by omega) (by omega) (by omega) (by omega)
 rcases o.prog with⟨h,hP⟩|⟨h,hP⟩|⟨u,v,q0,q1,hp,c2,c3,c4,c5,hP⟩
 ·have g:=ZC (d:=e+1) (r:=b+1) (R:=a+1) (by omega) (by omega) (by omega) (by omega) (by omega) (by omega) h
  exact VM a0 a1 b0 b1 e0 e1 c0 c1 hA hP (o.dsc.2.1 h) g.1 g.2
 ·exact RJ a0 a1 b0 b1 e0 e1 c0 c1 hA hP (o.dsc.2.2 h) (Vp h)
 ·have q2:=q0.symm.trans q1
  injection q2 with hu q3
  injection q3 with hv
  have vc:=o.cvv c2 c3 c4 c5
  have hx:Rz 3 (Rat.divInt c 16):=(Rz.of (k:=1) (qP (by omega) (by omega)) (qP (by decide) (by decide)) (by decide)).mono (by decide)
  have hE:=Yj (d:=e+1) (r:=b+1)
  obtain⟨_,_,s3,s4⟩:=o.sgs hp hu.symm hv.symm (b9 c2.1) (b9 c3.1) 0
  obtain⟨p1,p2,p3,p4⟩:=o.ptf
  have vG: ∀x∈ [Cv.arc (po (e+1) (b+1)) false u v],CvV x:=fun x h9=>by rw[kj.1 h9];exact vc
  have hR:=o.onR c2 c3 c4 c5
  rw[←hE] at s3 s4 p1 p2 p3 hR
  exact RB a0 a1 b0 b1 e0 e1 c0 c1 hA hP (o.dsc.1 hp) o.hk.k vc (KB (MF (by omega) (by omega) (by decide)) (MF (by omega) (by omega) (by decide))) hR s3 s4 p1 p2 p3 p4
   (abb (k:=po (e+1) (b+1)) (L:=[po 0 (a+1)]) hx vG (dO rfl) hP) fun hc=>o.half hp hu.symm hv.symm (b9 c2.1) (b9 c3.1) hc
end Go.Proofs.YtegpmhlfjkhjmaaGreat
namespace Go.Proofs.YtegpmhlfjkhjmaaGreat
open Go.ChangeShapes Go.WideShapes Go.ChangeAt Go.RowKit Go.Deep
variable {base fuel n:Nat}{w:World}
theorem Ip {P:Program}{r:Reach}{t e:TypeId}{v:Value}(ht:P.underlying t=some (.array n e)) (h:Value.okWide P w r base t v): ∃cs,v=.agg cs:=by
 simp only[Value.okWide,ht] at h
 obtain⟨cs,h1,_⟩:=h
 exact⟨cs,h1⟩
theorem ZD {H:Type}{enc:TypeId×Value→H}{spare:Nat→Bool}{held:Bool}{cs:List Value}{x:DataW H×List MemPlace}(h:DataW.trod enc Tryz.prog w base spare held fuel 56 cs=some x):
 ∃x y z:Int,0≤x∧x≤255∧0≤y∧y≤255∧0≤z∧z≤255∧RdCs NoB w cs ([.i .u8 x]++[.i .u8 y]++[.i .u8 z]):=by
 obtain⟨xs,n,_,_,hcl,hxl,hf⟩:=DataW.trod_array (P:=Tryz.prog) Tryz.underlying56 h
 have hcl:cs.length=3:=hcl.trans (by kernel_rfl)
 have hce:Tryz.prog.cellsOf 5=1:=by kernel_rfl
 rw[hce] at hf
 match cs,hcl with
 |[c0,c1,c2],_=>
  have h0:DataW.trod enc Tryz.prog w base spare held n 5 [c0]=xs[0]? :=hf 0 (by omega)
  have h1:DataW.trod enc Tryz.prog w base spare held n 5 [c1]=xs[1]? :=hf 1 (by omega)
  have h2:DataW.trod enc Tryz.prog w base spare held n 5 [c2]=xs[2]? :=hf 2 (by omega)
  rw[ip (by omega)] at h0 h1 h2
  obtain⟨x,e,_,hx⟩:=DataW.trod_int (P:=Tryz.prog) Tryz.underlying5 h0
  obtain⟨y,e',_,hy⟩:=DataW.trod_int (P:=Tryz.prog) Tryz.underlying5 h1
  obtain⟨z,e2,_,hz⟩:=DataW.trod_int (P:=Tryz.prog) Tryz.underlying5 h2
  simp at e e' e2
  subst e e' e2
  simp[Lit.wf,IntKind.min,IntKind.max,IntKind.signed,IntKind.bits] at hx hy hz
  exact⟨x,y,z,by omega,by omega,by omega,by omega,by omega,by omega,qA (.i _ _) (qA (.i _ _) (qA (.i _ _) vm))⟩
end Go.Proofs.YtegpmhlfjkhjmaaGreat
namespace Go.Proofs.YtegpmhlfjkhjmaaGreat
open Go.ChangeShapes Go.WideShapes Go.ChangeAt Go.RowKit
theorem FW {a b e c:Int}(a0:0≤a) (a1:a≤255) (b0:0≤b) (b1:b≤255) (e0:0≤e) (e1:e≤255) (c0: -128≤c) (c1:c≤127):Ok Tryz.prog 5 [.a ([.i .u8 a]++[.i .u8 b]++[.i .u8 e]),.c (.i .i8 c)] [.c (.b true)]:=VY a0 a1 b0 b1 e0 e1 c0 c1 Ix
set_option maxRecDepth 100000 in
theorem BX (os:Os) (started:os.Started) (H:Type) (enc:TypeId×Value→H):
 ReturnsInHanded {} Tryz.checked os 5 .any (Rows.engagementAgreeSpec.pre6 enc Tryz.prog Tryz.f5 Rows.engagementAgreeRow.domain false) (Rows.engagementAgreeSpec.post enc Tryz.prog Tryz.f5 false true false false):=by
 refine returnsInHanded_of_change (C:=Tryz.checked) own started (by kernel_rfl) Tryz.func5
  (ChangeSpec.witness6 (enc:=enc) (C:=Tryz.checked) false ⟨#[],#[.agg #[.int .u8 0,.int .u8 0,.int .u8 0],.int .i8 0],[]⟩ 8 (by kernel_rfl) (by kernel_rfl) (by kernel_rfl) (by kernel_rfl)) ?_
 intro W base args ds gs before hval0 hW hcnd _
 have hval: ∀(j:Nat) t v,Tryz.f5.params[j]? =some t→args[j]? =some v→Value.okWide Tryz.prog W .any base t v:=hval0
 have hW':=hW
 obtain⟨p,q,hA0,hV,rfl,hfz,hnd⟩:=hW
 have hA:DataW.TrodAll enc Tryz.prog W 0 (fun _=>true) true Tryz.f5.params.toList args.toList ds p:=hA0
 rw[Tryz.params5] at hA hval
 obtain⟨v0,vs0,d0,ds0,p0,q0,hargs,rfl,rfl,h0,r0⟩:=trodAll_cons hA
 obtain⟨v1,vs1,d1,ds1,p1,q1,rfl,rfl,rfl,h1,r1⟩:=trodAll_cons r0
 obtain⟨rfl,rfl,rfl⟩:=trodAll_nil r1
 obtain rfl:args= #[v0,v1]:=by cases args;simp_all
 obtain⟨rfl,rfl⟩:=trodVars_none hV
 obtain⟨a0,rfl⟩:=Ip Tryz.underlying56 (hval 0 56 v0 rfl rfl)
 have k0:=h0
 have lt0: ∀x∈p0,x.block<W.heap.size:=by obtain⟨m,hm⟩:=k0;exact DataW.trod_lt m _ _ _ hm
 obtain⟨a1,rfl,rfl,rfl,w1⟩:=open_int Tryz.underlying52 (hval 1 52 v1 rfl rfl) h1
 obtain⟨x0,y0,z0,g00,g01,g02,g03,g04,g05,hr0⟩:=ZD (show DataW.trod enc Tryz.prog W 0 _ _ h0.choose 56 a0.toList=some _ from h0.choose_spec)
 have g1: -128≤a1∧a1≤127:=by have:=w1;simp[Lit.wf,IntKind.min,IntKind.max,IntKind.signed,IntKind.bits] at this;omega
 clear hA0 hval0
 refine(Vd (FW g00 g01 g02 g03 g04 g05 g1.1 g1.2) (tQ ⟨a0,rfl,hr0⟩ (tQ (.i _ _) RdL.nil))).mono fun e W' ⟨he,bel⟩=>?_
 subst he
 exact⟨_,rfl,_,_,_,[],_,[],hW',trodAll_mk1 (shut_bool Tryz.underlying4 _),(trodAll_cons_mk (Below.trod R3 (by kernel_rfl) (of_decide_eq_true (by kernel_rfl)) k0 bel lt0) (trodAll_cons_mk (shut_int Tryz.underlying52 w1) trodAll_mk0)),rfl,bel.frame _,fun h=>by cases h⟩
theorem agree32_proved:Rows.EngagementAgreeSaid:=
 OpenClaim.holds_of_wide 5 Tryz.f5 rfl rfl rfl rfl rfl rfl rfl ⟨rfl,rfl,rfl,rfl,rfl⟩ rfl rfl rfl rfl rfl Jo Tryz.func5 IK
  (of_decide_eq_true (by kernel_rfl)) (by unfold Func.isWrapper;first|(rw[if_pos (by decide+kernel)];kernel_rfl)|(rw[if_neg (by decide+kernel)];exact⟨rfl,rfl⟩))
  (fun os started H enc _=>BX os started H enc)
end Go.Proofs.YtegpmhlfjkhjmaaGreat
