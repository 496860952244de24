/-Plain:radical.quick:intervals through the sum. -/
import Derived.Test.YtacopbfkmnpfgaaGreatSpJ
namespace Go.Proofs.YtacopbfkmnpfgaaGreat
open Go Go.RowKit
def Bd (x:Int):Prop:= -2305843009213693952≤x∧x≤2305843009213693952
theorem Bd.zero:Bd 0:=by unfold Bd;omega
def gL (e:Rat):Int:=if jS e then nU e else 0
def gH (e:Rat):Int:=if jS e then mZ e else 0
theorem rW (e:Rat):Bd (gL e):=by
 unfold gL;split
 ·rename_i h;have:=JV h;exact⟨this.1,this.2.1⟩
 ·exact Bd.zero
theorem sm (e:Rat):Bd (gH e):=by
 unfold gH;split
 ·rename_i h;have:=JV h;exact⟨this.2.2.1,this.2.2.2⟩
 ·exact Bd.zero
theorem xj (e:Rat):gL e≤gH e:=by
 unfold gL gH;split
 ·exact JI e
 ·exact Int.le_refl _
theorem AM {e:Rat}(h: ¬e<0): ¬gH e<0:=by
 unfold gH;split
 ·have:=v5 h;omega
 ·omega
theorem Ai (e:Rat):Bd (kQ (gL e)):=by
 have:=JS (x:=gL e) (y:=0) (rW e).2 (by omega) (by omega)
 unfold Bd;omega
theorem Bp {e:Rat}(h: ¬e<0):Bd (gT (gH e)):=by
 have:=JS (x:=0) (y:=gH e) (by omega) (by have:=AM h;omega) (sm e).2
 unfold Bd;omega
theorem Nc (x y:Int):gA x y≤gy x y:=by
 have h:Db x y/65536≤rf (Db x y):=by unfold rf;split<;>omega
 unfold gA gy;split<;>omega
theorem N5 (x y u v:Int):sH x y u v 4≤sp x y u v 4:=by
 exact Int.le_trans (Int.min_le_right _ _) (Int.le_trans (Nc _ _) (Int.le_max_right _ _))
def pL (x y u v:Int):Int:=if qm x y u v 4 then sH x y u v 4 else 0
def pH (x y u v:Int):Int:=if qm x y u v 4 then sp x y u v 4 else 0
theorem BL (x y u v:Int):Bd (pL x y u v):=by
 unfold pL;split
 ·rename_i h;have:=Nr 4 h;exact⟨this.1,this.2.1⟩
 ·exact Bd.zero
theorem BK (x y u v:Int):Bd (pH x y u v):=by
 unfold pH;split
 ·rename_i h;have:=Nr 4 h;exact⟨this.2.2.1,this.2.2.2⟩
 ·exact Bd.zero
theorem wY (x y u v:Int):pL x y u v≤pH x y u v:=by
 unfold pL pH;split
 ·exact N5 x y u v
 ·exact Int.le_refl _
def aL (x y u v:Int):Int:=if qF (x+u) (y+v) then x+u else 0
def aH (x y u v:Int):Int:=if qF (x+u) (y+v) then y+v else 0
theorem J6 {x y u v:Int}(h:x≤y) (h2:u≤v):Bd (aL x y u v):=by
 unfold aL;split
 ·rename_i h3;have:=Ec h3;unfold Bd;omega
 ·exact Bd.zero
theorem JO {x y u v:Int}(h:x≤y) (h2:u≤v):Bd (aH x y u v):=by
 unfold aH;split
 ·rename_i h3;have:=Ec h3;unfold Bd;omega
 ·exact Bd.zero
theorem gp {e:Rat}(h:Rz 40000 e):Ok Tryz.prog 253 [dR e] [.a ([.i .i64 (gL e)]++[.i .i64 (gH e)]),.c (.b (jS e))]:=uW h
theorem xc {e:Rat}(h: ¬e<0):Ok Tryz.prog 297 [.a ([.i .i64 (gL e)]++[.i .i64 (gH e)])] [.a ([.i .i64 (kQ (gL e))]++[.i .i64 (gT (gH e))]),.c (.b true)]:=
 Fj (rW e).1 (rW e).2 (sm e).1 (sm e).2 (AM h)
theorem qB {x y u v:Int}(h1:Bd x) (h2:Bd y) (h3:Bd u) (h4:Bd v):Ok Tryz.prog 258 [.a ([.i .i64 x]++[.i .i64 y]),.a ([.i .i64 u]++[.i .i64 v])] [.a ([.i .i64 (pL x y u v)]++[.i .i64 (pH x y u v)]),.c (.b (qm x y u v 4))]:=
 HB h1.1 h1.2 h2.1 h2.2 h3.1 h3.2 h4.1 h4.2
theorem uE {x y u v:Int}(h1:Bd x) (h2:Bd y) (h3:Bd u) (h4:Bd v):Ok Tryz.prog 254 [.a ([.i .i64 x]++[.i .i64 y]),.a ([.i .i64 u]++[.i .i64 v])] [.a ([.i .i64 (aL x y u v)]++[.i .i64 (aH x y u v)]),.c (.b (qF (x+u) (y+v)))]:=
 IA h1.1 h1.2 h2.1 h2.2 h3.1 h3.2 h4.1 h4.2
theorem en {ok c:Bool}{x y:Int}:OkP Tryz.prog 296 251 [.b ok] [.b (ok&&c)] [.a ([.i .i64 x]++[.i .i64 y]),.c (.b c)] [.a ([.i .i64 x]++[.i .i64 y])]:=Ja ok c x y
def Kl (B M:Rat):Int:=pL (gL B) (gH B) (kQ (gL M)) (gT (gH M))
def KB (B M:Rat):Int:=pH (gL B) (gH B) (kQ (gL M)) (gT (gH M))
def QI (B M:Rat):Bool:=qm (gL B) (gH B) (kQ (gL M)) (gT (gH M)) 4
def G2 (M N:Rat):Int:=pL (kQ (gL M)) (gT (gH M)) (kQ (gL N)) (gT (gH N))
def Im (M N:Rat):Int:=pH (kQ (gL M)) (gT (gH M)) (kQ (gL N)) (gT (gH N))
def Qg (M N:Rat):Bool:=qm (kQ (gL M)) (gT (gH M)) (kQ (gL N)) (gT (gH N)) 4
def Pz (D M N:Rat):Int:=pL (gL D) (gH D) (G2 M N) (Im M N)
def Pu (D M N:Rat):Int:=pH (gL D) (gH D) (G2 M N) (Im M N)
def QU (D M N:Rat):Bool:=qm (gL D) (gH D) (G2 M N) (Im M N) 4
def I4 (A B M:Rat):Int:=aL (gL A) (gH A) (Kl B M) (KB B M)
def IS (A B M:Rat):Int:=aH (gL A) (gH A) (Kl B M) (KB B M)
def PL (A B M:Rat):Bool:=qF (gL A+Kl B M) (gH A+KB B M)
def HN (C D M N:Rat):Int:=aL (Kl C N) (KB C N) (Pz D M N) (Pu D M N)
def G5 (C D M N:Rat):Int:=aH (Kl C N) (KB C N) (Pz D M N) (Pu D M N)
def Qi (C D M N:Rat):Bool:=qF (Kl C N+Pz D M N) (KB C N+Pu D M N)
def Ob (A B C D M N:Rat):Int:=aL (I4 A B M) (IS A B M) (HN C D M N) (G5 C D M N)
def Nl (A B C D M N:Rat):Int:=aH (I4 A B M) (IS A B M) (HN C D M N) (G5 C D M N)
def QQ (A B C D M N:Rat):Bool:=qF (I4 A B M+HN C D M N) (IS A B M+G5 C D M N)
def Mz (M N:Rat):Bool:=jS M&&jS N
def Lc (B C D M N:Rat):Bool:=Mz M N&&(jS B&&(QI B M&&(jS C&&(QI C N&&(jS D&&(Qg M N&&QU D M N))))))
def BA (A B C D M N:Rat):Bool:=Lc B C D M N&&(jS A&&(PL A B M&&(Qi C D M N&&QQ A B C D M N)))
def GC (A B C D M N:Rat):Bool:=BA A B C D M N&&E0 (Ob A B C D M N) (Nl A B C D M N)
def Jt (A B C D M N:Rat):Int:=if BA A B C D M N then ER (Ob A B C D M N) (Nl A B C D M N) else 0
theorem tQ {A B C D M N:Rat}(h:BA A B C D M N=false):Jt A B C D M N=0∧GC A B C D M N=false:=by
 unfold Jt GC;rw[h];exact⟨rfl,rfl⟩
theorem yx {A B C D M N:Rat}(h:BA A B C D M N=true):Jt A B C D M N=ER (Ob A B C D M N) (Nl A B C D M N)∧GC A B C D M N=E0 (Ob A B C D M N) (Nl A B C D M N):=by
 unfold Jt GC;rw[h];exact⟨rfl,rfl⟩
theorem Gb {A B C D M N:Rat}(h:Lc B C D M N=false):BA A B C D M N=false:=by unfold BA;rw[h];rfl
theorem L9 {A B C D M N:Rat}(h:Mz M N=false):BA A B C D M N=false:=Gb (by unfold Lc;rw[h];rfl)
theorem yy {b c:Bool}(h:(!b)=true) (e:c=b):c=false:=by rw[e];simpa using h
theorem Lb {b c:Bool}(h:(!b)=false) (e:c=b):c=true:=by rw[e];simpa using h
theorem zj {A B C D M N:Rat}(hA:Rz 40000 A) (hB:Rz 40000 B) (hC:Rz 40000 C) (hD:Rz 40000 D) (hM:Rz 40000 M) (hN:Rz 40000 N) (hm: ¬M<0) (hn: ¬N<0):Ok Tryz.prog 219 [.a ((cR A++cR B++cR C++cR D++cR M++cR N))] [.c (.i .i64 (Jt A B C D M N)),.c (.b (GC A B C D M N))]:=by
 refine Ok.fn Tryz.func219 126 [.tmp 2,.tmp 3] rfl<|aa<|ab<|ai<|aa<|ab<|ak (aD (us:=([.b true])) Po OO rfl rfl rfl) ?_
 refine ai<|aa<|ab<|am 3<|ak (aw (cR M) au rfl)<|ak (aj rfl (gp (aO hM)))<|am 2<|AQ (dD rfl rfl rfl rfl rfl (en) rfl) ?_
 refine ak (aj rfl (xc (by assumption)))<|am 2<|AQ (dD rfl rfl rfl rfl rfl (en) rfl) ?_
 refine az (ah gU rfl) rfl<|ai<|aa<|ab<|am 3<|ak (aw (cR N) au rfl)<|ak (aj rfl (gp (aO hN)))<|am 2<|AQ (dD rfl rfl rfl rfl rfl (en) rfl) ?_
 refine ak (aj rfl (xc (by assumption)))<|am 2<|AQ (dD rfl rfl rfl rfl rfl (en) rfl) ?_
 refine az (ah gU rfl) rfl<|ai<|aa<|aa<|ab<|am 1<|ak (kS rfl rfl) ?_
 refine ai ?_
 refine ay rfl (fun hc1=>?_) (fun hc1=>?_)
 ·refine aa<|ab<|ai<|al ?_
  have hk:BA A B C D M N=false:=L9 (yy hc1 (by unfold Mz;simp only[Bool.true_and,Bool.and_true];try rfl))
  rw[(tQ hk).1,(tQ hk).2]
  exact ao (aC (aC ae))
 ·refine aq<|aa<|cm 14 [12] a7 (by kernel_rfl) rfl rfl<|an 3<|ag (aw (cR B) au rfl)<|ag (aj rfl (gp (aO hB)))<|an 2<|lE (dD rfl rfl rfl rfl rfl (en) rfl) rfl rfl rfl rfl rfl (by kernel_rfl) rfl ?_
  refine an 1<|ag (aj rfl (qB (rW _) (sm _) (Ai _) (Bp (by assumption))))<|an 2<|lE (dD rfl rfl rfl rfl rfl (en) rfl) rfl rfl rfl rfl rfl (by kernel_rfl) rfl ?_
  refine ba (ah gU rfl) rfl<|aR<|s8<|ai<|aa<|cm 14 [12] a7 (by kernel_rfl) rfl rfl<|an 3<|ag (aw (cR C) au rfl)<|ag (aj rfl (gp (aO hC)))<|an 2<|lE (dD rfl rfl rfl rfl rfl (en) rfl) rfl rfl rfl rfl rfl (by kernel_rfl) rfl ?_
  refine an 1<|ag (aj rfl (qB (rW _) (sm _) (Ai _) (Bp (by assumption))))<|an 2<|lE (dD rfl rfl rfl rfl rfl (en) rfl) rfl rfl rfl rfl rfl (by kernel_rfl) rfl ?_
  refine ba (ah gU rfl) rfl<|aR<|s8<|ai<|aa<|cm 20 [12] a7 (by kernel_rfl) rfl rfl<|an 3<|ag (aw (cR D) au rfl)<|ag (aj rfl (gp (aO hD)))<|an 2<|lE (dD rfl rfl rfl rfl rfl (en) rfl) rfl rfl rfl rfl rfl (by kernel_rfl) rfl ?_
  refine an 3<|ag (aj rfl (qB (Ai _) (Bp (by assumption)) (Ai _) (Bp (by assumption))))<|an 2<|lE (dD rfl rfl rfl rfl rfl (en) rfl) rfl rfl rfl rfl rfl (by kernel_rfl) rfl ?_
  refine ag (aj rfl (qB (rW _) (sm _) (BL _ _ _ _) (BK _ _ _ _)))<|an 2<|lE (dD rfl rfl rfl rfl rfl (en) rfl) rfl rfl rfl rfl rfl (by kernel_rfl) rfl ?_
  refine ba (ah gU rfl) rfl<|aR<|fz<|ai<|aa<|aa<|ab<|am 1<|ak (kS rfl rfl) ?_
  refine ai ?_
  refine ay rfl (fun hc2=>?_) (fun hc2=>?_)
  ·refine aa<|ab<|ai<|al ?_
   have hk:BA A B C D M N=false:=Gb (yy hc2 (by unfold Lc Mz;simp only[Bool.true_and,Bool.and_true,Bool.and_assoc];try rfl))
   rw[(tQ hk).1,(tQ hk).2]
   exact ao (aC (aC ae))
  ·refine aq<|aa<|cm 26 [12] a7 (by kernel_rfl) rfl rfl<|an 4<|ag (aw (cR A) au rfl)<|ag (aj rfl (gp (aO hA)))<|an 2<|lE (dD rfl rfl rfl rfl rfl (en) rfl) rfl rfl rfl rfl rfl (by kernel_rfl) rfl ?_
   refine an 1<|ag (aj rfl (uE (rW _) (sm _) (BL _ _ _ _) (BK _ _ _ _)))<|an 2<|lE (dD rfl rfl rfl rfl rfl (en) rfl) rfl rfl rfl rfl rfl (by kernel_rfl) rfl ?_
   refine an 3<|ag (aj rfl (uE (BL _ _ _ _) (BK _ _ _ _) (BL _ _ _ _) (BK _ _ _ _)))<|an 2<|lE (dD rfl rfl rfl rfl rfl (en) rfl) rfl rfl rfl rfl rfl (by kernel_rfl) rfl ?_
   refine ag (aj rfl (uE (J6 (by first|exact xj _|exact wY _ _ _ _) (by first|exact xj _|exact wY _ _ _ _)) (JO (by first|exact xj _|exact wY _ _ _ _) (by first|exact xj _|exact wY _ _ _ _)) (J6 (by first|exact xj _|exact wY _ _ _ _) (by first|exact xj _|exact wY _ _ _ _)) (JO (by first|exact xj _|exact wY _ _ _ _) (by first|exact xj _|exact wY _ _ _ _)))) ?_
   refine an 2<|lE (dD rfl rfl rfl rfl rfl (en) rfl) rfl rfl rfl rfl rfl (by kernel_rfl) rfl ?_
   refine ba (ah gU rfl) rfl<|aR<|Cc<|ai<|aa<|aa<|ab<|am 1<|ak (kS rfl rfl) ?_
   refine ai ?_
   refine ay rfl (fun hc3=>?_) (fun hc3=>?_)
   ·refine aa<|ab<|ai<|al ?_
    have hk:BA A B C D M N=false:=yy hc3 (by unfold BA Lc Mz;simp only[Bool.true_and,Bool.and_true,Bool.and_assoc];try rfl)
    rw[(tQ hk).1,(tQ hk).2]
    exact ao (aC (aC ae))
   ·refine aq<|aa<|ab<|am 1<|ak (aj rfl (Df))<|ai<|al ?_
    have hk:BA A B C D M N=true:=Lb hc3 (by unfold BA Lc Mz;simp only[Bool.true_and,Bool.and_true,Bool.and_assoc];try rfl)
    rw[(yx hk).1,(yx hk).2]
    exact ao (aC (aC ae))
def sL (A B C D M N:Rat):Int:=if M<0∨N<0 then 0 else if GC A B C D M N=true then Jt A B C D M N else iu A B C D M N
theorem yP {A B C D M N:Rat}(h:M<0∨N<0):sL A B C D M N=0:=by unfold sL;rw[if_pos h]
theorem L7 {A B C D M N:Rat}(h: ¬M<0) (h': ¬N<0) (hq:GC A B C D M N=true):sL A B C D M N=Jt A B C D M N:=by unfold sL;rw[if_neg (fun e=>e.elim h h'),if_pos hq]
theorem uh {A B C D M N:Rat}(h: ¬M<0) (h': ¬N<0) (hq:GC A B C D M N=false):sL A B C D M N=ld (cU A B M) (cU C D M*bd N 0) (cU (A*A+M*(B*B)-N*(C*C+M*(D*D))) (A*B-N*(C*D)+(A*B-N*(C*D))) M):=by
 unfold sL;rw[if_neg (fun e=>e.elim h h'),hq,if_neg (by decide),mY h h']
 unfold tp nf
 rw[Rat.mul_comm M (B*B),Rat.mul_comm M (D*D)]
section
variable {a b c d e f:Rat}
end
theorem kU {a b:Rat}(ha:Rz 60000 a) (hb:Rz 60000 b):Ok Tryz.prog 220 [dR a,dR b] [dR (a+b)]:=by
 refine Ok.fn Tryz.func220 8 [.cell 4 31] rfl<|aa<|ab<|am 2<|az (ah br rfl) rfl<|ap<|aa<|ab<|am 2<|ak (aj rfl (oC (aO ha) (aO hb)))<|ai<|al ?_
 exact ao (bh au rfl ae)
theorem t9 {A B C D M N:Rat}(hA:Rz 1600 A) (hB:Rz 1600 B) (hC:Rz 1600 C) (hD:Rz 1600 D) (hM:Rz 1600 M) (hN:Rz 1600 N):Ok Tryz.prog 137 [.a ((cR A++cR B++cR C++cR D++cR M++cR N))] [.c (.i .i64 (sL A B C D M N))]:=by
 have z1:=gC (fN C D M) (eF N 0)
 have z2:=gC (fN A B M) (fN (A*A+M*(B*B)-N*(C*C+M*(D*D))) ((A*B-N*(C*D))+(A*B-N*(C*D))) M)
 have kA:Rz 40000 A:=hA.m_
 have kB:Rz 40000 B:=hB.m_
 have kC:Rz 40000 C:=hC.m_
 have kD:Rz 40000 D:=hD.m_
 have kM:Rz 40000 M:=hM.m_
 have kN:Rz 40000 N:=hN.m_
 refine Ok.fn Tryz.func137 127 [.tmp 2] rfl<|aa<|ab<|ai<|aa<|aa<|ab<|am 1<|ak (aw (cR M) au rfl)<|ak (aj rfl (fQ))<|am 1 ?_
 refine dh (ca rfl) (fun c1 hb1=>?_)
 cases c1
 ·have n1:=Bi hb1
  refine am 1<|ak (aw (cR N) au rfl)<|ak (aj rfl (fQ))<|ai ?_
  refine ay rfl (fun hc2=>?_) (fun hc2=>?_)
  ·refine aa<|ab<|ai<|al ?_
   rw[yP (.inr (Cb hc2))]
   exact ao (aC ae)
  ·have n2:=Bi hc2
   refine aq<|aa<|aa<|ab<|am 1<|ak (aj rfl (zj (by assumption) (by assumption) (by assumption) (by assumption) (by assumption) (by assumption) (by assumption) (by assumption)))<|ai<|aa<|ab<|ai ?_
   refine ay rfl (fun hc3=>?_) (fun hc3=>?_)
   ·refine aa<|ab<|ai<|al ?_
    rw[L7 n1 n2 hc3]
    exact ao (aC ae)
   ·refine aq<|aa<|aN 20 rfl rfl<|an 1<|ag (aw (cR A) au rfl)<|an 1<|ag (aw (cR B) au rfl)<|an 1<|ag (aw (cR M) au rfl)<|ag (aj rfl (nt (aO hA) (aO hB) (aO hM)))<|an 1<|ag (aw (cR C) au rfl)<|an 1<|ag (aw (cR D) au rfl) ?_
    refine an 1<|ag (aw (cR M) au rfl)<|ag (aj rfl (nt (aO hC) (aO hD) (aO hM)))<|an 1<|ag (aw (cR N) au rfl)<|ag (aj rfl (fQ))<|ag (aJ (r:=(cU C D M)*(bd N 0)) rfl rfl (ff (by omega) (by omega)) rfl) ?_
    refine bK<|ar<|ap<|aa<|a8<|aa<|ab<|am 2 ?_
    refine dh (ca rfl) (fun c4 hb4=>?_)
    cases c4
    ·refine ai ?_
     refine ay rfl (fun hc5=>?_) (fun hc5=>?_)
     ·refine aa<|ab<|ai<|al ?_
      rw[uh n1 n2 hc3,qC hc5]
      exact ao (aC ae)
     ·refine aa<|ab<|ai ?_
      refine ay rfl (fun hc6=>?_) (fun hc6=>?_)
      ·refine aa<|ab<|ai<|al ?_
       rw[uh n1 n2 hc3,qI hc6]
       exact ao (aC ae)
      ·refine aq<|aa<|ab<|ai<|aa<|ab<|ai<|aa<|aN 42 rfl rfl<|an 3<|ag (aw (cR A) au rfl)<|an 1<|ag (aw (cR A) au rfl)<|ag (aj rfl (dT (aO hA) (aO hA))) ?_
       refine an 2<|ag (aw (cR M) au rfl)<|an 2<|ag (aw (cR B) au rfl)<|an 1<|ag (aw (cR B) au rfl)<|ag (aj rfl (dT (aO hB) (aO hB)))<|ag (aj rfl (dT (aO hM) (aO (Rz.mul hB hB))))<|ag (aj rfl (kU (aO (Rz.mul hA hA)) (aO (Rz.mul hM (Rz.mul hB hB)))))<|an 2<|ag (aw (cR N) au rfl)<|an 3<|ag (aw (cR C) au rfl)<|an 1 ?_
       refine ag (aw (cR C) au rfl)<|ag (aj rfl (dT (aO hC) (aO hC)))<|an 2<|ag (aw (cR M) au rfl)<|an 2<|ag (aw (cR D) au rfl)<|an 1<|ag (aw (cR D) au rfl)<|ag (aj rfl (dT (aO hD) (aO hD)))<|ag (aj rfl (dT (aO hM) (aO (Rz.mul hD hD))))<|ag (aj rfl (kU (aO (Rz.mul hC hC)) (aO (Rz.mul hM (Rz.mul hD hD)))))<|ag (aj rfl (dT (aO hN) (aO (Rz.add (Rz.mul hC hC) (Rz.mul hM (Rz.mul hD hD))))))<|ag (aj rfl (oo (aO (Rz.add (Rz.mul hA hA) (Rz.mul hM (Rz.mul hB hB)))) (aO (Rz.mul hN (Rz.add (Rz.mul hC hC) (Rz.mul hM (Rz.mul hD hD)))))))<|ba (ah br rfl) rfl ?_
       refine aR<|bg<|ai<|aa<|aN 18 rfl rfl<|an 2<|ag (aw (cR A) au rfl)<|an 1<|ag (aw (cR B) au rfl)<|ag (aj rfl (dT (aO hA) (aO hB)))<|an 2<|ag (aw (cR N) au rfl)<|an 2<|ag (aw (cR C) au rfl) ?_
       refine an 1<|ag (aw (cR D) au rfl)<|ag (aj rfl (dT (aO hC) (aO hD)))<|ag (aj rfl (dT (aO hN) (aO (Rz.mul hC hD))))<|ag (aj rfl (oo (aO (Rz.mul hA hB)) (aO (Rz.mul hN (Rz.mul hC hD)))))<|ba (ah br rfl) rfl<|aR<|bg<|ai<|aa<|aN 11 rfl rfl<|an 5<|ag (aj rfl (kU (aO (Rz.sub (Rz.mul hA hB) (Rz.mul hN (Rz.mul hC hD)))) (aO (Rz.sub (Rz.mul hA hB) (Rz.mul hN (Rz.mul hC hD))))))<|an 1 ?_
       refine ag (aw (cR M) au rfl)<|ag (aj rfl (nt (aO (Rz.sub (Rz.add (Rz.mul hA hA) (Rz.mul hM (Rz.mul hB hB))) (Rz.mul hN (Rz.add (Rz.mul hC hC) (Rz.mul hM (Rz.mul hD hD)))))) (aO (Rz.add (Rz.sub (Rz.mul hA hB) (Rz.mul hN (Rz.mul hC hD))) (Rz.sub (Rz.mul hA hB) (Rz.mul hN (Rz.mul hC hD))))) (aO hM)))<|ag (aJ (r:=(cU A B M)*(cU (((A*A)+(M*(B*B)))-(N*((C*C)+(M*(D*D))))) (((A*B)-(N*(C*D)))+((A*B)-(N*(C*D)))) M)) rfl rfl (ff (by omega) (by omega)) rfl) ?_
       refine bK<|ar<|ap<|al ?_
       rw[uh n1 n2 hc3,qw hc6 hb4 hc5]
       exact ao (aC ae)
    ·refine ai<|bP rfl<|aa<|ab<|ai<|al ?_
     rw[uh n1 n2 hc3,qv hb4]
     exact ao (aC ae)
 ·refine ai<|bP rfl<|aa<|ab<|ai<|al ?_
  rw[yP (.inl (Cb hb1))]
  exact ao (aC ae)
theorem wu {a b c:Rat}(ha:Rz 10000 a) (hb:Rz 10000 b) (hc:Rz 10000 c):Ok Tryz.prog 362 [.a ((cR a++cR b++cR c))] [.a ((cR (a*a+b*b*cc b c c)++cR (rB (a*b+b*a) (cc b c c))++cR (rC (a*b+b*a) (cc b c c))))]:=by
 have hbad: ¬ML b c b c:=fun h=>h.2.2 rfl
 refine Ok.fn Tryz.func362 12 [.cell 2 67] rfl<|aa<|ab<|am 1<|az (ah gj rfl) rfl<|ap<|aa<|ab<|am 2<|ak (aj rfl (Cu ha hb hc ha hb hc hbad))<|am 3<|az (ah gj rfl) rfl<|ai<|aa ?_
 refine ab<|ai<|al ?_
 exact ao (bh iL rfl ae)
def rF (x y:Re):Prop:=0≤di (y-x)
theorem of_le {p q:Rat}(h:p≤q):rF (Re.of p) (Re.of q):=by
 unfold rF
 rw[y7,gG]
 unfold bd
 rw[if_neg (by grind)]
 split<;>omega
theorem rc {x y:Re}(h: ∀k,x.s k=y.s k) (g:0≤di x):0≤di y:=by rw[←Re.ext h];exact g
def ph (lo hi:Int) (x:Re):Prop:=rF (Re.of (lo:Rat)) (Re.of 65536*x)∧rF (Re.of 65536*x) (Re.of (hi:Rat))
theorem rh {x y u v:Re}(h:rF x y) (g:rF u v):rF (x+u) (y+v):=by
 unfold rF at*
 exact rc (fun k=>by simp only[dF,dM];grind) (vr h g)
theorem JP (y:Rat):((y.num.fdiv (y.den:Int):Int):Rat)≤y:=by
 have hd:=den_pos y
 have h1:=FD y
 have hp:(0:Rat)<((y.den:Int):Rat):=Rat.intCast_pos.2 hd
 refine nZ hp ?_
 rw[h1,←Rat.intCast_mul]
 refine Rat.intCast_le_intCast.2 ?_
 rw[Int.fdiv_eq_ediv_of_nonneg _ (by omega),Int.mul_comm]
 have:=Int.mul_ediv_add_emod y.num (y.den:Int)
 have:=Int.emod_nonneg y.num (show(y.den:Int)≠0 by omega)
 omega
theorem Nv (a:Rat):ph (nU a) (mZ a) (Re.of a):=by
 have h1:=JP (a*((65536:Int):Rat))
 have h2:=JP (-(a*((65536:Int):Rat)))
 have e:((65536:Int):Rat)=65536:=rfl
 rw[e] at h1 h2
 refine⟨?_,?_⟩
 ·rw[lf]
  refine of_le ?_
  unfold nU
  rw[e]
  grind
 ·rw[lf]
  refine of_le ?_
  unfold mZ
  rw[e,Rat.intCast_neg]
  grind
theorem Ch {a:Rat}(h:jS a=true):ph (gL a) (gH a) (Re.of a):=by
 unfold gL gH;rw[h,if_pos rfl,if_pos rfl];exact Nv a
theorem wn {p q:Re}(_hp:0≤di p) (hq:0≤di q) (h:0≤di (q*q-p*p)):rF p q:=by
 unfold rF
 rcases du (q-p) with a|a|a
 ·omega
 ·omega
 ·exfalso
  have h1:0<di (p-q):=by
   have e:p-q= -(q-p):=Re.ext fun k=>by simp only[dF,dN];grind
   rw[e,mG,a];decide
  have h2:0<di (p+q):=by
   have e:p+q=(p-q)+(q+q):=Re.ext fun k=>by simp only[dF,dM];grind
   rw[e];exact vK h1 (vr hq hq)
  have h3:di ((q-p)*(p+q))=di (q*q-p*p):=congrArg di (Re.ext fun k=>by simp only[dF,dM,dE];grind)
  rw[eG,a] at h3
  omega
theorem Bn {n:Int}(h:0≤n):0≤di (Re.of (n:Rat)):=by
 have:=of_le (Rat.intCast_nonneg.2 h)
 unfold rF at this
 refine rc (fun k=>?_) this
 simp only[dF,fV];grind
theorem tF {p q:Rat}(h:rF (Re.of p) (Re.of q)):p≤q:=by
 unfold rF at h
 rw[y7,gG] at h
 unfold bd at h
 apply Classical.byContradiction
 intro hn
 rw[if_pos (by grind)] at h
 omega
theorem Bo (m:Rat):0≤di (Re.of 65536*Re.rt m):=by
 have h1:=DH m
 have h2:di (Re.of 65536)=1:=by rw[gG];decide+kernel
 rw[eG,h2];omega
theorem Bu {m:Rat}(h:0≤m) (q:Rat):di (Re.of 65536*Re.rt m*(Re.of 65536*Re.rt m)-Re.of q)=bd (65536*65536*m) q:=by
 rw[←re,←gG]
 refine lD ?_
 have e:Re.of 65536*Re.rt m*(Re.of 65536*Re.rt m)-Re.of q-Re.of (65536*65536*m-q)=Re.of (65536*65536)*(Re.rt m*Re.rt m-Re.of m):=Re.ext fun k=>by
  simp only[dF,dE,fV];grind
 rw[e,eG,wK h,Int.mul_zero]
theorem Eo {x y:Rat}(h:y≤x):0≤bd x y:=by unfold bd;rw[if_neg (by grind)];split<;>omega
theorem Fb {x y:Rat}(h:x≤y):bd x y≤0:=by
 unfold bd
 split
 ·omega
 ·rw[if_neg (by grind)];omega
theorem Ky {m:Rat}(hm:0≤m) {lo hi:Int}(h:ph lo hi (Re.of m)):ph (kQ lo) (gT hi) (Re.rt m):=by
 obtain⟨h1,h2⟩:=h
 rw[lf] at h1 h2
 have g1:=tF h1
 have g2:=tF h2
 have hq:(0:Rat)≤65536*m:=Rat.mul_nonneg (by decide) hm
 refine⟨?_,?_⟩
 ·refine wn (Bn (d9 _)) (Bo m) ?_
  rw[lf,Bu hm]
  refine Eo ?_
  have h3:=mE (x:=max lo 0*65536) (by omega)
  have h4:((bE (max lo 0*65536)*bE (max lo 0*65536):Int):Rat)≤((max lo 0*65536:Int):Rat):=Rat.intCast_le_intCast.2 h3
  rw[Rat.intCast_mul,Rat.intCast_mul] at h4
  have e65:((65536:Int):Rat)=65536:=rfl
  have h5:((max lo 0:Int):Rat)≤65536*m:=by
   by_cases hl:0≤lo
   ·rw[show max lo 0=lo from by omega];exact g1
   ·rw[show max lo 0=0 from by omega];simpa using hq
  rw[e65] at h4
  unfold kQ
  grind
 ·refine wn (Bo m) (Bn ?_) ?_
  ·unfold gT;have:=d9 (hi*65536);split<;>omega
  have h3:0≤ -di (Re.of 65536*Re.rt m*(Re.of 65536*Re.rt m)-Re.of (((gT hi:Int):Rat)*((gT hi:Int):Rat))):=by
   rw[Bu hm]
   have hh:(0:Int)≤hi:=by
    have:(0:Rat)≤(hi:Rat):=by grind
    exact Rat.intCast_nonneg.1 this
   have h4:hi*65536≤gT hi*gT hi:=by
    unfold gT
    split
    ·rename_i hs
     unfold sQ at hs
     have:=beq_iff_eq.1 hs
     omega
    ·have:=qN (x:=hi*65536) (by omega)
     omega
   have h5:((hi*65536:Int):Rat)≤((gT hi*gT hi:Int):Rat):=Rat.intCast_le_intCast.2 h4
   rw[Rat.intCast_mul,Rat.intCast_mul] at h5
   have e65:((65536:Int):Rat)=65536:=rfl
   rw[e65] at h5
   have:=Fb (x:=65536*65536*m) (y:=((gT hi:Int):Rat)*((gT hi:Int):Rat)) (by grind)
   omega
  rw[←mG] at h3
  refine rc (fun k=>?_) h3
  simp only[dN,dF,dE,fV];grind
theorem yW {k u v U L:Re}(h1:0≤di (k*u-L)) (h2:0≤di (k*v-L)) (g1:rF u U) (g2:rF U v):0≤di (k*U-L):=by
 unfold rF at*
 have e:(v-u)*(k*U-L)=(v-U)*(k*u-L)+(U-u)*(k*v-L):=Re.ext fun j=>by simp only[dF,dE,dM];grind
 have hr:0≤di ((v-U)*(k*u-L)+(U-u)*(k*v-L)):=by
  refine vr ?_ ?_
  ·rw[eG];exact Int.mul_nonneg g2 h1
  ·rw[eG];exact Int.mul_nonneg g1 h2
 rw[←e,eG] at hr
 have e2:di (v-u)=di ((v-U)+(U-u)):=congrArg di (Re.ext fun j=>by simp only[dF,dM];grind)
 rcases du (v-u) with a|a|a
 ·rw[a] at hr;omega
 ·rcases du (U-u) with b|b|b
  ·have:=vK (x:=U-u) (y:=v-U) (by omega) g2
   rw[Bb] at this
   omega
  ·have e3:k*U-L=(k*u-L)+k*(U-u):=Re.ext fun j=>by simp only[dF,dM,dE];grind
   rw[e3,km _ (by rw[eG,b,Int.mul_zero])]
   exact h1
  ·omega
 ·have:=vr g2 g1
  omega
theorem Es {x y u v X U L:Re}(h1:0≤di (x*u-L)) (h2:0≤di (x*v-L)) (h3:0≤di (y*u-L)) (h4:0≤di (y*v-L)) (g1:rF x X) (g2:rF X y) (g3:rF u U) (g4:rF U v):0≤di (X*U-L):=by
 have a:=yW h1 h2 g3 g4
 have b:=yW h3 h4 g3 g4
 rw[mO x U] at a
 rw[mO y U] at b
 have:=yW a b g1 g2
 rw[mO U X] at this
 exact this
theorem JK (a b:Int):gA a b*65536≤a*b∧a*b≤gy a b*65536:=by
 have e:a*b=if (!(decide (a<0)==decide (b<0)))=true then-Db a b else Db a b:=by
  unfold Db
  by_cases ha:a<0<;>by_cases hb:b<0
  ·have h1:(a.natAbs:Int)= -a:=by omega
   have h2:(b.natAbs:Int)= -b:=by omega
   simp[ha,hb,h1,h2];try grind
  ·have h1:(a.natAbs:Int)= -a:=by omega
   have h2:(b.natAbs:Int)=b:=by omega
   simp[ha,hb,h1,h2];try grind
  ·have h1:(a.natAbs:Int)=a:=by omega
   have h2:(b.natAbs:Int)= -b:=by omega
   simp[ha,hb,h1,h2];try grind
  ·have h1:(a.natAbs:Int)=a:=by omega
   have h2:(b.natAbs:Int)=b:=by omega
   simp[ha,hb,h1,h2]
 rw[e]
 unfold gA gy
 generalize Db a b=p
 have hu:p≤rf p*65536:=by unfold rf;split<;>omega
 generalize rf p=u at*
 by_cases hc:(!(decide (a<0)==decide (b<0)))=true
 ·rw[if_pos hc,if_pos hc,if_pos hc];omega
 ·rw[if_neg hc,if_neg hc,if_neg hc];omega
theorem Ll {x y u v:Int}{X U:Re}(h:ph x y X) (g:ph u v U):ph (sH x y u v 4) (sp x y u v 4) (X*U):=by
 have lo: ∀a b:Int,sH x y u v 4≤gA a b→0≤di (Re.of (a:Rat)*Re.of (b:Rat)-Re.of ((sH x y u v 4*65536:Int):Rat)):=by
  intro a b hl
  rw[lf]
  refine of_le ?_
  rw[←Rat.intCast_mul]
  exact Rat.intCast_le_intCast.2 (by have:=(JK a b).1;omega)
 have hi: ∀a b:Int,gy a b≤sp x y u v 4→0≤di (-Re.of (a:Rat)*Re.of (b:Rat)-Re.of (-((sp x y u v 4*65536:Int):Rat))):=by
  intro a b hl
  rw[EL,lf]
  refine of_le ?_
  have h1:((a*b:Int):Rat)≤((sp x y u v 4*65536:Int):Rat):=Rat.intCast_le_intCast.2 (by have:=(JK a b).2;omega)
  rw[Rat.intCast_mul] at h1
  grind
 have hlo:sH x y u v 4=min (min (min (min 2305843009213693952 (gA x u)) (gA x v)) (gA y u)) (gA y v):=rfl
 have hhi:sp x y u v 4=max (max (max (max (-2305843009213693952) (gy x u)) (gy x v)) (gy y u)) (gy y v):=rfl
 have e65:((65536:Int):Rat)=65536:=rfl
 have p65:di (Re.of 65536)=1:=by rw[gG];decide+kernel
 refine⟨?_,?_⟩
 ·have hb:=Es (lo x u (by omega)) (lo x v (by omega)) (lo y u (by omega)) (lo y v (by omega)) h.1 h.2 g.1 g.2
  have e:di (Re.of 65536*(Re.of 65536*(X*U)-Re.of ((sH x y u v 4:Int):Rat)))=di (Re.of 65536*X*(Re.of 65536*U)-Re.of ((sH x y u v 4*65536:Int):Rat)):=congrArg di (Re.ext fun k=>by
   simp only[dF,dE,fV,Rat.intCast_mul,e65];grind)
  rw[←e,eG,p65,Int.one_mul] at hb
  exact hb
 ·have n1:rF (-Re.of (y:Rat)) (-(Re.of 65536*X)):=rc (fun k=>by simp only[dF,dN];grind) h.2
  have n2:rF (-(Re.of 65536*X)) (-Re.of (x:Rat)):=rc (fun k=>by simp only[dF,dN];grind) h.1
  have hb:=Es (hi y u (by omega)) (hi y v (by omega)) (hi x u (by omega)) (hi x v (by omega)) n1 n2 g.1 g.2
  have e:di (Re.of 65536*(Re.of ((sp x y u v 4:Int):Rat)-Re.of 65536*(X*U)))=di (-(Re.of 65536*X)*(Re.of 65536*U)-Re.of (-((sp x y u v 4*65536:Int):Rat))):=congrArg di (Re.ext fun k=>by
   simp only[dF,dE,fV,dN,Rat.intCast_mul,e65];grind)
  rw[←e,eG,p65,Int.one_mul] at hb
  exact hb
theorem G0 {x y u v:Int}{X U:Re}(h:ph x y X) (g:ph u v U) (hk:qm x y u v 4=true):ph (pL x y u v) (pH x y u v) (X*U):=by
 unfold pL pH;rw[hk,if_pos rfl,if_pos rfl];exact Ll h g
theorem Lm {x y u v:Int}{X U:Re}(h:ph x y X) (g:ph u v U):ph (x+u) (y+v) (X+U):=by
 have a:=rh h.1 g.1
 have b:=rh h.2 g.2
 refine⟨rc (fun k=>?_) a,rc (fun k=>?_) b⟩
 ·simp only[dF,dM,dE,fV,Rat.intCast_add];grind
 ·simp only[dF,dM,dE,fV,Rat.intCast_add];grind
theorem Mb {x y u v:Int}{X U:Re}(h:ph x y X) (g:ph u v U) (hk:qF (x+u) (y+v)=true):ph (aL x y u v) (aH x y u v) (X+U):=by
 unfold aL aH;rw[hk,if_pos rfl,if_pos rfl];exact Lm h g
theorem Jh (X:Re):di (Re.of 65536*X)=di X:=by
 have p65:di (Re.of 65536)=1:=by rw[gG];decide+kernel
 rw[eG,p65,Int.one_mul]
theorem xd {n:Int}(h:0<n):0<di (Re.of (n:Rat)):=by
 rw[gG]
 have h1:(0:Rat)<(n:Rat):=Rat.intCast_pos.2 h
 unfold bd
 rw[if_neg (by grind),if_pos h1];decide
theorem Pj {lo hi:Int}{X:Re}(h:ph lo hi X) (hl:0<lo):di X=1:=by
 have h1:=vK (xd hl) h.1
 have e:di (Re.of (lo:Rat)+(Re.of 65536*X-Re.of (lo:Rat)))=di (Re.of 65536*X):=congrArg di (Re.ext fun k=>by simp only[dF,dM];grind)
 rw[e,Jh] at h1
 have:=du X
 omega
theorem OF {lo hi:Int}{X:Re}(h:ph lo hi X) (hl:hi<0):di X= -1:=by
 have h0:0<di (-Re.of (hi:Rat)):=by
  rw[EL,←Rat.intCast_neg];exact xd (by omega)
 have h1:=vK h0 h.2
 have e:di (-Re.of (hi:Rat)+(Re.of (hi:Rat)-Re.of 65536*X))=di (-(Re.of 65536*X)):=congrArg di (Re.ext fun k=>by simp only[dF,dM,dN];grind)
 rw[e,mG,Jh] at h1
 have:=du X
 omega
theorem Jj {X:Re}(h:ph 0 0 X):di X=0:=by
 have h1:=h.1
 have h2:=h.2
 unfold rF at h1 h2
 have e1:di (Re.of 65536*X-Re.of ((0:Int):Rat))=di (Re.of 65536*X):=congrArg di (Re.ext fun k=>by simp only[dF,fV];grind)
 have e2:di (Re.of ((0:Int):Rat)-Re.of 65536*X)=di (-(Re.of 65536*X)):=congrArg di (Re.ext fun k=>by simp only[dF,fV,dN];grind)
 rw[e1,Jh] at h1
 rw[e2,mG,Jh] at h2
 omega
theorem H6 {lo hi:Int}{X:Re}(h:ph lo hi X) (hs:E0 lo hi=true):ER lo hi=di X:=by
 unfold E0 at hs
 simp only[Bool.or_eq_true,decide_eq_true_eq,Bool.and_eq_true,beq_iff_eq] at hs
 unfold ER
 by_cases h1:lo>0
 ·rw[if_pos h1,Pj h h1]
 ·rw[if_neg h1]
  by_cases h2:hi<0
  ·rw[if_pos h2,OF h h2]
  ·rw[if_neg h2]
   rcases hs with hs|hs|⟨hs,hs'⟩
   ·omega
   ·omega
   ·subst hs hs'
    exact(Jj h).symm
theorem GT {A B C D M N:Rat}(hM:0≤M) (hN:0≤N) (h:GC A B C D M N=true):Jt A B C D M N=di (sN A B C D M N):=by
 unfold GC at h
 rw[Bool.and_eq_true] at h
 obtain⟨h3,hs⟩:=h
 rw[(yx h3).1]
 unfold BA Lc Mz at h3
 simp only[Bool.and_eq_true] at h3
 obtain⟨⟨⟨k1,k2⟩,k3,k4,k5,k6,k7,k8,k9⟩,k10,k11,k12,k13⟩:=h3
 have im:=Ky hM (Ch k1)
 have in_:=Ky hN (Ch k2)
 have ib:ph (Kl B M) (KB B M) _:=G0 (Ch k3) im k4
 have ic:ph (Kl C N) (KB C N) _:=G0 (Ch k5) in_ k6
 have imn:ph (G2 M N) (Im M N) _:=G0 im in_ k8
 have id':ph (Pz D M N) (Pu D M N) _:=G0 (Ch k7) imn k9
 have iab:ph (I4 A B M) (IS A B M) _:=Mb (Ch k10) ib k11
 have icd:ph (HN C D M N) (G5 C D M N) _:=Mb ic id' k12
 have is':ph (Ob A B C D M N) (Nl A B C D M N) _:=Mb iab icd k13
 rw[H6 is' hs]
 refine congrArg di (Re.ext fun k=>?_)
 unfold sN jv
 simp only[dM,dE,fV];grind
theorem In {A B C D M N:Rat}(hM:0≤M) (hN:0≤N):sL A B C D M N=di (sN A B C D M N):=by
 unfold sL
 rw[if_neg (by rintro(h|h)<;>grind)]
 split
 ·rename_i h;exact GT hM hN h
 ·exact jm hM hN
theorem rb {x:Int}(h:0<x):0<bE x:=by
 have h1:=qN (x:=x) (by omega)
 have h2:=d9 x
 by_cases e:bE x=0
 ·rw[e] at h1;omega
 ·omega
theorem Rz.rt {k:Nat}{c:Rat}(h:Rz k c):Rz k (rt c):=Rz.of h.n.isq h.d.isq (by have:=rb (den_pos c);omega)
theorem wD {c:Rat}(h:iX c=true):cQ (if iX c then bE c.num else 0) (if iX c then bE (c.den:Int) else 0)=cR (rt c):=by
 have:=Hj h
 unfold dQ dR at this
 injection this
def zR:List CellD:=[.b false,.s 0 [],.b false,.s 0 [],.b false,.s 0 [],.b false,.s 0 [],.b false,.s 0 [],.b false,.s 0 []]
theorem zS {a b c:Rat}(ha:Rz 10000 a) (hb:Rz 10000 b) (hc:Rz 10000 c) (h0: ¬c<0) (hs:iX c=true):Ok Tryz.prog 327 [dR a,dR b,dR c] [.a ((cR (a+b*rt c)++cR 0++cR 0)),.c (.i .i64 0)]:=by
 have ka:Rz 60000 a:=ha.m_
 have kb:Rz 60000 b:=hb.m_
 have kc:Rz 60000 c:=hc.m_
 have kt:Rz 10000 (rt c):=hc.rt
 refine Ok.fn Tryz.func327 30 [.cell 6 67,.tmp 7] rfl<|aa<|ab<|am 3<|az (ah gj rfl) rfl<|ai<|aa<|aa<|ab<|am 1<|ak (aj rfl (bV))<|ai ?_
 refine ay rfl (fun hc1=>?_) (fun hc1=>?_)
 ·exact absurd (Cb hc1) h0
 ·refine aq<|aa<|aa<|ab<|am 1<|ak (aj rfl (j6 (aO hc)))<|am 3<|az (ah br rfl) rfl<|ai<|aa<|ab<|ai ?_
  refine ay rfl (fun hc2=>?_) (fun hc2=>?_)
  ·refine Dw.weak (σ':=⟨30,[(3,.p 3 0),(4,.p 4 0),(6,.p 6 0),(8,.p 8 0)],[(3,31,cR a),(4,31,cR b),(6,67,zR),(8,31,cR (rt c))]⟩) (aW ⟨rfl,rfl,rfl,rfl,trivial⟩ ⟨rfl,rfl,rfl,by rw[←wD hs];rfl,trivial⟩ rfl) ?_
   refine aa<|aN 6 rfl rfl<|an 3<|ag (aj rfl (bZ (aO hb) (MT)))<|ag (aj rfl (dK (aO ha) (aO (Rz.mul hb (by assumption)))))<|ag (aj rfl (iU))<|aR<|ar<|ai<|al ?_
   exact ao (bh iL rfl (aC ae))
  ·exact absurd hs (by rw[hc2];decide)
theorem yV {a b c:Rat}(ha:Rz 10000 a) (hb:Rz 10000 b) (hc:Rz 10000 c) (h0: ¬c<0) (hs:iX c=false):Ok Tryz.prog 327 [dR a,dR b,dR c] [.a ((cR a++cR (rB b c)++cR (rC b c))),.c (.i .i64 0)]:=by
 have ka:Rz 60000 a:=ha.m_
 have kb:Rz 60000 b:=hb.m_
 have kc:Rz 60000 c:=hc.m_
 have kt:Rz 10000 (rt c):=hc.rt
 refine Ok.fn Tryz.func327 30 [.cell 6 67,.tmp 7] rfl<|aa<|ab<|am 3<|az (ah gj rfl) rfl<|ai<|aa<|aa<|ab<|am 1<|ak (aj rfl (bV))<|ai ?_
 refine ay rfl (fun hc1=>?_) (fun hc1=>?_)
 ·exact absurd (Cb hc1) h0
 ·refine aq<|aa<|aa<|ab<|am 1<|ak (aj rfl (j6 (aO hc)))<|am 3<|az (ah br rfl) rfl<|ai<|aa<|ab<|ai ?_
  refine ay rfl (fun hc2=>?_) (fun hc2=>?_)
  ·exact absurd hc2 (by rw[hs];decide)
  ·refine aq<|aa<|ab<|am 3<|ak (aj rfl (kF))<|ai<|al ?_
   exact ao (bh iL rfl (aC ae))
section
variable {P:Program}{f:FuncId}{ds rs:List D0}{x y z u v x' y' z' u' v':Rat}
end
theorem Br {b1 b2 c:Rat}(h:wt b1 b2 c=true):0≤c:=by
 unfold wt at h
 split at h
 ·have:=of_decide_eq_true h;subst this;exact Rat.le_refl
 ·rw[Bool.and_eq_true] at h
  have:=of_decide_eq_true h.1
  grind
theorem KF {b c:Rat}(h:0≤c):0≤zc b c:=by unfold zc;split<;>grind
def QE (a b c:Rat):Re:=jv a b (zc b c)
theorem Mf {a b c p q r:Rat}(hc:0≤c) (hr:0≤r):oW a b c p q r=di (QE a b c-QE p q r):=CU (KF hc) (KF hr)
section
variable {a1 b1 a2 b2 c p1 q1 p2 q2 r:Rat}
end
def KP (x y b1 b2 c:Rat):Rat:=x*x+y*y+(b1*b1+b2*b2)*c
def L6 (x y b1 b2:Rat):Rat:=(x*b1+y*b2)+(x*b1+y*b2)
theorem K5 {x y b1 b2 c:Rat}(hv:wt b1 b2 c=true) (h:L6 x y b1 b2≠0):0<c∧iX c=false:=by
 have hb: ¬(b1=0∧b2=0):=by
  rintro⟨rfl,rfl⟩
  apply h;unfold L6;grind
 unfold wt at hv
 rw[if_neg hb,Bool.and_eq_true] at hv
 exact⟨of_decide_eq_true hv.1,by simpa using hv.2⟩
theorem NH {a b c:Rat}:a*a+b*b*cc b (zc b c) (zc b c)=a*a+b*b*c:=by
 by_cases h:b=0
 ·subst h;grind
 ·rw[zm h,qf h]
theorem M8 {a b c:Rat}(hc:b≠0→c≠0):rB (a*b+b*a) (cc b (zc b c) (zc b c))=a*b+a*b:=by
 unfold rB
 split
 ·rename_i h
  by_cases hb:b=0
  ·subst hb;grind
  ·rw[zm hb,qf hb] at h
   rcases h with h|h
   ·grind
   ·exact absurd h (hc hb)
 ·grind
theorem Nb {a b c:Rat}(hc:b≠0→c≠0):rC (a*b+b*a) (cc b (zc b c) (zc b c))=zc (a*b+a*b) c:=by
 have e:a*b+b*a=a*b+a*b:=by grind
 rw[e]
 unfold rC
 by_cases hb:b=0
 ·subst hb
  rw[if_pos (.inl (by grind)),Ip (by grind)]
 ·rw[zm hb,qf hb]
  by_cases h:a*b+a*b=0
  ·rw[if_pos (.inl h),Ip h]
  ·rw[if_neg (fun e=>e.elim h (hc hb)),qf h]
theorem L2 {B1 B2 c:Rat}: ¬ML B1 (zc B1 c) B2 (zc B2 c):=by
 rintro⟨h1,h2,h3⟩
 rw[qf h1,qf h2] at h3
 exact h3 rfl
theorem Qo {B1 B2 c:Rat}(hc:B1+B2≠0→c≠0):rB (B1+B2) (cc B1 (zc B1 c) (zc B2 c))=B1+B2:=by
 unfold rB
 split
 ·rename_i h
  by_cases hs:B1+B2=0
  ·exact hs.symm
  ·exfalso
   rcases h with h|h
   ·exact hs h
   ·by_cases h1:B1=0
    ·rw[KK h1] at h
     have h2:B2≠0:=fun e=>hs (by grind)
     rw[qf h2] at h
     exact hc hs h
    ·rw[zm h1,qf h1] at h
     exact hc hs h
 ·rfl
theorem PH {B1 B2 c:Rat}(hc:B1+B2≠0→c≠0):rC (B1+B2) (cc B1 (zc B1 c) (zc B2 c))=zc (B1+B2) c:=by
 unfold rC
 by_cases hs:B1+B2=0
 ·rw[if_pos (.inl hs),Ip hs]
 ·have e:cc B1 (zc B1 c) (zc B2 c)=c:=by
   by_cases h1:B1=0
   ·rw[KK h1,qf (fun e=>hs (by grind))]
   ·rw[zm h1,qf h1]
  rw[e,if_neg (fun e=>e.elim hs (hc hs)),qf hs]
theorem KI (a v:Rat):a+ -v=a-v:=by grind
section
variable {P:Program}{f:FuncId}{ds rs:List D0}{x y z x' y' z':Rat}
theorem H7 (h:Ok P f ds (.a (cR x++cR y++cR z)::rs)) (e1:x=x') (e2:y=y') (e3:z=z'):Ok P f ds (.a (cR x'++cR y'++cR z')::rs):=by subst e1 e2 e3;exact h
end
theorem Oy (x y b1 b2 c:Rat):(x*x+b1*b1*c)+(y*y+b2*b2*c)=KP x y b1 b2 c:=by unfold KP;grind
theorem Fv (x y b1 b2:Rat):(x*b1+x*b1)+(y*b2+y*b2)=L6 x y b1 b2:=by unfold L6;grind
theorem Nq {b1 b2 c:Rat}(h:wt b1 b2 c=true):(b1≠0→c≠0)∧(b2≠0→c≠0):=by
 have key: ¬(b1=0∧b2=0)→c≠0:=by
  intro hn e
  unfold wt at h
  rw[if_neg hn,Bool.and_eq_true] at h
  have:=of_decide_eq_true h.1
  rw[e] at this
  exact absurd this (by decide)
 exact⟨fun hb=>key (fun e=>hb e.1),fun hb=>key (fun e=>hb e.2)⟩
end Go.Proofs.YtacopbfkmnpfgaaGreat
