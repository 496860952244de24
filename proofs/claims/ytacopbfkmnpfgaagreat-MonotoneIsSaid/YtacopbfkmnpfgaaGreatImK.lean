/-Plain:radical.quick:intervals through the sum. -/
import Derived.Test.YtacopbfkmnpfgaaGreatImJ
namespace Go.Proofs.YtacopbfkmnpfgaaGreat
open Go Go.RowKit
def Bd (x:Int):Prop:= -2305843009213693952≤x∧x≤2305843009213693952
theorem Bd.zero:Bd 0:=by unfold Bd;omega
def gL (e:Rat):Int:=if fw e then fG e else 0
def gH (e:Rat):Int:=if fw e then fu e else 0
theorem nv (e:Rat):Bd (gL e):=by
 unfold gL;split
 ·rename_i h;have:=vK h;exact⟨this.1,this.2.1⟩
 ·exact Bd.zero
theorem mQ (e:Rat):Bd (gH e):=by
 unfold gH;split
 ·rename_i h;have:=vK h;exact⟨this.2.2.1,this.2.2.2⟩
 ·exact Bd.zero
theorem ue (e:Rat):gL e≤gH e:=by
 unfold gL gH;split
 ·exact MW e
 ·exact Int.le_refl _
theorem B3 {e:Rat}(h: ¬e<0): ¬gH e<0:=by
 unfold gH;split
 ·have:=q9 h;omega
 ·omega
theorem CS (e:Rat):Bd (jC (gL e)):=by
 have:=FN (x:=gL e) (y:=0) (nv e).2 (by omega) (by omega)
 unfold Bd;omega
theorem Cj {e:Rat}(h: ¬e<0):Bd (gE (gH e)):=by
 have:=FN (x:=0) (y:=gH e) (by omega) (by have:=B3 h;omega) (mQ e).2
 unfold Bd;omega
theorem Qm (x y:Int):gZ x y≤ia x y:=by
 have h:ES x y/65536≤sI (ES x y):=by unfold sI;split<;>omega
 unfold gZ ia;split<;>omega
theorem R5 (x y u v:Int):tc x y u v 4≤sj x y u v 4:=by
 exact Int.le_trans (Int.min_le_right _ _) (Int.le_trans (Qm _ _) (Int.le_max_right _ _))
def pL (x y u v:Int):Int:=if qF x y u v 4 then tc x y u v 4 else 0
def pH (x y u v:Int):Int:=if qF x y u v 4 then sj x y u v 4 else 0
theorem uZ (x y u v:Int):Bd (pL x y u v):=by
 unfold pL;split
 ·rename_i h;have:=PC 4 h;exact⟨this.1,this.2.1⟩
 ·exact Bd.zero
theorem uM (x y u v:Int):Bd (pH x y u v):=by
 unfold pH;split
 ·rename_i h;have:=PC 4 h;exact⟨this.2.2.1,this.2.2.2⟩
 ·exact Bd.zero
theorem ru (x y u v:Int):pL x y u v≤pH x y u v:=by
 unfold pL pH;split
 ·exact R5 x y u v
 ·exact Int.le_refl _
def aL (x y u v:Int):Int:=if oo (x+u) (y+v) then x+u else 0
def aH (x y u v:Int):Int:=if oo (x+u) (y+v) then y+v else 0
theorem C5 {x y u v:Int}(h:x≤y) (h2:u≤v):Bd (aL x y u v):=by
 unfold aL;split
 ·rename_i h3;have:=Cx h3;unfold Bd;omega
 ·exact Bd.zero
theorem Db {x y u v:Int}(h:x≤y) (h2:u≤v):Bd (aH x y u v):=by
 unfold aH;split
 ·rename_i h3;have:=Cx h3;unfold Bd;omega
 ·exact Bd.zero
theorem fx {e:Rat}(h:Rz 40000 e):Ok Tryz.prog 253 [dR e] [.a ([.i .i64 (gL e)]++[.i .i64 (gH e)]),.c (.b (fw e))]:=jt h
theorem zD {e:Rat}(h: ¬e<0):Ok Tryz.prog 297 [.a ([.i .i64 (gL e)]++[.i .i64 (gH e)])] [.a ([.i .i64 (jC (gL e))]++[.i .i64 (gE (gH e))]),.c (.b true)]:=
 zQ (nv e).1 (nv e).2 (mQ e).1 (mQ e).2 (B3 h)
theorem nR {x y u v:Int}(h1:Bd x) (h2:Bd y) (h3:Bd u) (h4:Bd v):Ok Tryz.prog 258 [.a ([.i .i64 x]++[.i .i64 y]),.a ([.i .i64 u]++[.i .i64 v])] [.a ([.i .i64 (pL x y u v)]++[.i .i64 (pH x y u v)]),.c (.b (qF x y u v 4))]:=
 Dl h1.1 h1.2 h2.1 h2.2 h3.1 h3.2 h4.1 h4.2
theorem nO {x y u v:Int}(h1:Bd x) (h2:Bd y) (h3:Bd u) (h4:Bd v):Ok Tryz.prog 254 [.a ([.i .i64 x]++[.i .i64 y]),.a ([.i .i64 u]++[.i .i64 v])] [.a ([.i .i64 (aL x y u v)]++[.i .i64 (aH x y u v)]),.c (.b (oo (x+u) (y+v)))]:=
 BK h1.1 h1.2 h2.1 h2.2 h3.1 h3.2 h4.1 h4.2
theorem eK {ok c:Bool}{x y:Int}:OkP Tryz.prog 296 251 [.b ok] [.b (ok&&c)] [.a ([.i .i64 x]++[.i .i64 y]),.c (.b c)] [.a ([.i .i64 x]++[.i .i64 y])]:=Lj ok c x y
def Ny (B M:Rat):Int:=pL (gL B) (gH B) (jC (gL M)) (gE (gH M))
def Mr (B M:Rat):Int:=pH (gL B) (gH B) (jC (gL M)) (gE (gH M))
def TW (B M:Rat):Bool:=qF (gL B) (gH B) (jC (gL M)) (gE (gH M)) 4
def KQ (M N:Rat):Int:=pL (jC (gL M)) (gE (gH M)) (jC (gL N)) (gE (gH N))
def JR (M N:Rat):Int:=pH (jC (gL M)) (gE (gH M)) (jC (gL N)) (gE (gH N))
def S3 (M N:Rat):Bool:=qF (jC (gL M)) (gE (gH M)) (jC (gL N)) (gE (gH N)) 4
def SE (D M N:Rat):Int:=pL (gL D) (gH D) (KQ M N) (JR M N)
def SC (D M N:Rat):Int:=pH (gL D) (gH D) (KQ M N) (JR M N)
def Uh (D M N:Rat):Bool:=qF (gL D) (gH D) (KQ M N) (JR M N) 4
def J9 (A B M:Rat):Int:=aL (gL A) (gH A) (Ny B M) (Mr B M)
def Ke (A B M:Rat):Int:=aH (gL A) (gH A) (Ny B M) (Mr B M)
def S2 (A B M:Rat):Bool:=oo (gL A+Ny B M) (gH A+Mr B M)
def Lr (C D M N:Rat):Int:=aL (Ny C N) (Mr C N) (SE D M N) (SC D M N)
def Ks (C D M N:Rat):Int:=aH (Ny C N) (Mr C N) (SE D M N) (SC D M N)
def S9 (C D M N:Rat):Bool:=oo (Ny C N+SE D M N) (Mr C N+SC D M N)
def Qa (A B C D M N:Rat):Int:=aL (J9 A B M) (Ke A B M) (Lr C D M N) (Ks C D M N)
def RB (A B C D M N:Rat):Int:=aH (J9 A B M) (Ke A B M) (Lr C D M N) (Ks C D M N)
def Ui (A B C D M N:Rat):Bool:=oo (J9 A B M+Lr C D M N) (Ke A B M+Ks C D M N)
def OX (M N:Rat):Bool:=fw M&&fw N
def Pe (B C D M N:Rat):Bool:=OX M N&&(fw B&&(TW B M&&(fw C&&(TW C N&&(fw D&&(S3 M N&&Uh D M N))))))
def BU (A B C D M N:Rat):Bool:=Pe B C D M N&&(fw A&&(S2 A B M&&(S9 C D M N&&Ui A B C D M N)))
def Jn (A B C D M N:Rat):Bool:=BU A B C D M N&&EQ (Qa A B C D M N) (RB A B C D M N)
def MV (A B C D M N:Rat):Int:=if BU A B C D M N then D3 (Qa A B C D M N) (RB A B C D M N) else 0
theorem vM {A B C D M N:Rat}(h:BU A B C D M N=false):MV A B C D M N=0∧Jn A B C D M N=false:=by
 unfold MV Jn;rw[h];exact⟨rfl,rfl⟩
theorem Aq {A B C D M N:Rat}(h:BU A B C D M N=true):MV A B C D M N=D3 (Qa A B C D M N) (RB A B C D M N)∧Jn A B C D M N=EQ (Qa A B C D M N) (RB A B C D M N):=by
 unfold MV Jn;rw[h];exact⟨rfl,rfl⟩
theorem Fv {A B C D M N:Rat}(h:Pe B C D M N=false):BU A B C D M N=false:=by unfold BU;rw[h];rfl
theorem Pw {A B C D M N:Rat}(h:OX M N=false):BU A B C D M N=false:=Fv (by unfold Pe;rw[h];rfl)
theorem Ar {b c:Bool}(h:(!b)=true) (e:c=b):c=false:=by rw[e];simpa using h
theorem Oe {b c:Bool}(h:(!b)=false) (e:c=b):c=true:=by rw[e];simpa using h
theorem Bj {A B C D M N:Rat}(hA:Rz 40000 A) (hB:Rz 40000 B) (hC:Rz 40000 C) (hD:Rz 40000 D) (hM:Rz 40000 M) (hN:Rz 40000 N) (hm: ¬M<0) (hn: ¬N<0):Ok Tryz.prog 219 [.a ((cR A++cR B++cR C++cR D++cR M++cR N))] [.c (.i .i64 (MV A B C D M N)),.c (.b (Jn A B C D M N))]:=by
 refine Ok.fn Tryz.func219 126 [.tmp 2,.tmp 3] rfl<|aa<|ab<|ag<|aa<|ab<|aj (aD (us:=([.b true])) Se QR rfl rfl rfl) ?_
 refine ag<|aa<|ab<|al 3<|aj (aA (cR M) az rfl)<|aj (ak rfl (fx (aO hM)))<|al 2<|BH (dY rfl rfl rfl rfl rfl (eK) rfl) ?_
 refine aj (ak rfl (zD (by assumption)))<|al 2<|BH (dY rfl rfl rfl rfl rfl (eK) rfl) ?_
 refine aw (ah dC rfl) rfl<|ag<|aa<|ab<|al 3<|aj (aA (cR N) az rfl)<|aj (ak rfl (fx (aO hN)))<|al 2<|BH (dY rfl rfl rfl rfl rfl (eK) rfl) ?_
 refine aj (ak rfl (zD (by assumption)))<|al 2<|BH (dY rfl rfl rfl rfl rfl (eK) rfl) ?_
 refine aw (ah dC rfl) rfl<|ag<|aa<|aa<|ab<|al 1<|aj (lN rfl rfl) ?_
 refine ag ?_
 refine au rfl (fun hc1=>?_) (fun hc1=>?_)
 ·refine aa<|ab<|ag<|am ?_
  have hk:BU A B C D M N=false:=Pw (Ar hc1 (by unfold OX;simp only[Bool.true_and,Bool.and_true];try rfl))
  rw[(vM hk).1,(vM hk).2]
  exact ao (aC (aC ae))
 ·refine ap<|aa<|dr 14 [12] bd (by kernel_rfl) rfl rfl<|an 3<|ai (aA (cR B) az rfl)<|ai (ak rfl (fx (aO hB)))<|an 2<|ni (dY rfl rfl rfl rfl rfl (eK) rfl) rfl rfl rfl rfl rfl (by kernel_rfl) rfl ?_
  refine an 1<|ai (ak rfl (nR (nv _) (mQ _) (CS _) (Cj (by assumption))))<|an 2<|ni (dY rfl rfl rfl rfl rfl (eK) rfl) rfl rfl rfl rfl rfl (by kernel_rfl) rfl ?_
  refine bh (ah dC rfl) rfl<|aV<|uV<|ag<|aa<|dr 14 [12] bd (by kernel_rfl) rfl rfl<|an 3<|ai (aA (cR C) az rfl)<|ai (ak rfl (fx (aO hC)))<|an 2<|ni (dY rfl rfl rfl rfl rfl (eK) rfl) rfl rfl rfl rfl rfl (by kernel_rfl) rfl ?_
  refine an 1<|ai (ak rfl (nR (nv _) (mQ _) (CS _) (Cj (by assumption))))<|an 2<|ni (dY rfl rfl rfl rfl rfl (eK) rfl) rfl rfl rfl rfl rfl (by kernel_rfl) rfl ?_
  refine bh (ah dC rfl) rfl<|aV<|uV<|ag<|aa<|dr 20 [12] bd (by kernel_rfl) rfl rfl<|an 3<|ai (aA (cR D) az rfl)<|ai (ak rfl (fx (aO hD)))<|an 2<|ni (dY rfl rfl rfl rfl rfl (eK) rfl) rfl rfl rfl rfl rfl (by kernel_rfl) rfl ?_
  refine an 3<|ai (ak rfl (nR (CS _) (Cj (by assumption)) (CS _) (Cj (by assumption))))<|an 2<|ni (dY rfl rfl rfl rfl rfl (eK) rfl) rfl rfl rfl rfl rfl (by kernel_rfl) rfl ?_
  refine ai (ak rfl (nR (nv _) (mQ _) (uZ _ _ _ _) (uM _ _ _ _)))<|an 2<|ni (dY rfl rfl rfl rfl rfl (eK) rfl) rfl rfl rfl rfl rfl (by kernel_rfl) rfl ?_
  refine bh (ah dC rfl) rfl<|aV<|jy<|ag<|aa<|aa<|ab<|al 1<|aj (lN rfl rfl) ?_
  refine ag ?_
  refine au rfl (fun hc2=>?_) (fun hc2=>?_)
  ·refine aa<|ab<|ag<|am ?_
   have hk:BU A B C D M N=false:=Fv (Ar hc2 (by unfold Pe OX;simp only[Bool.true_and,Bool.and_true,Bool.and_assoc];try rfl))
   rw[(vM hk).1,(vM hk).2]
   exact ao (aC (aC ae))
  ·refine ap<|aa<|dr 26 [12] bd (by kernel_rfl) rfl rfl<|an 4<|ai (aA (cR A) az rfl)<|ai (ak rfl (fx (aO hA)))<|an 2<|ni (dY rfl rfl rfl rfl rfl (eK) rfl) rfl rfl rfl rfl rfl (by kernel_rfl) rfl ?_
   refine an 1<|ai (ak rfl (nO (nv _) (mQ _) (uZ _ _ _ _) (uM _ _ _ _)))<|an 2<|ni (dY rfl rfl rfl rfl rfl (eK) rfl) rfl rfl rfl rfl rfl (by kernel_rfl) rfl ?_
   refine an 3<|ai (ak rfl (nO (uZ _ _ _ _) (uM _ _ _ _) (uZ _ _ _ _) (uM _ _ _ _)))<|an 2<|ni (dY rfl rfl rfl rfl rfl (eK) rfl) rfl rfl rfl rfl rfl (by kernel_rfl) rfl ?_
   refine ai (ak rfl (nO (C5 (by first|exact ue _|exact ru _ _ _ _) (by first|exact ue _|exact ru _ _ _ _)) (Db (by first|exact ue _|exact ru _ _ _ _) (by first|exact ue _|exact ru _ _ _ _)) (C5 (by first|exact ue _|exact ru _ _ _ _) (by first|exact ue _|exact ru _ _ _ _)) (Db (by first|exact ue _|exact ru _ _ _ _) (by first|exact ue _|exact ru _ _ _ _)))) ?_
   refine an 2<|ni (dY rfl rfl rfl rfl rfl (eK) rfl) rfl rfl rfl rfl rfl (by kernel_rfl) rfl ?_
   refine bh (ah dC rfl) rfl<|aV<|Ee<|ag<|aa<|aa<|ab<|al 1<|aj (lN rfl rfl) ?_
   refine ag ?_
   refine au rfl (fun hc3=>?_) (fun hc3=>?_)
   ·refine aa<|ab<|ag<|am ?_
    have hk:BU A B C D M N=false:=Ar hc3 (by unfold BU Pe OX;simp only[Bool.true_and,Bool.and_true,Bool.and_assoc];try rfl)
    rw[(vM hk).1,(vM hk).2]
    exact ao (aC (aC ae))
   ·refine ap<|aa<|ab<|al 1<|aj (ak rfl (yy))<|ag<|am ?_
    have hk:BU A B C D M N=true:=Oe hc3 (by unfold BU Pe OX;simp only[Bool.true_and,Bool.and_true,Bool.and_assoc];try rfl)
    rw[(Aq hk).1,(Aq hk).2]
    exact ao (aC (aC ae))
def tT (A B C D M N:Rat):Int:=if M<0∨N<0 then 0 else if Jn A B C D M N=true then MV A B C D M N else iH A B C D M N
theorem IB {A B C D M N:Rat}(h:M<0∨N<0):tT A B C D M N=0:=by unfold tT;rw[if_pos h]
theorem Oj {A B C D M N:Rat}(h: ¬M<0) (h': ¬N<0) (hq:Jn A B C D M N=true):tT A B C D M N=MV A B C D M N:=by unfold tT;rw[if_neg (fun e=>e.elim h h'),if_pos hq]
theorem wj {A B C D M N:Rat}(h: ¬M<0) (h': ¬N<0) (hq:Jn A B C D M N=false):tT A B C D M N=kT (cg A B M) (cg C D M*a7 N 0) (cg (A*A+M*(B*B)-N*(C*C+M*(D*D))) (A*B-N*(C*D)+(A*B-N*(C*D))) M):=by
 unfold tT;rw[if_neg (fun e=>e.elim h h'),hq,if_neg (by decide),oh h h']
 unfold vj oG
 rw[Rat.mul_comm M (B*B),Rat.mul_comm M (D*D)]
def l9 (a b c d e f:Rat):Int:=
 if (a7 b 0==0)=true∧(a7 e 0==0)=true then a7 a d else
 if Ag (dk a b c) (dk d e f) (dz a b c) (dA a b c) (dz d e f) (dA d e f)=true then BD (dk a b c) (dk d e f) (dz a b c) (dA a b c) (dz d e f) (dA d e f) else
 if (a7 c f==0)=true then cg (a-d) (b-e) c else tT (a-d) b (-e) 0 c f
section
variable {a b c d e f:Rat}
theorem Ov (h:(a7 b 0==0)=true) (h2:(a7 e 0==0)=true):l9 a b c d e f=a7 a d:=by unfold l9;rw[if_pos ⟨h,h2⟩]
theorem FU (h: ¬((a7 b 0==0)=true∧(a7 e 0==0)=true)) (h2:Ag (dk a b c) (dk d e f) (dz a b c) (dA a b c) (dz d e f) (dA d e f)=true):
 l9 a b c d e f=BD (dk a b c) (dk d e f) (dz a b c) (dA a b c) (dz d e f) (dA d e f):=by unfold l9;rw[if_neg h,if_pos h2]
theorem Jh (h: ¬((a7 b 0==0)=true∧(a7 e 0==0)=true)) (h2:Ag (dk a b c) (dk d e f) (dz a b c) (dA a b c) (dz d e f) (dA d e f)=false) (h3:(a7 c f==0)=true):
 l9 a b c d e f=cg (a-d) (b-e) c:=by unfold l9;rw[if_neg h,h2,if_neg (by decide),if_pos h3]
theorem E5 (h: ¬((a7 b 0==0)=true∧(a7 e 0==0)=true)) (h2:Ag (dk a b c) (dk d e f) (dz a b c) (dA a b c) (dz d e f) (dA d e f)=false) (h3:(a7 c f==0)=false):
 l9 a b c d e f=tT (a-d) b (-e) 0 c f:=by unfold l9;rw[if_neg h,h2,if_neg (by decide),h3,if_neg (by decide)]
theorem NA {b c:Bool}(h:b=false): ¬(b=true∧c=true):=fun e=>by rw[h] at e;exact absurd e.1 (by decide)
theorem NN {b c:Bool}(h:c=false): ¬(b=true∧c=true):=fun e=>by rw[h] at e;exact absurd e.2 (by decide)
end
theorem mu {a b:Rat}(ha:Rz 60000 a) (hb:Rz 60000 b):Ok Tryz.prog 220 [dR a,dR b] [dR (a+b)]:=by
 refine Ok.fn Tryz.func220 8 [.cell 4 31] rfl<|aa<|ab<|al 2<|aw (ah br rfl) rfl<|aq<|aa<|ab<|al 2<|aj (ak rfl (nj (aO ha) (aO hb)))<|ag<|am ?_
 exact ao (bb az rfl ae)
theorem vH {A B C D M N:Rat}(hA:Rz 1600 A) (hB:Rz 1600 B) (hC:Rz 1600 C) (hD:Rz 1600 D) (hM:Rz 1600 M) (hN:Rz 1600 N):Ok Tryz.prog 137 [.a ((cR A++cR B++cR C++cR D++cR M++cR N))] [.c (.i .i64 (tT A B C D M N))]:=by
 have z1:=gj (fO C D M) (dK N 0)
 have z2:=gj (fO A B M) (fO (A*A+M*(B*B)-N*(C*C+M*(D*D))) ((A*B-N*(C*D))+(A*B-N*(C*D))) M)
 have kA:Rz 40000 A:=hA.m_
 have kB:Rz 40000 B:=hB.m_
 have kC:Rz 40000 C:=hC.m_
 have kD:Rz 40000 D:=hD.m_
 have kM:Rz 40000 M:=hM.m_
 have kN:Rz 40000 N:=hN.m_
 refine Ok.fn Tryz.func137 127 [.tmp 2] rfl<|aa<|ab<|ag<|aa<|aa<|ab<|al 1<|aj (aA (cR M) az rfl)<|aj (ak rfl (dw))<|al 1 ?_
 refine cm (bO rfl) (fun c1 hb1=>?_)
 cases c1
 ·have n1:=u4 hb1
  refine al 1<|aj (aA (cR N) az rfl)<|aj (ak rfl (dw))<|ag ?_
  refine au rfl (fun hc2=>?_) (fun hc2=>?_)
  ·refine aa<|ab<|ag<|am ?_
   rw[IB (.inr (yL hc2))]
   exact ao (aC ae)
  ·have n2:=u4 hc2
   refine ap<|aa<|aa<|ab<|al 1<|aj (ak rfl (Bj (by assumption) (by assumption) (by assumption) (by assumption) (by assumption) (by assumption) (by assumption) (by assumption)))<|ag<|aa<|ab<|ag ?_
   refine au rfl (fun hc3=>?_) (fun hc3=>?_)
   ·refine aa<|ab<|ag<|am ?_
    rw[Oj n1 n2 hc3]
    exact ao (aC ae)
   ·refine ap<|aa<|aM 20 rfl rfl<|an 1<|ai (aA (cR A) az rfl)<|an 1<|ai (aA (cR B) az rfl)<|an 1<|ai (aA (cR M) az rfl)<|ai (ak rfl (j6 (aO hA) (aO hB) (aO hM)))<|an 1<|ai (aA (cR C) az rfl)<|an 1<|ai (aA (cR D) az rfl) ?_
    refine an 1<|ai (aA (cR M) az rfl)<|ai (ak rfl (j6 (aO hC) (aO hD) (aO hM)))<|an 1<|ai (aA (cR N) az rfl)<|ai (ak rfl (dw))<|ai (aG (r:=(cg C D M)*(a7 N 0)) rfl rfl (eB (by omega) (by omega)) rfl) ?_
    refine bJ<|ar<|aq<|aa<|aX<|aa<|ab<|al 2 ?_
    refine cm (bO rfl) (fun c4 hb4=>?_)
    cases c4
    ·refine ag ?_
     refine au rfl (fun hc5=>?_) (fun hc5=>?_)
     ·refine aa<|ab<|ag<|am ?_
      rw[wj n1 n2 hc3,pi hc5]
      exact ao (aC ae)
     ·refine aa<|ab<|ag ?_
      refine au rfl (fun hc6=>?_) (fun hc6=>?_)
      ·refine aa<|ab<|ag<|am ?_
       rw[wj n1 n2 hc3,p7 hc6]
       exact ao (aC ae)
      ·refine ap<|aa<|ab<|ag<|aa<|ab<|ag<|aa<|aM 42 rfl rfl<|an 3<|ai (aA (cR A) az rfl)<|an 1<|ai (aA (cR A) az rfl)<|ai (ak rfl (ek (aO hA) (aO hA))) ?_
       refine an 2<|ai (aA (cR M) az rfl)<|an 2<|ai (aA (cR B) az rfl)<|an 1<|ai (aA (cR B) az rfl)<|ai (ak rfl (ek (aO hB) (aO hB)))<|ai (ak rfl (ek (aO hM) (aO (Rz.mul hB hB))))<|ai (ak rfl (mu (aO (Rz.mul hA hA)) (aO (Rz.mul hM (Rz.mul hB hB)))))<|an 2<|ai (aA (cR N) az rfl)<|an 3<|ai (aA (cR C) az rfl)<|an 1 ?_
       refine ai (aA (cR C) az rfl)<|ai (ak rfl (ek (aO hC) (aO hC)))<|an 2<|ai (aA (cR M) az rfl)<|an 2<|ai (aA (cR D) az rfl)<|an 1<|ai (aA (cR D) az rfl)<|ai (ak rfl (ek (aO hD) (aO hD)))<|ai (ak rfl (ek (aO hM) (aO (Rz.mul hD hD))))<|ai (ak rfl (mu (aO (Rz.mul hC hC)) (aO (Rz.mul hM (Rz.mul hD hD)))))<|ai (ak rfl (ek (aO hN) (aO (Rz.add (Rz.mul hC hC) (Rz.mul hM (Rz.mul hD hD))))))<|ai (ak rfl (iq (aO (Rz.add (Rz.mul hA hA) (Rz.mul hM (Rz.mul hB hB)))) (aO (Rz.mul hN (Rz.add (Rz.mul hC hC) (Rz.mul hM (Rz.mul hD hD)))))))<|bh (ah br rfl) rfl ?_
       refine aV<|bi<|ag<|aa<|aM 18 rfl rfl<|an 2<|ai (aA (cR A) az rfl)<|an 1<|ai (aA (cR B) az rfl)<|ai (ak rfl (ek (aO hA) (aO hB)))<|an 2<|ai (aA (cR N) az rfl)<|an 2<|ai (aA (cR C) az rfl) ?_
       refine an 1<|ai (aA (cR D) az rfl)<|ai (ak rfl (ek (aO hC) (aO hD)))<|ai (ak rfl (ek (aO hN) (aO (Rz.mul hC hD))))<|ai (ak rfl (iq (aO (Rz.mul hA hB)) (aO (Rz.mul hN (Rz.mul hC hD)))))<|bh (ah br rfl) rfl<|aV<|bi<|ag<|aa<|aM 11 rfl rfl<|an 5<|ai (ak rfl (mu (aO (Rz.sub (Rz.mul hA hB) (Rz.mul hN (Rz.mul hC hD)))) (aO (Rz.sub (Rz.mul hA hB) (Rz.mul hN (Rz.mul hC hD))))))<|an 1 ?_
       refine ai (aA (cR M) az rfl)<|ai (ak rfl (j6 (aO (Rz.sub (Rz.add (Rz.mul hA hA) (Rz.mul hM (Rz.mul hB hB))) (Rz.mul hN (Rz.add (Rz.mul hC hC) (Rz.mul hM (Rz.mul hD hD)))))) (aO (Rz.add (Rz.sub (Rz.mul hA hB) (Rz.mul hN (Rz.mul hC hD))) (Rz.sub (Rz.mul hA hB) (Rz.mul hN (Rz.mul hC hD))))) (aO hM)))<|ai (aG (r:=(cg A B M)*(cg (((A*A)+(M*(B*B)))-(N*((C*C)+(M*(D*D))))) (((A*B)-(N*(C*D)))+((A*B)-(N*(C*D)))) M)) rfl rfl (eB (by omega) (by omega)) rfl) ?_
       refine bJ<|ar<|aq<|am ?_
       rw[wj n1 n2 hc3,pE hc6 hb4 hc5]
       exact ao (aC ae)
    ·refine ag<|bo rfl<|aa<|ab<|ag<|am ?_
     rw[wj n1 n2 hc3,ph hb4]
     exact ao (aC ae)
 ·refine ag<|bo rfl<|aa<|ab<|ag<|am ?_
  rw[IB (.inl (yL hb1))]
  exact ao (aC ae)
theorem tW {a b c d e f:Rat}(ha:Rz 20000 a) (hb:Rz 1600 b) (hc:Rz 1600 c) (hd:Rz 20000 d) (he:Rz 1600 e) (hf:Rz 1600 f) (h1:Rz 1600 (a-d)):Ok Tryz.prog 90 [.a ((cR a++cR b++cR c)),.a ((cR d++cR e++cR f))] [.c (.i .i64 (l9 a b c d e f))]:=by
 have ka:Rz 60000 a:=ha.m_
 have la:Rz 40000 a:=ha.m_
 have kb:Rz 60000 b:=hb.m_
 have lb:Rz 40000 b:=hb.m_
 have kc:Rz 60000 c:=hc.m_
 have lc:Rz 40000 c:=hc.m_
 have kd:Rz 60000 d:=hd.m_
 have ld:Rz 40000 d:=hd.m_
 have ke:Rz 60000 e:=he.m_
 have le:Rz 40000 e:=he.m_
 have kf:Rz 60000 f:=hf.m_
 have lf:Rz 40000 f:=hf.m_
 have m2:Rz 1600 (-e):=he.neg
 have m0:Rz 1600 (0:Rat):=Rz.int (n:=0) (Sz.small (by decide) (by decide) (by decide)) (by decide)
 have w1:Rz 20000 (a-d):=h1.m_
 have w2:Rz 20000 (b-e):=(hb.sub he).m_
 have w3:Rz 20000 c:=hc.m_
 refine Ok.fn Tryz.func90 53 [.tmp 4] rfl<|aa<|ab<|ag<|aa<|aa<|ab<|al 1<|aj (aA (cR b) az rfl)<|aj (ak rfl (dw))<|al 1 ?_
 refine cm (bO rfl) (fun c1 hb1=>?_)
 cases c1
 ·refine ag<|ba rfl<|ap<|aa<|aa<|ab<|al 2<|aj (ak rfl (sC (by assumption) (by assumption) (by assumption) (by assumption) (by assumption) (by assumption)))<|ag<|aa<|ab<|ag ?_
  refine au rfl (fun hc2=>?_) (fun hc2=>?_)
  ·refine aa<|ab<|ag<|am ?_
   rw[FU (NA hb1) hc2]
   exact ao (aC ae)
  ·refine ap<|aa<|aa<|ab<|al 1<|aj (aA (cR c) az rfl)<|al 1<|aj (aA (cR f) az rfl)<|aj (ak rfl (lv (aO hc) (aO hf)))<|ag ?_
   refine au rfl (fun hc3=>?_) (fun hc3=>?_)
   ·refine aa<|aM 14 rfl rfl<|an 1<|ai (aA (cR a) az rfl)<|an 1<|ai (aA (cR d) az rfl)<|ai (ak rfl (iq (aO ha) (aO hd)))<|an 1<|ai (aA (cR b) az rfl)<|an 1<|ai (aA (cR e) az rfl)<|ai (ak rfl (iq (aO hb) (aO he)))<|an 1<|ai (aA (cR c) az rfl) ?_
    refine ai (ak rfl (j6 w1 w2 w3))<|bJ<|ar<|aq<|am ?_
    rw[Jh (NA hb1) hc2 hc3]
    exact ao (aC ae)
   ·refine ap<|aa<|ab<|al 2<|aj (ak rfl (zJ (by assumption) (by assumption) (by assumption) (by assumption) (by assumption) (by assumption)))<|aj (ak rfl (vH (by assumption) (by assumption) (by assumption) (by assumption) (by assumption) (by assumption)))<|ag<|am ?_
    rw[E5 (NA hb1) hc2 hc3]
    exact ao (aC ae)
 ·refine al 1<|aj (aA (cR e) az rfl)<|aj (ak rfl (dw))<|ag ?_
  refine au rfl (fun hc4=>?_) (fun hc4=>?_)
  ·refine aa<|ab<|al 1<|aj (aA (cR a) az rfl)<|al 1<|aj (aA (cR d) az rfl)<|aj (ak rfl (lv (aO ha) (aO hd)))<|ag<|am ?_
   rw[Ov hb1 hc4]
   exact ao (aC ae)
  ·refine ap<|aa<|aa<|ab<|al 2<|aj (ak rfl (sC (by assumption) (by assumption) (by assumption) (by assumption) (by assumption) (by assumption)))<|ag<|aa<|ab<|ag ?_
   refine au rfl (fun hc5=>?_) (fun hc5=>?_)
   ·refine aa<|ab<|ag<|am ?_
    rw[FU (NN hc4) hc5]
    exact ao (aC ae)
   ·refine ap<|aa<|aa<|ab<|al 1<|aj (aA (cR c) az rfl)<|al 1<|aj (aA (cR f) az rfl)<|aj (ak rfl (lv (aO hc) (aO hf)))<|ag ?_
    refine au rfl (fun hc6=>?_) (fun hc6=>?_)
    ·refine aa<|aM 14 rfl rfl<|an 1<|ai (aA (cR a) az rfl)<|an 1<|ai (aA (cR d) az rfl)<|ai (ak rfl (iq (aO ha) (aO hd)))<|an 1<|ai (aA (cR b) az rfl)<|an 1<|ai (aA (cR e) az rfl)<|ai (ak rfl (iq (aO hb) (aO he)))<|an 1<|ai (aA (cR c) az rfl) ?_
     refine ai (ak rfl (j6 w1 w2 w3))<|bJ<|ar<|aq<|am ?_
     rw[Jh (NN hc4) hc5 hc6]
     exact ao (aC ae)
    ·refine ap<|aa<|ab<|al 2<|aj (ak rfl (zJ (by assumption) (by assumption) (by assumption) (by assumption) (by assumption) (by assumption)))<|aj (ak rfl (vH (by assumption) (by assumption) (by assumption) (by assumption) (by assumption) (by assumption)))<|ag<|am ?_
     rw[E5 (NN hc4) hc5 hc6]
     exact ao (aC ae)
theorem zr {a b c:Rat}(ha:Rz 10000 a) (hb:Rz 10000 b) (hc:Rz 10000 c):Ok Tryz.prog 362 [.a ((cR a++cR b++cR c))] [.a ((cR (a*a+b*b*cc b c c)++cR (rB (a*b+b*a) (cc b c c))++cR (rC (a*b+b*a) (cc b c c))))]:=by
 have hbad: ¬Om b c b c:=fun h=>h.2.2 rfl
 refine Ok.fn Tryz.func362 12 [.cell 2 67] rfl<|aa<|ab<|al 1<|aw (ah fv rfl) rfl<|aq<|aa<|ab<|al 2<|aj (ak rfl (Eh ha hb hc ha hb hc hbad))<|al 3<|aw (ah fv rfl) rfl<|ag<|aa ?_
 refine ab<|ag<|am ?_
 exact ao (bb g9 rfl ae)
def rk (a1 b1 a2 b2 c p1 q1 p2 q2 r:Rat):Int:=if l9 a1 b1 (zc b1 c) p1 q1 (zc q1 r)≠0 then l9 a1 b1 (zc b1 c) p1 q1 (zc q1 r) else l9 a2 b2 (zc b2 c) p2 q2 (zc q2 r)
theorem JQ {a1 b1 a2 b2 c p1 q1 p2 q2 r:Rat}(h:(l9 a1 b1 (zc b1 c) p1 q1 (zc q1 r) !=0)=true):rk a1 b1 a2 b2 c p1 q1 p2 q2 r=l9 a1 b1 (zc b1 c) p1 q1 (zc q1 r):=by unfold rk;rw[if_pos (by simpa using h)]
theorem Lv {a1 b1 a2 b2 c p1 q1 p2 q2 r:Rat}(h:(l9 a1 b1 (zc b1 c) p1 q1 (zc q1 r) !=0)=false):rk a1 b1 a2 b2 c p1 q1 p2 q2 r=l9 a2 b2 (zc b2 c) p2 q2 (zc q2 r):=by unfold rk;rw[if_neg (by simpa using h)]
def qu (x y:Re):Prop:=0≤ce (y-x)
theorem R6 {x y z:Re}(h:qu x y) (g:qu y z):qu x z:=by
 unfold qu at*
 have e:z-x=(z-y)+(y-x):=Re.ext fun k=>by simp only[bE,bK];grind
 rw[e];exact sH g h
theorem of_le {p q:Rat}(h:p≤q):qu (Re.of p) (Re.of q):=by
 unfold qu
 rw[oU,fQ]
 unfold a7
 rw[if_neg (by grind)]
 split<;>omega
theorem kY {x y:Re}(h: ∀k,x.s k=y.s k) (g:0≤ce x):0≤ce y:=by rw[←Re.ext h];exact g
def mL (lo hi:Int) (x:Re):Prop:=qu (Re.of (lo:Rat)) (Re.of 65536*x)∧qu (Re.of 65536*x) (Re.of (hi:Rat))
theorem l7 {x y u v:Re}(h:qu x y) (g:qu u v):qu (x+u) (y+v):=by
 unfold qu at*
 exact kY (fun k=>by simp only[bE,bK];grind) (sH h g)
theorem M9 (y:Rat):((y.num.fdiv (y.den:Int):Int):Rat)≤y:=by
 have hd:=den_pos y
 have h1:=DA y
 have hp:(0:Rat)<((y.den:Int):Rat):=Rat.intCast_pos.2 hd
 refine pC hp ?_
 rw[h1,←Rat.intCast_mul]
 refine Rat.intCast_le_intCast.2 ?_
 rw[Int.fdiv_eq_ediv_of_nonneg _ (by omega),Int.mul_comm]
 have:=Int.mul_ediv_add_emod y.num (y.den:Int)
 have:=Int.emod_nonneg y.num (show(y.den:Int)≠0 by omega)
 omega
theorem zO (a:Rat):mL (fG a) (fu a) (Re.of a):=by
 have h1:=M9 (a*((65536:Int):Rat))
 have h2:=M9 (-(a*((65536:Int):Rat)))
 have e:((65536:Int):Rat)=65536:=rfl
 rw[e] at h1 h2
 refine⟨?_,?_⟩
 ·rw[iP]
  refine of_le ?_
  unfold fG
  rw[e]
  grind
 ·rw[iP]
  refine of_le ?_
  unfold fu
  rw[e,Rat.intCast_neg]
  grind
theorem ya {a:Rat}(h:fw a=true):mL (gL a) (gH a) (Re.of a):=by
 unfold gL gH;rw[h,if_pos rfl,if_pos rfl];exact zO a
theorem xU {p q:Re}(_hp:0≤ce p) (hq:0≤ce q) (h:0≤ce (q*q-p*p)):qu p q:=by
 unfold qu
 rcases cE (q-p) with a|a|a
 ·omega
 ·omega
 ·exfalso
  have h1:0<ce (p-q):=by
   have e:p-q= -(q-p):=Re.ext fun k=>by simp only[bE,cr];grind
   rw[e,fk,a];decide
  have h2:0<ce (p+q):=by
   have e:p+q=(p-q)+(q+q):=Re.ext fun k=>by simp only[bE,bK];grind
   rw[e];exact wP h1 (sH hq hq)
  have h3:ce ((q-p)*(p+q))=ce (q*q-p*p):=congrArg ce (Re.ext fun k=>by simp only[bE,bK,bU];grind)
  rw[dJ,a] at h3
  omega
theorem Dy {n:Int}(h:0≤n):0≤ce (Re.of (n:Rat)):=by
 have:=of_le (Rat.intCast_nonneg.2 h)
 unfold qu at this
 refine kY (fun k=>?_) this
 simp only[bE,dc];grind
theorem qB {p q:Rat}(h:qu (Re.of p) (Re.of q)):p≤q:=by
 unfold qu at h
 rw[oU,fQ] at h
 unfold a7 at h
 apply Classical.byContradiction
 intro hn
 rw[if_pos (by grind)] at h
 omega
theorem Df (m:Rat):0≤ce (Re.of 65536*Re.rt m):=by
 have h1:=G5 m
 have h2:ce (Re.of 65536)=1:=by rw[fQ];decide+kernel
 rw[dJ,h2];omega
theorem CN {m:Rat}(h:0≤m) (q:Rat):ce (Re.of 65536*Re.rt m*(Re.of 65536*Re.rt m)-Re.of q)=a7 (65536*65536*m) q:=by
 rw[←pZ,←fQ]
 refine jF ?_
 have e:Re.of 65536*Re.rt m*(Re.of 65536*Re.rt m)-Re.of q-Re.of (65536*65536*m-q)=Re.of (65536*65536)*(Re.rt m*Re.rt m-Re.of m):=Re.ext fun k=>by
  simp only[bE,bU,dc];grind
 rw[e,dJ,sw h,Int.mul_zero]
theorem Fw {x y:Rat}(h:y≤x):0≤a7 x y:=by unfold a7;rw[if_neg (by grind)];split<;>omega
theorem Ga {x y:Rat}(h:x≤y):a7 x y≤0:=by
 unfold a7
 split
 ·omega
 ·rw[if_neg (by grind)];omega
theorem GX {m:Rat}(hm:0≤m) {lo hi:Int}(h:mL lo hi (Re.of m)):mL (jC lo) (gE hi) (Re.rt m):=by
 obtain⟨h1,h2⟩:=h
 rw[iP] at h1 h2
 have g1:=qB h1
 have g2:=qB h2
 have hq:(0:Rat)≤65536*m:=Rat.mul_nonneg (by decide) hm
 refine⟨?_,?_⟩
 ·refine xU (Dy (eE _)) (Df m) ?_
  rw[iP,CN hm]
  refine Fw ?_
  have h3:=nQ (x:=max lo 0*65536) (by omega)
  have h4:((bD (max lo 0*65536)*bD (max lo 0*65536):Int):Rat)≤((max lo 0*65536:Int):Rat):=Rat.intCast_le_intCast.2 h3
  rw[Rat.intCast_mul,Rat.intCast_mul] at h4
  have e65:((65536:Int):Rat)=65536:=rfl
  have h5:((max lo 0:Int):Rat)≤65536*m:=by
   by_cases hl:0≤lo
   ·rw[show max lo 0=lo from by omega];exact g1
   ·rw[show max lo 0=0 from by omega];simpa using hq
  rw[e65] at h4
  unfold jC
  grind
 ·refine xU (Df m) (Dy ?_) ?_
  ·unfold gE;have:=eE (hi*65536);split<;>omega
  have h3:0≤ -ce (Re.of 65536*Re.rt m*(Re.of 65536*Re.rt m)-Re.of (((gE hi:Int):Rat)*((gE hi:Int):Rat))):=by
   rw[CN hm]
   have hh:(0:Int)≤hi:=by
    have:(0:Rat)≤(hi:Rat):=by grind
    exact Rat.intCast_nonneg.1 this
   have h4:hi*65536≤gE hi*gE hi:=by
    unfold gE
    split
    ·rename_i hs
     unfold rH at hs
     have:=beq_iff_eq.1 hs
     omega
    ·have:=rU (x:=hi*65536) (by omega)
     omega
   have h5:((hi*65536:Int):Rat)≤((gE hi*gE hi:Int):Rat):=Rat.intCast_le_intCast.2 h4
   rw[Rat.intCast_mul,Rat.intCast_mul] at h5
   have e65:((65536:Int):Rat)=65536:=rfl
   rw[e65] at h5
   have:=Ga (x:=65536*65536*m) (y:=((gE hi:Int):Rat)*((gE hi:Int):Rat)) (by grind)
   omega
  rw[←fk] at h3
  refine kY (fun k=>?_) h3
  simp only[cr,bE,bU,dc];grind
theorem A5 {k u v U L:Re}(h1:0≤ce (k*u-L)) (h2:0≤ce (k*v-L)) (g1:qu u U) (g2:qu U v):0≤ce (k*U-L):=by
 unfold qu at*
 have e:(v-u)*(k*U-L)=(v-U)*(k*u-L)+(U-u)*(k*v-L):=Re.ext fun j=>by simp only[bE,bU,bK];grind
 have hr:0≤ce ((v-U)*(k*u-L)+(U-u)*(k*v-L)):=by
  refine sH ?_ ?_
  ·rw[dJ];exact Int.mul_nonneg g2 h1
  ·rw[dJ];exact Int.mul_nonneg g1 h2
 rw[←e,dJ] at hr
 have e2:ce (v-u)=ce ((v-U)+(U-u)):=congrArg ce (Re.ext fun j=>by simp only[bE,bK];grind)
 rcases cE (v-u) with a|a|a
 ·rw[a] at hr;omega
 ·rcases cE (U-u) with b|b|b
  ·have:=wP (x:=U-u) (y:=v-U) (by omega) g2
   rw[C9] at this
   omega
  ·have e3:k*U-L=(k*u-L)+k*(U-u):=Re.ext fun j=>by simp only[bE,bK,bU];grind
   rw[e3,eN _ (by rw[dJ,b,Int.mul_zero])]
   exact h1
  ·omega
 ·have:=sH g2 g1
  omega
theorem GI {x y u v X U L:Re}(h1:0≤ce (x*u-L)) (h2:0≤ce (x*v-L)) (h3:0≤ce (y*u-L)) (h4:0≤ce (y*v-L)) (g1:qu x X) (g2:qu X y) (g3:qu u U) (g4:qu U v):0≤ce (X*U-L):=by
 have a:=A5 h1 h2 g3 g4
 have b:=A5 h3 h4 g3 g4
 rw[ol x U] at a
 rw[ol y U] at b
 have:=A5 a b g1 g2
 rw[ol U X] at this
 exact this
theorem Mn (a b:Int):gZ a b*65536≤a*b∧a*b≤ia a b*65536:=by
 have e:a*b=if (!(decide (a<0)==decide (b<0)))=true then-ES a b else ES a b:=by
  unfold ES
  by_cases ha:a<0<;>by_cases hb:b<0
  ·have h1:(a.natAbs:Int)= -a:=by omega
   have h2:(b.natAbs:Int)= -b:=by omega
   simp[ha,hb,h1,h2];try grind
  ·have h1:(a.natAbs:Int)= -a:=by omega
   have h2:(b.natAbs:Int)=b:=by omega
   simp[ha,hb,h1,h2];try grind
  ·have h1:(a.natAbs:Int)=a:=by omega
   have h2:(b.natAbs:Int)= -b:=by omega
   simp[ha,hb,h1,h2];try grind
  ·have h1:(a.natAbs:Int)=a:=by omega
   have h2:(b.natAbs:Int)=b:=by omega
   simp[ha,hb,h1,h2]
 rw[e]
 unfold gZ ia
 generalize ES a b=p
 have hu:p≤sI p*65536:=by unfold sI;split<;>omega
 generalize sI p=u at*
 by_cases hc:(!(decide (a<0)==decide (b<0)))=true
 ·rw[if_pos hc,if_pos hc,if_pos hc];omega
 ·rw[if_neg hc,if_neg hc,if_neg hc];omega
theorem Ha {x y u v:Int}{X U:Re}(h:mL x y X) (g:mL u v U):mL (tc x y u v 4) (sj x y u v 4) (X*U):=by
 have lo: ∀a b:Int,tc x y u v 4≤gZ a b→0≤ce (Re.of (a:Rat)*Re.of (b:Rat)-Re.of ((tc x y u v 4*65536:Int):Rat)):=by
  intro a b hl
  rw[iP]
  refine of_le ?_
  rw[←Rat.intCast_mul]
  exact Rat.intCast_le_intCast.2 (by have:=(Mn a b).1;omega)
 have hi: ∀a b:Int,ia a b≤sj x y u v 4→0≤ce (-Re.of (a:Rat)*Re.of (b:Rat)-Re.of (-((sj x y u v 4*65536:Int):Rat))):=by
  intro a b hl
  rw[Hr,iP]
  refine of_le ?_
  have h1:((a*b:Int):Rat)≤((sj x y u v 4*65536:Int):Rat):=Rat.intCast_le_intCast.2 (by have:=(Mn a b).2;omega)
  rw[Rat.intCast_mul] at h1
  grind
 have hlo:tc x y u v 4=min (min (min (min 2305843009213693952 (gZ x u)) (gZ x v)) (gZ y u)) (gZ y v):=rfl
 have hhi:sj x y u v 4=max (max (max (max (-2305843009213693952) (ia x u)) (ia x v)) (ia y u)) (ia y v):=rfl
 have e65:((65536:Int):Rat)=65536:=rfl
 have p65:ce (Re.of 65536)=1:=by rw[fQ];decide+kernel
 refine⟨?_,?_⟩
 ·have hb:=GI (lo x u (by omega)) (lo x v (by omega)) (lo y u (by omega)) (lo y v (by omega)) h.1 h.2 g.1 g.2
  have e:ce (Re.of 65536*(Re.of 65536*(X*U)-Re.of ((tc x y u v 4:Int):Rat)))=ce (Re.of 65536*X*(Re.of 65536*U)-Re.of ((tc x y u v 4*65536:Int):Rat)):=congrArg ce (Re.ext fun k=>by
   simp only[bE,bU,dc,Rat.intCast_mul,e65];grind)
  rw[←e,dJ,p65,Int.one_mul] at hb
  exact hb
 ·have n1:qu (-Re.of (y:Rat)) (-(Re.of 65536*X)):=kY (fun k=>by simp only[bE,cr];grind) h.2
  have n2:qu (-(Re.of 65536*X)) (-Re.of (x:Rat)):=kY (fun k=>by simp only[bE,cr];grind) h.1
  have hb:=GI (hi y u (by omega)) (hi y v (by omega)) (hi x u (by omega)) (hi x v (by omega)) n1 n2 g.1 g.2
  have e:ce (Re.of 65536*(Re.of ((sj x y u v 4:Int):Rat)-Re.of 65536*(X*U)))=ce (-(Re.of 65536*X)*(Re.of 65536*U)-Re.of (-((sj x y u v 4*65536:Int):Rat))):=congrArg ce (Re.ext fun k=>by
   simp only[bE,bU,dc,cr,Rat.intCast_mul,e65];grind)
  rw[←e,dJ,p65,Int.one_mul] at hb
  exact hb
theorem D6 {x y u v:Int}{X U:Re}(h:mL x y X) (g:mL u v U) (hk:qF x y u v 4=true):mL (pL x y u v) (pH x y u v) (X*U):=by
 unfold pL pH;rw[hk,if_pos rfl,if_pos rfl];exact Ha h g
theorem F1 {x y u v:Int}{X U:Re}(h:mL x y X) (g:mL u v U):mL (x+u) (y+v) (X+U):=by
 have a:=l7 h.1 g.1
 have b:=l7 h.2 g.2
 refine⟨kY (fun k=>?_) a,kY (fun k=>?_) b⟩
 ·simp only[bE,bK,bU,dc,Rat.intCast_add];grind
 ·simp only[bE,bK,bU,dc,Rat.intCast_add];grind
theorem EN {x y u v:Int}{X U:Re}(h:mL x y X) (g:mL u v U) (hk:oo (x+u) (y+v)=true):mL (aL x y u v) (aH x y u v) (X+U):=by
 unfold aL aH;rw[hk,if_pos rfl,if_pos rfl];exact F1 h g
theorem KL (X:Re):ce (Re.of 65536*X)=ce X:=by
 have p65:ce (Re.of 65536)=1:=by rw[fQ];decide+kernel
 rw[dJ,p65,Int.one_mul]
theorem yz {n:Int}(h:0<n):0<ce (Re.of (n:Rat)):=by
 rw[fQ]
 have h1:(0:Rat)<(n:Rat):=Rat.intCast_pos.2 h
 unfold a7
 rw[if_neg (by grind),if_pos h1];decide
theorem MF {lo hi:Int}{X:Re}(h:mL lo hi X) (hl:0<lo):ce X=1:=by
 have h1:=wP (yz hl) h.1
 have e:ce (Re.of (lo:Rat)+(Re.of 65536*X-Re.of (lo:Rat)))=ce (Re.of 65536*X):=congrArg ce (Re.ext fun k=>by simp only[bE,bK];grind)
 rw[e,KL] at h1
 have:=cE X
 omega
theorem MA {lo hi:Int}{X:Re}(h:mL lo hi X) (hl:hi<0):ce X= -1:=by
 have h0:0<ce (-Re.of (hi:Rat)):=by
  rw[Hr,←Rat.intCast_neg];exact yz (by omega)
 have h1:=wP h0 h.2
 have e:ce (-Re.of (hi:Rat)+(Re.of (hi:Rat)-Re.of 65536*X))=ce (-(Re.of 65536*X)):=congrArg ce (Re.ext fun k=>by simp only[bE,bK,cr];grind)
 rw[e,fk,KL] at h1
 have:=cE X
 omega
theorem LJ {X:Re}(h:mL 0 0 X):ce X=0:=by
 have h1:=h.1
 have h2:=h.2
 unfold qu at h1 h2
 have e1:ce (Re.of 65536*X-Re.of ((0:Int):Rat))=ce (Re.of 65536*X):=congrArg ce (Re.ext fun k=>by simp only[bE,dc];grind)
 have e2:ce (Re.of ((0:Int):Rat)-Re.of 65536*X)=ce (-(Re.of 65536*X)):=congrArg ce (Re.ext fun k=>by simp only[bE,dc,cr];grind)
 rw[e1,KL] at h1
 rw[e2,fk,KL] at h2
 omega
theorem Dr {lo hi:Int}{X:Re}(h:mL lo hi X) (hs:EQ lo hi=true):D3 lo hi=ce X:=by
 unfold EQ at hs
 simp only[Bool.or_eq_true,decide_eq_true_eq,Bool.and_eq_true,beq_iff_eq] at hs
 unfold D3
 by_cases h1:lo>0
 ·rw[if_pos h1,MF h h1]
 ·rw[if_neg h1]
  by_cases h2:hi<0
  ·rw[if_pos h2,MA h h2]
  ·rw[if_neg h2]
   rcases hs with hs|hs|⟨hs,hs'⟩
   ·omega
   ·omega
   ·subst hs hs'
    exact(LJ h).symm
theorem L4 {A B C D M N:Rat}(hM:0≤M) (hN:0≤N) (h:Jn A B C D M N=true):MV A B C D M N=ce (AM A B C D M N):=by
 unfold Jn at h
 rw[Bool.and_eq_true] at h
 obtain⟨h3,hs⟩:=h
 rw[(Aq h3).1]
 unfold BU Pe OX at h3
 simp only[Bool.and_eq_true] at h3
 obtain⟨⟨⟨k1,k2⟩,k3,k4,k5,k6,k7,k8,k9⟩,k10,k11,k12,k13⟩:=h3
 have im:=GX hM (ya k1)
 have in_:=GX hN (ya k2)
 have ib:mL (Ny B M) (Mr B M) _:=D6 (ya k3) im k4
 have ic:mL (Ny C N) (Mr C N) _:=D6 (ya k5) in_ k6
 have imn:mL (KQ M N) (JR M N) _:=D6 im in_ k8
 have id':mL (SE D M N) (SC D M N) _:=D6 (ya k7) imn k9
 have iab:mL (J9 A B M) (Ke A B M) _:=EN (ya k10) ib k11
 have icd:mL (Lr C D M N) (Ks C D M N) _:=EN ic id' k12
 have is':mL (Qa A B C D M N) (RB A B C D M N) _:=EN iab icd k13
 rw[Dr is' hs]
 refine congrArg ce (Re.ext fun k=>?_)
 unfold AM dX
 simp only[bK,bU,dc];grind
theorem Jx {A B C D M N:Rat}(hM:0≤M) (hN:0≤N):tT A B C D M N=ce (AM A B C D M N):=by
 unfold tT
 rw[if_neg (by rintro(h|h)<;>grind)]
 split
 ·rename_i h;exact L4 hM hN h
 ·exact yj hM hN
theorem CO {a b c:Rat}(h:dk a b c=true):mL (dz a b c) (dA a b c) (dX a b c):=by
 have h0:=h
 unfold dk at h
 rw[Bool.and_eq_true] at h
 obtain⟨h1,h2⟩:=h
 cases hb:(a7 b 0==0) with
 |true=>
  obtain⟨e1,e2,_⟩:=R9 (c:=c) h1 hb
  rw[e1,e2]
  have hb0:b=0:=qd hb
  subst hb0
  have:=zO a
  have e:dX a 0 c=Re.of a:=Re.ext fun k=>by unfold dX;simp only[bK,bU,dc];grind
  rw[e];exact this
 |false=>
  rw[hb,Bool.false_or] at h2
  unfold LQ at h2
  simp only[Bool.and_eq_true,Bool.not_eq_true'] at h2
  obtain⟨g1,g2,g3,g4,g5⟩:=h2
  have hc:0≤c:=Rat.not_lt.1 (u4 g3)
  obtain⟨e1,e2,_⟩:=Su h1 hb g1 g2 g3 g4
  have ir:=GX hc (zO c)
  have im:=Ha (zO b) ir
  have:=F1 (zO a) im
  unfold dz dA
  rw[h0,if_pos rfl,if_pos rfl,hb,if_neg (by decide),if_neg (by decide)]
  exact this
theorem KT {a b c d e f:Rat}(h:Ag (dk a b c) (dk d e f) (dz a b c) (dA a b c) (dz d e f) (dA d e f)=true):
 BD (dk a b c) (dk d e f) (dz a b c) (dA a b c) (dz d e f) (dA d e f)=ce (dX a b c-dX d e f):=by
 unfold Ag at h
 simp only[Bool.and_eq_true,Bool.or_eq_true,decide_eq_true_eq] at h
 obtain⟨⟨k1,k2⟩,hs⟩:=h
 have i1:=CO k1
 have i2:=CO k2
 have i3:mL (dz a b c-dA d e f) (dA a b c-dz d e f) (dX a b c-dX d e f):=by
  have n:=l7 i1.1 (kY (y:= -(Re.of 65536*dX d e f)- -Re.of ((dA d e f:Int):Rat)) (fun k=>by simp only[bE,cr];grind) i2.2)
  have m:=l7 i1.2 (kY (y:= -Re.of ((dz d e f:Int):Rat)- -(Re.of 65536*dX d e f)) (fun k=>by simp only[bE,cr];grind) i2.1)
  refine⟨kY (fun k=>?_) n,kY (fun k=>?_) m⟩
  ·simp only[bE,bK,bU,dc,cr,Rat.intCast_sub];grind
  ·simp only[bE,bK,bU,dc,cr,Rat.intCast_sub];grind
 unfold BD
 rw[k1,k2,Bool.and_self,if_pos rfl]
 by_cases h1:dA a b c<dz d e f
 ·rw[if_pos (decide_eq_true h1),MA i3 (by omega)]
 ·rw[if_neg (by simpa using h1)]
  rcases hs with hs|hs
  ·omega
  ·rw[if_pos (decide_eq_true hs),MF i3 (by omega)]
theorem Cm {a b c d e f:Rat}(hc:0≤c) (hf:0≤f):l9 a b c d e f=ce (dX a b c-dX d e f):=by
 unfold l9
 split
 ·rename_i h
  have hb:b=0:=qd h.1
  have he:e=0:=qd h.2
  subst hb he
  rw[←pZ,←fQ]
  refine congrArg ce (Re.ext fun k=>?_)
  unfold dX;simp only[bE,bK,bU,dc];grind
 ·split
  ·rename_i h;exact KT h
  ·split
   ·rename_i h
    have e1:c=f:=li.1 (by simpa using h)
    subst e1
    rw[gm hc]
    refine congrArg ce (Re.ext fun k=>?_)
    unfold dX;simp only[bE,bK,bU,dc];grind
   ·rw[Jx hc hf]
    refine congrArg ce (Re.ext fun k=>?_)
    unfold AM dX;simp only[bE,bK,bU,dc];grind
theorem oz {a1 b1 a2 b2 c p1 q1 p2 q2 r:Rat}(ha1:Rz 20000 a1) (hb1:Rz 1600 b1) (ha2:Rz 20000 a2) (hb2:Rz 1600 b2) (hc:Rz 1600 c) (hp1:Rz 20000 p1) (hq1:Rz 1600 q1) (hp2:Rz 20000 p2) (hq2:Rz 1600 q2) (hr:Rz 1600 r) (s1:Rz 1600 (a1-p1)) (s2:Rz 1600 (a2-p2)):Ok Tryz.prog 34 [.a ((cR a1++cR b1++cR a2++cR b2++cR c)),.a ((cR p1++cR q1++cR p2++cR q2++cR r))] [.c (.i .i64 (rk a1 b1 a2 b2 c p1 q1 p2 q2 r))]:=by
 have kb1:Rz 1600 (zc b1 c):=Rz.zc hc (by decide)
 have kb2:Rz 1600 (zc b2 c):=Rz.zc hc (by decide)
 have kq1:Rz 1600 (zc q1 r):=Rz.zc hr (by decide)
 have kq2:Rz 1600 (zc q2 r):=Rz.zc hr (by decide)
 refine Ok.fn Tryz.func34 19 [.tmp 4] rfl<|aa<|ab<|ag<|aa<|aa<|aM 6 rfl rfl<|an 1<|ai (ak rfl (oJ))<|an 1<|ai (ak rfl (oJ))<|ai (ak rfl (tW (by assumption) (by assumption) (by assumption) (by assumption) (by assumption) (by assumption) (by assumption)))<|bJ<|ar ?_
 refine aq<|aa<|ab<|ag ?_
 refine au rfl (fun hc1=>?_) (fun hc1=>?_)
 ·refine aa<|ab<|ag<|am ?_
  rw[JQ hc1]
  exact ao (aC ae)
 ·refine ap<|aa<|aM 6 rfl rfl<|an 1<|ai (ak rfl (Bq))<|an 1<|ai (ak rfl (Bq))<|ai (ak rfl (tW (by assumption) (by assumption) (by assumption) (by assumption) (by assumption) (by assumption) (by assumption)))<|bJ<|ar<|aq<|am ?_
  rw[Lv hc1]
  exact ao (aC ae)
theorem zV {a1 b1 a2 b2 c p1 q1 p2 q2 r:Rat}(ha1:Rz 20000 a1) (hb1:Rz 1600 b1) (ha2:Rz 20000 a2) (hb2:Rz 1600 b2) (hc:Rz 1600 c) (hp1:Rz 20000 p1) (hq1:Rz 1600 q1) (hp2:Rz 20000 p2) (hq2:Rz 1600 q2) (hr:Rz 1600 r) (s1:Rz 1600 (a1-p1)) (s2:Rz 1600 (a2-p2)):Ok Tryz.prog 98 [.a ((cR a1++cR b1++cR a2++cR b2++cR c)),.a ((cR p1++cR q1++cR p2++cR q2++cR r))] [.c (.b (rk a1 b1 a2 b2 c p1 q1 p2 q2 r==0))]:=by
 refine Ok.fn Tryz.func98 9 [.tmp 4] rfl<|aa<|ab<|ag<|aa<|ab<|al 2<|aj (ak rfl (oz (by assumption) (by assumption) (by assumption) (by assumption) (by assumption) (by assumption) (by assumption) (by assumption) (by assumption) (by assumption) (by assumption) (by assumption)))<|ag<|am ?_
 exact ao (aC ae)
theorem qm {x:Int}(h:0<x):0<bD x:=by
 have h1:=rU (x:=x) (by omega)
 have h2:=eE x
 by_cases e:bD x=0
 ·rw[e] at h1;omega
 ·omega
theorem Rz.rt {k:Nat}{c:Rat}(h:Rz k c):Rz k (rt c):=Rz.of h.n.isq h.d.isq (by have:=qm (den_pos c);omega)
theorem tZ {c:Rat}(h:iD c=true):cQ (if iD c then bD c.num else 0) (if iD c then bD (c.den:Int) else 0)=cR (rt c):=by
 have:=JX h
 unfold dQ dR at this
 injection this
def zR:List CellD:=[.b false,.s 0 [],.b false,.s 0 [],.b false,.s 0 [],.b false,.s 0 [],.b false,.s 0 [],.b false,.s 0 []]
theorem A3 {a b c:Rat}(ha:Rz 10000 a) (hb:Rz 10000 b) (hc:Rz 10000 c) (h0: ¬c<0) (hs:iD c=true):Ok Tryz.prog 327 [dR a,dR b,dR c] [.a ((cR (a+b*rt c)++cR 0++cR 0)),.c (.i .i64 0)]:=by
 have ka:Rz 60000 a:=ha.m_
 have kb:Rz 60000 b:=hb.m_
 have kc:Rz 60000 c:=hc.m_
 have kt:Rz 10000 (rt c):=hc.rt
 refine Ok.fn Tryz.func327 30 [.cell 6 67,.tmp 7] rfl<|aa<|ab<|al 3<|aw (ah fv rfl) rfl<|ag<|aa<|aa<|ab<|al 1<|aj (ak rfl (cb))<|ag ?_
 refine au rfl (fun hc1=>?_) (fun hc1=>?_)
 ·exact absurd (yL hc1) h0
 ·refine ap<|aa<|aa<|ab<|al 1<|aj (ak rfl (oa (aO hc)))<|al 3<|aw (ah br rfl) rfl<|ag<|aa<|ab<|ag ?_
  refine au rfl (fun hc2=>?_) (fun hc2=>?_)
  ·refine Dw.weak (σ':=⟨30,[(3,.p 3 0),(4,.p 4 0),(6,.p 6 0),(8,.p 8 0)],[(3,31,cR a),(4,31,cR b),(6,67,zR),(8,31,cR (rt c))]⟩) (aR ⟨rfl,rfl,rfl,rfl,trivial⟩ ⟨rfl,rfl,rfl,by rw[←tZ hs];rfl,trivial⟩ rfl) ?_
   refine aa<|aM 6 rfl rfl<|an 3<|ai (ak rfl (cK (aO hb) (Qo)))<|ai (ak rfl (eJ (aO ha) (aO (Rz.mul hb (by assumption)))))<|ai (ak rfl (jn))<|aV<|ar<|ag<|am ?_
   exact ao (bb g9 rfl (aC ae))
  ·exact absurd hs (by rw[hc2];decide)
theorem A9 {a b c:Rat}(ha:Rz 10000 a) (hb:Rz 10000 b) (hc:Rz 10000 c) (h0: ¬c<0) (hs:iD c=false):Ok Tryz.prog 327 [dR a,dR b,dR c] [.a ((cR a++cR (rB b c)++cR (rC b c))),.c (.i .i64 0)]:=by
 have ka:Rz 60000 a:=ha.m_
 have kb:Rz 60000 b:=hb.m_
 have kc:Rz 60000 c:=hc.m_
 have kt:Rz 10000 (rt c):=hc.rt
 refine Ok.fn Tryz.func327 30 [.cell 6 67,.tmp 7] rfl<|aa<|ab<|al 3<|aw (ah fv rfl) rfl<|ag<|aa<|aa<|ab<|al 1<|aj (ak rfl (cb))<|ag ?_
 refine au rfl (fun hc1=>?_) (fun hc1=>?_)
 ·exact absurd (yL hc1) h0
 ·refine ap<|aa<|aa<|ab<|al 1<|aj (ak rfl (oa (aO hc)))<|al 3<|aw (ah br rfl) rfl<|ag<|aa<|ab<|ag ?_
  refine au rfl (fun hc2=>?_) (fun hc2=>?_)
  ·exact absurd hc2 (by rw[hs];decide)
  ·refine ap<|aa<|ab<|al 3<|aj (ak rfl (mw))<|ag<|am ?_
   exact ao (bb g9 rfl (aC ae))
theorem uJ {a1 b1 c1 a2 b2 c2:Rat}(hc1:Rz 300 c1) (hc2:Rz 300 c2) (hbad: ¬Om b1 c1 b2 c2):Ok Tryz.prog 188 [.a ((cR a1++cR b1++cR c1)),.a ((cR a2++cR b2++cR c2))] [.a ((cR a1++cR b1++cR a2++cR b2++cR (Js b1 b2 (cc b1 c1 c2)))),.c (.i .i64 0)]:=by
 refine Ok.fn Tryz.func188 39 [.cell 4 37,.tmp 5] rfl<|aa<|ab<|al 2<|aw (ah hJ rfl) rfl<|ag<|aa<|ab<|al 1<|aj (aA (cR c1) az rfl)<|aw (ah br rfl) rfl<|ag<|aa<|aa ?_
 refine ab<|al 1<|aj (aA (cR b1) az rfl)<|aj (ak rfl (iW))<|ag ?_
 refine au rfl (fun hc1=>?_) (fun hc1=>?_)
 ·--region 3
  refine ab<|al 1<|aj (aA (cR c2) az rfl)<|ag<|aa<|ab<|al 1<|aj (aA (cR a1) az rfl)<|al 1<|aj (aA (cR b1) az rfl)<|al 1<|aj (aA (cR a2) az rfl)<|al 1<|aj (aA (cR b2) az rfl) ?_
  refine al 1<|aj (aD (us:=(cR a1++cR b1++cR a2++cR b2++cR c2)) EE hJ rfl rfl rfl) ?_
  refine aj (ak rfl (mq))<|ag<|am ?_
  rw[I1 (qd hc1)]
  exact ao (bb ca rfl (aC ae))
 ·refine aa<|ab<|al 1<|aj (aA (cR b2) az rfl)<|aj (ak rfl (iW))<|al 1 ?_
  refine cm (bO rfl) (fun c2 hb2=>?_)
  cases c2
  ·refine ag<|ba rfl<|ap<|aa<|ab<|al 1<|aj (aA (cR a1) az rfl)<|al 1<|aj (aA (cR b1) az rfl)<|al 1<|aj (aA (cR a2) az rfl)<|al 1<|aj (aA (cR b2) az rfl)<|al 1 ?_
   refine aj (aD (us:=(cR a1++cR b1++cR a2++cR b2++cR c1)) EE hJ rfl rfl rfl) ?_
   refine aj (ak rfl (mq))<|ag<|am ?_
   rw[uh (ov hc1)]
   exact ao (bb ca rfl (aC ae))
  ·refine al 1<|aj (aA (cR c1) az rfl)<|al 1<|aj (aA (cR c2) az rfl) ?_
   refine aj (ak rfl (BN (by first|assumption|exact Rz.mono hc1 (by decide)) (by first|assumption|exact Rz.mono hc2 (by decide)))) ?_
   refine ag ?_
   refine au rfl (fun hc3=>?_) (fun hc3=>?_)
   ·exact absurd ⟨ov hc1,MN hb2,MN hc3⟩ hbad
   ·refine ap<|aa<|ab<|al 1<|aj (aA (cR a1) az rfl)<|al 1<|aj (aA (cR b1) az rfl)<|al 1<|aj (aA (cR a2) az rfl)<|al 1<|aj (aA (cR b2) az rfl)<|al 1<|aj (aD (us:=(cR a1++cR b1++cR a2++cR b2++cR c1)) EE hJ rfl rfl rfl) ?_
    refine aj (ak rfl (mq))<|ag<|am ?_
    rw[uh (ov hc1)]
    exact ao (bb ca rfl (aC ae))
section
variable {P:Program}{f:FuncId}{ds rs:List D0}{x y z u v x' y' z' u' v':Rat}
end
theorem HO {b1 b2 c:Rat}(h:xy b1 b2 c=true):0≤c:=by
 unfold xy at h
 split at h
 ·have:=of_decide_eq_true h;subst this;exact Rat.le_refl
 ·rw[Bool.and_eq_true] at h
  have:=of_decide_eq_true h.1
  grind
theorem jR {b c:Rat}(h:0≤c):0≤zc b c:=by unfold zc;split<;>grind
def p8 (a b c:Rat):Re:=dX a b (zc b c)
theorem lW {a b c p q r:Rat}(hc:0≤c) (hr:0≤r):pA a b c p q r=ce (p8 a b c-p8 p q r):=qE (jR hc) (jR hr)
theorem GE {a b c p q r:Rat}(hc:0≤c) (hr:0≤r):l9 a b (zc b c) p q (zc q r)=ce (p8 a b c-p8 p q r):=Cm (jR hc) (jR hr)
section
variable {a1 b1 a2 b2 c p1 q1 p2 q2 r:Rat}
theorem yw (hc:0≤c) (hr:0≤r):rk a1 b1 a2 b2 c p1 q1 p2 q2 r=jj a1 b1 a2 b2 c p1 q1 p2 q2 r:=by
 unfold rk jj
 rw[GE hc hr,GE hc hr,lW hc hr,lW hc hr]
theorem wE (x y:Re):ce (y-x)= -ce (x-y):=by
 rw[←fk]
 exact congrArg ce (Re.ext fun k=>by simp only[bE,cr];grind)
theorem Ht (x:Re):ce (x-x)=0:=by
 have h:=wE x x
 omega
theorem Bu (hc:0≤c) (hr:0≤r):jj p1 q1 p2 q2 r a1 b1 a2 b2 c= -jj a1 b1 a2 b2 c p1 q1 p2 q2 r:=by
 unfold jj
 rw[lW hc hr,lW hc hr,lW hr hc,lW hr hc,wE (p8 a1 b1 c),wE (p8 a2 b2 c)]
 by_cases h:ce (p8 a1 b1 c-p8 p1 q1 r)=0
 ·rw[h];simp
 ·rw[if_pos (by omega),if_pos h]
end
theorem Gm (n:Int):rH (n*n)=true:=by
 have h:bD (n*n)=(n.natAbs:Int):=by
  have e:(n.natAbs:Int)*(n.natAbs:Int)=n*n:=by
   rw[←Int.natCast_mul,Int.natAbs_mul_self]
  refine mT ?_ (by omega) (by omega) ?_
  ·rw[←e];exact Int.mul_nonneg (by omega) (by omega)
  ·have:((n.natAbs:Int)+1)*((n.natAbs:Int)+1)=(n.natAbs:Int)*(n.natAbs:Int)+2*(n.natAbs:Int)+1:=by grind
   omega
 unfold rH
 rw[h,←Int.natCast_mul,Int.natAbs_mul_self]
 simp
theorem Ol (x:Rat):iD (x*x)=true:=by
 have e:x*x=Rat.divInt (x.num*x.num) ((x.den:Int)*(x.den:Int)):=by
  conv=>lhs;rw[←Rat.num_divInt_den x]
  exact Rat.divInt_mul_divInt _ _
 have hd:=den_pos x
 have hg:Int.gcd (x.num*x.num) ((x.den:Int)*(x.den:Int))=1:=by
  have hr:Nat.Coprime x.num.natAbs x.den:=x.reduced
  show Nat.gcd (x.num*x.num).natAbs ((x.den:Int)*(x.den:Int)).natAbs=1
  rw[Int.natAbs_mul,Int.natAbs_mul,Int.natAbs_natCast]
  exact(hr.mul_left hr).mul_right (hr.mul_left hr)
 have hv:vQ (x.num*x.num) ((x.den:Int)*(x.den:Int))=true:=by
  unfold vQ
  rw[hg,decide_eq_true (Int.mul_pos hd hd)];rfl
 obtain⟨h1,h2⟩:=GF hv
 rw[←e] at h1 h2
 unfold iD
 rw[h1,h2,Gm,Gm];rfl
theorem GN {a b c:Rat}(hc:0≤c) (hv:b≠0→0<c∧iD c=false):s3 a b c=ce (dX a b c):=by
 rw[←gm hc]
 unfold s3 cg kT
 by_cases hb:b=0
 ·have h0:a7 b 0=0:=li.2 hb
  rw[if_pos (.inr h0),h0,Int.zero_mul,if_pos (.inl rfl)]
 ·obtain⟨hp,hs⟩:=hv hb
  have h1:a7 c 0=1:=by unfold a7;rw[if_neg (by grind),if_pos hp]
  have h2:a7 b 0≠0:=fun e=>hb (li.1 e)
  rw[h1,Int.mul_one]
  by_cases h3:a7 a 0=a7 b 0
  ·rw[if_pos (.inl h3),if_pos (.inr h3)]
  ·have n1: ¬(a7 a 0=a7 b 0∨a7 b 0=0):=by omega
   have n2: ¬(a7 b 0=0∨a7 a 0=a7 b 0):=by omega
   rw[if_neg n1,if_neg n2]
   by_cases h4:a7 a 0=0
   ·rw[if_pos h4,if_pos h4]
   ·rw[if_neg h4,if_neg h4]
    have hn:a*a≠b*b*c:=by
     intro e
     have e2:c=(a/b)*(a/b):=by
      have:a/b*b=a:=by grind
      grind
     rw[e2,Ol] at hs
     cases hs
    have a1:=dK a 0
    have b1:=dK b 0
    by_cases h5:0<a*a-b*b*c
    ·have:a7 (a*a) (b*b*c)=1:=by unfold a7;rw[if_neg (by grind),if_pos (by grind)]
     rw[if_pos h5,this,Int.mul_one]
    ·have:a7 (a*a) (b*b*c)= -1:=by unfold a7;rw[if_pos (by grind)]
     rw[if_neg h5,this];omega
theorem tp (a b c:Rat):p8 a b c=Re.of a+Re.of b*Re.rt c:=by
 unfold p8 dX
 by_cases h:b=0
 ·subst h
  exact Re.ext fun k=>by simp only[bK,bU,dc];grind
 ·rw[kR h]
def Dk (x y b1 b2 c:Rat):Rat:=x*x+y*y+(b1*b1+b2*b2)*c
def DE (x y b1 b2:Rat):Rat:=(x*b1+y*b2)+(x*b1+y*b2)
theorem IC {x y b1 b2 c:Rat}(hv:xy b1 b2 c=true) (h:DE x y b1 b2≠0):0<c∧iD c=false:=by
 have hb: ¬(b1=0∧b2=0):=by
  rintro⟨rfl,rfl⟩
  apply h;unfold DE;grind
 unfold xy at hv
 rw[if_neg hb,Bool.and_eq_true] at hv
 exact⟨of_decide_eq_true hv.1,by simpa using hv.2⟩
theorem Sm {a b c:Rat}:a*a+b*b*cc b (zc b c) (zc b c)=a*a+b*b*c:=by
 by_cases h:b=0
 ·subst h;grind
 ·rw[uh h,kR h]
theorem Sv {a b c:Rat}(hc:b≠0→c≠0):rB (a*b+b*a) (cc b (zc b c) (zc b c))=a*b+a*b:=by
 unfold rB
 split
 ·rename_i h
  by_cases hb:b=0
  ·subst hb;grind
  ·rw[uh hb,kR hb] at h
   rcases h with h|h
   ·grind
   ·exact absurd h (hc hb)
 ·grind
theorem QJ {a b c:Rat}(hc:b≠0→c≠0):rC (a*b+b*a) (cc b (zc b c) (zc b c))=zc (a*b+a*b) c:=by
 have e:a*b+b*a=a*b+a*b:=by grind
 rw[e]
 unfold rC
 by_cases hb:b=0
 ·subst hb
  rw[if_pos (.inl (by grind)),yU (by grind)]
 ·rw[uh hb,kR hb]
  by_cases h:a*b+a*b=0
  ·rw[if_pos (.inl h),yU h]
  ·rw[if_neg (fun e=>e.elim h (hc hb)),kR h]
theorem OK {B1 B2 c:Rat}: ¬Om B1 (zc B1 c) B2 (zc B2 c):=by
 rintro⟨h1,h2,h3⟩
 rw[kR h1,kR h2] at h3
 exact h3 rfl
theorem SL {B1 B2 c:Rat}(hc:B1+B2≠0→c≠0):rB (B1+B2) (cc B1 (zc B1 c) (zc B2 c))=B1+B2:=by
 unfold rB
 split
 ·rename_i h
  by_cases hs:B1+B2=0
  ·exact hs.symm
  ·exfalso
   rcases h with h|h
   ·exact hs h
   ·by_cases h1:B1=0
    ·rw[I1 h1] at h
     have h2:B2≠0:=fun e=>hs (by grind)
     rw[kR h2] at h
     exact hc hs h
    ·rw[uh h1,kR h1] at h
     exact hc hs h
 ·rfl
theorem TV {B1 B2 c:Rat}(hc:B1+B2≠0→c≠0):rC (B1+B2) (cc B1 (zc B1 c) (zc B2 c))=zc (B1+B2) c:=by
 unfold rC
 by_cases hs:B1+B2=0
 ·rw[if_pos (.inl hs),yU hs]
 ·have e:cc B1 (zc B1 c) (zc B2 c)=c:=by
   by_cases h1:B1=0
   ·rw[I1 h1,kR (fun e=>hs (by grind))]
   ·rw[uh h1,kR h1]
  rw[e,if_neg (fun e=>e.elim hs (hc hs)),kR hs]
theorem MU (a v:Rat):a+ -v=a-v:=by grind
section
variable {P:Program}{f:FuncId}{ds rs:List D0}{x y z x' y' z':Rat}
theorem L5 (h:Ok P f ds (.a (cR x++cR y++cR z)::rs)) (e1:x=x') (e2:y=y') (e3:z=z'):Ok P f ds (.a (cR x'++cR y'++cR z')::rs):=by subst e1 e2 e3;exact h
end
theorem Q1 (x y b1 b2 c:Rat):(x*x+b1*b1*c)+(y*y+b2*b2*c)=Dk x y b1 b2 c:=by unfold Dk;grind
theorem I5 (x y b1 b2:Rat):(x*b1+x*b1)+(y*b2+y*b2)=DE x y b1 b2:=by unfold DE;grind
theorem R1 {b1 b2 c:Rat}(h:xy b1 b2 c=true):(b1≠0→c≠0)∧(b2≠0→c≠0):=by
 have key: ¬(b1=0∧b2=0)→c≠0:=by
  intro hn e
  unfold xy at h
  rw[if_neg hn,Bool.and_eq_true] at h
  have:=of_decide_eq_true h.1
  rw[e] at this
  exact absurd this (by decide)
 exact⟨fun hb=>key (fun e=>hb e.1),fun hb=>key (fun e=>hb e.2)⟩
end Go.Proofs.YtacopbfkmnpfgaaGreat
