/-Plain:intervals hold what they were made for;the program's signs and orders are those of the sums. -/
import Derived.Test.YtegeknjkgadehaaGreatTwJ
namespace Go.Proofs.YtegeknjkgadehaaGreat
open Go Go.RowKit
variable {w:Bool}{hi lo n u v:Int}{a' r us us' xs z zs:List CellD}{i j k:Nat}{A B B1 B2 C D M N a a1 a2 b b1 b2 c c1 c2 d e f m x y:Rat}{L U X:Re}
theorem iO:type_of% @Rz.zero:=@Rz.zero
theorem nT:type_of% @List.mem_singleton:=@List.mem_singleton
theorem tH:type_of% @List.not_mem_nil:=@List.not_mem_nil
def Ak (x y:Re):Prop:=0<=bz (y-x)
theorem afi {x y z:Re}(h:Ak x y) (g:Ak y z):Ak x z:=by
 unfold Ak at*;have e:z-x=(z-y)+(y-x):=ee fun k=>by simp only[bt,bN];grind
 rw[e];exact BY g h
theorem of_le {p q:Rat}(h:p<=q):Ak (Re.of p) (Re.of q):=by unfold Ak;rw[wu,gI];unfold aJ;grind
theorem qU {x y:Re}(h: ∀k,x.s k=y.s k) (g:0<=bz x):0<=bz y:=by rw[<-ee h];exact g
def rA (lo hi:Int) (x:Re):Prop:=Ak (Re.of (lo:Rat)) (Re.of 65536*x)/\Ak (Re.of 65536*x) (Re.of (hi:Rat))
theorem rS {x y u v:Re}(h:Ak x y) (g:Ak u v):Ak (x+u) (y+v):=by exact qU (fun k=>by simp only[bt,bN];grind) (BY h g)
theorem YS (y:Rat):((y.num.fdiv (y.den:Int):Int):Rat)<=y:=by have h:=den_pos y;have E:=Me y;have H:(0:Rat)<((y.den:Int):Rat):=yO.2 h;refine yf H ?_;rw[E,<-tK];refine rO.2 ?_;rw[pM _ (by omega),sU];have:=uL y.num (y.den:Int);have:=p5 y.num (show(y.den:Int)≠0 by omega);omega
theorem GR (a:Rat):rA (jo a) (iJ a) (Re.of a):=by
 have E:=YS (a*((65536:Int):Rat));have h:=YS (-(a*((65536:Int):Rat)));refine⟨?_,?_⟩
 ·rw[mU];refine of_le ?_;unfold jo;grind
 ·rw[mU];refine of_le ?_;unfold iJ;grind
theorem C9 (h:gV a=true):rA (gL a) (gH a) (Re.of a):=by unfold gL gH;rw[h,if_pos rfl,if_pos rfl];exact GR a
theorem Jg {p q:Re}(_J:0<=bz p) (E:0<=bz q) (h:0<=bz (q*q-p*p)):Ak p q:=by
 unfold Ak;rcases cZ (q-p) with a|a|a;·omega
 ·omega
 ·exfalso;have I:0<bz (p-q):=by
   have e:p-q= -(q-p):=ee fun k=>by simp only[bt,cn];grind
   rw[e,fu,a];decide
  have K:0<bz (p+q):=by
   have e:p+q=(p-q)+(q+q):=ee fun k=>by simp only[bt,bN];grind
   rw[e];exact Gb I (BY E E)
  have H:bz ((q-p)*(p+q))=bz (q*q-p*p):=congrArg bz (ee fun k=>by simp only[bt,bN,bW];grind);rw[di,a] at H;omega
theorem LN (h:0<=n):0<=bz (Re.of (n:Rat)):=by have:=of_le (zm.2 h);refine qU (fun k=>?_) this;simp only[bt,db];grind
theorem yP {p q:Rat}(h:Ak (Re.of p) (Re.of q)):p<=q:=by unfold Ak at h;rw[wu,gI] at h;unfold aJ at h;grind
theorem Lu (m:Rat):0<=bz (Re.of 65536*Re.rt m):=by
 have E:=O2 m;have h:bz (Re.of 65536)=1:=by rw[gI];decide+kernel
 rw[di,h];omega
theorem LR (h:0<=m) (q:Rat):bz (Re.of 65536*Re.rt m*(Re.of 65536*Re.rt m)-Re.of q)=aJ (65536*65536*m) q:=by
 rw[<-tB,<-gI];refine q7 ?_;have e:Re.of 65536*Re.rt m*(Re.of 65536*Re.rt m)-Re.of q-Re.of (65536*65536*m-q)=Re.of (65536*65536)*(Re.rt m*Re.rt m-Re.of m):=ee fun k=>by simp only[bt,bW,db];grind
 rw[e,di,Ef h,si]
theorem S0 (h:y<=x):0<=aJ x y:=by unfold aJ;rw[if_neg (by grind)];split<;>omega
theorem Pc (h:x<=y):aJ x y<=0:=by
 unfold aJ;split;·omega
 ·rw[if_neg (by grind)];omega
theorem QG (H:0<=m) (h:rA lo hi (Re.of m)):rA (oN lo) (kF hi) (Re.rt m):=by
 obtain⟨I,J⟩:=h;rw[mU] at I J;have g1:=yP I;have g2:=yP J;have R:(0:Rat)<=65536*m:=by grind
 refine⟨?_,?_⟩
 ·refine Jg (LN (eD _)) (Lu m) ?_;rw[mU,LR H];refine S0 ?_;have E:=r8 (x:=max lo 0*65536) (by omega);have K:((bp (max lo 0*65536)*bp (max lo 0*65536):Int):Rat)<=((max lo 0*65536:Int):Rat):=rO.2 E;have W:((max lo 0:Int):Rat)<=65536*m:=by
   by_cases hl:0<=lo;·grind
   ·rw[show max lo 0=0 from by omega];simpa using R
  unfold oN;grind
 ·refine Jg (Lu m) (LN ?_) ?_;·unfold kF;have:=eD (hi*65536);split<;>omega
  have E:0<= -bz (Re.of 65536*Re.rt m*(Re.of 65536*Re.rt m)-Re.of (((kF hi:Int):Rat)*((kF hi:Int):Rat))):=by
   rw[LR H];have hh:(0:Int)<=hi:=by
    have:(0:Rat)<=(hi:Rat):=by grind
    exact zm.1 this
   have K:hi*65536<=kF hi*kF hi:=by
    unfold kF;split
    ·rename_i hs;unfold At at hs;grind
    ·have:=AU (x:=hi*65536) (by omega);omega
   have W:((hi*65536:Int):Rat)<=((kF hi*kF hi:Int):Rat):=rO.2 K;have:=Pc (x:=65536*65536*m) (y:=((kF hi:Int):Rat)*((kF hi:Int):Rat)) (by grind);omega
  rw[<-fu] at E;refine qU (fun k=>?_) E;simp only[cn,bt,bW,db];grind
theorem JL {k u v:Re}(K:0<=bz (k*u-L)) (I:0<=bz (k*v-L)) (E:Ak u U) (h:Ak U v):0<=bz (k*U-L):=by
 unfold Ak at*;have e:(v-u)*(k*U-L)=(v-U)*(k*u-L)+(U-u)*(k*v-L):=ee fun j=>by simp only[bt,bW,bN];grind
 have J:0<=bz ((v-U)*(k*u-L)+(U-u)*(k*v-L)):=by
  refine BY ?_ ?_;·rw[di];exact mh h K
  ·rw[di];exact mh E I
 rw[<-e,di] at J;have R:bz (v-u)=bz ((v-U)+(U-u)):=congrArg bz (ee fun j=>by simp only[bt,bN];grind);rcases cZ (v-u) with a|a|a;·grind
 ·rcases cZ (U-u) with b|b|b
  ·have:=Gb (x:=U-u) (y:=v-U) (by omega) h;rw[K8] at this;omega
  ·have H:k*U-L=(k*u-L)+k*(U-u):=ee fun j=>by simp only[bt,bN,bW];grind
   rw[H,dT _ (by rw[di,b,si])];grind
  grind
 ·have:=BY h E;omega
theorem Pm {x y u v:Re}(J:0<=bz (x*u-L)) (R:0<=bz (x*v-L)) (H:0<=bz (y*u-L)) (W:0<=bz (y*v-L)) (I:Ak x X) (K:Ak X y) (h:Ak u U) (E:Ak U v):0<=bz (X*U-L):=by have a:=JL J R h E;have b:=JL H W h E;rw[uO x U] at a;rw[uO y U] at b;have:=JL a b I K;rw[uO U X] at this;grind
theorem Yx (a b:Int):lp a b*65536<=a*b/\a*b<=lq a b*65536:=by
 have e:a*b=if (!(decide (a<0)==decide (b<0)))=true then-OW a b else OW a b:=by
  unfold OW;by_cases H:a<0<;>by_cases h:b<0;·grind
  ·grind
  ·grind
  grind
 rw[e];unfold lp lq;generalize OW a b=p;have E:p<=C8 p*65536:=by unfold C8;split<;>omega
 grind
theorem QS {x y:Int}(h:rA x y X) (g:rA u v U):rA (Dd x y u v 4) (C5 x y u v 4) (X*U):=by
 have lo: ∀a b:Int,Dd x y u v 4<=lp a b->0<=bz (Re.of (a:Rat)*Re.of (b:Rat)-Re.of ((Dd x y u v 4*65536:Int):Rat)):=by intro a b hl;rw[mU];refine of_le ?_;rw[<-tK];exact rO.2 (by have:=(Yx a b).1;omega)
 have hi: ∀a b:Int,lq a b<=C5 x y u v 4->0<=bz (-Re.of (a:Rat)*Re.of (b:Rat)-Re.of (-((C5 x y u v 4*65536:Int):Rat))):=by intro a b hl;rw[QH,mU];refine of_le ?_;have h1:((a*b:Int):Rat)<=((C5 x y u v 4*65536:Int):Rat):=rO.2 (by have:=(Yx a b).2;omega);grind
 have R:Dd x y u v 4=min (min (min (min 2305843009213693952 (lp x u)) (lp x v)) (lp y u)) (lp y v):=rfl;have J:C5 x y u v 4=max (max (max (max (-2305843009213693952) (lq x u)) (lq x v)) (lq y u)) (lq y v):=rfl;have H:((65536:Int):Rat)=65536:=rfl;have E:bz (Re.of 65536)=1:=by rw[gI];decide+kernel
 refine⟨?_,?_⟩
 ·have I:=Pm (lo x u (by omega)) (lo x v (by omega)) (lo y u (by omega)) (lo y v (by omega)) h.1 h.2 g.1 g.2;have e:bz (Re.of 65536*(Re.of 65536*(X*U)-Re.of ((Dd x y u v 4:Int):Rat)))=bz (Re.of 65536*X*(Re.of 65536*U)-Re.of ((Dd x y u v 4*65536:Int):Rat)):=congrArg bz (ee fun k=>by simp only[bt,bW,db,tK,H];grind)
  rw[<-e,di,E,Int.one_mul] at I;exact I
 ·have W:Ak (-Re.of (y:Rat)) (-(Re.of 65536*X)):=qU (fun k=>by simp only[bt,cn];grind) h.2;have K:Ak (-(Re.of 65536*X)) (-Re.of (x:Rat)):=qU (fun k=>by simp only[bt,cn];grind) h.1;have I:=Pm (hi y u (by omega)) (hi y v (by omega)) (hi x u (by omega)) (hi x v (by omega)) W K g.1 g.2;have e:bz (Re.of 65536*(Re.of ((C5 x y u v 4:Int):Rat)-Re.of 65536*(X*U)))=bz (-(Re.of 65536*X)*(Re.of 65536*U)-Re.of (-((C5 x y u v 4*65536:Int):Rat))):=congrArg bz (ee fun k=>by simp only[bt,bW,db,cn,tK,H];grind)
  rw[<-e,di,E,Int.one_mul] at I;exact I
theorem Km {x y:Int}(h:rA x y X) (g:rA u v U) (E:wT x y u v 4=true):rA (pL x y u v) (pH x y u v) (X*U):=by unfold pL pH;rw[E,if_pos rfl,if_pos rfl];exact QS h g
theorem T6 {x y:Int}(h:rA x y X) (g:rA u v U):rA (x+u) (y+v) (X+U):=by
 have a:=rS h.1 g.1;have b:=rS h.2 g.2;refine⟨qU (fun k=>?_) a,qU (fun k=>?_) b⟩;·simp only[bt,bN,bW,db,Rat.intCast_add];grind
 ·simp only[bt,bN,bW,db,Rat.intCast_add];grind
theorem Ix {x y:Int}(h:rA x y X) (g:rA u v U) (E:tp (x+u) (y+v)=true):rA (aL x y u v) (aH x y u v) (X+U):=by unfold aL aH;rw[E,if_pos rfl,if_pos rfl];exact T6 h g
theorem Xd (X:Re):bz (Re.of 65536*X)=bz X:=by
 have h:bz (Re.of 65536)=1:=by rw[gI];decide+kernel
 rw[di,h,Int.one_mul]
theorem HO (h:0<n):0<bz (Re.of (n:Rat)):=by rw[gI];have E:(0:Rat)<(n:Rat):=yO.2 h;unfold aJ;grind
theorem X3 (h:rA lo hi X) (hl:0<lo):bz X=1:=by have E:=Gb (HO hl) h.1;have e:bz (Re.of (lo:Rat)+(Re.of 65536*X-Re.of (lo:Rat)))=bz (Re.of 65536*X):=congrArg bz (ee fun k=>by simp only[bt,bN];grind);rw[e,Xd] at E;have:=cZ X;omega
theorem Yj (h:rA lo hi X) (hl:hi<0):bz X= -1:=by
 have H:0<bz (-Re.of (hi:Rat)):=by rw[QH,<-Rat.intCast_neg];exact HO (by omega)
 have E:=Gb H h.2;have e:bz (-Re.of (hi:Rat)+(Re.of (hi:Rat)-Re.of 65536*X))=bz (-(Re.of 65536*X)):=congrArg bz (ee fun k=>by simp only[bt,bN,cn];grind);rw[e,fu,Xd] at E;have:=cZ X;omega
theorem WY (h:rA 0 0 X):bz X=0:=by have E:=h.1;have H:=h.2;unfold Ak at E H;have J:bz (Re.of 65536*X-Re.of ((0:Int):Rat))=bz (Re.of 65536*X):=congrArg bz (ee fun k=>by simp only[bt,db];grind);have I:bz (Re.of ((0:Int):Rat)-Re.of 65536*X)=bz (-(Re.of 65536*X)):=congrArg bz (ee fun k=>by simp only[bt,db,cn];grind);rw[J,Xd] at E;rw[I,fu,Xd] at H;omega
theorem FO (h:rA lo hi X) (hs:J7 lo hi=true):KB lo hi=bz X:=by
 unfold J7 at hs;simp only[tV,decide_eq_true_eq,de,beq_iff_eq] at hs;unfold KB;by_cases E:lo>0;·rw[if_pos E,X3 h E]
 ·rw[if_neg E];by_cases I:hi<0;·rw[if_pos I,Yj h I]
  ·rw[if_neg I];rcases hs with hs|hs|⟨hs,H⟩;·omega
   ·omega
   ·subst hs H;exact(WY h).symm
theorem WD (hM:0<=M) (hN:0<=N) (h:Uf A B C D M N=true):YX A B C D M N=bz (J5 A B C D M N):=by unfold Uf at h;rw[de] at h;obtain⟨H,hs⟩:=h;rw[(JR H).1];unfold Mk qK2 ZT at H;simp only[de] at H;obtain⟨⟨⟨k1,k2⟩,k3,k4,k5,k6,k7,k8,k9⟩,W,a3,a0,J⟩:=H;have im:=QG hM (C9 k1);have E:=QG hN (C9 k2);have ib:rA (Y5 B M) (Yg B M) _:=Km (C9 k3) im k4;have ic:rA (Y5 C N) (Yg C N) _:=Km (C9 k5) E k6;have a5:rA (VJ M N) (VD M N) _:=Km im E k8;have R:rA (qdL D M N) (qdH D M N) _:=Km (C9 k7) a5 k9;have a4:rA (Xf A B M) (Wa A B M) _:=Ix (C9 W) ib a3;have K:rA (VW C D M N) (Vf C D M N) _:=Ix ic R a0;have I:rA (qsL A B C D M N) (qsH A B C D M N) _:=Ix a4 K J;rw[FO I hs];refine congrArg bz (ee fun k=>?_);unfold J5 fi;simp only[bN,bW,db];grind
theorem Vq (H:0<=M) (E:0<=N):CX A B C D M N=bz (J5 A B C D M N):=by
 unfold CX;rw[if_neg (by rintro(h|h)<;>grind)];split;·rename_i h;exact WD H E h
 ·exact I9 H E
theorem Jf (h:dD a b c=true):rA (dw a b c) (du a b c) (fi a b c):=by
 have R:=h;unfold dD at h;rw[de] at h;obtain⟨h1,H⟩:=h;cases E:(aJ b 0==0) with
 |true=>
  obtain⟨e1,e2,_⟩:=ady (c:=c) h1 E;have K:b=0:=tY E;have:=GR a;have e:fi a 0 c=Re.of a:=ee fun k=>by unfold fi;simp only[bN,bW,db];grind
  grind
 |false=>
  rw[E,Bool.false_or] at H;unfold WG at H;simp only[de,wa] at H;obtain⟨g1,g2,I,g4,g5⟩:=H;have J:0<=c:=Rat.not_lt.1 (EE I);have W:=QG J (GR c);have im:=QS (GR b) W;have:=T6 (GR a) im;unfold dw du;rw[R,if_pos rfl,if_pos rfl,E,if_neg (by decide),if_neg (by decide)];exact this
theorem Vj (h:HC (dD a b c) (dD d e f) (dw a b c) (du a b c) (dw d e f) (du d e f)=true):
 KT (dD a b c) (dD d e f) (dw a b c) (du a b c) (dw d e f) (du d e f)=bz (fi a b c-fi d e f):=by
 unfold HC at h
 simp only[de,tV,decide_eq_true_eq] at h
 obtain⟨⟨E,K⟩,hs⟩:=h
 have I:=Jf E
 have H:=Jf K
 have i3:rA (dw a b c-du d e f) (du a b c-dw d e f) (fi a b c-fi d e f):=by
  have n:=rS I.1 (qU (y:= -(Re.of 65536*fi d e f)- -Re.of ((du d e f:Int):Rat)) (fun k=>by simp only[bt,cn];grind) H.2);have m:=rS I.2 (qU (y:= -Re.of ((dw d e f:Int):Rat)- -(Re.of 65536*fi d e f)) (fun k=>by simp only[bt,cn];grind) H.1);refine⟨qU (fun k=>?_) n,qU (fun k=>?_) m⟩;·simp only[bt,bN,bW,db,cn,Rat.intCast_sub];grind
  ·simp only[bt,bN,bW,db,cn,Rat.intCast_sub];grind
 unfold KT
 rw[E,K,Bool.and_self,if_pos rfl]
 by_cases J:du a b c<dw d e f
 ·rw[if_pos (decide_eq_true J),Yj i3 (by omega)]
 ·rw[if_neg (by simpa using J)]
  rcases hs with hs|hs
  ·omega
  ·rw[if_pos (decide_eq_true hs),X3 i3 (by omega)]
theorem Xc (E:0<=c) (H:0<=f):Ct a b c d e f=bz (fi a b c-fi d e f):=by
 unfold Ct;split
 ·rename_i h;have I:b=0:=tY h.1;have J:e=0:=tY h.2;rw[<-tB,<-gI];refine congrArg bz (ee fun k=>?_);unfold fi;simp only[bt,bN,bW,db];grind
 ·split;·rename_i h;exact Vj h
  ·split
   ·rename_i h;have K:c=f:=lQ.1 (by simpa using h);rw[iG E];refine congrArg bz (ee fun k=>?_);unfold fi;simp only[bt,bN,bW,db];grind
   ·rw[Vq E H];refine congrArg bz (ee fun k=>?_);unfold J5 fi;simp only[bt,bN,bW,db];grind
theorem xd {x:Int}(h:0<x):0<bp x:=by
 have E:=AU (x:=x) (by omega);have H:=eD x;by_cases e:bp x=0;·rw[e] at E;omega
 ·omega
theorem Rz.rt (h:Rz k c):Rz k (rt c):=Rz.of h.n.isq h.d.isq (by have:=xd (den_pos c);omega)
theorem In (h:jB c=true):cQ (if jB c then bp c.num else 0) (if jB c then bp (c.den:Int) else 0)=cR (rt c):=by have:=UB h;unfold dQ dR at this;injection this
def zR:List CellD:=[.b false,.s 0 [],.b false,.s 0 [],.b false,.s 0 [],.b false,.s 0 [],.b false,.s 0 [],.b false,.s 0 []]
theorem CL (J:Rz 1000000 a) (H:Rz 1000000 b) (I:Rz 1000000 c) (K: ¬c<0) (hs:jB c=true):Ok Tryz.prog 31 [dR a,dR b,dR c] [.a ((cR (a+b*rt c)++cR 0++cR 0)),.c (.i .i64 0)]:=by
 have R:Rz 6000000 a:=J.m_;have kb:Rz 6000000 b:=H.m_;have kc:Rz 6000000 c:=I.m_;have W:Rz 1000000 (rt c):=I.rt;refine cj Tryz.func31 rfl<|ac rfl (bX) ?_;refine cU rfl (fun h=>?_) (fun h=>?_);·exact absurd (NT h) K
 ·refine ac rfl (qZ (aU I)) ?_;refine DW.mk<|aA rfl (fun E=>?_) (fun E=>?_)
  ·refine pp (σ':=⟨30,[(3,.p 3 0),(4,.p 4 0),(6,.p 6 0),(8,.p 8 0)],[(3,40,cR a),(4,40,cR b),(6,59,zR),(8,40,cR (rt c))]⟩) (al ⟨rfl,rfl,rfl,rfl,trivial⟩ ⟨rfl,rfl,rfl,by rw[<-In hs];rfl,trivial⟩ rfl)<|sh ?_;refine cE 6 [] ?_;refine aG rfl (cY (aU H) (zaR)) ?_;refine aG rfl (gC (aU J) (aU (aW H (by assumption)))) ?_;refine aG rfl (mq) ?_;exact ah (a7 jG rfl (aj aa))
  ·exact absurd hs (by rw[E];decide)
theorem DF (I:Rz 50 a) (h:Rz 50 b) (E:Rz 50 c) (H: ¬c<0) (hs:jB c=true):Ok Tryz.prog 31 [dR a,dR b,dR c] [.a ((cR (a+b*rt c)++cR 0++cR 0)),.c (.i .i64 0)]:=CL (I.mono (by decide)) (h.mono (by decide)) (E.mono (by decide)) H hs
theorem Bw (K:Rz 1000000 a) (I:Rz 1000000 b) (H:Rz 1000000 c) (J: ¬c<0) (hs:jB c=false):Ok Tryz.prog 31 [dR a,dR b,dR c] [.a ((cR a++cR (rB b c)++cR (rC b c))),.c (.i .i64 0)]:=by
 have R:Rz 6000000 a:=K.m_;have kb:Rz 6000000 b:=I.m_;have kc:Rz 6000000 c:=H.m_;have W:Rz 1000000 (rt c):=H.rt;refine cj Tryz.func31 rfl<|ac rfl (bX) ?_;refine cU rfl (fun h=>?_) (fun h=>?_);·exact absurd (NT h) J
 ·refine ac rfl (qZ (aU H)) ?_;refine cU rfl (fun E=>?_) (fun E=>?_);·exact absurd E (by rw[hs];decide)
  ·refine ac rfl (oh) ?_;exact ah (a7 jG rfl (aj aa))
theorem DS (I:Rz 50 a) (h:Rz 50 b) (E:Rz 50 c) (H: ¬c<0) (hs:jB c=false):Ok Tryz.prog 31 [dR a,dR b,dR c] [.a ((cR a++cR (rB b c)++cR (rC b c))),.c (.i .i64 0)]:=Bw (I.mono (by decide)) (h.mono (by decide)) (E.mono (by decide)) H hs
theorem Kk (K:Rz 6000000 c1) (h:Rz 6000000 c2) (J: ¬Um b1 c1 b2 c2):Ok Tryz.prog 33 [.a ((cR a1++cR b1++cR c1)),.a ((cR a2++cR b2++cR c2))] [.a ((cR a1++cR b1++cR a2++cR b2++cR (zcp b1 b2 (cc b1 c1 c2)))),.c (.i .i64 0)]:=by
 have a3:=K;have W:=h;refine cj Tryz.func33 rfl<|ac rfl (bX) ?_;refine jC (aQ rfl) (fun c1 R=>?_);cases c1
 ·refine ar (aQ rfl)<|nM rfl<|ac rfl (bX) ?_;refine cU rfl (fun h=>?_) (fun h=>?_)
  ·refine ac rfl (jU) ?_;refine ah ?_;rw[Ho (tY h)];exact a7 bo rfl (aj aa)
  ·refine ac rfl (jU) ?_;refine ah ?_;rw[zn (tg h)];exact a7 bo rfl (aj aa)
 ·refine ac rfl (bX) ?_;refine jC (aQ rfl) (fun c3 a0=>?_);cases c3
  ·refine nM rfl<|ac rfl (bX) ?_;refine cU rfl (fun E=>?_) (fun E=>?_)
   ·refine ac rfl (jU) ?_;refine ah ?_;rw[Ho (tY E)];exact a7 bo rfl (aj aa)
   ·refine ac rfl (jU) ?_;refine ah ?_;rw[zn (tg E)];exact a7 bo rfl (aj aa)
  ·refine ac rfl (gZ (aU a3) (aU W)) ?_;refine cU rfl (fun I=>?_) (fun I=>?_);·exact absurd ⟨SZ R,SZ a0,SZ I⟩ J
   ·refine ac rfl (bX) ?_;refine cU rfl (fun H=>?_) (fun H=>?_)
    ·refine ac rfl (jU) ?_;refine ah ?_;rw[Ho (tY H)];exact a7 bo rfl (aj aa)
    ·refine ac rfl (jU) ?_;refine ah ?_;rw[zn (tg H)];exact a7 bo rfl (aj aa)
theorem EO (H:Rz 300 c1) (E:Rz 300 c2) (h: ¬Um b1 c1 b2 c2):Ok Tryz.prog 33 [.a ((cR a1++cR b1++cR c1)),.a ((cR a2++cR b2++cR c2))] [.a ((cR a1++cR b1++cR a2++cR b2++cR (zcp b1 b2 (cc b1 c1 c2)))),.c (.i .i64 0)]:=Kk (H.mono (by decide)) (E.mono (by decide)) h
theorem Rz.zcp (h:Rz k c) (E:1<=k):Rz k (zcp b1 b2 c):=by
 unfold Go.Proofs.YtegeknjkgadehaaGreat.zcp;split;·exact iO E
 ·exact h
theorem Rz.cc (h:Rz k c1) (E:Rz k c2):Rz k (cc b1 c1 c2):=by
 unfold Go.Proofs.YtegeknjkgadehaaGreat.cc;split;·exact E
 ·exact h
theorem vF (h:s9 b1 b2 c=true):0<=c:=by
 unfold s9 at h;split at h;·grind
 grind
theorem nO (h:0<=c):0<=zc b c:=by unfold zc;split<;>grind
def Al (a b c:Rat):Re:=fi a b (zc b c)
theorem tZ {p q r:Rat}(h:0<=c) (E:0<=r):Dr a b c p q r=bz (Al a b c-Al p q r):=ym (nO h) (nO E)
section
variable {a1 b1 a2 b2 c p1 q1 p2 q2 r:Rat}
theorem CV (x y:Re):bz (y-x)= -bz (x-y):=by rw[<-fu];exact congrArg bz (ee fun k=>by simp only[bt,cn];grind)
theorem Br (x:Re):bz (x-x)=0:=by have h:=CV x x;omega
theorem K0 (E:0<=c) (h:0<=r):qV p1 q1 p2 q2 r a1 b1 a2 b2 c= -qV a1 b1 a2 b2 c p1 q1 p2 q2 r:=by unfold qV;rw[tZ E h,tZ E h,tZ h E,tZ h E,CV (Al a1 b1 c),CV (Al a2 b2 c)];grind
theorem JF (h:0<=c):qV a1 b1 a2 b2 c a1 b1 a2 b2 c=0:=by unfold qV;rw[tZ h h,tZ h h,Br,Br];simp
end
theorem SM (n:Int):At (n*n)=true:=by
 have h:bp (n*n)=(n.natAbs:Int):=by
  have e:(n.natAbs:Int)*(n.natAbs:Int)=n*n:=by grind
  refine pC ?_ (by omega) (by omega) ?_;·grind
  grind
 unfold At;grind
theorem Rx (x:Rat):jB (x*x)=true:=by
 have e:x*x=Rat.divInt (x.num*x.num) ((x.den:Int)*(x.den:Int)):=by
  conv=>lhs;rw[<-Rat.num_divInt_den x]
  exact Rat.divInt_mul_divInt _ _
 have E:=den_pos x;have J:Int.gcd (x.num*x.num) ((x.den:Int)*(x.den:Int))=1:=by have h:Nat.Coprime x.num.natAbs x.den:=x.reduced;show Nat.gcd (x.num*x.num).natAbs ((x.den:Int)*(x.den:Int)).natAbs=1;rw[Int.natAbs_mul,Int.natAbs_mul,Int.natAbs_natCast];exact(h.mul_left h).mul_right (h.mul_left h)
 have K:vQ (x.num*x.num) ((x.den:Int)*(x.den:Int))=true:=by unfold vQ;rw[J,decide_eq_true (Int.mul_pos E E)];rfl
 obtain⟨H,I⟩:=TN K;rw[<-e] at H I;unfold jB;rw[H,I,SM,SM];rfl
theorem Nl (K:0<=c) (J:b≠0->0<c/\jB c=false):s3 a b c=bz (fi a b c):=by
 rw[<-iG K];unfold s3 bU qf;by_cases h:b=0
 ·have H:aJ b 0=0:=lQ.2 h;rw[if_pos (.inr H),H,oL,if_pos (.inl rfl)]
 ·obtain⟨W,hs⟩:=J h;have h1:aJ c 0=1:=by unfold aJ;rw[if_neg (by grind),if_pos W]
  have h2:aJ b 0≠0:=fun e=>h (lQ.1 e);rw[h1,Int.mul_one];by_cases h3:aJ a 0=aJ b 0;·grind
  ·have n1: ¬(aJ a 0=aJ b 0\/aJ b 0=0):=by omega
   have R: ¬(aJ b 0=0\/aJ a 0=aJ b 0):=by omega
   rw[if_neg n1,if_neg R];by_cases E:aJ a 0=0;·grind
   ·rw[if_neg E,if_neg E];have hn:a*a≠b*b*c:=by
     intro e;have e2:c=(a/b)*(a/b):=by grind
     rw[e2,Rx] at hs;grind
    have a1:=dF a 0;have b1:=dF b 0;by_cases I:0<a*a-b*b*c
    ·have:aJ (a*a) (b*b*c)=1:=by unfold aJ;rw[if_neg (by grind),if_pos (by grind)]
     rw[if_pos I,this,Int.mul_one]
    ·have:aJ (a*a) (b*b*c)= -1:=by unfold aJ;rw[if_pos (by grind)]
     rw[if_neg I,this];omega
theorem BI (a b c:Rat):Al a b c=Re.of a+Re.of b*Re.rt c:=by
 unfold Al fi;by_cases h:b=0
 ·subst h;exact ee fun k=>by simp only[bN,bW,db];grind
 ·rw[jT h]
def JS (x y b1 b2 c:Rat):Rat:=x*x+y*y+(b1*b1+b2*b2)*c
def Ol (x y b1 b2:Rat):Rat:=(x*b1+y*b2)+(x*b1+y*b2)
theorem Te (E:s9 b1 b2 c=true) (h:Ol x y b1 b2≠0):0<c/\jB c=false:=by
 have H: ¬(b1=0/\b2=0):=by rintro⟨rfl,rfl⟩;apply h;unfold Ol;grind
 unfold s9 at E;grind
theorem aeE:a*a+b*b*cc b (zc b c) (zc b c)=a*a+b*b*c:=by
 by_cases h:b=0;·grind
 ·rw[zn h,jT h]
theorem afu (H:b≠0->c≠0):rB (a*b+b*a) (cc b (zc b c) (zc b c))=a*b+a*b:=by
 unfold rB;split
 ·rename_i h;by_cases E:b=0;·grind
  ·rw[zn E,jT E] at h;rcases h with h|h;·grind
   grind
 grind
theorem aee (H:b≠0->c≠0):rC (a*b+b*a) (cc b (zc b c) (zc b c))=zc (a*b+a*b) c:=by
 have e:a*b+b*a=a*b+a*b:=by grind
 rw[e];unfold rC;by_cases E:b=0
 ·subst E;rw[if_pos (.inl (by grind)),Df (by grind)]
 ·rw[zn E,jT E];by_cases h:a*b+a*b=0;·rw[if_pos (.inl h),Df h]
  ·rw[if_neg (fun e=>e.elim h (H E)),jT h]
theorem aaB: ¬Um B1 (zc B1 c) B2 (zc B2 c):=by rintro⟨H,E,h⟩;rw[jT H,jT E] at h;exact h rfl
theorem afK (H:B1+B2≠0->c≠0):rB (B1+B2) (cc B1 (zc B1 c) (zc B2 c))=B1+B2:=by
 unfold rB;split
 ·rename_i h;by_cases hs:B1+B2=0;·grind
  ·exfalso;rcases h with h|h;·grind
   ·by_cases E:B1=0
    ·rw[Ho E] at h;have I:B2≠0:=by grind
     rw[jT I] at h;grind
    ·rw[zn E,jT E] at h;exact H hs h
 ·rfl
theorem agm (E:B1+B2≠0->c≠0):rC (B1+B2) (cc B1 (zc B1 c) (zc B2 c))=zc (B1+B2) c:=by
 unfold rC;by_cases hs:B1+B2=0;·rw[if_pos (.inl hs),Df hs]
 ·have e:cc B1 (zc B1 c) (zc B2 c)=c:=by
   by_cases h:B1=0;·rw[Ho h,jT (fun e=>hs (by grind))]
   ·rw[zn h,jT h]
  rw[e,if_neg (fun e=>e.elim hs (E hs)),jT hs]
theorem EM (a v:Rat):a+ -v=a-v:=by grind
section
variable {P:Program}{f:FuncId}{ds rs:List D0}{x y z x' y' z':Rat}
theorem xz (h:Ok P f ds (.a (cR x++cR y++cR z)::rs)) (E:x=x') (H:y=y') (I:z=z'):Ok P f ds (.a (cR x'++cR y'++cR z')::rs):=by subst E H I;exact h
end
theorem ae2 (x y b1 b2 c:Rat):(x*x+b1*b1*c)+(y*y+b2*b2*c)=JS x y b1 b2 c:=by unfold JS;grind
theorem Sf (x y b1 b2:Rat):(x*b1+x*b1)+(y*b2+y*b2)=Ol x y b1 b2:=by unfold Ol;grind
theorem afm (h:s9 b1 b2 c=true):(b1≠0->c≠0)/\(b2≠0->c≠0):=by
 have E: ¬(b1=0/\b2=0)->c≠0:=by unfold s9 at h;grind
 grind
inductive Wk:List CellD->List CellD->Prop
 |nil:Wk [] []
 |same {us us':List CellD}(u:CellD):Wk us us'->Wk (u::us) (u::us')
 |any {us us':List CellD}(u:CellD):Wk us us'->Wk (u::us) (.x::us')
theorem Wk.refl: ∀us:List CellD,Wk us us
 |[]=>.nil
 |u::us=>.same u (Wk.refl us)
theorem Wk.app {a b H:List CellD}(h:Wk a a') (g:Wk b H):Wk (a++b) (a'++H):=by
 induction h with
 |nil=>exact g
 |same u _ E=>exact .same u E
 |any u _ E=>exact .any u E
theorem Wk.len {a:List CellD}(h:Wk a a'):a.length=a'.length:=by
 induction h with
 |nil=>rfl
 |same u _ E=>simp[E]
 |any u _ E=>simp[E]
section
variable {av:Nat->Prop}{w:World}
theorem RdCs.wk (H:Wk us us'): ∀ {vs:List Value},RdCs av w vs us->RdCs av w vs us':=by
 induction H with
 |nil=>exact fun h=>h
 |same u _ E=>
  intro vs h;cases vs with
  |nil=>exact absurd h.1 (by simp)
  |cons v vs=>exact iM h.uncons.1 (E h.uncons.2)
 |any u _ E=>
  intro vs h;cases vs with
  |nil=>exact absurd h.1 (by simp)
  |cons v vs=>exact iM (.x v h.uncons.1.one.1 h.uncons.1.one.2) (E h.uncons.2)
theorem RdC.wks {v:Value}{n:Nat}(H:Wk us us') (h:RdC av w v (.s n us)):RdC av w v (.s n us'):=by
 cases h with
 |s0 A c hc=>cases H;exact .s0 A c hc
 |s b off c sz n xs K h0 h1 h2 R h4 h5 W h7=>
  refine .s b off c sz n us' K h0 h1 h2 (H.len▸R) h4 h5 W fun j u E=>?_;have hj:j<us.length:=by rw[H.len];exact(fb.1 E).1
  have J:RdCs av w ((List.range us.length).map K) us':=RdCs.wk H ⟨by simp,fun i v u I E=>by simp only[lu] at I;have hi:i<us.length:=(fb.1 E).1;rw[List.getElem?_range hi] at I;cases I;exact h7 i u E⟩
  exact J.2 j (K j) u (by simp only[lu];rw[List.getElem?_range hj];rfl) E
end
section
variable {P:Program}{f:FuncId}{ds:List D0}{us us':List CellD}
theorem Ok.wks {n:Nat}(h:Ok P f ds [.c (.s n us)]) (K:Wk us us'):Ok P f ds [.c (.s n us')]:=⟨h.cal,fun av vs w E J=>(h.run av vs w E J).mono fun _e _w' ⟨v,R,H,I⟩=>⟨v,R,RdC.wks K H,I⟩⟩
end
structure Pt where
 a1:Rat
 b1:Rat
 a2:Rat
 b2:Rat
 c:Rat
structure Ln where
 a:Rat
 b:Rat
 c:Rat
structure Ci where
 x:Rat
 y:Rat
 q:Rat
inductive Cv where
 |seg (l:Ln) (p q:Pt)
 |arc (k:Ci) (w:Bool) (p q:Pt)
def Sc:List CellD:=[.b false,.s 0 [],.b false,.s 0 []]
def mG:List CellD:=Sc++Sc++Sc
def xR4:List CellD:=[.x,.x,.x,.x]
def qx:List CellD:=xR4++xR4++xR4
def ai (p:Pt):List CellD:=cR p.a1++cR p.b1++cR p.a2++cR p.b2++cR p.c
def eJ (l:Ln):List CellD:=cR l.a++cR l.b++cR l.c
def dy (k:Ci):List CellD:=cR k.x++cR k.y++cR k.q
def an:Cv->List CellD
 | .seg l p q=>[.b false]++eJ l++mG++[.b false]++ai p++ai q
 | .arc k w p q=>[.b true]++qx++dy k++[.b w]++ai p++ai q
def Yi (z:List CellD):Cv->List CellD
 | .seg l p q=>[.b false]++eJ l++z++[.b false]++ai p++ai q
 | .arc k w p q=>[.b true]++z++dy k++[.b w]++ai p++ai q
theorem adz (h:z.length=12):Wk z qx:=by
 match z,h with
 |[a,b,c,d,e,f,g,h,i,j,k,l],_=>exact .any _ (.any _ (.any _ (.any _ (.any _ (.any _ (.any _ (.any _ (.any _ (.any _ (.any _ (.any _ .nil)))))))))))
theorem wkA (h:z.length=12) (k:Ci) (w:Bool) (p q:Pt):Wk (Yi z (.arc k w p q)) (an (.arc k w p q)):=(((((Wk.refl _).app (adz h)).app (Wk.refl _)).app (Wk.refl _)).app (Wk.refl _)).app (Wk.refl _)
theorem aD (p:Pt):(ai p).length=20:=rfl
theorem ae (c:Cv):(an c).length=66:=by cases c<;>rfl
section
variable {α:Type}
def am (enc:α->List CellD):List α->List CellD
 |[]=>[]
 |x::l=>enc x++am enc l
variable {enc:α->List CellD}{m:Nat}
theorem ak (h: ∀x,(enc x).length=m): ∀l:List α,(am enc l).length=l.length*m
 |[]=>by simp[am]
 |x::l=>by show(enc x++am enc l).length=(l.length+1)*m;rw[dc,h,ak h l,iP];omega
theorem dg: ∀l r:List α,am enc (l++r)=am enc l++am enc r
 |[],r=>rfl
 |x::l,r=>by show enc x++am enc (l++r)=enc x++am enc l++am enc r;rw[dg l r,ro]
theorem ez (x:α):am enc [x]=enc x:=pI _
theorem oB (h: ∀x,(enc x).length=m) (l:List α) (j:Nat):(am enc l).drop (j*m)=am enc (l.drop j):=by
 by_cases E:j<=l.length
 ·have e:am enc l=am enc (l.take j)++am enc (l.drop j):=by rw[<-dg,v8]
  have hl:(am enc (l.take j)).length=j*m:=by rw[ak h,eu,dK E]
  grind
 ·rw[pG (by rw[ak h];exact mE _ (by omega)),pG (by omega)];rfl
theorem qP (h: ∀x,(enc x).length=m) (l:List α) (j:Nat):(am enc l).take (j*m)=am enc (l.take j):=by
 by_cases E:j<=l.length
 ·have e:am enc l=am enc (l.take j)++am enc (l.drop j):=by rw[<-dg,v8]
  have hl:(am enc (l.take j)).length=j*m:=by rw[ak h,eu,dK E]
  grind
 ·rw[f9 (by rw[ak h];exact mE _ (by omega)),f9 (by omega)]
theorem cS (h: ∀x,(enc x).length=m) {l:List α}{x:α}(I:l[j]? =some x):(am enc l).drop (j*m)=enc x++am enc (l.drop (j+1)):=by obtain⟨E,H⟩:=fb.1 I;rw[oB h,oG E,H];rfl
theorem ca {l:List α}{d:α}(h:j<l.length):l[j]? =some (l.getD j d):=by grind
section
variable {P:Program}{ops:Array Oper}{T:TF}{B:BF}{dst:Option Nat}{x y:Operand}{ty U:TypeId}{pos:String}{af:Array Edge}{g:Option (Nat×Bool)}
theorem eI {H:IntKind}{l:List α}(d:α) (h: ∀x,(enc x).length=m) (I:j<l.length) (E:om P U=some m) (e:(ck T x,ck T y,gd ops ⟨dst,.indexAddr U x y,ty,pos,af,g⟩ T)=(some (.v (.c (.s l.length (am enc l)))),some (.v (.c (.i H (j:Int)))),some true)):
 Sem P ops ⟨dst,.indexAddr U x y,ty,pos,af,g⟩ T B (.r (.q (enc (l.getD j d)++am enc (l.drop (j+1))))):=
 ba (j:=(j:Int)) E (congrArg Prod.fst e) (congrArg (fun q=>q.2.1) e) (by omega) (ak h _) (cS h (ca I)) (congrArg (fun q=>q.2.2) e)
theorem kz {a:α}(h: ∀x,(enc x).length=m) (E:mv P U=some (true,m)) (e:(ck T x,gd ops ⟨dst,.load U x,ty,pos,af,g⟩ T)=(some (.q (enc a++r)),some true)):Sem P ops ⟨dst,.load U x,ty,pos,af,g⟩ T B (.r (.v (.a (enc a)))):=
 bm E (congrArg Prod.fst e) (by rw[<-h a];exact List.take_left) (h a) (congrArg Prod.snd e)
end
theorem uc {l:List α}{d:α}(h:j<l.length):l.take (j+1)=l.take j++[l.getD j d]:=by simp_all
theorem aY {l:List α}{d:α}(h:j<l.length):l.getD j d∈l:=by grind
end
def dPt:Pt:=⟨0,0,0,0,0⟩
def aK:Cv:=.seg ⟨0,0,0⟩ dPt dPt
def Cv.p:Cv->Pt
 | .seg _ p _=>p
 | .arc _ _ p _=>p
def Cv.q:Cv->Pt
 | .seg _ _ q=>q
 | .arc _ _ _ q=>q
def Cv.isArc:Cv->Bool
 | .seg ..=>false
 | .arc ..=>true
def Cv.cw:Cv->Bool
 | .seg ..=>false
 | .arc _ w _ _=>w
def Cv.ends:Cv->Pt->Pt->Cv
 | .seg l _ _,p,q=>.seg l p q
 | .arc k w _ _,p,q=>.arc k w p q
def Cv.rev:Cv->Cv
 | .seg l p q=>.seg l q p
 | .arc k w p q=>.arc k (!w) q p
def vA (l:Ln) (p:Pt):Rat:=l.a*p.a1+l.b*p.a2-l.c
def vB (l:Ln) (p:Pt):Rat:=l.a*p.b1+l.b*p.b2
def jz (l:Ln) (p:Pt):Int:=s3 (vA l p) (rB (vB l p) p.c) (rC (vB l p) p.c)
def KU (k:Ci) (p:Pt):Rat:=JS (p.a1-k.x) (p.a2-k.y) p.b1 p.b2 p.c+ -k.q
def Dc (k:Ci) (p:Pt):Rat:=Ol (p.a1-k.x) (p.a2-k.y) p.b1 p.b2
def j7 (k:Ci) (p:Pt):Int:= -s3 (KU k p) (Dc k p) (zc (Dc k p) p.c)
def Cv.supp:Cv->Pt->Bool
 | .seg l _ _,p=>jz l p==0
 | .arc k _ _ _,p=>j7 k p==0
def Ar (p:Pt) (v:Rat):Int:=bU (p.a1-v) p.b1 (zc p.b1 p.c)
def mA (p:Pt) (v:Rat):Int:=bU (p.a2-v) p.b2 (zc p.b2 p.c)
def mu (k:Ci) (p:Pt):Bool:=decide (mA p k.y>0)||(mA p k.y==0&&decide (Ar p k.x>0))
def cx (p q:Pt):Int:=Dr p.a1 p.b1 p.c q.a1 q.b1 q.c
def cy (p q:Pt):Int:=Dr p.a2 p.b2 p.c q.a2 q.b2 q.c
def cP (p q:Pt):Int:=qV p.a1 p.b1 p.a2 p.b2 p.c q.a1 q.b1 q.a2 q.b2 q.c
def f8 (k:Ci) (p q:Pt):Int:=if mu k p !=mu k q then(if mu k q then-1 else 1) else if mu k p then-cx p q else cx p q
def tU (k:Ci) (f p q:Pt):Int:=if decide (f8 k p f<0) !=decide (f8 k q f<0) then(if decide (f8 k q f<0) then-1 else 1) else f8 k p q
def Pt.flip (p:Pt):Pt:=⟨-p.a1,-p.b1,p.a2,p.b2,p.c⟩
def Ci.mir (k:Ci):Ci:=⟨-k.x,k.y,k.q⟩
def Cv.ord:Cv->Pt->Pt->Int
 | .seg _ f t,p,q=>if decide (cP f t>0) then-cP p q else cP p q
 | .arc k w f _,p,q=>if !w then tU k f p q else tU k.mir f.flip p.flip q.flip
def Cv.on (c:Cv) (p:Pt):Bool:=c.supp p&&decide (c.ord c.p p<=0)&&decide (c.ord p c.q<=0)
def nW (c:Cv) (x:Pt):List Pt->Nat
 |[]=>0
 |o::l=>if c.ord o x<0 then nW c x l+1 else 0
def fS (c:Cv) (out:List Pt) (x:Pt):List Pt:=
 if nW c x out<out.length/\cP (out.getD (nW c x out) dPt) x=0 then out else out.take (nW c x out)++x::out.drop (nW c x out)
def cb (c:Cv) (l:List Pt):List Pt:=l.foldl (fS c) []
def kX (c:Cv):List Pt->List Cv
 |p::q::l=>c.ends p q::kX c (q::l)
 |_=>[]
def fz (c:Cv) (l:List Pt):List Cv:=kX c (cb c ([c.p,c.q]++l))
def wE (x y:Rat):Bool:=aJ x y==0
def jy:Cv->Cv->Bool
 | .seg l _ _,.seg m _ _=>wE (l.a*m.b) (l.b*m.a)&&wE (l.a*m.c) (l.c*m.a)&&wE (l.b*m.c) (l.c*m.b)
 | .arc k _ _ _,.arc d _ _ _=>wE k.x d.x&&wE k.y d.y&&wE k.q d.q
 |_,_=>false
def mM (a1 b1 a2 b2 c:Rat):Pt:=if jB c then⟨a1+b1*rt c,0,a2+b2*rt c,0,0⟩ else⟨a1,b1,a2,b2,c⟩
def se (l m:Ln):Rat:=l.a*m.b-m.a*l.b
def UP (l m:Ln):Rat:=l.c*m.b-m.c*l.b
def Vu (l m:Ln):Rat:=l.a*m.c-m.a*l.c
def kU (l m:Ln):List Pt:=if aJ (se l m) 0≠0 then[⟨UP l m/se l m,0,Vu l m/se l m,0,0⟩] else[]
def qk (l m:Ln):Int:=if aJ (se l m) 0≠0 then 0 else if aJ (UP l m) 0=0/\aJ (Vu l m) 0=0 then 10 else 0
def kg (l:Ln):Rat:=l.a*l.a+l.b*l.b
def s8 (l:Ln) (x y:Rat):Rat:=l.a*x+l.b*y-l.c
def qX (l:Ln) (k:Ci):Rat:=kg l*k.q-s8 l k.x k.y*s8 l k.x k.y
def IM (l:Ln) (k:Ci):Rat:=k.x-s8 l k.x k.y/kg l*l.a
def Jo (l:Ln) (k:Ci):Rat:=k.y-s8 l k.x k.y/kg l*l.b
def Uh (l:Ln) (k:Ci):Pt:=mM (IM l k) (-(l.b/kg l)) (Jo l k) (-(-l.a/kg l)) (qX l k)
def Ui (l:Ln) (k:Ci):Pt:=mM (IM l k) (l.b/kg l) (Jo l k) (-l.a/kg l) (qX l k)
def iX (l:Ln) (k:Ci):List Pt:=
 if aJ (qX l k) 0<0 then[] else if aJ (qX l k) 0=0 then[⟨IM l k,0,Jo l k,0,0⟩]
 else if cP (Uh l k) (Ui l k)>0 then[Ui l k,Uh l k] else[Uh l k,Ui l k]
def yq (k d:Ci):Bool:=wE k.x d.x&&wE k.y d.y
def Sr (k:Ci):Rat:=k.x*k.x+k.y*k.y-k.q
def V2 (k d:Ci):Ln:=⟨2*(d.x-k.x),2*(d.y-k.y),Sr d-Sr k⟩
def po (k d:Ci):List Pt:=if yq k d then[] else iX (V2 k d) k
def zI (k d:Ci):Int:=if yq k d then(if aJ k.q d.q=0 then 10 else 0) else 0
def n5:Cv->Cv->List Pt
 | .arc k _ _ _,.arc d _ _ _=>po k d
 | .arc k _ _ _,.seg l _ _=>iX l k
 | .seg l _ _,.arc k _ _ _=>iX l k
 | .seg l _ _,.seg m _ _=>kU l m
def H9:Cv->Cv->Int
 | .arc k _ _ _,.arc d _ _ _=>zI k d
 | .seg l _ _,.seg m _ _=>qk l m
 |_,_=>0
theorem rm (c:Cv):(an c)[0]? =some (.b c.isArc):=by cases c<;>rfl
theorem wY (c:Cv):(an c)[25]? =some (.b c.cw):=by cases c<;>rfl
theorem ja (c:Cv):((an c).drop 26).take 20=ai c.p:=by cases c<;>rfl
theorem jL (c:Cv):((an c).drop 46).take 20=ai c.q:=by cases c<;>rfl
def Cv.qc:Cv->List CellD
 | .seg _ _ _=>Sc
 | .arc k _ _ _=>cR k.q
theorem FF (c:Cv):c.qc.length=4:=by cases c<;>rfl
theorem AX (c:Cv):((an c).drop 21).take 4=c.qc:=by cases c<;>rfl
theorem mC {m:Nat}(h:zs.length=m) (E:xs.length=m):tG (fun i=>some (i*m,m)) (List.replicate 1 zs).flatten [(0,.a xs)]=some xs:=by subst h;simp[tG,D0.cells,E]
theorem b7 {m:Nat}(h:xs.length=m):xs.length=1*m:=by omega
def Cv.setp:Cv->Pt->Cv
 | .seg l _ q,p=>.seg l p q
 | .arc k w _ q,p=>.arc k w p q
theorem EJ (c:Cv) (p:Pt):(an c).take 26++ai p++(an c).drop 46=an (c.setp p):=by cases c<;>rfl
theorem EL (c:Cv) (p q:Pt):(an (c.setp p)).take 46++ai q++(an (c.setp p)).drop 66=an (c.ends p q):=by cases c<;>rfl
def dH (c d:Cv) (p:Pt):Bool:=c.on p&&d.on p
def a8 (c d:Cv):List Pt:=if jy c d then[c.p,c.q,d.p,d.q] else n5 c d
def bY (c d:Cv):List Pt:=cb c ((a8 c d).filter (dH c d))
def iT (c d:Cv):Cv:=if (c.isArc&&d.isArc&&(c.cw !=d.cw))||(!c.isArc&&(cP c.p c.q !=cP d.p d.q)) then d.rev else d
def NK (d:Cv) (l:List Pt):Nat->Bool
 |0=>false
 |i+1=>NK d l i||decide (d.ord (l.getD i dPt) (l.getD (i+1) dPt)<0)
def BS (c d:Cv):Bool:=if jy c d then NK (iT c d) (bY c d) ((bY c d).length-1) else false
section
variable {c d:Cv}
theorem agL (h:c.isArc=false) (g:(cP c.p c.q !=cP d.p d.q)=true):iT c d=d.rev:=by unfold iT;rw[h,g];rfl
theorem afL (h:c.isArc=false) (g:(cP c.p c.q !=cP d.p d.q)=false):iT c d=d:=by unfold iT;rw[h,g];rfl
theorem afO (h:c.isArc=true) (g:d.isArc=false):iT c d=d:=by unfold iT;rw[h,g];rfl
theorem agy (h:c.isArc=true) (g:d.isArc=true) (e:(!(c.cw==d.cw))=true):iT c d=d.rev:=by unfold iT;rw[h,g,show(c.cw !=d.cw)=true from e];rfl
theorem agG (h:c.isArc=true) (g:d.isArc=true) (e:(!(c.cw==d.cw))=false):iT c d=d:=by unfold iT;rw[h,g,show(c.cw !=d.cw)=false from e];rfl
end
structure GP (p:Pt):Prop where
 a1:Rz 113 p.a1
 b1:Rz 21 p.b1
 a2:Rz 113 p.a2
 b2:Rz 21 p.b2
 c:Rz 78 p.c
 ir:p.c≠0->Rz 52 p.a1/\Rz 52 p.a2
 v:s9 p.b1 p.b2 p.c=true
structure GB (p:Pt):Prop where
 a1:Rz 40000 p.a1
 b1:Rz 40000 p.b1
 a2:Rz 40000 p.a2
 b2:Rz 40000 p.b2
 c:Rz 40000 p.c
 v:s9 p.b1 p.b2 p.c=true
theorem GP.gb {p:Pt}(h:GP p):GB p:=⟨h.a1.mono (by decide),h.b1.mono (by decide),h.a2.mono (by decide),h.b2.mono (by decide),h.c.mono (by decide),h.v⟩
structure GL (l:Ln):Prop where
 a:Rz 4 l.a
 b:Rz 4 l.b
 c:Rz 17 l.c
 n:kg l≠0
structure GK (k:Ci):Prop where
 x:Rz 1 k.x
 y:Rz 1 k.y
 q:Rz 2 k.q
def Cv.good:Cv->Prop
 | .seg l p q=>GL l/\GP p/\GP q
 | .arc k _ p q=>GK k/\GP p/\GP q
theorem Xh (h:s9 b1 b2 c=true):s9 (-b1) b2 c=true:=by
 unfold s9 at*;by_cases E:b1=0;·grind
 grind
theorem GP.flip {p:Pt}(h:GP p):GP p.flip:=⟨h.a1.neg,h.b1.neg,h.a2,h.b2,h.c,fun e=>⟨(h.ir e).1.neg,(h.ir e).2⟩,Xh h.v⟩
theorem GK.mir {k:Ci}(h:GK k):GK k.mir:=⟨h.x.neg,h.y,h.q⟩
theorem GP.rat {v w:Rat}(h:Rz 113 v) (g:Rz 113 w):GP ⟨v,0,w,0,0⟩:=⟨h,iO (by decide),g,iO (by decide),iO (by decide),fun e=>absurd rfl e,by unfold s9;rw[if_pos ⟨rfl,rfl⟩];exact decide_eq_true rfl⟩
theorem GP.dPt:GP dPt:=GP.rat (iO (by decide)) (iO (by decide))
theorem GP.getD {l:List Pt}(h: ∀p∈l,GP p) (j:Nat):GP (l.getD j Go.Proofs.YtegeknjkgadehaaGreat.dPt):=by
 by_cases E:j<l.length;·exact h _ (aY E)
 ·rw[List.getD,sK (by omega)];exact GP.dPt
section
variable {c:Cv}{x:Pt}
theorem FQ: ∀ {l:List Pt}{k:Nat},k<=l.length->(∀j,j<k->c.ord (l.getD j dPt) x<0)->(k=l.length\/ ¬c.ord (l.getD k dPt) x<0)->nW c x l=k
 |[],k,h,_,_=>by
  have:k=0:=by simpa using h
  subst this;rfl
 |o::l,k,h,h1,E=>by
  show(if c.ord o x<0 then nW c x l+1 else 0)=k;match k with
  |0=>
   rcases E with E|E;·simp at E
   ·exact if_neg (show ¬c.ord o x<0 from E)
  |k+1=>
   rw[if_pos (show c.ord o x<0 from h1 0 (by omega)),FQ (l:=l) (k:=k) (by simpa using h) (fun j H=>h1 (j+1) (by omega)) (E.imp (fun e=>by simpa using e) id)]
theorem rq {out:List Pt}{y:Pt}(h:y∈fS c out x):y∈out\/y=x:=by
 unfold fS at h;split at h;·grind
 grind
theorem Sy {out:List Pt}:out.length<=(fS c out x).length/\(fS c out x).length<=out.length+1:=by
 unfold fS;split;·omega
 grind
end
theorem HI {c:Cv}: ∀(l out:List Pt) {y:Pt},y∈l.foldl (fS c) out->y∈out\/y∈l
 |[],out,y,h=>.inl h
 |x::l,out,y,h=>by
  rcases HI l (fS c out x) h with h|h;·exact(rq h).imp id fun e=>by rw[e];exact f7
  ·exact .inr (gF _ h)
theorem mT {c:Cv}{l:List Pt}{y:Pt}(h:y∈cb c l):y∈l:=(HI l [] h).elim (fun e=>by cases e) id
theorem AY {c:Cv}: ∀(l out:List Pt),out.length<=(l.foldl (fS c) out).length/\(l.foldl (fS c) out).length<=out.length+l.length
 |[],out=>⟨Nat.le_refl _,bd _⟩
 |x::l,out=>by have h:=Sy (c:=c) (x:=x) (out:=out);have E:=AY (c:=c) l (fS c out x);show out.length<=(l.foldl (fS c) (fS c out x)).length/\(l.foldl (fS c) (fS c out x)).length<=out.length+(l.length+1);omega
theorem rj {c:Cv}{l:List Pt}:(cb c l).length<=l.length:=by have:=(AY (c:=c) l []).2;rw[List.length_nil,dt] at this;exact this
theorem rg {c:Cv}{l:List Pt}(h:i<l.length):cb c (l.take (i+1))=fS c (cb c (l.take i)) (l.getD i dPt):=by unfold cb;rw[uc (d:=dPt) h,List.foldl_append];rfl
theorem N6 {c:Cv}{l:List Pt}(h:l.length<=i):cb c (l.take i)=cb c l:=by rw[f9 h]
theorem VK {c:Cv}{out:List Pt}{x:Pt}(hs:nW c x out=k) (h:k<out.length) (E:cP (out.getD k dPt) x=0):fS c out x=out:=by unfold fS;rw[hs,if_pos ⟨h,E⟩]
theorem wN {c:Cv}{out:List Pt}{x:Pt}(hs:nW c x out=k) (h: ¬(k<out.length/\cP (out.getD k dPt) x=0)):fS c out x=out.take k++x::out.drop k:=by unfold fS;rw[hs,if_neg h]
theorem xl {out:List Pt}{x:Pt}:am ai (out.take k++x::out.drop k)=am ai (out.take k)++ai x++am ai (out.drop k):=by rw[dg];show _++(ai x++am ai (out.drop k))=_;grind
theorem kQ {out:List Pt}{x:Pt}(h:k<=out.length):(out.take k++x::out.drop k).length=out.length+1:=by grind
theorem jV (c:Cv): ∀l:List Pt,(kX c l).length=l.length-1
 |[]=>rfl
 |[_]=>rfl
 |p::q::l=>by show(kX c (q::l)).length+1=l.length+1+1-1;rw[jV c (q::l)];show l.length+1-1+1=_;omega
theorem zu (c:Cv): ∀ {l:List Pt}{i:Nat},i+1<l.length->kX c (l.take (i+2))=kX c (l.take (i+1))++[c.ends (l.getD i dPt) (l.getD (i+1) dPt)]
 |p::q::l,0,_=>rfl
 |p::q::l,i+1,h=>by show c.ends p q::kX c ((q::l).take (i+2))=c.ends p q::kX c ((q::l).take (i+1))++_;rw[zu c (l:=q::l) (i:=i) (by simpa using h)];rfl
 |[_],i,h=>by simp at h
 |[],i,h=>by simp at h
theorem NN (c:Cv) {l:List Pt}:kX c (l.take 1)=[]:=by
 match l with
 |[]=>rfl
 |p::l=>rfl
theorem fj {c:Cv}(h:c.good):GP c.p:=by cases c<;>exact h.2.1
theorem gA {c:Cv}(h:c.good):GP c.q:=by cases c<;>exact h.2.2
theorem DE {c:Cv}(h:c.good) {p q:Pt}(H:GP p) (E:GP q):(c.ends p q).good:=by cases c<;>exact⟨h.1,H,E⟩
theorem Ck {c:Cv}(h:c.good):c.rev.good:=by cases c<;>exact⟨h.1,h.2.2,h.2.1⟩
theorem yj (A B C D M N:Rat): -1<=km A B C D M N/\km A B C D M N<=1:=by
 unfold km;split;·decide
 ·exact Lc (gK _ _ _) (gY (gK _ _ _) (dF _ _)) (gK _ _ _)
theorem PQ (a b c:Rat): -1<=s3 a b c/\s3 a b c<=1:=by unfold s3;have h:=dF a 0;have E:=dF b 0;grind
theorem fA (p q:Pt): -1<=cx p q/\cx p q<=1:=yj _ _ _ _ _ _
theorem afs (p q:Pt): -1<=cP p q/\cP p q<=1:=by
 unfold cP qV;split;·exact yj _ _ _ _ _ _
 ·exact yj _ _ _ _ _ _
theorem adf (h:Rz k b) (E:1<=k):Rz k (rB b c):=by
 unfold rB;split;·exact iO E
 ·exact h
theorem aeT (h:Rz k c) (E:1<=k):Rz k (rC b c):=by
 unfold rC;split;·exact iO E
 ·exact h
theorem AE {x:Int}(h: -1000000000<x) (E:x<1000000000):Sz 1 x:=by
 have e:pw 1=1000000000:=by decide+kernel
 exact⟨by omega,by omega⟩
theorem EI (h: -1<=n/\n<=1):IntKind.i64.wrap (0-n)= -n:=by rw[Int.zero_sub];exact jQ (by omega) (by omega)
theorem agD {p q:Pt}(h:(cx p q !=0)=true):cP p q=cx p q:=UY h
theorem agR {p q:Pt}(h:(cx p q !=0)=false):cP p q=cy p q:=Xu h
theorem adR {k:Ci}{p:Pt}(h:decide (mA p k.y>0)=true):mu k p=true:=by unfold mu;rw[h];rfl
theorem ZW {k:Ci}{p:Pt}(h:decide (mA p k.y>0)=false) (g:(mA p k.y==0)=false):mu k p=false:=by unfold mu;rw[h,g];rfl
theorem abU {k:Ci}{p:Pt}(h:decide (mA p k.y>0)=false) (g:(mA p k.y==0)=true):mu k p=decide (Ar p k.x>0):=by unfold mu;rw[h,g];rfl
theorem Vm {k:Ci}{p q:Pt}(h:(!(mu k p==mu k q))=true) (g:mu k q=true):f8 k p q= -1:=by unfold f8;rw[show(mu k p !=mu k q)=true from h,if_pos rfl,g,if_pos rfl]
theorem TH {k:Ci}{p q:Pt}(h:(!(mu k p==mu k q))=true) (g:mu k q=false):f8 k p q=1:=by unfold f8;rw[show(mu k p !=mu k q)=true from h,if_pos rfl,g];rfl
theorem Qr {k:Ci}{p q:Pt}(h:(!(mu k p==mu k q))=false) (g:mu k p=true):f8 k p q= -cx p q:=by unfold f8;rw[show(mu k p !=mu k q)=false from h,if_neg (by decide),g,if_pos rfl]
theorem R6 {k:Ci}{p q:Pt}(h:(!(mu k p==mu k q))=false) (g:mu k p=false):f8 k p q=cx p q:=by unfold f8;rw[show(mu k p !=mu k q)=false from h,if_neg (by decide),g];rfl
theorem adX {k:Ci}{f p q:Pt}(h:(!(decide (f8 k p f<0)==decide (f8 k q f<0)))=true) (g:decide (f8 k q f<0)=true):tU k f p q= -1:=by unfold tU;rw[show(decide (f8 k p f<0) !=decide (f8 k q f<0))=true from h,if_pos rfl,g,if_pos rfl]
theorem Z7 {k:Ci}{f p q:Pt}(h:(!(decide (f8 k p f<0)==decide (f8 k q f<0)))=true) (g:decide (f8 k q f<0)=false):tU k f p q=1:=by unfold tU;rw[show(decide (f8 k p f<0) !=decide (f8 k q f<0))=true from h,if_pos rfl,g];rfl
theorem adZ {k:Ci}{f p q:Pt}(h:(!(decide (f8 k p f<0)==decide (f8 k q f<0)))=false):tU k f p q=f8 k p q:=by unfold tU;rw[show(decide (f8 k p f<0) !=decide (f8 k q f<0))=false from h];rfl
theorem aaf {l:Ln}{f t p q:Pt}(h:decide (cP f t>0)=true):(Cv.seg l f t).ord p q= -cP p q:=by show(if _ then _ else _)=_;grind
theorem ace {l:Ln}{f t p q:Pt}(h:decide (cP f t>0)=false):(Cv.seg l f t).ord p q=cP p q:=by show(if _ then _ else _)=_;grind
theorem ZZ {k:Ci}{f t p q:Pt}(h:(!w)=true):(Cv.arc k w f t).ord p q=tU k f p q:=by show(if _ then _ else _)=_;grind
theorem aaE {k:Ci}{f t p q:Pt}(h:(!w)=false):(Cv.arc k w f t).ord p q=tU k.mir f.flip p.flip q.flip:=by show(if _ then _ else _)=_;grind
theorem ad9 {c:Cv}{p:Pt}(h:c.supp p=false):c.on p=false:=by unfold Cv.on;rw[h];rfl
theorem Yk {c:Cv}{p:Pt}(h:c.supp p=true) (g:decide (c.ord c.p p<=0)=false):c.on p=false:=by unfold Cv.on;rw[h,g];rfl
theorem XT {c:Cv}{p:Pt}(h:c.supp p=true) (g:decide (c.ord c.p p<=0)=true):c.on p=decide (c.ord p c.q<=0):=by unfold Cv.on;rw[h,g];rfl
theorem aby {p:Pt}(h:s9 p.b1 p.b2 p.c=true) (hs:jB p.c=true):p.b1=0/\p.b2=0/\p.c=0:=by
 unfold s9 at h;split at h;·grind
 grind
theorem Z1 {l:Ln}{p:Pt}(h:s9 p.b1 p.b2 p.c=true) (hs:jB p.c=true):vA l p+vB l p*rt p.c=vA l p/\0=rB (vB l p) p.c/\0=rC (vB l p) p.c:=by
 obtain⟨H,I,J⟩:=aby h hs;have E:vB l p=0:=by unfold vB;rw[H,I];grind
 rw[E];exact⟨by grind,(JZ (.inl rfl)).symm,(JI (.inl rfl)).symm⟩
theorem Rf {l:Ln}{p:Pt}(hl:GL l) (h:GP p):Rz 1000 (vA l p):=(((hl.a.mul h.a1).add (hl.b.mul h.a2)).sub hl.c).mono (by decide)
theorem QK {l:Ln}{p:Pt}(hl:GL l) (h:GP p):Rz 1000 (vB l p):=((hl.a.mul h.b1).add (hl.b.mul h.b2)).mono (by decide)
theorem Rm {k:Ci}{p:Pt}(h:GK k) (E:GB p):Rz 40002 (p.a1-k.x)/\Rz 40002 (p.a2-k.y):=⟨(E.a1.sub h.x).mono (by decide),(E.a2.sub h.y).mono (by decide)⟩
theorem Tw {k:Ci}{p:Pt}(I:GK k) (h:GB p):Rz 400000 (JS (p.a1-k.x) (p.a2-k.y) p.b1 p.b2 p.c):=by obtain⟨E,H⟩:=Rm I h;exact((((E.mul E).add (H.mul H)).add (((h.b1.mul h.b1).add (h.b2.mul h.b2)).mul h.c))).mono (by decide)
theorem abT {k:Ci}{p:Pt}(h:GK k) (E:GB p):Rz 400010 (KU k p):=((Tw h E).add h.q.neg).mono (by decide)
theorem abb {k:Ci}{p:Pt}(I:GK k) (h:GB p):Rz 400000 (Dc k p):=by obtain⟨E,H⟩:=Rm I h;exact(((E.mul h.b1).add (H.mul h.b2)).add ((E.mul h.b1).add (H.mul h.b2))).mono (by decide)
theorem afl (x:Rat):0<=x*x:=by
 rcases Rat.le_total (a:=0) (b:=x) with h|h;·exact n6 h h
 ·have:=n6 (a:= -x) (b:= -x) (by grind) (by grind);grind
theorem YQ (h:x*x=0):x=0:=by
 by_cases e:x=0;·exact e
 ·exact absurd (Rat.mul_eq_zero.1 h) (by simp[e])
theorem Ze (h:x*x+y*y=0):x=0/\y=0:=by have H:=afl x;have E:=afl y;exact⟨YQ (by grind),YQ (by grind)⟩
theorem jE:aJ x 0=0↔x=0:=by
 unfold aJ;constructor;·grind
 grind
theorem mY (x:Rat):aJ x x=0:=by unfold aJ;rw[if_neg (by grind),if_neg (by grind)]
theorem Qm (h: ¬aJ x 0<0):0<=x:=by
 unfold aJ at h;split at h;·grind
 grind
theorem Ht (h: ¬aJ x 0<0) (g: ¬aJ x 0=0):0<x:=by have E:=Qm h;have H:x≠0:=fun e=>g (jE.2 e);grind
theorem Mx {x:Int}(h:Sz (k+k) x):Sz k (bp x):=by
 have H:=eD x;rcases kr x 0 with E|E
 ·rw[uo E];have:=dP k;exact⟨by omega,by omega⟩
 ·have K:=r8 E;have R:pw (k+k)=pw k*pw k:=wq k k;have I:=h.lt;have W:=dP k;refine⟨?_,by omega⟩;rcases kr (bp x) (pw k) with g|g;·exact g
  ·have J:pw k*pw k<=bp x*bp x:=qR g g (by omega) H;omega
theorem R1 (h:Rz (k+k) c):Rz k (rt c):=Rz.of (Mx h.n) (Mx h.d) (by have:=xd (den_pos c);omega)
theorem AP (H:Rz 52 a1) (I:Rz 21 b1) (h:Rz 52 a2) (J:Rz 21 b2) (E:Rz 78 c) (R:0<c) (K: ¬(b1=0/\b2=0)):GP (mM a1 b1 a2 b2 c):=by
 unfold mM;cases hs:jB c with
 |true=>
  exact GP.rat ((H.add (I.mul (R1 (k:=39) E))).mono (by decide)) ((h.add (J.mul (R1 (k:=39) E))).mono (by decide))
 |false=>
  refine⟨H.mono (by decide),I.mono (by decide),h.mono (by decide),J.mono (by decide),E.mono (by decide),fun _=>⟨H,h⟩,?_⟩;unfold s9;grind
section
variable {l m:Ln}{k d:Ci}
theorem sw (hl:GL l) (h:GK k):Rz 29 (s8 l k.x k.y):=(((hl.a.mul h.x).add (hl.b.mul h.y)).sub hl.c).mono (by decide)
theorem r9 (hl:GL l):Rz 17 (kg l):=((hl.a.mul hl.a).add (hl.b.mul hl.b)).mono (by decide)
theorem Ha (hl:GL l) (h:GK k):Rz 46 (s8 l k.x k.y/kg l):=(sw hl h).div (r9 hl) hl.n
theorem uI (hl:GL l) (h:GK k):Rz 52 (IM l k):=(h.x.sub ((Ha hl h).mul hl.a)).mono (by decide)
theorem uv (hl:GL l) (h:GK k):Rz 52 (Jo l k):=(h.y.sub ((Ha hl h).mul hl.b)).mono (by decide)
theorem Az (hl:GL l) (h:GK k):Rz 78 (qX l k):=(((r9 hl).mul h.q).sub ((sw hl h).mul (sw hl h))).mono (by decide)
theorem HP (hl:GL l):Rz 21 (l.b/kg l):=(hl.b.div (r9 hl) hl.n).mono (by decide)
theorem IH (hl:GL l):Rz 21 (-l.a/kg l):=(hl.a.neg.div (r9 hl) hl.n).mono (by decide)
theorem XX (hl:GL l): ¬(l.b/kg l=0/\ -l.a/kg l=0):=by rintro⟨H,E⟩;have h:=hl.n;refine h ?_;unfold kg;grind
theorem JY (hl:GL l) (E:GK k) (h: ¬aJ (qX l k) 0<0) (g: ¬aJ (qX l k) 0=0):GP (Ui l k):=
 AP (uI hl E) (HP hl) (uv hl E) (IH hl) (Az hl E) (Ht h g) (XX hl)
theorem JJ (hl:GL l) (E:GK k) (h: ¬aJ (qX l k) 0<0) (g: ¬aJ (qX l k) 0=0):GP (Uh l k):=
 AP (uI hl E) (HP hl).neg (uv hl E) (IH hl).neg (Az hl E) (Ht h g) (fun e=>XX hl ⟨by grind,by grind⟩)
theorem yT (hl:GL l) (H:GK k): ∀p∈iX l k,GP p:=by
 intro p E;unfold iX at E;split at E;·grind
 ·rename_i h;split at E
  ·rw[nT] at E;subst E;exact GP.rat ((uI hl H).mono (by decide)) ((uv hl H).mono (by decide))
  ·rename_i g;split at E
   ·rcases dO.1 E with e|e;·rw[e];exact JY hl H h g
    ·rw[nT] at e;rw[e];exact JJ hl H h g
   ·rcases dO.1 E with e|e;·rw[e];exact JJ hl H h g
    ·rw[nT] at e;rw[e];exact JY hl H h g
theorem Fy (hl:GL l) (h:GL m):Rz 17 (se l m):=((hl.a.mul h.b).sub (h.a.mul hl.b)).mono (by decide)
theorem Rk (hl:GL l) (h:GL m):Rz 43 (UP l m):=((hl.c.mul h.b).sub (h.c.mul hl.b)).mono (by decide)
theorem QV (hl:GL l) (h:GL m):Rz 43 (Vu l m):=((hl.a.mul h.c).sub (h.a.mul hl.c)).mono (by decide)
theorem Ob (hl:GL l) (H:GL m): ∀p∈kU l m,GP p:=by
 intro p E;unfold kU at E;split at E
 ·rename_i h;have I:se l m≠0:=fun e=>h (jE.2 e);rw[nT] at E;subst E;exact GP.rat (((Rk hl H).div (Fy hl H) I).mono (by decide)) (((QV hl H).div (Fy hl H) I).mono (by decide))
 grind
theorem AG (h:GK k):Rz 8 (Sr k):=(((h.x.mul h.x).add (h.y.mul h.y)).sub h.q).mono (by decide)
theorem KO:Rz 1 (2:Rat):=⟨by rw[show(2:Rat).num=2 from rfl];exact AE (by decide) (by decide),by rw[show((2:Rat).den:Int)=1 from rfl];exact Sz.one (by decide)⟩
theorem Mr (H:GK k) (E:GK d) (h:yq k d=false):GL (V2 k d):=by
 refine⟨(KO.mul (E.x.sub H.x)).mono (by decide),(KO.mul (E.y.sub H.y)).mono (by decide),((AG E).sub (AG H)).mono (by decide),fun e=>?_⟩;have K:=Ze (show(2*(d.x-k.x))*(2*(d.x-k.x))+(2*(d.y-k.y))*(2*(d.y-k.y))=0 from e);have I:k.x=d.x:=by grind
 have J:k.y=d.y:=by grind
 unfold yq wE at h;rw[I,J] at h;simp[mY] at h
theorem Se (H:GK k) (I:GK d): ∀p∈po k d,GP p:=by
 intro p E;unfold po at E;split at E;·grind
 ·rename_i h;exact yT (Mr H I (by simpa using h)) H p E
theorem QU {a c:Cv}(H:a.good) (E:c.good): ∀p∈n5 a c,GP p:=by
 intro p h;cases a<;>cases c;·exact Ob H.1 E.1 p h
 ·exact yT H.1 E.1 p h
 ·exact yT E.1 H.1 p h
 ·exact Se H.1 E.1 p h
theorem Dz {a c:Cv}(H:a.good) (E:c.good): ∀p∈a8 a c,GP p:=by
 intro p h;unfold a8 at h;split at h
 ·simp only[dO,tH,or_false] at h;rcases h with e|e|e|e;·rw[e];exact fj H
  ·rw[e];exact gA H
  ·rw[e];exact fj E
  ·rw[e];exact gA E
 ·exact QU H E p h
theorem G6 {a c:Cv}(H:a.good) (E:c.good): ∀p∈bY a c,GP p:=fun p h=>Dz H E p (List.mem_filter.1 (mT h)).1
theorem wz:(iX l k).length<=2:=by
 unfold iX;repeat' split
 all_goals simp
theorem Oj {a c:Cv}:(n5 a c).length<=2:=by
 cases a<;>cases c
 ·show(kU _ _).length<=2;unfold kU;split<;>simp
 ·exact wz
 ·exact wz
 ·show(po _ _).length<=2;unfold po;split;·simp
  ·exact wz
theorem B8 {a c:Cv}:(a8 a c).length<=4:=by
 unfold a8;split;·simp
 ·have:=Oj (a:=a) (c:=c);omega
theorem oE {a c:Cv}:(bY a c).length<=4:=by have h:=rj (c:=a) (l:=(a8 a c).filter (dH a c));have H:=List.length_filter_le (dH a c) (a8 a c);have E:=B8 (a:=a) (c:=c);unfold bY;omega
end
def Co (k d:Ci):Bool:=wE k.x d.x&&wE k.y d.y&&wE k.q d.q
def Cy (l m:Ln):Bool:=wE (l.a*m.b) (l.b*m.a)&&wE (l.a*m.c) (l.c*m.a)&&wE (l.b*m.c) (l.c*m.b)
section
variable {l m:Ln}{k d:Ci}
theorem Sv (h:decide (aJ (qX l k) 0<0)=true):iX l k=[]:=by unfold iX;rw[if_pos (of_decide_eq_true h)]
theorem T9 (h:decide (aJ (qX l k) 0<0)=false) (g:(aJ (qX l k) 0==0)=true):iX l k=[⟨IM l k,0,Jo l k,0,0⟩]:=by unfold iX;rw[if_neg (of_decide_eq_false h),if_pos (by simpa using g)]
theorem PK (h:decide (aJ (qX l k) 0<0)=false) (g:(aJ (qX l k) 0==0)=false) (q:decide (cP (Uh l k) (Ui l k)>0)=true):iX l k=[Ui l k,Uh l k]:=by unfold iX;rw[if_neg (of_decide_eq_false h),if_neg (by simpa using g),if_pos (of_decide_eq_true q)]
theorem Qx (h:decide (aJ (qX l k) 0<0)=false) (g:(aJ (qX l k) 0==0)=false) (q:decide (cP (Uh l k) (Ui l k)>0)=false):iX l k=[Uh l k,Ui l k]:=by unfold iX;rw[if_neg (of_decide_eq_false h),if_neg (by simpa using g),if_neg (of_decide_eq_false q)]
theorem GO (h:(aJ (se l m) 0 !=0)=true):kU l m=[⟨UP l m/se l m,0,Vu l m/se l m,0,0⟩]/\qk l m=0:=by unfold kU qk;rw[if_pos (by simpa using h),if_pos (by simpa using h)];exact⟨rfl,rfl⟩
theorem EH (h:(aJ (se l m) 0 !=0)=false) (g:(aJ (UP l m) 0==0)=true) (q:(aJ (Vu l m) 0==0)=true):kU l m=[]/\qk l m=10:=by unfold kU qk;rw[if_neg (by simpa using h),if_neg (by simpa using h),if_pos ⟨by simpa using g,by simpa using q⟩];exact⟨rfl,rfl⟩
theorem En (h:(aJ (se l m) 0 !=0)=false) (g:(aJ (UP l m) 0==0)=false):kU l m=[]/\qk l m=0:=by unfold kU qk;rw[if_neg (by simpa using h),if_neg (by simpa using h),if_neg (fun e=>by simp[e.1] at g)];exact⟨rfl,rfl⟩
theorem EQ (h:(aJ (se l m) 0 !=0)=false) (q:(aJ (Vu l m) 0==0)=false):kU l m=[]/\qk l m=0:=by unfold kU qk;rw[if_neg (by simpa using h),if_neg (by simpa using h),if_neg (fun e=>by simp[e.2] at q)];exact⟨rfl,rfl⟩
theorem Rw (h:yq k d=true) (g:(aJ k.q d.q==0)=true):po k d=[]/\zI k d=10:=by unfold po zI;rw[if_pos h,if_pos h,if_pos (by simpa using g)];exact⟨rfl,rfl⟩
theorem SC (h:yq k d=true) (g:(aJ k.q d.q==0)=false):po k d=[]/\zI k d=0:=by unfold po zI;rw[if_pos h,if_pos h,if_neg (by simpa using g)];exact⟨rfl,rfl⟩
theorem QO (h:yq k d=false):po k d=iX (V2 k d) k/\zI k d=0:=by unfold po zI;rw[if_neg (by rw[h];decide),if_neg (by rw[h];decide)];exact⟨rfl,rfl⟩
end
end Go.Proofs.YtegeknjkgadehaaGreat
