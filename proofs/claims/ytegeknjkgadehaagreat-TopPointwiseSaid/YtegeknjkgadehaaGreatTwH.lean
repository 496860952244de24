/-Square roots of integers,program and reference. -/
import Derived.Test.YtegeknjkgadehaaGreatTwG
import Derived.Test.YtegeknjkgadehaaGreatRows
import Derived.Deep.Slices
import Derived.ProofKit
import Derived.OpenShut
import Derived.Carry
namespace Go.Proofs.YtegeknjkgadehaaGreat
open Go Go.RowKit
variable {d m n:Int}{x y:Rat}
theorem dB:type_of% @Rz.d:=@Rz.d
theorem jw:type_of% @Sz.mul:=@Sz.mul
theorem Cn {x:Int}(J:Sz 99999999 x):Ok Tryz.prog 247 [dI x] [dI (bp x),.c (.i .i64 (if x<0 then 7 else 0))]:=by
 have b1:(2:Int)≠0:=by decide
 have hl:=gD J;have a9:Sz 100000000 (2:Int):=eE (by omega) (by omega) (by omega);refine fg Tryz.func247 54 [.cell 2 38,.tmp 3] rfl<|ab<|ag<|ab<|ab<|ag ?_;refine aA rfl (fun E=>?_) (fun E=>?_)
 ·have W:x<0:=by simpa using E
  refine ab<|ag<|ar (az (us:=([.b false]++[.s 0 []])) KS Dk rfl rfl rfl) ?_;refine bc ?_;rw[uo W,if_pos W,yd];exact ah (a7 ep rfl (aj aa))
 ·have W:0<=x:=by have:=E;simp at this;omega
  refine au<|ab<|ab<|ag ?_;refine aA rfl (fun I=>?_) (fun I=>?_)
  ·have hz:x=0:=by have:=I;simp[dM] at this;omega
   refine ab<|ag<|ar (az (us:=([.b false]++[.s 0 []])) KS Dk rfl rfl rfl) ?_;refine bc ?_;rw[hz,Eg,yd,if_neg (by omega)];exact ah (a7 ep rfl (aj aa))
  ·have j:0<x:=by have:=I;simp[dM] at this;omega
   obtain⟨k,hk⟩: ∃k:Nat,((cX x.natAbs).length+1)/2=k:=⟨_,rfl⟩;have b3:=dP k;have b0:cL (pw k)=cL (pw k):=rfl;refine au<|ab<|ag ?_;refine ar (b9 ((((cX x.natAbs).length:Int))+1) (aT (by omega) (by omega)) rfl) ?_;refine ar (jJ (r:=(k:Int)) rfl rfl (by omega) (by rw[sT (by omega),show(((cX x.natAbs).length:Int)+1)/2=(k:Int) from by omega];exact jQ (by omega) (by omega)) rfl) ?_;refine ab<|cB<|i9 1<|tA (m9 (n:=k) wy rfl rfl (by omega) (by omega) rfl) rfl ?_;refine cV (vW wy rfl rfl) ?_;refine SE (vP wy rfl rfl rfl (by omega) rfl) ?_;refine cV (j9 rfl (rM))<|tx (qM Dk rfl) rfl<|jA<|ab<|ag<|ac rfl (lW (by omega) (by omega))<|aw<|bF (ι:={r:Int // NInv 99999999 x r}) (fun i=>⟨54,[(1,.p 1 0),(2,.p 2 0),(3,.v (.c (.i .i64 0))),(5,.p 5 0),(6,.p 6 0)],[(1,38,cI x),(2,38,([.b false]++[.s 0 []])),(5,38,cI i.1),(6,38,cI 2)]⟩) (fun i=>i.1.toNat) ⟨pw k,NInv.start j J hk (by omega)⟩ (al ⟨rfl,rfl,rfl,rfl,rfl,trivial⟩ ⟨rfl,rfl,by rw[show sg false (((pw k).natAbs:Nat):Int)=pw k from by rw[cr];have:=dP k;omega];rfl,rfl,trivial⟩ rfl) ?_;rintro⟨r,D⟩;replace D:NInv 99999999 x r:=D;have R:=D.sz;have b2:=D.r0;have b5:r≠0:=by omega
   obtain⟨a5,a6,b4⟩:=D.sum J j;have a1:Sz 100000000 r:=R.m_;have a2:Sz 100000000 (x.fdiv r):=a5.m_;have a3:Sz 100000000 x:=J.m_;dsimp only;refine aw<|ab<|ag ?_;refine ac rfl (pf (by assumption) (by assumption) (by assumption))<|ab<|fk 14 [10,11,999999] ?_;refine aG rfl (wS (by assumption) (by assumption)) ?_;refine aG rfl (pf (by assumption) (by assumption) (by assumption)) ?_;refine DQ.mk<|kI (fJ ep rfl) rfl rfl rfl rfl<|ek ?_;refine DQ.mk<|kI (fJ ep rfl) rfl rfl rfl rfl<|ek ?_;refine ab<|ab<|ag ?_;refine ac rfl (m5) ?_;refine aA rfl (fun u=>?_) (fun u=>?_)
   ·have a4:=FP u;refine ab<|ag ?_;refine bc ?_;rw[D.done j a4,if_neg (by omega)];exact ah (a7 ep rfl (aj aa))
   ·have a0:=Ft u;refine au<|ag ?_;exact⟨⟨(r+x.fdiv r).fdiv 2,D.next j a0⟩,al ⟨rfl,rfl,rfl,rfl,rfl,trivial⟩ ⟨rfl,rfl,rfl,rfl,trivial⟩ rfl,by show((r+x.fdiv r).fdiv 2).toNat<r.toNat;omega⟩
theorem Ra {x:Int}(R:Sz 19999999 x):Ok Tryz.prog 252 [dI x] [dI (bp x),.c (.i .i64 (if x<0 then 7 else 0))]:=by
 have b5:(2:Int)≠0:=by decide
 have hl:=gD R;have b3:Sz 20000000 (2:Int):=eE (by omega) (by omega) (by omega);refine fg Tryz.func252 52 [.cell 2 38,.tmp 3] rfl<|ab<|ag<|ab<|ab<|ag ?_;refine aA rfl (fun I=>?_) (fun I=>?_)
 ·have W:x<0:=by simpa using I
  refine ab<|ag<|ar (az (us:=([.b false]++[.s 0 []])) KS Dk rfl rfl rfl) ?_;refine bc ?_;rw[uo W,if_pos W,yd];exact ah (a7 ep rfl (aj aa))
 ·have W:0<=x:=by have:=I;simp at this;omega
  refine au<|ab<|ab<|ag ?_;refine aA rfl (fun J=>?_) (fun J=>?_)
  ·have hz:x=0:=by have:=J;simp[dM] at this;omega
   refine ab<|ag<|ar (az (us:=([.b false]++[.s 0 []])) KS Dk rfl rfl rfl) ?_;refine bc ?_;rw[hz,Eg,yd,if_neg (by omega)];exact ah (a7 ep rfl (aj aa))
  ·have j:0<x:=by have:=J;simp[dM] at this;omega
   obtain⟨k,hk⟩: ∃k:Nat,((cX x.natAbs).length+1)/2=k:=⟨_,rfl⟩;have b8:=dP k;have b4:cL (pw k)=cL (pw k):=rfl;refine au<|ab<|cB<|i9 3<|cV (b9 ((((cX x.natAbs).length:Int))+1) (aT (by omega) (by omega)) rfl)<|cV (jJ (r:=(k:Int)) rfl rfl (by omega) (by rw[sT (by omega),show(((cX x.natAbs).length:Int)+1)/2=(k:Int) from by omega];exact jQ (by omega) (by omega)) rfl) ?_;refine tA (m9 (n:=k) wy rfl rfl (by omega) (by omega) rfl) rfl ?_;refine cV (vW wy rfl rfl) ?_;refine SE (vP wy rfl rfl rfl (by omega) rfl) ?_;refine cV (az (us:=([.b false]++[cL (pw k)])) KS Dk rfl rfl rfl) ?_;refine tx (qM Dk rfl) rfl<|jA<|ab<|ag<|ac rfl (qz (by omega) (by omega))<|aw<|bF (ι:={r:Int // NInv 19999999 x r}) (fun i=>⟨52,[(1,.p 1 0),(2,.p 2 0),(3,.v (.c (.i .i64 0))),(4,.p 4 0),(5,.p 5 0)],[(1,38,cI x),(2,38,([.b false]++[.s 0 []])),(4,38,cI i.1),(5,38,cI 2)]⟩) (fun i=>i.1.toNat) ⟨pw k,NInv.start j R hk (by omega)⟩ (al ⟨rfl,rfl,rfl,rfl,rfl,trivial⟩ ⟨rfl,rfl,by rw[afo (by have:=dP k;omega)];rfl,rfl,trivial⟩ rfl) ?_;rintro⟨r,E⟩;replace E:NInv 19999999 x r:=E;have u:=E.sz;have b6:=E.r0;have c0:r≠0:=by omega
   obtain⟨b1,b2,a9⟩:=E.sum R j;have a1:Sz 20000000 r:=u.m_;have a2:Sz 90000000 (x.fdiv r):=b1.m_;have a3:Sz 20000000 x:=R.m_;have a4:Sz 90000000 r:=u.m_;have a5:Sz 100000000 r:=u.m_;have a6:Sz 100000000 ((r+x.fdiv r).fdiv 2):=a9.m_;dsimp only;refine aw<|ab<|ag ?_;refine ac rfl (mI (by assumption) (by assumption) (by assumption))<|ab<|fk 14 [9,10,999999] ?_;refine aG rfl (Ay (by assumption) (by assumption)) ?_;refine aG rfl (mI (by assumption) (by assumption) (by assumption)) ?_;refine DQ.mk<|kI (fJ ep rfl) rfl rfl rfl rfl<|ek ?_;refine DQ.mk<|kI (fJ ep rfl) rfl rfl rfl rfl<|ek ?_;refine ab<|ab<|ag ?_;refine ac rfl (K7 (by assumption) (by assumption)) ?_;refine aA rfl (fun D=>?_) (fun D=>?_)
   ·have b0:=FP D;refine ab<|ag ?_;refine bc ?_;rw[E.done j b0,if_neg (by omega)];exact ah (a7 ep rfl (aj aa))
   ·have a0:=Ft D;refine au<|ag ?_;exact⟨⟨(r+x.fdiv r).fdiv 2,E.next j a0⟩,al ⟨rfl,rfl,rfl,rfl,rfl,trivial⟩ ⟨rfl,rfl,rfl,rfl,trivial⟩ rfl,by show((r+x.fdiv r).fdiv 2).toNat<r.toNat;omega⟩
theorem Ff:Ok Tryz.prog 194 [] [dI 1]:=by refine cj Tryz.func194 rfl<|ac rfl (lW (by omega) (by omega)) ?_;exact ah (a7 ep rfl aa)
theorem Iy:Ok Tryz.prog 188 [.c (.i .i64 m)] [.c (.b false)]:=by refine cj Tryz.func188 rfl ?_;exact⟨.inr rfl,by simpa using(aj aa)⟩
theorem OT:Ok Tryz.prog 108 [.c (.i .i64 m),.c (.i .i64 n)] [.c (.i .i64 (dC m n))]:=by
 refine cj Tryz.func108 rfl<|ac rfl (Iy)<|ac rfl (Iy)<|nM rfl<|nM rfl ?_;refine cU rfl (fun u=>?_) (fun u=>?_)
 ·refine ah ?_;rw[eg (by simpa using u)];exact aj aa
 ·refine cU rfl (fun j=>?_) (fun j=>?_)
  ·refine ah ?_;rw[eA (by simpa using j)];exact aj aa
  ·refine ah ?_;rw[jN (by have:=u;have D:=j;simp at this D;omega)];exact aj aa
theorem BR:Ok Tryz.prog 38 [dR x] [.c (.i .i64 (aJ x 0))]:=by refine cj Tryz.func38 rfl ?_;refine ac rfl (wQ)<|ah ?_;rw[<-uz];exact aj aa
theorem d7:Ok Tryz.prog 38 [dR x] [.c (.i .i64 (aJ x 0))]:=BR
theorem OR:Ok Tryz.prog 169 [dI n] [dR (n:Rat)]:=by refine cj Tryz.func169 rfl<|cE 3 [] ?_;refine aG rfl (Ff) ?_;refine aq (az (us:=cQ n 1) vx uu rfl rfl rfl) ?_;refine ah ?_;rw[Sa];exact a7 bV rfl aa
theorem xb (j: -9223372036854775808<=n) (u:n<=9223372036854775807):Ok Tryz.prog 87 [.c (.i .i64 n)] [dR (n:Rat)]:=by refine cj Tryz.func87 rfl<|ac rfl (lW (by omega) (by omega))<|ac rfl (OR) ?_;exact ah (a7 bV rfl aa)
theorem DY (j: -9223372036854775808<=n) (u:n<=9223372036854775807):Ok Tryz.prog 87 [.c (.i .i64 n)] [dR (n:Rat)]:=xb j u
theorem rJ {x y:Int}(j:Sz 100000000 x) (u:Sz 100000000 y) (D:y≠0):Ok Tryz.prog 195 [dI x,dI y] [dI (x.fdiv y)]:=by refine cj Tryz.func195 rfl<|ac rfl (pf (fI j) (fI u) (by assumption)) ?_;exact ah (a7 ep rfl aa)
theorem nk {x y:Int}(D:Sz 19980000 x) (u:Sz 19980000 y) (J:y≠0):Ok Tryz.prog 117 [dI x,dI y] [dR (Rat.divInt x y)]:=by
 have hg:=EZ (n:=x) J;have a0:=EZ (n:= -x) (d:= -y) (by omega);have a1:=Sz.gcd (x:=x) u J;have R:=Sz.gcd (x:= -x) u.neg (by omega);refine cj Tryz.func117 rfl<|ac rfl (wQ) ?_;refine cU rfl (fun j=>?_) (fun j=>?_)
 ·have W:=ab6 j;refine cE 4 [] ?_;refine aG rfl (xL (fI D)) ?_;refine aG rfl (xL (fI u)) ?_;refine ac rfl (FZ (fI (Sz.neg D)) (fI (Sz.neg u)))<|cE 4 [] ?_;refine aG rfl (Ff) ?_;refine aG rfl (m5) ?_;refine cU rfl (fun I=>?_) (fun I=>?_)
  ·refine cE 6 [] ?_;refine aG rfl (rJ (fI (Sz.neg D)) (SF) (by first|assumption|exact neg_ne (by assumption)|exact iD (by assumption) (by assumption))) ?_;refine aG rfl (rJ (fI (Sz.neg u)) (SF) (by first|assumption|exact neg_ne (by assumption)|exact iD (by assumption) (by assumption))) ?_;refine ar (az (us:=cQ ((-x).fdiv ((Int.gcd (-x) (-y):Int))) ((-y).fdiv ((Int.gcd (-x) (-y):Int)))) vx uu rfl rfl rfl) ?_;refine ah ?_;rw[J2,CY (by omega)];exact a7 bV rfl aa
  ·refine ar (az (us:=cQ (-x) (-y)) vx uu rfl rfl rfl) ?_;refine ah ?_;rw[J2,AA (by omega) (aeu I)];exact a7 bV rfl aa
 ·have W:=ab0 j;refine ac rfl (FZ (fI D) (fI u))<|cE 4 [] ?_;refine aG rfl (Ff) ?_;refine aG rfl (m5) ?_;refine cU rfl (fun E=>?_) (fun E=>?_)
  ·refine cE 6 [] ?_;refine aG rfl (rJ (fI D) (SF) (by first|assumption|exact neg_ne (by assumption)|exact iD (by assumption) (by assumption))) ?_;refine aG rfl (rJ (fI u) (SF) (by first|assumption|exact neg_ne (by assumption)|exact iD (by assumption) (by assumption))) ?_;refine ar (az (us:=cQ (x.fdiv (Int.gcd x y:Int)) (y.fdiv (Int.gcd x y:Int))) vx uu rfl rfl rfl) ?_;refine ah ?_;rw[CY (by omega)];exact a7 bV rfl aa
  ·refine ar (az (us:=cQ x y) vx uu rfl rfl rfl) ?_;refine ah ?_;rw[AA (by omega) (aeu E)];exact a7 bV rfl aa
theorem NC {x y:Int}(u:Sz 19980000 x) (E:Sz 19980000 y) (D:y≠0):Ok Tryz.prog 353 [dI x,dI y] [dR (Rat.divInt x y),.c (.i .i64 0)]:=by
 refine cj Tryz.func353 rfl<|ac rfl (wQ) ?_;refine cU rfl (fun j=>?_) (fun j=>?_);·exact absurd (U3 j) D
 ·refine ac rfl (nk (fI u) (fI E) (by first|assumption|exact neg_ne (by assumption)|exact iD (by assumption) (by assumption))) ?_;exact ah (a7 bV rfl (aj aa))
theorem Sn {x y:Int}(j:Sz 999 x) (D:Sz 999 y) (u:y≠0):Ok Tryz.prog 353 [dI x,dI y] [dR (Rat.divInt x y),.c (.i .i64 0)]:=NC (j.mono (by decide)) (D.mono (by decide)) u
theorem ri (j:Rz 6000000 x):Ok Tryz.prog 112 [dR x] [dR (-x)]:=by refine cj Tryz.func112 rfl<|cE 6 [] ?_;refine aG rfl (xL (fI (Rz.n j))) ?_;refine aq (az (us:=cQ (-x.num) (x.den:Int)) vx uu rfl rfl rfl) ?_;refine ah ?_;rw[Sh (Rat.neg_num x) (congrArg Int.ofNat (Rat.neg_den x))];exact a7 bV rfl aa
theorem Va (j:Rz 300 x):Ok Tryz.prog 112 [dR x] [dR (-x)]:=ri (j.mono (by decide))
theorem nf (j:Rz 6000000 x) (u:Rz 6000000 y):Ok Tryz.prog 50 [dR x,dR y] [dR (x+y)]:=by
 have I:=iD (lK x) (lK y);have E:=lK x;refine cj Tryz.func50 rfl<|ac rfl (m5) ?_;refine cU rfl (fun D=>?_) (fun D=>?_)
 ·refine cE 8 [] ?_;refine aG rfl (wS (fI (Rz.n j)) (fI (Rz.n u))) ?_;refine aG rfl (nk (fI (Sz.addm (Rz.n j) (Rz.n u))) (fI (dB j)) (by first|assumption|exact neg_ne (by assumption)|exact iD (by assumption) (by assumption))) ?_;refine ah ?_;rw[<-aer (U3 D)];exact a7 bV rfl aa
 ·refine cE 17 [] ?_;refine aG rfl (jP (fI (Rz.n j)) (fI (dB u))) ?_;refine aG rfl (jP (fI (Rz.n u)) (fI (dB j))) ?_;refine aG rfl (wS (fI (jw (Rz.n j) (dB u))) (fI (jw (Rz.n u) (dB j)))) ?_;refine aG rfl (jP (fI (dB j)) (fI (dB u))) ?_;refine aG rfl (nk (fI (Sz.addm (jw (Rz.n j) (dB u)) (jw (Rz.n u) (dB j)))) (fI (jw (dB j) (dB u))) (by first|assumption|exact neg_ne (by assumption)|exact iD (by assumption) (by assumption))) ?_;refine ah ?_;rw[<-U8];exact a7 bV rfl aa
theorem Fu (j:Rz 300 x) (u:Rz 300 y):Ok Tryz.prog 50 [dR x,dR y] [dR (x+y)]:=nf (j.mono (by decide)) (u.mono (by decide))
theorem ml (u:Rz 6000000 x) (j:Rz 6000000 y):Ok Tryz.prog 45 [dR x,dR y] [dR (x-y)]:=by refine cj Tryz.func45 rfl<|cE 4 [] ?_;refine aG rfl (ri (aU j)) ?_;refine aG rfl (nf (aU u) (aU (Rz.neg j)))<|ah ?_;rw[Rat.sub_eq_add_neg];exact a7 bV rfl aa
theorem Xv (j:Rz 300 x) (u:Rz 300 y):Ok Tryz.prog 45 [dR x,dR y] [dR (x-y)]:=ml (j.mono (by decide)) (u.mono (by decide))
theorem eN (j:Rz 6000000 x) (u:Rz 6000000 y):Ok Tryz.prog 111 [dR x,dR y] [dR (x*y)]:=by have D:=iD (lK x) (lK y);refine cj Tryz.func111 rfl<|cE 11 [] ?_;refine aG rfl (jP (fI (Rz.n j)) (fI (Rz.n u))) ?_;refine aG rfl (jP (fI (dB j)) (fI (dB u))) ?_;refine aG rfl (nk (fI (jw (Rz.n j) (Rz.n u))) (fI (jw (dB j) (dB u))) (by first|assumption|exact neg_ne (by assumption)|exact iD (by assumption) (by assumption))) ?_;refine ah ?_;rw[<-ZO];exact a7 bV rfl aa
theorem W0 (j:Rz 300 x) (u:Rz 300 y):Ok Tryz.prog 111 [dR x,dR y] [dR (x*y)]:=eN (j.mono (by decide)) (u.mono (by decide))
theorem R5 (u:Rz 6000000 x) (D:Rz 6000000 y) (E:y≠0):Ok Tryz.prog 288 [dR x,dR y] [dR (x/y),.c (.i .i64 0)]:=by
 have I:=iD (lK x) (PC E);refine cj Tryz.func288 rfl<|ac rfl (d7) ?_;refine cU rfl (fun j=>?_) (fun j=>?_);·exact absurd (Lm j) E
 ·refine cE 11 [] ?_;refine aG rfl (jP (fI (Rz.n u)) (fI (dB D))) ?_;refine aG rfl (jP (fI (dB u)) (fI (Rz.n D))) ?_;refine aG rfl (nk (fI (jw (Rz.n u) (dB D))) (fI (jw (dB u) (Rz.n D))) (by first|assumption|exact neg_ne (by assumption)|exact iD (by assumption) (by assumption))) ?_;refine ah ?_;rw[<-abE];exact a7 bV rfl (aj aa)
theorem UZ (u:Rz 300 x) (D:Rz 300 y) (j:y≠0):Ok Tryz.prog 288 [dR x,dR y] [dR (x/y),.c (.i .i64 0)]:=R5 (u.mono (by decide)) (D.mono (by decide)) j
theorem rf (u:Rz 6000000 x) (D:Rz 6000000 y):Ok Tryz.prog 42 [dR x,dR y] [.c (.i .i64 (aJ x y))]:=by
 refine cj Tryz.func42 rfl<|cE 6 [] ?_;refine aG rfl (d7) ?_;refine aG rfl (d7) ?_;refine aG rfl (OT) ?_;refine cU rfl (fun j=>?_) (fun j=>?_)
 ·refine ah ?_;rw[<-Ky j];exact aj aa
 ·refine cE 12 [] ?_;refine aG rfl (jP (fI (Rz.n u)) (fI (dB D))) ?_;refine aG rfl (jP (fI (Rz.n D)) (fI (dB u))) ?_;refine aG rfl (m5)<|ah ?_;rw[Jn (x:=x) (y:=y)];exact aj aa
theorem Wt (j:Rz 300 x) (u:Rz 300 y):Ok Tryz.prog 42 [dR x,dR y] [.c (.i .i64 (aJ x y))]:=rf (j.mono (by decide)) (u.mono (by decide))
theorem we (j:Rz 6000000 x):Ok Tryz.prog 164 [dR x] [dI (x.num.fdiv (x.den:Int))]:=by have u:=lK x;refine cj Tryz.func164 rfl<|ac rfl (pf (fI (Rz.n j)) (fI (dB j)) (by assumption)) ?_;exact ah (a7 ep rfl aa)
theorem Nz (j:Rz 300 x):Ok Tryz.prog 164 [dR x] [dI (x.num.fdiv (x.den:Int))]:=we (j.mono (by decide))
theorem ED {x:Int}(j:Sz 6000000 x):Ok Tryz.prog 328 [dI x] [dI (bp x),.c (.b (At x))]:=by
 have hs:=Sz.isq j;refine cj Tryz.func328 rfl<|ac rfl (Cn (fI j))<|cE 13 [2,999999] ?_;refine sL (aQ rfl) (fun D u=>?_);cases D
 ·refine DQ.mk<|kJ (fJ ep rfl) rfl rfl rfl rfl<|ek ?_;refine ah ?_;rw[GA (e7 u)];exact a7 ep rfl (aj aa)
 ·refine aG rfl (jP (fI (Sz.isq j)) (fI (Sz.isq j))) ?_;refine aG rfl (m5) ?_;refine DQ.mk<|Ig (fJ ep rfl) rfl rfl (by kernel_rfl) rfl<|ek ?_;refine ah ?_;rw[MJ];exact a7 ep rfl (aj aa)
theorem Oi (D:Rz 6000000 x):Ok Tryz.prog 292 [dR x] [dQ (if jB x then bp x.num else 0) (if jB x then bp (x.den:Int) else 0),.c (.b (jB x))]:=by
 refine cj Tryz.func292 rfl<|ac rfl (ED (fI (Rz.n D))) ?_;refine cU rfl (fun u=>?_) (fun u=>?_)
 ·refine ac rfl (ED (fI (dB D))) ?_;refine cU rfl (fun j=>?_) (fun j=>?_)
  ·refine ar (az (us:=cQ (bp x.num) (bp (x.den:Int))) vx uu rfl rfl rfl) ?_;refine ah ?_;rw[Zu u j,if_pos rfl,if_pos rfl];exact a7 bV rfl (aj aa)
  ·refine ar (az (us:=(([.b false]++[.s 0 []])++([.b false]++[.s 0 []]))) vx uu rfl rfl rfl) ?_;refine ah ?_;rw[Q3 j,if_neg (by decide),if_neg (by decide),AT];exact a7 bV rfl (aj aa)
 ·refine ar (az (us:=(([.b false]++[.s 0 []])++([.b false]++[.s 0 []]))) vx uu rfl rfl rfl) ?_;refine ah ?_;rw[QI u,if_neg (by decide),if_neg (by decide),AT];exact a7 bV rfl (aj aa)
theorem Tu (j:Rz 300 x):Ok Tryz.prog 292 [dR x] [dQ (if jB x then bp x.num else 0) (if jB x then bp (x.den:Int) else 0),.c (.b (jB x))]:=Oi (j.mono (by decide))
theorem GZ:Ok Tryz.prog 90 [] [dI 1]:=by refine cj Tryz.func90 rfl<|ac rfl (qz (by omega) (by omega)) ?_;exact ah (a7 ep rfl aa)
theorem jj:Ok Tryz.prog 91 [dR x] [.c (.i .i64 (aJ x 0))]:=by refine cj Tryz.func91 rfl ?_;refine ac rfl (wO)<|ah ?_;rw[<-uz];exact aj aa
theorem bX:Ok Tryz.prog 91 [dR x] [.c (.i .i64 (aJ x 0))]:=jj
theorem qB (j: -9223372036854775808<=n) (u:n<=9223372036854775807):Ok Tryz.prog 30 [.c (.i .i64 n)] [dR (n:Rat)]:=by refine cj Tryz.func30 rfl<|ac rfl (qz (by omega) (by omega))<|ac rfl (GZ)<|ar (az (us:=cQ n 1) vx uu rfl rfl rfl) ?_;refine ah ?_;rw[Sa];exact a7 bV rfl aa
theorem qQ (j: -9223372036854775808<=n) (u:n<=9223372036854775807):Ok Tryz.prog 30 [.c (.i .i64 n)] [dR (n:Rat)]:=qB j u
theorem pQ {x y:Int}(D:Sz 19980000 x) (u:Sz 19980000 y) (E:y≠0):Ok Tryz.prog 97 [dI x,dI y] [dR (Rat.divInt x y)]:=by
 have hg:=EZ (n:=x) E;have R:=EZ (n:= -x) (d:= -y) (by omega);have W:=(Sz.gcd (x:=x) u E).mono (l:=20000000) (by decide);have I:=(Sz.gcd (x:= -x) u.neg (by omega)).mono (l:=20000000) (by decide);refine cj Tryz.func97 rfl<|ac rfl (wO) ?_;refine cU rfl (fun j=>?_) (fun j=>?_)
 ·have J:=ab6 j;refine cE 4 [] ?_;refine aG rfl (AM (fI D)) ?_;refine aG rfl (AM (fI u)) ?_;refine ac rfl (FW (fI (Sz.neg D)) (fI (Sz.neg u))) ?_;refine ac rfl (mI (fI (Sz.neg D)) (SF) (by assumption)) ?_;refine ac rfl (mI (fI (Sz.neg u)) (SF) (by assumption)) ?_;refine ar (az (us:=cQ ((-x).fdiv ((Int.gcd (-x) (-y):Int))) ((-y).fdiv ((Int.gcd (-x) (-y):Int)))) vx uu rfl rfl rfl) ?_;refine ah ?_;rw[J2,CY (by omega)];exact a7 bV rfl aa
 ·have J:=ab0 j;refine ac rfl (FW (fI D) (fI u))<|ac rfl (mI (fI D) (SF) (by assumption))<|ac rfl (mI (fI u) (SF) (by assumption))<|ar (az (us:=cQ (x.fdiv (Int.gcd x y:Int)) (y.fdiv (Int.gcd x y:Int))) vx uu rfl rfl rfl) ?_;refine ah ?_;rw[CY (by omega)];exact a7 bV rfl aa
theorem ND {x y:Int}(u:Sz 19980000 x) (E:Sz 19980000 y) (D:y≠0):Ok Tryz.prog 355 [dI x,dI y] [dR (Rat.divInt x y),.c (.i .i64 0)]:=by
 refine cj Tryz.func355 rfl<|ac rfl (wO) ?_;refine cU rfl (fun j=>?_) (fun j=>?_);·exact absurd (U3 j) D
 ·refine ac rfl (pQ (fI u) (fI E) (by first|assumption|exact neg_ne (by assumption)|exact iD (by assumption) (by assumption))) ?_;exact ah (a7 bV rfl (aj aa))
theorem zj (E: -9223372036854775808<=n) (I:n<=9223372036854775807) (J: -9223372036854775808<=d) (D:d<=9223372036854775807) (u:d≠0):Ok Tryz.prog 32 [.c (.i .i64 n),.c (.i .i64 d)] [dR (Rat.divInt n d)]:=by
 have z1:Sz 19980000 n:=eE (by decide) E I;have z2:Sz 19980000 d:=eE (by decide) J D;refine cj Tryz.func32 rfl ?_;refine cU rfl (fun j=>?_) (fun j=>?_);·exact absurd (by simpa using j) u
 ·refine ac rfl (qz (by omega) (by omega))<|ac rfl (qz (by omega) (by omega)) ?_;refine ac rfl (pQ (SF) (SF) (by first|assumption|exact neg_ne (by assumption)|exact iD (by assumption) (by assumption))) ?_;exact ah (a7 bV rfl aa)
theorem jD (I: -9223372036854775808<=n) (u:n<=9223372036854775807) (E: -9223372036854775808<=d) (D:d<=9223372036854775807) (j:d≠0):Ok Tryz.prog 32 [.c (.i .i64 n),.c (.i .i64 d)] [dR (Rat.divInt n d)]:=zj I u E D j
theorem eY (j:Rz 6000000 x):Ok Tryz.prog 284 [dR x] [dR (-x)]:=by refine cj Tryz.func284 rfl<|cE 6 [] ?_;refine aG rfl (AM (fI (Rz.n j))) ?_;refine aq (az (us:=cQ (-x.num) (x.den:Int)) vx uu rfl rfl rfl) ?_;refine ah ?_;rw[Sh (Rat.neg_num x) (congrArg Int.ofNat (Rat.neg_den x))];exact a7 bV rfl aa
theorem Vr (j:Rz 300 x):Ok Tryz.prog 284 [dR x] [dR (-x)]:=eY (j.mono (by decide))
theorem gC (j:Rz 6000000 x) (u:Rz 6000000 y):Ok Tryz.prog 94 [dR x,dR y] [dR (x+y)]:=by have D:=iD (lK x) (lK y);refine cj Tryz.func94 rfl<|ac rfl (m6 (fI (Rz.n j)) (fI (dB u)))<|ac rfl (m6 (fI (Rz.n u)) (fI (dB j)))<|cE 9 [] ?_;refine aG rfl (Ay (fI (jw (Rz.n j) (dB u))) (fI (jw (Rz.n u) (dB j)))) ?_;refine aG rfl (m6 (fI (dB j)) (fI (dB u))) ?_;refine aG rfl (pQ (fI (Sz.addm (jw (Rz.n j) (dB u)) (jw (Rz.n u) (dB j)))) (fI (jw (dB j) (dB u))) (by first|assumption|exact neg_ne (by assumption)|exact iD (by assumption) (by assumption))) ?_;refine ah ?_;rw[<-U8];exact a7 bV rfl aa
theorem WZ (j:Rz 300 x) (u:Rz 300 y):Ok Tryz.prog 94 [dR x,dR y] [dR (x+y)]:=gC (j.mono (by decide)) (u.mono (by decide))
theorem nh (u:Rz 6000000 x) (j:Rz 6000000 y):Ok Tryz.prog 269 [dR x,dR y] [dR (x-y)]:=by refine cj Tryz.func269 rfl<|cE 4 [] ?_;refine aG rfl (eY (aU j)) ?_;refine aG rfl (gC (aU u) (aU (Rz.neg j)))<|ah ?_;rw[Rat.sub_eq_add_neg];exact a7 bV rfl aa
theorem WE (j:Rz 300 x) (u:Rz 300 y):Ok Tryz.prog 269 [dR x,dR y] [dR (x-y)]:=nh (j.mono (by decide)) (u.mono (by decide))
theorem cY (j:Rz 6000000 x) (u:Rz 6000000 y):Ok Tryz.prog 95 [dR x,dR y] [dR (x*y)]:=by have D:=iD (lK x) (lK y);refine cj Tryz.func95 rfl<|cE 11 [] ?_;refine aG rfl (m6 (fI (Rz.n j)) (fI (Rz.n u))) ?_;refine aG rfl (m6 (fI (dB j)) (fI (dB u))) ?_;refine aG rfl (pQ (fI (jw (Rz.n j) (Rz.n u))) (fI (jw (dB j) (dB u))) (by first|assumption|exact neg_ne (by assumption)|exact iD (by assumption) (by assumption))) ?_;refine ah ?_;rw[<-ZO];exact a7 bV rfl aa
theorem Uv (j:Rz 300 x) (u:Rz 300 y):Ok Tryz.prog 95 [dR x,dR y] [dR (x*y)]:=cY (j.mono (by decide)) (u.mono (by decide))
theorem xh (j:Rz 6000000 x) (u:Rz 6000000 y) (D:y≠0):Ok Tryz.prog 323 [dR x,dR y] [dR (x/y),.c (.i .i64 0)]:=by have E:=iD (lK x) (PC D);refine cj Tryz.func323 rfl<|cE 13 [] ?_;refine aG rfl (m6 (fI (Rz.n j)) (fI (dB u))) ?_;refine aG rfl (m6 (fI (dB j)) (fI (Rz.n u))) ?_;refine aG rfl (ND (fI (jw (Rz.n j) (dB u))) (fI (jw (dB j) (Rz.n u))) (by first|assumption|exact neg_ne (by assumption)|exact iD (by assumption) (by assumption))) ?_;refine ah ?_;rw[<-abE];exact a7 bV rfl (aj aa)
theorem UH (u:Rz 300 x) (D:Rz 300 y) (j:y≠0):Ok Tryz.prog 323 [dR x,dR y] [dR (x/y),.c (.i .i64 0)]:=xh (u.mono (by decide)) (D.mono (by decide)) j
theorem gZ (j:Rz 6000000 x) (u:Rz 6000000 y):Ok Tryz.prog 98 [dR x,dR y] [.c (.i .i64 (aJ x y))]:=by refine cj Tryz.func98 rfl<|cE 12 [] ?_;refine aG rfl (m6 (fI (Rz.n j)) (fI (dB u))) ?_;refine aG rfl (m6 (fI (Rz.n u)) (fI (dB j))) ?_;refine aG rfl (K7 (fI (jw (Rz.n j) (dB u))) (fI (jw (Rz.n u) (dB j))))<|ah ?_;rw[Jn (x:=x) (y:=y)];exact aj aa
theorem Vv (j:Rz 300 x) (u:Rz 300 y):Ok Tryz.prog 98 [dR x,dR y] [.c (.i .i64 (aJ x y))]:=gZ (j.mono (by decide)) (u.mono (by decide))
theorem DB {x:Int}(j:Sz 6000000 x):Ok Tryz.prog 174 [dI x] [dI (bp x),.c (.b (At x))]:=by
 have hs:=Sz.isq j;refine cj Tryz.func174 rfl<|ac rfl (Ra (fI j))<|cE 12 [2,999999] ?_;refine sL (aQ rfl) (fun D u=>?_);cases D
 ·refine DQ.mk<|kJ (fJ ep rfl) rfl rfl rfl rfl<|ek ?_;refine ah ?_;rw[GA (e7 u)];exact a7 ep rfl (aj aa)
 ·refine aG rfl (m6 (fI (Sz.isq j)) (fI (Sz.isq j))) ?_;refine aG rfl (Iq (fI (jw (Sz.isq j) (Sz.isq j))) (fI j)) ?_;refine DQ.mk<|Ig (fJ ep rfl) rfl rfl (by kernel_rfl) rfl<|ek ?_;refine ah ?_;rw[show At x=(bp x*bp x==x) from rfl];exact a7 ep rfl (aj aa)
theorem qZ (D:Rz 6000000 x):Ok Tryz.prog 92 [dR x] [dQ (if jB x then bp x.num else 0) (if jB x then bp (x.den:Int) else 0),.c (.b (jB x))]:=by
 refine cj Tryz.func92 rfl<|ac rfl (DB (fI (Rz.n D)))<|ac rfl (DB (fI (dB D))) ?_;refine jC (aQ rfl) (fun E u=>?_);cases E
 ·refine cU rfl (fun j=>?_) (fun j=>?_)
  ·refine ar (az (us:=(([.b false]++[.s 0 []])++([.b false]++[.s 0 []]))) vx uu rfl rfl rfl) ?_;refine ah ?_;rw[Q3 (by simpa using j),if_neg (by decide),if_neg (by decide),AT];exact a7 bV rfl (aj aa)
  ·refine ar (az (us:=cQ (bp x.num) (bp (x.den:Int))) vx uu rfl rfl rfl) ?_;refine ah ?_;rw[Zu (by simpa using u) (by simpa using j),if_pos rfl,if_pos rfl];exact a7 bV rfl (aj aa)
 ·refine vr rfl<|ar (az (us:=(([.b false]++[.s 0 []])++([.b false]++[.s 0 []]))) vx uu rfl rfl rfl) ?_;refine ah ?_;rw[QI (by simpa using u),if_neg (by decide),if_neg (by decide),AT];exact a7 bV rfl (aj aa)
theorem Bc (j:Rz 300 x):Ok Tryz.prog 92 [dR x] [dQ (if jB x then bp x.num else 0) (if jB x then bp (x.den:Int) else 0),.c (.b (jB x))]:=qZ (j.mono (by decide))
theorem NW {neg:Bool}{xs:List Int}(hb:Vk xs) (hn:xs.length<=10000000):Ok Tryz.prog 302 [.a (([.b neg]++[cM xs]))] [.c (.b (vI neg xs))]:=by
 refine cj Tryz.func302 rfl ?_;refine DW.mk<|bF (ι:={k:Nat // k<=xs.length/\ ∀j,j<k->xs.getD j 0<1000000000}) (fun i=>⟨36,[(1,.p 1 0),(3,.v (.c (.i .i64 (i.1:Int))))],[(1,38,([.b neg]++[cM xs]))]⟩) (fun i=>xs.length-i.1) ⟨0,eo _,fun j hj=>by omega⟩ (al ⟨rfl,rfl,trivial⟩ ⟨rfl,trivial⟩ rfl) ?_;rintro⟨k,a0,u⟩;replace a0:k<=xs.length:=a0;replace u: ∀j,j<k->xs.getD j 0<1000000000:=u;have hg:=Td hb k;dsimp only;refine sh ?_;refine cU rfl (fun E=>?_) (fun E=>?_)
 ·have hk:k<xs.length:=by simp only[decide_eq_true_eq] at E;omega
  refine ar (ba jb rfl rfl (by omega) (jf _) rfl rfl) ?_;refine ar (bH eZ rfl (j5 (i:=k) (by omega)) rfl) ?_;refine cU rfl (fun J=>?_) (fun J=>?_)
  ·have R:xs.getD k 0>=1000000000:=by simpa using J
   refine ah ?_;rw[abW hk R];exact aj aa
  ·have a1: ¬xs.getD k 0>=1000000000:=by simpa using J
   have I: ∀j,j<k+1->xs.getD j 0<1000000000:=fun j hj=>by
    rcases nR j k with h1|h1;·exact u j h1
    ·rw[show j=k from by omega];omega
   refine ar (b9 ((k:Int)+1) (aT (by omega) (by omega)) rfl) ?_;exact⟨⟨k+1,hk,I⟩,al ⟨rfl,by rw[show((k+1:Nat):Int)=(k:Int)+1 from by omega];rfl,trivial⟩ ⟨rfl,trivial⟩ rfl,by show xs.length-(k+1)<xs.length-k;omega⟩
 ·have hk:k=xs.length:=by simp only[decide_eq_false_iff_not] at E;omega
  have hL:Lim xs:=KH hb (by rw[<-hk];exact u);refine cE 20 [] ?_;refine aG rfl (kv hL (by omega)) ?_;refine sL (aQ rfl) (fun c3 D=>?_);cases c3
  ·refine DQ.mk<|vi (ng rfl)<|ek ?_;refine ah ?_;rw[Kh hL,D,pU];exact aj aa
  ·refine sL (aQ rfl) (fun c4 W=>?_);cases c4
   ·refine ah ?_;rw[Kh hL,D,W,Bool.false_or,iI];exact aj aa
   ·refine ah ?_;rw[Kh hL,D,W,Bool.true_or,iI];exact aj aa
def vQ (x y:Int):Bool:=decide (0<y)&&(((Int.gcd x y:Nat):Int)==1)
theorem af4 {x:Int}:vI (decide (x<0)) (cX x.natAbs)=true:=by
 unfold vI;rw[Bj (bD _),show trm (cX x.natAbs)=cX x.natAbs from jc _];by_cases h:x<0
 ·have:cX x.natAbs≠ []:=fun e=>by have:=dM.1 e;omega
  have:=List.length_pos_iff.2 this;grind
 grind
theorem UC (v:Nat):Vk (cX v):=fun x j=>by have:=bD v x j;omega
theorem H6 {x:Int}(j:Sz 10000000 x):Ok Tryz.prog 302 [dI x] [.c (.b true)]:=by have:=NW (neg:=decide (x<0)) (xs:=cX x.natAbs) (UC _) (gD j);rw[af4] at this;exact this
theorem ahw {x y:Int}(h:vQ x y=true):cQ x y=cR (Rat.divInt x y):=by unfold vQ at h;simp only[de,decide_eq_true_eq,beq_iff_eq] at h;have:=AA (n:=x) h.1 h.2;unfold dR dQ at this;injection this with this;exact this.symm
theorem adA (x:Rat):vQ x.num (x.den:Int)=true:=by unfold vQ;simp only[de,decide_eq_true_eq,beq_iff_eq];refine⟨den_pos x,?_⟩;have:Int.gcd x.num (x.den:Int)=1:=x.reduced;grind
theorem TN {x y:Int}(h:vQ x y=true):(Rat.divInt x y).num=x/\((Rat.divInt x y).den:Int)=y:=by
 unfold vQ at h;simp only[de,decide_eq_true_eq,beq_iff_eq] at h;obtain⟨j,D⟩:=h;have u:Int.gcd x y=1:=by omega
 rw[Rat.num_divInt,Rat.den_divInt,if_neg (by omega),Int.sign_eq_one_of_pos j,Int.one_mul,Int.gcd_comm y x,u];grind
theorem aeC {x y:Int}(h:(dC y 0 !=1)=true):vQ x y=false:=by
 unfold vQ;have j: ¬0<y:=fun e=>by rw[eA e] at h;cases h
 grind
theorem acQ {y:Int}(h:(dC y 0 !=1)=false):y≠0:=fun e=>by rw[jN e] at h;cases h
theorem ac2 {x y:Int}(h:(dC y 0 !=1)=false):vQ x y=(((Int.gcd x y:Nat):Int)==1):=by
 unfold vQ;have j:0<y:=by
  rcases ra y 0 with e|e|e;·rw[eg e] at h;cases h
  ·rw[jN e] at h;cases h
  grind
 grind
end Go.Proofs.YtegeknjkgadehaaGreat
namespace Go.Proofs.YtegeknjkgadehaaGreat
open Go.ChangeShapes Go.WideShapes Go.ChangeAt Go.RowKit Go.Deep
theorem own:ownKnob Tryz.prog.godebug=none:=by kernel_rfl
theorem FG:laidOutB Tryz.prog=true:=by kernel_rfl
def Jv:Nat->Prop:=fun _=>False
section
variable {H:Type}{enc:TypeId×Value->H}{w:World}{base:Nat}{spare:Nat->Bool}{held:Bool}
theorem IE {D:Type}{p:Nat->D->Prop}: ∀(n:Nat),(∀i,i<n-> ∃a,p i a)-> ∃l:List D,l.length=n/\ ∀i a,l[i]? =some a->p i a
 |0,_=>⟨[],rfl,fun i a h=>by simp at h⟩
 |n+1,h=>by
  obtain⟨l,hl,E⟩:=IE n (fun i hi=>h i (by omega));obtain⟨a,J⟩:=h n (by omega);refine⟨l++[a],by simp[hl],fun i b j=>?_⟩;rcases nR i n with I|I;·rw[uJ (by omega)] at j;exact E i b j
  ·rw[tL (by omega)] at j;have:i=n:=by
    rcases nR (i-l.length) 1 with u|u;·omega
    ·rw[sK (by simpa using u)] at j;cases j
   subst this;rw[hl] at j;simp at j;subst j;exact J
theorem MW (a:Addr) (k:Nat) (v:Value) (h:w.cell? (a.add k)=some v):w.cell? ⟨a.block,a.off+k,none⟩=some v:=by
 obtain⟨b,off,j⟩:=a;by_cases u:k=0
 ·subst u;have hs:j=none:=by simpa [Addr.add] using World.cell?_spot h
  subst hs;simpa [Addr.add] using h
 ·simpa [Addr.add,u] using h
theorem Qs (a:Addr) (v:Value) (h:w.cell? (a.add 0)=some v):a=⟨a.block,a.off,none⟩:=by
 obtain⟨b,off,j⟩:=a;have hs:j=none:=by simpa [Addr.add] using World.cell?_spot h
 subst hs;rfl
theorem Z9 (b off:Nat) (v:Value) (h:w.cell? ⟨b,off,none⟩=some v):b<w.heap.size:=World.block_lt_of_cell? w _ h
theorem abG {f:FuncId}{j:List D0}{vs:Array Value}{W:World}(h:Ok Tryz.prog f j [.c (.b true)]) (u:RdL Jv W vs.toList j):Calls Tryz.prog f vs W fun e E=>e=.returned (.bool true)/\Below W.heap.size W E:=
 (h.run Jv vs W (fun _ h=>h.elim) u).mono fun e w' ⟨v,I,D,J⟩=>by have:=tj D;subst this;exact⟨I,J⟩
end
end Go.Proofs.YtegeknjkgadehaaGreat
namespace Go.Proofs.YtegeknjkgadehaaGreat
open Go Go.RowKit
variable {Q:Exit->St->Prop}{tm:List (Nat×DV)}{bx:List (Nat×TypeId×List CellD)}{cs pre rest us ys zs:List CellD}{by_ c k m n q t:Nat}{h x y:Operand}{U e:TypeId}
variable {ty:TypeId}{pos:String}{af:Array Edge}{g:Option (Nat×Bool)}{dst:Option Nat}
section
variable {P:Program}{ops:Array Oper}{T:TF}{B:BF}{av:Nat->Prop}{w0:Ent}{w:World}{N:Nat}{β:Nat->Nat}{a:Act}
theorem Rel.ren (h:Rel av w0 N T B β a w) {d:Nat}(a1:d<N) (hk:B k≠none) (hd:d=k\/B d=none):
 Rel av w0 N (oM k T) (fun l=>if l=d then B k else if l=k then none else B l) (fun l=>if l=d then β k else β l) a w:=by
 have hB: ∀l,(if l=d then B k else if l=k then none else B l)≠none->(l=d\/(l≠d/\l≠k/\B l≠none)):=by grind
 have D: ∀l,B l≠none->l≠k->l≠d:=by grind
 have hV:(fun b=>av b\/ ∃l,(if l=d then B k else if l=k then none else B l)≠none/\(if l=d then β k else β l)=b)=(fun b=>av b\/ ∃l,B l≠none/\β l=b):=by grind
 have hT: ∀t x,oM k T t=some x->x=.n\/(T t=some x/\jq x≠some k):=by intro t x ht;unfold oM at ht;grind
 refine⟨h.dfr,h.siz,h.bel,h.avl,h.avE,h.big,fun b hb hK=>?_,?_,?_,?_,?_⟩
 ·have a0:w0.K≠d:=by have:=h.big;omega
  rcases hB _ hK with e|⟨_,_,e⟩
  ·grind
  ·rw[if_neg a0];exact h.fix b hb e
 ·intro l m hl hm e
  rcases hB l hl with W|⟨W,e2,e3⟩<;>rcases hB m hm with f1|⟨f1,f2,f3⟩
  ·grind
  ·rw[if_pos W,if_neg f1] at e
   exact absurd (h.inj k m hk f3 e).symm f2
  ·rw[if_neg W,if_pos f1] at e
   exact absurd (h.inj l k e3 hk e) e2
  ·rw[if_neg W,if_neg f1] at e
   exact h.inj l m e3 f3 e
 ·intro l hl
  rcases hB l hl with W|⟨W,e2,e3⟩
  ·rw[if_pos W];exact h.own k hk
  ·rw[if_neg W];exact h.own l e3
 ·intro t x l ht hx
  rcases hT t x ht with rfl|⟨R,h2⟩
  ·cases hx
  ·have I:=h.wf t x l R hx
   grind
 ·rw[hV]
  refine⟨h.sees.av,?_,?_⟩
  ·intro l U cs hl
   have E:(if l=d then B k else if l=k then none else B l)=some (U,cs):=hl
   by_cases e:l=d
   ·rw[if_pos e] at E
    rw[if_pos e];exact h.sees.box k U cs E
   ·rw[if_neg e] at E
    rw[if_neg e]
    by_cases e2:l=k
    ·grind
    ·rw[if_neg e2] at E;exact h.sees.box l U cs E
  ·intro t x hL ht
   rcases hT t x ht with rfl|⟨R,h2⟩
   ·unfold oM at ht
    split at ht
    ·rename_i y hy
     obtain⟨v,e,_⟩:=h.sees.tmp t y hL hy
     exact⟨v,e,trivial⟩
    grind
   ·obtain⟨v,e,j⟩:=h.sees.tmp t x hL R
    refine⟨v,e,?_⟩
    cases x with
    |p l off=>
     have I:=h.wf t _ l R rfl
     have J:l≠k:=fun e=>h2 (by rw[e];rfl)
     show v=.pointer (some ⟨if l=d then β k else β l,off,none⟩)
     rw[if_neg (D l I J)];exact j
    |o l n c=>
     have I:=h.wf t _ l R rfl
     have J:l≠k:=fun e=>h2 (by rw[e];rfl)
     show v=.slice (some ⟨if l=d then β k else β l,0,none⟩) n c
     rw[if_neg (D l I J)];exact j
    |w l off n c=>
     have I:=h.wf t _ l R rfl
     have J:l≠k:=fun e=>h2 (by rw[e];rfl)
     show v=.slice (some ⟨if l=d then β k else β l,off,none⟩) n c
     rw[if_neg (D l I J)];exact j
    |v d=>exact j
    |t ds=>exact j
    |q us=>exact j
    |u=>exact j
    |n=>trivial
    |z=>exact j
    |f n us=>exact j
    |tn l n c ds=>
     have I:=h.wf t _ l R rfl
     have J:l≠k:=fun e=>h2 (by rw[e];rfl)
     obtain⟨xs,e,h⟩:=j
     exact⟨xs,by show v=Value.tuple (Value.slice (some ⟨if l=d then β k else β l,0,none⟩) n c::xs).toArray;rw[if_neg (D l I J)];exact e,h⟩
    |oe l n c u=>
     have I:=h.wf t _ l R rfl
     have J:l≠k:=fun e=>h2 (by rw[e];rfl)
     exact⟨by show v=.slice (some ⟨if l=d then β k else β l,0,none⟩) n c;rw[if_neg (D l I J)];exact j.1,j.2⟩
theorem Fo (a:Act) (d:Nat) (v j:Value):(a.put (some d) v).put (some d) j=a.put (some d) j:=by simp[Act.put]
theorem RZ {x:DV}:(⟨N,(t,x)::hJ k tm,bx⟩:St).T=fun s=>if some t=some s then some x else oM k (fun s=>look s tm) s:=by
 funext s;show look s ((t,x)::hJ k tm)=_;rw[aO,iZ];by_cases e:t=s;·grind
 ·rw[if_neg e,if_neg (by simpa using e)];rfl
theorem Rh {x:TypeId×List CellD}:(⟨N,tm,(t,x)::f6 k bx⟩:St).B=fun l=>if some t=some l then some x else if l=k then none else look l bx:=by funext s;show look s ((t,x)::f6 k bx)=(if some t=some s then some x else if s=k then none else look s bx);rw[aO,iU];grind
theorem P8 {z:Value}(E:zs.length=m) (D: ∀(V:Nat->Prop) (w:World),RdCs V w z.cells.toList zs) (r:Nat):
 ∃rest:List CellD,rest.length=r*m/\ ∀(V:Nat->Prop) (w:World),RdCs V w (Builtin.zeroCells z.cells r).toList rest:=by
 have u:z.cells.size=m:=by have:=(D (fun _=>False) default).1;rw[E] at this;simpa using this
 have I: ∀(r:Nat) (V:Nat->Prop) (w:World),RdCs V w ((List.range (r*m)).map (fun j=>z.cells[j%z.cells.size]!)) (List.replicate r zs).flatten:=by
  intro r V w;induction r with
  |zero=>simp;exact nl
  |succ r R=>
   rw[Nat.succ_mul,List.range_add,zw,List.replicate_succ',List.flatten_append];refine kG R ?_;have W:(List.map (fun x=>r*m+x) (List.range m)).map (fun j=>z.cells[j%z.cells.size]!)=z.cells.toList:=by apply List.ext_getElem (by simp[u]);intro j J h2;simp at J;simp only[List.getElem_map,List.getElem_range,u];rw[Nat.mul_comm r,Nat.mul_add_mod,Nat.mod_eq_of_lt (by omega),getElem!_pos z.cells j (by omega)];simp
   grind
 refine⟨(List.replicate r zs).flatten,?_,fun V w=>?_⟩
 ·simp_all
 ·have:=I r V w
  unfold Builtin.zeroCells
  simpa [u] using this
variable {tm:List (Nat×DV)}{bx:List (Nat×TypeId×List CellD)}
theorem wM 
 (hU:rl P U=some (e,m,by_,zs)) (hx:ck (fun s=>look s tm) x=some (.o k n c)) (e5: ∀V β a w,Sees V (d6 ops ⟨some t,.call ⟨.builtin .append,#[x,y],#[U,U]⟩,ty,pos,af,g⟩) (fun s=>look s tm) (fun l=>look l bx) β a w-> ∃news,Src P m U (a.eval y) q news w/\RdCs V w news ys) (hb:look k bx=some (e,cs)) (a3:cs.length=c*m) (e9:ys.length=q*m) (hm:0<m)
 (c0:n<=c) (d1:c<=maxLen) (e6:c<n+q->Builtin.nextslicecap (n+q) c*by_<=281474976710656) (d4:n+q<=maxLen) (c1:cs.take (n*m)=pre) (hd:t=k\/look t bx=none)
 (hg:gd ops ⟨some t,.call ⟨.builtin .append,#[x,y],#[U,U]⟩,ty,pos,af,g⟩ (fun s=>look s tm)=some true):
 Nr P ops ⟨some t,.call ⟨.builtin .append,#[x,y],#[U,U]⟩,ty,pos,af,g⟩ ⟨N,tm,bx⟩ (fun σ'=> ∃c' rest,n+q<=c'/\c'<=maxLen/\rest.length=(c'-(n+q))*m/\σ'=⟨N,(t,.o t (n+q) c')::hJ k tm,(t,e,pre++ys++rest)::f6 k bx⟩):=by
 intro av w0 β a w hrel a9
 have hs:=Sees.of hrel.sees (L:=d6 ops ⟨some t,.call ⟨.builtin .append,#[x,y],#[U,U]⟩,ty,pos,af,g⟩) (fun _ _=>trivial) (fun _ _ _ h=>h) (fun _ _ h=>h)
 refine⟨eL hs hg,?_⟩
 have e1:a.eval x=.slice (some ⟨β k,0,none⟩) n c:=ao hs (x:=x) (by simp[Op.operands,Call.operands]) hx
 obtain⟨news,D,c5⟩:=e5 _ _ _ _ hs
 obtain⟨hu,i,z,hi,hz,d0,c6,c7,d3⟩:=iz hU
 obtain⟨f0,vs,ev,hr⟩:=hs.box k e cs hb
 subst d0
 have b4:(look k bx)≠none:=by rw[hb];simp
 have e8:n*i.size<=cs.length:=by rw[a3];exact mE _ c0
 have c3:vs.size=c*i.size:=by have:=hr.1;rw[a3] at this;simpa using this
 have a5:=hr.take (n*i.size)
 rw[c1] at a5
 have b0:(vs.toList.take (n*i.size)).length=n*i.size:=by rw[eu,Array.length_toList,c3];exact dK (mE _ c0)
 have ht:t<N:=a9 t rfl
 have b2:news.length=q*i.size:=D.newsLen
 unfold Gives
 by_cases I:n+q<=c
 ·--in place
  have b5:0+n*i.size+0+news.length<=vs.size:=by rw[c3,b2];have:=mE i.size I;rw[iP] at this;omega
  have b1:=run_storeCells_at P (β k) (0+n*i.size) e news 0 vs w ev b5 D.one
  simp only[dt,um] at b1
  have R:(Builtin.append_ #[U,U] ty #[.slice (some ⟨β k,0,none⟩) n c,a.eval y]).run P w=.ok (.slice (some ⟨β k,0,none⟩) (n+q) c) (w.setRow (β k) (vs.toList.take (n*i.size)++news++vs.toList.drop (n*i.size+news.length)).toArray):=by rcases D.kind with⟨e',hk⟩|hk<;>simp[Builtin.append_,run_underlying hu,sizeOf,typeInfo,hi,D.len,I,D.cells,Addr.add_lit,b1]
  have J:(execOp a.eval ⟨some t,.call ⟨.builtin .append,#[x,y],#[U,U]⟩,ty,pos,af,g⟩).run P w=.ok (.value (.slice (some ⟨β k,0,none⟩) (n+q) c)) (w.setRow (β k) (vs.toList.take (n*i.size)++news++vs.toList.drop (n*i.size+news.length)).toArray):=by simp only[execOp,resolve,invoke,builtin,fq,dx,dd,qT,mm,qy,e1];rw[R];rfl
  rw[J]
  have a4:((cs.drop (n*i.size+news.length))).length=(c-(n+q))*i.size:=by rw[eP,a3,b2,<-iP,<-Nat.sub_mul]
  refine⟨⟨N,(t,.o t (n+q) c)::hJ k tm,(t,e,pre++ys++cs.drop (n*i.size+news.length))::f6 k bx⟩,fun l=>if l=t then β k else β l,⟨c,_,I,d1,a4,rfl⟩,rfl,?_⟩
  have b8:=hrel.ren (k:=k) (d:=t) (a9 t rfl) b4 hd
  have a1:=b8.store (k:=t) (U:=e) (cs0:=cs) (cs:=pre++ys++cs.drop (n*i.size+news.length)) (vs:=(vs.toList.take (n*i.size)++news++vs.toList.drop (n*i.size+news.length)).toArray)
   (w':=w.setRow (β k) (vs.toList.take (n*i.size)++news++vs.toList.drop (n*i.size+news.length)).toArray) (by rw[if_pos rfl];exact hb) (by rw[if_pos rfl];exact fK ev) rfl rfl rfl ?_
  ·have W:=a1.value (d:=some t) (x:=.o t (n+q) c) (v:=.slice (some ⟨β k,0,none⟩) (n+q) c) (by intro s hs;injection hs with hs;subst hs;exact ht) (ef _ _) (by show _=Value.slice (some ⟨if t=t then β k else β t,0,none⟩) _ _;rw[if_pos rfl]) (by intro l hl;injection hl with hl;subst hl;rw[if_pos rfl];simp)
   refine W.congr (fun s=>?_) (fun l=>?_)
   ·rw[RZ];rfl
   ·rw[Rh]
    show(if some t=some l then _ else _)=(if t=l then _ else if l=t then _ else _)
    by_cases e:t=l
    ·rw[if_pos (by rw[e]),if_pos e]
    ·rw[if_neg (show ¬some t=some l by simpa using e),if_neg e,if_neg (Ne.symm e)];rfl
  ·have a6:RdCs (fun b=>av b\/ ∃k,look k bx≠none/\β k=b) w (vs.toList.take (n*i.size)++news++vs.toList.drop (n*i.size+news.length)) (pre++ys++cs.drop (n*i.size+news.length)):=(a5.append c5).append (hr.drop _)
   refine RdCs.keep (av:=fun b=>av b\/ ∃k,look k bx≠none/\β k=b) ⟨Nat.le_refl _,fun _ _ _=>rfl,?_⟩ a6
   rintro b _ (E|⟨l,hl,E⟩)
   ·exact .inl E
   ·try dsimp only at hl E
    by_cases e:l=t
    ·rw[if_pos e] at E;exact .inr ⟨k,b4,E⟩
    ·rw[if_neg e] at hl E
     by_cases e2:l=k
     ·rw[if_pos e2] at hl;exact absurd rfl hl
     ·rw[if_neg e2] at hl;exact .inr ⟨l,hl,E⟩
 ·--new memory
  have a0:c<n+q:=by omega
  have b6:(Builtin.firstCells i.size n (.slice (some ⟨β k,0,none⟩) n c)).run P w.drew=.ok (vs.toList.take (n*i.size)).toArray w.drew:=by
   have:=run_loadCells_list (P:=P) w.drew ⟨β k,0,none⟩ (vs.toList.take (n*i.size)) (fun j u hj=>by
    rw[d8,dt];show w.cell? _=_;rw[j6] at hj;split at hj;·rw[bE ev,<-hj];simp
    ·cases hj)
   rw[b0] at this;exact this
  have R:=run_append_grow_src (P:=P) (w:=w) U U ty e i z hu hi hz (some ⟨β k,0,none⟩) n c _ b6 (a.eval y) q news D a0 (by have:maxLen=9223372036854775807:=rfl;omega) (by rw[c6];exact e6 a0)
  generalize a2:grownCap w (n+q) c e=c' at R
  have e3:n+q<=c':=by rw[<-a2];exact grownCap_ge _ _ _ _
  have d2:c'<=maxLen:=by rw[<-a2];exact grownCap_le_maxLen _ _ _ _ d4
  have J:(execOp a.eval ⟨some t,.call ⟨.builtin .append,#[x,y],#[U,U]⟩,ty,pos,af,g⟩).run P w=.ok (.value (.slice (some ⟨w.heap.size,0,none⟩) (n+q) c'))
   (w.drew.alloc (.cells ((vs.toList.take (n*i.size)++news).toArray++Builtin.zeroCells z.cells (c'-(n+q))) e)):=by
   simp only[execOp,resolve,invoke,builtin,fq,dx,dd,qT,mm,qy,e1]
   rw[R]
   rfl
  rw[J]
  have c8:=(hrel.drop k).drew
  obtain⟨rest,e4,c9⟩:=P8 c7 d3 (c'-(n+q))
  have a6:RdCs (fun b=>av b\/ ∃l,(if l=k then none else look l bx)≠none/\β l=b) w.drew ((vs.toList.take (n*i.size)++news).toArray++Builtin.zeroCells z.cells (c'-(n+q))).toList (pre++ys++rest):=by have h0:RdCs (fun b=>av b\/ ∃k,look k bx≠none/\β k=b) w (vs.toList.take (n*i.size)++news) (pre++ys):=a5.append c5;have h1:=kG (RdCs.keep (av:=fun b=>av b\/ ∃k,look k bx≠none/\β k=b) (w:=w) (av':=fun b=>av b\/ ∃l,(if l=k then none else look l bx)≠none/\β l=b) (w':=w.drew) ⟨Nat.le_refl _,fun _ _ _=>rfl,fun b _ E=>E.imp id fun⟨l,hl,e⟩=>⟨l,fun h0=>by rw[h0] at hl;exact hl (by split<;>rfl),e⟩⟩ h0) (c9 (fun b=>av b\/ ∃l,(if l=k then none else look l bx)≠none/\β l=b) w.drew);simpa using h1
  have b3:=c8.box (d:=t) ht (by
   show(if t=k then none else look t bx)=none;rcases hd with hd|hd;·rw[if_pos hd]
   ·rw[hd];split<;>rfl) (U:=e) (sl:=some c') a6
  refine⟨⟨N,(t,.o t (n+q) c')::hJ k tm,(t,e,pre++ys++rest)::f6 k bx⟩,fun l=>if l=t then w.drew.heap.size else β l,⟨c',_,e3,d2,e4,rfl⟩,rfl,?_⟩
  have W:=b3.value (d:=some t) (x:=.o t (n+q) c') (v:=.slice (some ⟨w.heap.size,0,none⟩) (n+q) c') (by intro s hs;injection hs with hs;subst hs;exact ht) (ef _ _) (by show _=Value.slice (some ⟨if t=t then w.drew.heap.size else β t,0,none⟩) _ _;rw[if_pos rfl];rfl) (by intro l hl;injection hl with hl;subst hl;rw[if_pos rfl];simp)
  rw[Fo] at W
  refine W.congr (fun s=>?_) (fun l=>?_)
  ·rw[RZ]
   show(if some t=some s then _ else _)=(if some t=some s then _ else if some t=some s then _ else oM k _ s)
   by_cases e:some t=some s
   ·rw[if_pos e,if_pos e]
   ·rw[if_neg e,if_neg e,if_neg e];rfl
  ·rw[Rh];rfl
theorem FV 
 (hU:rl P U=some (e,m,by_,zs)) (hx:ck (fun s=>look s tm) x=some (.o k n c)) (a1: ∀V β a w,Sees V (d6 ops ⟨some t,.call ⟨.builtin .append,#[x,y],#[U,U]⟩,ty,pos,af,g⟩) (fun s=>look s tm) (fun l=>look l bx) β a w-> ∃V',RdC V' w (a.eval y) (.s q ys)/\ ∀news,RdCs V' w news ys->RdCs V w news ys) (hb:look k bx=some (e,cs)) (R:cs.length=c*m) (E:ys.length=q*m) (hm:0<m)
 (a0:n<=c) (a2:c<=maxLen) (j:(n+q)*by_<=140737488355328) (W:n+q<=maxLen) (I:cs.take (n*m)=pre) (hd:t=k\/look t bx=none)
 (hg:gd ops ⟨some t,.call ⟨.builtin .append,#[x,y],#[U,U]⟩,ty,pos,af,g⟩ (fun s=>look s tm)=some true):
 Nr P ops ⟨some t,.call ⟨.builtin .append,#[x,y],#[U,U]⟩,ty,pos,af,g⟩ ⟨N,tm,bx⟩ (fun σ'=> ∃c' rest,n+q<=c'/\c'<=maxLen/\rest.length=(c'-(n+q))*m/\σ'=⟨N,(t,.o t (n+q) c')::hJ k tm,(t,e,pre++ys++rest)::f6 k bx⟩):=
 wM hU hx (fun V β a w hs=>by obtain⟨V',h2,u⟩:=a1 _ _ _ _ hs;obtain⟨news,J,D⟩:=qo hU h2 E;exact⟨news,J,u _ D⟩) hb R E hm a0 a2 (fun h=>growslice_fits h j) W I hd hg
theorem tv 
 (hU:rl P U=some (e,m,by_,zs)) (W:ck (fun s=>look s tm) x=some (.o k n c)) (hy:ck (fun s=>look s tm) y=some (.v (.c (.s q ys)))) (hb:look k bx=some (e,cs)) (D:cs.length=c*m) (E:ys.length=q*m) (hm:0<m)
 (J:n<=c) (R:c<=maxLen) (j:(n+q)*by_<=140737488355328) (I:n+q<=maxLen) (u:cs.take (n*m)=pre) (hd:t=k\/look t bx=none)
 (hg:gd ops ⟨some t,.call ⟨.builtin .append,#[x,y],#[U,U]⟩,ty,pos,af,g⟩ (fun s=>look s tm)=some true):
 Nr P ops ⟨some t,.call ⟨.builtin .append,#[x,y],#[U,U]⟩,ty,pos,af,g⟩ ⟨N,tm,bx⟩ (fun σ'=> ∃c' rest,n+q<=c'/\c'<=maxLen/\rest.length=(c'-(n+q))*m/\σ'=⟨N,(t,.o t (n+q) c')::hJ k tm,(t,e,pre++ys++rest)::f6 k bx⟩):=by
 exact FV hU W (fun V β a w hs=>⟨V,ao hs (x:=y) (by simp[Op.operands,Call.operands]) hy,fun _ h=>h⟩) hb D E hm J R j I u hd hg
theorem xf 
 (hU:rl P U=some (e,m,by_,zs)) (hx:ck (fun s=>look s tm) x=some .z) (hy:ck (fun s=>look s tm) y=some (.v (.c (.s q ys)))) (a9:ys.length=q*m) (hq:0<q)
 (D:q*by_<=140737488355328) (b0:q<=maxLen) (hd:look t bx=none)
 (hg:gd ops ⟨some t,.call ⟨.builtin .append,#[x,y],#[U,U]⟩,ty,pos,af,g⟩ (fun s=>look s tm)=some true):
 Nr P ops ⟨some t,.call ⟨.builtin .append,#[x,y],#[U,U]⟩,ty,pos,af,g⟩ ⟨N,tm,bx⟩ (fun σ'=> ∃c' rest,q<=c'/\c'<=maxLen/\rest.length=(c'-q)*m/\σ'=⟨N,(t,.o t q c')::tm,(t,e,ys++rest)::bx⟩):=by
 intro av w0 β a w hrel a1
 have hs:=Sees.of hrel.sees (L:=d6 ops ⟨some t,.call ⟨.builtin .append,#[x,y],#[U,U]⟩,ty,pos,af,g⟩) (fun _ _=>trivial) (fun _ _ _ h=>h) (fun _ _ h=>h)
 refine⟨eL hs hg,?_⟩
 have e1:a.eval x=.slice none 0 0:=ao hs (x:=x) (by simp[Op.operands,Call.operands]) hx
 have h2:=ao hs (x:=y) (by simp[Op.operands,Call.operands]) hy
 obtain⟨news,R,b5⟩:=qo hU h2 a9
 obtain⟨hu,i,z,hi,hz,b1,a2,a3,a6⟩:=iz hU
 subst b1
 have ht:t<N:=a1 t rfl
 unfold Gives
 have a0:(Builtin.firstCells i.size 0 (.slice none 0 0)).run P w.drew=.ok ([]:List Value).toArray w.drew:=rfl
 have j:0<0+q:=by omega
 have u:=run_append_grow_src (P:=P) (w:=w) U U ty e i z hu hi hz none 0 0 _ a0 (a.eval y) q news R j (by have:maxLen=9223372036854775807:=rfl;omega) (growslice_fits j (by rw[a2,dt];exact D))
 rw[dt] at u
 generalize I:grownCap w q 0 e=c' at u
 have b3:q<=c':=by rw[<-I];exact grownCap_ge _ _ _ _
 have a5:c'<=maxLen:=by rw[<-I];exact grownCap_le_maxLen _ _ _ _ b0
 have J:(execOp a.eval ⟨some t,.call ⟨.builtin .append,#[x,y],#[U,U]⟩,ty,pos,af,g⟩).run P w=.ok (.value (.slice (some ⟨w.heap.size,0,none⟩) q c'))
  (w.drew.alloc (.cells (([]++news).toArray++Builtin.zeroCells z.cells (c'-q)) e)):=by
  simp only[execOp,resolve,invoke,builtin,fq,dx,dd,qT,mm,qy,e1]
  rw[u]
  rfl
 rw[J]
 obtain⟨rest,b2,a4⟩:=P8 a3 a6 (c'-q)
 have b4:RdCs (fun b=>av b\/ ∃k,look k bx≠none/\β k=b) w.drew (([]++news).toArray++Builtin.zeroCells z.cells (c'-q)).toList (ys++rest):=by have h1:RdCs (fun b=>av b\/ ∃k,look k bx≠none/\β k=b) w.drew (news++(Builtin.zeroCells z.cells (c'-q)).toList) (ys++rest):=kG (RdCs.keep (Keep.below (ef _ w).drew) b5) (a4 (fun b=>av b\/ ∃k,look k bx≠none/\β k=b) w.drew);grind
 have W:=hrel.drew.box (d:=t) ht hd (U:=e) (sl:=some c') b4
 refine⟨⟨N,(t,.o t q c')::tm,(t,e,ys++rest)::bx⟩,fun l=>if l=t then w.drew.heap.size else β l,⟨c',_,b3,a5,b2,rfl⟩,rfl,?_⟩
 have E:=W.value (d:=some t) (x:=.o t q c') (v:=.slice (some ⟨w.heap.size,0,none⟩) q c') (by intro s hs;injection hs with hs;subst hs;exact ht) (ef _ _) (by show _=Value.slice (some ⟨if t=t then w.drew.heap.size else β t,0,none⟩) _ _;rw[if_pos rfl];rfl) (by intro l hl;injection hl with hl;subst hl;rw[if_pos rfl];simp)
 rw[Fo] at E
 refine E.congr (fun s=>?_) (fun l=>?_)
 ·show look s ((t,DV.o t q c')::tm)=(if some t=some s then _ else if some t=some s then _ else look s tm)
  rw[aO]
  grind
 ·show look l ((t,e,ys++rest)::bx)=(if some t=some l then _ else look l bx)
  rw[aO]
  grind
variable {os:List Oper}{K:St->Prop}
theorem ou 
 (hU:rl P U=some (e,m,by_,zs)) (hx:ck (fun s=>look s tm) x=some (.o k n c)) (hy:ck (fun s=>look s tm) y=some (.v (.c (.s q ys)))) (hb:look k bx=some (e,us++rest)) (D:us.length=n*m) (hr:rest.length=(c-n)*m)
 (E:ys.length=q*m) (hm:0<m) (J:n<=c) (R:c<=maxLen) (u:(n+q)*by_<=140737488355328) (I:n+q<=maxLen) (hd:t=k\/look t bx=none)
 (hg:gd ops ⟨some t,.call ⟨.builtin .append,#[x,y],#[U,U]⟩,ty,pos,af,g⟩ (fun s=>look s tm)=some true)
 (hk: ∀c' j,n+q<=c'->c'<=maxLen->j.length=(c'-(n+q))*m->dl P ops os ⟨N,(t,.o t (n+q) c')::hJ k tm,(t,e,us++ys++j)::f6 k bx⟩ K):
 dl P ops (⟨some t,.call ⟨.builtin .append,#[x,y],#[U,U]⟩,ty,pos,af,g⟩::os) ⟨N,tm,bx⟩ K:=
 .inr ⟨_,tv (pre:=us) hU hx hy hb (by rw[dc,D,hr,<-iP];congr 1;omega) E hm J R u I (by rw[<-D];simp) hd hg,fun σ' ⟨c',j,h1,h2,W,e⟩=>by subst e;exact hk c' j h1 h2 W⟩
theorem kq 
 (hU:rl P U=some (e,m,by_,zs)) (hx:ck (fun s=>look s tm) x=some .z) (hy:ck (fun s=>look s tm) y=some (.v (.c (.s q ys)))) (D:ys.length=q*m) (I:0<q)
 (u:q*by_<=140737488355328) (E:q<=maxLen) (J:look t bx=none)
 (R:gd ops ⟨some t,.call ⟨.builtin .append,#[x,y],#[U,U]⟩,ty,pos,af,g⟩ (fun s=>look s tm)=some true)
 (hk: ∀c' j,q<=c'->c'<=maxLen->j.length=(c'-q)*m->dl P ops os ⟨N,(t,.o t q c')::tm,(t,e,ys++j)::bx⟩ K):
 dl P ops (⟨some t,.call ⟨.builtin .append,#[x,y],#[U,U]⟩,ty,pos,af,g⟩::os) ⟨N,tm,bx⟩ K:=
 .inr ⟨_,xf hU hx hy D I u E J R,fun σ' ⟨c',j,h1,h2,W,e⟩=>by subst e;exact hk c' j h1 h2 W⟩
theorem dj {T:TF}{B:BF}
 (j:gd ops ⟨dst,.assign (.const (.slice none 0 0)),ty,pos,af,g⟩ T=some true):Sem P ops ⟨dst,.assign (.const (.slice none 0 0)),ty,pos,af,g⟩ T B (.r .z):=
 bK j (fun k e=>by cases e) (fun V β a w hs=>⟨.slice none 0 0,rfl,rfl⟩)
theorem qm {c:Code}(I:look t tm=some .z) (h:Dw P c ⟨N,(t,.v (.c (.s 0 [])))::tm,bx⟩ Q):Dw P c ⟨N,tm,bx⟩ Q:=fun av w0 β a w u=>by obtain⟨v,D,j⟩:=u.sees.tmp t _ trivial I;have j:v=.slice none 0 0:=j;subst j;have E:=u.upd (t:=t) (x:=.v (.c (.s 0 []))) D (.s0 _ _ (by decide)) rfl;refine h av w0 β a w (E.congr (fun s=>?_) (fun _=>rfl));show look s ((t,.v (.c (.s 0 [])))::tm)=_;rw[aO];rfl
theorem m8 {ι:Type}{c:Code}{D:St}(I:ι->St) (u:ι->Nat) (M:Nat)
 (first:Dw P c D (Eb (fun σ'=> ∃j,Sub σ' (I j)/\u j<M) Q)) (round: ∀i,Dw P c (I i) (Eb (fun σ'=> ∃j,Sub σ' (I j)/\u j<u i) Q)):Dw P (.loop c) D Q:=fun av w0 β a w R=>by
 refine bF (ι:=Option ι) (fun i=>match i with|none=>D|some i=>I i) (fun i=>match i with|none=>M|some i=>u i) none ⟨rfl,fun _ _ h=>h,fun _ _ h=>h,R.wf⟩ (fun i=>?_) av w0 β a w R
 cases i with
 |none=>
  refine first.mono fun e σ' h=>?_
  cases e with
  |normal=>obtain⟨j,E,J⟩:=h;exact⟨some j,E,J⟩
  |_=>exact h
 |some i=>
  refine(round i).mono fun e σ' h=>?_
  cases e with
  |normal=>obtain⟨j,E,J⟩:=h;exact⟨some j,E,J⟩
  |_=>exact h
theorem kn (h:us.length=n*m) (j:rest.length=(c-n)*m) (u:n<=c):(us++rest).length=c*m:=by rw[dc,h,j,<-iP];congr 1;omega
theorem gh (h:us.length=n*m):(us++rest).take (n*m)=us:=by rw[<-h];simp
theorem jn (h:n<=1000000):n<=maxLen:=fw h (by decide)
end
section
variable {P:Program}{ops:Array Oper}{T:TF}{B:BF}
theorem nE {ki:IntKind}
 (u:om P U=some m) (W:ck T x=some (.o k n c)) (hh:ck T h=some (.v (.c (.i ki q)))) (R:q<=n) (a0:n<=c) (hg:gd ops ⟨dst,.slice U x (some h) none none,ty,pos,af,g⟩ T=some true):
 Sem P ops ⟨dst,.slice U x (some h) none none,ty,pos,af,g⟩ T B (.r (.w k (if q<c then q*m else 0) (n-q) (c-q))):=
 bK hg (fun k' e=>by
  obtain rfl:k=k':=by injection e
  exact sG (ops:=ops) (o:=⟨dst,.slice U x (some h) none none,ty,pos,af,g⟩) (by simp[Op.operands]) W rfl) (fun V β a w hs=>by
  have e:a.eval x=.slice (some ⟨β k,0,none⟩) n c:=ao hs (x:=x) (by simp[Op.operands]) W;have h2:=fN (ao hs (x:=h) (by simp[Op.operands]) hh);unfold om at u;split at u;case h_2=>cases u
  rename_i el I;cases j:P.info? el with
  |none=>rw[j] at u;cases u
  |some a1=>
   rw[j] at u;simp at u;have E: ∀w,(sizeOf el).run P w=.ok m w:=fun w=>by unfold sizeOf typeInfo;simp[program,Sem.run,j,u]
   refine⟨.slice (some ⟨β k,if q<c then q*m else 0,none⟩) (n-q) (c-q),?_,rfl⟩;by_cases D:q<c
   ·simp[execOp,Instr.sliceAt,Instr.slice,run_underlying I,e,h2,Instr.sliceBounds,Instr.sliceBound,asIntOf,R,E,Addr.add,D,Nat.ne_of_gt D];exact fun h=>h.symm
   ·have J:c=q:=by omega
    simp[execOp,Instr.sliceAt,Instr.slice,run_underlying I,e,h2,Instr.sliceBounds,Instr.sliceBound,asIntOf,R,E,Addr.add,J])
theorem Nb {V L:Nat->Prop}{w:World}{β:Nat->Nat}{a:Act}{off:Nat}(hs:Sees V L T B β a w) (hb:B k=some (U,cs)) (I:(cs.drop off).take (q*m)=ys)
 (D:0<q->off+q*m<=cs.length) (a0:q<=c) (hc:c<=9223372036854775807):RdC (fun x=>V x/\x≠β k) w (.slice (some ⟨β k,off,none⟩) q c) (.s q ys):=by
 obtain⟨hV,W,e,hr⟩:=hs.box k U cs hb
 rcases iS q with h0|h0
 ·subst h0
  rw[<-I];simp
  exact .s0 _ _ hc
 ·have D:=D h0
  have E:Keep V (fun x=>V x/\x≠β k) w w:=⟨Nat.le_refl _,fun _ _ _=>rfl,fun _ _ h=>h.1⟩
  have a2:W.size=cs.length:=by have:=hr.1;simpa using this
  have R:=((hr.drop off).take (q*m)).keep E
  rw[I] at R
  refine .s (β k) off c m q ys (fun j=>W.getD (off+j) undef) h0 a0 hc ?_ (hs.av _ hV) (fun h=>h.2 rfl) (fun j hj=>?_) (fun j u hj=>?_)
  ·grind
  ·rw[bE e]
   have:off+j<W.size:=by omega
   simp[Array.getD,this]
  ·have a1:j<ys.length:=(fb.1 hj).1
   have J:j<q*m:=by grind
   refine R.2 j _ u ?_ hj
   rw[j6,if_pos J,Cj,kj]
   have:off+j<W.size:=by omega
   simp[Array.getD,this]
end
end Go.Proofs.YtegeknjkgadehaaGreat
