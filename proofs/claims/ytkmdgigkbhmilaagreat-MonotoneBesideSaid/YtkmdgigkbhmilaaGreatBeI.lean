/-Package rational. -/
import Derived.Test.YtkmdgigkbhmilaaGreatBeH
namespace Go.Proofs.YtkmdgigkbhmilaaGreat
open Go Go.RowKit
variable {hi lo n r s t:Int}{k:Nat}{p:Prop}{A B C D M N a a1 a2 b b1 b2 c c1 c2 d e f m p1 p2 q1 q2 x y:Rat}
theorem az:type_of% @Rz.sub:=@Rz.sub
theorem aF:type_of% @Rz.mul:=@Rz.mul
theorem eh:type_of% @Rz.add:=@Rz.add
theorem eE:type_of% @Rz.mono:=@Rz.mono
theorem d8:type_of% @Rz.d:=@Rz.d
theorem eF:type_of% @Rz.n:=@Rz.n
theorem gY:type_of% @Rz.int:=@Rz.int
theorem jS:type_of% @Sz.mul:=@Sz.mul
theorem jW:type_of% @Rat.mul_nonneg:=@Rat.mul_nonneg
theorem pB:type_of% @Bool.and_false:=@Bool.and_false
theorem sS:type_of% @Rat.mul_pos:=@Rat.mul_pos
theorem pW:Ok Tryz.prog 79 [dR x] [.c (.i .i64 (aR x 0))]:=by
 refine bU Tryz.func79 rfl ?_
 refine ac rfl (CO) ?_
 refine ai ?_
 rw[←yM]
 exact al ae
theorem dm:Ok Tryz.prog 79 [dR x] [.c (.i .i64 (aR x 0))]:=pW
theorem MC:Ok Tryz.prog 126 [dI n] [dR (n:Rat)]:=by
 refine bU Tryz.func126 rfl ?_
 refine cU 3 [] ?_
 refine aO rfl (FK) ?_
 refine aq (aC (us:=cQ n 1) vE ub rfl rfl rfl) ?_
 refine ai ?_
 rw[I6]
 exact a8 bt rfl ae
theorem CP (h0: -9223372036854775808≤n) (h1:n≤9223372036854775807):Ok Tryz.prog 58 [.c (.i .i64 n)] [dR (n:Rat)]:=by
 refine bU Tryz.func58 rfl<|ac rfl (n9 (by omega) (by omega))<|ac rfl (MC) ?_
 exact ai (a8 bt rfl ae)
theorem lg (h0: -9223372036854775808≤n) (h1:n≤9223372036854775807):Ok Tryz.prog 58 [.c (.i .i64 n)] [dR (n:Rat)]:=CP h0 h1
theorem tc {x y:Int}(hx:Sz 100000000 x) (hy:Sz 100000000 y) (h0:y≠0):Ok Tryz.prog 206 [dI x,dI y] [dI (x.fdiv y)]:=by
 refine bU Tryz.func206 rfl<|ac rfl (sw (gw hx) (gw hy) (by assumption)) ?_
 exact ai (a8 fh rfl ae)
theorem qM {x y:Int}(hx:Sz 19980000 x) (hy:Sz 19980000 y) (h0:y≠0):Ok Tryz.prog 120 [dI x,dI y] [dR (Rat.divInt x y)]:=by
 have hg:=FR (n:=x) h0
 have hg2:=FR (n:= -x) (d:= -y) (by omega)
 have hgs:=Sz.gcd (x:=x) hy h0
 have hgs2:=Sz.gcd (x:= -x) hy.neg (by omega)
 refine bU Tryz.func120 rfl<|ac rfl (CO) ?_
 refine dr rfl (fun hc1=>?_) (fun hc1=>?_)
 ·have hn:=Yz hc1
  refine cU 4 [] ?_
  refine aO rfl (A8 (gw hx)) ?_
  refine aO rfl (A8 (gw hy)) ?_
  refine ac rfl (Lr (gw (Sz.neg hx)) (gw (Sz.neg hy))) ?_
  refine cU 4 [] ?_
  refine aO rfl (FK) ?_
  refine aO rfl (nH) ?_
  refine dr rfl (fun hc2=>?_) (fun hc2=>?_)
  ·refine cU 6 [] ?_
   refine aO rfl (tc (gw (Sz.neg hx)) (Qc) (by first|assumption|exact neg_ne (by assumption)|exact ju (by assumption) (by assumption))) ?_
   refine aO rfl (tc (gw (Sz.neg hy)) (Qc) (by first|assumption|exact neg_ne (by assumption)|exact ju (by assumption) (by assumption))) ?_
   refine ar (aC (us:=cQ ((-x).fdiv ((Int.gcd (-x) (-y):Int))) ((-y).fdiv ((Int.gcd (-x) (-y):Int)))) vE ub rfl rfl rfl) ?_
   refine ai ?_
   rw[I1,Bq (by omega)]
   exact a8 bt rfl ae
  ·refine ar (aC (us:=cQ (-x) (-y)) vE ub rfl rfl rfl) ?_
   refine ai ?_
   rw[I1,AO (by omega) (Y7 hc2)]
   exact a8 bt rfl ae
 ·have hn:=Xa hc1
  refine ac rfl (Lr (gw hx) (gw hy)) ?_
  refine cU 4 [] ?_
  refine aO rfl (FK) ?_
  refine aO rfl (nH) ?_
  refine dr rfl (fun hc3=>?_) (fun hc3=>?_)
  ·refine cU 6 [] ?_
   refine aO rfl (tc (gw hx) (Qc) (by first|assumption|exact neg_ne (by assumption)|exact ju (by assumption) (by assumption))) ?_
   refine aO rfl (tc (gw hy) (Qc) (by first|assumption|exact neg_ne (by assumption)|exact ju (by assumption) (by assumption))) ?_
   refine ar (aC (us:=cQ (x.fdiv (Int.gcd x y:Int)) (y.fdiv (Int.gcd x y:Int))) vE ub rfl rfl rfl) ?_
   refine ai ?_
   rw[Bq (by omega)]
   exact a8 bt rfl ae
  ·refine ar (aC (us:=cQ x y) vE ub rfl rfl rfl) ?_
   refine ai ?_
   rw[AO (by omega) (Y7 hc3)]
   exact a8 bt rfl ae
theorem iS (hx:Rz 6000000 x):Ok Tryz.prog 123 [dR x] [dR (-x)]:=by
 refine bU Tryz.func123 rfl ?_
 refine cU 6 [] ?_
 refine aO rfl (A8 (gw (eF hx))) ?_
 refine aq (aC (us:=cQ (-x.num) (x.den:Int)) vE ub rfl rfl rfl) ?_
 refine ai ?_
 rw[OC (Rat.neg_num x) (congrArg Int.ofNat (Rat.neg_den x))]
 exact a8 bt rfl ae
theorem nW (hx:Rz 6000000 x) (hy:Rz 6000000 y):Ok Tryz.prog 122 [dR x,dR y] [dR (x+y)]:=by
 have hn:=ju (mj x) (mj y)
 have hn1:=mj x
 refine bU Tryz.func122 rfl<|ac rfl (nH) ?_
 refine dr rfl (fun hc1=>?_) (fun hc1=>?_)
 ·refine cU 8 [] ?_
  refine aO rfl (A3 (gw (eF hx)) (gw (eF hy))) ?_
  refine aO rfl (qM (gw (Sz.addm (eF hx) (eF hy))) (gw (d8 hx)) (by first|assumption|exact neg_ne (by assumption)|exact ju (by assumption) (by assumption))) ?_
  refine ai ?_
  rw[←aaJ (XA hc1)]
  exact a8 bt rfl ae
 ·refine cU 17 [] ?_
  refine aO rfl (jV (gw (eF hx)) (gw (d8 hy))) ?_
  refine aO rfl (jV (gw (eF hy)) (gw (d8 hx))) ?_
  refine aO rfl (A3 (gw (jS (eF hx) (d8 hy))) (gw (jS (eF hy) (d8 hx)))) ?_
  refine aO rfl (jV (gw (d8 hx)) (gw (d8 hy))) ?_
  refine aO rfl (qM (gw (Sz.addm (jS (eF hx) (d8 hy)) (jS (eF hy) (d8 hx)))) (gw (jS (d8 hx) (d8 hy))) (by first|assumption|exact neg_ne (by assumption)|exact ju (by assumption) (by assumption))) ?_
  refine ai ?_
  rw[←Th]
  exact a8 bt rfl ae
theorem gU (hx:Rz 6000000 x) (hy:Rz 6000000 y):Ok Tryz.prog 55 [dR x,dR y] [dR (x-y)]:=by
 refine bU Tryz.func55 rfl ?_
 refine cU 4 [] ?_
 refine aO rfl (iS (aW hy)) ?_
 refine aO rfl (nW (aW hx) (aW (Rz.neg hy))) ?_
 refine ai ?_
 rw[Rat.sub_eq_add_neg]
 exact a8 bt rfl ae
theorem dh (hx:Rz 6000000 x) (hy:Rz 6000000 y):Ok Tryz.prog 56 [dR x,dR y] [dR (x*y)]:=by
 have hn:=ju (mj x) (mj y)
 refine bU Tryz.func56 rfl ?_
 refine cU 11 [] ?_
 refine aO rfl (jV (gw (eF hx)) (gw (eF hy))) ?_
 refine aO rfl (jV (gw (d8 hx)) (gw (d8 hy))) ?_
 refine aO rfl (qM (gw (jS (eF hx) (eF hy))) (gw (jS (d8 hx) (d8 hy))) (by first|assumption|exact neg_ne (by assumption)|exact ju (by assumption) (by assumption))) ?_
 refine ai ?_
 rw[←WZ]
 exact a8 bt rfl ae
theorem Cd (hx:Rz 6000000 x) (hy:Rz 6000000 y) (h0:y≠0):Ok Tryz.prog 54 [dR x,dR y] [dR (x/y),.c (.i .i64 0)]:=by
 have hn:=ju (mj x) (Pn h0)
 refine bU Tryz.func54 rfl<|ac rfl (dm) ?_
 refine dr rfl (fun hc1=>?_) (fun hc1=>?_)
 ·exact absurd (E3 hc1) h0
 ·refine cU 11 [] ?_
  refine aO rfl (jV (gw (eF hx)) (gw (d8 hy))) ?_
  refine aO rfl (jV (gw (d8 hx)) (gw (eF hy))) ?_
  refine aO rfl (qM (gw (jS (eF hx) (d8 hy))) (gw (jS (d8 hx) (eF hy))) (by first|assumption|exact neg_ne (by assumption)|exact ju (by assumption) (by assumption))) ?_
  refine ai ?_
  rw[←Yb]
  exact a8 bt rfl (al ae)
theorem oe (hx:Rz 6000000 x) (hy:Rz 6000000 y):Ok Tryz.prog 145 [dR x,dR y] [.c (.i .i64 (aR x y))]:=by
 refine bU Tryz.func145 rfl ?_
 refine cU 6 [] ?_
 refine aO rfl (dm) ?_
 refine aO rfl (dm) ?_
 refine aO rfl (Ee) ?_
 refine dr rfl (fun hc1=>?_) (fun hc1=>?_)
 ·refine ai ?_
  rw[←JW hc1]
  exact al ae
 ·refine cU 12 [] ?_
  refine aO rfl (jV (gw (eF hx)) (gw (d8 hy))) ?_
  refine aO rfl (jV (gw (eF hy)) (gw (d8 hx))) ?_
  refine aO rfl (nH) ?_
  refine ai ?_
  rw[Ii (x:=x) (y:=y)]
  exact al ae
theorem Tw (hx:Rz 300 x) (hy:Rz 300 y):Ok Tryz.prog 145 [dR x,dR y] [.c (.i .i64 (aR x y))]:=oe (hx.mono (by decide)) (hy.mono (by decide))
theorem CJ (hx:Rz 6000000 x):Ok Tryz.prog 281 [dR x] [dI (x.num.fdiv (x.den:Int))]:=by
 have hn1:=mj x
 refine bU Tryz.func281 rfl<|ac rfl (sw (gw (eF hx)) (gw (d8 hx)) (by assumption)) ?_
 exact ai (a8 fh rfl ae)
theorem Eo {x:Int}(hx:Sz 6000000 x):Ok Tryz.prog 210 [dI x] [dI (bK x),.c (.b (CV x))]:=by
 have hs:=Sz.isq hx
 refine bU Tryz.func210 rfl<|ac rfl (F9 (gw hx))<|cU 13 [2,999999] ?_
 refine xi (bp rfl) (fun c1 hb1=>?_)
 cases c1
 ·refine DQ.mk<|i4 (dZ fh rfl) rfl rfl rfl rfl<|dY ?_
  refine ai ?_
  rw[Lu (e7 hb1)]
  exact a8 fh rfl (al ae)
 ·refine aO rfl (jV (gw (Sz.isq hx)) (gw (Sz.isq hx))) ?_
  refine aO rfl (nH) ?_
  refine DQ.mk<|H3 (dZ fh rfl) rfl rfl (by kernel_rfl) rfl<|dY ?_
  refine ai ?_
  rw[KE]
  exact a8 fh rfl (al ae)
theorem DM (hx:Rz 6000000 x):Ok Tryz.prog 124 [dR x] [dQ (if jp x then bK x.num else 0) (if jp x then bK (x.den:Int) else 0),.c (.b (jp x))]:=by
 refine bU Tryz.func124 rfl<|ac rfl (Eo (gw (eF hx))) ?_
 refine dr rfl (fun hc1=>?_) (fun hc1=>?_)
 ·refine ac rfl (Eo (gw (d8 hx))) ?_
  refine dr rfl (fun hc2=>?_) (fun hc2=>?_)
  ·refine ar (aC (us:=cQ (bK x.num) (bK (x.den:Int))) vE ub rfl rfl rfl) ?_
   refine ai ?_
   rw[Vy hc1 hc2,if_pos rfl,if_pos rfl]
   exact a8 bt rfl (al ae)
  ·refine ar (aC (us:=(([.b false]++[.s 0 []])++([.b false]++[.s 0 []]))) vE ub rfl rfl rfl) ?_
   refine ai ?_
   rw[Ot hc2,if_neg (by decide),if_neg (by decide),yx]
   exact a8 bt rfl (al ae)
 ·refine ar (aC (us:=(([.b false]++[.s 0 []])++([.b false]++[.s 0 []]))) vE ub rfl rfl rfl) ?_
  refine ai ?_
  rw[Pf hc1,if_neg (by decide),if_neg (by decide),yx]
  exact a8 bt rfl (al ae)
theorem Gb:Ok Tryz.prog 114 [] [dI 1]:=by
 refine bU Tryz.func114 rfl<|ac rfl (p5 (by omega) (by omega)) ?_
 exact ai (a8 fh rfl ae)
theorem om:Ok Tryz.prog 66 [dR x] [.c (.i .i64 (aR x 0))]:=by
 refine bU Tryz.func66 rfl ?_
 refine ac rfl (xJ) ?_
 refine ai ?_
 rw[←yM]
 exact al ae
theorem ce:Ok Tryz.prog 66 [dR x] [.c (.i .i64 (aR x 0))]:=om
theorem dO (h0: -9223372036854775808≤n) (h1:n≤9223372036854775807):Ok Tryz.prog 46 [.c (.i .i64 n)] [dR (n:Rat)]:=by
 refine bU Tryz.func46 rfl<|ac rfl (p5 (by omega) (by omega))<|ac rfl (Gb) ?_
 refine ar (aC (us:=cQ n 1) vE ub rfl rfl rfl) ?_
 refine ai ?_
 rw[I6]
 exact a8 bt rfl ae
theorem nC (h0: -9223372036854775808≤n) (h1:n≤9223372036854775807):Ok Tryz.prog 46 [.c (.i .i64 n)] [dR (n:Rat)]:=dO h0 h1
theorem qC {x y:Int}(hx:Sz 19980000 x) (hy:Sz 19980000 y) (h0:y≠0):Ok Tryz.prog 116 [dI x,dI y] [dR (Rat.divInt x y)]:=by
 have hg:=FR (n:=x) h0
 have hg2:=FR (n:= -x) (d:= -y) (by omega)
 have hgs:=(Sz.gcd (x:=x) hy h0).mono (l:=20000000) (by decide)
 have hgs2:=(Sz.gcd (x:= -x) hy.neg (by omega)).mono (l:=20000000) (by decide)
 refine bU Tryz.func116 rfl<|ac rfl (xJ) ?_
 refine dr rfl (fun hc1=>?_) (fun hc1=>?_)
 ·have hn:=Yz hc1
  refine cU 4 [] ?_
  refine aO rfl (wh (gw hx)) ?_
  refine aO rfl (wh (gw hy)) ?_
  refine ac rfl (Ff (gw (Sz.neg hx)) (gw (Sz.neg hy))) ?_
  refine ac rfl (ml (gw (Sz.neg hx)) (Qc) (by assumption)) ?_
  refine ac rfl (ml (gw (Sz.neg hy)) (Qc) (by assumption)) ?_
  refine ar (aC (us:=cQ ((-x).fdiv ((Int.gcd (-x) (-y):Int))) ((-y).fdiv ((Int.gcd (-x) (-y):Int)))) vE ub rfl rfl rfl) ?_
  refine ai ?_
  rw[I1,Bq (by omega)]
  exact a8 bt rfl ae
 ·have hn:=Xa hc1
  refine ac rfl (Ff (gw hx) (gw hy))<|ac rfl (ml (gw hx) (Qc) (by assumption))<|ac rfl (ml (gw hy) (Qc) (by assumption))<|ar (aC (us:=cQ (x.fdiv (Int.gcd x y:Int)) (y.fdiv (Int.gcd x y:Int))) vE ub rfl rfl rfl) ?_
  refine ai ?_
  rw[Bq (by omega)]
  exact a8 bt rfl ae
theorem Nv {x y:Int}(hx:Sz 19980000 x) (hy:Sz 19980000 y) (h0:y≠0):Ok Tryz.prog 128 [dI x,dI y] [dR (Rat.divInt x y),.c (.i .i64 0)]:=by
 refine bU Tryz.func128 rfl<|ac rfl (xJ) ?_
 refine dr rfl (fun hc1=>?_) (fun hc1=>?_)
 ·exact absurd (XA hc1) h0
 ·refine ac rfl (qC (gw hx) (gw hy) (by first|assumption|exact neg_ne (by assumption)|exact ju (by assumption) (by assumption))) ?_
  exact ai (a8 bt rfl (al ae))
theorem Mq {d:Int}(h0: -9223372036854775808≤n) (h1:n≤9223372036854775807) (h2: -9223372036854775808≤d) (h3:d≤9223372036854775807) (hd:d≠0):Ok Tryz.prog 49 [.c (.i .i64 n),.c (.i .i64 d)] [dR (Rat.divInt n d)]:=by
 have z1:Sz 19980000 n:=iw (by decide) h0 h1
 have z2:Sz 19980000 d:=iw (by decide) h2 h3
 refine bU Tryz.func49 rfl ?_
 refine dr rfl (fun hc1=>?_) (fun hc1=>?_)
 ·exact absurd (by simpa using hc1) hd
 ·refine ac rfl (p5 (by omega) (by omega))<|ac rfl (p5 (by omega) (by omega)) ?_
  refine ac rfl (qC (Qc) (Qc) (by first|assumption|exact neg_ne (by assumption)|exact ju (by assumption) (by assumption))) ?_
  exact ai (a8 bt rfl ae)
theorem fX (hx:Rz 6000000 x):Ok Tryz.prog 131 [dR x] [dR (-x)]:=by
 refine bU Tryz.func131 rfl ?_
 refine cU 6 [] ?_
 refine aO rfl (wh (gw (eF hx))) ?_
 refine aq (aC (us:=cQ (-x.num) (x.den:Int)) vE ub rfl rfl rfl) ?_
 refine ai ?_
 rw[OC (Rat.neg_num x) (congrArg Int.ofNat (Rat.neg_den x))]
 exact a8 bt rfl ae
theorem ci (hx:Rz 6000000 x) (hy:Rz 6000000 y):Ok Tryz.prog 130 [dR x,dR y] [dR (x+y)]:=by
 have hn:=ju (mj x) (mj y)
 refine bU Tryz.func130 rfl ?_
 refine ac rfl (nJ (gw (eF hx)) (gw (d8 hy))) ?_
 refine ac rfl (nJ (gw (eF hy)) (gw (d8 hx))) ?_
 refine cU 9 [] ?_
 refine aO rfl (AU (gw (jS (eF hx) (d8 hy))) (gw (jS (eF hy) (d8 hx)))) ?_
 refine aO rfl (nJ (gw (d8 hx)) (gw (d8 hy))) ?_
 refine aO rfl (qC (gw (Sz.addm (jS (eF hx) (d8 hy)) (jS (eF hy) (d8 hx)))) (gw (jS (d8 hx) (d8 hy))) (by first|assumption|exact neg_ne (by assumption)|exact ju (by assumption) (by assumption))) ?_
 refine ai ?_
 rw[←Th]
 exact a8 bt rfl ae
theorem gN (hx:Rz 6000000 x) (hy:Rz 6000000 y):Ok Tryz.prog 62 [dR x,dR y] [dR (x-y)]:=by
 refine bU Tryz.func62 rfl ?_
 refine cU 4 [] ?_
 refine aO rfl (fX (aW hy)) ?_
 refine aO rfl (ci (aW hx) (aW (Rz.neg hy))) ?_
 refine ai ?_
 rw[Rat.sub_eq_add_neg]
 exact a8 bt rfl ae
theorem cb (hx:Rz 6000000 x) (hy:Rz 6000000 y):Ok Tryz.prog 63 [dR x,dR y] [dR (x*y)]:=by
 have hn:=ju (mj x) (mj y)
 refine bU Tryz.func63 rfl ?_
 refine cU 11 [] ?_
 refine aO rfl (nJ (gw (eF hx)) (gw (eF hy))) ?_
 refine aO rfl (nJ (gw (d8 hx)) (gw (d8 hy))) ?_
 refine aO rfl (qC (gw (jS (eF hx) (eF hy))) (gw (jS (d8 hx) (d8 hy))) (by first|assumption|exact neg_ne (by assumption)|exact ju (by assumption) (by assumption))) ?_
 refine ai ?_
 rw[←WZ]
 exact a8 bt rfl ae
theorem lv (hx:Rz 6000000 x) (hy:Rz 6000000 y) (h0:y≠0):Ok Tryz.prog 61 [dR x,dR y] [dR (x/y),.c (.i .i64 0)]:=by
 have hn:=ju (mj x) (Pn h0)
 refine bU Tryz.func61 rfl ?_
 refine cU 13 [] ?_
 refine aO rfl (nJ (gw (eF hx)) (gw (d8 hy))) ?_
 refine aO rfl (nJ (gw (d8 hx)) (gw (eF hy))) ?_
 refine aO rfl (Nv (gw (jS (eF hx) (d8 hy))) (gw (jS (d8 hx) (eF hy))) (by first|assumption|exact neg_ne (by assumption)|exact ju (by assumption) (by assumption))) ?_
 refine ai ?_
 rw[←Yb]
 exact a8 bt rfl (al ae)
theorem jl (hx:Rz 6000000 x) (hy:Rz 6000000 y):Ok Tryz.prog 67 [dR x,dR y] [.c (.i .i64 (aR x y))]:=by
 refine bU Tryz.func67 rfl ?_
 refine cU 12 [] ?_
 refine aO rfl (nJ (gw (eF hx)) (gw (d8 hy))) ?_
 refine aO rfl (nJ (gw (eF hy)) (gw (d8 hx))) ?_
 refine aO rfl (Ks (gw (jS (eF hx) (d8 hy))) (gw (jS (eF hy) (d8 hx)))) ?_
 refine ai ?_
 rw[Ii (x:=x) (y:=y)]
 exact al ae
theorem kS (hx:Rz 6000000 x):Ok Tryz.prog 243 [dR x] [dI (x.num.fdiv (x.den:Int))]:=by
 have hn1:=mj x
 refine bU Tryz.func243 rfl<|ac rfl (ml (gw (eF hx)) (gw (d8 hx)) (by assumption)) ?_
 exact ai (a8 fh rfl ae)
theorem Dn {x:Int}(hx:Sz 6000000 x):Ok Tryz.prog 138 [dI x] [dI (bK x),.c (.b (CV x))]:=by
 have hs:=Sz.isq hx
 refine bU Tryz.func138 rfl<|ac rfl (uN (gw hx))<|cU 12 [2,999999] ?_
 refine xi (bp rfl) (fun c1 hb1=>?_)
 cases c1
 ·refine DQ.mk<|i4 (dZ fh rfl) rfl rfl rfl rfl<|dY ?_
  refine ai ?_
  rw[Lu (e7 hb1)]
  exact a8 fh rfl (al ae)
 ·refine aO rfl (nJ (gw (Sz.isq hx)) (gw (Sz.isq hx))) ?_
  refine aO rfl (xK (gw (jS (Sz.isq hx) (Sz.isq hx))) (gw hx)) ?_
  refine DQ.mk<|H3 (dZ fh rfl) rfl rfl (by kernel_rfl) rfl<|dY ?_
  refine ai ?_
  rw[show CV x=(bK x*bK x==x) from rfl]
  exact a8 fh rfl (al ae)
theorem rK (hx:Rz 6000000 x):Ok Tryz.prog 71 [dR x] [dQ (if jp x then bK x.num else 0) (if jp x then bK (x.den:Int) else 0),.c (.b (jp x))]:=by
 refine bU Tryz.func71 rfl<|ac rfl (Dn (gw (eF hx)))<|ac rfl (Dn (gw (d8 hx))) ?_
 refine kT (bp rfl) (fun c1 hb1=>?_)
 cases c1
 ·refine dr rfl (fun hc2=>?_) (fun hc2=>?_)
  ·refine ar (aC (us:=(([.b false]++[.s 0 []])++([.b false]++[.s 0 []]))) vE ub rfl rfl rfl) ?_
   refine ai ?_
   rw[Ot (by simpa using hc2),if_neg (by decide),if_neg (by decide),yx]
   exact a8 bt rfl (al ae)
  ·refine ar (aC (us:=cQ (bK x.num) (bK (x.den:Int))) vE ub rfl rfl rfl) ?_
   refine ai ?_
   rw[Vy (by simpa using hb1) (by simpa using hc2),if_pos rfl,if_pos rfl]
   exact a8 bt rfl (al ae)
 ·refine oC rfl<|ar (aC (us:=(([.b false]++[.s 0 []])++([.b false]++[.s 0 []]))) vE ub rfl rfl rfl) ?_
  refine ai ?_
  rw[Pf (by simpa using hb1),if_neg (by decide),if_neg (by decide),yx]
  exact a8 bt rfl (al ae)
theorem MW (hx:Rz 6000000 x) (hy:Rz 6000000 y):Ok Tryz.prog 65 [dR x,dR y] [.c (.b (decide (x=y)))]:=by
 refine bU Tryz.func65 rfl ?_
 refine ac rfl (xK (gw (eF hx)) (gw (eF hy))) ?_
 refine kT (bp rfl) (fun c1 hb1=>?_)
 cases c1
 ·refine ai ?_
  rw[Wi hb1]
  exact al ae
 ·refine ac rfl (xK (gw (d8 hx)) (gw (d8 hy)))<|ai ?_
  rw[Yx hb1]
  exact al ae
theorem Ce (hx:Rz 300 x) (hy:Rz 300 y):Ok Tryz.prog 65 [dR x,dR y] [.c (.b (decide (x=y)))]:=MW (hx.mono (by decide)) (hy.mono (by decide))
theorem M5 {neg:Bool}{xs:List Int}(hb:TJ xs) (hn:xs.length≤10000000):Ok Tryz.prog 136 [.a (([.b neg]++[cM xs]))] [.c (.b (vI neg xs))]:=by
 refine bU Tryz.func136 rfl ?_
 refine DW.mk<|bF (ι:={k:Nat // k≤xs.length∧ ∀j,j<k→xs.getD j 0<1000000000}) (fun i=>⟨36,[(1,.p 1 0),(3,.v (.c (.i .i64 (i.1:Int))))],[(1,33,([.b neg]++[cM xs]))]⟩) (fun i=>xs.length-i.1) ⟨0,iH _,fun j hj=>by omega⟩ (aB ⟨rfl,rfl,trivial⟩ ⟨rfl,trivial⟩ rfl) ?_
 rintro⟨k,hk0,hall⟩
 replace hk0:k≤xs.length:=hk0
 replace hall: ∀j,j<k→xs.getD j 0<1000000000:=hall
 have hg:=NM hb k
 dsimp only
 refine nF ?_
 refine dr rfl (fun hc1=>?_) (fun hc1=>?_)
 ·have hk:k<xs.length:=by simp only[decide_eq_true_eq] at hc1;omega
  refine ar (bJ jv rfl rfl (by omega) (jM _) rfl rfl) ?_
  refine ar (dd fY rfl (ll (i:=k) (by omega)) rfl) ?_
  refine dr rfl (fun hc2=>?_) (fun hc2=>?_)
  ·have hbad:xs.getD k 0≥1000000000:=by simpa using hc2
   refine ai ?_
   rw[W5 hk hbad]
   exact al ae
  ·have hok: ¬xs.getD k 0≥1000000000:=by simpa using hc2
   have hstep: ∀j,j<k+1→xs.getD j 0<1000000000:=fun j hj=>by
    rcases qt j k with h1|h1
    ·exact hall j h1
    ·rw[show j=k from by omega];omega
   refine ar (cr ((k:Int)+1) (bL (by omega) (by omega)) rfl) ?_
   exact⟨⟨k+1,hk,hstep⟩,aB ⟨rfl,by rw[show((k+1:Nat):Int)=(k:Int)+1 from by omega];rfl,trivial⟩ ⟨rfl,trivial⟩ rfl,by show xs.length-(k+1)<xs.length-k;omega⟩
 ·have hk:k=xs.length:=by simp only[decide_eq_false_iff_not] at hc1;omega
  have hL:Lim xs:=JG hb (by rw[←hk];exact hall)
  refine cU 20 [] ?_
  refine aO rfl (lF hL (by omega)) ?_
  refine xi (bp rfl) (fun c3 hb3=>?_)
  cases c3
  ·refine DQ.mk<|sP (pk rfl)<|dY ?_
   refine ai ?_
   rw[J0 hL,hb3,rW]
   exact al ae
  ·refine xi (bp rfl) (fun c4 hb4=>?_)
   cases c4
   ·refine ai ?_
    rw[J0 hL,hb3,hb4,Bool.false_or,jH]
    exact al ae
   ·refine ai ?_
    rw[J0 hL,hb3,hb4,Bool.true_or,jH]
    exact al ae
def vQ (x y:Int):Bool:=decide (0<y)&&(((Int.gcd x y:Nat):Int)==1)
theorem abQ {x:Int}:vI (decide (x<0)) (dG x.natAbs)=true:=by
 unfold vI
 rw[BU (bZ _),show trm (dG x.natAbs)=dG x.natAbs from jw _]
 by_cases h:x<0
 ·have:dG x.natAbs≠ []:=fun e=>by have:=e8.1 e;omega
  have:=List.length_pos_iff.2 this
  grind
 grind
theorem Us (v:Nat):TJ (dG v):=fun x hx=>by have:=bZ v x hx;omega
theorem H2 {x:Int}(hx:Sz 10000000 x):Ok Tryz.prog 136 [dI x] [.c (.b true)]:=by
 have:=M5 (neg:=decide (x<0)) (xs:=dG x.natAbs) (Us _) (iA hx)
 rw[abQ] at this;exact this
theorem acT {x y:Int}(h:vQ x y=true):cQ x y=cR (Rat.divInt x y):=by
 unfold vQ at h
 simp only[dT,decide_eq_true_eq,beq_iff_eq] at h
 have:=AO (n:=x) h.1 h.2
 unfold dR dQ at this
 injection this with this
 exact this.symm
theorem Z7 (x:Rat):vQ x.num (x.den:Int)=true:=by
 unfold vQ
 simp only[dT,decide_eq_true_eq,beq_iff_eq]
 refine⟨den_pos x,?_⟩
 have:Int.gcd x.num (x.den:Int)=1:=x.reduced
 grind
theorem QS {x y:Int}(h:vQ x y=true):(Rat.divInt x y).num=x∧((Rat.divInt x y).den:Int)=y:=by
 unfold vQ at h
 simp only[dT,decide_eq_true_eq,beq_iff_eq] at h
 obtain⟨h1,h2⟩:=h
 have h3:Int.gcd x y=1:=by omega
 rw[Rat.num_divInt,Rat.den_divInt,if_neg (by omega),Int.sign_eq_one_of_pos h1,m8,Int.gcd_comm y x,h3]
 grind
theorem Zg {x y:Int}(h:(eL y 0 !=1)=true):vQ x y=false:=by
 unfold vQ
 have h1: ¬0<y:=fun e=>by rw[fF e] at h;cases h
 grind
theorem aa1 {y:Int}(h:(eL y 0 !=1)=false):y≠0:=fun e=>by rw[kQ e] at h;cases h
theorem aaW {x y:Int}(h:(eL y 0 !=1)=false):vQ x y=(((Int.gcd x y:Nat):Int)==1):=by
 unfold vQ
 have h1:0<y:=by
  rcases qJ y 0 with e|e|e
  ·rw[fy e] at h;cases h
  ·rw[kQ e] at h;cases h
  grind
 grind
def zc (b c:Rat):Rat:=if b=0 then 0 else c
def Sd (b1 b2 c:Rat):Rat:=if b1=0∧b2=0 then 0 else c
theorem u3 (h:b=0):zc b c=0:=by unfold zc;rw[if_pos h]
theorem iD (h:b≠0):zc b c=c:=by unfold zc;rw[if_neg h]
theorem Vg (h:b1=0) (h2:b2=0):Sd b1 b2 c=0:=by unfold Sd;rw[if_pos ⟨h,h2⟩]
theorem WL (h:b1≠0):Sd b1 b2 c=c:=by unfold Sd;rw[if_neg (fun e=>h e.1)]
theorem XU (h:b2≠0):Sd b1 b2 c=c:=by unfold Sd;rw[if_neg (fun e=>h e.2)]
theorem t8 (h:(aR x 0==0)=true):x=0:=E3 h
theorem qa (h:(aR x 0==0)=false):x≠0:=fun e=>by rw[pT.2 e] at h;cases h
theorem Vb (h:(aR x y !=0)=true):x≠y:=fun e=>by rw[pT.2 e] at h;cases h
theorem Lj:(0:Rat)=((0:Int):Rat):=rfl
def Qy (b1 c1 b2 c2:Rat):Prop:=b1≠0∧b2≠0∧c1≠c2
def cc (b1 c1 c2:Rat):Rat:=if b1=0 then c2 else c1
theorem HJ (h:b1=0):cc b1 c1 c2=c2:=by unfold cc;rw[if_pos h]
theorem xn (h:b1≠0):cc b1 c1 c2=c1:=by unfold cc;rw[if_neg h]
def xE (b c:Rat):Bool:=if b=0∨c=0 then decide (b=0∧c=0) else decide (0<c)&& !jp c
def Ax (b1 b2 c:Rat):Bool:=if b1=0∧b2=0 then decide (c=0) else decide (0<c)&& !jp c
theorem Zc:(aR x 0==0)=decide (x=0):=by rw[Bool.eq_iff_iff,beq_iff_eq,decide_eq_true_eq,pT]
theorem aaw:decide (aR x 0>0)=decide (0<x):=by rw[Bool.eq_iff_iff,decide_eq_true_eq,decide_eq_true_eq];exact uI
def B3 (a b c d e f:Rat):Bool:=decide (a=d)&&(decide (b=e)&&decide (c=f))
theorem To (h:(aR b 0==0)=true):xE b c=(aR c 0==0):=by
 have:=t8 h
 unfold xE;rw[if_pos (.inl this),Zc,Bool.eq_iff_iff,decide_eq_true_eq,decide_eq_true_eq]
 grind
theorem TU (h:(aR b 0==0)=false) (h2:(aR c 0==0)=true):xE b c=false:=by
 unfold xE;rw[if_pos (.inr (t8 h2)),decide_eq_false_iff_not]
 grind
theorem KO (h:(aR b 0==0)=false) (h2:(aR c 0==0)=false):xE b c=(decide (aR c 0>0)&& !jp c):=by
 unfold xE;rw[if_neg (fun e=>e.elim (qa h) (qa h2)),aaw]
def zP:List CellD:=[.b false,.s 0 [],.b false,.s 0 [],.b false,.s 0 [],.b false,.s 0 [],.b false,.s 0 [],.b false,.s 0 [],.b false,.s 0 [],.b false,.s 0 [],.b false,.s 0 [],.b false,.s 0 []]
theorem UG {x y:Int}(hx:Sz 5000000 x) (hy:Sz 5000000 y):Ok Tryz.prog 70 [dQ x y] [.c (.b (vQ x y))]:=by
 have hx1:Sz 10000000 x:=hx.m_
 have hy1:Sz 10000000 y:=hy.m_
 refine bU Tryz.func70 rfl ?_
 refine ac rfl (H2 (by assumption)) ?_
 refine ar (bp rfl) ?_
 refine ac rfl (H2 (by assumption)) ?_
 refine ar (bp rfl) ?_
 refine ac rfl (xJ) ?_
 refine dr rfl (fun hc1=>?_) (fun hc1=>?_)
 ·refine ai ?_
  rw[Zg hc1]
  exact al ae
 ·have hgc:Sz 100000000 ((Int.gcd x y:Nat):Int):=(Sz.gcd (x:=x) hy (aa1 hc1)).m_
  refine ac rfl (Ff (gw hx) (gw hy))<|ac rfl (Gb) ?_
  refine ac rfl (xK (Qc) (gw (iw (k:=3) (by decide) (by decide) (by decide))))<|ai ?_
  rw[aaW hc1]
  exact al ae
theorem Cl (hx:Rz 5000000 x):Ok Tryz.prog 70 [dR x] [.c (.b true)]:=by
 have:=UG hx.n hx.d
 rw[Z7] at this;exact this
theorem Dq:Ok Tryz.prog 221 [] [dR 0]:=by
 refine bU Tryz.func221 rfl ?_
 refine ac rfl (CP (by omega) (by omega)) ?_
 refine ai ?_
 rw[Lj]
 exact a8 bt rfl ae
theorem BN:Ok Tryz.prog 144 [dR a,dR b,dR c] [.a ((cR a++cR b++cR (zc b c)))]:=by
 refine bU Tryz.func144 rfl<|ac rfl (pW) ?_
 refine dr rfl (fun hc1=>?_) (fun hc1=>?_)
 ·refine ac rfl (Dq) ?_
  refine ar (aC (us:=(cR a++cR b++cR 0)) rG p6 rfl rfl rfl) ?_
  refine ai ?_
  rw[u3 (t8 hc1)]
  exact a8 ez rfl ae
 ·refine ar (aC (us:=(cR a++cR b++cR c)) rG p6 rfl rfl rfl) ?_
  refine ai ?_
  rw[iD (qa hc1)]
  exact a8 ez rfl ae
theorem mq:Ok Tryz.prog 75 [.a ((cR a1++cR b1++cR a2++cR b2++cR c))] [.a ((cR a1++cR b1++cR (zc b1 c)))]:=by
 refine bU Tryz.func75 rfl<|ac rfl (BN) ?_
 exact ai (a8 ez rfl ae)
theorem rd:Ok Tryz.prog 77 [.a ((cR a1++cR b1++cR a2++cR b2++cR c))] [.a ((cR a2++cR b2++cR (zc b2 c)))]:=by
 refine bU Tryz.func77 rfl<|ac rfl (BN) ?_
 exact ai (a8 ez rfl ae)
theorem se:Ok Tryz.prog 289 [.a ((cR a1++cR b1++cR a2++cR b2++cR c))] [.a ((cR a1++cR b1++cR a2++cR b2++cR (Sd b1 b2 c)))]:=by
 refine bU Tryz.func289 rfl<|ac rfl (pW) ?_
 refine kT (bp rfl) (fun c1 hb1=>?_)
 cases c1
 ·refine mi rfl<|ai ?_
  rw[WL (qa hb1)]
  exact a8 bv rfl ae
 ·refine ac rfl (pW) ?_
  refine dr rfl (fun hc2=>?_) (fun hc2=>?_)
  ·refine ac rfl (Dq) ?_
   refine jF (bm (us:=(cR a1++cR b1++cR a2++cR b2++cR 0)) bt rfl rfl rfl rfl (dV rfl) rfl rfl) ?_
   refine ai ?_
   rw[Vg (t8 hb1) (t8 hc2)]
   exact a8 bv rfl ae
  ·refine ai ?_
   rw[XU (qa hc2)]
   exact a8 bv rfl ae
theorem y4:Ok Tryz.prog 115 [] [dR 0]:=by
 refine bU Tryz.func115 rfl ?_
 refine ac rfl (dO (by omega) (by omega)) ?_
 refine ai ?_
 rw[Lj]
 exact a8 bt rfl ae
theorem DS:Ok Tryz.prog 69 [] [dR 0]:=by
 refine bU Tryz.func69 rfl ?_
 refine ac rfl (dO (by omega) (by omega)) ?_
 refine ai ?_
 rw[Lj]
 exact a8 bt rfl ae
theorem kZ:Ok Tryz.prog 17 [dR a] [.a ((cR a++cR 0++cR 0))]:=by
 refine bU Tryz.func17 rfl ?_
 refine cU 4 [] ?_
 refine aO rfl (DS) ?_
 refine aO rfl (DS) ?_
 refine aq (aC (us:=(cR a++cR 0++cR 0)) rG p6 rfl rfl rfl) ?_
 exact ai (a8 ez rfl ae)
theorem Bt:Ok Tryz.prog 97 [dR a,dR b,dR c] [.a ((cR a++cR b++cR (zc b c)))]:=by
 refine bU Tryz.func97 rfl<|ac rfl (om) ?_
 refine dr rfl (fun hc1=>?_) (fun hc1=>?_)
 ·refine ac rfl (kZ) ?_
  have e:=t8 hc1
  subst e
  refine ai ?_
  rw[u3 rfl]
  exact a8 ez rfl ae
 ·refine ar (aC (us:=(cR a++cR b++cR c)) rG p6 rfl rfl rfl) ?_
  refine ai ?_
  rw[iD (qa hc1)]
  exact a8 ez rfl ae
theorem jt:Ok Tryz.prog 33 [.a ((cR a1++cR b1++cR a2++cR b2++cR c))] [.a ((cR a1++cR b1++cR (zc b1 c)))]:=by
 refine bU Tryz.func33 rfl<|ac rfl (Bt) ?_
 exact ai (a8 ez rfl ae)
theorem zY:Ok Tryz.prog 82 [.a ((cR a1++cR b1++cR a2++cR b2++cR c))] [.a ((cR a2++cR b2++cR (zc b2 c)))]:=by
 refine bU Tryz.func82 rfl<|ac rfl (Bt) ?_
 exact ai (a8 ez rfl ae)
theorem o4 {v w:Rat}:Ok Tryz.prog 47 [.a ((cR v++cR w))] [.a ((cR v++cR 0++cR w++cR 0++cR 0))]:=by
 refine fD Tryz.func47 11 [.cell 2 46] rfl<|aa<|ah<|aa<|lq 8 rfl rfl<|dU 1<|bH (ji (cR v) bt rfl)<|bH (dt rfl (y4))<|dU 1<|bH (ji (cR w) bt rfl)<|bH (dt rfl (y4))<|bH (dt rfl (y4))<|bH (aC (us:=(cR v++cR 0++cR w++cR 0++cR 0)) Mr FF rfl rfl rfl) ?_
 refine kj<|dz<|fN<|bb ?_
 exact ai (a8 bv rfl ae)
def wO (x:Int):Bool:=decide (-9223372036854775808≤x)&&decide (x≤9223372036854775807)
theorem V9 {x:Int}(h:x< -9223372036854775808):wO x=false:=by unfold wO;rw[decide_eq_false (by omega)];rfl
theorem X2 {x:Int}(h:9223372036854775807<x):wO x=false:=by unfold wO;rw[decide_eq_false (p:=x≤9223372036854775807) (by omega),pB]
theorem RR {x:Int}(h: ¬x< -9223372036854775808) (h2: ¬9223372036854775807<x):wO x=true:=by unfold wO;rw[decide_eq_true (by omega),decide_eq_true (by omega)];rfl
theorem Ui {x:Int}:wO x=true↔ -9223372036854775808≤x∧x≤9223372036854775807:=by unfold wO;simp
theorem XM (h0:1≤r) (h1:r≤9223372036854775808):IntKind.u64.wrap (0-r)=18446744073709551616-r:=by unfold IntKind.wrap;simp[IntKind.bits,IntKind.signed];omega
theorem XX (h0:1≤r) (h1:r≤9223372036854775808):IntKind.i64.wrap (18446744073709551616-r)= -r:=by unfold IntKind.wrap;simp[IntKind.bits,IntKind.signed];omega
theorem wH [Decidable p] (h:decide p=true):p:=by simpa using h
theorem oK [Decidable p] (h:decide p=false): ¬p:=by simpa using h
theorem dW {b:Bool}(h:(!b)=false):b=true:=by simpa using h
theorem ia {b:Bool}(h:(!b)=true):b=false:=by simpa using h
def uH (lo hi:Int):Bool:=decide (-2305843009213693952≤lo)&&decide (hi≤2305843009213693952)
theorem ZX (h:lo< -2305843009213693952):uH lo hi=false:=by unfold uH;rw[decide_eq_false (by omega)];rfl
theorem aan (h:hi>2305843009213693952):uH lo hi=false:=by unfold uH;rw[decide_eq_false (p:=hi≤2305843009213693952) (by omega),pB]
theorem Vn (h: ¬lo< -2305843009213693952) (h2: ¬hi>2305843009213693952):uH lo hi=true:=by unfold uH;rw[decide_eq_true (by omega),decide_eq_true (by omega)];rfl
def jI (a:Rat):Int:=(a*((65536:Int):Rat)).num.fdiv ((a*((65536:Int):Rat)).den:Int)
def jo (a:Rat):Int:= -((-(a*((65536:Int):Rat))).num.fdiv ((-(a*((65536:Int):Rat))).den:Int))
def iV (a:Rat):Bool:=wO (jI a)&&(wO (jo a)&&uH (jI a) (jo a))
theorem y8 {x:Int}(hx:Sz 100000000 x):Ok Tryz.prog 280 [dI x] [.c (.i .i64 (if wO x then x else 0)),.c (.b (wO x))]:=by
 refine fD Tryz.func280 39 [.tmp 2,.tmp 3] rfl ?_
 refine aa ?_
 refine ah ?_
 refine aa ?_
 refine aa ?_
 refine di 10 [] ?_
 refine aO rfl (n9 (by omega) (by omega)) ?_
 refine aO rfl (nH) ?_
 refine xi (bp rfl) (fun c1 hb1=>?_)
 cases c1
 ·refine aO rfl (n9 (by omega) (by omega))<|aO rfl (nH) ?_
  refine aX rfl (fun hc2=>?_) (fun hc2=>?_)
  ·refine aa<|ah<|bb ?_
   rw[X2 (abG hc2),if_neg (by decide)]
   exact ai (al (al ae))
  ·have hlo:=Xa hb1
   have hhi:=abB hc2
   have hln:=iA hx
   refine aJ<|aa<|ah<|aa<|aa<|ah ?_
   refine ar (cr ((((dG x.natAbs).length:Int))-1) (bT (by(first|omega|(simp;omega))) (by(first|omega|(simp;omega)))) rfl) ?_
   refine aT<|bF (ι:={t:Nat×Int // ShInv (dG x.natAbs) t.1 t.2}) (fun i=>⟨39,[(1,.p 1 0),(4,.v (.c (.i .u64 i.1.2))),(5,.v (.c (.i .i64 ((i.1.1:Int)-1))))],[(1,33,cI x)]⟩) (fun i=>i.1.1) ⟨((dG x.natAbs).length,0),⟨Nat.le_refl _,mV 0,by rw[tI];simp⟩⟩ (aB ⟨rfl,rfl,rfl,trivial⟩ ⟨rfl,trivial⟩ rfl) ?_
   rintro⟨⟨j,r⟩,hI⟩
   replace hI:ShInv (dG x.natAbs) j r:=hI
   have g5:=hI.le
   have g3:=hI.r0
   have g4:=hI.bound (bZ _)
   rw[cm] at g4
   show Dw _ _ ⟨39,[(1,.p 1 0),(4,.v (.c (.i .u64 r))),(5,.v (.c (.i .i64 ((j:Int)-1))))],[(1,33,cI x)]⟩ _
   refine aa<|aa<|ah ?_
   refine aX rfl (fun hc3=>?_) (fun hc3=>?_)
   ·obtain⟨q,rfl⟩: ∃q,j=q+1:=⟨j-1,by have:=wH hc3;omega⟩
    have hS:=hI.step (bZ _)
    have hB:=hS.bound (bZ _)
    have g1:=dH (bZ x.natAbs) q
    rw[cm] at hB
    refine qu (σ':=⟨39,[(1,.p 1 0),(4,.v (.c (.i .u64 r))),(5,.v (.c (.i .i64 (q:Int))))],[(1,33,cI x)]⟩) (aB ⟨rfl,rfl,by rw[show(q:Int)=((q+1:Nat):Int)-1 from by omega];rfl,trivial⟩ ⟨rfl,trivial⟩ rfl) ?_
    refine aJ<|aa<|aT<|ah ?_
    refine ar (cr (r*1000000000) (iT (by(first|omega|(simp;omega))) (by(first|omega|(simp;omega)))) rfl) ?_
    refine ar (bJ jv rfl rfl (by(first|omega|(simp;omega))) (jM _) rfl rfl) ?_
    refine ar (dd fY rfl (ll (i:=q) (by(first|omega|(simp;omega)))) rfl) ?_
    refine ar (cS (r:=(dG x.natAbs).getD q 0) jR gh rfl (jk (by(first|omega|(simp;omega))) (by(first|omega|(simp;omega)))) rfl) ?_
    refine ar (cr ((r*1000000000)+((dG x.natAbs).getD q 0)) (gy (by(first|omega|(simp;omega))) (by(first|omega|(simp;omega)))) rfl) ?_
    refine ah ?_
    refine ar (cr ((q:Int)-1) (bT (by(first|omega|(simp;omega))) (by(first|omega|(simp;omega)))) rfl) ?_
    exact⟨⟨(q,r*1000000000+(dG x.natAbs).getD q 0),hS⟩,aB ⟨rfl,rfl,rfl,trivial⟩ ⟨rfl,trivial⟩ rfl,by show q<q+1;omega⟩
   ·have hz:j=0:=by have:=oK hc3;omega
    have hfin:(x.natAbs:Int)=r:=by subst hz;have:=hI.v;rw[cm] at this;simp[val,sI] at this;omega
    refine bG<|aa<|aa<|ah ?_
    refine aX rfl (fun hc4=>?_) (fun hc4=>?_)
    ·have hn:=wH hc4
     refine ah<|ar (fG (r:=18446744073709551616-r) rfl (XM (by omega) (by omega)) rfl) ?_
     refine aa<|ah ?_
     refine ar (cS (r:=x) gh C9 rfl (by rw[XX (by omega) (by omega)];omega) rfl) ?_
     refine bb ?_
     rw[RR hlo hhi,if_pos rfl]
     exact ai (al (al ae))
    ·have hn:=oK hc4
     refine aJ<|aa<|ah ?_
     refine ar (cS (r:=x) gh C9 rfl (by rw[←hfin];rw[sG (by omega) (by omega)];omega) rfl) ?_
     refine bb ?_
     rw[RR hlo hhi,if_pos rfl]
     exact ai (al (al ae))
 ·refine cO rfl<|aa<|ah<|bb ?_
  rw[V9 (Yz hb1),if_neg (by decide)]
  exact ai (al (al ae))
theorem sE {x y:Int}:Ok Tryz.prog 282 [.c (.i .i64 x),.c (.i .i64 y)] [.a (([.i .i64 (if uH x y then x else 0)]++[.i .i64 (if uH x y then y else 0)])),.c (.b (uH x y))]:=by
 refine bU Tryz.func282 rfl ?_
 refine kT (bp rfl) (fun c1 hb1=>?_)
 cases c1
 ·refine dr rfl (fun hc2=>?_) (fun hc2=>?_)
  ·refine ar (aC (us:=([.i .i64 0]++[.i .i64 0])) oR oa rfl rfl rfl) ?_
   refine ai ?_
   rw[aan (wH hc2),if_neg (by decide),if_neg (by decide)]
   exact a8 i6 rfl (al ae)
  ·refine ar (aC (us:=([.i .i64 x]++[.i .i64 y])) oR oa rfl rfl rfl) ?_
   refine ai ?_
   rw[Vn (oK hb1) (oK hc2),if_pos rfl,if_pos rfl]
   exact a8 i6 rfl (al ae)
 ·refine oC rfl<|ar (aC (us:=([.i .i64 0]++[.i .i64 0])) oR oa rfl rfl rfl) ?_
  refine ai ?_
  rw[ZX (wH hb1),if_neg (by decide),if_neg (by decide)]
  exact a8 i6 rfl (al ae)
def pj (s t c:Int):Int:=if t=0∨s=t then s else if s=0 then t else s*c
def bi (a b m:Rat):Int:=pj (aR a 0) (aR b 0*aR m 0) (aR (a*a) (b*b*m))
def DF (A B C D M N:Rat):Rat:=A*A+B*B*M-N*(C*C+D*D*M)
def wG (A B C D N:Rat):Rat:=A*B-N*(C*D)
def jm (A B C D M N:Rat):Int:=if M<0∨N<0 then 0 else pj (bi A B M) (bi C D M*aR N 0) (bi (DF A B C D M N) (wG A B C D N+wG A B C D N) M)
theorem yu {c:Int}(h:(s==0)=true):pj s t c=t:=by
 unfold pj
 grind
theorem yb {c:Int}(h:(t==0)=true):pj s t c=s:=by
 have h:t=0:=by grind
 unfold pj;rw[if_pos (.inl h)]
theorem yp {c:Int}(h:(s==t)=true):pj s t c=s:=by
 have h:s=t:=by grind
 unfold pj;rw[if_pos (.inr h)]
theorem yc {c:Int}(h1:(s==0)=false) (h2:(t==0)=false) (h3:(s==t)=false):pj s t c=s*c:=by
 have h1:s≠0:=by grind
 have h2:t≠0:=by grind
 have h3:s≠t:=by grind
 unfold pj;rw[if_neg (by omega),if_neg h1]
theorem dK (x y:Rat): -1≤aR x y∧aR x y≤1:=by
 unfold aR
 split
 ·omega
 ·split<;>omega
theorem gJ (h: -1≤s∧s≤1) (h': -1≤t∧t≤1): -1≤s*t∧s*t≤1:=by
 have hs:s= -1∨s=0∨s=1:=by omega
 grind
theorem K9 {c:Int}(h: -1≤s∧s≤1) (h': -1≤t∧t≤1) (h2: -1≤c∧c≤1): -1≤pj s t c∧pj s t c≤1:=by
 unfold pj
 split
 ·exact h
 ·split
  ·grind
  ·exact gJ h h2
theorem iE (a b m:Rat): -1≤bi a b m∧bi a b m≤1:=K9 (dK _ _) (gJ (dK _ _) (dK _ _)) (dK _ _)
theorem Iy (h:decide (aR x 0<0)=true):x<0:=GD.1 (by simpa using h)
theorem Dx (h:decide (aR x 0<0)=false): ¬x<0:=fun e=>by have:=GD.2 e;simp at h;omega
theorem LO (h:M<0∨N<0):jm A B C D M N=0:=by unfold jm;rw[if_pos h]
theorem vY (h: ¬M<0) (h': ¬N<0):jm A B C D M N=pj (bi A B M) (bi C D M*aR N 0) (bi (DF A B C D M N) (wG A B C D N+wG A B C D N) M):=by
 unfold jm;rw[if_neg (fun e=>e.elim h h')]
theorem pn (ha:Rz 2000000 a) (hb:Rz 2000000 b) (hm:Rz 2000000 m):Ok Tryz.prog 147 [dR a,dR b,dR m] [.c (.i .i64 (bi a b m))]:=by
 have ka:Rz 6000000 a:=ha.m_
 have kb:Rz 6000000 b:=hb.m_
 have hp:=gJ (dK b 0) (dK m 0)
 have hp2:=gJ (dK a 0) (dK (a*a) (b*b*m))
 refine bU Tryz.func147 rfl ?_
 refine cU 9 [] ?_
 refine aO rfl (dm) ?_
 refine aO rfl (dm) ?_
 refine aO rfl (dm) ?_
 refine aq (cr ((aR b 0)*(aR m 0)) (dF (by omega) (by omega)) rfl) ?_
 refine kT (bp rfl) (fun c1 hb1=>?_)
 cases c1
 ·refine dr rfl (fun hc2=>?_) (fun hc2=>?_)
  ·refine ai ?_
   unfold bi
   rw[yp hc2]
   exact al ae
  ·refine dr rfl (fun hc3=>?_) (fun hc3=>?_)
   ·refine ai ?_
    unfold bi
    rw[yu hc3]
    exact al ae
   ·refine cU 12 [] ?_
    refine aO rfl (dh (aW ha) (aW ha)) ?_
    refine aO rfl (dh (aW hb) (aW hb)) ?_
    refine aO rfl (dh (aW (aF hb hb)) (aW hm)) ?_
    refine aO rfl (oe (aW (aF ha ha)) (aW (aF (aF hb hb) hm))) ?_
    refine aq (cr ((aR a 0)*(aR (a*a) ((b*b)*m))) (dF (by omega) (by omega)) rfl) ?_
    refine ai ?_
    unfold bi
    rw[yc hc3 hb1 hc2]
    exact al ae
 ·refine oC rfl<|ai ?_
  unfold bi
  rw[yb hb1]
  exact al ae
theorem vn (ha:Rz 2000000 a) (hb:Rz 2000000 b) (hm:Rz 2000000 m):Ok Tryz.prog 219 [dR a,dR b,dR m] [.c (.i .i64 (bi a b m))]:=by
 have ka:Rz 6000000 a:=ha.m_
 have kb:Rz 6000000 b:=hb.m_
 have hp:=gJ (dK b 0) (dK m 0)
 have hp2:=gJ (dK a 0) (dK (a*a) (b*b*m))
 refine bU Tryz.func219 rfl ?_
 refine cU 9 [] ?_
 refine aO rfl (ce) ?_
 refine aO rfl (ce) ?_
 refine aO rfl (ce) ?_
 refine aq (cr ((aR b 0)*(aR m 0)) (dF (by omega) (by omega)) rfl) ?_
 refine kT (bp rfl) (fun c1 hb1=>?_)
 cases c1
 ·refine kT (bp rfl) (fun c2 hb2=>?_)
  cases c2
  ·refine dr rfl (fun hc3=>?_) (fun hc3=>?_)
   ·refine dr rfl (fun hc4=>?_) (fun hc4=>?_)
    ·exact absurd hc4 (by rw[hb1];decide)
    ·refine ai ?_
     unfold bi
     rw[yp hc3]
     exact al ae
   ·refine cU 12 [] ?_
    refine aO rfl (cb (aW ha) (aW ha)) ?_
    refine aO rfl (cb (aW hb) (aW hb)) ?_
    refine aO rfl (cb (aW (aF hb hb)) (aW hm)) ?_
    refine aO rfl (jl (aW (aF ha ha)) (aW (aF (aF hb hb) hm))) ?_
    refine aq (cr ((aR a 0)*(aR (a*a) ((b*b)*m))) (dF (by omega) (by omega)) rfl) ?_
    refine ai ?_
    unfold bi
    rw[yc hb1 hb2 hc3]
    exact al ae
  ·refine oC rfl ?_
   refine dr rfl (fun hc5=>?_) (fun hc5=>?_)
   ·exact absurd hc5 (by rw[hb1];decide)
   ·refine ai ?_
    unfold bi
    rw[yb hb2]
    exact al ae
 ·refine ar (bp rfl)<|oC rfl ?_
  refine dr rfl (fun hc6=>?_) (fun hc6=>?_)
  ·refine ai ?_
   unfold bi
   rw[yu hb1]
   exact al ae
  ·exact absurd hb1 (by rw[hc6];decide)
theorem Dl (hA:Rz 160000 A) (hB:Rz 160000 B) (hC:Rz 160000 C) (hD:Rz 160000 D) (hM:Rz 160000 M) (hN:Rz 160000 N):Ok Tryz.prog 139 [.a ((cR A++cR B++cR C++cR D++cR M++cR N))] [.c (.i .i64 (jm A B C D M N))]:=by
 have z1:=gJ (iE C D M) (dK N 0)
 have z2:=gJ (iE A B M) (iE (A*A+B*B*M-N*(C*C+D*D*M)) ((A*B-N*(C*D))+(A*B-N*(C*D))) M)
 refine bU Tryz.func139 rfl ?_
 refine ac rfl (ce) ?_
 refine kT (bp rfl) (fun c1 hb1=>?_)
 cases c1
 ·have n1:=Dx hb1
  refine ac rfl (ce) ?_
  refine dr rfl (fun hc2=>?_) (fun hc2=>?_)
  ·refine ai ?_
   rw[LO (.inr (Iy hc2))]
   exact al ae
  ·have n2:=Dx hc2
   refine cU 20 [] ?_
   refine aO rfl (vn (aW hA) (aW hB) (aW hM)) ?_
   refine aO rfl (vn (aW hC) (aW hD) (aW hM)) ?_
   refine aO rfl (ce) ?_
   refine aq (cr ((bi C D M)*(aR N 0)) (dF (by omega) (by omega)) rfl) ?_
   refine kT (bp rfl) (fun c3 hb3=>?_)
   cases c3
   ·refine kT (bp rfl) (fun c4 hb4=>?_)
    cases c4
    ·refine dr rfl (fun hc5=>?_) (fun hc5=>?_)
     ·refine dr rfl (fun hc6=>?_) (fun hc6=>?_)
      ·exact absurd hc6 (by rw[hb3];decide)
      ·refine ai ?_
       rw[vY n1 n2,yp hc5]
       exact al ae
     ·refine cU 18 [] ?_
      refine aO rfl (cb (aW hC) (aW hC)) ?_
      refine aO rfl (cb (aW hD) (aW hD)) ?_
      refine aO rfl (cb (aW (aF hD hD)) (aW hM)) ?_
      refine aO rfl (ci (aW (aF hC hC)) (aW (aF (aF hD hD) hM))) ?_
      refine aO rfl (cb (aW hN) (aW (eh (aF hC hC) (aF (aF hD hD) hM)))) ?_
      refine cU 17 [] ?_
      refine aO rfl (cb (aW hA) (aW hA)) ?_
      refine aO rfl (cb (aW hB) (aW hB)) ?_
      refine aO rfl (cb (aW (aF hB hB)) (aW hM)) ?_
      refine aO rfl (ci (aW (aF hA hA)) (aW (aF (aF hB hB) hM))) ?_
      refine aO rfl (gN (aW (eh (aF hA hA) (aF (aF hB hB) hM))) (aW (aF hN (eh (aF hC hC) (aF (aF hD hD) hM))))) ?_
      refine cU 15 [] ?_
      refine aO rfl (cb (aW hA) (aW hB)) ?_
      refine aO rfl (cb (aW hC) (aW hD)) ?_
      refine aO rfl (cb (aW hN) (aW (aF hC hD))) ?_
      refine aO rfl (gN (aW (aF hA hB)) (aW (aF hN (aF hC hD)))) ?_
      refine cU 10 [] ?_
      refine aO rfl (ci (aW (az (aF hA hB) (aF hN (aF hC hD)))) (aW (az (aF hA hB) (aF hN (aF hC hD))))) ?_
      refine aO rfl (vn (aW (az (eh (aF hA hA) (aF (aF hB hB) hM)) (aF hN (eh (aF hC hC) (aF (aF hD hD) hM))))) (aW (eh (az (aF hA hB) (aF hN (aF hC hD))) (az (aF hA hB) (aF hN (aF hC hD))))) (aW hM)) ?_
      refine aq (cr ((bi A B M)*(bi (((A*A)+((B*B)*M))-(N*((C*C)+((D*D)*M)))) (((A*B)-(N*(C*D)))+((A*B)-(N*(C*D)))) M)) (dF (by omega) (by omega)) rfl) ?_
      refine ai ?_
      rw[vY n1 n2,yc hb3 hb4 hc5]
      exact al ae
    ·refine oC rfl ?_
     refine dr rfl (fun hc7=>?_) (fun hc7=>?_)
     ·exact absurd hc7 (by rw[hb3];decide)
     ·refine ai ?_
      rw[vY n1 n2,yb hb4]
      exact al ae
   ·refine ar (bp rfl)<|oC rfl ?_
    refine dr rfl (fun hc8=>?_) (fun hc8=>?_)
    ·refine ai ?_
     rw[vY n1 n2,yu hb3]
     exact al ae
    ·exact absurd hb3 (by rw[hc8];decide)
 ·refine oC rfl<|ai ?_
  rw[LO (.inl (Iy hb1))]
  exact al ae
theorem HM (ha:Rz 6000000 a) (_hb:Rz 6000000 b) (hd:Rz 6000000 d) (he:Rz 6000000 e):Ok Tryz.prog 140 [.a ((cR a++cR b++cR c)),.a ((cR d++cR e++cR f))] [.a ((cR (a-d)++cR b++cR (-e)++cR 0++cR c++cR f))]:=by
 refine fD Tryz.func140 21 [.cell 4 153] rfl<|aa<|ah<|aa<|lq 16 rfl rfl<|dU 1<|bH (ji (cR a) bt rfl)<|dU 1<|bH (ji (cR d) bt rfl)<|bH (dt rfl (gN (aW ha) (aW hd)))<|dU 1<|bH (ji (cR b) bt rfl)<|dU 1<|bH (ji (cR e) bt rfl) ?_
 refine bH (dt rfl (fX (aW he)))<|bH (dt rfl ((show Ok Tryz.prog 46 [.c (.i .i64 0)] [dR 0] from nC (by omega) (by omega))))<|dU 1<|bH (ji (cR c) bt rfl)<|dU 1<|bH (ji (cR f) bt rfl)<|bH (aC (us:=(cR (a-d)++cR b++cR (-e)++cR 0++cR c++cR f)) U9 RP rfl rfl rfl) ?_
 refine kj<|dz<|fN<|bb ?_
 exact ai (a8 VL rfl ae)
theorem Cm (ha:Rz 60000 a) (hb:Rz 60000 b) (hc:Rz 60000 c) (hd:Rz 60000 d) (he:Rz 60000 e) (hf:Rz 60000 f):Ok Tryz.prog 72 [.a ((cR a++cR b++cR c)),.a ((cR d++cR e++cR f))] [.c (.i .i64 (jm (a-d) b (-e) 0 c f))]:=by
 have ka:Rz 6000000 a:=ha.m_
 have ma:Rz 160000 a:=ha.m_
 have kb:Rz 6000000 b:=hb.m_
 have mb:Rz 160000 b:=hb.m_
 have kc:Rz 6000000 c:=hc.m_
 have mc:Rz 160000 c:=hc.m_
 have kd:Rz 6000000 d:=hd.m_
 have md:Rz 160000 d:=hd.m_
 have ke:Rz 6000000 e:=he.m_
 have me:Rz 160000 e:=he.m_
 have kf:Rz 6000000 f:=hf.m_
 have mf:Rz 160000 f:=hf.m_
 have m1:Rz 160000 (a-d):=(ha.sub hd).m_
 have m2:Rz 160000 (-e):=me.neg
 have m0:Rz 160000 (0:Rat):=gY (n:=0) (iw (by decide) (by decide) (by decide)) (by decide)
 refine bU Tryz.func72 rfl ?_
 refine ac rfl (HM (by assumption) (by assumption) (by assumption) (by assumption)) ?_
 refine ac rfl (Dl (by assumption) (by assumption) (by assumption) (by assumption) (by assumption) (by assumption)) ?_
 exact ai (al ae)
theorem vo (ha:Rz 6000000 a):Ok Tryz.prog 226 [dR a] [dR a]:=by
 refine bU Tryz.func226 rfl<|ac rfl (iS (aW ha))<|ac rfl (iS (aW (Rz.neg ha))) ?_
 have hfin:dR a=dR (-(-a)):=by rw[Rat.neg_neg]
 refine ai ?_
 rw[hfin]
 exact a8 bt rfl ae
theorem G9 (ha:Rz 6000000 a) (hb:Rz 6000000 b) (hc:Rz 6000000 c) (hd:Rz 6000000 d) (he:Rz 6000000 e) (hf:Rz 6000000 f):Ok Tryz.prog 149 [.a ((cR a++cR b++cR c)),.a ((cR d++cR e++cR f))] [.a ((cR (a-d)++cR b++cR (-e)++cR 0++cR c++cR f))]:=by
 refine fD Tryz.func149 24 [.cell 4 153] rfl<|aa<|ah<|aa<|lq 19 rfl rfl<|dU 1<|bH (ji (cR a) bt rfl)<|dU 1<|bH (ji (cR d) bt rfl)<|bH (dt rfl (gU (aW ha) (aW hd)))<|dU 1<|bH (ji (cR b) bt rfl)<|bH (dt rfl (vo (aW hb)))<|dU 1 ?_
 refine bH (ji (cR e) bt rfl)<|bH (dt rfl (iS (aW he)))<|bH (dt rfl ((show Ok Tryz.prog 58 [.c (.i .i64 0)] [dR 0] from lg (by omega) (by omega))))<|dU 1<|bH (ji (cR c) bt rfl)<|bH (dt rfl (vo (aW hc)))<|dU 1<|bH (ji (cR f) bt rfl)<|bH (dt rfl (vo (aW hf)))<|bH (aC (us:=(cR (a-d)++cR b++cR (-e)++cR 0++cR c++cR f)) U9 RP rfl rfl rfl) ?_
 refine kj<|dz<|fN<|bb ?_
 exact ai (a8 VL rfl ae)
def rB (b c:Rat):Rat:=if b=0∨c=0 then 0 else b
def rC (b c:Rat):Rat:=if b=0∨c=0 then 0 else c
theorem JV (h:b=0∨c=0):rB b c=0:=by unfold rB;rw[if_pos h]
theorem Jd (h:b=0∨c=0):rC b c=0:=by unfold rC;rw[if_pos h]
theorem Xj (h:b≠0) (h':c≠0):rB b c=b:=by unfold rB;rw[if_neg (fun e=>e.elim h h')]
theorem Ww (h:b≠0) (h':c≠0):rC b c=c:=by unfold rC;rw[if_neg (fun e=>e.elim h h')]
def s3 (a b c:Rat):Int:=if aR a 0=aR b 0∨aR b 0=0 then aR a 0 else if aR a 0=0 then aR b 0 else if 0<a*a-b*b*c then aR a 0 else aR b 0
theorem ab7 (h:(aR a 0==aR b 0)=true):s3 a b c=aR a 0:=by unfold s3;rw[if_pos (.inl (by simpa using h))]
theorem ab5 (h:(aR b 0==0)=true):s3 a b c=aR a 0:=by unfold s3;rw[if_pos (.inr (by simpa using h))]
theorem XV (h:(aR a 0==aR b 0)=false) (h2:(aR b 0==0)=false):s3 a b c=if aR a 0=0 then aR b 0 else if 0<a*a-b*b*c then aR a 0 else aR b 0:=by
 unfold s3;rw[if_neg (fun e=>e.elim (by simpa using h) (by simpa using h2))]
theorem aco (h:decide (aR x 0>0)=true):0<x:=uI.1 (by simpa using h)
theorem aai (h:decide (aR x 0>0)=false): ¬0<x:=fun e=>by have:=uI.2 e;simp at h;omega
theorem abZ (h:(s==t)=true):s=t:=by simpa using h
theorem ZB (h:(s==t)=false):s≠t:=by simpa using h
theorem PK (hf: ¬Qy b c e f) (h1:b≠0) (h2:e≠0):(aR c f==0)=true:=by
 rw[r_eqb']
 exact gT fun h=>hf ⟨h1,h2,h⟩
where
 r_eqb' {x y:Rat}:((aR x y==0)=true)=(x=y):=by rw[beq_iff_eq];exact propext pT
theorem yv (ha:Rz 6000000 a):Ok Tryz.prog 284 [dR a] [dR (a*a)]:=by
 refine bU Tryz.func284 rfl<|ac rfl (cb (aW ha) (aW ha)) ?_
 exact ai (a8 bt rfl ae)
theorem Bx (ha:Rz 1000000 a) (hb:Rz 1000000 b) (hc:Rz 1000000 c):Ok Tryz.prog 234 [.a ((cR a++cR b++cR c))] [dR (a*a-b*b*c)]:=by
 have ka:Rz 6000000 a:=ha.m_
 have kb:Rz 6000000 b:=hb.m_
 have kc:Rz 6000000 c:=hc.m_
 refine bU Tryz.func234 rfl ?_
 refine cU 10 [] ?_
 refine aO rfl (yv (aW ha)) ?_
 refine aO rfl (yv (aW hb)) ?_
 refine aO rfl (cb (aW (aF hb hb)) (aW hc)) ?_
 refine aO rfl (gN (aW (aF ha ha)) (aW (aF (aF hb hb) hc))) ?_
 exact ai (a8 bt rfl ae)
theorem o9 (ha:Rz 1000000 a) (hb:Rz 1000000 b) (hc:Rz 1000000 c):Ok Tryz.prog 157 [.a ((cR a++cR b++cR c))] [.c (.i .i64 (s3 a b c))]:=by
 refine bU Tryz.func157 rfl ?_
 refine cU 8 [] ?_
 refine aO rfl (ce) ?_
 refine aO rfl (ce) ?_
 refine kT (bp rfl) (fun c1 hb1=>?_)
 cases c1
 ·refine dr rfl (fun hc2=>?_) (fun hc2=>?_)
  ·refine ai ?_
   rw[ab5 hc2]
   exact al ae
  ·refine dr rfl (fun hc3=>?_) (fun hc3=>?_)
   ·refine ai ?_
    rw[XV hb1 hc2,if_pos (abZ hc3)]
    exact al ae
   ·refine ac rfl (Bx (by assumption) (by assumption) (by assumption))<|ac rfl (ce) ?_
    refine dr rfl (fun hc4=>?_) (fun hc4=>?_)
    ·refine ai ?_
     rw[XV hb1 hc2,if_neg (ZB hc3),if_pos (aco hc4)]
     exact al ae
    ·refine ai ?_
     rw[XV hb1 hc2,if_neg (ZB hc3),if_neg (aai hc4)]
     exact al ae
 ·refine oC rfl<|ai ?_
  rw[ab7 hb1]
  exact al ae
theorem oY:Ok Tryz.prog 132 [dR a,dR b,dR c] [.a ((cR a++cR (rB b c)++cR (rC b c)))]:=by
 refine bU Tryz.func132 rfl<|ac rfl (om) ?_
 refine kT (bp rfl) (fun c1 hb1=>?_)
 cases c1
 ·refine ac rfl (om) ?_
  refine dr rfl (fun hc2=>?_) (fun hc2=>?_)
  ·refine ac rfl (kZ) ?_
   refine ai ?_
   rw[JV (.inr (t8 hc2)),Jd (.inr (t8 hc2))]
   exact a8 ez rfl ae
  ·refine ar (aC (us:=(cR a++cR b++cR c)) rG p6 rfl rfl rfl) ?_
   refine ai ?_
   rw[Xj (qa hb1) (qa hc2),Ww (qa hb1) (qa hc2)]
   exact a8 ez rfl ae
 ·refine oC rfl ?_
  refine ac rfl (kZ) ?_
  refine ai ?_
  rw[JV (.inl (t8 hb1)),Jd (.inl (t8 hb1))]
  exact a8 ez rfl ae
theorem yi (hc:Rz 6000000 c) (hf:Rz 6000000 f) (hb: ¬Qy b c e f):Ok Tryz.prog 242 [.a ((cR a++cR b++cR c)),.a ((cR d++cR e++cR f))] [dR (cc b c f),.c (.b true)]:=by
 refine bU Tryz.func242 rfl<|ac rfl (ce) ?_
 refine dr rfl (fun hc1=>?_) (fun hc1=>?_)
 ·refine ai ?_
  rw[HJ (t8 hc1)]
  exact a8 bt rfl (al ae)
 ·refine cU 16 [4,999999] ?_
  refine aO rfl (ce) ?_
  refine xi (bp rfl) (fun c2 hb2=>?_)
  cases c2
  ·refine aO rfl (jl (aW hc) (aW hf)) ?_
   refine DQ.mk<|i4 (dZ bt rfl) rfl rfl rfl rfl<|dY ?_
   refine ai ?_
   rw[xn (qa hc1),PK hb (qa hc1) (qa hb2)]
   exact a8 bt rfl (al ae)
  ·refine DQ.mk<|H3 (dZ bt rfl) rfl rfl (by kernel_rfl) rfl<|dY ?_
   refine ai ?_
   rw[xn (qa hc1)]
   exact a8 bt rfl (al ae)
theorem Nc (ha:Rz 1000000 a) (hb:Rz 1000000 b) (hc:Rz 1000000 c) (hd:Rz 1000000 d) (he:Rz 1000000 e) (hf:Rz 1000000 f) (hbad: ¬Qy b c e f):Ok Tryz.prog 287 [.a ((cR a++cR b++cR c)),.a ((cR d++cR e++cR f))] [.a ((cR (a+d)++cR (rB (b+e) (cc b c f))++cR (rC (b+e) (cc b c f)))),.c (.i .i64 0)]:=by
 have ka:Rz 6000000 a:=ha.m_
 have kb:Rz 6000000 b:=hb.m_
 have kc:Rz 6000000 c:=hc.m_
 have kd:Rz 6000000 d:=hd.m_
 have ke:Rz 6000000 e:=he.m_
 have kf:Rz 6000000 f:=hf.m_
 refine bU Tryz.func287 rfl ?_
 refine ac rfl (yi (by assumption) (by assumption) (by assumption)) ?_
 refine mi rfl ?_
 refine cU 12 [] ?_
 refine aO rfl (ci (aW ha) (aW hd)) ?_
 refine aO rfl (ci (aW hb) (aW he)) ?_
 refine aO rfl (oY) ?_
 exact ai (a8 ez rfl (al ae))
theorem DA (ha:Rz 1000000 a) (hb:Rz 1000000 b) (hc:Rz 1000000 c) (hd:Rz 1000000 d) (he:Rz 1000000 e) (hf:Rz 1000000 f) (hbad: ¬Qy b c e f):Ok Tryz.prog 168 [.a ((cR a++cR b++cR c)),.a ((cR d++cR e++cR f))] [.a ((cR (a*d+b*e*cc b c f)++cR (rB (a*e+b*d) (cc b c f))++cR (rC (a*e+b*d) (cc b c f)))),.c (.i .i64 0)]:=by
 have ka:Rz 6000000 a:=ha.m_
 have kb:Rz 6000000 b:=hb.m_
 have kc:Rz 6000000 c:=hc.m_
 have kd:Rz 6000000 d:=hd.m_
 have ke:Rz 6000000 e:=he.m_
 have kf:Rz 6000000 f:=hf.m_
 have hcc:Rz 1000000 (cc b c f):=by unfold cc;split<;>assumption
 have z1:Rz 6000000 (b*e):=(aF hb he).m_
 have z2:Rz 6000000 (cc b c f):=hcc.m_
 have z3:Rz 6000000 (b*e*cc b c f):=(aF (aF hb he) hcc).m_
 refine bU Tryz.func168 rfl<|ac rfl (yi (by assumption) (by assumption) (by assumption))<|mi rfl<|cU 14 [] ?_
 refine aO rfl (cb (by first|assumption|exact eE ha (by decide)) (by first|assumption|exact eE hd (by decide))) ?_
 refine aO rfl (cb (by first|assumption|exact eE hb (by decide)) (by first|assumption|exact eE he (by decide))) ?_
 refine aO rfl (cb (by first|assumption|exact eE (aF hb he) (by decide)) (by first|assumption|exact eE (by assumption) (by decide))) ?_
 refine aO rfl (ci (by first|assumption|exact eE (aF ha hd) (by decide)) (by first|assumption|exact eE (aF (aF hb he) (by assumption)) (by decide))) ?_
 refine cU 12 [] ?_
 refine aO rfl (cb (by first|assumption|exact eE ha (by decide)) (by first|assumption|exact eE he (by decide))) ?_
 refine aO rfl (cb (by first|assumption|exact eE hb (by decide)) (by first|assumption|exact eE hd (by decide))) ?_
 refine aO rfl (ci (by first|assumption|exact eE (aF ha he) (by decide)) (by first|assumption|exact eE (aF hb hd) (by decide))) ?_
 refine ac rfl (oY) ?_
 exact ai (a8 ez rfl (al ae))
theorem ni (ha:Rz 6000000 a) (hd:Rz 6000000 d):Ok Tryz.prog 159 [.a ((cR a++cR b++cR c)),dR d] [.a ((cR (a+d)++cR b++cR c))]:=by
 refine bU Tryz.func159 rfl ?_
 refine cU 9 [] ?_
 refine aO rfl (ci (aW ha) (aW hd)) ?_
 refine aq (aC (us:=(cR (a+d)++cR b++cR c)) rG p6 rfl rfl rfl) ?_
 exact ai (a8 ez rfl ae)
theorem Nj (ha:Rz 300 a) (hb:Rz 300 b) (hc:Rz 300 c) (hd:Rz 300 d) (he:Rz 300 e) (hf:Rz 300 f):Ok Tryz.prog 15 [.a ((cR a++cR b++cR c)),.a ((cR d++cR e++cR f))] [.c (.b (B3 a b c d e f))]:=by
 refine bU Tryz.func15 rfl ?_
 refine ac rfl (Ce (aW ha) (aW hd)) ?_
 refine kT (bp rfl) (fun c1 hb1=>?_)
 cases c1
 ·refine ar (bp rfl)<|ai ?_
  rw[show B3 a b c d e f=false from by unfold B3;rw[hb1];rfl]
  exact al ae
 ·refine ac rfl (Ce (aW hb) (aW he)) ?_
  refine kT (bp rfl) (fun c2 hb2=>?_)
  cases c2
  ·refine ai ?_
   rw[show B3 a b c d e f=false from by unfold B3;rw[hb1,hb2];rfl]
   exact al ae
  ·refine ac rfl (Ce (aW hc) (aW hf))<|ai ?_
   rw[show B3 a b c d e f=decide (c=f) from by unfold B3;rw[hb1,hb2];rfl]
   exact al ae
theorem NF {x y:Int}(h0: -9223372036854775808≤x) (h1:x≤9223372036854775807) (h2: -9223372036854775808≤y) (h3:y≤9223372036854775807):Ok Tryz.prog 111 [.c (.i .i64 x),.c (.i .i64 y)] [.a ((cR (((x:Int):Rat))++cR (((y:Int):Rat))))]:=by
 refine bU Tryz.func111 rfl<|ac rfl (dO (by omega) (by omega))<|ac rfl (dO (by omega) (by omega))<|ar (aC (us:=(cR (((x:Int):Rat))++cR (((y:Int):Rat)))) ro q9 rfl rfl rfl) ?_
 exact ai (a8 WP rfl ae)
def AC (a b c p q r:Rat):Int:=jm (a-p) b (-q) 0 (zc b c) (zc q r)
def nT (a1 b1 a2 b2 c p1 q1 p2 q2 r:Rat):Int:=if AC a1 b1 c p1 q1 r≠0 then AC a1 b1 c p1 q1 r else AC a2 b2 c p2 q2 r
theorem SD {r:Rat}(h:(AC a1 b1 c p1 q1 r !=0)=true):nT a1 b1 a2 b2 c p1 q1 p2 q2 r=AC a1 b1 c p1 q1 r:=by unfold nT;rw[if_pos (by simpa using h)]
theorem Te {r:Rat}(h:(AC a1 b1 c p1 q1 r !=0)=false):nT a1 b1 a2 b2 c p1 q1 p2 q2 r=AC a2 b2 c p2 q2 r:=by unfold nT;rw[if_neg (by simpa using h)]
theorem Rz.zero (hk:1≤k):Rz k (0:Rat):=⟨⟨by have:=dw k;rw[Rat.zero_num];omega,by have:=dw k;rw[Rat.zero_num];omega⟩,by rw[Rat.zero_den];exact Sz.one hk⟩
theorem Rz.zc (h:Rz k c) (hk:1≤k):Rz k (zc b c):=by
 unfold Go.Proofs.YtkmdgigkbhmilaaGreat.zc
 split
 ·exact Rz.zero hk
 ·exact h
def rt (c:Rat):Rat:=Rat.divInt (bK c.num) (bK (c.den:Int))
theorem So (h:jp c=true):dQ (if jp c then bK c.num else 0) (if jp c then bK (c.den:Int) else 0)=dR (rt c):=by
 rw[if_pos h,if_pos h]
 unfold jp CV at h
 simp only[dT,beq_iff_eq] at h
 obtain⟨h1,h2⟩:=h
 have d0:=fv (c.den:Int)
 have dp:=den_pos c
 have hd:0<bK (c.den:Int):=by grind
 have hg:Int.gcd (bK c.num) (bK (c.den:Int))=1:=by
  have hr:Int.gcd c.num (c.den:Int)=1:=c.reduced
  have d1:Int.gcd (bK c.num) (bK (c.den:Int))∣Int.gcd c.num (c.den:Int):=by
   refine Int.dvd_gcd ?_ ?_
   ·have t:((Int.gcd (bK c.num) (bK (c.den:Int)):Nat):Int)∣bK c.num*bK c.num:=Int.dvd_mul_of_dvd_left (Int.gcd_dvd_left ..)
    rw[h1] at t;exact t
   ·have t:((Int.gcd (bK c.num) (bK (c.den:Int)):Nat):Int)∣bK (c.den:Int)*bK (c.den:Int):=Int.dvd_mul_of_dvd_left (Int.gcd_dvd_right ..)
    rw[h2] at t;exact t
  rw[hr] at d1
  exact Nat.dvd_one.1 d1
 exact(AO hd (by rw[hg];rfl)).symm
def SU (x:Nat→Rat):Prop:= ∀e:Rat,0<e→ ∃K:Nat,∀i j,K≤i→K≤j→x i-x j≤e
def Hq (x:Nat→Rat):Prop:= ∃e:Rat,0<e∧ ∃K:Nat,∀k,K≤k→e≤x k
def MU (x:Nat→Rat):Prop:= ∀e:Rat,0<e→ ∃K:Nat,∀k,K≤k→ -e≤x k∧x k≤e
structure Re where
 s:Nat→Rat
 c:SU s
theorem Re.ext {x y:Re}(h: ∀k,x.s k=y.s k):x=y:=by
 cases x;cases y
 have:_=_:=funext h
 subst this;rfl
theorem oD (h:0<e):0<e/2:=by grind
theorem G7 (h:0<e) (h2:0<B):0<e/B∧B*(e/B)=e:=by
 refine⟨?_,by grind⟩
 exact sS h (Rat.inv_pos.2 h2)
theorem Re.bnd (x:Re): ∃B:Rat,0<B∧ ∃K:Nat,∀k,K≤k→ -B≤x.s k∧x.s k≤B:=by
 obtain⟨K,h⟩:=x.c 1 (by decide)
 by_cases hs:0≤x.s K
 ·exact⟨x.s K+1,by grind,K,fun k hk=>by have h1:=h k K hk (cK _);have h2:=h K k (cK _) hk;constructor<;>grind⟩
 ·exact⟨1-x.s K,by grind,K,fun k hk=>by have h1:=h k K hk (cK _);have h2:=h K k (cK _) hk;constructor<;>grind⟩
theorem Eg (q:Rat):SU (fun _=>q):=fun e he=>⟨0,fun i j _ _=>by grind⟩
theorem TY {x y:Nat→Rat}(hx:SU x) (hy:SU y):SU (fun k=>x k+y k):=fun e he=>by
 obtain⟨K,h⟩:=hx (e/2) (oD he)
 obtain⟨L,g⟩:=hy (e/2) (oD he)
 exact⟨max K L,fun i j hi hj=>by have h1:=h i j (by omega) (by omega);have h2:=g i j (by omega) (by omega);grind⟩
theorem Tq {x:Nat→Rat}(hx:SU x):SU (fun k=> -x k):=fun e he=>by
 obtain⟨K,h⟩:=hx e he
 exact⟨K,fun i j hi hj=>by have h1:=h j i hj hi;grind⟩
theorem Js (h1: -e≤a) (h2:a≤e) (h3: -f≤b) (h4:b≤f):a*b≤e*f∧ -(e*f)≤a*b:=by
 have p1:0≤(e-a)*(f+b):=jW (by grind) (by grind)
 have p2:0≤(e+a)*(f-b):=jW (by grind) (by grind)
 have p3:0≤(e-a)*(f-b):=jW (by grind) (by grind)
 have p4:0≤(e+a)*(f+b):=jW (by grind) (by grind)
 grind
theorem SG (x y:Re):SU (fun k=>x.s k*y.s k):=fun e he=>by
 obtain⟨B,hB,K,hb⟩:=x.bnd
 obtain⟨D,hD,L,hd⟩:=y.bnd
 obtain⟨d1,e1⟩:=G7 (oD he) hB
 obtain⟨d2,e2⟩:=G7 (oD he) hD
 obtain⟨K',h⟩:=x.c _ d2
 obtain⟨L',g⟩:=y.c _ d1
 refine⟨max (max K L) (max K' L'),fun i j hi hj=>?_⟩
 have b1:=hb i (by omega)
 have b2:=hd j (by omega)
 have h1:=h i j (by omega) (by omega)
 have h2:=h j i (by omega) (by omega)
 have g1:=g i j (by omega) (by omega)
 have g2:=g j i (by omega) (by omega)
 have p1:=(Js b1.1 b1.2 (a:=x.s i) (b:=y.s i-y.s j) (f:=e/2/B) (by grind) (by grind)).1
 have p2:=(Js b2.1 b2.2 (a:=y.s j) (b:=x.s i-x.s j) (f:=e/2/D) (by grind) (by grind)).1
 rw[e1] at p1
 rw[e2] at p2
 grind
def Re.of (q:Rat):Re:=⟨fun _=>q,Eg q⟩
instance:Add Re:=⟨fun x y=>⟨fun k=>x.s k+y.s k,TY x.c y.c⟩⟩
instance:Neg Re:=⟨fun x=>⟨fun k=> -x.s k,Tq x.c⟩⟩
instance:_root_.Sub Re:=⟨fun x y=>x+ -y⟩
instance:Mul Re:=⟨fun x y=>⟨fun k=>x.s k*y.s k,SG x y⟩⟩
theorem ao (x y:Re) (k:Nat):(x+y).s k=x.s k+y.s k:=rfl
theorem aD (x:Re) (k:Nat):(-x).s k= -x.s k:=rfl
theorem ak (x y:Re) (k:Nat):(x-y).s k=x.s k+ -y.s k:=rfl
theorem am (x y:Re) (k:Nat):(x*y).s k=x.s k*y.s k:=rfl
theorem aE (q:Rat) (k:Nat):(Re.of q).s k=q:=rfl
theorem mK (x:Re):Hq x.s∨MU x.s∨Hq (-x).s:=by
 by_cases hn:MU x.s
 ·grind
 ·unfold MU at hn
  obtain⟨e,hn⟩:=zr.1 hn
  obtain⟨he,hn⟩:=yZ.1 hn
  obtain⟨K,h⟩:=x.c (e/2) (oD he)
  have hn2:=not_exists.1 hn K
  obtain⟨k,hn3⟩:=zr.1 hn2
  obtain⟨hk,hn4⟩:=yZ.1 hn3
  by_cases h1:e<x.s k
  ·exact .inl ⟨e/2,oD he,K,fun j hj=>by have:=h k j hk hj;grind⟩
  ·have h2:x.s k< -e:=by
    apply gT
    grind
   exact .inr (.inr ⟨e/2,oD he,K,fun j hj=>by rw[aD];have:=h j k hj hk;grind⟩)
section
variable {x y z:Re}
theorem Su (h:Hq x.s): ¬Hq (-x).s:=fun g=>by
 obtain⟨e,he,K,h⟩:=h
 obtain⟨f,hf,L,g⟩:=g
 have h1:=h (max K L) (by omega)
 have h2:=g (max K L) (by omega)
 rw[aD] at h2
 grind
theorem Ao (h:Hq x.s): ¬MU x.s:=fun g=>by
 obtain⟨e,he,K,h⟩:=h
 obtain⟨L,g⟩:=g (e/2) (oD he)
 have h1:=h (max K L) (by omega)
 have h2:=g (max K L) (by omega)
 grind
theorem E9 (h:MU x.s):MU (-x).s:=fun e he=>by
 obtain⟨K,h⟩:=h e he
 exact⟨K,fun k hk=>by rw[aD];have:=h k hk;constructor<;>grind⟩
theorem UP (h:MU x.s) (g:MU y.s):MU (x+y).s:=fun e he=>by
 obtain⟨K,h⟩:=h (e/2) (oD he)
 obtain⟨L,g⟩:=g (e/2) (oD he)
 exact⟨max K L,fun k hk=>by rw[ao];have:=h k (by omega);have:=g k (by omega);constructor<;>grind⟩
theorem An (h:Hq x.s) (g:MU y.s):Hq (x+y).s:=by
 obtain⟨e,he,K,h⟩:=h
 obtain⟨L,g⟩:=g (e/2) (oD he)
 exact⟨e/2,oD he,max K L,fun k hk=>by rw[ao];have:=h k (by omega);have:=g k (by omega);grind⟩
theorem KJ (h:Hq x.s) (g:Hq y.s):Hq (x+y).s:=by
 obtain⟨e,he,K,h⟩:=h
 obtain⟨f,hf,L,g⟩:=g
 exact⟨e,he,max K L,fun k hk=>by rw[ao];have:=h k (by omega);have:=g k (by omega);grind⟩
theorem AT (h:Hq x.s) (g:Hq y.s):Hq (x*y).s:=by
 obtain⟨e,he,K,h⟩:=h
 obtain⟨f,hf,L,g⟩:=g
 refine⟨e*f,sS he hf,max K L,fun k hk=>?_⟩
 rw[am]
 have p1:0≤(x.s k-e)*f:=jW (by grind) (by grind)
 have p2:0≤x.s k*(y.s k-f):=jW (by grind) (by grind)
 grind
theorem xH (x:Re) (g:MU y.s):MU (x*y).s:=fun e he=>by
 obtain⟨B,hB,K,hb⟩:=x.bnd
 obtain⟨d1,e1⟩:=G7 he hB
 obtain⟨L,g⟩:=g _ d1
 refine⟨max K L,fun k hk=>?_⟩
 rw[am]
 have h1:=hb k (by omega)
 have h2:=g k (by omega)
 have p:=Js h1.1 h1.2 h2.1 h2.2
 rw[e1] at p
 exact⟨p.2,p.1⟩
theorem Na (x:Re): - -x=x:=Re.ext fun k=>by rw[aD,aD];grind
theorem sr (x y:Re):x*y=y*x:=Re.ext fun k=>by rw[am,am];grind
theorem Mt (x y:Re): -(x*y)= -x*y:=Re.ext fun k=>by rw[aD,am,am,aD];grind
theorem Mp (x y:Re): -(x*y)=x* -y:=Re.ext fun k=>by rw[aD,am,am,aD];grind
theorem Dj (x y:Re): -(x+y)= -x+ -y:=Re.ext fun k=>by rw[aD,ao,ao,aD,aD];grind
noncomputable def aw (x:Re):Int:=open Classical in if Hq x.s then 1 else if Hq (-x).s then-1 else 0
theorem oL:aw x=1↔Hq x.s:=by
 unfold aw
 split
 ·rename_i h;simp[h]
 ·rename_i h;split<;>simp[h]
theorem n5:aw x= -1↔Hq (-x).s:=by
 unfold aw
 split
 ·rename_i h;simp[Su h]
 grind
theorem nr:aw x=0↔MU x.s:=by
 unfold aw
 split
 ·rename_i h;simp[Ao h]
 ·rename_i h
  split
  ·rename_i h2
   have h3:=Ao h2
   simp
   exact fun g=>h3 (E9 g)
  ·rename_i h2
   simp
   exact((mK x).resolve_left h).resolve_right h2
theorem aU (x:Re):aw x=1∨aw x=0∨aw x= -1:=by
 rcases mK x with h|h|h
 ·exact .inl (oL.2 h)
 ·exact .inr (.inl (nr.2 h))
 ·exact .inr (.inr (n5.2 h))
theorem br (x:Re):aw (-x)= -aw x:=by
 rcases mK x with h|h|h
 ·rw[oL.2 h,n5,Na];exact h
 ·rw[nr.2 h,nr.2 (E9 h)];rfl
 ·rw[n5.2 h,oL.2 h];rfl
theorem aQ (x y:Re):aw (x*y)=aw x*aw y:=by
 rcases mK x with h|h|h<;>rcases mK y with g|g|g
 ·rw[oL.2 h,oL.2 g,oL.2 (AT h g)];rfl
 ·rw[oL.2 h,nr.2 g,nr.2 (xH x g)];rfl
 ·rw[oL.2 h,n5.2 g,m8,n5,Mp];exact AT h g
 ·rw[nr.2 h,nu,nr,sr];exact xH y h
 ·rw[nr.2 h,nu,nr,sr];exact xH y h
 ·rw[nr.2 h,nu,nr,sr];exact xH y h
 ·rw[n5.2 h,oL.2 g,Int.mul_one,n5,Mt];exact AT h g
 ·rw[n5.2 h,nr.2 g,nr.2 (xH x g)];rfl
 ·rw[n5.2 h,n5.2 g]
  have e:x*y= -x* -y:=Re.ext fun k=>by rw[am,am,aD,aD];grind
  rw[e,oL.2 (AT h g)];rfl
theorem dP (x:Re) (h:aw y=0):aw (x+y)=aw x:=by
 have g:=nr.1 h
 rcases mK x with h|h|h
 ·rw[oL.2 h,oL.2 (An h g)]
 ·rw[nr.2 h,nr.2 (UP h g)]
 ·rw[n5.2 h,n5,Dj];exact An h (E9 g)
theorem yr (x y:Re):x+y=y+x:=Re.ext fun k=>by rw[ao,ao];grind
theorem jG (h:aw x=0) (y:Re):aw (x+y)=aw y:=by rw[yr];exact dP y h
theorem iJ (h:aw x=aw y):aw (x+y)=aw x:=by
 rcases aU x with g|g|g
 ·rw[g,oL];exact KJ (oL.1 g) (oL.1 (h.symm.trans g))
 ·rw[dP x (h.symm.trans g)]
 ·rw[g,n5,Dj];exact KJ (n5.1 g) (n5.1 (h.symm.trans g))
theorem fR (h:0≤aw x) (g:0≤aw y):0≤aw (x+y):=by
 rcases aU x with a|a|a
 ·rcases aU y with b|b|b
  ·rw[iJ (a.trans b.symm)];exact h
  ·rw[dP x b];exact h
  grind
 ·rw[jG a];exact g
 grind
theorem uY (h:0<aw x) (g:0≤aw y):0<aw (x+y):=by
 rcases aU y with b|b|b
 ·rcases aU x with a|a|a
  ·rw[iJ (a.trans b.symm)];exact h
  ·omega
  grind
 ·rw[dP x b];exact h
 grind
theorem dJ (h:aw (x-y)=0):aw x=aw y:=by
 have e:x=(x-y)+y:=Re.ext fun k=>by rw[ao,ak];grind
 rw[e]
 exact jG h y
theorem cj (q:Rat):aw (Re.of q)=aR q 0:=by
 unfold aR
 split
 ·rename_i h
  exact n5.2 ⟨-q,by grind,0,fun k _=>by rw[aD,aE];grind⟩
 ·split
  ·rename_i h;exact oL.2 ⟨q,h,0,fun k _=>by rw[aE];grind⟩
  ·exact nr.2 fun e he=>⟨0,fun k _=>by rw[aE];constructor<;>grind⟩
end
theorem GG {X Y r n:Re}(hr:0≤aw r) (hn:aw (r*r-n)=0):aw (X+Y*r)=pj (aw X) (aw Y*aw n) (aw (X*X-Y*Y*n)):=by
 have hrn:aw r=aw n:=by
  have h1:=dJ hn
  rw[aQ] at h1
  rcases aU r with h|h|h
  ·grind
  ·grind
  grind
 have ht:aw (Y*r)=aw Y*aw n:=by rw[aQ,hrn]
 rw[←ht]
 unfold pj
 split
 ·rename_i h
  rcases h with h|h
  ·exact dP X h
  ·exact iJ h
 ·rename_i h
  split
  ·rename_i h2;exact jG h2 _
  ·rename_i h2
   have hopp:aw (Y*r)= -aw X:=by
    have a:=aU X
    have b:=aU (Y*r)
    omega
   have hm:aw (X+ -(Y*r))=aw X:=iJ (by rw[br,hopp];omega)
   have e1:aw ((X+Y*r)*(X+ -(Y*r)))=aw (X*X-Y*Y*n):=by
    refine dJ ?_
    have e:(X+Y*r)*(X+ -(Y*r))-(X*X-Y*Y*n)= -(Y*Y)*(r*r-n):=Re.ext fun k=>by
     simp only[ak,am,ao,aD];grind
    rw[e,aQ,hn,mH]
   rw[aQ,hm] at e1
   have a:=aU X
   grind
end Go.Proofs.YtkmdgigkbhmilaaGreat
