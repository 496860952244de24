/-Plain:the cosines of layer 32:which inputs have an answer. -/
import Derived.Test.YtacopbfkmnpfgaaGreatSpN
namespace Go.Proofs.YtacopbfkmnpfgaaGreat
open Go Go.RowKit
theorem I8 {c:Rat}(h:decide (bd c ((1:Int):Rat)≤0)=true):mw c=decide (bd c (((-1):Int):Rat)≥0):=by
 have h1:=qP.1 (of_decide_eq_true h)
 unfold mw
 rw[decide_eq_true (show c≤1 from h1),Bool.true_and]
 apply decide_eq_decide.2
 rw[HM]
 exact Iff.rfl
theorem pT {n:Int}(h0: -9223372036854775808≤n) (h1:n≤9223372036854775807):Ok Tryz.prog 140 [.c (.i .i64 n)] [dR (n:Rat)]:=by
 refine Ok.fn Tryz.func140 5 [.cell 2 31] rfl<|aa<|ab<|az (ah br rfl) rfl<|ap<|aa<|ab<|am 1<|ak (aj rfl (mo (by omega) (by omega)))<|ai<|al ?_
 exact ao (bh au rfl ae)
theorem C9 {x:Rat}(hx:Rz 300 x):Ok Tryz.prog 65 [dR x] [.c (.b (mw x))]:=by
 refine Ok.fn Tryz.func65 13 [.tmp 2] rfl<|aa<|ab<|ai<|aa<|aN 11 rfl rfl<|an 1<|ag (aj rfl (pT (by omega) (by omega)))<|ag (aj rfl (vx (aO hx) (aO (Rz.int (Sz.small (k:=3) (by decide) (by decide) (by decide)) (by decide)))))<|an 1 ?_
 refine fI (ca rfl) (fun c1 hb1=>?_)
 cases c1
 ·refine bK<|ar<|ap<|al ?_
  rw[Ef hb1]
  exact ao (aC ae)
 ·refine an 1<|ag (aj rfl (pT (by omega) (by omega)))<|ag (aj rfl (vx (aO hx) (aO (Rz.int (Sz.neg (Sz.small (k:=3) (by decide) (by decide) (by decide))) (by decide)))))<|bK<|ar<|ap<|al ?_
  rw[I8 hb1]
  exact ao (aC ae)
theorem qu {x y:Rat}(hx:Rz 60000 x) (hy:Rz 60000 y):Ok Tryz.prog 121 [dR x,dR y] [dR (x+y)]:=by
 refine Ok.fn Tryz.func121 8 [.cell 4 31] rfl<|aa<|ab<|am 2<|az (ah br rfl) rfl<|ap<|aa<|ab<|am 2<|ak (aj rfl (oC (aO hx) (aO hy)))<|ai<|al ?_
 exact ao (bh au rfl ae)
theorem lF {x y:Rat}(hx:Rz 60000 x) (hy:Rz 60000 y):Ok Tryz.prog 122 [dR x,dR y] [dR (x-y)]:=by
 refine Ok.fn Tryz.func122 8 [.cell 4 31] rfl<|aa<|ab<|am 2<|az (ah br rfl) rfl<|ap<|aa<|ab<|am 2<|ak (aj rfl (oo (aO hx) (aO hy)))<|ai<|al ?_
 exact ao (bh au rfl ae)
theorem il {x y:Rat}(hx:Rz 60000 x) (hy:Rz 60000 y):Ok Tryz.prog 63 [dR x,dR y] [dR (x*y)]:=by
 refine Ok.fn Tryz.func63 8 [.cell 4 31] rfl<|aa<|ab<|am 2<|az (ah br rfl) rfl<|ap<|aa<|ab<|am 2<|ak (aj rfl (dT (aO hx) (aO hy)))<|ai<|al ?_
 exact ao (bh au rfl ae)
theorem uM {x y:Rat}(hx:Rz 60000 x) (hy:Rz 60000 y):Ok Tryz.prog 302 [dR x,dR y] [dR (x+y)]:=by
 refine Ok.fn Tryz.func302 8 [.cell 4 31] rfl<|aa<|ab<|am 2<|az (ah br rfl) rfl<|ap<|aa<|ab<|am 2<|ak (aj rfl (dK (aO hx) (aO hy)))<|ai<|al ?_
 exact ao (bh au rfl ae)
theorem E7 {x y:Rat}(hx:Rz 60000 x) (hy:Rz 60000 y):Ok Tryz.prog 301 [dR x,dR y] [dR (x-y)]:=by
 refine Ok.fn Tryz.func301 8 [.cell 4 31] rfl<|aa<|ab<|am 2<|az (ah br rfl) rfl<|ap<|aa<|ab<|am 2<|ak (aj rfl (dA (aO hx) (aO hy)))<|ai<|al ?_
 exact ao (bh au rfl ae)
theorem uj {x y:Rat}(hx:Rz 60000 x) (hy:Rz 60000 y):Ok Tryz.prog 303 [dR x,dR y] [dR (x*y)]:=by
 refine Ok.fn Tryz.func303 8 [.cell 4 31] rfl<|aa<|ab<|am 2<|az (ah br rfl) rfl<|ap<|aa<|ab<|am 2<|ak (aj rfl (bZ (aO hx) (aO hy)))<|ai<|al ?_
 exact ao (bh au rfl ae)
theorem BH {A B C D M N xa xb ya yb:Rat}{n:Int}(hA:Rz 4000 A) (hB:Rz 4000 B) (hC:Rz 4000 C) (hD:Rz 4000 D) (hxa:Rz 4000 xa) (hxb:Rz 4000 xb) (hya:Rz 4000 ya) (hyb:Rz 4000 yb) (n0: -1≤n) (n1:n≤1):Ok Tryz.prog 136 [.a ((cR A++cR B++cR C++cR D++cR M++cR N)),.a ((cR xa++cR xb)),.a ((cR ya++cR yb)),.c (.i .i64 n)] [.a ((cR (A+((n:Int):Rat)*(xa*ya))++cR (B+((n:Int):Rat)*(xb*ya))++cR (C+((n:Int):Rat)*(xa*yb))++cR (D+((n:Int):Rat)*(xb*yb))++cR M++cR N))]:=by
 have hn:Rz 3 ((n:Int):Rat):=Rz.num (by omega) (by omega)
 have hn2:Rz 60000 ((n:Int):Rat):=hn.m_
 have k0:Rz 60000 (xa*ya):=(hxa.mul hya).m_
 have j0:Rz 60000 (((n:Int):Rat)*(xa*ya)):=(hn.mul (hxa.mul hya)).m_
 have k1:Rz 60000 (xb*ya):=(hxb.mul hya).m_
 have j1:Rz 60000 (((n:Int):Rat)*(xb*ya)):=(hn.mul (hxb.mul hya)).m_
 have k2:Rz 60000 (xa*yb):=(hxa.mul hyb).m_
 have j2:Rz 60000 (((n:Int):Rat)*(xa*yb)):=(hn.mul (hxa.mul hyb)).m_
 have k3:Rz 60000 (xb*yb):=(hxb.mul hyb).m_
 have j3:Rz 60000 (((n:Int):Rat)*(xb*yb)):=(hn.mul (hxb.mul hyb)).m_
 refine Ok.fn Tryz.func136 57 [.cell 8 105] rfl<|aa<|ab<|am 3<|az (ah jH rfl) rfl<|ap<|aa<|ab<|am 1<|ak (aj rfl (pJ (by omega) (by omega)))<|az (ah br rfl) rfl<|ai<|aa<|aN 11 rfl rfl ?_
 refine an 1<|ag (aw (cR A) au rfl)<|an 2<|ag (aw (cR xa) au rfl)<|an 1<|ag (aw (cR ya) au rfl) ?_
 refine ag (aj rfl (il (by first|assumption|exact Rz.mono hxa (by decide)) (by first|assumption|exact Rz.mono hya (by decide)))) ?_
 refine ag (aj rfl (il (by first|assumption|exact Rz.mono (Rz.int (by assumption) (by decide)) (by decide)) (by first|assumption|exact Rz.mono (Rz.mul hxa hya) (by decide)))) ?_
 refine ag (aj rfl (qu (by first|assumption|exact Rz.mono hA (by decide)) (by first|assumption|exact Rz.mono (Rz.mul (Rz.int (by assumption) (by decide)) (Rz.mul hxa hya)) (by decide)))) ?_
 refine bK<|ar<|dd (bn (us:=(cR (A+((((n:Int):Rat))*(xa*ya)))++cR B++cR C++cR D++cR M++cR N)) au rfl rfl rfl rfl (Nat.le_of_ble_eq_true rfl) rfl rfl) ?_
 refine ap<|aa<|aN 11 rfl rfl<|an 1<|ag (aw (cR B) au rfl)<|an 2<|ag (aw (cR xb) au rfl)<|an 1<|ag (aw (cR ya) au rfl) ?_
 refine ag (aj rfl (il (by first|assumption|exact Rz.mono hxb (by decide)) (by first|assumption|exact Rz.mono hya (by decide)))) ?_
 refine ag (aj rfl (il (by first|assumption|exact Rz.mono (Rz.int (by assumption) (by decide)) (by decide)) (by first|assumption|exact Rz.mono (Rz.mul hxb hya) (by decide)))) ?_
 refine ag (aj rfl (qu (by first|assumption|exact Rz.mono hB (by decide)) (by first|assumption|exact Rz.mono (Rz.mul (Rz.int (by assumption) (by decide)) (Rz.mul hxb hya)) (by decide)))) ?_
 refine bK<|ar<|dd (bn (us:=(cR (A+((((n:Int):Rat))*(xa*ya)))++cR (B+((((n:Int):Rat))*(xb*ya)))++cR C++cR D++cR M++cR N)) au rfl rfl rfl rfl (Nat.le_of_ble_eq_true rfl) rfl rfl) ?_
 refine ap<|aa<|aN 11 rfl rfl<|an 1<|ag (aw (cR C) au rfl)<|an 2<|ag (aw (cR xa) au rfl)<|an 1<|ag (aw (cR yb) au rfl) ?_
 refine ag (aj rfl (il (by first|assumption|exact Rz.mono hxa (by decide)) (by first|assumption|exact Rz.mono hyb (by decide)))) ?_
 refine ag (aj rfl (il (by first|assumption|exact Rz.mono (Rz.int (by assumption) (by decide)) (by decide)) (by first|assumption|exact Rz.mono (Rz.mul hxa hyb) (by decide)))) ?_
 refine ag (aj rfl (qu (by first|assumption|exact Rz.mono hC (by decide)) (by first|assumption|exact Rz.mono (Rz.mul (Rz.int (by assumption) (by decide)) (Rz.mul hxa hyb)) (by decide)))) ?_
 refine bK<|ar<|dd (bn (us:=(cR (A+((((n:Int):Rat))*(xa*ya)))++cR (B+((((n:Int):Rat))*(xb*ya)))++cR (C+((((n:Int):Rat))*(xa*yb)))++cR D++cR M++cR N)) au rfl rfl rfl rfl (Nat.le_of_ble_eq_true rfl) rfl rfl) ?_
 refine ap<|aa<|aN 11 rfl rfl<|an 1<|ag (aw (cR D) au rfl)<|an 2<|ag (aw (cR xb) au rfl)<|an 1<|ag (aw (cR yb) au rfl) ?_
 refine ag (aj rfl (il (by first|assumption|exact Rz.mono hxb (by decide)) (by first|assumption|exact Rz.mono hyb (by decide)))) ?_
 refine ag (aj rfl (il (by first|assumption|exact Rz.mono (Rz.int (by assumption) (by decide)) (by decide)) (by first|assumption|exact Rz.mono (Rz.mul hxb hyb) (by decide)))) ?_
 refine ag (aj rfl (qu (by first|assumption|exact Rz.mono hD (by decide)) (by first|assumption|exact Rz.mono (Rz.mul (Rz.int (by assumption) (by decide)) (Rz.mul hxb hyb)) (by decide)))) ?_
 refine bK<|ar<|dd (bn (us:=(cR (A+((((n:Int):Rat))*(xa*ya)))++cR (B+((((n:Int):Rat))*(xb*ya)))++cR (C+((((n:Int):Rat))*(xa*yb)))++cR (D+((((n:Int):Rat))*(xb*yb)))++cR M++cR N)) au rfl rfl rfl rfl (Nat.le_of_ble_eq_true rfl) rfl rfl) ?_
 refine ap<|aa<|ab<|ai<|al ?_
 exact ao (bh t8 rfl ae)
theorem KH {k:Ci}(hk:GK k) {p q:Pt}(hp:GP p) (hq:GP q) {m:Rat}(hm:Rz 10 m):Ok Tryz.prog 62 [.a (dc k),.a (aA p),.a (aA q),dR m] [.c (.i .i64 (yT k p q)),.c (.i .i64 (BX k p q m))]:=by
 obtain⟨s1,s2,s3,s4⟩:=wB hk hp hq
 obtain⟨c1,c2,c3,c4⟩:=Ka hk hp hq
 obtain⟨d1,d2,d3,d4⟩:=DN hk hp hq hm
 have z0:Rz 4000 (0:Rat):=Rz.zero (by decide)
 have t0:Rz 4000 (p.a1-k.x):=s1.m_
 have t1:Rz 4000 (p.a2-k.y):=s2.m_
 have t2:Rz 4000 (q.a1-k.x):=s3.m_
 have t3:Rz 4000 (q.a2-k.y):=s4.m_
 have t4:Rz 4000 (p.b1):=hp.b1.m_
 have t5:Rz 4000 (p.b2):=hp.b2.m_
 have t6:Rz 4000 (q.b1):=hq.b1.m_
 have t7:Rz 4000 (q.b2):=hq.b2.m_
 have u0:Rz 4000 ((p.a1-k.x)*(q.a1-k.x)):=(s1.mul s3).m_
 have u1:Rz 4000 (p.b1*(q.a1-k.x)):=(hp.b1.mul s3).m_
 have u2:Rz 4000 ((p.a1-k.x)*q.b1):=(s1.mul hq.b1).m_
 have u3:Rz 4000 (p.b1*q.b1):=(hp.b1.mul hq.b1).m_
 have u4:Rz 4000 ((p.a1-k.x)*(q.a2-k.y)):=(s1.mul s4).m_
 have u5:Rz 4000 (p.b1*(q.a2-k.y)):=(hp.b1.mul s4).m_
 have u6:Rz 4000 ((p.a1-k.x)*q.b2):=(s1.mul hq.b2).m_
 have u7:Rz 4000 (p.b1*q.b2):=(hp.b1.mul hq.b2).m_
 have e1:Rz 60000 (p.a1-k.x):=s1.m_
 have dA0:Rz 60000 ((p.a1-k.x)*(q.a1-k.x)+(p.a2-k.y)*(q.a2-k.y)):=((s1.mul s3).add (s2.mul s4)).m_
 have hm6:Rz 60000 m:=hm.m_
 refine Ok.fn Tryz.func62 86 [.tmp 8,.tmp 9] rfl<|aa<|ab<|ai<|aa<|cm 20 [10,11,999999] a7 (by kernel_rfl) rfl rfl<|an 1<|ag (aw (cR p.a1) au rfl)<|an 1<|ag (aw (cR k.x) au rfl)<|ag (aj rfl (lF (aO (hp.a1)) (aO (hk.x))))<|an 1<|ag (aw (cR p.b1) au rfl)<|ag (aD (us:=(cR (p.a1-k.x)++cR p.b1)) zW p9 rfl rfl rfl) ?_
 refine an 1<|ag (aw (cR p.a2) au rfl)<|an 1<|ag (aw (cR k.y) au rfl)<|ag (aj rfl (lF (aO (hp.a2)) (aO (hk.y))))<|an 1<|ag (aw (cR p.b2) au rfl)<|ag (aD (us:=(cR (p.a2-k.y)++cR p.b2)) zW p9 rfl rfl rfl) ?_
 refine ba (ah p9 rfl) rfl<|ba (ah p9 rfl) rfl<|iz (fE Be rfl) rfl rfl rfl rfl<|iz (fE Be rfl) rfl rfl rfl rfl<|aR<|fz<|ap<|aa<|cm 20 [12,13,999999] a7 (by kernel_rfl) rfl rfl<|an 1<|ag (aw (cR q.a1) au rfl)<|an 1<|ag (aw (cR k.x) au rfl)<|ag (aj rfl (lF (aO (hq.a1)) (aO (hk.x)))) ?_
 refine an 1<|ag (aw (cR q.b1) au rfl)<|ag (aD (us:=(cR (q.a1-k.x)++cR q.b1)) zW p9 rfl rfl rfl) ?_
 refine an 1<|ag (aw (cR q.a2) au rfl)<|an 1<|ag (aw (cR k.y) au rfl)<|ag (aj rfl (lF (aO (hq.a2)) (aO (hk.y))))<|an 1<|ag (aw (cR q.b2) au rfl)<|ag (aD (us:=(cR (q.a2-k.y)++cR q.b2)) zW p9 rfl rfl rfl) ?_
 refine ba (ah p9 rfl) rfl<|ba (ah p9 rfl) rfl<|iz (fE Be rfl) rfl rfl rfl rfl<|iz (fE Be rfl) rfl rfl rfl rfl<|aR<|fz<|ap<|aa<|ab<|ai<|aa<|ab<|ak (aj rfl (cJ (pJ (by decide) (by decide)) (show((0:Int):Rat)=0 from rfl)))<|az (ah br rfl) rfl ?_
 refine ai<|aa<|ab<|am 5<|ak (aw (cR p.c) au rfl)<|am 1<|ak (aw (cR q.c) au rfl)<|ak (aD (us:=(cR 0++cR 0++cR 0++cR 0++cR p.c++cR q.c)) tc jH rfl rfl rfl) ?_
 refine az (ah jH rfl) rfl<|ai<|aa<|aN 10 rfl rfl<|an 5 ?_
 refine ag (aj rfl (uv (BH (by first|assumption|(exact Rz.mono (by assumption) (by decide))) (by first|assumption|(exact Rz.mono (by assumption) (by decide))) (by first|assumption|(exact Rz.mono (by assumption) (by decide))) (by first|assumption|(exact Rz.mono (by assumption) (by decide))) (by first|assumption|(exact Rz.mono (by assumption) (by decide))) (by first|assumption|(exact Rz.mono (by assumption) (by decide))) (by first|assumption|(exact Rz.mono (by assumption) (by decide))) (by first|assumption|(exact Rz.mono (by assumption) (by decide))) (by decide) (by decide)) (lX _) (lX _) (lX _) (lX _))) ?_
 refine an 2 ?_
 refine ag (aj rfl (uv (BH (by first|assumption|(exact Rz.mono (by assumption) (by decide))) (by first|assumption|(exact Rz.mono (by assumption) (by decide))) (by first|assumption|(exact Rz.mono (by assumption) (by decide))) (by first|assumption|(exact Rz.mono (by assumption) (by decide))) (by first|assumption|(exact Rz.mono (by assumption) (by decide))) (by first|assumption|(exact Rz.mono (by assumption) (by decide))) (by first|assumption|(exact Rz.mono (by assumption) (by decide))) (by first|assumption|(exact Rz.mono (by assumption) (by decide))) (by decide) (by decide)) (vj _ _) (vj _ _) (vj _ _) (vj _ _))) ?_
 refine ba (ah jH rfl) rfl<|aR<|bg<|ai<|aa<|ab<|am 1<|ak (aw (cR (((p.a1-k.x)*(q.a1-k.x))+((p.a2-k.y)*(q.a2-k.y)))) au rfl)<|am 1<|ak (aj rfl (lF (aO (Rz.add (Rz.mul (Rz.sub (hp.a1) (hk.x)) (Rz.sub (hq.a1) (hk.x))) (Rz.mul (Rz.sub (hp.a2) (hk.y)) (Rz.sub (hq.a2) (hk.y))))) (MT)))<|am 1<|dd (bn (us:=(cR ((((p.a1-k.x)*(q.a1-k.x))+((p.a2-k.y)*(q.a2-k.y)))-m)++cR ((p.b1*(q.a1-k.x))+(p.b2*(q.a2-k.y)))++cR (((p.a1-k.x)*q.b1)+((p.a2-k.y)*q.b2))++cR ((p.b1*q.b1)+(p.b2*q.b2))++cR p.c++cR q.c)) au rfl rfl rfl rfl (Nat.le_of_ble_eq_true rfl) rfl rfl) ?_
 refine ap<|aa<|aN 14 rfl rfl<|an 5 ?_
 refine ag (aj rfl (uv (BH (by first|assumption|(exact Rz.mono (by assumption) (by decide))) (by first|assumption|(exact Rz.mono (by assumption) (by decide))) (by first|assumption|(exact Rz.mono (by assumption) (by decide))) (by first|assumption|(exact Rz.mono (by assumption) (by decide))) (by first|assumption|(exact Rz.mono (by assumption) (by decide))) (by first|assumption|(exact Rz.mono (by assumption) (by decide))) (by first|assumption|(exact Rz.mono (by assumption) (by decide))) (by first|assumption|(exact Rz.mono (by assumption) (by decide))) (by decide) (by decide)) (lX _) (lX _) (lX _) (lX _))) ?_
 refine an 2 ?_
 refine ag (aj rfl (uv (BH (by first|assumption|(exact Rz.mono (by assumption) (by decide))) (by first|assumption|(exact Rz.mono (by assumption) (by decide))) (by first|assumption|(exact Rz.mono (by assumption) (by decide))) (by first|assumption|(exact Rz.mono (by assumption) (by decide))) (by first|assumption|(exact Rz.mono (by assumption) (by decide))) (by first|assumption|(exact Rz.mono (by assumption) (by decide))) (by first|assumption|(exact Rz.mono (by assumption) (by decide))) (by first|assumption|(exact Rz.mono (by assumption) (by decide))) (by decide) (by decide)) (vb _ _) (vb _ _) (vb _ _) (vb _ _))) ?_
 refine ag (aj rfl (GA (t9 c1 c2 c3 c4 (hp.c.m_) (hq.c.m_)) (rY _ _ _ _ _ _)))<|an 1<|ag (aj rfl (GA (t9 d1 d2 d3 d4 (hp.c.m_) (hq.c.m_)) (rY _ _ _ _ _ _)))<|bK<|ar<|ap<|al ?_
 exact ao (aC (aC ae))
theorem F8 {k:Ci}(hk:GK k) {p:Pt}(hp:GP p):Ok Tryz.prog 225 [.a (aA p),.a ((cR k.x++cR k.y))] [.a ((cR (p.a1-k.x)++cR p.b1++cR p.c)),.a ((cR (p.a2-k.y)++cR p.b2++cR p.c))]:=by
 refine Ok.fn Tryz.func225 26 [.cell 4 67,.cell 5 67] rfl<|aa<|ab<|am 2<|az (ah gj rfl) rfl<|az (ah gj rfl) rfl<|ap<|aa<|cm 22 [4,5,999999] a7 (by kernel_rfl) rfl rfl<|an 1<|ag (aw (cR p.a1) au rfl)<|an 1<|ag (aw (cR k.x) au rfl)<|ag (aj rfl (E7 (aO (hp.a1)) (aO (hk.x)))) ?_
 refine an 1<|ag (aw (cR p.b1) au rfl)<|an 1<|ag (aw (cR p.c) au rfl)<|ag (aD (us:=(cR (p.a1-k.x)++cR p.b1++cR p.c)) B4 gj rfl rfl rfl) ?_
 refine an 1<|ag (aw (cR p.a2) au rfl)<|an 1<|ag (aw (cR k.y) au rfl)<|ag (aj rfl (E7 (aO (hp.a2)) (aO (hk.y))))<|an 1<|ag (aw (cR p.b2) au rfl)<|an 1<|ag (aw (cR p.c) au rfl)<|ag (aD (us:=(cR (p.a2-k.y)++cR p.b2++cR p.c)) B4 gj rfl rfl rfl) ?_
 refine fU (fE iL rfl) rfl rfl rfl rfl<|fU (fE iL rfl) rfl rfl rfl rfl<|aR<|cf<|ap<|al ?_
 exact ao (bh iL rfl (bh iL rfl ae))
theorem xU {a b c d e f:Rat}(ha:Rz 4000 a) (hb:Rz 4000 b) (hd:Rz 4000 d) (he:Rz 4000 e):Ok Tryz.prog 227 [.a ((cR a++cR b++cR c)),.a ((cR d++cR e++cR f))] [.a ((cR (a*d)++cR (b*d)++cR (a*e)++cR (b*e)++cR c++cR f))]:=by
 refine Ok.fn Tryz.func227 30 [.cell 4 105] rfl<|aa<|ab<|am 2<|az (ah jH rfl) rfl<|ap<|aa<|aN 25 rfl rfl<|an 1<|ag (aw (cR a) au rfl)<|an 1<|ag (aw (cR d) au rfl)<|ag (aj rfl (uj (aO ha) (aO hd)))<|an 1 ?_
 refine ag (aw (cR b) au rfl)<|an 1<|ag (aw (cR d) au rfl)<|ag (aj rfl (uj (aO hb) (aO hd)))<|an 1<|ag (aw (cR a) au rfl)<|an 1<|ag (aw (cR e) au rfl)<|ag (aj rfl (uj (aO ha) (aO he)))<|an 1<|ag (aw (cR b) au rfl)<|an 1<|ag (aw (cR e) au rfl)<|ag (aj rfl (uj (aO hb) (aO he))) ?_
 refine an 1<|ag (aw (cR c) au rfl)<|an 1<|ag (aw (cR f) au rfl)<|ag (aD (us:=(cR (a*d)++cR (b*d)++cR (a*e)++cR (b*e)++cR c++cR f)) tc jH rfl rfl rfl) ?_
 refine aR<|ar<|ai<|al ?_
 exact ao (bh t8 rfl ae)
theorem Jc {A B C D M N E F G H O S:Rat}(hA:Rz 20000 A) (hB:Rz 20000 B) (hC:Rz 20000 C) (hD:Rz 20000 D) (hE:Rz 20000 E) (hF:Rz 20000 F) (hG:Rz 20000 G) (hH:Rz 20000 H):Ok Tryz.prog 226 [.a ((cR A++cR B++cR C++cR D++cR M++cR N)),.a ((cR E++cR F++cR G++cR H++cR O++cR S))] [.a ((cR (A+E)++cR (B+F)++cR (C+G)++cR (D+H)++cR M++cR N))]:=by
 refine Ok.fn Tryz.func226 30 [.cell 4 105] rfl<|aa<|ab<|am 2<|az (ah jH rfl) rfl<|ap<|aa<|aN 25 rfl rfl<|an 1<|ag (aw (cR A) au rfl)<|an 1<|ag (aw (cR E) au rfl)<|ag (aj rfl (uM (aO hA) (aO hE)))<|an 1 ?_
 refine ag (aw (cR B) au rfl)<|an 1<|ag (aw (cR F) au rfl)<|ag (aj rfl (uM (aO hB) (aO hF)))<|an 1<|ag (aw (cR C) au rfl)<|an 1<|ag (aw (cR G) au rfl)<|ag (aj rfl (uM (aO hC) (aO hG)))<|an 1<|ag (aw (cR D) au rfl)<|an 1<|ag (aw (cR H) au rfl)<|ag (aj rfl (uM (aO hD) (aO hH))) ?_
 refine an 1<|ag (aw (cR M) au rfl)<|an 1<|ag (aw (cR N) au rfl)<|ag (aD (us:=(cR (A+E)++cR (B+F)++cR (C+G)++cR (D+H)++cR M++cR N)) tc jH rfl rfl rfl) ?_
 refine aR<|ar<|ai<|al ?_
 exact ao (bh t8 rfl ae)
theorem Lx {A B C D M N:Rat}(hA:Rz 20000 A) (hB:Rz 20000 B) (hC:Rz 20000 C) (hD:Rz 20000 D):Ok Tryz.prog 228 [.a ((cR A++cR B++cR C++cR D++cR M++cR N))] [.a ((cR (-A)++cR (-B)++cR (-C)++cR (-D)++cR M++cR N))]:=by
 refine Ok.fn Tryz.func228 20 [.cell 2 105] rfl<|aa<|ab<|am 1<|az (ah jH rfl) rfl<|ap<|aa<|aN 17 rfl rfl<|an 1<|ag (aw (cR A) au rfl)<|ag (aj rfl (eD (aO hA)))<|an 1<|ag (aw (cR B) au rfl)<|ag (aj rfl (eD (aO hB))) ?_
 refine an 1<|ag (aw (cR C) au rfl)<|ag (aj rfl (eD (aO hC)))<|an 1<|ag (aw (cR D) au rfl)<|ag (aj rfl (eD (aO hD)))<|an 1<|ag (aw (cR M) au rfl)<|an 1<|ag (aw (cR N) au rfl)<|ag (aD (us:=(cR (-A)++cR (-B)++cR (-C)++cR (-D)++cR M++cR N)) tc jH rfl rfl rfl) ?_
 refine aR<|ar<|ai<|al ?_
 exact ao (bh t8 rfl ae)
theorem Fk {k:Ci}(hk:GK k) {p q:Pt}(hp:GP p) (hq:GP q):Ok Tryz.prog 141 [.a ((cR k.x++cR k.y)),.a (aA p),.a (aA q)] [.c (.i .i64 (yT k p q))]:=by
 obtain⟨s1,s2,s3,s4⟩:=wB hk hp hq
 obtain⟨c1,c2,c3,c4⟩:=Ka hk hp hq
 have t0:Rz 4000 (p.a1-k.x):=s1.m_
 have t1:Rz 4000 (p.a2-k.y):=s2.m_
 have t2:Rz 4000 (q.a1-k.x):=s3.m_
 have t3:Rz 4000 (q.a2-k.y):=s4.m_
 have t4:Rz 4000 (p.b1):=hp.b1.m_
 have t5:Rz 4000 (p.b2):=hp.b2.m_
 have t6:Rz 4000 (q.b1):=hq.b1.m_
 have t7:Rz 4000 (q.b2):=hq.b2.m_
 have u0:Rz 20000 ((p.a1-k.x)*(q.a2-k.y)):=(s1.mul s4).m_
 have u1:Rz 20000 (p.b1*(q.a2-k.y)):=(hp.b1.mul s4).m_
 have u2:Rz 20000 ((p.a1-k.x)*q.b2):=(s1.mul hq.b2).m_
 have u3:Rz 20000 (p.b1*q.b2):=(hp.b1.mul hq.b2).m_
 have u4:Rz 20000 ((p.a2-k.y)*(q.a1-k.x)):=(s2.mul s3).m_
 have u5:Rz 20000 (p.b2*(q.a1-k.x)):=(hp.b2.mul s3).m_
 have u6:Rz 20000 ((p.a2-k.y)*q.b1):=(s2.mul hq.b1).m_
 have u7:Rz 20000 (p.b2*q.b1):=(hp.b2.mul hq.b1).m_
 have w0:Rz 20000 (-((p.a2-k.y)*(q.a1-k.x))):=Rz.neg u4
 have w1:Rz 20000 (-(p.b2*(q.a1-k.x))):=Rz.neg u5
 have w2:Rz 20000 (-((p.a2-k.y)*q.b1)):=Rz.neg u6
 have w3:Rz 20000 (-(p.b2*q.b1)):=Rz.neg u7
 refine Ok.fn Tryz.func141 32 [.tmp 6] rfl<|aa<|ab<|ai<|aa<|ab<|am 2<|ak (aj rfl (F8 hk hp))<|am 3<|az (ah gj rfl) rfl<|az (ah gj rfl) rfl<|ai<|aa<|ab ?_
 refine am 2<|ak (aj rfl (F8 hk hq))<|am 3<|az (ah gj rfl) rfl<|az (ah gj rfl) rfl<|ai<|aa<|aN 10 rfl rfl<|an 2 ?_
 refine ag (aj rfl (xU (by first|assumption|(exact Rz.mono (by assumption) (by decide))) (by first|assumption|(exact Rz.mono (by assumption) (by decide))) (by first|assumption|(exact Rz.mono (by assumption) (by decide))) (by first|assumption|(exact Rz.mono (by assumption) (by decide))))) ?_
 refine an 2 ?_
 refine ag (aj rfl (xU (by first|assumption|(exact Rz.mono (by assumption) (by decide))) (by first|assumption|(exact Rz.mono (by assumption) (by decide))) (by first|assumption|(exact Rz.mono (by assumption) (by decide))) (by first|assumption|(exact Rz.mono (by assumption) (by decide))))) ?_
 refine ag (aj rfl (Lx (by assumption) (by assumption) (by assumption) (by assumption)))<|ag (aj rfl (Jc (by assumption) (by assumption) (by assumption) (by assumption) (by assumption) (by assumption) (by assumption) (by assumption)))<|ag (aj rfl (pM c1 c2 c3 c4 (hp.c.m_) (hq.c.m_)))<|bK<|ar<|ap<|al ?_
 exact ao (aC ae)
theorem NL {k:Ci}:Ok Tryz.prog 142 [.a (dc k)] [.a ((cR k.x++cR k.y))]:=by
 refine Ok.fn Tryz.func142 8 [.cell 2 64] rfl<|aa<|ab<|am 1<|az (ah fR rfl) rfl<|ap<|aa<|ab<|am 1<|ak (aw (cR k.x) au rfl)<|am 1<|ak (aw (cR k.y) au rfl)<|ak (aD (us:=(cR k.x++cR k.y)) ko fR rfl rfl rfl) ?_
 refine ai<|al ?_
 exact ao (bh O0 rfl ae)
theorem vO {a b c d:Rat}(ha:Rz 4000 a) (hb:Rz 4000 b) (hc:Rz 4000 c) (hd:Rz 4000 d):Ok Tryz.prog 146 [dR a,dR b,dR c,dR d] [dR (a*b+c*d)]:=by
 refine Ok.fn Tryz.func146 16 [.cell 8 31] rfl<|aa<|ab<|am 4<|az (ah br rfl) rfl<|ap<|aa<|aN 7 rfl rfl<|an 2<|ag (aj rfl (bZ (aO ha) (aO hb)))<|an 2<|ag (aj rfl (bZ (aO hc) (aO hd)))<|ag (aj rfl (dK (aO (Rz.mul ha hb)) (aO (Rz.mul hc hd))))<|aR ?_
 refine ar<|ai<|al ?_
 exact ao (bh au rfl ae)
theorem Lp {k:Ci}(hk:GK k) {w:Bool}{p q:Pt}(hp:GP p) (hq:GP q) {m:Rat}(hm:Rz 10 m):Ok Tryz.prog 68 [.a (([.b true]++d8++dc k++[.b w]++aA p++aA q)),dR m] [.a ((cR (Mv k p q m)++cR (LV k p q)++cR (KL k p q)++cR (MV p q)++cR p.c++cR q.c))]:=by
 obtain⟨s1,s2,s3,s4⟩:=wB hk hp hq
 obtain⟨d1,d2,d3,d4⟩:=DN hk hp hq hm
 have t0:Rz 4000 (p.a1-k.x):=s1.m_
 have t1:Rz 4000 (p.a2-k.y):=s2.m_
 have t2:Rz 4000 (q.a1-k.x):=s3.m_
 have t3:Rz 4000 (q.a2-k.y):=s4.m_
 have t4:Rz 4000 (p.b1):=hp.b1.m_
 have t5:Rz 4000 (p.b2):=hp.b2.m_
 have t6:Rz 4000 (q.b1):=hq.b1.m_
 have t7:Rz 4000 (q.b2):=hq.b2.m_
 have dA0:Rz 60000 ((p.a1-k.x)*(q.a1-k.x)+(p.a2-k.y)*(q.a2-k.y)):=((s1.mul s3).add (s2.mul s4)).m_
 have hm6:Rz 60000 m:=hm.m_
 refine Ok.fn Tryz.func68 74 [.cell 4 105] rfl<|aa<|ab<|am 2<|az (ah jH rfl) rfl<|ap<|aa<|cm 8 [5,6,999999] a7 (by kernel_rfl) rfl rfl<|an 1<|ag (dX (aA p) cn rfl (by kernel_rfl))<|an 1<|ag (dX (aA q) cn rfl (by kernel_rfl))<|ba (ah jO rfl) rfl<|ba (ah jO rfl) rfl ?_
 refine iz (fE cn rfl) rfl rfl rfl rfl<|iz (fE cn rfl) rfl rfl rfl rfl<|aR<|fz<|ap<|aa<|aN 14 rfl rfl<|an 1<|ag (aw (cR p.a1) au rfl)<|an 2<|ag (dX (cR k.x) au rfl (by kernel_rfl))<|ag (aj rfl (dA (aO (hp.a1)) (aO (hk.x))))<|an 1<|ag (aw (cR p.a2) au rfl) ?_
 refine an 2<|ag (dX (cR k.y) au rfl (by kernel_rfl))<|ag (aj rfl (dA (aO (hp.a2)) (aO (hk.y))))<|ba (ah br rfl) rfl<|ba (ah br rfl) rfl<|aR<|cf<|ai<|aa<|aN 14 rfl rfl<|an 1<|ag (aw (cR q.a1) au rfl)<|an 2<|ag (dX (cR k.x) au rfl (by kernel_rfl)) ?_
 refine ag (aj rfl (dA (aO (hq.a1)) (aO (hk.x))))<|an 1<|ag (aw (cR q.a2) au rfl)<|an 2<|ag (dX (cR k.y) au rfl (by kernel_rfl))<|ag (aj rfl (dA (aO (hq.a2)) (aO (hk.y))))<|ba (ah br rfl) rfl<|ba (ah br rfl) rfl<|aR<|cf<|ai<|aa<|aN 35 rfl rfl<|an 4 ?_
 refine ag (aj rfl (vO (by first|assumption|(exact Rz.mono (by assumption) (by decide))) (by first|assumption|(exact Rz.mono (by assumption) (by decide))) (by first|assumption|(exact Rz.mono (by assumption) (by decide))) (by first|assumption|(exact Rz.mono (by assumption) (by decide))))) ?_
 refine an 1<|ag (aj rfl (dA (aO (Rz.add (Rz.mul (Rz.sub (hp.a1) (hk.x)) (Rz.sub (hq.a1) (hk.x))) (Rz.mul (Rz.sub (hp.a2) (hk.y)) (Rz.sub (hq.a2) (hk.y))))) (MT)))<|an 1<|ag (aw (cR p.b1) au rfl)<|an 2<|ag (aw (cR p.b2) au rfl)<|an 1 ?_
 refine ag (aj rfl (vO (by first|assumption|(exact Rz.mono (by assumption) (by decide))) (by first|assumption|(exact Rz.mono (by assumption) (by decide))) (by first|assumption|(exact Rz.mono (by assumption) (by decide))) (by first|assumption|(exact Rz.mono (by assumption) (by decide))))) ?_
 refine an 2<|ag (aw (cR q.b1) au rfl)<|an 2<|ag (aw (cR q.b2) au rfl) ?_
 refine ag (aj rfl (vO (by first|assumption|(exact Rz.mono (by assumption) (by decide))) (by first|assumption|(exact Rz.mono (by assumption) (by decide))) (by first|assumption|(exact Rz.mono (by assumption) (by decide))) (by first|assumption|(exact Rz.mono (by assumption) (by decide))))) ?_
 refine an 1<|ag (aw (cR p.b1) au rfl)<|an 1<|ag (aw (cR q.b1) au rfl)<|an 1<|ag (aw (cR p.b2) au rfl)<|an 1<|ag (aw (cR q.b2) au rfl) ?_
 refine ag (aj rfl (vO (by first|assumption|(exact Rz.mono (by assumption) (by decide))) (by first|assumption|(exact Rz.mono (by assumption) (by decide))) (by first|assumption|(exact Rz.mono (by assumption) (by decide))) (by first|assumption|(exact Rz.mono (by assumption) (by decide))))) ?_
 refine an 1<|ag (aw (cR p.c) au rfl)<|an 1<|ag (aw (cR q.c) au rfl)<|ag (aD (us:=(cR (((p.a1-k.x)*(q.a1-k.x)+(p.a2-k.y)*(q.a2-k.y))-m)++cR (p.b1*(q.a1-k.x)+p.b2*(q.a2-k.y))++cR ((p.a1-k.x)*q.b1+(p.a2-k.y)*q.b2)++cR (p.b1*q.b1+p.b2*q.b2)++cR p.c++cR q.c)) tc jH rfl rfl rfl) ?_
 refine aR<|ar<|ai<|al ?_
 exact ao (bh t8 rfl ae)
theorem Gq {k:Ci}(hk:GK k) {w:Bool}{p q:Pt}(hp:GP p) (hq:GP q):Ok Tryz.prog 66 [.a (([.b true]++d8++dc k++[.b w]++aA p++aA q))] [.c (.b (decide (nO w k p q≥0)))]:=by
 refine Ok.fn Tryz.func66 18 [.tmp 2] rfl<|aa<|ab<|ai<|aa<|aN 9 rfl rfl<|an 1<|ag (dX (dc k) oK rfl (by kernel_rfl))<|ag (aj rfl (NL))<|an 1<|ag (dX (aA p) cn rfl (by kernel_rfl))<|an 1<|ag (dX (aA q) cn rfl (by kernel_rfl))<|ag (aj rfl (Fk hk hp hq)) ?_
 refine bK<|ar<|ap<|aa<|aa<|ab<|ai ?_
 refine ay rfl (fun hc1=>?_) (fun hc1=>?_)
 ·--region 3
  refine ab<|am 1<|ak (eE (r:= -yT k p q) rfl (rk (LK _ _ _)) rfl) ?_
  refine ai<|aa<|ab<|ai<|al ?_
  rw[show nO w k p q= -yT k p q from by unfold nO;rw[hc1];rfl]
  exact ao (aC ae)
 ·refine aq<|aa<|ab<|ai<|al ?_
  rw[show nO w k p q=yT k p q from by unfold nO;rw[hc1];rfl]
  exact ao (aC ae)
theorem Lt {k:Ci}(hk:GK k) {w:Bool}{p q:Pt}(hp:GP p) (hq:GP q) {x:Rat}(hx:Rz 3 x):Ok Tryz.prog 20 [.a (([.b true]++d8++dc k++[.b w]++aA p++aA q)),dR x] [.c (.i .i64 (sG w k p q x)),.c (.i .i64 (GG w k p q x))]:=by
 have hm:Rz 10 (x*k.q):=(hx.mul hk.q).m_
 have x6:Rz 60000 x:=hx.m_
 have q6:Rz 60000 k.q:=hk.q.m_
 obtain⟨d1,d2,d3,d4⟩:=DN hk hp hq hm
 refine Ok.fn Tryz.func20 28 [.tmp 4,.tmp 5] rfl<|aa<|ab<|ai<|aa<|aa<|ab<|am 5<|ak (aj rfl (C9 (hx.m_)))<|am 2 ?_
 refine dh (ca rfl) (fun c1 hb1=>?_)
 cases c1
 ·have n1:mw x=true:=by simpa using hb1
  refine am 1<|ak (aj rfl (Gq hk hp hq))<|ai ?_
  refine ay rfl (fun hc2=>?_) (fun hc2=>?_)
  ·have n2:decide (nO w k p q≥0)=false:=by simpa using hc2
   refine aa<|ab<|ai<|al ?_
   rw[(pt n2:sG w k p q x=0∧_).1,(pt n2:sG w k p q x=0∧_).2]
   exact ao (aC (aC ae))
  ·have n2:decide (nO w k p q≥0)=true:=by simpa using hc2
   refine aq<|aa<|aN 11 rfl rfl<|an 4<|ag (dX (cR k.q) au rfl (by kernel_rfl))<|ag (aj rfl (bZ (aO hx) (aO (hk.q))))<|ag (aj rfl (Lp hk hp hq hm))<|ag (aj rfl (pM d1 d2 d3 d4 (hp.c.m_) (hq.c.m_)))<|ag (eE (r:= -BX k p q (x*k.q)) rfl (rk (y5 _ _ _ _)) rfl) ?_
   refine bK<|ar<|ap<|al ?_
   rw[(pv n1 n2).1,(pv n1 n2).2]
   exact ao (aC (aC ae))
 ·have n1:mw x=false:=by simpa using hb1
  refine ai<|bP rfl<|aa<|ab<|ai<|al ?_
  rw[(pz n1:sG w k p q x=0∧_).1,(pz n1:sG w k p q x=0∧_).2]
  exact ao (aC (aC ae))
theorem HZ {l:Ln}(_hl:GL l) {p q:Pt}{x:Rat}(_hx:Rz 3 x):Ok Tryz.prog 20 [.a (([.b false]++eK l++d8++[.b false]++aA p++aA q)),dR x] [.c (.i .i64 0),.c (.i .i64 1)]:=by
 refine Ok.fn Tryz.func20 28 [.tmp 4,.tmp 5] rfl<|aa<|ab<|ai<|aa<|aa<|ab<|ai<|bP rfl<|aa<|ab<|ai<|al ?_
 exact ao (aC (aC ae))
theorem Oh {l:Ln}(_hl:GL l) {p q:Pt}{x:Rat}(_hx:Rz 3 x):Ok Tryz.prog 18 [.a (([.b false]++eK l++d8++[.b false]++aA p++aA q)),dR x] [.c (.i .i64 0),.c (.i .i64 1)]:=by
 refine Ok.fn Tryz.func18 43 [.tmp 4,.tmp 5] rfl<|aa<|ab<|ai<|aa<|aa<|ab<|ai<|bP rfl<|aa<|ab<|ai<|al ?_
 exact ao (aC (aC ae))
theorem zu {k:Ci}(hk:GK k) {p q:Pt}(hp:GP p) (hq:GP q) {x:Rat}(hx:Rz 3 x):Ok Tryz.prog 18 [.a (([.b true]++d8++dc k++[.b true]++aA p++aA q)),dR x] [.c (.i .i64 (sG true k p q x)),.c (.i .i64 (GG true k p q x))]:=by
 have hm:Rz 10 (x*k.q):=(hx.mul hk.q).m_
 have x6:Rz 60000 x:=hx.m_
 have q6:Rz 60000 k.q:=hk.q.m_
 have v1:=Br hp.v
 have v2:=Br hq.v
 have r1:yT k q p=nO true k p q:=Mx v1 v2
 have r2:BX k q p (x*k.q)=BX k p q (x*k.q):=LM v1 v2
 refine Ok.fn Tryz.func18 43 [.tmp 4,.tmp 5] rfl<|aa<|ab<|ai<|aa<|aa<|ab<|am 5<|ak (aj rfl (AK (hx.m_)))<|ai ?_
 refine ay rfl (fun hc1=>?_) (fun hc1=>?_)
 ·have n1:mw x=false:=by simpa using hc1
  refine aa<|ab<|ai<|al ?_
  rw[(pz n1:sG true k p q x=0∧_).1,(pz n1:sG true k p q x=0∧_).2]
  exact ao (aC (aC ae))
 ·have n1:mw x=true:=by simpa using hc1
  refine aq<|aa<|cm 8 [6,7,999999] a7 (by kernel_rfl) rfl rfl<|an 1<|ag (dX (aA p) cn rfl (by kernel_rfl))<|an 1<|ag (dX (aA q) cn rfl (by kernel_rfl))<|ba (ah jO rfl) rfl<|ba (ah jO rfl) rfl<|iz (fE cn rfl) rfl rfl rfl rfl<|iz (fE cn rfl) rfl rfl rfl rfl<|aR<|fz<|ap ?_
  refine aa<|aa<|ab<|ai<|bP rfl<|ab<|ai<|aa<|aN 15 rfl rfl<|an 1<|ag (dX (dc k) oK rfl (by kernel_rfl))<|an 5<|ag (dX (cR k.q) au rfl (by kernel_rfl))<|ag (aj rfl (il (aO hx) (aO (hk.q)))) ?_
  refine ag (aj rfl (KH hk hq hp hm))<|bK<|ar<|ap<|aa<|aa<|ab<|ai ?_
  refine ay rfl (fun hc2=>?_) (fun hc2=>?_)
  ·have n2:decide (nO true k p q≥0)=false:=by have n3:=of_decide_eq_true hc2;exact decide_eq_false (by rw[←r1];show ¬(_:Int)≥0;omega)
   refine aa<|ab<|ai<|al ?_
   rw[(pt n2:sG true k p q x=0∧_).1,(pt n2:sG true k p q x=0∧_).2]
   exact ao (aC (aC ae))
  ·have n2:decide (nO true k p q≥0)=true:=by have n3:=of_decide_eq_false hc2;exact decide_eq_true (by rw[←r1];omega)
   refine aq<|aa<|ab<|am 1<|ak (eE (r:= -BX k q p (x*k.q)) rfl (rk (y5 _ _ _ _)) rfl) ?_
   refine ai<|al ?_
   rw[(pv n1 n2).1,(pv n1 n2).2,←r2]
   exact ao (aC (aC ae))
theorem xE {k:Ci}(hk:GK k) {p q:Pt}(hp:GP p) (hq:GP q) {x:Rat}(hx:Rz 3 x):Ok Tryz.prog 18 [.a (([.b true]++d8++dc k++[.b false]++aA p++aA q)),dR x] [.c (.i .i64 (sG false k p q x)),.c (.i .i64 (GG false k p q x))]:=by
 have hm:Rz 10 (x*k.q):=(hx.mul hk.q).m_
 have x6:Rz 60000 x:=hx.m_
 have q6:Rz 60000 k.q:=hk.q.m_
 refine Ok.fn Tryz.func18 43 [.tmp 4,.tmp 5] rfl<|aa<|ab<|ai<|aa<|aa<|ab<|am 5<|ak (aj rfl (AK (hx.m_)))<|ai ?_
 refine ay rfl (fun hc1=>?_) (fun hc1=>?_)
 ·have n1:mw x=false:=by simpa using hc1
  refine aa<|ab<|ai<|al ?_
  rw[(pz n1:sG false k p q x=0∧_).1,(pz n1:sG false k p q x=0∧_).2]
  exact ao (aC (aC ae))
 ·have n1:mw x=true:=by simpa using hc1
  refine aq<|aa<|cm 8 [6,7,999999] a7 (by kernel_rfl) rfl rfl<|an 1<|ag (dX (aA p) cn rfl (by kernel_rfl))<|an 1<|ag (dX (aA q) cn rfl (by kernel_rfl))<|ba (ah jO rfl) rfl<|ba (ah jO rfl) rfl<|iz (fE cn rfl) rfl rfl rfl rfl<|iz (fE cn rfl) rfl rfl rfl rfl<|aR<|fz<|ap ?_
  refine aa<|aa<|ab<|ai<|bj rfl<|aq<|aa<|aN 15 rfl rfl<|an 1<|ag (dX (dc k) oK rfl (by kernel_rfl))<|an 5<|ag (dX (cR k.q) au rfl (by kernel_rfl))<|ag (aj rfl (il (aO hx) (aO (hk.q))))<|ag (aj rfl (KH hk hp hq hm)) ?_
  refine bK<|ar<|ap<|aa<|aa<|ab<|ai ?_
  refine ay rfl (fun hc2=>?_) (fun hc2=>?_)
  ·have n2:decide (nO false k p q≥0)=false:=by have n3:=of_decide_eq_true hc2;exact decide_eq_false (by show ¬yT k p q≥0;show ¬(_:Int)≥0;omega)
   refine aa<|ab<|ai<|al ?_
   rw[(pt n2:sG false k p q x=0∧_).1,(pt n2:sG false k p q x=0∧_).2]
   exact ao (aC (aC ae))
  ·have n2:decide (nO false k p q≥0)=true:=by have n3:=of_decide_eq_false hc2;exact decide_eq_true (by show yT k p q≥0;omega)
   refine aq<|aa<|ab<|am 1<|ak (eE (r:= -BX k p q (x*k.q)) rfl (rk (y5 _ _ _ _)) rfl) ?_
   refine ai<|al ?_
   rw[(pv n1 n2).1,(pv n1 n2).2]
   exact ao (aC (aC ae))
theorem J1 {l:Ln}(hl:GL l):Ok Tryz.prog 234 [.a (eK l)] [dR (fZ l)]:=by
 refine Ok.fn Tryz.func234 14 [.cell 2 31] rfl<|aa<|ab<|am 1<|az (ah br rfl) rfl<|ap<|aa<|aN 11 rfl rfl<|an 1<|ag (aw (cR l.a) au rfl)<|an 1<|ag (aw (cR l.a) au rfl)<|ag (aj rfl (cT (aO (hl.a)) (aO (hl.a))))<|an 1 ?_
 refine ag (aw (cR l.b) au rfl)<|an 1<|ag (aw (cR l.b) au rfl)<|ag (aj rfl (cT (aO (hl.b)) (aO (hl.b))))<|ag (aj rfl (jX (aO (Rz.mul (hl.a) (hl.a))) (aO (Rz.mul (hl.b) (hl.b)))))<|aR<|ar<|ai<|al ?_
 exact ao (bh au rfl ae)
theorem Ju {l:Ln}{k:Ci}(hl:GL l) (hk:GK k):Ok Tryz.prog 236 [.a (eK l),dR k.x,dR k.y] [dR (ll l k.x k.y)]:=by
 refine Ok.fn Tryz.func236 19 [.cell 6 31] rfl<|aa<|ab<|am 3<|az (ah br rfl) rfl<|ap<|aa<|aN 12 rfl rfl<|an 1<|ag (aw (cR l.a) au rfl)<|an 1<|ag (aj rfl (cT (aO (hl.a)) (aO (hk.x))))<|an 1<|ag (aw (cR l.b) au rfl) ?_
 refine an 1<|ag (aj rfl (cT (aO (hl.b)) (aO (hk.y))))<|ag (aj rfl (jX (aO (Rz.mul (hl.a) (hk.x))) (aO (Rz.mul (hl.b) (hk.y)))))<|an 1<|ag (aw (cR l.c) au rfl)<|ag (aj rfl (fu (aO (Rz.add (Rz.mul (hl.a) (hk.x)) (Rz.mul (hl.b) (hk.y)))) (aO (hl.c))))<|aR<|ar<|ai<|al ?_
 exact ao (bh au rfl ae)
theorem LQ {l:Ln}{k:Ci}(hl:GL l) (hk:GK k):Ok Tryz.prog 233 [.a (eK l),.a (dc k)] [dR (kE l k)]:=by
 have v1:Rz 60000 (ll l k.x k.y):=(kX hl hk).m_
 have n1:Rz 60000 (fZ l):=(lj hl).m_
 have n2:Rz 60000 k.q:=hk.q.m_
 have n3:Rz 60000 (fZ l*k.q):=((lj hl).mul hk.q).m_
 have n4:Rz 60000 (ll l k.x k.y*ll l k.x k.y):=((kX hl hk).mul (kX hl hk)).m_
 refine Ok.fn Tryz.func233 21 [.cell 4 31] rfl<|aa<|ab<|am 2<|az (ah br rfl) rfl<|ap<|aa<|ab<|am 2<|ak (aw (cR k.x) au rfl)<|am 1<|ak (aw (cR k.y) au rfl)<|ak (aj rfl (Ju hl hk))<|az (ah br rfl) rfl ?_
 refine ai<|aa<|aN 9 rfl rfl<|an 1<|ag (aj rfl (J1 hl))<|an 1<|ag (aw (cR k.q) au rfl) ?_
 refine ag (aj rfl (cT (by first|assumption|exact Rz.mono (by assumption) (by decide)) (by first|assumption|exact Rz.mono (hk.q) (by decide)))) ?_
 refine an 2 ?_
 refine ag (aj rfl (cT (by first|assumption|exact Rz.mono (by assumption) (by decide)) (by first|assumption|exact Rz.mono (by assumption) (by decide)))) ?_
 refine ag (aj rfl (fu (by first|assumption|exact Rz.mono (Rz.mul (by assumption) (hk.q)) (by decide)) (by first|assumption|exact Rz.mono (Rz.mul (by assumption) (by assumption)) (by decide)))) ?_
 refine aR<|ar<|ai<|al ?_
 exact ao (bh au rfl ae)
theorem NJ {l m:Ln}(hl:GL l) (hm:GL m):Ok Tryz.prog 238 [.a (eK l),.a (eK m)] [dR (kO l m)]:=by
 refine Ok.fn Tryz.func238 16 [.cell 4 31] rfl<|aa<|ab<|am 2<|az (ah br rfl) rfl<|ap<|aa<|aN 11 rfl rfl<|an 1<|ag (aw (cR l.a) au rfl)<|an 1<|ag (aw (cR m.b) au rfl)<|ag (aj rfl (cT (aO (hl.a)) (aO (hm.b))))<|an 1 ?_
 refine ag (aw (cR m.a) au rfl)<|an 1<|ag (aw (cR l.b) au rfl)<|ag (aj rfl (cT (aO (hm.a)) (aO (hl.b))))<|ag (aj rfl (fu (aO (Rz.mul (hl.a) (hm.b))) (aO (Rz.mul (hm.a) (hl.b)))))<|aR<|ar<|ai<|al ?_
 exact ao (bh au rfl ae)
theorem Kc {k d:Ci}(hk:GK k) (hd:GK d):Ok Tryz.prog 231 [.a (dc k),.a (dc d)] [.c (.b (pC k d))]:=by
 refine Ok.fn Tryz.func231 19 [.tmp 4] rfl<|aa<|ab<|ai<|aa<|ab<|am 1<|ak (aw (cR k.x) au rfl)<|am 1<|ak (aw (cR d.x) au rfl)<|ak (aj rfl (fe (aO (hk.x)) (aO (hd.x))))<|am 1 ?_
 refine dh (ca rfl) (fun c1 hb1=>?_)
 cases c1
 ·refine ai<|al ?_
  rw[show pC k d=false from by unfold pC si;rw[hb1];rfl]
  exact ao (aC ae)
 ·refine am 1<|ak (aw (cR k.y) au rfl)<|am 1<|ak (aw (cR d.y) au rfl)<|ak (aj rfl (fe (aO (hk.y)) (aO (hd.y))))<|ai<|al ?_
  rw[show pC k d=(bd k.y d.y==0) from by unfold pC si;rw[hb1];rfl]
  exact ao (aC ae)
theorem El {a1 b1 a2 b2 c:Rat}(ha1:Rz 200 a1) (hb1:Rz 200 b1) (ha2:Rz 200 a2) (hb2:Rz 200 b2) (hc:Rz 200 c) (hs:iX c=true):Ok Tryz.prog 106 [dR a1,dR b1,dR a2,dR b2,dR c] [.a (aA (l7 a1 b1 a2 b2 c))]:=by
 have kt:Rz 60000 (rt c):=hc.rt.m_
 have k1:Rz 60000 (b1*rt c):=(hb1.mul hc.rt).m_
 have k2:Rz 60000 (b2*rt c):=(hb2.mul hc.rt).m_
 refine Ok.fn Tryz.func106 37 [.cell 10 37] rfl<|aa<|ab<|am 5<|az (ah jO rfl) rfl<|ap<|aa<|aa<|ab<|am 1 ?_
 refine ak (aj rfl (j6 (by first|assumption|exact Rz.mono hc (by decide)))) ?_
 refine am 3<|az (ah br rfl) rfl<|ai<|aa<|ab<|ai ?_
 refine ay rfl (fun hc1=>?_) (fun hc1=>?_)
 ·refine Dw.weak (σ':=⟨37,[(5,.p 5 0),(6,.p 6 0),(7,.p 7 0),(8,.p 8 0),(9,.p 9 0),(10,.p 10 0),(11,.p 11 0)],[(5,31,cR a1),(6,31,cR b1),(7,31,cR a2),(8,31,cR b2),(9,31,cR c),(10,37,zP),(11,31,cR (rt c))]⟩) (aW ⟨rfl,rfl,rfl,rfl,rfl,rfl,rfl,trivial⟩ ⟨rfl,rfl,rfl,rfl,rfl,rfl,by rw[←wD hs];rfl,trivial⟩ rfl) ?_
  refine aa<|aN 12 rfl rfl<|an 3 ?_
  refine ag (aj rfl (cT (by first|assumption|exact Rz.mono hb1 (by decide)) (by first|assumption|exact Rz.mono (by assumption) (by decide)))) ?_
  refine ag (aj rfl (jX (by first|assumption|exact Rz.mono ha1 (by decide)) (by first|assumption|exact Rz.mono (Rz.mul hb1 (by assumption)) (by decide)))) ?_
  refine an 3 ?_
  refine ag (aj rfl (cT (by first|assumption|exact Rz.mono hb2 (by decide)) (by first|assumption|exact Rz.mono (by assumption) (by decide)))) ?_
  refine ag (aj rfl (jX (by first|assumption|exact Rz.mono ha2 (by decide)) (by first|assumption|exact Rz.mono (Rz.mul hb2 (by assumption)) (by decide)))) ?_
  refine ag (aD (us:=(cR (a1+(b1*(rt c)))++cR (a2+(b2*(rt c))))) ko fR rfl rfl rfl) ?_
  refine ag (aj rfl (kV))<|aR<|ar<|ai<|al ?_
  rw[show l7 a1 b1 a2 b2 c=⟨a1+b1*rt c,0,a2+b2*rt c,0,0⟩ from by unfold l7;rw[hs];rfl]
  exact ao (bh cn rfl ae)
 ·exact absurd hc1 (by rw[hs];decide)
theorem Gv {a1 b1 a2 b2 c:Rat}(_ha1:Rz 200 a1) (_hb1:Rz 200 b1) (_ha2:Rz 200 a2) (_hb2:Rz 200 b2) (hc:Rz 200 c) (hs:iX c=false):Ok Tryz.prog 106 [dR a1,dR b1,dR a2,dR b2,dR c] [.a (aA (l7 a1 b1 a2 b2 c))]:=by
 refine Ok.fn Tryz.func106 37 [.cell 10 37] rfl<|aa<|ab<|am 5<|az (ah jO rfl) rfl<|ap<|aa<|aa<|ab<|am 1<|ak (aj rfl (j6 (aO hc)))<|am 3<|az (ah br rfl) rfl<|ai ?_
 refine aa<|ab<|ai ?_
 refine ay rfl (fun hc1=>?_) (fun hc1=>?_)
 ·exact absurd hc1 (by rw[hs];decide)
 ·refine aq<|aa<|ab<|am 5<|ak (aD (us:=(cR a1++cR b1++cR a2++cR b2++cR c)) K0 jO rfl rfl rfl) ?_
  refine ai<|al ?_
  rw[show l7 a1 b1 a2 b2 c=⟨a1,b1,a2,b2,c⟩ from by unfold l7;rw[hs];rfl]
  exact ao (bh cn rfl ae)
theorem BM {a1 b1 a2 b2 c:Rat}(ha1:Rz 200 a1) (hb1:Rz 200 b1) (ha2:Rz 200 a2) (hb2:Rz 200 b2) (hc:Rz 200 c):Ok Tryz.prog 106 [dR a1,dR b1,dR a2,dR b2,dR c] [.a (aA (l7 a1 b1 a2 b2 c))]:=by
 cases hs:iX c with
 |true=>exact El ha1 hb1 ha2 hb2 hc hs
 |false=>exact Gv ha1 hb1 ha2 hb2 hc hs
theorem Mc {l:Ln}{k:Ci}(hl:GL l) (hk:GK k):Ok Tryz.prog 152 [.a (eK l),.a (dc k)] [.c (.s ((fD l k).length) (bc aA (fD l k)))]:=by
 have h0:=hl.n
 have z1:Rz 60000 (ll l k.x k.y):=(kX hl hk).m_
 have z2:Rz 60000 (fZ l):=(lj hl).m_
 have z3:Rz 60000 (ll l k.x k.y/fZ l):=(ws hl hk).m_
 have z4:Rz 60000 (l.b/fZ l):=(x3 hl).m_
 have z5:Rz 60000 (-l.a/fZ l):=(vZ hl).m_
 have z6:Rz 60000 l.a:=hl.a.m_
 have z7:Rz 60000 l.b:=hl.b.m_
 have z8:Rz 60000 (-l.a):=z6.neg
 have z9:Rz 60000 (ll l k.x k.y/fZ l*l.a):=((ws hl hk).mul hl.a).m_
 have zA:Rz 60000 (ll l k.x k.y/fZ l*l.b):=((ws hl hk).mul hl.b).m_
 have zB:Rz 60000 k.x:=hk.x.m_
 have zC:Rz 60000 k.y:=hk.y.m_
 refine Ok.fn Tryz.func152 84 [.tmp 4] rfl<|aa<|ab<|ai<|aa<|aN 7 rfl rfl<|an 2<|ag (aj rfl (LQ hl hk))<|an 1<|ag (aj rfl (J1 hl))<|ba (ah br rfl) rfl<|ba (ah br rfl) rfl<|aR<|cf ?_
 refine ai<|aa<|aa<|ab<|am 1<|ak (aj rfl (bV))<|ai ?_
 refine ay rfl (fun hc1=>?_) (fun hc1=>?_)
 ·refine aa<|ab<|ai<|al ?_
  rw[Em hc1]
  exact ao (aC ae)
 ·have g1: ¬bd (kE l k) 0<0:=of_decide_eq_false hc1
  refine aq<|aa<|aN 9 rfl rfl<|an 2<|ag (aw (cR k.x) au rfl)<|an 1<|ag (aw (cR k.y) au rfl)<|ag (aj rfl (Ju hl hk))<|an 1 ?_
  refine ag (aj rfl (lZ (by first|assumption|exact Rz.mono (by assumption) (by decide)) (by first|assumption|exact Rz.mono (by assumption) (by decide)) (by assumption))) ?_
  refine ba (ah br rfl) rfl<|aR<|bg<|ai<|aa<|aN 16 rfl rfl<|an 1<|ag (aw (cR k.x) au rfl)<|an 2<|ag (aw (cR l.a) au rfl) ?_
  refine ag (aj rfl (cT (by first|assumption|exact Rz.mono (Rz.div (by assumption) (by assumption) (by assumption)) (by decide)) (by first|assumption|exact Rz.mono (by assumption) (by decide)))) ?_
  refine ag (aj rfl (fu (by first|assumption|exact Rz.mono (by assumption) (by decide)) (by first|assumption|exact Rz.mono (Rz.mul (Rz.div (by assumption) (by assumption) (by assumption)) (by assumption)) (by decide)))) ?_
  refine an 1<|ag (aw (cR k.y) au rfl)<|an 2<|ag (aw (cR l.b) au rfl) ?_
  refine ag (aj rfl (cT (by first|assumption|exact Rz.mono (Rz.div (by assumption) (by assumption) (by assumption)) (by decide)) (by first|assumption|exact Rz.mono (by assumption) (by decide)))) ?_
  refine ag (aj rfl (fu (by first|assumption|exact Rz.mono (by assumption) (by decide)) (by first|assumption|exact Rz.mono (Rz.mul (Rz.div (by assumption) (by assumption) (by assumption)) (by assumption)) (by decide)))) ?_
  refine ba (ah br rfl) rfl<|ba (ah br rfl) rfl<|aR<|cf<|ai<|aa<|aa<|ab<|am 1<|ak (aj rfl (bV))<|ai ?_
  refine ay rfl (fun hc2=>?_) (fun hc2=>?_)
  ·refine aa<|ab<|am 2<|ak (aD (us:=(cR (k.x-(((ll l k.x k.y)/(fZ l))*l.a))++cR (k.y-(((ll l k.x k.y)/(fZ l))*l.b)))) ko fR rfl rfl rfl) ?_
   refine ak (aj rfl (kV))<|ak (cW (n:=1) (us:=(cR (k.x-(((ll l k.x k.y)/(fZ l))*l.a))++cR 0++cR (k.y-(((ll l k.x k.y)/(fZ l))*l.b))++cR 0++cR 0)) gS rfl rfl rfl (by decide) (by decide) rfl) ?_
   refine ai<|al ?_
   rw[Eb hc1 hc2]
   exact ao (aC ae)
  ·have g2: ¬bd (kE l k) 0=0:=by simpa using hc2
   refine aq<|aa<|aN 11 rfl rfl<|an 1<|ag (aw (cR l.b) au rfl)<|an 1 ?_
   refine ag (aj rfl (lZ (by first|assumption|exact Rz.mono (by assumption) (by decide)) (by first|assumption|exact Rz.mono (by assumption) (by decide)) (by assumption))) ?_
   refine an 1<|ag (aw (cR l.a) au rfl) ?_
   refine ag (aj rfl (oe (by first|assumption|exact Rz.mono (by assumption) (by decide)))) ?_
   refine an 1 ?_
   refine ag (aj rfl (lZ (by first|assumption|exact Rz.mono (Rz.neg (by assumption)) (by decide)) (by first|assumption|exact Rz.mono (by assumption) (by decide)) (by assumption))) ?_
   refine ba (ah br rfl) rfl<|ba (ah br rfl) rfl<|aR<|cf<|ai<|aa<|aN 16 rfl rfl<|an 2 ?_
   refine ag (aj rfl (oe (by first|assumption|exact Rz.mono (Rz.div (by assumption) (by assumption) (by assumption)) (by decide)))) ?_
   refine an 2 ?_
   refine ag (aj rfl (oe (by first|assumption|exact Rz.mono (Rz.div (Rz.neg (by assumption)) (by assumption) (by assumption)) (by decide)))) ?_
   refine an 1<|ag (aj rfl (BM ((mn hl hk).m_) ((x3 hl).neg.m_) ((mh hl hk).m_) ((vZ hl).neg.m_) ((qM hl hk).m_)))<|an 5<|ag (aj rfl (BM ((mn hl hk).m_) ((x3 hl).m_) ((mh hl hk).m_) ((vZ hl).m_) ((qM hl hk).m_)))<|ba (ah jO rfl) rfl<|ba (ah jO rfl) rfl<|aR<|cf<|ai<|aa<|aa<|ab<|am 2<|ak (aj rfl (pp (yw hl hk g1 g2) (yO hl hk g1 g2))) ?_
   refine ai ?_
   refine ay rfl (fun hc3=>?_) (fun hc3=>?_)
   ·--region 11
    refine ab<|ai<|aa<|ab<|am 2<|ak (cW (n:=2) (us:=aA (GE l k)++aA (GD l k)) gS rfl rfl rfl (by decide) (by decide) rfl) ?_
    refine ai<|al ?_
    rw[Gs hc1 hc2 hc3]
    exact ao (aC ae)
   ·refine aq<|aa<|ab<|am 2<|ak (cW (n:=2) (us:=aA (GD l k)++aA (GE l k)) gS rfl rfl rfl (by decide) (by decide) rfl) ?_
    refine ai<|al ?_
    rw[Fo hc1 hc2 hc3]
    exact ao (aC ae)
theorem O5 {l m:Ln}(hl:GL l) (hm:GL m):Ok Tryz.prog 153 [.a (eK l),.a (eK m)] [.c (.s ((gg l m).length) (bc aA (gg l m))),.c (.i .i64 (jP l m))]:=by
 have z1:Rz 60000 (kO l m):=(vu hl hm).m_
 have z2:Rz 60000 (G9 l m):=(Fp hl hm).m_
 have z3:Rz 60000 (I1 l m):=(Ds hl hm).m_
 refine Ok.fn Tryz.func153 54 [.tmp 4,.tmp 5] rfl<|aa<|ab<|ai<|aa<|ab<|am 2<|ak (aj rfl (NJ hl hm))<|az (ah br rfl) rfl<|ai<|aa<|aN 24 rfl rfl<|an 1<|ag (aw (cR l.c) au rfl) ?_
 refine an 1<|ag (aw (cR m.b) au rfl)<|ag (aj rfl (cT (aO (hl.c)) (aO (hm.b))))<|an 1<|ag (aw (cR m.c) au rfl)<|an 1<|ag (aw (cR l.b) au rfl)<|ag (aj rfl (cT (aO (hm.c)) (aO (hl.b))))<|ag (aj rfl (fu (aO (Rz.mul (hl.c) (hm.b))) (aO (Rz.mul (hm.c) (hl.b)))))<|an 1<|ag (aw (cR l.a) au rfl)<|an 1<|ag (aw (cR m.c) au rfl)<|ag (aj rfl (cT (aO (hl.a)) (aO (hm.c)))) ?_
 refine an 1<|ag (aw (cR m.a) au rfl)<|an 1<|ag (aw (cR l.c) au rfl)<|ag (aj rfl (cT (aO (hm.a)) (aO (hl.c))))<|ag (aj rfl (fu (aO (Rz.mul (hl.a) (hm.c))) (aO (Rz.mul (hm.a) (hl.c)))))<|ba (ah br rfl) rfl<|ba (ah br rfl) rfl<|aR<|cf<|ai<|aa<|aa<|ab ?_
 refine am 1<|ak (aj rfl (bV))<|ai ?_
 refine ay rfl (fun hc1=>?_) (fun hc1=>?_)
 ·have h0:kO l m≠0:=fun e=>absurd hc1 (by rw[gB.2 e];decide)
  refine aa<|aN 11 rfl rfl<|an 2<|ag (aj rfl (lZ z2 z1 h0))<|an 2<|ag (aj rfl (lZ z3 z1 h0))<|ag (aD (us:=(cR (G9 l m/kO l m)++cR (I1 l m/kO l m))) ko fR rfl rfl rfl) ?_
  refine ag (aj rfl (kV))<|ag (cW (n:=1) (us:=(cR (G9 l m/kO l m)++cR 0++cR (I1 l m/kO l m)++cR 0++cR 0)) gS rfl rfl rfl (by decide) (by decide) rfl) ?_
  refine bK<|ar<|ap<|al ?_
  rw[(xH hc1).1,(xH hc1).2]
  exact ao (aC (aC ae))
 ·refine aq<|aa<|aa<|ab<|am 1<|ak (aj rfl (bV))<|am 1 ?_
  refine dh (ca rfl) (fun c2 hb2=>?_)
  cases c2
  ·refine ai<|bj rfl<|aq<|aa<|ab<|ai<|al ?_
   rw[(tN hc1 hb2).1,(tN hc1 hb2).2]
   exact ao (aC (aC ae))
  ·refine am 1<|ak (aj rfl (bV))<|ai ?_
   refine ay rfl (fun hc3=>?_) (fun hc3=>?_)
   ·refine aa<|ab<|ai<|al ?_
    rw[(tH hc1 hb2 hc3).1,(tH hc1 hb2 hc3).2]
    exact ao (aC (aC ae))
   ·refine aq<|aa<|ab<|ai<|al ?_
    rw[(tI hc1 hc3).1,(tI hc1 hc3).2]
    exact ao (aC (aC ae))
theorem Ni {k d:Ci}(hk:GK k) (hd:GK d) (hn:pC k d=false):Ok Tryz.prog 232 [.a (dc k),.a (dc d)] [.a (eK (Ic k d)),.c (.i .i64 0)]:=by
 have zt:Rz 60000 (2:Rat):=yD.m_
 have f1:Rz 60000 (F4 k):=(qJ hk).m_
 have f2:Rz 60000 (F4 d):=(qJ hd).m_
 refine Ok.fn Tryz.func232 60 [.cell 4 33,.tmp 5] rfl<|aa<|ab<|am 2<|az (ah qd rfl) rfl<|ai<|aa<|aa<|ab<|am 2<|ak (aj rfl (Fe (Kc hk hd) hn))<|ap<|bj rfl<|aq ?_
 refine aa<|ab<|ak (aj rfl (cJ (mK (by decide) (by decide)) (show((2:Int):Rat)=2 from rfl)))<|az (ah br rfl) rfl<|ai<|aa<|aN 15 rfl rfl<|an 1<|ag (aw (cR k.x) au rfl)<|an 1<|ag (aw (cR k.x) au rfl)<|ag (aj rfl (cT (aO (hk.x)) (aO (hk.x))))<|an 1<|ag (aw (cR k.y) au rfl) ?_
 refine an 1<|ag (aw (cR k.y) au rfl)<|ag (aj rfl (cT (aO (hk.y)) (aO (hk.y))))<|ag (aj rfl (jX (aO (Rz.mul (hk.x) (hk.x))) (aO (Rz.mul (hk.y) (hk.y)))))<|an 1<|ag (aw (cR k.q) au rfl)<|ag (aj rfl (fu (aO (Rz.add (Rz.mul (hk.x) (hk.x)) (Rz.mul (hk.y) (hk.y)))) (aO (hk.q))))<|ba (ah br rfl) rfl<|aR<|bg<|ai<|aa<|aN 15 rfl rfl<|an 1 ?_
 refine ag (aw (cR d.x) au rfl)<|an 1<|ag (aw (cR d.x) au rfl)<|ag (aj rfl (cT (aO (hd.x)) (aO (hd.x))))<|an 1<|ag (aw (cR d.y) au rfl)<|an 1<|ag (aw (cR d.y) au rfl)<|ag (aj rfl (cT (aO (hd.y)) (aO (hd.y))))<|ag (aj rfl (jX (aO (Rz.mul (hd.x) (hd.x))) (aO (Rz.mul (hd.y) (hd.y)))))<|an 1<|ag (aw (cR d.q) au rfl)<|ag (aj rfl (fu (aO (Rz.add (Rz.mul (hd.x) (hd.x)) (Rz.mul (hd.y) (hd.y)))) (aO (hd.q))))<|ba (ah br rfl) rfl ?_
 refine aR<|bg<|ai<|aa<|aN 18 rfl rfl<|an 2<|ag (aw (cR d.x) au rfl)<|an 1<|ag (aw (cR k.x) au rfl)<|ag (aj rfl (fu (aO (hd.x)) (aO (hk.x))))<|ag (aj rfl (cT (MT) (aO (Rz.sub (hd.x) (hk.x)))))<|an 2<|ag (aw (cR d.y) au rfl)<|an 1 ?_
 refine ag (aw (cR k.y) au rfl)<|ag (aj rfl (fu (aO (hd.y)) (aO (hk.y))))<|ag (aj rfl (cT (MT) (aO (Rz.sub (hd.y) (hk.y)))))<|an 2<|ag (aj rfl (fu (aO (Rz.sub (Rz.add (Rz.mul (hd.x) (hd.x)) (Rz.mul (hd.y) (hd.y))) (hd.q))) (aO (Rz.sub (Rz.add (Rz.mul (hk.x) (hk.x)) (Rz.mul (hk.y) (hk.y))) (hk.q)))))<|ag (aD (us:=(cR (2*(d.x-k.x))++cR (2*(d.y-k.y))++cR ((((d.x*d.x)+(d.y*d.y))-d.q)-(((k.x*k.x)+(k.y*k.y))-k.q)))) GY qd rfl rfl rfl) ?_
 refine aR<|ar<|ai<|al ?_
 exact ao (bh rM rfl (aC ae))
theorem On {k d:Ci}(hk:GK k) (hd:GK d):Ok Tryz.prog 151 [.a (dc k),.a (dc d)] [.c (.s ((jZ k d).length) (bc aA (jZ k d))),.c (.i .i64 (pV k d))]:=by
 refine Ok.fn Tryz.func151 26 [.tmp 4,.tmp 5] rfl<|aa<|ab<|ai<|aa<|aa<|ab<|am 2<|ak (aj rfl (Kc hk hd))<|ap ?_
 refine ay rfl (fun hc1=>?_) (fun hc1=>?_)
 ·refine aa<|aa<|ab<|am 1<|ak (aw (cR k.q) au rfl)<|am 1<|ak (aw (cR d.q) au rfl)<|ak (aj rfl (fe (aO (hk.q)) (aO (hd.q))))<|ai ?_
  refine ay rfl (fun hc2=>?_) (fun hc2=>?_)
  ·refine aa<|ab<|ai<|al ?_
   rw[(Eu hc1 hc2).1,(Eu hc1 hc2).2]
   exact ao (aC (aC ae))
  ·refine aq<|aa<|ab<|ai<|al ?_
   rw[(Gi hc1 hc2).1,(Gi hc1 hc2).2]
   exact ao (aC (aC ae))
 ·refine aq<|aa<|ab<|am 2<|ak (aj rfl (Ni hk hd hc1))<|am 3<|az (ah qd rfl) rfl<|ai<|aa<|ab<|am 2<|ak (aj rfl (Mc (AO hk hd hc1) hk))<|ai<|al ?_
  rw[(Gn hc1).1,(Gn hc1).2]
  exact ao (aC (aC ae))
theorem Oj {k d:Ci}(hk:GK k) (hd:GK d):Ok Tryz.prog 149 [.a (dc k),.a (dc d)] [.c (.b (rd k d))]:=by
 refine Ok.fn Tryz.func149 27 [.tmp 4] rfl<|aa<|ab<|ai<|aa<|ab<|am 1<|ak (aw (cR k.x) au rfl)<|am 1<|ak (aw (cR d.x) au rfl)<|ak (aj rfl (fe (aO (hk.x)) (aO (hd.x))))<|am 1 ?_
 refine dh (ca rfl) (fun c1 hb1=>?_)
 cases c1
 ·refine ai<|al ?_
  rw[show rd k d=false from by unfold rd si;rw[hb1];rfl]
  exact ao (aC ae)
 ·refine am 1<|ak (aw (cR k.y) au rfl)<|am 1<|ak (aw (cR d.y) au rfl)<|ak (aj rfl (fe (aO (hk.y)) (aO (hd.y))))<|am 2 ?_
  refine dh (ca rfl) (fun c2 hb2=>?_)
  cases c2
  ·refine ai<|al ?_
   rw[show rd k d=false from by unfold rd si;rw[hb1,hb2];rfl]
   exact ao (aC ae)
  ·refine am 1<|ak (aw (cR k.q) au rfl)<|am 1<|ak (aw (cR d.q) au rfl)<|ak (aj rfl (fe (aO (hk.q)) (aO (hd.q))))<|ai<|al ?_
   rw[show rd k d=(bd k.q d.q==0) from by unfold rd si;rw[hb1,hb2];rfl]
   exact ao (aC ae)
theorem Pb {l m:Ln}(hl:GL l) (hm:GL m):Ok Tryz.prog 150 [.a (eK l),.a (eK m)] [.c (.b (rr l m))]:=by
 refine Ok.fn Tryz.func150 45 [.tmp 4] rfl<|aa<|ab<|ai<|aa<|aN 41 rfl rfl<|an 1<|ag (aw (cR l.a) au rfl)<|an 1<|ag (aw (cR m.b) au rfl)<|ag (aj rfl (bQ (aO (hl.a)) (aO (hm.b))))<|an 1<|ag (aw (cR l.b) au rfl)<|an 1 ?_
 refine ag (aw (cR m.a) au rfl)<|ag (aj rfl (bQ (aO (hl.b)) (aO (hm.a))))<|ag (aj rfl (fe (aO (Rz.mul (hl.a) (hm.b))) (aO (Rz.mul (hl.b) (hm.a)))))<|an 1 ?_
 refine fI (ca rfl) (fun c1 hb1=>?_)
 cases c1
 ·refine bK<|ar<|ap<|al ?_
  rw[show rr l m=false from by unfold rr si;rw[hb1];rfl]
  exact ao (aC ae)
 ·refine an 1<|ag (aw (cR l.a) au rfl)<|an 1<|ag (aw (cR m.c) au rfl)<|ag (aj rfl (bQ (aO (hl.a)) (aO (hm.c))))<|an 1<|ag (aw (cR l.c) au rfl)<|an 1<|ag (aw (cR m.a) au rfl)<|ag (aj rfl (bQ (aO (hl.c)) (aO (hm.a))))<|ag (aj rfl (fe (aO (Rz.mul (hl.a) (hm.c))) (aO (Rz.mul (hl.c) (hm.a)))))<|an 2 ?_
  refine fI (ca rfl) (fun c2 hb2=>?_)
  cases c2
  ·refine bK<|ar<|ap<|al ?_
   rw[show rr l m=false from by unfold rr si;rw[hb1,hb2];rfl]
   exact ao (aC ae)
  ·refine an 1<|ag (aw (cR l.b) au rfl)<|an 1<|ag (aw (cR m.c) au rfl)<|ag (aj rfl (bQ (aO (hl.b)) (aO (hm.c))))<|an 1<|ag (aw (cR l.c) au rfl)<|an 1<|ag (aw (cR m.b) au rfl)<|ag (aj rfl (bQ (aO (hl.c)) (aO (hm.b))))<|ag (aj rfl (fe (aO (Rz.mul (hl.b) (hm.c))) (aO (Rz.mul (hl.c) (hm.b)))))<|bK<|ar<|ap ?_
   refine al ?_
   rw[show rr l m=(bd (l.b*m.c) (l.c*m.b)==0) from by unfold rr si;rw[hb1,hb2];rfl]
   exact ao (aC ae)
theorem Dg {l:Ln}(hl:GL l) {f t:Pt}(_hf:GP f) (_ht:GP t) {m:Ln}(hm:GL m) {u v:Pt}(_hu:GP u) (_hv:GP v):Ok Tryz.prog 73 [.a (([.b false]++eK l++d8++[.b false]++aA f++aA t)),.a (([.b false]++eK m++d8++[.b false]++aA u++aA v))] [.c (.b (fg (Cv.seg l f t) (Cv.seg m u v)))]:=by
 refine Ok.fn Tryz.func73 22 [.tmp 4] rfl<|aa<|ab<|ai<|aa<|aa<|ab<|am 4<|ak (eo rfl rfl eB rfl) ?_
 refine ap<|bj rfl<|aq<|aa<|aa<|ab<|ai<|bj rfl<|aq<|aa<|ab<|am 1<|ak (dX (eK l) rM rfl (by kernel_rfl))<|am 1 ?_
 refine ak (dX (eK m) rM rfl (by kernel_rfl))<|ak (aj rfl (Pb hl hm))<|ai<|al ?_
 exact ao (aC ae)
theorem HJ {l:Ln}(hl:GL l) {f t:Pt}(_hf:GP f) (_ht:GP t) {m:Ln}(hm:GL m) {u v:Pt}(_hu:GP u) (_hv:GP v):Ok Tryz.prog 74 [.a (([.b false]++eK l++d8++[.b false]++aA f++aA t)),.a (([.b false]++eK m++d8++[.b false]++aA u++aA v))] [.c (.s ((jf (Cv.seg l f t) (Cv.seg m u v)).length) (bc aA (jf (Cv.seg l f t) (Cv.seg m u v)))),.c (.i .i64 (yd (Cv.seg l f t) (Cv.seg m u v)))]:=by
 refine Ok.fn Tryz.func74 40 [.tmp 4,.tmp 5] rfl<|aa<|ab<|ai<|aa<|aa<|ab<|ai<|bj rfl<|aq<|aa<|aa<|ab<|ai ?_
 refine bj rfl<|aq<|aa<|aa<|ab<|ai<|bj rfl<|aq<|aa<|ab<|am 1<|ak (dX (eK l) rM rfl (by kernel_rfl))<|am 1<|ak (dX (eK m) rM rfl (by kernel_rfl)) ?_
 refine ak (aj rfl (O5 hl hm))<|ai<|al ?_
 exact ao (aC (aC ae))
theorem E3 {l:Ln}(_hl:GL l) {f t:Pt}(_hf:GP f) (_ht:GP t) {d:Ci}(_hd:GK d) {w2:Bool}{u v:Pt}(_hu:GP u) (_hv:GP v):Ok Tryz.prog 73 [.a (([.b false]++eK l++d8++[.b false]++aA f++aA t)),.a (([.b true]++d8++dc d++[.b w2]++aA u++aA v))] [.c (.b (fg (Cv.seg l f t) (Cv.arc d w2 u v)))]:=by
 refine Ok.fn Tryz.func73 22 [.tmp 4] rfl<|aa<|ab<|ai<|aa<|aa<|ab<|am 4<|ak (eo rfl rfl eB rfl) ?_
 refine ap<|bP rfl<|aa<|ab<|ai<|al ?_
 exact ao (aC ae)
theorem Ih {l:Ln}(hl:GL l) {f t:Pt}(_hf:GP f) (_ht:GP t) {d:Ci}(hd:GK d) {w2:Bool}{u v:Pt}(_hu:GP u) (_hv:GP v):Ok Tryz.prog 74 [.a (([.b false]++eK l++d8++[.b false]++aA f++aA t)),.a (([.b true]++d8++dc d++[.b w2]++aA u++aA v))] [.c (.s ((jf (Cv.seg l f t) (Cv.arc d w2 u v)).length) (bc aA (jf (Cv.seg l f t) (Cv.arc d w2 u v)))),.c (.i .i64 (yd (Cv.seg l f t) (Cv.arc d w2 u v)))]:=by
 refine Ok.fn Tryz.func74 40 [.tmp 4,.tmp 5] rfl<|aa<|ab<|ai<|aa<|aa<|ab<|ai<|bj rfl<|aq<|aa<|aa<|ab<|ai ?_
 refine bj rfl<|aq<|aa<|aa<|ab<|ai<|bP rfl<|aa<|ab<|am 1<|ak (dX (eK l) rM rfl (by kernel_rfl))<|am 1<|ak (dX (dc d) oK rfl (by kernel_rfl))<|ak (aj rfl (Mc hl hd)) ?_
 refine ai<|al ?_
 exact ao (aC (aC ae))
theorem De {k:Ci}(_hk:GK k) {w:Bool}{f t:Pt}(_hf:GP f) (_ht:GP t) {m:Ln}(_hm:GL m) {u v:Pt}(_hu:GP u) (_hv:GP v):Ok Tryz.prog 73 [.a (([.b true]++d8++dc k++[.b w]++aA f++aA t)),.a (([.b false]++eK m++d8++[.b false]++aA u++aA v))] [.c (.b (fg (Cv.arc k w f t) (Cv.seg m u v)))]:=by
 refine Ok.fn Tryz.func73 22 [.tmp 4] rfl<|aa<|ab<|ai<|aa<|aa<|ab<|am 4<|ak (eo rfl rfl eB rfl) ?_
 refine ap<|bP rfl<|aa<|ab<|ai<|al ?_
 exact ao (aC ae)
theorem G6 {k:Ci}(hk:GK k) {w:Bool}{f t:Pt}(_hf:GP f) (_ht:GP t) {m:Ln}(hm:GL m) {u v:Pt}(_hu:GP u) (_hv:GP v):Ok Tryz.prog 74 [.a (([.b true]++d8++dc k++[.b w]++aA f++aA t)),.a (([.b false]++eK m++d8++[.b false]++aA u++aA v))] [.c (.s ((jf (Cv.arc k w f t) (Cv.seg m u v)).length) (bc aA (jf (Cv.arc k w f t) (Cv.seg m u v)))),.c (.i .i64 (yd (Cv.arc k w f t) (Cv.seg m u v)))]:=by
 refine Ok.fn Tryz.func74 40 [.tmp 4,.tmp 5] rfl<|aa<|ab<|ai<|aa<|aa<|ab<|ai<|bj rfl<|aq<|aa<|aa<|ab<|ai ?_
 refine bP rfl<|aa<|ab<|am 1<|ak (dX (eK m) rM rfl (by kernel_rfl))<|am 1<|ak (dX (dc k) oK rfl (by kernel_rfl))<|ak (aj rfl (Mc hm hk))<|ai<|al ?_
 exact ao (aC (aC ae))
theorem E9 {k:Ci}(hk:GK k) {w:Bool}{f t:Pt}(_hf:GP f) (_ht:GP t) {d:Ci}(hd:GK d) {w2:Bool}{u v:Pt}(_hu:GP u) (_hv:GP v):Ok Tryz.prog 73 [.a (([.b true]++d8++dc k++[.b w]++aA f++aA t)),.a (([.b true]++d8++dc d++[.b w2]++aA u++aA v))] [.c (.b (fg (Cv.arc k w f t) (Cv.arc d w2 u v)))]:=by
 refine Ok.fn Tryz.func73 22 [.tmp 4] rfl<|aa<|ab<|ai<|aa<|aa<|ab<|am 4<|ak (eo rfl rfl eB rfl) ?_
 refine ap<|bj rfl<|aq<|aa<|aa<|ab<|ai<|bP rfl<|aa<|ab<|am 1<|ak (dX (dc k) oK rfl (by kernel_rfl))<|am 1<|ak (dX (dc d) oK rfl (by kernel_rfl)) ?_
 refine ak (aj rfl (Oj hk hd))<|ai<|al ?_
 exact ao (aC ae)
theorem IZ {k:Ci}(hk:GK k) {w:Bool}{f t:Pt}(_hf:GP f) (_ht:GP t) {d:Ci}(hd:GK d) {w2:Bool}{u v:Pt}(_hu:GP u) (_hv:GP v):Ok Tryz.prog 74 [.a (([.b true]++d8++dc k++[.b w]++aA f++aA t)),.a (([.b true]++d8++dc d++[.b w2]++aA u++aA v))] [.c (.s ((jf (Cv.arc k w f t) (Cv.arc d w2 u v)).length) (bc aA (jf (Cv.arc k w f t) (Cv.arc d w2 u v)))),.c (.i .i64 (yd (Cv.arc k w f t) (Cv.arc d w2 u v)))]:=by
 refine Ok.fn Tryz.func74 40 [.tmp 4,.tmp 5] rfl<|aa<|ab<|ai<|aa<|aa<|ab<|ai<|bP rfl<|aa<|ab<|am 1<|ak (dX (dc k) oK rfl (by kernel_rfl))<|am 1 ?_
 refine ak (dX (dc d) oK rfl (by kernel_rfl))<|ak (aj rfl (On hk hd))<|ai<|al ?_
 exact ao (aC (aC ae))
end Go.Proofs.YtacopbfkmnpfgaaGreat
