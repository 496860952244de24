/-The reference:floor of a root and its parts. -/
import Derived.Test.YtegpmhlfjkhjmaaGreatYqS
namespace Go.Proofs.YtegpmhlfjkhjmaaGreat
open Go Go.RowKit
variable {P P2 Q Q2 c c0 c1 c2 d d0 g m m2 n n1 na nb:Int}{A B C D E F a b w1 w2 x y z:Rat}
theorem vk:type_of% @Tryz.func269:=@Tryz.func269
theorem bI {c d:Rat}(ha:Rz 6000000 a) (hd:Rz 6000000 d) (h1:Rz 2000000 (a-d)) (hb:Rz 2000000 b) (hc:Rz 2000000 c):Ok Tryz.prog 86 [.a ((cR a++cR b++cR c)),dR d] [.c (.i .i64 (bo (a-d) b c))]:=by
 refine ca Tryz.func86 rfl<|cT 10 [] ?_
 refine aK rfl (fi ha hd) ?_
 refine aK rfl (vL h1 hb hc) ?_
 exact ah (az ae)
theorem mG:Ok Tryz.prog 372 [dI n] [dR (n:Rat)]:=by
 refine ca Tryz.func372 rfl<|cT 3 [] ?_
 refine aK rfl ((show Ok Tryz.prog 66 [.c (.i .i64 1)] [dI 1] from qO (by decide) (by decide))) ?_
 refine aq (aM (us:=cQ n 1) vu uC rfl rfl rfl) ?_
 refine ah ?_
 rw[JV]
 exact aV bF rfl ae
theorem oG {c d:Rat}(ha:Rz 6000000 a) (hd:Rz 6000000 d):Ok Tryz.prog 338 [.a ((cR a++cR b++cR c)),dR d] [.a ((cR (a-d)++cR b++cR c))]:=by
 refine ca Tryz.func338 rfl<|ac rfl (fi ha hd) ?_
 refine re (bd (us:=(cR (a-d)++cR b++cR c)) bF rfl rfl rfl rfl (fP rfl) rfl rfl) ?_
 exact ah (aV dh rfl ae)
theorem nT {c w:Rat}(ha:Rz 400000 a) (hb:Rz 400000 b) (hc:Rz 400000 c) (hw:(a*a-b*b*c)*w=1):Ok Tryz.prog 339 [.a ((cR a++cR b++cR c))] [.a ((cR (a*w)++cR (-b*w)++cR c))]:=by
 have ka:Rz 6000000 a:=ha.m_
 have kb:Rz 6000000 b:=hb.m_
 have kc:Rz 6000000 c:=hc.m_
 have kn:Rz 6000000 (a*a-b*b*c):=((ha.mul ha).sub ((hb.mul hb).mul hc)).m_
 refine ca Tryz.func339 rfl<|cT 15 [] ?_
 refine aK rfl (ck (aQ ha) (aQ ha)) ?_
 refine aK rfl (ck (aQ hb) (aQ hb)) ?_
 refine aK rfl (ck (aQ (aO hb hb)) (aQ hc)) ?_
 refine aK rfl (fi (aQ (aO ha ha)) (aQ (aO (aO hb hb) hc))) ?_
 refine ac rfl (vZ (n9 ka kn (QS hw).2) (U4 _ hw))<|cT 11 [6,999999] ?_
 refine aK rfl (lX kb) ?_
 refine aK rfl (vZ (n9 kb.neg kn (QS hw).2) (U4 _ hw)) ?_
 refine DQ.mk<|iQ (fg bF rfl) rfl rfl rfl rfl<|d7 ?_
 refine ar (aM (us:=(cR (a*w)++cR (-b*w)++cR c)) m9 lh rfl rfl rfl) ?_
 exact ah (aV dh rfl ae)
theorem Wp (n:Int):((n-1:Int):Rat)+1=((n:Int):Rat):=by rw[oX];have:((1:Int):Rat)=1:=rfl;rw[this];grind
theorem Sz.sub1 {k:Nat}{x:Int}(h:Sz k x):Sz (k+1) (x-1):=by
 rw[Int.sub_eq_add_neg]
 by_cases hk:1≤k
 ·exact h.add (Sz.one hk).neg
 ·have e:k=0:=by omega
  subst e
  have h1:=h.1;have h2:=h.2
  have p0:pw 0=1:=rfl
  have p1:pw (0+1)=1000000000:=rfl
  exact⟨by omega,by omega⟩
theorem Xm {c:Rat}(ha:Rz 160000 a) (hb:Rz 160000 b) (hc:Rz 160000 c) (hs:aJ b 0=g) (hg:decide (g<0)=false) (hn:Sz 500000 n) (en:((a.num.fdiv (a.den:Int):Int):Rat)+((bV ((b*b*c).num.fdiv ((b*b*c).den:Int)):Int):Rat)=(n:Rat)) (ec0:bo (a-((n:Int):Rat)) b c=c0) (g0:decide (c0<0)=false) (ec1:bo (a-((n+1:Int):Rat)) b c=c1) (g1:decide (c1≥0)=false):Ok Tryz.prog 337 [.a ((cR a++cR b++cR c))] [dR (((n:Int):Rat))]:=by
 have o1:Rz 6000000 (1:Rat):=nr (by decide+kernel)
 have ka:Rz 6000000 a:=ha.m_
 have y0:Rz 500003 ((n:Int):Rat):=d6 (hn.m_) (by decide)
 have k0:Rz 6000000 ((n:Int):Rat):=y0.m_
 have z0:Rz 2000000 (a-((n:Int):Rat)):=(ha.sub y0).m_
 have y1:Rz 500003 ((n+1:Int):Rat):=d6 ((hn.add (Sz.one (k:=500000) (by decide))).m_) (by decide)
 have k1:Rz 6000000 ((n+1:Int):Rat):=y1.m_
 have z1:Rz 2000000 (a-((n+1:Int):Rat)):=(ha.sub y1).m_
 have pb:Rz 480000 (b*b*c):=((hb.mul hb).mul hc).m_
 have q1:Rz 6000000 (b*b):=(hb.mul hb).m_
 have kb:Rz 6000000 b:=hb.m_
 have kc:Rz 6000000 c:=hc.m_
 have kq:Rz 6000000 (b*b*c):=pb.m_
 have fq:Sz 480000 ((b*b*c).num.fdiv ((b*b*c).den:Int)):=pb.n.fdiv
 have tq:Sz 480000 (bV ((b*b*c).num.fdiv ((b*b*c).den:Int))):=fq.isq
 have ku:Rz 6000000 ((a.num.fdiv (a.den:Int):Int):Rat):=(d6 (ha.n.fdiv (y:=(a.den:Int))) (by decide)).m_
 have kt:Rz 6000000 ((bV ((b*b*c).num.fdiv ((b*b*c).den:Int)):Int):Rat):=(d6 (k:=480000) tq (by decide)).m_
 refine eH Tryz.func337 51 [.cell 2 38] rfl<|aa<|ag<|aa<|dJ 16 [3,999999] ?_
 refine aK rfl (ck kb kb) ?_
 refine aK rfl (ck q1 kc) ?_
 refine aK rfl (jW kq) ?_
 refine aK rfl (vV (fq.m_)) ?_
 refine DQ.mk<|iQ (fg dT rfl) rfl rfl rfl rfl<|d7 ?_
 refine aa<|aa<|bg<|bK 1<|aR (js (cR b) bF rfl)<|aR (cj rfl (bY gW hs))<|aR (aP (dF rfl) hg) ?_
 refine ba<|a8 rfl<|aA<|aa<|ag<|ac rfl ((show Ok Tryz.prog 18 [.c (.i .i64 1)] [dR 1] from dG (by omega) (by omega)))<|aa<|dJ 8 [] ?_
 refine aK rfl (jW ka) ?_
 refine aK rfl (mG) ?_
 refine aK rfl (mG) ?_
 refine aK rfl (gM (cn ku kt) en)<|aa<|aB ?_
 refine bh (ι:=Nat) (fun i=>match i with|_=>⟨51,[(1,.p 1 0),(2,.p 2 0),(5,.p 5 0),(6,.p 6 0)],[(1,129,(cR a++cR b++cR c)),(2,38,(([.b false]++[.s 0 []])++([.b false]++[.s 0 []]))),(5,38,cR 1),(6,38,cR (((n:Int):Rat)))]⟩) (fun i=>0-i) 0 (ao ⟨rfl,rfl,rfl,rfl,trivial⟩ ⟨rfl,rfl,rfl,rfl,trivial⟩ rfl) ?_
 intro i
 match i with
 |_=>
  show Dw _ _ ⟨51,[(1,.p 1 0),(2,.p 2 0),(5,.p 5 0),(6,.p 6 0)],[(1,129,(cR a++cR b++cR c)),(2,38,(([.b false]++[.s 0 []])++([.b false]++[.s 0 []]))),(5,38,cR 1),(6,38,cR (((n:Int):Rat)))]⟩ _
  refine aa<|aa<|bg<|bK 2<|aR (cj rfl (bY (bI ka k0 z0 (hb.m_) (hc.m_)) ec0))<|aR (aP (dF rfl) g0) ?_
  refine ba<|a8 rfl<|a7<|aa<|aB ?_
  refine bh (ι:=Nat) (fun i=>match i with|_=>⟨51,[(1,.p 1 0),(2,.p 2 0),(5,.p 5 0),(6,.p 6 0)],[(1,129,(cR a++cR b++cR c)),(2,38,(([.b false]++[.s 0 []])++([.b false]++[.s 0 []]))),(5,38,cR 1),(6,38,cR (((n:Int):Rat)))]⟩) (fun i=>0-i) 0 (ao ⟨rfl,rfl,rfl,rfl,trivial⟩ ⟨rfl,rfl,rfl,rfl,trivial⟩ rfl) ?_
  intro i
  match i with
  |_=>
   show Dw _ _ ⟨51,[(1,.p 1 0),(2,.p 2 0),(5,.p 5 0),(6,.p 6 0)],[(1,129,(cR a++cR b++cR c)),(2,38,(([.b false]++[.s 0 []])++([.b false]++[.s 0 []]))),(5,38,cR 1),(6,38,cR (((n:Int):Rat)))]⟩ _
   refine aa<|aa<|ln 6 rfl rfl<|dt 3<|bD (cj rfl (gM (cn k0 o1) (jw n 1).symm))<|bD (cj rfl (bY (bI ka k1 z1 (hb.m_) (hc.m_)) ec1))<|bD (aP (dF rfl) g1) ?_
   refine jY<|dk<|ba<|a8 rfl<|a7<|aa<|ag ?_
   refine aZ ?_
   exact ah (aV bF rfl ae)
theorem Yj {c:Rat}(ha:Rz 160000 a) (hb:Rz 160000 b) (hc:Rz 160000 c) (hs:aJ b 0=g) (hg:decide (g<0)=false) (hn:Sz 500000 n) (en:((a.num.fdiv (a.den:Int):Int):Rat)+((bV ((b*b*c).num.fdiv ((b*b*c).den:Int)):Int):Rat)=(n:Rat)) (ec0:bo (a-((n:Int):Rat)) b c=c0) (g0:decide (c0<0)=false) (ec1:bo (a-((n+1:Int):Rat)) b c=c1) (g1:decide (c1≥0)=true) (ec2:bo (a-((n+1+1:Int):Rat)) b c=c2) (g2:decide (c2≥0)=false):Ok Tryz.prog 337 [.a ((cR a++cR b++cR c))] [dR (((n+1:Int):Rat))]:=by
 have o1:Rz 6000000 (1:Rat):=nr (by decide+kernel)
 have ka:Rz 6000000 a:=ha.m_
 have y0:Rz 500003 ((n:Int):Rat):=d6 (hn.m_) (by decide)
 have k0:Rz 6000000 ((n:Int):Rat):=y0.m_
 have z0:Rz 2000000 (a-((n:Int):Rat)):=(ha.sub y0).m_
 have y1:Rz 500003 ((n+1:Int):Rat):=d6 ((hn.add (Sz.one (k:=500000) (by decide))).m_) (by decide)
 have k1:Rz 6000000 ((n+1:Int):Rat):=y1.m_
 have z1:Rz 2000000 (a-((n+1:Int):Rat)):=(ha.sub y1).m_
 have y3:Rz 500003 ((n+1+1:Int):Rat):=d6 (((hn.add (Sz.one (k:=500000) (by decide))).add (Sz.one (k:=500001) (by decide))).m_) (by decide)
 have k3:Rz 6000000 ((n+1+1:Int):Rat):=y3.m_
 have z3:Rz 2000000 (a-((n+1+1:Int):Rat)):=(ha.sub y3).m_
 have pb:Rz 480000 (b*b*c):=((hb.mul hb).mul hc).m_
 have q1:Rz 6000000 (b*b):=(hb.mul hb).m_
 have kb:Rz 6000000 b:=hb.m_
 have kc:Rz 6000000 c:=hc.m_
 have kq:Rz 6000000 (b*b*c):=pb.m_
 have fq:Sz 480000 ((b*b*c).num.fdiv ((b*b*c).den:Int)):=pb.n.fdiv
 have tq:Sz 480000 (bV ((b*b*c).num.fdiv ((b*b*c).den:Int))):=fq.isq
 have ku:Rz 6000000 ((a.num.fdiv (a.den:Int):Int):Rat):=(d6 (ha.n.fdiv (y:=(a.den:Int))) (by decide)).m_
 have kt:Rz 6000000 ((bV ((b*b*c).num.fdiv ((b*b*c).den:Int)):Int):Rat):=(d6 (k:=480000) tq (by decide)).m_
 refine eH Tryz.func337 51 [.cell 2 38] rfl<|aa<|ag<|aa<|dJ 16 [3,999999] ?_
 refine aK rfl (ck kb kb) ?_
 refine aK rfl (ck q1 kc) ?_
 refine aK rfl (jW kq) ?_
 refine aK rfl (vV (fq.m_)) ?_
 refine DQ.mk<|iQ (fg dT rfl) rfl rfl rfl rfl<|d7 ?_
 refine aa<|aa<|bg<|bK 1<|aR (js (cR b) bF rfl)<|aR (cj rfl (bY gW hs))<|aR (aP (dF rfl) hg) ?_
 refine ba<|a8 rfl<|aA<|aa<|ag<|ac rfl ((show Ok Tryz.prog 18 [.c (.i .i64 1)] [dR 1] from dG (by omega) (by omega)))<|aa<|dJ 8 [] ?_
 refine aK rfl (jW ka) ?_
 refine aK rfl (mG) ?_
 refine aK rfl (mG) ?_
 refine aK rfl (gM (cn ku kt) en)<|aa<|aB ?_
 refine bh (ι:=Nat) (fun i=>match i with|_=>⟨51,[(1,.p 1 0),(2,.p 2 0),(5,.p 5 0),(6,.p 6 0)],[(1,129,(cR a++cR b++cR c)),(2,38,(([.b false]++[.s 0 []])++([.b false]++[.s 0 []]))),(5,38,cR 1),(6,38,cR (((n:Int):Rat)))]⟩) (fun i=>0-i) 0 (ao ⟨rfl,rfl,rfl,rfl,trivial⟩ ⟨rfl,rfl,rfl,rfl,trivial⟩ rfl) ?_
 intro i
 match i with
 |_=>
  show Dw _ _ ⟨51,[(1,.p 1 0),(2,.p 2 0),(5,.p 5 0),(6,.p 6 0)],[(1,129,(cR a++cR b++cR c)),(2,38,(([.b false]++[.s 0 []])++([.b false]++[.s 0 []]))),(5,38,cR 1),(6,38,cR (((n:Int):Rat)))]⟩ _
  refine aa<|aa<|bg<|bK 2<|aR (cj rfl (bY (bI ka k0 z0 (hb.m_) (hc.m_)) ec0))<|aR (aP (dF rfl) g0) ?_
  refine ba<|a8 rfl<|a7<|aa<|aB ?_
  refine bh (ι:=Nat) (fun i=>match i with|0=>⟨51,[(1,.p 1 0),(2,.p 2 0),(5,.p 5 0),(6,.p 6 0)],[(1,129,(cR a++cR b++cR c)),(2,38,(([.b false]++[.s 0 []])++([.b false]++[.s 0 []]))),(5,38,cR 1),(6,38,cR (((n:Int):Rat)))]⟩|_+1=>⟨51,[(1,.p 1 0),(2,.p 2 0),(5,.p 5 0),(6,.p 6 0)],[(1,129,(cR a++cR b++cR c)),(2,38,(([.b false]++[.s 0 []])++([.b false]++[.s 0 []]))),(5,38,cR 1),(6,38,cR (((n+1:Int):Rat)))]⟩) (fun i=>1-i) 0 (ao ⟨rfl,rfl,rfl,rfl,trivial⟩ ⟨rfl,rfl,rfl,rfl,trivial⟩ rfl) ?_
  intro i
  match i with
  |0=>
   show Dw _ _ ⟨51,[(1,.p 1 0),(2,.p 2 0),(5,.p 5 0),(6,.p 6 0)],[(1,129,(cR a++cR b++cR c)),(2,38,(([.b false]++[.s 0 []])++([.b false]++[.s 0 []]))),(5,38,cR 1),(6,38,cR (((n:Int):Rat)))]⟩ _
   refine aa<|aa<|ln 6 rfl rfl<|dt 3<|bD (cj rfl (gM (cn k0 o1) (jw n 1).symm))<|bD (cj rfl (bY (bI ka k1 z1 (hb.m_) (hc.m_)) ec1))<|bD (aP (dF rfl) g1) ?_
   refine jY<|dk<|ba<|df rfl<|aA<|aB<|ag ?_
   refine ac rfl (gM (cn k0 o1) (jw n 1).symm) ?_
   exact⟨1,ao ⟨rfl,rfl,rfl,rfl,trivial⟩ ⟨rfl,rfl,rfl,rfl,trivial⟩ rfl,by show 1-1<1-0;decide⟩
  |z+1=>
   show Dw _ _ ⟨51,[(1,.p 1 0),(2,.p 2 0),(5,.p 5 0),(6,.p 6 0)],[(1,129,(cR a++cR b++cR c)),(2,38,(([.b false]++[.s 0 []])++([.b false]++[.s 0 []]))),(5,38,cR 1),(6,38,cR (((n+1:Int):Rat)))]⟩ _
   refine aa<|aa<|ln 6 rfl rfl<|dt 3<|bD (cj rfl (gM (cn k1 o1) (jw (n+1) 1).symm))<|bD (cj rfl (bY (bI ka k3 z3 (hb.m_) (hc.m_)) ec2))<|bD (aP (dF rfl) g2) ?_
   refine jY<|dk<|ba<|a8 rfl<|a7<|aa<|ag ?_
   refine aZ ?_
   exact ah (aV bF rfl ae)
theorem Yq {c:Rat}(ha:Rz 160000 a) (hb:Rz 160000 b) (hc:Rz 160000 c) (hs:aJ b 0=g) (hg:decide (g<0)=true) (hn:Sz 500000 n) (en:((a.num.fdiv (a.den:Int):Int):Rat)+((-(bV ((b*b*c).num.fdiv ((b*b*c).den:Int))):Int):Rat)=(n:Rat)) (ec0:bo (a-((n:Int):Rat)) b c=c0) (g0:decide (c0<0)=false) (ec1:bo (a-((n+1:Int):Rat)) b c=c1) (g1:decide (c1≥0)=false):Ok Tryz.prog 337 [.a ((cR a++cR b++cR c))] [dR (((n:Int):Rat))]:=by
 have o1:Rz 6000000 (1:Rat):=nr (by decide+kernel)
 have ka:Rz 6000000 a:=ha.m_
 have y0:Rz 500003 ((n:Int):Rat):=d6 (hn.m_) (by decide)
 have k0:Rz 6000000 ((n:Int):Rat):=y0.m_
 have z0:Rz 2000000 (a-((n:Int):Rat)):=(ha.sub y0).m_
 have y1:Rz 500003 ((n+1:Int):Rat):=d6 ((hn.add (Sz.one (k:=500000) (by decide))).m_) (by decide)
 have k1:Rz 6000000 ((n+1:Int):Rat):=y1.m_
 have z1:Rz 2000000 (a-((n+1:Int):Rat)):=(ha.sub y1).m_
 have pb:Rz 480000 (b*b*c):=((hb.mul hb).mul hc).m_
 have q1:Rz 6000000 (b*b):=(hb.mul hb).m_
 have kb:Rz 6000000 b:=hb.m_
 have kc:Rz 6000000 c:=hc.m_
 have kq:Rz 6000000 (b*b*c):=pb.m_
 have fq:Sz 480000 ((b*b*c).num.fdiv ((b*b*c).den:Int)):=pb.n.fdiv
 have tq:Sz 480000 (bV ((b*b*c).num.fdiv ((b*b*c).den:Int))):=fq.isq
 have ku:Rz 6000000 ((a.num.fdiv (a.den:Int):Int):Rat):=(d6 (ha.n.fdiv (y:=(a.den:Int))) (by decide)).m_
 have kt:Rz 6000000 ((-(bV ((b*b*c).num.fdiv ((b*b*c).den:Int))):Int):Rat):=(d6 (k:=480000) tq.neg (by decide)).m_
 refine eH Tryz.func337 51 [.cell 2 38] rfl<|aa<|ag<|aa<|dJ 16 [3,999999] ?_
 refine aK rfl (ck kb kb) ?_
 refine aK rfl (ck q1 kc) ?_
 refine aK rfl (jW kq) ?_
 refine aK rfl (vV (fq.m_)) ?_
 refine DQ.mk<|iQ (fg dT rfl) rfl rfl rfl rfl<|d7 ?_
 refine aa<|aa<|bg<|bK 1<|aR (js (cR b) bF rfl)<|aR (cj rfl (bY gW hs))<|aR (aP (dF rfl) hg) ?_
 refine ba<|df rfl<|ag ?_
 refine ac rfl (wC (tq.m_)) ?_
 refine aa<|ag ?_
 refine ac rfl ((show Ok Tryz.prog 18 [.c (.i .i64 1)] [dR 1] from dG (by omega) (by omega))) ?_
 refine aa<|dJ 8 [] ?_
 refine aK rfl (jW ka) ?_
 refine aK rfl (mG) ?_
 refine aK rfl (mG) ?_
 refine aK rfl (gM (cn ku kt) en)<|aa ?_
 refine aB ?_
 refine bh (ι:=Nat) (fun i=>match i with|_=>⟨51,[(1,.p 1 0),(2,.p 2 0),(5,.p 5 0),(6,.p 6 0)],[(1,129,(cR a++cR b++cR c)),(2,38,(([.b false]++[.s 0 []])++([.b false]++[.s 0 []]))),(5,38,cR 1),(6,38,cR (((n:Int):Rat)))]⟩) (fun i=>0-i) 0 (ao ⟨rfl,rfl,rfl,rfl,trivial⟩ ⟨rfl,rfl,rfl,rfl,trivial⟩ rfl) ?_
 intro i
 match i with
 |_=>
  show Dw _ _ ⟨51,[(1,.p 1 0),(2,.p 2 0),(5,.p 5 0),(6,.p 6 0)],[(1,129,(cR a++cR b++cR c)),(2,38,(([.b false]++[.s 0 []])++([.b false]++[.s 0 []]))),(5,38,cR 1),(6,38,cR (((n:Int):Rat)))]⟩ _
  refine aa<|aa<|bg<|bK 2<|aR (cj rfl (bY (bI ka k0 z0 (hb.m_) (hc.m_)) ec0))<|aR (aP (dF rfl) g0) ?_
  refine ba<|a8 rfl<|a7<|aa<|aB ?_
  refine bh (ι:=Nat) (fun i=>match i with|_=>⟨51,[(1,.p 1 0),(2,.p 2 0),(5,.p 5 0),(6,.p 6 0)],[(1,129,(cR a++cR b++cR c)),(2,38,(([.b false]++[.s 0 []])++([.b false]++[.s 0 []]))),(5,38,cR 1),(6,38,cR (((n:Int):Rat)))]⟩) (fun i=>0-i) 0 (ao ⟨rfl,rfl,rfl,rfl,trivial⟩ ⟨rfl,rfl,rfl,rfl,trivial⟩ rfl) ?_
  intro i
  match i with
  |_=>
   show Dw _ _ ⟨51,[(1,.p 1 0),(2,.p 2 0),(5,.p 5 0),(6,.p 6 0)],[(1,129,(cR a++cR b++cR c)),(2,38,(([.b false]++[.s 0 []])++([.b false]++[.s 0 []]))),(5,38,cR 1),(6,38,cR (((n:Int):Rat)))]⟩ _
   refine aa<|aa<|ln 6 rfl rfl<|dt 3<|bD (cj rfl (gM (cn k0 o1) (jw n 1).symm))<|bD (cj rfl (bY (bI ka k1 z1 (hb.m_) (hc.m_)) ec1))<|bD (aP (dF rfl) g1) ?_
   refine jY<|dk<|ba<|a8 rfl<|a7<|aa<|ag ?_
   refine aZ ?_
   exact ah (aV bF rfl ae)
theorem Xi {c:Rat}(ha:Rz 160000 a) (hb:Rz 160000 b) (hc:Rz 160000 c) (hs:aJ b 0=g) (hg:decide (g<0)=true) (hn:Sz 500000 n) (en:((a.num.fdiv (a.den:Int):Int):Rat)+((-(bV ((b*b*c).num.fdiv ((b*b*c).den:Int))):Int):Rat)=(n:Rat)) (ec0:bo (a-((n:Int):Rat)) b c=c0) (g0:decide (c0<0)=true) (ec1:bo (a-((n-1:Int):Rat)) b c=c1) (g1:decide (c1<0)=false) (g2:decide (c0≥0)=false):Ok Tryz.prog 337 [.a ((cR a++cR b++cR c))] [dR (((n-1:Int):Rat))]:=by
 have o1:Rz 6000000 (1:Rat):=nr (by decide+kernel)
 have ka:Rz 6000000 a:=ha.m_
 have y0:Rz 500003 ((n:Int):Rat):=d6 (hn.m_) (by decide)
 have k0:Rz 6000000 ((n:Int):Rat):=y0.m_
 have z0:Rz 2000000 (a-((n:Int):Rat)):=(ha.sub y0).m_
 have y2:Rz 500003 ((n-1:Int):Rat):=d6 ((hn.sub1).m_) (by decide)
 have k2:Rz 6000000 ((n-1:Int):Rat):=y2.m_
 have z2:Rz 2000000 (a-((n-1:Int):Rat)):=(ha.sub y2).m_
 have pb:Rz 480000 (b*b*c):=((hb.mul hb).mul hc).m_
 have q1:Rz 6000000 (b*b):=(hb.mul hb).m_
 have kb:Rz 6000000 b:=hb.m_
 have kc:Rz 6000000 c:=hc.m_
 have kq:Rz 6000000 (b*b*c):=pb.m_
 have fq:Sz 480000 ((b*b*c).num.fdiv ((b*b*c).den:Int)):=pb.n.fdiv
 have tq:Sz 480000 (bV ((b*b*c).num.fdiv ((b*b*c).den:Int))):=fq.isq
 have ku:Rz 6000000 ((a.num.fdiv (a.den:Int):Int):Rat):=(d6 (ha.n.fdiv (y:=(a.den:Int))) (by decide)).m_
 have kt:Rz 6000000 ((-(bV ((b*b*c).num.fdiv ((b*b*c).den:Int))):Int):Rat):=(d6 (k:=480000) tq.neg (by decide)).m_
 refine eH Tryz.func337 51 [.cell 2 38] rfl<|aa<|ag<|aa<|dJ 16 [3,999999] ?_
 refine aK rfl (ck kb kb) ?_
 refine aK rfl (ck q1 kc) ?_
 refine aK rfl (jW kq) ?_
 refine aK rfl (vV (fq.m_)) ?_
 refine DQ.mk<|iQ (fg dT rfl) rfl rfl rfl rfl<|d7 ?_
 refine aa<|aa<|bg<|bK 1<|aR (js (cR b) bF rfl)<|aR (cj rfl (bY gW hs))<|aR (aP (dF rfl) hg) ?_
 refine ba<|df rfl<|ag ?_
 refine ac rfl (wC (tq.m_)) ?_
 refine aa<|ag ?_
 refine ac rfl ((show Ok Tryz.prog 18 [.c (.i .i64 1)] [dR 1] from dG (by omega) (by omega))) ?_
 refine aa<|dJ 8 [] ?_
 refine aK rfl (jW ka) ?_
 refine aK rfl (mG) ?_
 refine aK rfl (mG) ?_
 refine aK rfl (gM (cn ku kt) en)<|aa ?_
 refine aB ?_
 refine bh (ι:=Nat) (fun i=>match i with|0=>⟨51,[(1,.p 1 0),(2,.p 2 0),(5,.p 5 0),(6,.p 6 0)],[(1,129,(cR a++cR b++cR c)),(2,38,(([.b false]++[.s 0 []])++([.b false]++[.s 0 []]))),(5,38,cR 1),(6,38,cR (((n:Int):Rat)))]⟩|_+1=>⟨51,[(1,.p 1 0),(2,.p 2 0),(5,.p 5 0),(6,.p 6 0)],[(1,129,(cR a++cR b++cR c)),(2,38,(([.b false]++[.s 0 []])++([.b false]++[.s 0 []]))),(5,38,cR 1),(6,38,cR (((n-1:Int):Rat)))]⟩) (fun i=>1-i) 0 (ao ⟨rfl,rfl,rfl,rfl,trivial⟩ ⟨rfl,rfl,rfl,rfl,trivial⟩ rfl) ?_
 intro i
 match i with
 |0=>
  show Dw _ _ ⟨51,[(1,.p 1 0),(2,.p 2 0),(5,.p 5 0),(6,.p 6 0)],[(1,129,(cR a++cR b++cR c)),(2,38,(([.b false]++[.s 0 []])++([.b false]++[.s 0 []]))),(5,38,cR 1),(6,38,cR (((n:Int):Rat)))]⟩ _
  refine aa<|aa<|bg<|bK 2<|aR (cj rfl (bY (bI ka k0 z0 (hb.m_) (hc.m_)) ec0))<|aR (aP (dF rfl) g0) ?_
  refine ba<|df rfl<|aA<|aB<|ag ?_
  refine ac rfl (gM (fi k0 o1) (oX n 1).symm) ?_
  exact⟨1,ao ⟨rfl,rfl,rfl,rfl,trivial⟩ ⟨rfl,rfl,rfl,rfl,trivial⟩ rfl,by show 1-1<1-0;decide⟩
 |z+1=>
  show Dw _ _ ⟨51,[(1,.p 1 0),(2,.p 2 0),(5,.p 5 0),(6,.p 6 0)],[(1,129,(cR a++cR b++cR c)),(2,38,(([.b false]++[.s 0 []])++([.b false]++[.s 0 []]))),(5,38,cR 1),(6,38,cR (((n-1:Int):Rat)))]⟩ _
  refine aa<|aa<|bg<|bK 2<|aR (cj rfl (bY (bI ka k2 z2 (hb.m_) (hc.m_)) ec1))<|aR (aP (dF rfl) g1) ?_
  refine ba<|a8 rfl<|a7<|aa<|aB ?_
  refine bh (ι:=Nat) (fun i=>match i with|_=>⟨51,[(1,.p 1 0),(2,.p 2 0),(5,.p 5 0),(6,.p 6 0)],[(1,129,(cR a++cR b++cR c)),(2,38,(([.b false]++[.s 0 []])++([.b false]++[.s 0 []]))),(5,38,cR 1),(6,38,cR (((n-1:Int):Rat)))]⟩) (fun i=>0-i) 0 (ao ⟨rfl,rfl,rfl,rfl,trivial⟩ ⟨rfl,rfl,rfl,rfl,trivial⟩ rfl) ?_
  intro i
  match i with
  |_=>
   show Dw _ _ ⟨51,[(1,.p 1 0),(2,.p 2 0),(5,.p 5 0),(6,.p 6 0)],[(1,129,(cR a++cR b++cR c)),(2,38,(([.b false]++[.s 0 []])++([.b false]++[.s 0 []]))),(5,38,cR 1),(6,38,cR (((n-1:Int):Rat)))]⟩ _
   refine aa<|aa<|ln 6 rfl rfl<|dt 3<|bD (cj rfl (gM (cn k2 o1) (Wp n)))<|bD (cj rfl (bY (bI ka k0 z0 (hb.m_) (hc.m_)) ec0))<|bD (aP (dF rfl) g2) ?_
   refine jY<|dk<|ba<|a8 rfl<|a7<|aa<|ag ?_
   refine aZ ?_
   exact ah (aV bF rfl ae)
theorem YI (L:Lv A B C D E F n) (e0:bo (A-0) B C=c0) (g0:decide (c0<0)=false) (g1:decide (c0≥0)=true) (oA:Ok Tryz.prog 337 [.a ((cR A++cR B++cR C))] [dR (n:Rat)]) (hc:bo (D-((n:Rat)+1)) E F=c) (hg:decide (c>0)=true):Ok Tryz.prog 269 [.a ((cR A++cR B++cR C)),.a ((cR D++cR E++cR F))] [dR ((n:Rat)+1)]:=by
 have o1:Rz 6000000 (1:Rat):=nr (by decide+kernel)
 have s1:Sz 19980000 (1:Int):=dY (by decide) (by decide) (by decide)
 have kn:Rz 6000000 (n:Rat):=L.zn.m_
 have sn:Sz 19980000 n:=L.nz.m_
 have kA:Rz 6000000 A:=L.kA.m_
 have kD:Rz 6000000 D:=L.kD.m_
 have z0:Rz 2 (0:Rat):=dH (by decide)
 have h0:Rz 6000000 (0:Rat):=dH (by decide)
 refine eH vk 81 [.cell 4 38] rfl<|aa<|ag<|aa<|ag<|ac rfl ((show Ok Tryz.prog 18 [.c (.i .i64 1)] [dR 1] from dG (by omega) (by omega)))<|ac rfl ((show Ok Tryz.prog 18 [.c (.i .i64 0)] [dR 0] from dG (by omega) (by omega)))<|aa<|aa<|bg<|bK 2<|aR (cj rfl (bY (bI kA h0 ((L.hA.sub z0).m_) (L.kB.m_) (L.kC.m_)) e0))<|aR (aP (dF rfl) g0) ?_
 refine ex<|a8 rfl<|aA<|aa<|ag ?_
 refine ac rfl (oA)<|aa<|ag ?_
 refine ac rfl (cn kn o1)<|aa<|aa<|bg<|bK 2 ?_
 refine aR (cj rfl (bY (bI kD (L.zn1.m_) (L.dn1.m_) (L.kE.m_) (L.kF.m_)) hc)) ?_
 refine aR (aP (dF rfl) hg) ?_
 refine ba<|df rfl<|aa<|aa<|bg<|bK 2<|aR (cj rfl (bY (bI kA h0 ((L.hA.sub z0).m_) (L.kB.m_) (L.kC.m_)) e0))<|aR (aP (dF rfl) g1) ?_
 refine ba<|df rfl<|aa<|ag ?_
 refine aZ ?_
 exact ah (aV bF rfl ae)
theorem Wy (L:Lv A B C D E F n) (e0:bo (A-0) B C=c0) (g0:decide (c0<0)=false) (_g1:decide (c0≥0)=true) (oA:Ok Tryz.prog 337 [.a ((cR A++cR B++cR C))] [dR (n:Rat)]) (hc:bo (D-((n:Rat)+1)) E F=c) (hg:decide (c>0)=false) (hd:bo (A-(n:Rat)-0) B C=d) (he:(d==0)=true) (hw2:((D-(n:Rat))*(D-(n:Rat))-E*E*F)*w2=1) (hz:Sz 3421 m) (oT:Ok Tryz.prog 337 [.a ((cR ((D-(n:Rat))*w2)++cR (-E*w2)++cR F))] [dR (m:Rat)]) (y0:((m:Rat)+1)≠0):Ok Tryz.prog 269 [.a ((cR A++cR B++cR C)),.a ((cR D++cR E++cR F))] [dR ((n:Rat)+1/((m:Rat)+1))]:=by
 have o1:Rz 6000000 (1:Rat):=nr (by decide+kernel)
 have s1:Sz 19980000 (1:Int):=dY (by decide) (by decide) (by decide)
 have kn:Rz 6000000 (n:Rat):=L.zn.m_
 have sn:Sz 19980000 n:=L.nz.m_
 have kA:Rz 6000000 A:=L.kA.m_
 have kD:Rz 6000000 D:=L.kD.m_
 have z0:Rz 2 (0:Rat):=dH (by decide)
 have h0:Rz 6000000 (0:Rat):=dH (by decide)
 have zm:Rz 3421 (m:Rat):=d6 hz (by decide)
 have km:Rz 6000000 (m:Rat):=zm.m_
 have zy:Rz 3423 ((m:Rat)+1):=zm.add (l:=1) (nr (by decide+kernel))
 have ky:Rz 6000000 ((m:Rat)+1):=zy.m_
 have kp:Rz 6000000 (1/((m:Rat)+1)):=(nu (k:=1) (nr (by decide+kernel)) zy y0).m_
 refine eH vk 81 [.cell 4 38] rfl<|aa<|ag<|aa<|ag<|ac rfl ((show Ok Tryz.prog 18 [.c (.i .i64 1)] [dR 1] from dG (by omega) (by omega)))<|ac rfl ((show Ok Tryz.prog 18 [.c (.i .i64 0)] [dR 0] from dG (by omega) (by omega)))<|aa<|aa<|bg<|bK 2<|aR (cj rfl (bY (bI kA h0 ((L.hA.sub z0).m_) (L.kB.m_) (L.kC.m_)) e0))<|aR (aP (dF rfl) g0) ?_
 refine ex<|a8 rfl<|aA<|aa<|ag ?_
 refine ac rfl (oA)<|aa<|ag ?_
 refine ac rfl (cn kn o1)<|aa<|aa<|bg<|bK 2 ?_
 refine aR (cj rfl (bY (bI kD (L.zn1.m_) (L.dn1.m_) (L.kE.m_) (L.kF.m_)) hc)) ?_
 refine aR (aP (dF rfl) hg) ?_
 refine ba<|a8 rfl<|aA<|aa<|dJ 8 [] ?_
 refine aK rfl (oG kA kn) ?_
 refine aK rfl (oG kD kn)<|aa<|ag<|aa<|aa<|bg<|bK 2 ?_
 refine aR (cj rfl (bY (bI (L.an.m_) h0 ((L.an.sub z0).m_) (L.kB.m_) (L.kC.m_)) hd)) ?_
 refine aR (aP (dF rfl) he) ?_
 refine ba<|df rfl<|dJ 5 [] ?_
 refine aK rfl (nT (L.dn.m_) (L.kE.m_) (L.kF.m_) hw2) ?_
 refine aK rfl (oT) ?_
 refine aK rfl (cn km o1)<|aa<|ag ?_
 refine ac rfl (n9 o1 ky y0)<|aa<|ag ?_
 refine ac rfl (cn kn kp) ?_
 refine aZ ?_
 exact ah (aV bF rfl ae)
theorem X4 (L:Lv A B C D E F n) (e0:bo (A-0) B C=c0) (g0:decide (c0<0)=false) (_g1:decide (c0≥0)=true) (oA:Ok Tryz.prog 337 [.a ((cR A++cR B++cR C))] [dR (n:Rat)]) (hc:bo (D-((n:Rat)+1)) E F=c) (hg:decide (c>0)=false) (hd:bo (A-(n:Rat)-0) B C=d) (he:(d==0)=false) (hw2:((D-(n:Rat))*(D-(n:Rat))-E*E*F)*w2=1) (hw1:((A-(n:Rat))*(A-(n:Rat))-B*B*C)*w1=1) (ih:Ok Tryz.prog 269 [.a ((cR ((D-(n:Rat))*w2)++cR (-E*w2)++cR F)),.a ((cR ((A-(n:Rat))*w1)++cR (-B*w1)++cR C))] [dR (fr P Q)]) (zy:Rz 6841 (fr P Q)) (y0:fr P Q≠0):Ok Tryz.prog 269 [.a ((cR A++cR B++cR C)),.a ((cR D++cR E++cR F))] [dR ((n:Rat)+1/fr P Q)]:=by
 have o1:Rz 6000000 (1:Rat):=nr (by decide+kernel)
 have s1:Sz 19980000 (1:Int):=dY (by decide) (by decide) (by decide)
 have kn:Rz 6000000 (n:Rat):=L.zn.m_
 have sn:Sz 19980000 n:=L.nz.m_
 have kA:Rz 6000000 A:=L.kA.m_
 have kD:Rz 6000000 D:=L.kD.m_
 have z0:Rz 2 (0:Rat):=dH (by decide)
 have h0:Rz 6000000 (0:Rat):=dH (by decide)
 have ky:Rz 6000000 (fr P Q):=zy.m_
 have kp:Rz 6000000 (1/fr P Q):=(nu (k:=1) (nr (by decide+kernel)) zy y0).m_
 refine eH vk 81 [.cell 4 38] rfl<|aa<|ag<|aa<|ag<|ac rfl ((show Ok Tryz.prog 18 [.c (.i .i64 1)] [dR 1] from dG (by omega) (by omega)))<|ac rfl ((show Ok Tryz.prog 18 [.c (.i .i64 0)] [dR 0] from dG (by omega) (by omega)))<|aa<|aa<|bg<|bK 2<|aR (cj rfl (bY (bI kA h0 ((L.hA.sub z0).m_) (L.kB.m_) (L.kC.m_)) e0))<|aR (aP (dF rfl) g0) ?_
 refine ex<|a8 rfl<|aA<|aa<|ag ?_
 refine ac rfl (oA)<|aa<|ag ?_
 refine ac rfl (cn kn o1)<|aa<|aa<|bg<|bK 2 ?_
 refine aR (cj rfl (bY (bI kD (L.zn1.m_) (L.dn1.m_) (L.kE.m_) (L.kF.m_)) hc)) ?_
 refine aR (aP (dF rfl) hg) ?_
 refine ba<|a8 rfl<|aA<|aa<|dJ 8 [] ?_
 refine aK rfl (oG kA kn) ?_
 refine aK rfl (oG kD kn)<|aa<|ag<|aa<|aa<|bg<|bK 2 ?_
 refine aR (cj rfl (bY (bI (L.an.m_) h0 ((L.an.sub z0).m_) (L.kB.m_) (L.kC.m_)) hd)) ?_
 refine aR (aP (dF rfl) he) ?_
 refine ba<|a8 rfl<|dJ 5 [] ?_
 refine aK rfl (nT (L.dn.m_) (L.kE.m_) (L.kF.m_) hw2) ?_
 refine aK rfl (nT (L.an.m_) (L.kB.m_) (L.kC.m_) hw1) ?_
 refine aK rfl (ih)<|aa<|ag ?_
 refine ac rfl (n9 o1 ky y0)<|aa<|ag ?_
 refine ac rfl (cn kn kp) ?_
 refine aZ ?_
 exact ah (aV bF rfl ae)
theorem TU (L:Lv A B C D E F n) (e0:bo (A-0) B C=c0) (g0:decide (c0<0)=true) (g1:decide (c0≥0)=false) (f0:bo (D-0) E F=d0) (k0:decide (d0>0)=false) (oA:Ok Tryz.prog 337 [.a ((cR A++cR B++cR C))] [dR (n:Rat)]) (hc:bo (D-((n:Rat)+1)) E F=c) (hg:decide (c>0)=true) (hz:Sz 3421 m) (oT:Ok Tryz.prog 337 [.a ((cR D++cR E++cR F))] [dR (m:Rat)]) (hm2:bo (D-(m:Rat)) E F=m2) (he:(m2==0)=true):Ok Tryz.prog 269 [.a ((cR A++cR B++cR C)),.a ((cR D++cR E++cR F))] [dR ((m:Rat)-1)]:=by
 have o1:Rz 6000000 (1:Rat):=nr (by decide+kernel)
 have s1:Sz 19980000 (1:Int):=dY (by decide) (by decide) (by decide)
 have kn:Rz 6000000 (n:Rat):=L.zn.m_
 have sn:Sz 19980000 n:=L.nz.m_
 have kA:Rz 6000000 A:=L.kA.m_
 have kD:Rz 6000000 D:=L.kD.m_
 have z0:Rz 2 (0:Rat):=dH (by decide)
 have h0:Rz 6000000 (0:Rat):=dH (by decide)
 have zm:Rz 3421 (m:Rat):=d6 hz (by decide)
 have km:Rz 6000000 (m:Rat):=zm.m_
 refine eH vk 81 [.cell 4 38] rfl<|aa<|ag<|aa<|ag<|ac rfl ((show Ok Tryz.prog 18 [.c (.i .i64 1)] [dR 1] from dG (by omega) (by omega)))<|ac rfl ((show Ok Tryz.prog 18 [.c (.i .i64 0)] [dR 0] from dG (by omega) (by omega)))<|aa<|aa<|bg<|bK 2<|aR (cj rfl (bY (bI kA h0 ((L.hA.sub z0).m_) (L.kB.m_) (L.kC.m_)) e0))<|aR (aP (dF rfl) g0) ?_
 refine bK 3<|aR (cj rfl (bY (bI kD h0 ((L.hD.sub z0).m_) (L.kE.m_) (L.kF.m_)) f0))<|aR (aP (dF rfl) k0) ?_
 refine ex<|a8 rfl<|aA<|aa<|ag ?_
 refine ac rfl (oA)<|aa<|ag ?_
 refine ac rfl (cn kn o1)<|aa<|aa<|bg<|bK 2 ?_
 refine aR (cj rfl (bY (bI kD (L.zn1.m_) (L.dn1.m_) (L.kE.m_) (L.kF.m_)) hc)) ?_
 refine aR (aP (dF rfl) hg) ?_
 refine ba<|df rfl<|aa<|aa<|bg<|bK 2<|aR (cj rfl (bY (bI kA h0 ((L.hA.sub z0).m_) (L.kB.m_) (L.kC.m_)) e0))<|aR (aP (dF rfl) g1) ?_
 refine ba<|a8 rfl<|aA<|aa<|ag ?_
 refine ac rfl (oT)<|aa<|aa<|bg<|bK 2 ?_
 refine aR (cj rfl (bY (bI kD km ((L.hD.sub zm).m_) (L.kE.m_) (L.kF.m_)) hm2))<|aR (aP (dF rfl) he) ?_
 refine ba<|df rfl<|ag ?_
 refine ac rfl (fi km o1) ?_
 refine aa<|ag ?_
 refine aZ ?_
 exact ah (aV bF rfl ae)
theorem RX (L:Lv A B C D E F n) (e0:bo (A-0) B C=c0) (g0:decide (c0<0)=true) (g1:decide (c0≥0)=false) (f0:bo (D-0) E F=d0) (k0:decide (d0>0)=false) (oA:Ok Tryz.prog 337 [.a ((cR A++cR B++cR C))] [dR (n:Rat)]) (hc:bo (D-((n:Rat)+1)) E F=c) (hg:decide (c>0)=true) (hz:Sz 3421 m) (oT:Ok Tryz.prog 337 [.a ((cR D++cR E++cR F))] [dR (m:Rat)]) (hm2:bo (D-(m:Rat)) E F=m2) (he:(m2==0)=false):Ok Tryz.prog 269 [.a ((cR A++cR B++cR C)),.a ((cR D++cR E++cR F))] [dR (m:Rat)]:=by
 have o1:Rz 6000000 (1:Rat):=nr (by decide+kernel)
 have s1:Sz 19980000 (1:Int):=dY (by decide) (by decide) (by decide)
 have kn:Rz 6000000 (n:Rat):=L.zn.m_
 have sn:Sz 19980000 n:=L.nz.m_
 have kA:Rz 6000000 A:=L.kA.m_
 have kD:Rz 6000000 D:=L.kD.m_
 have z0:Rz 2 (0:Rat):=dH (by decide)
 have h0:Rz 6000000 (0:Rat):=dH (by decide)
 have zm:Rz 3421 (m:Rat):=d6 hz (by decide)
 have km:Rz 6000000 (m:Rat):=zm.m_
 refine eH vk 81 [.cell 4 38] rfl<|aa<|ag<|aa<|ag<|ac rfl ((show Ok Tryz.prog 18 [.c (.i .i64 1)] [dR 1] from dG (by omega) (by omega)))<|ac rfl ((show Ok Tryz.prog 18 [.c (.i .i64 0)] [dR 0] from dG (by omega) (by omega)))<|aa<|aa<|bg<|bK 2<|aR (cj rfl (bY (bI kA h0 ((L.hA.sub z0).m_) (L.kB.m_) (L.kC.m_)) e0))<|aR (aP (dF rfl) g0) ?_
 refine bK 3<|aR (cj rfl (bY (bI kD h0 ((L.hD.sub z0).m_) (L.kE.m_) (L.kF.m_)) f0))<|aR (aP (dF rfl) k0) ?_
 refine ex<|a8 rfl<|aA<|aa<|ag ?_
 refine ac rfl (oA)<|aa<|ag ?_
 refine ac rfl (cn kn o1)<|aa<|aa<|bg<|bK 2 ?_
 refine aR (cj rfl (bY (bI kD (L.zn1.m_) (L.dn1.m_) (L.kE.m_) (L.kF.m_)) hc)) ?_
 refine aR (aP (dF rfl) hg) ?_
 refine ba<|df rfl<|aa<|aa<|bg<|bK 2<|aR (cj rfl (bY (bI kA h0 ((L.hA.sub z0).m_) (L.kB.m_) (L.kC.m_)) e0))<|aR (aP (dF rfl) g1) ?_
 refine ba<|a8 rfl<|aA<|aa<|ag ?_
 refine ac rfl (oT)<|aa<|aa<|bg<|bK 2 ?_
 refine aR (cj rfl (bY (bI kD km ((L.hD.sub zm).m_) (L.kE.m_) (L.kF.m_)) hm2))<|aR (aP (dF rfl) he) ?_
 refine ba<|a8 rfl<|aA<|aa<|ag ?_
 refine aZ ?_
 exact ah (aV bF rfl ae)
theorem YS (L:Lv A B C D E F n) (e0:bo (A-0) B C=c0) (g0:decide (c0<0)=true) (_g1:decide (c0≥0)=false) (f0:bo (D-0) E F=d0) (k0:decide (d0>0)=false) (oA:Ok Tryz.prog 337 [.a ((cR A++cR B++cR C))] [dR (n:Rat)]) (hc:bo (D-((n:Rat)+1)) E F=c) (hg:decide (c>0)=false) (hd:bo (A-(n:Rat)-0) B C=d) (he:(d==0)=true) (hw2:((D-(n:Rat))*(D-(n:Rat))-E*E*F)*w2=1) (hz:Sz 3421 m) (oT:Ok Tryz.prog 337 [.a ((cR ((D-(n:Rat))*w2)++cR (-E*w2)++cR F))] [dR (m:Rat)]) (y0:((m:Rat)+1)≠0):Ok Tryz.prog 269 [.a ((cR A++cR B++cR C)),.a ((cR D++cR E++cR F))] [dR ((n:Rat)+1/((m:Rat)+1))]:=by
 have o1:Rz 6000000 (1:Rat):=nr (by decide+kernel)
 have s1:Sz 19980000 (1:Int):=dY (by decide) (by decide) (by decide)
 have kn:Rz 6000000 (n:Rat):=L.zn.m_
 have sn:Sz 19980000 n:=L.nz.m_
 have kA:Rz 6000000 A:=L.kA.m_
 have kD:Rz 6000000 D:=L.kD.m_
 have z0:Rz 2 (0:Rat):=dH (by decide)
 have h0:Rz 6000000 (0:Rat):=dH (by decide)
 have zm:Rz 3421 (m:Rat):=d6 hz (by decide)
 have km:Rz 6000000 (m:Rat):=zm.m_
 have zy:Rz 3423 ((m:Rat)+1):=zm.add (l:=1) (nr (by decide+kernel))
 have ky:Rz 6000000 ((m:Rat)+1):=zy.m_
 have kp:Rz 6000000 (1/((m:Rat)+1)):=(nu (k:=1) (nr (by decide+kernel)) zy y0).m_
 refine eH vk 81 [.cell 4 38] rfl<|aa<|ag<|aa<|ag<|ac rfl ((show Ok Tryz.prog 18 [.c (.i .i64 1)] [dR 1] from dG (by omega) (by omega)))<|ac rfl ((show Ok Tryz.prog 18 [.c (.i .i64 0)] [dR 0] from dG (by omega) (by omega)))<|aa<|aa<|bg<|bK 2<|aR (cj rfl (bY (bI kA h0 ((L.hA.sub z0).m_) (L.kB.m_) (L.kC.m_)) e0))<|aR (aP (dF rfl) g0) ?_
 refine bK 3<|aR (cj rfl (bY (bI kD h0 ((L.hD.sub z0).m_) (L.kE.m_) (L.kF.m_)) f0))<|aR (aP (dF rfl) k0) ?_
 refine ex<|a8 rfl<|aA<|aa<|ag ?_
 refine ac rfl (oA)<|aa<|ag ?_
 refine ac rfl (cn kn o1)<|aa<|aa<|bg<|bK 2 ?_
 refine aR (cj rfl (bY (bI kD (L.zn1.m_) (L.dn1.m_) (L.kE.m_) (L.kF.m_)) hc)) ?_
 refine aR (aP (dF rfl) hg) ?_
 refine ba<|a8 rfl<|aA<|aa<|dJ 8 [] ?_
 refine aK rfl (oG kA kn) ?_
 refine aK rfl (oG kD kn)<|aa<|ag<|aa<|aa<|bg<|bK 2 ?_
 refine aR (cj rfl (bY (bI (L.an.m_) h0 ((L.an.sub z0).m_) (L.kB.m_) (L.kC.m_)) hd)) ?_
 refine aR (aP (dF rfl) he) ?_
 refine ba<|df rfl<|dJ 5 [] ?_
 refine aK rfl (nT (L.dn.m_) (L.kE.m_) (L.kF.m_) hw2) ?_
 refine aK rfl (oT) ?_
 refine aK rfl (cn km o1)<|aa<|ag ?_
 refine ac rfl (n9 o1 ky y0)<|aa<|ag ?_
 refine ac rfl (cn kn kp) ?_
 refine aZ ?_
 exact ah (aV bF rfl ae)
theorem Ww (L:Lv A B C D E F n) (e0:bo (A-0) B C=c0) (g0:decide (c0<0)=true) (_g1:decide (c0≥0)=false) (f0:bo (D-0) E F=d0) (k0:decide (d0>0)=false) (oA:Ok Tryz.prog 337 [.a ((cR A++cR B++cR C))] [dR (n:Rat)]) (hc:bo (D-((n:Rat)+1)) E F=c) (hg:decide (c>0)=false) (hd:bo (A-(n:Rat)-0) B C=d) (he:(d==0)=false) (hw2:((D-(n:Rat))*(D-(n:Rat))-E*E*F)*w2=1) (hw1:((A-(n:Rat))*(A-(n:Rat))-B*B*C)*w1=1) (ih:Ok Tryz.prog 269 [.a ((cR ((D-(n:Rat))*w2)++cR (-E*w2)++cR F)),.a ((cR ((A-(n:Rat))*w1)++cR (-B*w1)++cR C))] [dR (fr P Q)]) (zy:Rz 6841 (fr P Q)) (y0:fr P Q≠0):Ok Tryz.prog 269 [.a ((cR A++cR B++cR C)),.a ((cR D++cR E++cR F))] [dR ((n:Rat)+1/fr P Q)]:=by
 have o1:Rz 6000000 (1:Rat):=nr (by decide+kernel)
 have s1:Sz 19980000 (1:Int):=dY (by decide) (by decide) (by decide)
 have kn:Rz 6000000 (n:Rat):=L.zn.m_
 have sn:Sz 19980000 n:=L.nz.m_
 have kA:Rz 6000000 A:=L.kA.m_
 have kD:Rz 6000000 D:=L.kD.m_
 have z0:Rz 2 (0:Rat):=dH (by decide)
 have h0:Rz 6000000 (0:Rat):=dH (by decide)
 have ky:Rz 6000000 (fr P Q):=zy.m_
 have kp:Rz 6000000 (1/fr P Q):=(nu (k:=1) (nr (by decide+kernel)) zy y0).m_
 refine eH vk 81 [.cell 4 38] rfl<|aa<|ag<|aa<|ag<|ac rfl ((show Ok Tryz.prog 18 [.c (.i .i64 1)] [dR 1] from dG (by omega) (by omega)))<|ac rfl ((show Ok Tryz.prog 18 [.c (.i .i64 0)] [dR 0] from dG (by omega) (by omega)))<|aa<|aa<|bg<|bK 2<|aR (cj rfl (bY (bI kA h0 ((L.hA.sub z0).m_) (L.kB.m_) (L.kC.m_)) e0))<|aR (aP (dF rfl) g0) ?_
 refine bK 3<|aR (cj rfl (bY (bI kD h0 ((L.hD.sub z0).m_) (L.kE.m_) (L.kF.m_)) f0))<|aR (aP (dF rfl) k0) ?_
 refine ex<|a8 rfl<|aA<|aa<|ag ?_
 refine ac rfl (oA)<|aa<|ag ?_
 refine ac rfl (cn kn o1)<|aa<|aa<|bg<|bK 2 ?_
 refine aR (cj rfl (bY (bI kD (L.zn1.m_) (L.dn1.m_) (L.kE.m_) (L.kF.m_)) hc)) ?_
 refine aR (aP (dF rfl) hg) ?_
 refine ba<|a8 rfl<|aA<|aa<|dJ 8 [] ?_
 refine aK rfl (oG kA kn) ?_
 refine aK rfl (oG kD kn)<|aa<|ag<|aa<|aa<|bg<|bK 2 ?_
 refine aR (cj rfl (bY (bI (L.an.m_) h0 ((L.an.sub z0).m_) (L.kB.m_) (L.kC.m_)) hd)) ?_
 refine aR (aP (dF rfl) he) ?_
 refine ba<|a8 rfl<|dJ 5 [] ?_
 refine aK rfl (nT (L.dn.m_) (L.kE.m_) (L.kF.m_) hw2) ?_
 refine aK rfl (nT (L.an.m_) (L.kB.m_) (L.kC.m_) hw1) ?_
 refine aK rfl (ih)<|aa<|ag ?_
 refine ac rfl (n9 o1 ky y0)<|aa<|ag ?_
 refine ac rfl (cn kn kp) ?_
 refine aZ ?_
 exact ah (aV bF rfl ae)
theorem Ze (L:Lv A B C D E F n) (hc:f6 (D-((n:Rat)+1)) E (-0) 0 F 0=c) (hg:decide (c>0)=true):Ok Tryz.prog 228 [.a ((cR A++cR B++cR C)),.a ((cR D++cR E++cR F))] [dR ((n:Rat)+1)]:=by
 have o1:Rz 6000000 (1:Rat):=nr (by decide+kernel)
 have s1:Sz 19980000 (1:Int):=dY (by decide) (by decide) (by decide)
 have kn:Rz 6000000 (n:Rat):=L.zn.m_
 have sn:Sz 19980000 n:=L.nz.m_
 have kA:Rz 6000000 A:=L.kA.m_
 have kD:Rz 6000000 D:=L.kD.m_
 refine eH Tryz.func228 74 [.cell 4 38] rfl<|aa<|ag<|aa<|ag<|ac rfl ((show Ok Tryz.prog 70 [.c (.i .i64 1)] [dR 1] from fY (by omega) (by omega)))<|aa<|ag ?_
 refine ac rfl (FP (ry (L.hA.m_) (L.hB.m_) (L.hC.m_)) L.nf.symm) ?_
 refine ac rfl ((show Ok Tryz.prog 163 [.c (.i .i64 1)] [dI 1] from jh (by decide) (by decide))) ?_
 refine ac rfl (vZ (wI sn s1 (by decide)) (dv1 _))<|aa<|ag ?_
 refine ac rfl (jy kn o1) ?_
 refine aa<|aa<|bg<|bK 2<|aR (cj rfl (bY (er (L.kD.m_) L.kE L.kF (L.zn1.m_) L.dn1 L.v2.c0) hc))<|aR (aP (dF rfl) hg) ?_
 refine ba<|df rfl<|aa<|ag ?_
 refine aZ ?_
 exact ah (aV bF rfl ae)
theorem Z9 (L:Lv A B C D E F n) (hc:f6 (D-((n:Rat)+1)) E (-0) 0 F 0=c) (hg:decide (c>0)=false) (hd:f6 (A-(n:Rat)) B (-0) 0 C 0=d) (he:(d==0)=true) (i1:uN (D-(n:Rat)) E F≠0∧(D-(n:Rat))*(D-(n:Rat))-E*E*F≠0∧HQ (D-(n:Rat)) E F=w2∧zc (-E*w2) F=F) (tA:Rz 25000 ((D-(n:Rat))*w2)) (tB:Rz 25000 (-E*w2)) (hm:m=ou ((D-(n:Rat))*w2) (-E*w2) F) (hz:Sz 3421 m) (y0:((m:Rat)+1)≠0):Ok Tryz.prog 228 [.a ((cR A++cR B++cR C)),.a ((cR D++cR E++cR F))] [dR ((n:Rat)+1/((m:Rat)+1))]:=by
 have o1:Rz 6000000 (1:Rat):=nr (by decide+kernel)
 have s1:Sz 19980000 (1:Int):=dY (by decide) (by decide) (by decide)
 have kn:Rz 6000000 (n:Rat):=L.zn.m_
 have sn:Sz 19980000 n:=L.nz.m_
 have kA:Rz 6000000 A:=L.kA.m_
 have kD:Rz 6000000 D:=L.kD.m_
 have sm:Sz 19980000 m:=hz.m_
 have zm:Rz 3421 (m:Rat):=d6 hz (by decide)
 have km:Rz 6000000 (m:Rat):=zm.m_
 have zy:Rz 3423 ((m:Rat)+1):=zm.add (l:=1) (nr (by decide+kernel))
 have ky:Rz 6000000 ((m:Rat)+1):=zy.m_
 have kp:Rz 6000000 (1/((m:Rat)+1)):=(nu (k:=1) (nr (by decide+kernel)) zy y0).m_
 refine eH Tryz.func228 74 [.cell 4 38] rfl<|aa<|ag<|aa<|ag<|ac rfl ((show Ok Tryz.prog 70 [.c (.i .i64 1)] [dR 1] from fY (by omega) (by omega)))<|aa<|ag ?_
 refine ac rfl (FP (ry (L.hA.m_) (L.hB.m_) (L.hC.m_)) L.nf.symm) ?_
 refine ac rfl ((show Ok Tryz.prog 163 [.c (.i .i64 1)] [dI 1] from jh (by decide) (by decide))) ?_
 refine ac rfl (vZ (wI sn s1 (by decide)) (dv1 _))<|aa<|ag ?_
 refine ac rfl (jy kn o1) ?_
 refine aa<|aa<|bg<|bK 2<|aR (cj rfl (bY (er (L.kD.m_) L.kE L.kF (L.zn1.m_) L.dn1 L.v2.c0) hc))<|aR (aP (dF rfl) hg) ?_
 refine ba<|a8 rfl<|aA<|aa<|ag ?_
 refine ac rfl (zT kD kn) ?_
 refine ac rfl (wM (Ao (L.dn.m_) (L.kE.m_) (L.kF.m_) i1.1 i1.2.1) (congrArg _ i1.2.2.1) (congrArg _ i1.2.2.1) ((congrArg (fun w=>zc (-E*w) F) i1.2.2.1).trans i1.2.2.2))<|aa<|ag<|aa<|aa<|bg<|bK 2 ?_
 refine aR (cj rfl (bY (er (L.kA.m_) L.kB L.kC (L.zn.m_) L.an L.v1.c0) hd)) ?_
 refine aR (aP (dF rfl) he) ?_
 refine ba<|df rfl<|aa<|ag ?_
 refine ac rfl (FP (ry (tA.m_) (tB.m_) (L.hF.m_)) hm.symm) ?_
 refine ac rfl ((show Ok Tryz.prog 163 [.c (.i .i64 1)] [dI 1] from jh (by decide) (by decide))) ?_
 refine ac rfl (vZ (wI sm s1 (by decide)) (dv1 _))<|ag ?_
 refine ac rfl (jy km o1) ?_
 refine aa<|ag ?_
 refine ac rfl (qy o1 ky y0) ?_
 refine aa<|ag ?_
 refine ac rfl (jy kn kp) ?_
 refine aZ ?_
 exact ah (aV bF rfl ae)
theorem ZC (L:Lv A B C D E F n) (hc:f6 (D-((n:Rat)+1)) E (-0) 0 F 0=c) (hg:decide (c>0)=false) (hd:f6 (A-(n:Rat)) B (-0) 0 C 0=d) (he:(d==0)=false) (i1:uN (D-(n:Rat)) E F≠0∧(D-(n:Rat))*(D-(n:Rat))-E*E*F≠0∧HQ (D-(n:Rat)) E F=w2∧zc (-E*w2) F=F) (i2:uN (A-(n:Rat)) B C≠0∧(A-(n:Rat))*(A-(n:Rat))-B*B*C≠0∧HQ (A-(n:Rat)) B C=w1∧zc (-B*w1) C=C) (ih:Ok Tryz.prog 228 [.a ((cR ((D-(n:Rat))*w2)++cR (-E*w2)++cR F)),.a ((cR ((A-(n:Rat))*w1)++cR (-B*w1)++cR C))] [dR (fr P Q)]) (zy:Rz 6841 (fr P Q)) (y0:fr P Q≠0):Ok Tryz.prog 228 [.a ((cR A++cR B++cR C)),.a ((cR D++cR E++cR F))] [dR ((n:Rat)+1/fr P Q)]:=by
 have o1:Rz 6000000 (1:Rat):=nr (by decide+kernel)
 have s1:Sz 19980000 (1:Int):=dY (by decide) (by decide) (by decide)
 have kn:Rz 6000000 (n:Rat):=L.zn.m_
 have sn:Sz 19980000 n:=L.nz.m_
 have kA:Rz 6000000 A:=L.kA.m_
 have kD:Rz 6000000 D:=L.kD.m_
 have ky:Rz 6000000 (fr P Q):=zy.m_
 have kp:Rz 6000000 (1/fr P Q):=(nu (k:=1) (nr (by decide+kernel)) zy y0).m_
 refine eH Tryz.func228 74 [.cell 4 38] rfl<|aa<|ag<|aa<|ag<|ac rfl ((show Ok Tryz.prog 70 [.c (.i .i64 1)] [dR 1] from fY (by omega) (by omega)))<|aa<|ag ?_
 refine ac rfl (FP (ry (L.hA.m_) (L.hB.m_) (L.hC.m_)) L.nf.symm) ?_
 refine ac rfl ((show Ok Tryz.prog 163 [.c (.i .i64 1)] [dI 1] from jh (by decide) (by decide))) ?_
 refine ac rfl (vZ (wI sn s1 (by decide)) (dv1 _))<|aa<|ag ?_
 refine ac rfl (jy kn o1) ?_
 refine aa<|aa<|bg<|bK 2<|aR (cj rfl (bY (er (L.kD.m_) L.kE L.kF (L.zn1.m_) L.dn1 L.v2.c0) hc))<|aR (aP (dF rfl) hg) ?_
 refine ba<|a8 rfl<|aA<|aa<|ag ?_
 refine ac rfl (zT kD kn) ?_
 refine ac rfl (wM (Ao (L.dn.m_) (L.kE.m_) (L.kF.m_) i1.1 i1.2.1) (congrArg _ i1.2.2.1) (congrArg _ i1.2.2.1) ((congrArg (fun w=>zc (-E*w) F) i1.2.2.1).trans i1.2.2.2))<|aa<|ag<|aa<|aa<|bg<|bK 2 ?_
 refine aR (cj rfl (bY (er (L.kA.m_) L.kB L.kC (L.zn.m_) L.an L.v1.c0) hd)) ?_
 refine aR (aP (dF rfl) he) ?_
 refine ba<|a8 rfl<|aa<|ag ?_
 refine ac rfl (zT kA kn) ?_
 refine ac rfl (wM (Ao (L.an.m_) (L.kB.m_) (L.kC.m_) i2.1 i2.2.1) (congrArg _ i2.2.2.1) (congrArg _ i2.2.2.1) ((congrArg (fun w=>zc (-B*w) C) i2.2.2.1).trans i2.2.2.2))<|ag ?_
 refine ac rfl (ih) ?_
 refine aa<|ag ?_
 refine ac rfl (qy o1 ky y0) ?_
 refine aa<|ag ?_
 refine ac rfl (jy kn kp) ?_
 refine aZ ?_
 exact ah (aV bF rfl ae)
theorem Gk (x:Rat):((x.num.fdiv (x.den:Int):Int):Rat)≤x∧x<((x.num.fdiv (x.den:Int)+1:Int):Rat):=by
 have dn:=den_pos x
 obtain⟨h1,h2⟩:=J1 (Z:=x.num) dn
 have hn:=uo x
 have hp:(0:Rat)<((x.den:Int):Rat):=tv.2 dn
 refine⟨qj hp ?_,?_⟩
 ·rw[hn,←fZ];exact fH.2 h1
 ·apply f7
  intro hc
  have h3:=s7 (show((x.num.fdiv (x.den:Int)+1:Int):Rat)≤x by grind) (show(0:Rat)≤((x.den:Int):Rat) by grind)
  rw[hn,←fZ] at h3
  have h4:=fH.1 h3
  omega
section
variable {a b c:Rat}
theorem aa8 (hc:0≤c):cD (Re.of ((bV ((b*b*c).num.fdiv ((b*b*c).den:Int)):Int):Rat)) (Re.of (if b<0 then-b else b)*Re.rt c)∧
 cD (Re.of (if b<0 then-b else b)*Re.rt c) (Re.of ((bV ((b*b*c).num.fdiv ((b*b*c).den:Int))+1:Int):Rat)):=by
 have hbc:0≤b*b*c:=by
  have:0≤b*b:=by
   by_cases h:0≤b
   ·exact jq h h
   ·have:=jq (show 0≤ -b by grind) (show 0≤ -b by grind);grind
  exact jq this hc
 obtain⟨q1,q2⟩:=Gk (b*b*c)
 have hw:0≤(b*b*c).num.fdiv ((b*b*c).den:Int):=by
  have h1:((0:Int):Rat)<(((b*b*c).num.fdiv ((b*b*c).den:Int)+1:Int):Rat):=by have:=hbc;have:=q2;grind
  have:=iN.1 h1
  omega
 have t1:=ro hw
 have t2:=wx hw
 have t0:=eP ((b*b*c).num.fdiv ((b*b*c).den:Int))
 generalize (b*b*c).num.fdiv ((b*b*c).den:Int)=w at*
 generalize bV w=t at*
 generalize hb':(if b<0 then-b else b)=b'
 have hb2:b'*b'=b*b∧0≤b':=by grind
 have nnR:0≤aS (Re.of b'*Re.rt c):=by
  have p2:0≤aS (Re.of b'):=by rw[cO];exact kO hb2.2
  have p3:=xd c
  rw[bJ]
  exact f5 p2 p3
 have eS: ∀q:Rat,aS (Re.of b'*Re.rt c*(Re.of b'*Re.rt c)-Re.of q)=aJ (b*b*c) q:=by
  intro q
  rw[←qb,←cO]
  refine dP ?_
  rw[show Re.of b'*Re.rt c*(Re.of b'*Re.rt c)-Re.of q-Re.of (b*b*c-q)=Re.of (b'*b')*(Re.rt c*Re.rt c-Re.of c) from bt fun k=>by
   simp only[aG,aT,bi];grind,bJ,ow hc,pD]
 refine⟨?_,?_⟩
 ·refine qz (wm t0) nnR ?_
  rw[gZ,eS,←fZ]
  exact kO (Rat.le_trans (fH.2 t1) q1)
 ·refine qz nnR (wm (by omega)) ?_
  have h3:0≤ -aS (Re.of b'*Re.rt c*(Re.of b'*Re.rt c)-Re.of (((t+1:Int):Rat)*((t+1:Int):Rat))):=by
   rw[eS,←fZ]
   have h4:b*b*c≤(((t+1)*(t+1):Int):Rat):=Rat.le_trans (Rat.le_of_lt q2) (fH.2 (by omega))
   have:=BR (x:=b*b*c) (y:=(((t+1)*(t+1):Int):Rat)) h4
   omega
  rw[←cm] at h3
  refine kZ (fun k=>?_) h3
  simp only[bE,aG,aT,bi];grind
theorem QN (m n:Int):((m:Int):Rat)+((n:Int):Rat)=((m+n:Int):Rat):=(jw m n).symm
theorem Ug (hv:Vl b c):(¬b<0→ou a b c=a.num.fdiv (a.den:Int)+bV ((b*b*c).num.fdiv ((b*b*c).den:Int))∨ou a b c=a.num.fdiv (a.den:Int)+bV ((b*b*c).num.fdiv ((b*b*c).den:Int))+1)∧
 (b<0→ou a b c=a.num.fdiv (a.den:Int)-bV ((b*b*c).num.fdiv ((b*b*c).den:Int))∨ou a b c=a.num.fdiv (a.den:Int)-bV ((b*b*c).num.fdiv ((b*b*c).den:Int))-1):=by
 have f1:cD (Re.of ((ou a b c:Int):Rat)) (aC a b c):=(t8 hv.c0).1
 have f2:=vn (x:=a) (y:=b) hv.c0 hv.v
 obtain⟨r1,r2⟩:=aa8 (b:=b) hv.c0
 obtain⟨u1,u2⟩:=Gk a
 generalize ou a b c=n at*
 generalize a.num.fdiv (a.den:Int)=u at*
 generalize bV ((b*b*c).num.fdiv ((b*b*c).den:Int))=t at*
 have key: ∀Y:Re,∀l h:Int,aC a b c=Re.of a+Y→cD (Re.of (l:Rat)) Y→cD Y (Re.of (h:Rat))→u+l<n+1∧n<u+1+h:=by
  intro Y l h e g1 g2
  have k1:=fl (of_le u1) g1
  rw[←e,show Re.of (u:Rat)+Re.of (l:Rat)=Re.of (((u+l:Int)):Rat) from bt fun k=>by simp only[aU,bi,jw]] at k1
  have k2:=fl (ig (Re.of a)) g2
  rw[←e,show Re.of a+Re.of (h:Rat)=Re.of (a+(h:Rat)) from bt fun k=>by simp only[aU,bi]] at k2
  have k3:=qg k1 f2
  have k4:=gg (eo f1 k2)
  have k5:(n:Rat)<((u+1+h:Int):Rat):=by grind
  exact⟨Rat.intCast_lt_intCast.1 k3,iN.1 k5⟩
 refine⟨fun hb=>?_,fun hb=>?_⟩
 ·rw[if_neg hb] at r1 r2
  have:=key (Re.of b*Re.rt c) t (t+1) rfl r1 r2
  omega
 ·rw[if_pos hb] at r1 r2
  have:=key (Re.of b*Re.rt c) (-(t+1)) (-t) rfl (by
   refine kZ (fun k=>?_) r2
   simp only[aG,aT,bi,rF];grind) (by
   refine kZ (fun k=>?_) r1
   simp only[aG,aT,bi,rF];grind)
  omega
theorem aas (hv:Vl b c) (m:Int):(m≤ou a b c→ ¬bo (a-(m:Rat)) b c<0)∧(ou a b c<m→bo (a-(m:Rat)) b c<0):=by
 have f1:cD (Re.of ((ou a b c:Int):Rat)) (aC a b c):=(t8 hv.c0).1
 have f2:=vn (x:=a) (y:=b) hv.c0 hv.v
 rw[t5 hv.c0]
 refine⟨fun h=>?_,fun h=>?_⟩
 ·have h1:0≤aS (aC a b c-Re.of (m:Rat)):=eo (qI h) f1
  omega
 ·have h1:aS (Re.of (m:Rat)-aC a b c)=1:=by
   rw[show Re.of (m:Rat)-aC a b c=(Re.of (m:Rat)-Re.of ((ou a b c+1:Int):Rat))+(Re.of ((ou a b c+1:Int):Rat)-aC a b c) from bt fun k=>by simp only[aG,aU];grind]
   exact jQ (qI (show ou a b c+1≤m by omega)) f2
  rw[eJ];omega
theorem wz (ha:Rz 160000 a) (hb:Rz 160000 b) (hc:Rz 160000 c) (hv:Vl b c):Ok Tryz.prog 337 [.a (cR a++cR b++cR c)] [dR ((ou a b c:Int):Rat)]:=by
 obtain⟨n1,n2⟩:=Ug (a:=a) hv
 have sg:=aas (a:=a) hv
 have su:Sz 160000 (a.num.fdiv (a.den:Int)):=ha.n.fdiv
 have st:Sz 480000 (bV ((b*b*c).num.fdiv ((b*b*c).den:Int))):=((((hb.mul hb).mul hc).n).fdiv.isq).mono (by decide)
 have sp:Sz 500000 (a.num.fdiv (a.den:Int)+bV ((b*b*c).num.fdiv ((b*b*c).den:Int))):=(su.addm st).mono (by decide)
 have sm:Sz 500000 (a.num.fdiv (a.den:Int)+ -bV ((b*b*c).num.fdiv ((b*b*c).den:Int))):=(su.addm st.neg).mono (by decide)
 by_cases hb0:b<0
 ·have hg:decide (aJ b 0<0)=true:=decide_eq_true (by unfold aJ;rw[if_pos hb0];decide)
  have en:=QN (a.num.fdiv (a.den:Int)) (-bV ((b*b*c).num.fdiv ((b*b*c).den:Int)))
  rcases n2 hb0 with e|e
  ·have e':ou a b c=a.num.fdiv (a.den:Int)+ -bV ((b*b*c).num.fdiv ((b*b*c).den:Int)):=by omega
   rw[e']
   rw[e'] at sg
   exact Yq ha hb hc rfl hg sm en rfl (decide_eq_false ((sg _).1 (nH _))) rfl (decide_eq_false (by have:=(sg (a.num.fdiv (a.den:Int)+ -bV ((b*b*c).num.fdiv ((b*b*c).den:Int))+1)).2 (by omega);omega))
  ·have e':ou a b c=a.num.fdiv (a.den:Int)+ -bV ((b*b*c).num.fdiv ((b*b*c).den:Int))-1:=by omega
   rw[e']
   rw[e'] at sg
   exact Xi ha hb hc rfl hg sm en rfl (decide_eq_true ((sg _).2 (by omega))) rfl (decide_eq_false ((sg _).1 (nH _))) (decide_eq_false (by have:=(sg (a.num.fdiv (a.den:Int)+ -bV ((b*b*c).num.fdiv ((b*b*c).den:Int)))).2 (by omega);omega))
 ·have hg:decide (aJ b 0<0)=false:=decide_eq_false (by unfold aJ;rw[if_neg hb0];split<;>decide)
  have en:=QN (a.num.fdiv (a.den:Int)) (bV ((b*b*c).num.fdiv ((b*b*c).den:Int)))
  rcases n1 hb0 with e|e
  ·rw[e]
   rw[e] at sg
   exact Xm ha hb hc rfl hg sp en rfl (decide_eq_false ((sg _).1 (nH _))) rfl (decide_eq_false (by have:=(sg (a.num.fdiv (a.den:Int)+bV ((b*b*c).num.fdiv ((b*b*c).den:Int))+1)).2 (by omega);omega))
  ·rw[e]
   rw[e] at sg
   exact Yj ha hb hc rfl hg sp en rfl (decide_eq_false ((sg _).1 (by omega))) rfl (decide_eq_true (by have:=(sg (a.num.fdiv (a.den:Int)+bV ((b*b*c).num.fdiv ((b*b*c).den:Int))+1)).1 (by omega);omega)) rfl (decide_eq_false (by have:=(sg (a.num.fdiv (a.den:Int)+bV ((b*b*c).num.fdiv ((b*b*c).den:Int))+1+1)).2 (by omega);omega))
end
section
variable {A B C D E F:Rat}{P Q:Int}
theorem JS (n:Int):fr (n+1) 1=(n:Rat)+1:=vM (by decide) (by rw[L3,jw];have:=L3;grind)
theorem QR (h:0≤m):(m:Rat)+1≠0:=by have:=AO h;grind
theorem O6 {P Q:Int}(hP:0<P) (hQ:0<Q):fr P Q≠0:=by
 have h:=gU (p:=P) hQ
 have:=oZ hP
 grind
theorem FG (n:Int) (h:0≤m):fr (n*(m+1)+1) (m+1)=(n:Rat)+1/((m:Rat)+1):=by
 rw[uO (show 0<m+1 by omega) (by decide),JS]
theorem Q4 (R:Res A B C D E F P Q):Ok Tryz.prog 228 [.a (cR A++cR B++cR C),.a (cR D++cR E++cR F)] [dR (fr P Q)]:=by
 induction R with
 |whole L a0 h=>
  rw[JS]
  exact Ze L rfl (decide_eq_true (by rw[xC L.v2.c0,←AC,h];decide))
 | @last A B C D E F w n m L a0 h hb hz hw hm tA tB m0 mz=>
   rw[FG n m0]
   exact Z9 L rfl (decide_eq_false (by rw[xC L.v2.c0,←AC];omega)) ((xC L.v1.c0).trans hz) rfl (IC L.v2 hb hw) tA tB hm mz (QR m0)
 | @step A B C D E F w1 w2 n P Q L a0 h hb hz hw1 hw2 R p0 q0 z ih=>
   rw[uO p0 q0]
   exact ZC L rfl (decide_eq_false (by rw[xC L.v2.c0,←AC];omega)) ((xC L.v1.c0).trans hz) rfl (IC L.v2 hb hw2) (IC L.v1 hz hw1) ih z (O6 p0 q0)
theorem Su (X:Re):X-Re.of 0=X:=bt fun k=>by simp only[aG,bi];grind
theorem mT (hz:0≤z):bo (x-0) y z=aS (aC x y z):=by rw[t5 hz,Su]
theorem Lv.flA (L:Lv A B C D E F n):Ok Tryz.prog 337 [.a (cR A++cR B++cR C)] [dR (n:Rat)]:=by
 rw[L.nf];exact wz L.kA L.kB L.kC L.v1
theorem Lv.sh (L:Lv A B C D E F n):bo (A-(n:Rat)-0) B C=aS (aC A B C-Re.of (n:Rat)):=by rw[mT L.v1.c0,fV]
theorem QC (R:Res A B C D E F P Q):Ok Tryz.prog 269 [.a (cR A++cR B++cR C),.a (cR D++cR E++cR F)] [dR (fr P Q)]:=by
 induction R with
 |whole L a0 h=>
  rw[JS]
  exact YI L (mT L.v1.c0) (decide_eq_false (by omega)) (decide_eq_true (by omega)) L.flA rfl (decide_eq_true (by rw[t5 L.v2.c0,←AC,h];decide))
 | @last A B C D E F w n m L a0 h hb hz hw hm tA tB m0 mz=>
   rw[FG n m0]
   have oT:=wz (tA.mono (by decide)) (tB.mono (by decide)) L.kF ((Qr L.v2 hw))
   rw[←hm] at oT
   exact Wy L (mT L.v1.c0) (decide_eq_false (by omega)) (decide_eq_true (by omega)) L.flA rfl (decide_eq_false (by rw[t5 L.v2.c0,←AC];omega)) (L.sh.trans hz) rfl hw mz oT (QR m0)
 | @step A B C D E F w1 w2 n P Q L a0 h hb hz hw1 hw2 R p0 q0 z ih=>
   rw[uO p0 q0]
   exact X4 L (mT L.v1.c0) (decide_eq_false (by omega)) (decide_eq_true (by omega)) L.flA rfl (decide_eq_false (by rw[t5 L.v2.c0,←AC];omega)) (L.sh.trans hz) rfl hw2 hw1 ih z (O6 p0 q0)
end
theorem ZX (hA:Rz 330 A) (hB:Rz 330 B) (hC:Rz 330 C) (hD:Rz 330 D) (hE:Rz 330 E) (hF:Rz 330 F) (cC:0≤C) (cF:0≤F) (e1:f6 (A-D) B (-E) 0 C F=n1) (g1:decide (n1≥0)=false) (ea:f6 (A-0) B (-0) 0 C 0=na) (g2:decide (na<0)=true) (eb:f6 (D-0) E (-0) 0 F 0=nb) (g3:decide (nb>0)=true):Ok Tryz.prog 126 [.a ((cR A++cR B++cR C)),.a ((cR D++cR E++cR F))] [dR 0,.c (.i .i64 0)]:=by
 have z0:Rz 2 (0:Rat):=dH (by decide)
 refine eH Tryz.func126 39 [.cell 4 38,.tmp 5] rfl<|aa<|ag<|aa<|aa<|bg<|bK 2<|aR (cj rfl (bY (mw (hA.m_) (hB.m_) (hC.m_) (hD.m_) (hE.m_) (hF.m_) ((hA.sub hD).m_) cC cF) e1))<|aR (aP (dF rfl) g1) ?_
 refine ba<|a8 rfl<|aA<|aa<|ag<|ac rfl ((show Ok Tryz.prog 70 [.c (.i .i64 0)] [dR 0] from fY (by omega) (by omega)))<|aa<|aB<|aa<|bg<|bK 2<|aR (cj rfl (bY (er (hA.m_) (hB.m_) (hC.m_) (z0.m_) ((hA.sub z0).m_) cC) ea))<|aR (aP (dF rfl) g2) ?_
 refine bK 3<|aR (cj rfl (bY (er (hD.m_) (hE.m_) (hF.m_) (z0.m_) ((hD.sub z0).m_) cF) eb))<|aR (aP (dF rfl) g3) ?_
 refine ex<|df rfl<|aa<|ag ?_
 refine aZ ?_
 exact ah (aV bF rfl (az ae))
theorem abe (hA:Rz 330 A) (hB:Rz 330 B) (hC:Rz 330 C) (hD:Rz 330 D) (hE:Rz 330 E) (hF:Rz 330 F) (cC:0≤C) (cF:0≤F) (e1:f6 (A-D) B (-E) 0 C F=n1) (g1:decide (n1≥0)=false) (ea:f6 (A-0) B (-0) 0 C 0=na) (g2:decide (na<0)=false) (eb:f6 (D-0) E (-0) 0 F 0=nb) (g4:decide (nb≤0)=false) (ob:Ok Tryz.prog 228 [.a ((cR A++cR B++cR C)),.a ((cR D++cR E++cR F))] [dR z]):Ok Tryz.prog 126 [.a ((cR A++cR B++cR C)),.a ((cR D++cR E++cR F))] [dR z,.c (.i .i64 0)]:=by
 have z0:Rz 2 (0:Rat):=dH (by decide)
 refine eH Tryz.func126 39 [.cell 4 38,.tmp 5] rfl<|aa<|ag<|aa<|aa<|bg<|bK 2<|aR (cj rfl (bY (mw (hA.m_) (hB.m_) (hC.m_) (hD.m_) (hE.m_) (hF.m_) ((hA.sub hD).m_) cC cF) e1))<|aR (aP (dF rfl) g1) ?_
 refine ba<|a8 rfl<|aA<|aa<|ag<|ac rfl ((show Ok Tryz.prog 70 [.c (.i .i64 0)] [dR 0] from fY (by omega) (by omega)))<|aa<|aB<|aa<|bg<|bK 2<|aR (cj rfl (bY (er (hA.m_) (hB.m_) (hC.m_) (z0.m_) ((hA.sub z0).m_) cC) ea))<|aR (aP (dF rfl) g2) ?_
 refine ex<|a8 rfl<|aa<|bg<|bK 2<|aR (cj rfl (bY (er (hD.m_) (hE.m_) (hF.m_) (z0.m_) ((hD.sub z0).m_) cF) eb))<|aR (aP (dF rfl) g4) ?_
 refine ex<|a8 rfl<|aA<|aa<|ag ?_
 refine ac rfl (ob) ?_
 refine aZ ?_
 exact ah (aV bF rfl (az ae))
theorem abC (hA:Rz 330 A) (hB:Rz 330 B) (hC:Rz 330 C) (hD:Rz 330 D) (hE:Rz 330 E) (hF:Rz 330 F) (cC:0≤C) (cF:0≤F) (e1:f6 (A-D) B (-E) 0 C F=n1) (g1:decide (n1≥0)=false) (ea:f6 (A-0) B (-0) 0 C 0=na) (g2:decide (na<0)=true) (eb:f6 (D-0) E (-0) 0 F 0=nb) (g3:decide (nb>0)=false) (g4:decide (nb≤0)=true) (hz:Rz 6000000 z) (ob:Ok Tryz.prog 228 [.a ((cR (-D)++cR (-E)++cR F)),.a ((cR (-A)++cR (-B)++cR C))] [dR z]):Ok Tryz.prog 126 [.a ((cR A++cR B++cR C)),.a ((cR D++cR E++cR F))] [dR (-z),.c (.i .i64 0)]:=by
 have z0:Rz 2 (0:Rat):=dH (by decide)
 refine eH Tryz.func126 39 [.cell 4 38,.tmp 5] rfl<|aa<|ag<|aa<|aa<|bg<|bK 2<|aR (cj rfl (bY (mw (hA.m_) (hB.m_) (hC.m_) (hD.m_) (hE.m_) (hF.m_) ((hA.sub hD).m_) cC cF) e1))<|aR (aP (dF rfl) g1) ?_
 refine ba<|a8 rfl<|aA<|aa<|ag<|ac rfl ((show Ok Tryz.prog 70 [.c (.i .i64 0)] [dR 0] from fY (by omega) (by omega)))<|aa<|aB<|aa<|bg<|bK 2<|aR (cj rfl (bY (er (hA.m_) (hB.m_) (hC.m_) (z0.m_) ((hA.sub z0).m_) cC) ea))<|aR (aP (dF rfl) g2) ?_
 refine bK 3<|aR (cj rfl (bY (er (hD.m_) (hE.m_) (hF.m_) (z0.m_) ((hD.sub z0).m_) cF) eb))<|aR (aP (dF rfl) g3) ?_
 refine ex<|a8 rfl<|aa<|bg<|bK 2<|aR (cj rfl (bY (er (hD.m_) (hE.m_) (hF.m_) (z0.m_) ((hD.sub z0).m_) cF) eb))<|aR (aP (dF rfl) g4) ?_
 refine ex<|df rfl<|aa<|dJ 6 [] ?_
 refine aK rfl (Ep (hD.m_) (hE.m_)) ?_
 refine aK rfl (Ep (hA.m_) (hB.m_)) ?_
 refine aK rfl (ob) ?_
 refine aK rfl (dS hz)<|aZ ?_
 exact ah (aV bF rfl (az ae))
theorem aaE (hA:Rz 330 A) (hB:Rz 330 B) (hC:Rz 330 C) (hD:Rz 330 D) (hE:Rz 330 E) (hF:Rz 330 F) (_cC:0≤C) (_cF:0≤F) (e0:bo (A-0) B C=c0) (g0:decide (c0<0)=true) (f0:bo (D-0) E F=d0) (k0:decide (d0>0)=true):Ok Tryz.prog 269 [.a ((cR A++cR B++cR C)),.a ((cR D++cR E++cR F))] [dR 0]:=by
 have z0:Rz 2 (0:Rat):=dH (by decide)
 have h0:Rz 6000000 (0:Rat):=dH (by decide)
 refine eH vk 81 [.cell 4 38] rfl<|aa<|ag<|aa<|ag<|ac rfl ((show Ok Tryz.prog 18 [.c (.i .i64 1)] [dR 1] from dG (by omega) (by omega)))<|ac rfl ((show Ok Tryz.prog 18 [.c (.i .i64 0)] [dR 0] from dG (by omega) (by omega)))<|aa<|aa<|bg<|bK 2<|aR (cj rfl (bY (bI (hA.m_) h0 ((hA.sub z0).m_) (hB.m_) (hC.m_)) e0))<|aR (aP (dF rfl) g0) ?_
 refine bK 3<|aR (cj rfl (bY (bI (hD.m_) h0 ((hD.sub z0).m_) (hE.m_) (hF.m_)) f0))<|aR (aP (dF rfl) k0) ?_
 refine ex<|df rfl<|aa<|ag ?_
 refine aZ ?_
 exact ah (aV bF rfl ae)
structure Simp (a b:Re) (z:Rat):Prop where
 mem:uj a b z
 den: ∀p q:Int,0<q→uj a b (fr p q)→(z.den:Int)≤q
 near:z.den=1→z≠0→ ¬uj a b (z-((aJ z 0:Int):Rat))
theorem J0 (z:Rat):(-z).den=z.den:=Rat.neg_den z
theorem TMin.simp {a b:Re}(h:TMin (uj a b) P Q):Simp a b (fr P Q):=by
 obtain⟨e1,e2⟩:=h.den
 refine⟨h.mem,fun p q hq hm=>by rw[e2];exact(h.min p q hq hm).2,fun hd _ hm=>?_⟩
 have hp:=h.p
 have hQ:Q=1:=by rw[←e2,hd];rfl
 subst hQ
 have hf:=gU (p:=P) (q:=1) (by decide)
 rw[L3,tz] at hf
 rw[hf] at hm
 have hc:aJ (P:Rat) 0=1:=by rw[←cO];exact vt (oZ hp)
 rw[hc,L3] at hm
 have e3:fr (P-1) 1=(P:Rat)-1:=vM (by decide) (by rw[L3,oX,tz,L3])
 rw[←e3] at hm
 have:=(h.min (P-1) 1 (by decide) hm).1
 omega
theorem tk {a b:Re}(x:Rat):uj (-b) (-a) x↔uj a b (-x):=by
 have h1:Re.of x- -b=b-Re.of (-x):=bt fun k=>by simp only[aG,bE,bi];grind
 have h2: -a-Re.of x=Re.of (-x)-a:=bt fun k=>by simp only[aG,bE,bi];grind
 unfold uj
 grind
theorem XJ {p q:Int}(h:0<q):fr (-p) q= -(fr p q):=vM h (by have:=gU (p:=p) h;rw[rF];grind)
theorem Simp.neg {a b:Re}(h:Simp (-b) (-a) z):Simp a b (-z):=by
 refine⟨(tk z).1 h.mem,fun p q hq hm=>?_,fun hd hz hm=>?_⟩
 ·rw[J0]
  refine h.den (-p) q hq ?_
  rw[XJ hq,tk,Rat.neg_neg];exact hm
 ·rw[J0] at hd
  refine h.near hd (fun e=>hz (by rw[e];rfl)) ?_
  rw[tk]
  have e:aJ (-z) 0= -aJ z 0:=by
   rw[←cO,←cO,←cm]
   exact congrArg aS (bt fun k=>by simp only[bE,bi])
  rw[e] at hm
  rw[show-(z-((aJ z 0:Int):Rat))= -z-((-aJ z 0:Int):Rat) from by rw[rF];grind]
  exact hm
theorem Vl.neg (h:Vl y z):Vl (-y) z:=⟨h.c0,fun e=>h.v fun e2=>e (by rw[e2];rfl),fun e=>h.z (by grind)⟩
section
variable {A B C D E F:Rat}
theorem BSt.start (v1:Vl B C) (v2:Vl E F) (a0:0≤aS (aC A B C)) (ab:aS (aC D E F-aC A B C)=1) (VU:cD (aC A B C) (Re.of ((pw 213:Int):Rat))) (WU:cD (aC D E F) (Re.of ((pw 213:Int):Rat)))
 (gap:cD (Re.of (1/((pw (1710+1710):Int):Rat))) (aC D E F-aC A B C)):BSt (pw 213) 1710 A B C D E F 1 0 0 1 A B D E:=by
 have p7:=cX 213
 have p59:=cX 1710
 have b0:0≤aS (aC D E F):=by
  rw[show aC D E F=aC A B C+(aC D E F-aC A B C) from bt fun k=>by simp only[aG,aU];grind]
  have:=jQ a0 ab
  omega
 exact⟨Mob.init A B C,Mob.init D E F,v1,v2,by decide,by decide,by decide,by decide,p7,by omega,by omega,by omega,p59,a0,b0,VU,WU,.inr gap,a0,eo VU (qI (mK (by decide))),ab,.inl ⟨rfl,rfl⟩⟩
theorem X6 (hA:Rz 113 A) (hB:Rz 21 B) (hC:Rz 78 C) (hD:Rz 113 D) (hE:Rz 21 E) (hF:Rz 78 F) (cC:0≤C) (cF:0≤F) (ab:aS (aC D E F-aC A B C)=1):cD (Re.of (1/((pw (1710+1710):Int):Rat))) (aC D E F-aC A B C):=by
 have e:ms (D-A) E (-B) 0 F C=aC D E F-aC A B C:=bt fun k=>by simp only[ms,aC,aG,aU,aT,bi];grind
 have h:=ab7 (hD.sub hA) hE hB.neg hF hC cF cC (by rw[e];exact ab)
 rw[e] at h
 exact eo (of_le (IJ (by decide))) h
theorem Py (hA:Rz 113 A) (hB:Rz 21 B) (hC:Rz 78 C) (cC:0≤C):cD (aC A B C) (Re.of ((pw 213:Int):Rat))∧cD (-(aC A B C)) (Re.of ((pw 213:Int):Rat)):=FY hA hB hC cC (EG 113 21 78)
theorem BSt.go (hA:Rz 330 A) (hB:Rz 330 B) (hC:Rz 330 C) (hD:Rz 330 D) (hE:Rz 330 E) (hF:Rz 330 F) (S:BSt (pw 213) 1710 A B C D E F 1 0 0 1 A B D E): ∃P Q:Int,Res A B C D E F P Q∧TMin (uj (aC A B C) (aC D E F)) P Q∧Rz 6841 (fr P Q):=by
 obtain⟨P,Q,R,T⟩:=S.res hA hB hC hD hE hF (3*pw 1710).toNat (by have:=cX 1710;omega)
 obtain⟨t1,t2⟩:=T.bound S.v1 S.au S.gap
 have t3:pw (1710+1710+1)≤pw (1710+1710+(1710+1710)+1):=mK (by decide)
 exact⟨P,Q,R,T,T.rz t1 (Int.lt_of_lt_of_le t2 t3)⟩
theorem Uk {a b:Re}(T:TMin (uj (-b) (-a)) P Q) (T2:TMin (uj (a-Re.of (n:Rat)) (b-Re.of (n:Rat))) P2 Q2) (a0:cD (Re.of (n:Rat)) a) (b1:cD b (Re.of ((n+1:Int):Rat))): -(fr P Q)=(n:Rat)+fr P2 Q2:=by
 have sh: ∀x:Rat,uj (a-Re.of (n:Rat)) (b-Re.of (n:Rat)) x↔uj a b ((n:Rat)+x):=by
  intro x
  have h1:Re.of x-(a-Re.of (n:Rat))=Re.of ((n:Rat)+x)-a:=bt fun k=>by simp only[aG,bi];grind
  have h2:b-Re.of (n:Rat)-Re.of x=b-Re.of ((n:Rat)+x):=bt fun k=>by simp only[aG,bi];grind
  unfold uj
  rw[h1,h2]
 have hq:=T.q
 have hq2:=T2.q
 have f1:=gU (p:=P) hq
 have f2:=gU (p:=P2) hq2
 have e2:fr (-(n*Q2)-P2) Q2= -((n:Rat)+fr P2 Q2):=vM hq2 (by rw[oX,rF,fZ,←f2];grind)
 have e1:fr (-P-n*Q) Q= -(fr P Q)-(n:Rat):=vM hq (by rw[oX,rF,fZ,←f1];grind)
 have m2:uj (-b) (-a) (fr (-(n*Q2)-P2) Q2):=by
  rw[e2,tk,Rat.neg_neg]
  exact(sh _).1 T2.mem
 have m1:uj (a-Re.of (n:Rat)) (b-Re.of (n:Rat)) (fr (-P-n*Q) Q):=by
  rw[e1,sh,show(n:Rat)+(-(fr P Q)-(n:Rat))= -(fr P Q) by grind]
  exact(tk _).1 T.mem
 have g1:=(T.min _ _ hq2 m2).2
 have g2:=(T2.min _ _ hq m1).2
 have hQ:Q2=Q:=by omega
 subst hQ
 by_cases h1:Q2=1
 ·exfalso
  subst h1
  obtain⟨i1,i2⟩:=(sh _).1 T2.mem
  have k1:=qg a0 i1
  rw[L3,tz] at f2
  rw[f2] at k1 i2
  have k2:((n+P2:Int):Rat)≤((n+1:Int):Rat):=by
   rw[jw]
   exact gg (eo (by unfold cD;omega) b1)
  have k3:=fH.1 k2
  have k4:((n:Int):Rat)<((n+P2:Int):Rat):=by grind
  have k5:=iN.1 k4
  have k6:P2=1:=by omega
  subst k6
  have k7:0≤aS (Re.of ((n:Rat)+((1:Int):Rat))-b):=by
   rw[←jw];exact b1
  rw[eJ,i2] at k7
  omega
 ·have hc: ∀x y z:Rat,uj (-b) (-a) x→uj (-b) (-a) y→x≤z→z≤y→uj (-b) (-a) z:=by
   intro x y z hx hy hxz hzy
   refine⟨?_,?_⟩
   ·rw[show Re.of z- -b=(Re.of z-Re.of x)+(Re.of x- -b) from bt fun k=>by simp only[aG,aU];grind]
    exact jQ (of_le hxz) hx.1
   ·rw[show-a-Re.of z=(Re.of y-Re.of z)+(-a-Re.of y) from bt fun k=>by simp only[aG,aU];grind]
    exact jQ (of_le hzy) hy.2
  have hk:=Nn hc (by omega) T.mem m2 fun p q hq hm=>(T.min p q hq hm).2
  rw[hk,e2,Rat.neg_neg]
theorem Ls {a b:Re}{z:Int}(hb:aS (b-Re.of (z:Rat))=1) (hl: ∀k:Int,aS (b-Re.of (k:Rat))=1→k≤z) (ha:aS (Re.of (z:Rat)-a)=1) (T:TMin (uj (-b) (-a)) P Q): -(fr P Q)=(z:Rat):=by
 have e:fr (-z) 1= -(z:Rat):=vM (by decide) (by rw[L3,rF,tz])
 obtain⟨m1,m2⟩:=T.min (-z) 1 (by decide) (by rw[e,tk,Rat.neg_neg];exact⟨ha,hb⟩)
 have hq:=T.q
 have hQ:Q=1:=by omega
 subst hQ
 have hf:=gU (p:=P) (q:=1) (by decide)
 rw[L3,tz] at hf
 have hm:=(tk _).1 T.mem
 rw[hf,←rF] at hm
 have:=hl _ hm.2
 grind
theorem rz8 (h1: -pw 213≤n+1) (h2:n≤0):Sz 214 n:=by
 have h3:pw 213+1<pw 214:=Br 213
 exact⟨by omega,by omega⟩
theorem OU (L:Lv A B C D E F n) (aN:aS (aC A B C)<0) (bN:aS (aC D E F)≤0) (hb:aS (aC D E F-Re.of ((n+1:Int):Rat))≤0) (R:Res (A-(n:Rat)) B C (D-(n:Rat)) E F P2 Q2) (x1:aS (Re.of ((n+1:Int):Rat)-aC A B C)=1):
 Ok Tryz.prog 269 [.a (cR A++cR B++cR C),.a (cR D++cR E++cR F)] [dR ((n:Rat)+fr P2 Q2)]:=by
 have c0:((0:Int):Rat)=0:=rfl
 have nz: ∀ {k:Int},Lv (A-(n:Rat)) B C (D-(n:Rat)) E F k→0≤aS (aC (A-(n:Rat)) B C)→k=0:=by
  intro k L2 a0
  have f1:cD (Re.of ((ou (A-(n:Rat)) B C:Int):Rat)) (aC (A-(n:Rat)) B C):=(t8 L2.v1.c0).1
  have f2:=vn (x:=A-(n:Rat)) (y:=B) L2.v1.c0 L2.v1.v
  rw[←L2.nf] at f1 f2
  have k1:=qg (n:=0) (xE a0) f2
  have k2:=iN.1 k1
  have x2:aS (Re.of ((1:Int):Rat)-aC (A-(n:Rat)) B C)=1:=by
   rw[show Re.of ((1:Int):Rat)-aC (A-(n:Rat)) B C=Re.of ((n+1:Int):Rat)-aC A B C from bt fun k=>by
    simp only[aC,aG,aU,aT,bi,jw];grind];exact x1
  have k3:=qg f1 x2
  have k4:=iN.1 k3
  omega
 have eD:D-(n:Rat)-((0:Int):Rat)=D-(n:Rat):=by rw[c0];grind
 have eA:A-(n:Rat)-((0:Int):Rat)=A-(n:Rat):=by rw[c0];grind
 have o0:Re.of ((0:Int):Rat)=Re.of 0:=rfl
 have hg:decide (bo (D-((n:Rat)+1)) E F>0)=false:=decide_eq_false (by rw[t5 L.v2.c0,←AC];omega)
 cases R with
 |whole L2 a0 h=>
  exfalso
  have e:=nz L2 a0
  subst e
  rw[show aC (D-(n:Rat)) E F-Re.of ((0+1:Int):Rat)=aC D E F-Re.of ((n+1:Int):Rat) from bt fun k=>by
   simp only[aC,aG,aU,aT,bi,jw,c0];grind] at h
  omega
 | @last _ _ _ _ _ _ w k m L2 a0 h hbn hz hw hm tA tB m0 mz=>
   have e:=nz L2 a0
   subst e
   rw[eD] at hw hm tA
   rw[o0,Su] at hz
   have oT:=wz (tA.mono (by decide)) (tB.mono (by decide)) L.kF (Qr L.v2 hw)
   rw[←hm] at oT
   rw[FG 0 m0,c0,Rat.zero_add]
   exact YS L (mT L.v1.c0) (decide_eq_true aN) (decide_eq_false (by omega)) (mT L.v2.c0) (decide_eq_false (by omega)) L.flA rfl hg (L.sh.trans (by rw[←fV,hz])) (d:=0) rfl hw mz oT (QR m0)
 | @step _ _ _ _ _ _ w1 w2 k P Q L2 a0 h hbn hz hw1 hw2 R p0 q0 z=>
   have e:=nz L2 a0
   subst e
   rw[eD] at hw2 R
   rw[eA] at hw1 R
   rw[o0,Su] at hz
   rw[uO p0 q0,c0,Rat.zero_add]
   exact Ww L (mT L.v1.c0) (decide_eq_true aN) (decide_eq_false (by omega)) (mT L.v2.c0) (decide_eq_false (by omega)) L.flA rfl hg (L.sh.trans (by rw[←fV,hz])) (d:=1) rfl hw2 hw1 (QC R) z (O6 p0 q0)
theorem Qg (hA:Rz 113 A) (hB:Rz 21 B) (hC:Rz 78 C) (hD:Rz 113 D) (hE:Rz 21 E) (hF:Rz 78 F) (v1:Vl B C) (v2:Vl E F) (ab:aS (aC D E F-aC A B C)=1):
 ∃z:Rat,Rz 6841 z∧Ok Tryz.prog 126 [.a (cR A++cR B++cR C),.a (cR D++cR E++cR F)] [dR z,.c (.i .i64 0)]∧
  Ok Tryz.prog 269 [.a (cR A++cR B++cR C),.a (cR D++cR E++cR F)] [dR z]∧Simp (aC A B C) (aC D E F) z:=by
 have mA:Rz 330 A:=hA.mono (by decide)
 have mB:Rz 330 B:=hB.mono (by decide)
 have mC:Rz 330 C:=hC.mono (by decide)
 have mD:Rz 330 D:=hD.mono (by decide)
 have mE:Rz 330 E:=hE.mono (by decide)
 have mF:Rz 330 F:=hF.mono (by decide)
 have gap:=X6 hA hB hC hD hE hF v1.c0 v2.c0 ab
 obtain⟨uA,lA⟩:=Py hA hB hC v1.c0
 obtain⟨uD,lD⟩:=Py hD hE hF v2.c0
 have e1:f6 (A-D) B (-E) 0 C F=aS (aC A B C-aC D E F):=nM v1.c0 v2.c0
 have g1:decide (aS (aC A B C-aC D E F)≥0)=false:=decide_eq_false (by rw[eJ,ab];decide)
 have ea:f6 (A-0) B (-0) 0 C 0=aS (aC A B C):=by rw[xC v1.c0,Su]
 have eb:f6 (D-0) E (-0) 0 F 0=aS (aC D E F):=by rw[xC v2.c0,Su]
 by_cases aN:aS (aC A B C)<0
 ·by_cases bP:aS (aC D E F)>0
  ·--0 lies between
   have i1:uj (aC A B C) (aC D E F) 0:=by
    refine⟨?_,?_⟩
    ·rw[eJ,Su];have:=bL (aC A B C);omega
    ·rw[Su];have:=bL (aC D E F);omega
   exact⟨0,dH (by decide),ZX mA mB mC mD mE mF v1.c0 v2.c0 e1 g1 ea (decide_eq_true aN) eb (decide_eq_true bP),aaE mA mB mC mD mE mF v1.c0 v2.c0 (mT v1.c0) (decide_eq_true aN) (mT v2.c0) (decide_eq_true bP),⟨i1,fun p q hq _=>by rw[Rat.zero_den];exact hq,fun _ h _=>h rfl⟩⟩
  ·--both are not positive
   have bN:aS (aC D E F)≤0:=by omega
   have nb0:0≤aS (aC (-D) (-E) F):=by rw[jz,cm];omega
   have nab:aS (aC (-A) (-B) C-aC (-D) (-E) F)=1:=by
    rw[jz,jz,show-(aC A B C)- -(aC D E F)=aC D E F-aC A B C from bt fun k=>by simp only[aG,bE];grind];exact ab
   have ngap:cD (Re.of (1/((pw (1710+1710):Int):Rat))) (aC (-A) (-B) C-aC (-D) (-E) F):=by
    rw[jz,jz,show-(aC A B C)- -(aC D E F)=aC D E F-aC A B C from bt fun k=>by simp only[aG,bE];grind];exact gap
   obtain⟨P,Q,R,T,z⟩:=(BSt.start v2.neg v1.neg nb0 nab (by rw[jz];exact lD) (by rw[jz];exact lA) ngap).go mD.neg mE.neg mF mA.neg mB.neg mC
   rw[jz,jz] at T
   have oP:=abC mA mB mC mD mE mF v1.c0 v2.c0 e1 g1 ea (decide_eq_true aN) eb (decide_eq_false bP) (decide_eq_true bN) (z.mono (by decide)) (Q4 R)
   refine⟨-(fr P Q),z.neg,oP,?_,T.simp.neg⟩
   have f1:cD (Re.of ((ou A B C:Int):Rat)) (aC A B C):=(t8 v1.c0).1
   have f2:=vn (x:=A) (y:=B) v1.c0 v1.v
   have hn1:ou A B C≤0:=by
    have h0:cD (aC A B C) (Re.of ((0:Int):Rat)):=by
     show 0≤aS (Re.of 0-aC A B C)
     rw[eJ,Su];omega
    exact fH.1 (gg (eo f1 h0))
   have hn2: -pw 213≤ou A B C+1:=by
    have h0:cD (Re.of ((-pw 213:Int):Rat)) (aC A B C):=by
     refine kZ (fun k=>?_) lA
     simp only[aG,bE,bi,rF];grind
    have:=iN.1 (qg h0 f2)
    omega
   have nz:=rz8 hn2 hn1
   have L:Lv A B C D E F (ou A B C):=⟨hA.mono (by decide),hB.mono (by decide),mC,hD.mono (by decide),hE.mono (by decide),mF,v1,v2,ab,rfl,nz.mono (by decide)⟩
   generalize ou A B C=n at*
   by_cases hb:aS (aC D E F-Re.of ((n+1:Int):Rat))=1
   ·have hg:decide (bo (D-((n:Rat)+1)) E F>0)=true:=decide_eq_true (by rw[t5 v2.c0,←AC,hb];decide)
    have q1:cD (Re.of ((ou D E F:Int):Rat)) (aC D E F):=(t8 v2.c0).1
    have q2:=vn (x:=D) (y:=E) v2.c0 v2.v
    have hm1:n+1<ou D E F+1:=by
     have h0:cD (Re.of ((n+1:Int):Rat)) (aC D E F):=by unfold cD;omega
     exact iN.1 (qg h0 q2)
    have hm2:ou D E F≤0:=by
     have h0:cD (aC D E F) (Re.of ((0:Int):Rat)):=by
      show 0≤aS (Re.of 0-aC D E F)
      rw[eJ,Su];omega
     exact fH.1 (gg (eo q1 h0))
    have oT:Ok Tryz.prog 337 [.a (cR D++cR E++cR F)] [dR ((ou D E F:Int):Rat)]:=wz L.kD L.kE L.kF v2
    generalize ou D E F=m at*
    have mz:Sz 3421 m:=(rz8 (by omega) hm2).mono (by decide)
    have up: ∀k:Int,n+1≤k→aS (Re.of (k:Rat)-aC A B C)=1:=by
     intro k hk
     rw[show Re.of (k:Rat)-aC A B C=(Re.of (k:Rat)-Re.of ((n+1:Int):Rat))+(Re.of ((n+1:Int):Rat)-aC A B C) from bt fun k=>by simp only[aG,aU];grind]
     exact jQ (qI hk) f2
    by_cases he:aS (aC D E F-Re.of (m:Rat))=0
    ·have hlt:n+1<m:=by
      have h0:cD (aC D E F) (Re.of (m:Rat)):=by unfold cD;rw[eJ];omega
      have h1:aS (Re.of (m:Rat)-Re.of ((n+1:Int):Rat))=1:=by
       rw[show Re.of (m:Rat)-Re.of ((n+1:Int):Rat)=(Re.of (m:Rat)-aC D E F)+(aC D E F-Re.of ((n+1:Int):Rat)) from bt fun k=>by simp only[aG,aU];grind]
       exact jQ h0 hb
      exact iN.1 (qg (ig _) h1)
     have eI:=Ls (z:=m-1) (b:=aC D E F) (a:=aC A B C) (by
      rw[show aC D E F-Re.of ((m-1:Int):Rat)=(aC D E F-Re.of (m:Rat))+Re.of 1 from bt fun k=>by simp only[aG,aU,bi,oX,L3];grind]
      exact jQ (by omega) (vt (by decide))) (fun k hk=>by
       have h1:aS (Re.of (m:Rat)-Re.of (k:Rat))=1:=by
        rw[show Re.of (m:Rat)-Re.of (k:Rat)=(Re.of (m:Rat)-aC D E F)+(aC D E F-Re.of (k:Rat)) from bt fun k=>by simp only[aG,aU];grind]
        exact jQ (by rw[eJ];omega) hk
       have:=iN.1 (qg (ig _) h1)
       omega) (up _ (by omega)) T
     rw[eI,oX,L3]
     exact TU L (mT v1.c0) (decide_eq_true aN) (decide_eq_false (by omega)) (mT v2.c0) (decide_eq_false (by omega)) L.flA rfl hg mz oT ((t5 v2.c0).trans he) rfl
    ·have hp:aS (aC D E F-Re.of (m:Rat))=1:=by
      have h0:0≤aS (aC D E F-Re.of (m:Rat)):=q1
      have:=bL (aC D E F-Re.of (m:Rat))
      omega
     have eI:=Ls (z:=m) (b:=aC D E F) (a:=aC A B C) hp (fun k hk=>by
      have h0:cD (Re.of (k:Rat)) (aC D E F):=by unfold cD;omega
      have:=iN.1 (qg h0 q2)
      omega) (up _ (by omega)) T
     rw[eI]
     exact RX L (mT v1.c0) (decide_eq_true aN) (decide_eq_false (by omega)) (mT v2.c0) (decide_eq_false (by omega)) L.flA rfl hg mz oT ((t5 v2.c0).trans hp) rfl
   ·have hb':aS (aC D E F-Re.of ((n+1:Int):Rat))≤0:=by have:=bL (aC D E F-Re.of ((n+1:Int):Rat));omega
    have b1:cD (aC D E F) (Re.of ((n+1:Int):Rat)):=by unfold cD;rw[eJ];omega
    have sA:Rz 330 (A-(n:Rat)):=(hA.sub (d6 nz (by decide))).mono (by decide)
    have sD:Rz 330 (D-(n:Rat)):=(hD.sub (d6 nz (by decide))).mono (by decide)
    have one7:cD (Re.of 1) (Re.of ((pw 213:Int):Rat)):=by
     have:=qI (cX 213)
     exact this
    have xab:aS (aC (D-(n:Rat)) E F-aC (A-(n:Rat)) B C)=1:=by
     rw[fV,fV,show aC D E F-Re.of (n:Rat)-(aC A B C-Re.of (n:Rat))=aC D E F-aC A B C from bt fun k=>by simp only[aG];grind];exact ab
    have xgap:cD (Re.of (1/((pw (1710+1710):Int):Rat))) (aC (D-(n:Rat)) E F-aC (A-(n:Rat)) B C):=by
     rw[fV,fV,show aC D E F-Re.of (n:Rat)-(aC A B C-Re.of (n:Rat))=aC D E F-aC A B C from bt fun k=>by simp only[aG];grind];exact gap
    have x0:0≤aS (aC (A-(n:Rat)) B C):=by rw[fV];exact f1
    have y1:cD (aC (D-(n:Rat)) E F) (Re.of 1):=by rw[fV];exact BH (n:=n) b1 (ig _)
    have a1:cD (aC (A-(n:Rat)) B C) (Re.of 1):=eo (by unfold cD;omega) y1
    obtain⟨P2,Q2,R2,T2,_⟩:=(BSt.start v1 v2 x0 xab (eo a1 one7) (eo y1 one7) xgap).go sA mB mC sD mE mF
    rw[fV,fV] at T2
    rw[Uk T T2 f1 b1]
    exact OU L aN bN hb' R2 f2
 ·--both are not negative
  have a0:0≤aS (aC A B C):=by omega
  have b0: ¬aS (aC D E F)≤0:=by
   have h:=jQ a0 ab
   rw[show aC A B C+(aC D E F-aC A B C)=aC D E F from bt fun k=>by simp only[aG,aU];grind] at h
   omega
  obtain⟨P,Q,R,T,z⟩:=(BSt.start v1 v2 a0 ab uA uD gap).go mA mB mC mD mE mF
  exact⟨fr P Q,z,abe mA mB mC mD mE mF v1.c0 v2.c0 e1 g1 ea (decide_eq_false aN) eb (decide_eq_false b0) (Q4 R),QC R,T.simp⟩
end
theorem abg {p:Pt}(g:GP p):Vl p.b1 (zc p.b1 p.c):=by
 have hv:=g.v
 unfold uE at hv
 refine⟨li (co g),fun hb=>?_,fun hb=>Fh hb⟩
 rw[pe hb]
 grind
theorem KQ {c:Cv}(vc:CvV c) (hm:c.mono=true) (nv:c.vert=false):cx c.p c.q<0:=by
 cases c with
 |seg l f t=>
  have h1:cP f t<0:=by
   have h:(!decide (cP f t≥0))=true:=hm
   grind
  have h2:cx f t≠0:=by
   have h:(cx f t==0)=false:=nv
   grind
  have:=Xu h2
  show cx f t<0
  omega
 |arc k w f t=>
  have h:=Nb vc.g.1 vc.pos ⟨vc.g.2.1,b7.1 vc.sp⟩ ⟨vc.g.2.2,b7.1 vc.sq⟩ hm
  have ha:=d9 (co vc.g.2.1) (co vc.g.2.2)
  show cx f t<0
  cases w with
  |true=>have h:=h.2.2;omega
  |false=>have h:=h.2.2;omega
theorem VC {c:Cv}(nc:c.vert=false) (h1:mS c.p x<0) (h2:0<mS c.q x):xJ c x=true:=by
 unfold xJ
 grind
section
variable {p q:Pt}(gp:GP p) (gq:GP q)
include gp gq
theorem Rq (h:cx p q≤0) (h2:0<mS p x):0<mS q x:=by
 rw[pN (co gp) (co gq),eJ] at h
 rw[od (co gp)] at h2
 rw[od (co gq),show pX q-Re.of x=(pX q-pX p)+(pX p-Re.of x) from bt fun k=>by simp only[aG,aU];grind,jQ (by omega) (by have:=bL (pX p-Re.of x);omega)]
 grind
theorem PA (h:cx p q≤0) (h2:mS q x<0):mS p x<0:=by
 rw[pN (co gp) (co gq),eJ] at h
 rw[od (co gq),eJ] at h2
 rw[od (co gp),eJ,show Re.of x-pX p=(pX q-pX p)+(Re.of x-pX q) from bt fun k=>by simp only[aG,aU];grind,jQ (by omega) (by have:=bL (Re.of x-pX q);omega)]
 grind
theorem VO:cx q p= -cx p q:=d9 (co gp) (co gq)
end
theorem Jt {c:Cv}(vc:CvV c) (hx:Rz 6841 x) (hb:xJ c x=true):(Rz 40000 (wZ c x).a2∧Rz 40000 (wZ c x).b2∧Rz 40000 (wZ c x).c)∧uE (wZ c x).b1 (wZ c x).b2 (wZ c x).c=true:=by
 unfold xJ at hb
 rw[dN,dN] at hb
 have v0:uE 0 0 0=true:=by unfold uE;rw[if_pos ⟨rfl,rfl⟩];exact decide_eq_true rfl
 cases c with
 |seg l f t=>
  have sf:AI l f=0:=by have:=vc.sp;simpa [Cv.supp,Cv.p] using this
  have st:AI l t=0:=by have:=vc.sq;simpa [Cv.supp,Cv.q] using this
  have hv:=JQ vc.g.1 vc.g.2.1 vc.g.2.2 sf st vc.ne
  have hb0:l.b≠0:=fun e=>by
   have h1:(!(cx f t==0))=true:=hb.1
   rw[hv.2 e] at h1;cases h1
  exact⟨⟨((vc.g.1.c.sub (vc.g.1.a.mul hx)).div vc.g.1.b hb0).mono (by decide),dH (by decide),dH (by decide)⟩,v0⟩
 |arc k w f t=>
  have h0:=CM ⟨vc.g.2.1,b7.1 vc.sp⟩ ⟨vc.g.2.2,b7.1 vc.sq⟩ (of_decide_eq_true hb.2.1) (of_decide_eq_true hb.2.2)
  have hk:GK k:=vc.g.1
  have hs:Rz 14000 (mv k x):=(hk.q.sub ((hx.sub hk.x).mul (hx.sub hk.x))).mono (by decide)
  cases e:jd (mv k x) with
  |true=>
   rw[show wZ (.arc k w f t) x=⟨x+0*rt (mv k x),0,k.y+sW w*rt (mv k x),0,0⟩ from if_pos e]
   exact⟨⟨(hk.y.add ((xa w).mul hs.rt)).mono (by decide),dH (by decide),dH (by decide)⟩,v0⟩
  |false=>
   rw[show wZ (.arc k w f t) x=⟨x,0,k.y,sW w,mv k x⟩ from if_neg (by rw[e];decide)]
   refine⟨⟨hk.y.mono (by decide),(xa w).mono (by decide),hs.mono (by decide)⟩,?_⟩
   have hp:0<mv k x:=by have:=Q1 e;grind
   show uE 0 (sW w) (mv k x)=true
   unfold uE
   rw[if_neg (fun g=>KN w g.2),e,decide_eq_true hp];rfl
end Go.Proofs.YtegpmhlfjkhjmaaGreat
