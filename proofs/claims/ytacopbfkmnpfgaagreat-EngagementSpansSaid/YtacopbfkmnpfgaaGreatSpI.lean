/-Package swarfref02. -/
import Derived.Test.YtacopbfkmnpfgaaGreatSpH
namespace Go.Proofs.YtacopbfkmnpfgaaGreat
open Go Go.RowKit
theorem yi:Ok Tryz.prog 89 [] [dI 1]:=by
 refine Ok.fn Tryz.func89 2 [.cell 0 29] rfl<|aa<|ab<|az (ah cE rfl) rfl<|ap<|aa<|ab<|ak (aj rfl (kv (by omega) (by omega)))<|ai<|al ?_
 exact ao (bh bt rfl ae)
theorem mi {x:Rat}:Ok Tryz.prog 71 [dR x] [.c (.i .i64 (bd x 0))]:=by
 refine Ok.fn Tryz.func71 6 [.tmp 2] rfl<|aa<|ab<|ai<|aa<|ab<|am 1<|ak (aw (cI x.num) bt rfl)<|ak (aj rfl (n9))<|ai<|al ?_
 rw[←mB]
 exact ao (aC ae)
theorem bV {x:Rat}:Ok Tryz.prog 71 [dR x] [.c (.i .i64 (bd x 0))]:=mi
theorem mo {n:Int}(h0: -9223372036854775808≤n) (h1:n≤9223372036854775807):Ok Tryz.prog 28 [.c (.i .i64 n)] [dR (n:Rat)]:=by
 refine Ok.fn Tryz.func28 7 [.cell 2 31] rfl<|aa<|ab<|az (ah br rfl) rfl<|ap<|aa<|ab<|am 1<|ak (aj rfl (kv (by omega) (by omega)))<|ak (aj rfl (yi))<|ak (aD (us:=cQ n 1) m8 br rfl rfl rfl) ?_
 refine ai<|al ?_
 rw[FS]
 exact ao (bh au rfl ae)
theorem mK {n:Int}(h0: -9223372036854775808≤n) (h1:n≤9223372036854775807):Ok Tryz.prog 28 [.c (.i .i64 n)] [dR (n:Rat)]:=mo h0 h1
theorem jN {x y:Int}(hx:Sz 199800 x) (hy:Sz 199800 y) (h0:y≠0):Ok Tryz.prog 138 [dI x,dI y] [dR (Rat.divInt x y)]:=by
 have hg:=vD (n:=x) h0
 have hg2:=vD (n:= -x) (d:= -y) (by omega)
 have hgs:=(Sz.gcd (x:=x) hy h0).mono (l:=200000) (by decide)
 have hgs2:=(Sz.gcd (x:= -x) hy.neg (by omega)).mono (l:=200000) (by decide)
 refine Ok.fn Tryz.func138 39 [.cell 4 31] rfl<|aa<|ab<|am 2<|az (ah br rfl) rfl<|ap<|aa<|aa<|ab<|am 1<|ak (aj rfl (n9))<|ai ?_
 refine ay rfl (fun hc1=>?_) (fun hc1=>?_)
 ·have hn:=MA hc1
  refine aN 4 rfl rfl<|an 1<|ag (aj rfl (qo (dJ hx)))<|an 1<|ag (aj rfl (qo (dJ hy)))<|aR<|ar<|ai<|aa<|ab<|am 2<|ak (aj rfl (ut (dJ (Sz.neg hx)) (dJ (Sz.neg hy))))<|az (ah cE rfl) rfl<|ai ?_
  refine aa<|ab<|am 2<|ak (aj rfl (g9 (dJ (Sz.neg hx)) (FU) (by assumption)))<|am 4<|az (ah cE rfl) rfl<|az (ah cE rfl) rfl<|ai<|aa<|ab<|am 2<|ak (aj rfl (g9 (dJ (Sz.neg hy)) (FU) (by assumption)))<|am 4<|az (ah cE rfl) rfl ?_
  refine az (ah cE rfl) rfl<|ai<|aa<|ab<|am 2<|ak (aD (us:=cQ ((-x).fdiv ((Int.gcd (-x) (-y):Int))) ((-y).fdiv ((Int.gcd (-x) (-y):Int)))) m8 br rfl rfl rfl) ?_
  refine ai<|al ?_
  rw[y9,sf (by omega)]
  exact ao (bh au rfl ae)
 ·have hn:=LB hc1
  refine aq<|aa<|ab<|am 2<|ak (aj rfl (ut (dJ hx) (dJ hy)))<|az (ah cE rfl) rfl<|ai<|aa<|ab<|am 2<|ak (aj rfl (g9 (dJ hx) (FU) (by assumption)))<|am 4<|az (ah cE rfl) rfl<|az (ah cE rfl) rfl ?_
  refine ai<|aa<|ab<|am 2<|ak (aj rfl (g9 (dJ hy) (FU) (by assumption)))<|am 4<|az (ah cE rfl) rfl<|az (ah cE rfl) rfl<|ai<|aa<|ab<|am 2<|ak (aD (us:=cQ (x.fdiv (Int.gcd x y:Int)) (y.fdiv (Int.gcd x y:Int))) m8 br rfl rfl rfl) ?_
  refine ai<|al ?_
  rw[sf (by omega)]
  exact ao (bh au rfl ae)
theorem Cw {x y:Int}(hx:Sz 199800 x) (hy:Sz 199800 y) (h0:y≠0):Ok Tryz.prog 307 [dI x,dI y] [dR (Rat.divInt x y),.c (.i .i64 0)]:=by
 refine Ok.fn Tryz.func307 13 [.cell 4 31,.tmp 5] rfl<|aa<|ab<|am 2<|az (ah br rfl) rfl<|ai<|aa<|aa<|ab<|am 1<|ak (aj rfl (n9))<|ai ?_
 refine ay rfl (fun hc1=>?_) (fun hc1=>?_)
 ·exact absurd (II hc1) h0
 ·refine aq<|aa<|ab<|am 2 ?_
  refine ak (aj rfl (jN (dJ hx) (dJ hy) (by first|assumption|exact neg_ne (by assumption)|exact eY (by assumption) (by assumption)))) ?_
  refine ai<|al ?_
  exact ao (bh au rfl (aC ae))
theorem tw {n d:Int}(h0: -9223372036854775808≤n) (h1:n≤9223372036854775807) (h2: -9223372036854775808≤d) (h3:d≤9223372036854775807) (hd:d≠0):Ok Tryz.prog 64 [.c (.i .i64 n),.c (.i .i64 d)] [dR (Rat.divInt n d)]:=by
 have z1:Sz 199800 n:=Sz.small (by decide) h0 h1
 have z2:Sz 199800 d:=Sz.small (by decide) h2 h3
 refine Ok.fn Tryz.func64 12 [.cell 4 31] rfl<|aa<|ab<|az (ah br rfl) rfl<|ap<|aa<|aa<|ab<|ai ?_
 refine ay rfl (fun hc1=>?_) (fun hc1=>?_)
 ·exact absurd (by simpa using hc1) hd
 ·refine aq<|aa<|ab<|am 1<|ak (aj rfl (kv (by omega) (by omega)))<|am 1<|ak (aj rfl (kv (by omega) (by omega))) ?_
  refine ak (aj rfl (jN (FU) (FU) (by first|assumption|exact neg_ne (by assumption)|exact eY (by assumption) (by assumption)))) ?_
  refine ai<|al ?_
  exact ao (bh au rfl ae)
theorem FL {n d:Int}(h0: -9223372036854775808≤n) (h1:n≤9223372036854775807) (h2: -9223372036854775808≤d) (h3:d≤9223372036854775807) (hd:d≠0):Ok Tryz.prog 64 [.c (.i .i64 n),.c (.i .i64 d)] [dR (Rat.divInt n d)]:=tw h0 h1 h2 h3 hd
theorem eD {x:Rat}(hx:Rz 60000 x):Ok Tryz.prog 196 [dR x] [dR (-x)]:=by
 refine Ok.fn Tryz.func196 9 [.cell 2 31] rfl<|aa<|ab<|am 1<|az (ah br rfl) rfl<|ap<|aa<|aN 6 rfl rfl<|an 1<|ag (aw (cI x.num) bt rfl)<|ag (aj rfl (qo (dJ (Rz.n hx))))<|an 1<|ag (aw (cI (x.den:Int)) bt rfl)<|ag (aD (us:=cQ (-x.num) (x.den:Int)) m8 br rfl rfl rfl) ?_
 refine aR<|ar<|ai<|al ?_
 rw[Gh (Rat.neg_num x) (congrArg Int.ofNat (Rat.neg_den x))]
 exact ao (bh au rfl ae)
theorem If {x:Rat}(hx:Rz 300 x):Ok Tryz.prog 196 [dR x] [dR (-x)]:=eD (hx.mono (by decide))
theorem dK {x y:Rat}(hx:Rz 60000 x) (hy:Rz 60000 y):Ok Tryz.prog 144 [dR x,dR y] [dR (x+y)]:=by
 have hn:=eY (gE x) (gE y)
 refine Ok.fn Tryz.func144 26 [.cell 4 31] rfl<|aa<|ab<|am 2<|az (ah br rfl) rfl<|ap<|aa<|ab<|am 1<|ak (aw (cI x.num) bt rfl)<|am 1<|ak (aw (cI (y.den:Int)) bt rfl)<|ak (aj rfl (ii (dJ (Rz.n hx)) (dJ (Rz.d hy))))<|az (ah cE rfl) rfl ?_
 refine ai<|aa<|ab<|am 1<|ak (aw (cI y.num) bt rfl)<|am 1<|ak (aw (cI (x.den:Int)) bt rfl)<|ak (aj rfl (ii (dJ (Rz.n hy)) (dJ (Rz.d hx))))<|az (ah cE rfl) rfl<|ai<|aa<|aN 9 rfl rfl<|an 2<|ag (aj rfl (qK (dJ (Sz.mul (Rz.n hx) (Rz.d hy))) (dJ (Sz.mul (Rz.n hy) (Rz.d hx))))) ?_
 refine an 1<|ag (aw (cI (x.den:Int)) bt rfl)<|an 1<|ag (aw (cI (y.den:Int)) bt rfl)<|ag (aj rfl (ii (dJ (Rz.d hx)) (dJ (Rz.d hy)))) ?_
 refine ag (aj rfl (jN (dJ (Sz.addm (Sz.mul (Rz.n hx) (Rz.d hy)) (Sz.mul (Rz.n hy) (Rz.d hx)))) (dJ (Sz.mul (Rz.d hx) (Rz.d hy))) (by first|assumption|exact neg_ne (by assumption)|exact eY (by assumption) (by assumption)))) ?_
 refine aR<|ar<|ai<|al ?_
 rw[←G7]
 exact ao (bh au rfl ae)
theorem I3 {x y:Rat}(hx:Rz 300 x) (hy:Rz 300 y):Ok Tryz.prog 144 [dR x,dR y] [dR (x+y)]:=dK (hx.mono (by decide)) (hy.mono (by decide))
theorem dA {x y:Rat}(hx:Rz 60000 x) (hy:Rz 60000 y):Ok Tryz.prog 145 [dR x,dR y] [dR (x-y)]:=by
 refine Ok.fn Tryz.func145 9 [.cell 4 31] rfl<|aa<|ab<|am 2<|az (ah br rfl) rfl<|ap<|aa<|aN 4 rfl rfl<|an 2<|ag (aj rfl (eD (aO hy)))<|ag (aj rfl (dK (aO hx) (aO (Rz.neg hy))))<|aR<|ar<|ai ?_
 refine al ?_
 rw[Rat.sub_eq_add_neg]
 exact ao (bh au rfl ae)
theorem Hg {x y:Rat}(hx:Rz 300 x) (hy:Rz 300 y):Ok Tryz.prog 145 [dR x,dR y] [dR (x-y)]:=dA (hx.mono (by decide)) (hy.mono (by decide))
theorem bZ {x y:Rat}(hx:Rz 60000 x) (hy:Rz 60000 y):Ok Tryz.prog 69 [dR x,dR y] [dR (x*y)]:=by
 have hn:=eY (gE x) (gE y)
 refine Ok.fn Tryz.func69 16 [.cell 4 31] rfl<|aa<|ab<|am 2<|az (ah br rfl) rfl<|ap<|aa<|aN 11 rfl rfl<|an 1<|ag (aw (cI x.num) bt rfl)<|an 1<|ag (aw (cI y.num) bt rfl)<|ag (aj rfl (ii (dJ (Rz.n hx)) (dJ (Rz.n hy))))<|an 1 ?_
 refine ag (aw (cI (x.den:Int)) bt rfl)<|an 1<|ag (aw (cI (y.den:Int)) bt rfl)<|ag (aj rfl (ii (dJ (Rz.d hx)) (dJ (Rz.d hy)))) ?_
 refine ag (aj rfl (jN (dJ (Sz.mul (Rz.n hx) (Rz.n hy))) (dJ (Sz.mul (Rz.d hx) (Rz.d hy))) (by first|assumption|exact neg_ne (by assumption)|exact eY (by assumption) (by assumption)))) ?_
 refine aR<|ar<|ai<|al ?_
 rw[←LJ]
 exact ao (bh au rfl ae)
theorem Ha {x y:Rat}(hx:Rz 300 x) (hy:Rz 300 y):Ok Tryz.prog 69 [dR x,dR y] [dR (x*y)]:=bZ (hx.mono (by decide)) (hy.mono (by decide))
theorem wU {x y:Rat}(hx:Rz 60000 x) (hy:Rz 60000 y) (h0:y≠0):Ok Tryz.prog 240 [dR x,dR y] [dR (x/y),.c (.i .i64 0)]:=by
 have hn:=eY (gE x) (Gd h0)
 refine Ok.fn Tryz.func240 19 [.cell 4 31,.tmp 5] rfl<|aa<|ab<|am 2<|az (ah br rfl) rfl<|ai<|aa<|aN 13 rfl rfl<|an 1<|ag (aw (cI x.num) bt rfl)<|an 1<|ag (aw (cI (y.den:Int)) bt rfl)<|ag (aj rfl (ii (dJ (Rz.n hx)) (dJ (Rz.d hy))))<|an 1 ?_
 refine ag (aw (cI (x.den:Int)) bt rfl)<|an 1<|ag (aw (cI y.num) bt rfl)<|ag (aj rfl (ii (dJ (Rz.d hx)) (dJ (Rz.n hy)))) ?_
 refine ag (aj rfl (Cw (dJ (Sz.mul (Rz.n hx) (Rz.d hy))) (dJ (Sz.mul (Rz.d hx) (Rz.n hy))) (by first|assumption|exact neg_ne (by assumption)|exact eY (by assumption) (by assumption)))) ?_
 refine bK<|ar<|ai<|al ?_
 rw[←KT]
 exact ao (bh au rfl (aC ae))
theorem fe {x y:Rat}(hx:Rz 60000 x) (hy:Rz 60000 y):Ok Tryz.prog 139 [dR x,dR y] [.c (.i .i64 (bd x y))]:=by
 refine Ok.fn Tryz.func139 16 [.tmp 4] rfl<|aa<|ab<|ai<|aa<|aN 12 rfl rfl<|an 1<|ag (aw (cI x.num) bt rfl)<|an 1<|ag (aw (cI (y.den:Int)) bt rfl)<|ag (aj rfl (ii (dJ (Rz.n hx)) (dJ (Rz.d hy))))<|an 1<|ag (aw (cI y.num) bt rfl)<|an 1 ?_
 refine ag (aw (cI (x.den:Int)) bt rfl)<|ag (aj rfl (ii (dJ (Rz.n hy)) (dJ (Rz.d hx))))<|ag (aj rfl (BO (dJ (Sz.mul (Rz.n hx) (Rz.d hy))) (dJ (Sz.mul (Rz.n hy) (Rz.d hx)))))<|bK<|ar<|ap<|al ?_
 rw[x8 (x:=x) (y:=y)]
 exact ao (aC ae)
theorem vx {x y:Rat}(hx:Rz 300 x) (hy:Rz 300 y):Ok Tryz.prog 139 [dR x,dR y] [.c (.i .i64 (bd x y))]:=fe (hx.mono (by decide)) (hy.mono (by decide))
theorem tK {x:Int}(hx:Sz 60000 x):Ok Tryz.prog 267 [dI x] [dI (bE x),.c (.b (sQ x))]:=by
 have hs:=Sz.isq hx
 refine Ok.fn Tryz.func267 21 [.cell 2 29,.tmp 3] rfl<|aa<|ab<|am 1<|az (ah cE rfl) rfl<|ai<|aa<|ab<|am 1<|ak (aj rfl (Et (dJ hx)))<|am 3<|az (ah cE rfl) rfl<|ai<|aa ?_
 refine cm 12 [2,999999] a7 (by kernel_rfl) rfl rfl<|an 3 ?_
 refine fI (ca rfl) (fun c1 hb1=>?_)
 cases c1
 ·refine an 6<|fU (fE bt rfl) rfl rfl rfl rfl<|bK<|bg<|ap<|al ?_
  rw[uI (e7 hb1)]
  exact ao (bh bt rfl (aC ae))
 ·refine an 2<|ag (aj rfl (ii (dJ (Sz.isq hx)) (dJ (Sz.isq hx))))<|an 1<|ag (aj rfl (ol (dJ (Sz.mul (Sz.isq hx) (Sz.isq hx))) (dJ hx)))<|an 1<|BC (fE bt rfl) rfl rfl (by kernel_rfl) rfl<|bK<|bg<|ap<|al ?_
  rw[show sQ x=(bE x*bE x==x) from rfl]
  exact ao (bh bt rfl (aC ae))
theorem j6 {x:Rat}(hx:Rz 60000 x):Ok Tryz.prog 193 [dR x] [dQ (if iX x then bE x.num else 0) (if iX x then bE (x.den:Int) else 0),.c (.b (iX x))]:=by
 refine Ok.fn Tryz.func193 30 [.cell 2 31,.tmp 3] rfl<|aa<|ab<|am 1<|az (ah br rfl) rfl<|ai<|aa<|ab<|am 1<|ak (aw (cI x.num) bt rfl)<|ak (aj rfl (tK (dJ (Rz.n hx))))<|am 3<|az (ah cE rfl) rfl<|ai ?_
 refine aa<|ab<|am 1<|ak (aw (cI (x.den:Int)) bt rfl)<|ak (aj rfl (tK (dJ (Rz.d hx))))<|am 3<|az (ah cE rfl) rfl<|ai<|aa<|aa<|ab<|am 2 ?_
 refine dh (ca rfl) (fun c1 hb1=>?_)
 cases c1
 ·refine ai ?_
  refine ay rfl (fun hc2=>?_) (fun hc2=>?_)
  ·refine aa<|ab<|ak (aD (us:=(([.b false]++[.s 0 []])++([.b false]++[.s 0 []]))) m8 br rfl rfl rfl) ?_
   refine ai<|al ?_
   rw[FF (by simpa using hc2),if_neg (by decide),if_neg (by decide),qO]
   exact ao (bh au rfl (aC ae))
  ·refine aq<|aa<|ab<|am 2<|ak (aD (us:=cQ (bE x.num) (bE (x.den:Int))) m8 br rfl rfl rfl) ?_
   refine ai<|al ?_
   rw[J3 (by simpa using hb1) (by simpa using hc2),if_pos rfl,if_pos rfl]
   exact ao (bh au rfl (aC ae))
 ·refine ai<|bP rfl<|aa<|ab<|ak (aD (us:=(([.b false]++[.s 0 []])++([.b false]++[.s 0 []]))) m8 br rfl rfl rfl) ?_
  refine ai<|al ?_
  rw[Dp (by simpa using hb1),if_neg (by decide),if_neg (by decide),qO]
  exact ao (bh au rfl (aC ae))
theorem FZ {x:Rat}(hx:Rz 300 x):Ok Tryz.prog 193 [dR x] [dQ (if iX x then bE x.num else 0) (if iX x then bE (x.den:Int) else 0),.c (.b (iX x))]:=j6 (hx.mono (by decide))
theorem Cd {x y:Rat}(hx:Rz 60000 x) (hy:Rz 60000 y):Ok Tryz.prog 58 [dR x,dR y] [.c (.b (decide (x=y)))]:=by
 refine Ok.fn Tryz.func58 17 [.tmp 4] rfl<|aa<|ab<|ai<|aa<|ab<|am 1<|ak (aw (cI x.num) bt rfl)<|am 1<|ak (aw (cI y.num) bt rfl)<|ak (aj rfl (ol (dJ (Rz.n hx)) (dJ (Rz.n hy)))) ?_
 refine dh (ca rfl) (fun c1 hb1=>?_)
 cases c1
 ·refine ai<|al ?_
  rw[Md hb1]
  exact ao (aC ae)
 ·refine am 1<|ak (aw (cI (x.den:Int)) bt rfl)<|am 1<|ak (aw (cI (y.den:Int)) bt rfl)<|ak (aj rfl (ol (dJ (Rz.d hx)) (dJ (Rz.d hy))))<|ai<|al ?_
  rw[MC hb1]
  exact ao (aC ae)
theorem Ex {x y:Rat}(hx:Rz 300 x) (hy:Rz 300 y):Ok Tryz.prog 58 [dR x,dR y] [.c (.b (decide (x=y)))]:=Cd (hx.mono (by decide)) (hy.mono (by decide))
theorem Cs {neg:Bool}{xs:List Int}(hb:Iu xs) (hn:xs.length≤1000):Ok Tryz.prog 270 [.a (([.b neg]++[cM xs]))] [.c (.b (vI neg xs))]:=by
 refine Ok.fn Tryz.func270 36 [.tmp 2] rfl<|aa<|ab<|ai<|aa<|aa<|ab<|ai<|a8<|cz (ι:={k:Nat // k≤xs.length∧ ∀j,j<k→xs.getD j 0<1000000000}) (fun i=>⟨36,[(1,.p 1 0),(3,.v (.c (.i .i64 (i.1:Int))))],[(1,29,([.b neg]++[cM xs]))]⟩) (fun i=>xs.length-i.1) ⟨0,Nat.zero_le _,fun j hj=>by omega⟩ (aW ⟨rfl,rfl,trivial⟩ ⟨rfl,trivial⟩ rfl) ?_
 rintro⟨k,hk0,hall⟩
 replace hk0:k≤xs.length:=hk0
 replace hall: ∀j,j<k→xs.getD j 0<1000000000:=hall
 have hg:=D3 hb k
 show Dw _ _ ⟨36,[(1,.p 1 0),(3,.v (.c (.i .i64 (k:Int))))],[(1,29,([.b neg]++[cM xs]))]⟩ _
 refine aa<|aa<|ab<|ai ?_
 refine ay rfl (fun hc1=>?_) (fun hc1=>?_)
 ·have hk:k<xs.length:=by simp only[decide_eq_true_eq] at hc1;omega
  refine aq<|aa<|a8<|aa<|ab<|am 3<|ak (bb fm rfl rfl (by omega) (ft _) rfl rfl) ?_
  refine ak (b8 dB rfl (fW (i:=k) (by omega)) rfl) ?_
  refine ai ?_
  refine ay rfl (fun hc2=>?_) (fun hc2=>?_)
  ·have hbad:xs.getD k 0≥1000000000:=by simpa using hc2
   refine aa<|ab<|ai<|al ?_
   rw[LW hk hbad]
   exact ao (aC ae)
  ·have hok: ¬xs.getD k 0≥1000000000:=by simpa using hc2
   have hstep: ∀j,j<k+1→xs.getD j 0<1000000000:=fun j hj=>by
    rcases Nat.lt_or_ge j k with h1|h1
    ·exact hall j h1
    ·rw[show j=k from by omega];omega
   refine aq<|ab<|am 1<|ak (aJ (r:=(k:Int)+1) rfl rfl (aT (by omega) (by omega)) rfl) ?_
   refine ai ?_
   exact⟨⟨k+1,hk,hstep⟩,aW ⟨rfl,by rw[show((k+1:Nat):Int)=(k:Int)+1 from by omega];rfl,trivial⟩ ⟨rfl,trivial⟩ rfl,by show xs.length-(k+1)<xs.length-k;omega⟩
 ·have hk:k=xs.length:=by simp only[decide_eq_false_iff_not] at hc1;omega
  have hL:Lim xs:=zU hb (by rw[←hk];exact hall)
  refine cd<|aa<|aN 20 rfl rfl<|an 2<|ag (aj rfl (f8 hL (by omega)))<|an 5 ?_
  refine fI (ca rfl) (fun c3 hb3=>?_)
  cases c3
  ·refine bK<|ar<|ap<|al ?_
   rw[zE hL,hb3,Bool.false_and]
   exact ao (aC ae)
  ·refine an 3 ?_
   refine fI (ca rfl) (fun c4 hb4=>?_)
   cases c4
   ·refine bK<|ar<|ap<|al ?_
    rw[zE hL,hb3,hb4,Bool.false_or,Bool.true_and]
    exact ao (aC ae)
   ·refine bK<|ar<|ap<|al ?_
    rw[zE hL,hb3,hb4,Bool.true_or,Bool.true_and]
    exact ao (aC ae)
def vQ (x y:Int):Bool:=decide (0<y)&&(((Int.gcd x y:Nat):Int)==1)
theorem Qf {x:Int}:vI (decide (x<0)) (cb x.natAbs)=true:=by
 unfold vI
 rw[rA (bp _),show trm (cb x.natAbs)=cb x.natAbs from fk _]
 by_cases h:x<0
 ·have:cb x.natAbs≠ []:=fun e=>by have:=cV.1 e;omega
  have:=List.length_pos_iff.2 this
  simp[h,this]
 ·simp[h]
theorem IN (v:Nat):Iu (cb v):=fun x hx=>by have:=bp v x hx;omega
theorem xu {x:Int}(hx:Sz 1000 x):Ok Tryz.prog 270 [dI x] [.c (.b true)]:=by
 have:=Cs (neg:=decide (x<0)) (xs:=cb x.natAbs) (IN _) (ep hx)
 rw[Qf] at this;exact this
theorem QY {x y:Int}(h:vQ x y=true):cQ x y=cR (Rat.divInt x y):=by
 unfold vQ at h
 simp only[Bool.and_eq_true,decide_eq_true_eq,beq_iff_eq] at h
 have:=qE (n:=x) h.1 h.2
 unfold dR dQ at this
 injection this with this
 exact this.symm
theorem Og (x:Rat):vQ x.num (x.den:Int)=true:=by
 unfold vQ
 simp only[Bool.and_eq_true,decide_eq_true_eq,beq_iff_eq]
 refine⟨den_pos x,?_⟩
 have:Int.gcd x.num (x.den:Int)=1:=x.reduced
 rw[this];rfl
theorem Nk {x y:Int}(h:(cK y 0 !=1)=true):vQ x y=false:=by
 unfold vQ
 have h1: ¬0<y:=fun e=>by rw[dt e] at h;cases h
 rw[show decide (0<y)=false from by simpa using h1];rfl
theorem OD {y:Int}(h:(cK y 0 !=1)=false):y≠0:=fun e=>by rw[fl e] at h;cases h
theorem Of {x y:Int}(h:(cK y 0 !=1)=false):vQ x y=(((Int.gcd x y:Nat):Int)==1):=by
 unfold vQ
 have h1:0<y:=by
  rcases Int.lt_trichotomy y 0 with e|e|e
  ·rw[dj e] at h;cases h
  ·rw[fl e] at h;cases h
  ·exact e
 rw[show decide (0<y)=true from by simpa using h1,Bool.true_and]
def zc (b c:Rat):Rat:=if b=0 then 0 else c
theorem Ip {b c:Rat}(h:b=0):zc b c=0:=by unfold zc;rw[if_pos h]
theorem qf {b c:Rat}(h:b≠0):zc b c=c:=by unfold zc;rw[if_neg h]
theorem BU {x:Rat}(h:(bd x 0==0)=true):x=0:=zV h
theorem uO {x:Rat}(h:(bd x 0==0)=false):x≠0:=fun e=>by rw[v9.2 e] at h;cases h
theorem JU:(0:Rat)=((0:Int):Rat):=rfl
def ML (b1 c1 b2 c2:Rat):Prop:=b1≠0∧b2≠0∧c1≠c2
def cc (b1 c1 c2:Rat):Rat:=if b1=0 then c2 else c1
theorem KK {b1 c1 c2:Rat}(h:b1=0):cc b1 c1 c2=c2:=by unfold cc;rw[if_pos h]
theorem zm {b1 c1 c2:Rat}(h:b1≠0):cc b1 c1 c2=c1:=by unfold cc;rw[if_neg h]
def wt (b1 b2 c:Rat):Bool:=if b1=0∧b2=0 then decide (c=0) else decide (0<c)&& !iX c
def zP:List CellD:=[.b false,.s 0 [],.b false,.s 0 [],.b false,.s 0 [],.b false,.s 0 [],.b false,.s 0 [],.b false,.s 0 [],.b false,.s 0 [],.b false,.s 0 [],.b false,.s 0 [],.b false,.s 0 []]
theorem GJ {x y:Int}(hx:Sz 999 x) (hy:Sz 999 y):Ok Tryz.prog 205 [dQ x y] [.c (.b (vQ x y))]:=by
 have hx1:Sz 1000 x:=hx.m_
 have hy1:Sz 1000 y:=hy.m_
 refine Ok.fn Tryz.func205 26 [.tmp 2] rfl<|aa<|ab<|ai<|aa<|aa<|ab<|am 1<|ak (aw (cI x) bt rfl)<|ak (aj rfl (xu (by assumption)))<|am 3<|ak (aw (cI y) bt rfl)<|ak (aj rfl (xu (by assumption)))<|am 4 ?_
 refine ak (aw (cI y) bt rfl)<|ak (aj rfl (n9))<|ai ?_
 refine ay rfl (fun hc1=>?_) (fun hc1=>?_)
 ·refine aa<|ab<|ai<|al ?_
  rw[Nk hc1]
  exact ao (aC ae)
 ·have hgc:Sz 1000000 ((Int.gcd x y:Nat):Int):=(Sz.gcd (x:=x) hy (OD hc1)).m_
  refine aq<|aa<|ab<|am 1<|ak (aw (cI x) bt rfl)<|am 1<|ak (aw (cI y) bt rfl)<|ak (aj rfl (ut (dJ hx) (dJ hy)))<|ak (aj rfl (yi))<|ak (aj rfl (ol (FU) (dJ (Sz.small (k:=3) (by decide) (by decide) (by decide)))))<|ai<|al ?_
  rw[Of hc1]
  exact ao (aC ae)
theorem Dl {x:Rat}(hx:Rz 999 x):Ok Tryz.prog 205 [dR x] [.c (.b true)]:=by
 have:=GJ hx.n hx.d
 rw[Og] at this;exact this
theorem pD:Ok Tryz.prog 96 [] [dR 0]:=by
 refine Ok.fn Tryz.func96 2 [.cell 0 31] rfl<|aa<|ab<|az (ah br rfl) rfl<|ap<|aa<|ab<|ak (aj rfl (mo (by omega) (by omega)))<|ai<|al ?_
 rw[JU]
 exact ao (bh au rfl ae)
theorem tS:Ok Tryz.prog 181 [] [dR 0]:=by
 refine Ok.fn Tryz.func181 2 [.cell 0 31] rfl<|aa<|ab<|az (ah br rfl) rfl<|ap<|aa<|ab<|ak (aj rfl (mo (by omega) (by omega)))<|ai<|al ?_
 rw[JU]
 exact ao (bh au rfl ae)
theorem iU {a:Rat}:Ok Tryz.prog 97 [dR a] [.a ((cR a++cR 0++cR 0))]:=by
 refine Ok.fn Tryz.func97 7 [.cell 2 67] rfl<|aa<|ab<|am 1<|az (ah gj rfl) rfl<|ap<|aa<|aN 4 rfl rfl<|an 1<|ag (aj rfl (tS))<|ag (aj rfl (tS))<|ag (aD (us:=(cR a++cR 0++cR 0)) B4 gj rfl rfl rfl) ?_
 refine aR<|ar<|ai<|al ?_
 exact ao (bh iL rfl ae)
theorem rE {a b c:Rat}:Ok Tryz.prog 109 [dR a,dR b,dR c] [.a ((cR a++cR b++cR (zc b c)))]:=by
 refine Ok.fn Tryz.func109 16 [.cell 6 67] rfl<|aa<|ab<|am 3<|az (ah gj rfl) rfl<|ap<|aa<|aa<|ab<|am 1<|ak (aj rfl (mi))<|ai ?_
 refine ay rfl (fun hc1=>?_) (fun hc1=>?_)
 ·refine aa<|ab<|am 1<|ak (aj rfl (iU))<|ai<|al ?_
  have e:=BU hc1
  subst e
  rw[Ip rfl]
  exact ao (bh iL rfl ae)
 ·refine aq<|aa<|ab<|am 3<|ak (aD (us:=(cR a++cR b++cR c)) B4 gj rfl rfl rfl) ?_
  refine ai<|al ?_
  rw[qf (uO hc1)]
  exact ao (bh iL rfl ae)
theorem pF {a1 b1 a2 b2 c:Rat}:Ok Tryz.prog 43 [.a ((cR a1++cR b1++cR a2++cR b2++cR c))] [.a ((cR a1++cR b1++cR (zc b1 c)))]:=by
 refine Ok.fn Tryz.func43 10 [.cell 2 67] rfl<|aa<|ab<|am 1<|az (ah gj rfl) rfl<|ap<|aa<|ab<|am 1<|ak (aw (cR a1) au rfl)<|am 1<|ak (aw (cR b1) au rfl)<|am 1<|ak (aw (cR c) au rfl) ?_
 refine ak (aj rfl (rE))<|ai<|al ?_
 exact ao (bh iL rfl ae)
theorem vv {a1 b1 a2 b2 c:Rat}:Ok Tryz.prog 105 [.a ((cR a1++cR b1++cR a2++cR b2++cR c))] [.a ((cR a2++cR b2++cR (zc b2 c)))]:=by
 refine Ok.fn Tryz.func105 10 [.cell 2 67] rfl<|aa<|ab<|am 1<|az (ah gj rfl) rfl<|ap<|aa<|ab<|am 1<|ak (aw (cR a2) au rfl)<|am 1<|ak (aw (cR b2) au rfl)<|am 1<|ak (aw (cR c) au rfl) ?_
 refine ak (aj rfl (rE))<|ai<|al ?_
 exact ao (bh iL rfl ae)
theorem kV {v w:Rat}:Ok Tryz.prog 30 [.a ((cR v++cR w))] [.a ((cR v++cR 0++cR w++cR 0++cR 0))]:=by
 refine Ok.fn Tryz.func30 11 [.cell 2 37] rfl<|aa<|ab<|am 1<|az (ah jO rfl) rfl<|ap<|aa<|aN 8 rfl rfl<|an 1<|ag (aw (cR v) au rfl)<|ag (aj rfl (pD))<|an 1<|ag (aw (cR w) au rfl)<|ag (aj rfl (pD)) ?_
 refine ag (aj rfl (pD))<|ag (aD (us:=(cR v++cR 0++cR w++cR 0++cR 0)) K0 jO rfl rfl rfl) ?_
 refine aR<|ar<|ai<|al ?_
 exact ao (bh cn rfl ae)
def mA (x:Int):Bool:=decide (-9223372036854775808≤x)&&decide (x≤9223372036854775807)
theorem K1 {x:Int}(h:x< -9223372036854775808):mA x=false:=by unfold mA;rw[decide_eq_false (by omega)];rfl
theorem MD {x:Int}(h:9223372036854775807<x):mA x=false:=by unfold mA;rw[decide_eq_false (p:=x≤9223372036854775807) (by omega),Bool.and_false]
theorem yS {x:Int}(h: ¬x< -9223372036854775808) (h2: ¬9223372036854775807<x):mA x=true:=by unfold mA;rw[decide_eq_true (by omega),decide_eq_true (by omega)];rfl
theorem Jq {x:Int}:mA x=true↔ -9223372036854775808≤x∧x≤9223372036854775807:=by unfold mA;simp
theorem KV {r:Int}(h0:1≤r) (h1:r≤9223372036854775808):IntKind.u64.wrap (0-r)=18446744073709551616-r:=by unfold IntKind.wrap;simp[IntKind.bits,IntKind.signed];omega
theorem Lq {r:Int}(h0:1≤r) (h1:r≤9223372036854775808):IntKind.i64.wrap (18446744073709551616-r)= -r:=by unfold IntKind.wrap;simp[IntKind.bits,IntKind.signed];omega
theorem nk {p:Prop}[Decidable p] (h:decide p=true):p:=by simpa using h
theorem iP {p:Prop}[Decidable p] (h:decide p=false): ¬p:=by simpa using h
theorem AW {b:Bool}(h:(!b)=false):b=true:=by simpa using h
theorem AR {b:Bool}(h:(!b)=true):b=false:=by simpa using h
def qF (lo hi:Int):Bool:=decide (-2305843009213693952≤lo)&&decide (hi≤2305843009213693952)
theorem MX {lo hi:Int}(h:lo< -2305843009213693952):qF lo hi=false:=by unfold qF;rw[decide_eq_false (by omega)];rfl
theorem Pp {lo hi:Int}(h:hi>2305843009213693952):qF lo hi=false:=by unfold qF;rw[decide_eq_false (p:=hi≤2305843009213693952) (by omega),Bool.and_false]
theorem JL {lo hi:Int}(h: ¬lo< -2305843009213693952) (h2: ¬hi>2305843009213693952):qF lo hi=true:=by unfold qF;rw[decide_eq_true (by omega),decide_eq_true (by omega)];rfl
def nU (a:Rat):Int:=(a*((65536:Int):Rat)).num.fdiv ((a*((65536:Int):Rat)).den:Int)
def mZ (a:Rat):Int:= -((-(a*((65536:Int):Rat))).num.fdiv ((-(a*((65536:Int):Rat))).den:Int))
def jS (a:Rat):Bool:=mA (nU a)&&(mA (mZ a)&&qF (nU a) (mZ a))
theorem mI {x:Int}(hx:Sz 1000000 x):Ok Tryz.prog 314 [dI x] [.c (.i .i64 (if mA x then x else 0)),.c (.b (mA x))]:=by
 refine Ok.fn Tryz.func314 39 [.tmp 2,.tmp 3] rfl<|aa<|ab<|ai<|aa<|aa<|aN 10 rfl rfl<|an 1<|ag (aj rfl (gF (by omega) (by omega)))<|ag (aj rfl (io))<|an 1 ?_
 refine fI (ca rfl) (fun c1 hb1=>?_)
 cases c1
 ·refine an 1<|ag (aj rfl (gF (by omega) (by omega)))<|ag (aj rfl (io))<|bK<|ar<|ap ?_
  refine ay rfl (fun hc2=>?_) (fun hc2=>?_)
  ·refine aa<|ab<|ai<|al ?_
   rw[MD (PA hc2),if_neg (by decide)]
   exact ao (aC (aC ae))
  ·have hlo:=LB hb1
   have hhi:=Qq hc2
   have hln:=ep hx
   refine aq<|aa<|ab<|ai<|aa<|aa<|ab<|am 3 ?_
   refine ak (aJ (r:=(((cb x.natAbs).length:Int))-1) rfl rfl (cj (by(first|omega|(simp;omega))) (by(first|omega|(simp;omega)))) rfl) ?_
   refine ai<|a8<|cz (ι:={t:Nat×Int // ShInv (cb x.natAbs) t.1 t.2}) (fun i=>⟨39,[(1,.p 1 0),(4,.v (.c (.i .u64 i.1.2))),(5,.v (.c (.i .i64 ((i.1.1:Int)-1))))],[(1,29,cI x)]⟩) (fun i=>i.1.1) ⟨((cb x.natAbs).length,0),⟨Nat.le_refl _,Int.le_refl 0,by rw[List.take_length];simp⟩⟩ (aW ⟨rfl,rfl,rfl,trivial⟩ ⟨rfl,trivial⟩ rfl) ?_
   rintro⟨⟨j,r⟩,hI⟩
   replace hI:ShInv (cb x.natAbs) j r:=hI
   have g5:=hI.le
   have g3:=hI.r0
   have g4:=hI.bound (bp _)
   rw[bD] at g4
   show Dw _ _ ⟨39,[(1,.p 1 0),(4,.v (.c (.i .u64 r))),(5,.v (.c (.i .i64 ((j:Int)-1))))],[(1,29,cI x)]⟩ _
   refine aa<|aa<|ab<|ai ?_
   refine ay rfl (fun hc3=>?_) (fun hc3=>?_)
   ·obtain⟨q,rfl⟩: ∃q,j=q+1:=⟨j-1,by have:=nk hc3;omega⟩
    have hS:=hI.step (bp _)
    have hB:=hS.bound (bp _)
    have g1:=cg (bp x.natAbs) q
    rw[bD] at hB
    refine Dw.weak (σ':=⟨39,[(1,.p 1 0),(4,.v (.c (.i .u64 r))),(5,.v (.c (.i .i64 (q:Int))))],[(1,29,cI x)]⟩) (aW ⟨rfl,rfl,by rw[show(q:Int)=((q+1:Nat):Int)-1 from by omega];rfl,trivial⟩ ⟨rfl,trivial⟩ rfl) ?_
    refine aq<|aa<|a8<|ab<|am 1 ?_
    refine ak (aJ (r:=r*1000000000) rfl rfl (eA (by(first|omega|(simp;omega))) (by(first|omega|(simp;omega)))) rfl) ?_
    refine am 3 ?_
    refine ak (bb fm rfl rfl (by(first|omega|(simp;omega))) (ft _) rfl rfl) ?_
    refine ak (b8 dB rfl (fW (i:=q) (by(first|omega|(simp;omega)))) rfl) ?_
    refine ak (bF (r:=(cb x.natAbs).getD q 0) fB dH rfl (fa (by(first|omega|(simp;omega))) (by(first|omega|(simp;omega)))) rfl) ?_
    refine ak (aJ (r:=(r*1000000000)+((cb x.natAbs).getD q 0)) rfl rfl (dL (by(first|omega|(simp;omega))) (by(first|omega|(simp;omega)))) rfl) ?_
    refine ai<|ab<|am 1 ?_
    refine ak (aJ (r:=(q:Int)-1) rfl rfl (cj (by(first|omega|(simp;omega))) (by(first|omega|(simp;omega)))) rfl) ?_
    refine ai ?_
    exact⟨⟨(q,r*1000000000+(cb x.natAbs).getD q 0),hS⟩,aW ⟨rfl,rfl,rfl,trivial⟩ ⟨rfl,trivial⟩ rfl,by show q<q+1;omega⟩
   ·have hz:j=0:=by have:=iP hc3;omega
    have hfin:(x.natAbs:Int)=r:=by subst hz;have:=hI.v;rw[bD] at this;simp[aE,kT] at this;omega
    refine cd<|aa<|aa<|ab<|ai ?_
    refine ay rfl (fun hc4=>?_) (fun hc4=>?_)
    ·have hn:=nk hc4
     refine ab<|am 1<|ak (eE (r:=18446744073709551616-r) rfl (KV (by omega) (by omega)) rfl) ?_
     refine ai<|aa<|ab<|am 1<|ak (bF (r:=x) dH r8 rfl (by rw[Lq (by omega) (by omega)];omega) rfl) ?_
     refine ai<|al ?_
     rw[yS hlo hhi,if_pos rfl]
     exact ao (aC (aC ae))
    ·have hn:=iP hc4
     refine aq<|aa<|ab<|am 1<|ak (bF (r:=x) dH r8 rfl (by rw[←hfin];rw[l9 (by omega) (by omega)];omega) rfl) ?_
     refine ai<|al ?_
     rw[yS hlo hhi,if_pos rfl]
     exact ao (aC (aC ae))
 ·refine bK<|ar<|ap<|bP rfl<|aa<|ab<|ai<|al ?_
  rw[K1 (MA hb1),if_neg (by decide)]
  exact ao (aC (aC ae))
theorem kG {x y:Int}:Ok Tryz.prog 316 [.c (.i .i64 x),.c (.i .i64 y)] [.a (([.i .i64 (if qF x y then x else 0)]++[.i .i64 (if qF x y then y else 0)])),.c (.b (qF x y))]:=by
 refine Ok.fn Tryz.func316 16 [.cell 4 221,.tmp 5] rfl<|aa<|ab<|az (ah gU rfl) rfl<|ai<|aa<|aa<|ab<|am 2 ?_
 refine dh (ca rfl) (fun c1 hb1=>?_)
 cases c1
 ·refine ai ?_
  refine ay rfl (fun hc2=>?_) (fun hc2=>?_)
  ·refine aa<|ab<|ak (aD (us:=([.i .i64 0]++[.i .i64 0])) ru gU rfl rfl rfl) ?_
   refine ai<|al ?_
   rw[Pp (nk hc2),if_neg (by decide),if_neg (by decide)]
   exact ao (bh lG rfl (aC ae))
  ·refine aq<|aa<|ab<|am 2<|ak (aD (us:=([.i .i64 x]++[.i .i64 y])) ru gU rfl rfl rfl) ?_
   refine ai<|al ?_
   rw[JL (iP hb1) (iP hc2),if_pos rfl,if_pos rfl]
   exact ao (bh lG rfl (aC ae))
 ·refine ai<|bP rfl<|aa<|ab<|ak (aD (us:=([.i .i64 0]++[.i .i64 0])) ru gU rfl rfl rfl) ?_
  refine ai<|al ?_
  rw[MX (nk hb1),if_neg (by decide),if_neg (by decide)]
  exact ao (bh lG rfl (aC ae))
def ld (s t c:Int):Int:=if t=0∨s=t then s else if s=0 then t else s*c
def cU (a b m:Rat):Int:=ld (bd a 0) (bd b 0*bd m 0) (bd (a*a) (b*b*m))
def tp (A B C D M N:Rat):Rat:=A*A+B*B*M-N*(C*C+D*D*M)
def nf (A B C D N:Rat):Rat:=A*B-N*(C*D)
def iu (A B C D M N:Rat):Int:=if M<0∨N<0 then 0 else ld (cU A B M) (cU C D M*bd N 0) (cU (tp A B C D M N) (nf A B C D N+nf A B C D N) M)
theorem qI {s t c:Int}(h:(s==0)=true):ld s t c=t:=by
 have h:s=0:=by simpa using h
 subst h
 unfold ld
 by_cases ht:t=0
 ·rw[if_pos (.inl ht),ht]
 ·rw[if_neg (by omega),if_pos rfl]
theorem qv {s t c:Int}(h:(t==0)=true):ld s t c=s:=by
 have h:t=0:=by simpa using h
 unfold ld;rw[if_pos (.inl h)]
theorem qC {s t c:Int}(h:(s==t)=true):ld s t c=s:=by
 have h:s=t:=by simpa using h
 unfold ld;rw[if_pos (.inr h)]
theorem qw {s t c:Int}(h1:(s==0)=false) (h2:(t==0)=false) (h3:(s==t)=false):ld s t c=s*c:=by
 have h1:s≠0:=by simpa using h1
 have h2:t≠0:=by simpa using h2
 have h3:s≠t:=by simpa using h3
 unfold ld;rw[if_neg (by omega),if_neg h1]
theorem eF (x y:Rat): -1≤bd x y∧bd x y≤1:=by
 unfold bd
 split
 ·omega
 ·split<;>omega
theorem gC {s t:Int}(h: -1≤s∧s≤1) (h': -1≤t∧t≤1): -1≤s*t∧s*t≤1:=by
 have hs:s= -1∨s=0∨s=1:=by omega
 rcases hs with rfl|rfl|rfl<;>omega
theorem Bf {s t c:Int}(h: -1≤s∧s≤1) (h': -1≤t∧t≤1) (h2: -1≤c∧c≤1): -1≤ld s t c∧ld s t c≤1:=by
 unfold ld
 split
 ·exact h
 ·split
  ·exact h'
  ·exact gC h h2
theorem fN (a b m:Rat): -1≤cU a b m∧cU a b m≤1:=Bf (eF _ _) (gC (eF _ _) (eF _ _)) (eF _ _)
theorem Cb {x:Rat}(h:decide (bd x 0<0)=true):x<0:=xL.1 (by simpa using h)
theorem Bi {x:Rat}(h:decide (bd x 0<0)=false): ¬x<0:=fun e=>by have:=xL.2 e;simp at h;omega
theorem uf {A B C D M N:Rat}(h:M<0∨N<0):iu A B C D M N=0:=by unfold iu;rw[if_pos h]
theorem mY {A B C D M N:Rat}(h: ¬M<0) (h': ¬N<0):iu A B C D M N=ld (cU A B M) (cU C D M*bd N 0) (cU (tp A B C D M N) (nf A B C D N+nf A B C D N) M):=by
 unfold iu;rw[if_neg (fun e=>e.elim h h')]
theorem nt {a b m:Rat}(ha:Rz 20000 a) (hb:Rz 20000 b) (hm:Rz 20000 m):Ok Tryz.prog 172 [dR a,dR b,dR m] [.c (.i .i64 (cU a b m))]:=by
 have ka:Rz 60000 a:=ha.m_
 have kb:Rz 60000 b:=hb.m_
 have hp:=gC (eF b 0) (eF m 0)
 have hp2:=gC (eF a 0) (eF (a*a) (b*b*m))
 refine Ok.fn Tryz.func172 40 [.tmp 6] rfl<|aa<|ab<|ai<|aa<|aN 9 rfl rfl<|an 1<|ag (aj rfl (fQ))<|an 1<|ag (aj rfl (fQ))<|an 1<|ag (aj rfl (fQ))<|ag (aJ (r:=(bd b 0)*(bd m 0)) rfl rfl (ff (by omega) (by omega)) rfl) ?_
 refine bK<|ar<|ap<|aa<|a8<|aa<|ab<|am 2 ?_
 refine dh (ca rfl) (fun c1 hb1=>?_)
 cases c1
 ·refine ai ?_
  refine ay rfl (fun hc2=>?_) (fun hc2=>?_)
  ·refine aa<|ab<|ai<|al ?_
   unfold cU
   rw[qC hc2]
   exact ao (aC ae)
  ·refine aa<|ab<|ai ?_
   refine ay rfl (fun hc3=>?_) (fun hc3=>?_)
   ·refine aa<|ab<|ai<|al ?_
    unfold cU
    rw[qI hc3]
    exact ao (aC ae)
   ·refine aq<|aa<|aN 12 rfl rfl<|an 3<|ag (aj rfl (dT (aO ha) (aO ha)))<|an 2<|ag (aj rfl (dT (aO hb) (aO hb)))<|an 1<|ag (aj rfl (dT (aO (Rz.mul hb hb)) (aO hm)))<|ag (aj rfl (wQ (aO (Rz.mul ha ha)) (aO (Rz.mul (Rz.mul hb hb) hm))))<|ag (aJ (r:=(bd a 0)*(bd (a*a) ((b*b)*m))) rfl rfl (ff (by omega) (by omega)) rfl) ?_
    refine bK<|ar<|ap<|al ?_
    unfold cU
    rw[qw hc3 hb1 hc2]
    exact ao (aC ae)
 ·refine ai<|bP rfl<|aa<|ab<|ai<|al ?_
  unfold cU
  rw[qv hb1]
  exact ao (aC ae)
theorem om {a b m:Rat}(ha:Rz 20000 a) (hb:Rz 20000 b) (hm:Rz 20000 m):Ok Tryz.prog 143 [dR a,dR b,dR m] [.c (.i .i64 (cU a b m))]:=by
 have ka:Rz 60000 a:=ha.m_
 have kb:Rz 60000 b:=hb.m_
 have hp:=gC (eF b 0) (eF m 0)
 have hp2:=gC (eF a 0) (eF (a*a) (b*b*m))
 refine Ok.fn Tryz.func143 42 [.tmp 6] rfl<|aa<|ab<|ai<|aa<|aN 9 rfl rfl<|an 1<|ag (aj rfl (bV))<|an 1<|ag (aj rfl (bV))<|an 1<|ag (aj rfl (bV))<|ag (aJ (r:=(bd b 0)*(bd m 0)) rfl rfl (ff (by omega) (by omega)) rfl) ?_
 refine bK<|ar<|ap<|aa<|aa<|ab<|am 2 ?_
 refine dh (ca rfl) (fun c1 hb1=>?_)
 cases c1
 ·refine am 3 ?_
  refine dh (ca rfl) (fun c2 hb2=>?_)
  cases c2
  ·refine ai ?_
   refine ay rfl (fun hc3=>?_) (fun hc3=>?_)
   ·refine aa<|aa<|ab<|ai ?_
    refine ay rfl (fun hc4=>?_) (fun hc4=>?_)
    ·exact absurd hc4 (by rw[hb1];decide)
    ·refine aq<|aa<|ab<|ai<|al ?_
     unfold cU
     rw[qC hc3]
     exact ao (aC ae)
   ·refine aq<|aa<|aN 12 rfl rfl<|an 3<|ag (aj rfl (bZ (aO ha) (aO ha)))<|an 2<|ag (aj rfl (bZ (aO hb) (aO hb)))<|an 1<|ag (aj rfl (bZ (aO (Rz.mul hb hb)) (aO hm)))<|ag (aj rfl (fe (aO (Rz.mul ha ha)) (aO (Rz.mul (Rz.mul hb hb) hm))))<|ag (aJ (r:=(bd a 0)*(bd (a*a) ((b*b)*m))) rfl rfl (ff (by omega) (by omega)) rfl) ?_
    refine bK<|ar<|ap<|al ?_
    unfold cU
    rw[qw hb1 hb2 hc3]
    exact ao (aC ae)
  ·refine ai<|bP rfl<|aa<|aa<|ab<|ai ?_
   refine ay rfl (fun hc5=>?_) (fun hc5=>?_)
   ·exact absurd hc5 (by rw[hb1];decide)
   ·refine aq<|aa<|ab<|ai<|al ?_
    unfold cU
    rw[qv hb2]
    exact ao (aC ae)
 ·refine ai<|bP rfl<|aa<|aa<|ab<|ai ?_
  refine ay rfl (fun hc6=>?_) (fun hc6=>?_)
  ·refine aa<|ab<|ai<|al ?_
   unfold cU
   rw[qI hb1]
   exact ao (aC ae)
  ·exact absurd hb1 (by rw[hc6];decide)
theorem pM {A B C D M N:Rat}(hA:Rz 1600 A) (hB:Rz 1600 B) (hC:Rz 1600 C) (hD:Rz 1600 D) (hM:Rz 1600 M) (hN:Rz 1600 N):Ok Tryz.prog 67 [.a ((cR A++cR B++cR C++cR D++cR M++cR N))] [.c (.i .i64 (iu A B C D M N))]:=by
 have z1:=gC (fN C D M) (eF N 0)
 have z2:=gC (fN A B M) (fN (A*A+B*B*M-N*(C*C+D*D*M)) ((A*B-N*(C*D))+(A*B-N*(C*D))) M)
 refine Ok.fn Tryz.func67 107 [.tmp 2] rfl<|aa<|ab<|ai<|aa<|aa<|ab<|am 1<|ak (aw (cR M) au rfl)<|ak (aj rfl (bV))<|am 1 ?_
 refine dh (ca rfl) (fun c1 hb1=>?_)
 cases c1
 ·have n1:=Bi hb1
  refine am 1<|ak (aw (cR N) au rfl)<|ak (aj rfl (bV))<|ai ?_
  refine ay rfl (fun hc2=>?_) (fun hc2=>?_)
  ·refine aa<|ab<|ai<|al ?_
   rw[uf (.inr (Cb hc2))]
   exact ao (aC ae)
  ·have n2:=Bi hc2
   refine aq<|aa<|aN 20 rfl rfl<|an 1<|ag (aw (cR A) au rfl)<|an 1<|ag (aw (cR B) au rfl)<|an 1<|ag (aw (cR M) au rfl)<|ag (aj rfl (om (aO hA) (aO hB) (aO hM)))<|an 1<|ag (aw (cR C) au rfl)<|an 1<|ag (aw (cR D) au rfl) ?_
   refine an 1<|ag (aw (cR M) au rfl)<|ag (aj rfl (om (aO hC) (aO hD) (aO hM)))<|an 1<|ag (aw (cR N) au rfl)<|ag (aj rfl (bV))<|ag (aJ (r:=(cU C D M)*(bd N 0)) rfl rfl (ff (by omega) (by omega)) rfl) ?_
   refine bK<|ar<|ap<|aa<|aa<|ab<|am 2 ?_
   refine dh (ca rfl) (fun c3 hb3=>?_)
   cases c3
   ·refine am 3 ?_
    refine dh (ca rfl) (fun c4 hb4=>?_)
    cases c4
    ·refine ai ?_
     refine ay rfl (fun hc5=>?_) (fun hc5=>?_)
     ·refine aa<|aa<|ab<|ai ?_
      refine ay rfl (fun hc6=>?_) (fun hc6=>?_)
      ·exact absurd hc6 (by rw[hb3];decide)
      ·refine aq<|aa<|ab<|ai<|al ?_
       rw[mY n1 n2,qC hc5]
       exact ao (aC ae)
     ·refine aq<|aa<|aN 18 rfl rfl<|an 1<|ag (aw (cR N) au rfl)<|an 1<|ag (aw (cR C) au rfl)<|an 1<|ag (aw (cR C) au rfl)<|ag (aj rfl (bZ (aO hC) (aO hC)))<|an 1<|ag (aw (cR D) au rfl)<|an 1<|ag (aw (cR D) au rfl) ?_
      refine ag (aj rfl (bZ (aO hD) (aO hD)))<|an 1<|ag (aw (cR M) au rfl)<|ag (aj rfl (bZ (aO (Rz.mul hD hD)) (aO hM)))<|ag (aj rfl (dK (aO (Rz.mul hC hC)) (aO (Rz.mul (Rz.mul hD hD) hM))))<|ag (aj rfl (bZ (aO hN) (aO (Rz.add (Rz.mul hC hC) (Rz.mul (Rz.mul hD hD) hM)))))<|ba (ah br rfl) rfl<|aR<|bg<|ai<|aa<|aN 17 rfl rfl<|an 1<|ag (aw (cR A) au rfl) ?_
      refine an 1<|ag (aw (cR A) au rfl)<|ag (aj rfl (bZ (aO hA) (aO hA)))<|an 1<|ag (aw (cR B) au rfl)<|an 1<|ag (aw (cR B) au rfl)<|ag (aj rfl (bZ (aO hB) (aO hB)))<|an 1<|ag (aw (cR M) au rfl)<|ag (aj rfl (bZ (aO (Rz.mul hB hB)) (aO hM)))<|ag (aj rfl (dK (aO (Rz.mul hA hA)) (aO (Rz.mul (Rz.mul hB hB) hM))))<|an 1<|ag (aj rfl (dA (aO (Rz.add (Rz.mul hA hA) (Rz.mul (Rz.mul hB hB) hM))) (aO (Rz.mul hN (Rz.add (Rz.mul hC hC) (Rz.mul (Rz.mul hD hD) hM)))))) ?_
      refine ba (ah br rfl) rfl<|aR<|bg<|ai<|aa<|aN 15 rfl rfl<|an 1<|ag (aw (cR A) au rfl)<|an 1<|ag (aw (cR B) au rfl)<|ag (aj rfl (bZ (aO hA) (aO hB)))<|an 1<|ag (aw (cR N) au rfl)<|an 1 ?_
      refine ag (aw (cR C) au rfl)<|an 1<|ag (aw (cR D) au rfl)<|ag (aj rfl (bZ (aO hC) (aO hD)))<|ag (aj rfl (bZ (aO hN) (aO (Rz.mul hC hD))))<|ag (aj rfl (dA (aO (Rz.mul hA hB)) (aO (Rz.mul hN (Rz.mul hC hD)))))<|ba (ah br rfl) rfl<|aR<|bg<|ai<|aa<|aN 10 rfl rfl<|an 4<|ag (aj rfl (dK (aO (Rz.sub (Rz.mul hA hB) (Rz.mul hN (Rz.mul hC hD)))) (aO (Rz.sub (Rz.mul hA hB) (Rz.mul hN (Rz.mul hC hD)))))) ?_
      refine an 1<|ag (aw (cR M) au rfl)<|ag (aj rfl (om (aO (Rz.sub (Rz.add (Rz.mul hA hA) (Rz.mul (Rz.mul hB hB) hM)) (Rz.mul hN (Rz.add (Rz.mul hC hC) (Rz.mul (Rz.mul hD hD) hM))))) (aO (Rz.add (Rz.sub (Rz.mul hA hB) (Rz.mul hN (Rz.mul hC hD))) (Rz.sub (Rz.mul hA hB) (Rz.mul hN (Rz.mul hC hD))))) (aO hM)))<|ag (aJ (r:=(cU A B M)*(cU (((A*A)+((B*B)*M))-(N*((C*C)+((D*D)*M)))) (((A*B)-(N*(C*D)))+((A*B)-(N*(C*D)))) M)) rfl rfl (ff (by omega) (by omega)) rfl) ?_
      refine bK<|ar<|ap<|al ?_
      rw[mY n1 n2,qw hb3 hb4 hc5]
      exact ao (aC ae)
    ·refine ai<|bP rfl<|aa<|aa<|ab<|ai ?_
     refine ay rfl (fun hc7=>?_) (fun hc7=>?_)
     ·exact absurd hc7 (by rw[hb3];decide)
     ·refine aq<|aa<|ab<|ai<|al ?_
      rw[mY n1 n2,qv hb4]
      exact ao (aC ae)
   ·refine ai<|bP rfl<|aa<|aa<|ab<|ai ?_
    refine ay rfl (fun hc8=>?_) (fun hc8=>?_)
    ·refine aa<|ab<|ai<|al ?_
     rw[mY n1 n2,qI hb3]
     exact ao (aC ae)
    ·exact absurd hb3 (by rw[hc8];decide)
 ·refine ai<|bP rfl<|aa<|ab<|ai<|al ?_
  rw[uf (.inl (Cb hb1))]
  exact ao (aC ae)
theorem EC {a b c d e f:Rat}(ha:Rz 60000 a) (_hb:Rz 60000 b) (hd:Rz 60000 d) (he:Rz 60000 e):Ok Tryz.prog 192 [.a ((cR a++cR b++cR c)),.a ((cR d++cR e++cR f))] [.a ((cR (a-d)++cR b++cR (-e)++cR 0++cR c++cR f))]:=by
 refine Ok.fn Tryz.func192 21 [.cell 4 105] rfl<|aa<|ab<|am 2<|az (ah jH rfl) rfl<|ap<|aa<|aN 16 rfl rfl<|an 1<|ag (aw (cR a) au rfl)<|an 1<|ag (aw (cR d) au rfl)<|ag (aj rfl (dA (aO ha) (aO hd)))<|an 1 ?_
 refine ag (aw (cR b) au rfl)<|an 1<|ag (aw (cR e) au rfl)<|ag (aj rfl (eD (aO he)))<|ag (aj rfl ((show Ok Tryz.prog 28 [.c (.i .i64 0)] [dR 0] from mK (by omega) (by omega))))<|an 1<|ag (aw (cR c) au rfl)<|an 1<|ag (aw (cR f) au rfl)<|ag (aD (us:=(cR (a-d)++cR b++cR (-e)++cR 0++cR c++cR f)) tc jH rfl rfl rfl) ?_
 refine aR<|ar<|ai<|al ?_
 exact ao (bh t8 rfl ae)
theorem xK {a b c d e f:Rat}(ha:Rz 600 a) (hb:Rz 600 b) (hc:Rz 600 c) (hd:Rz 600 d) (he:Rz 600 e) (hf:Rz 600 f):Ok Tryz.prog 104 [.a ((cR a++cR b++cR c)),.a ((cR d++cR e++cR f))] [.c (.i .i64 (iu (a-d) b (-e) 0 c f))]:=by
 have ka:Rz 60000 a:=ha.m_
 have ma:Rz 1600 a:=ha.m_
 have kb:Rz 60000 b:=hb.m_
 have mb:Rz 1600 b:=hb.m_
 have kc:Rz 60000 c:=hc.m_
 have mc:Rz 1600 c:=hc.m_
 have kd:Rz 60000 d:=hd.m_
 have md:Rz 1600 d:=hd.m_
 have ke:Rz 60000 e:=he.m_
 have me:Rz 1600 e:=he.m_
 have kf:Rz 60000 f:=hf.m_
 have mf:Rz 1600 f:=hf.m_
 have m1:Rz 1600 (a-d):=(ha.sub hd).m_
 have m2:Rz 1600 (-e):=me.neg
 have m0:Rz 1600 (0:Rat):=Rz.int (n:=0) (Sz.small (by decide) (by decide) (by decide)) (by decide)
 refine Ok.fn Tryz.func104 9 [.tmp 4] rfl<|aa<|ab<|ai<|aa<|ab<|am 2<|ak (aj rfl (EC (by assumption) (by assumption) (by assumption) (by assumption)))<|ak (aj rfl (pM (by assumption) (by assumption) (by assumption) (by assumption) (by assumption) (by assumption)))<|ai<|al ?_
 exact ao (aC ae)
def rB (b c:Rat):Rat:=if b=0∨c=0 then 0 else b
def rC (b c:Rat):Rat:=if b=0∨c=0 then 0 else c
theorem Mw {b c:Rat}(h:b=0∨c=0):rB b c=0:=by unfold rB;rw[if_pos h]
theorem MB {b c:Rat}(h:b=0∨c=0):rC b c=0:=by unfold rC;rw[if_pos h]
theorem PB {b c:Rat}(h:b≠0) (h':c≠0):rB b c=b:=by unfold rB;rw[if_neg (fun e=>e.elim h h')]
theorem Qw {b c:Rat}(h:b≠0) (h':c≠0):rC b c=c:=by unfold rC;rw[if_neg (fun e=>e.elim h h')]
def s3 (a b c:Rat):Int:=if bd a 0=bd b 0∨bd b 0=0 then bd a 0 else if bd a 0=0 then bd b 0 else if 0<a*a-b*b*c then bd a 0 else bd b 0
theorem PO {a b c:Rat}(h:(bd a 0==bd b 0)=true):s3 a b c=bd a 0:=by unfold s3;rw[if_pos (.inl (by simpa using h))]
theorem Qm {a b c:Rat}(h:(bd b 0==0)=true):s3 a b c=bd a 0:=by unfold s3;rw[if_pos (.inr (by simpa using h))]
theorem Lo {a b c:Rat}(h:(bd a 0==bd b 0)=false) (h2:(bd b 0==0)=false):s3 a b c=if bd a 0=0 then bd b 0 else if 0<a*a-b*b*c then bd a 0 else bd b 0:=by
 unfold s3;rw[if_neg (fun e=>e.elim (by simpa using h) (by simpa using h2))]
theorem Qa {x:Rat}(h:decide (bd x 0>0)=true):0<x:=xn.1 (by simpa using h)
theorem OV {x:Rat}(h:decide (bd x 0>0)=false): ¬0<x:=fun e=>by have:=xn.2 e;simp at h;omega
theorem i_eq {s t:Int}(h:(s==t)=true):s=t:=by simpa using h
theorem Nw {s t:Int}(h:(s==t)=false):s≠t:=by simpa using h
theorem LZ {b c e f:Rat}(hf: ¬ML b c e f) (h1:b≠0) (h2:e≠0):(bd c f==0)=true:=by
 rw[r_eqb']
 exact Classical.byContradiction fun h=>hf ⟨h1,h2,h⟩
where
 r_eqb' {x y:Rat}:((bd x y==0)=true)=(x=y):=by rw[beq_iff_eq];exact propext v9
theorem oD {a:Rat}(ha:Rz 60000 a):Ok Tryz.prog 358 [dR a] [dR (a*a)]:=by
 refine Ok.fn Tryz.func358 6 [.cell 2 31] rfl<|aa<|ab<|am 1<|az (ah br rfl) rfl<|ap<|aa<|ab<|am 2<|ak (aj rfl (bZ (aO ha) (aO ha)))<|ai<|al ?_
 exact ao (bh au rfl ae)
theorem zq {a b c:Rat}(ha:Rz 10000 a) (hb:Rz 10000 b) (hc:Rz 10000 c):Ok Tryz.prog 325 [.a ((cR a++cR b++cR c))] [dR (a*a-b*b*c)]:=by
 have ka:Rz 60000 a:=ha.m_
 have kb:Rz 60000 b:=hb.m_
 have kc:Rz 60000 c:=hc.m_
 refine Ok.fn Tryz.func325 13 [.cell 2 31] rfl<|aa<|ab<|am 1<|az (ah br rfl) rfl<|ap<|aa<|aN 10 rfl rfl<|an 1<|ag (aw (cR a) au rfl)<|ag (aj rfl (oD (aO ha)))<|an 1<|ag (aw (cR b) au rfl)<|ag (aj rfl (oD (aO hb))) ?_
 refine an 1<|ag (aw (cR c) au rfl)<|ag (aj rfl (bZ (aO (Rz.mul hb hb)) (aO hc)))<|ag (aj rfl (dA (aO (Rz.mul ha ha)) (aO (Rz.mul (Rz.mul hb hb) hc))))<|aR<|ar<|ai<|al ?_
 exact ao (bh au rfl ae)
theorem sD {a b c:Rat}(ha:Rz 10000 a) (hb:Rz 10000 b) (hc:Rz 10000 c):Ok Tryz.prog 271 [.a ((cR a++cR b++cR c))] [.c (.i .i64 (s3 a b c))]:=by
 refine Ok.fn Tryz.func271 28 [.tmp 2] rfl<|aa<|ab<|ai<|aa<|aN 8 rfl rfl<|an 1<|ag (aw (cR a) au rfl)<|ag (aj rfl (bV))<|an 1<|ag (aw (cR b) au rfl)<|ag (aj rfl (bV))<|bK<|ar ?_
 refine ap<|aa<|aa<|ab<|am 3 ?_
 refine dh (ca rfl) (fun c1 hb1=>?_)
 cases c1
 ·refine ai ?_
  refine ay rfl (fun hc2=>?_) (fun hc2=>?_)
  ·refine aa<|ab<|ai<|al ?_
   rw[Qm hc2]
   exact ao (aC ae)
  ·refine aq<|aa<|aa<|ab<|ai ?_
   refine ay rfl (fun hc3=>?_) (fun hc3=>?_)
   ·refine aa<|ab<|ai<|al ?_
    rw[Lo hb1 hc2,if_pos (i_eq hc3)]
    exact ao (aC ae)
   ·refine aq<|aa<|aa<|ab<|am 1<|ak (aj rfl (zq (by assumption) (by assumption) (by assumption)))<|ak (aj rfl (bV))<|ai ?_
    refine ay rfl (fun hc4=>?_) (fun hc4=>?_)
    ·refine aa<|ab<|ai<|al ?_
     rw[Lo hb1 hc2,if_neg (Nw hc3),if_pos (Qa hc4)]
     exact ao (aC ae)
    ·refine aq<|aa<|ab<|ai<|al ?_
     rw[Lo hb1 hc2,if_neg (Nw hc3),if_neg (OV hc4)]
     exact ao (aC ae)
 ·refine ai<|bP rfl<|aa<|ab<|ai<|al ?_
  rw[PO hb1]
  exact ao (aC ae)
theorem kF {a b c:Rat}:Ok Tryz.prog 329 [dR a,dR b,dR c] [.a ((cR a++cR (rB b c)++cR (rC b c)))]:=by
 refine Ok.fn Tryz.func329 21 [.cell 6 67] rfl<|aa<|ab<|am 3<|az (ah gj rfl) rfl<|ap<|aa<|aa<|ab<|am 1<|ak (aj rfl (mi))<|am 1 ?_
 refine dh (ca rfl) (fun c1 hb1=>?_)
 cases c1
 ·refine am 1<|ak (aj rfl (mi))<|ai ?_
  refine ay rfl (fun hc2=>?_) (fun hc2=>?_)
  ·refine aa<|ab<|am 1<|ak (aj rfl (iU))<|ai<|al ?_
   rw[Mw (.inr (BU hc2)),MB (.inr (BU hc2))]
   exact ao (bh iL rfl ae)
  ·refine aq<|aa<|ab<|am 3<|ak (aD (us:=(cR a++cR b++cR c)) B4 gj rfl rfl rfl) ?_
   refine ai<|al ?_
   rw[PB (uO hb1) (uO hc2),Qw (uO hb1) (uO hc2)]
   exact ao (bh iL rfl ae)
 ·refine ai<|bP rfl<|aa<|ab<|am 1<|ak (aj rfl (iU))<|ai<|al ?_
  rw[Mw (.inl (BU hb1)),MB (.inl (BU hb1))]
  exact ao (bh iL rfl ae)
theorem oU {a b c d e f:Rat}(hc:Rz 60000 c) (hf:Rz 60000 f) (hb: ¬ML b c e f):Ok Tryz.prog 330 [.a ((cR a++cR b++cR c)),.a ((cR d++cR e++cR f))] [dR (cc b c f),.c (.b true)]:=by
 refine Ok.fn Tryz.func330 26 [.cell 4 31,.tmp 5] rfl<|aa<|ab<|am 2<|az (ah br rfl) rfl<|ai<|aa<|aa<|ab<|am 1<|ak (aw (cR b) au rfl)<|ak (aj rfl (bV))<|ai ?_
 refine ay rfl (fun hc1=>?_) (fun hc1=>?_)
 ·refine aa<|ab<|am 1<|ak (aw (cR f) au rfl)<|ai<|al ?_
  rw[KK (BU hc1)]
  exact ao (bh au rfl (aC ae))
 ·refine aq<|aa<|cm 16 [4,999999] a7 (by kernel_rfl) rfl rfl<|an 1<|ag (aw (cR c) au rfl)<|an 1<|ag (aw (cR e) au rfl)<|ag (aj rfl (bV))<|an 1 ?_
  refine fI (ca rfl) (fun c2 hb2=>?_)
  cases c2
  ·refine an 1<|ag (aw (cR c) au rfl)<|an 1<|ag (aw (cR f) au rfl)<|ag (aj rfl (fe (aO hc) (aO hf)))<|an 2<|fU (fE au rfl) rfl rfl rfl rfl<|bK<|bg<|ap<|al ?_
   rw[zm (uO hc1),LZ hb (uO hc1) (uO hb2)]
   exact ao (bh au rfl (aC ae))
  ·refine an 7<|BC (fE au rfl) rfl rfl (by kernel_rfl) rfl<|bK<|bg<|ap<|al ?_
   rw[zm (uO hc1)]
   exact ao (bh au rfl (aC ae))
theorem CK {a b c d e f:Rat}(ha:Rz 10000 a) (hb:Rz 10000 b) (hc:Rz 10000 c) (hd:Rz 10000 d) (he:Rz 10000 e) (hf:Rz 10000 f) (hbad: ¬ML b c e f):Ok Tryz.prog 361 [.a ((cR a++cR b++cR c)),.a ((cR d++cR e++cR f))] [.a ((cR (a+d)++cR (rB (b+e) (cc b c f))++cR (rC (b+e) (cc b c f)))),.c (.i .i64 0)]:=by
 have ka:Rz 60000 a:=ha.m_
 have kb:Rz 60000 b:=hb.m_
 have kc:Rz 60000 c:=hc.m_
 have kd:Rz 60000 d:=hd.m_
 have ke:Rz 60000 e:=he.m_
 have kf:Rz 60000 f:=hf.m_
 refine Ok.fn Tryz.func361 29 [.cell 4 67,.tmp 5] rfl<|aa<|ab<|am 2<|az (ah gj rfl) rfl<|ai<|aa<|ab<|am 2<|ak (aj rfl (oU (by assumption) (by assumption) (by assumption)))<|am 3<|az (ah br rfl) rfl<|ai<|aa ?_
 refine aa<|ab<|ai<|bj rfl<|aq<|aa<|aN 12 rfl rfl<|an 1<|ag (aw (cR a) au rfl)<|an 1<|ag (aw (cR d) au rfl)<|ag (aj rfl (dK (aO ha) (aO hd)))<|an 1<|ag (aw (cR b) au rfl) ?_
 refine an 1<|ag (aw (cR e) au rfl)<|ag (aj rfl (dK (aO hb) (aO he)))<|an 1<|ag (aj rfl (kF))<|aR<|ar<|ai<|al ?_
 exact ao (bh iL rfl (aC ae))
theorem Cu {a b c d e f:Rat}(ha:Rz 10000 a) (hb:Rz 10000 b) (hc:Rz 10000 c) (hd:Rz 10000 d) (he:Rz 10000 e) (hf:Rz 10000 f) (hbad: ¬ML b c e f):Ok Tryz.prog 276 [.a ((cR a++cR b++cR c)),.a ((cR d++cR e++cR f))] [.a ((cR (a*d+b*e*cc b c f)++cR (rB (a*e+b*d) (cc b c f))++cR (rC (a*e+b*d) (cc b c f)))),.c (.i .i64 0)]:=by
 have ka:Rz 60000 a:=ha.m_
 have kb:Rz 60000 b:=hb.m_
 have kc:Rz 60000 c:=hc.m_
 have kd:Rz 60000 d:=hd.m_
 have ke:Rz 60000 e:=he.m_
 have kf:Rz 60000 f:=hf.m_
 have hcc:Rz 10000 (cc b c f):=by unfold cc;split<;>assumption
 have z1:Rz 60000 (b*e):=(Rz.mul hb he).m_
 have z2:Rz 60000 (cc b c f):=hcc.m_
 have z3:Rz 60000 (b*e*cc b c f):=(Rz.mul (Rz.mul hb he) hcc).m_
 refine Ok.fn Tryz.func276 47 [.cell 4 67,.tmp 5] rfl<|aa<|ab<|am 2<|az (ah gj rfl) rfl<|ai<|aa<|ab<|am 2<|ak (aj rfl (oU (by assumption) (by assumption) (by assumption)))<|am 3<|az (ah br rfl) rfl<|ai<|aa ?_
 refine aa<|ab<|ai<|bj rfl<|aq<|aa<|aN 14 rfl rfl<|an 1<|ag (aw (cR a) au rfl)<|an 1<|ag (aw (cR d) au rfl) ?_
 refine ag (aj rfl (bZ (by first|assumption|exact Rz.mono ha (by decide)) (by first|assumption|exact Rz.mono hd (by decide)))) ?_
 refine an 1<|ag (aw (cR b) au rfl)<|an 1<|ag (aw (cR e) au rfl) ?_
 refine ag (aj rfl (bZ (by first|assumption|exact Rz.mono hb (by decide)) (by first|assumption|exact Rz.mono he (by decide)))) ?_
 refine an 1 ?_
 refine ag (aj rfl (bZ (by first|assumption|exact Rz.mono (Rz.mul hb he) (by decide)) (by first|assumption|exact Rz.mono (by assumption) (by decide)))) ?_
 refine ag (aj rfl (dK (by first|assumption|exact Rz.mono (Rz.mul ha hd) (by decide)) (by first|assumption|exact Rz.mono (Rz.mul (Rz.mul hb he) (by assumption)) (by decide)))) ?_
 refine ba (ah br rfl) rfl<|aR<|bg<|ai<|aa<|aN 12 rfl rfl<|an 1<|ag (aw (cR a) au rfl)<|an 1<|ag (aw (cR e) au rfl) ?_
 refine ag (aj rfl (bZ (by first|assumption|exact Rz.mono ha (by decide)) (by first|assumption|exact Rz.mono he (by decide)))) ?_
 refine an 1<|ag (aw (cR b) au rfl)<|an 1<|ag (aw (cR d) au rfl) ?_
 refine ag (aj rfl (bZ (by first|assumption|exact Rz.mono hb (by decide)) (by first|assumption|exact Rz.mono hd (by decide)))) ?_
 refine ag (aj rfl (dK (by first|assumption|exact Rz.mono (Rz.mul ha he) (by decide)) (by first|assumption|exact Rz.mono (Rz.mul hb hd) (by decide)))) ?_
 refine ba (ah br rfl) rfl<|aR<|bg<|ai<|aa<|ab<|am 3<|ak (aj rfl (kF))<|ai<|al ?_
 exact ao (bh iL rfl (aC ae))
theorem va {a b c d:Rat}(ha:Rz 60000 a) (hd:Rz 60000 d):Ok Tryz.prog 274 [.a ((cR a++cR b++cR c)),dR d] [.a ((cR (a+d)++cR b++cR c))]:=by
 refine Ok.fn Tryz.func274 14 [.cell 4 67] rfl<|aa<|ab<|am 2<|az (ah gj rfl) rfl<|ap<|aa<|aN 9 rfl rfl<|an 1<|ag (aw (cR a) au rfl)<|an 1<|ag (aj rfl (dK (aO ha) (aO hd)))<|an 1<|ag (aw (cR b) au rfl) ?_
 refine an 1<|ag (aw (cR c) au rfl)<|ag (aD (us:=(cR (a+d)++cR b++cR c)) B4 gj rfl rfl rfl) ?_
 refine aR<|ar<|ai<|al ?_
 exact ao (bh iL rfl ae)
end Go.Proofs.YtacopbfkmnpfgaaGreat
