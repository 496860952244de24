/-Package swarfref02. -/
import Derived.Test.YtacopbfkmnpfgaaGreatImH
namespace Go.Proofs.YtacopbfkmnpfgaaGreat
open Go Go.RowKit
theorem Ik:Ok Tryz.prog 89 [] [dI 1]:=by
 refine Ok.fn Tryz.func89 2 [.cell 0 29] rfl<|aa<|ab<|aw (ah de rfl) rfl<|aq<|aa<|ab<|aj (ak rfl (lA (by omega) (by omega)))<|ag<|am ?_
 exact ao (bb bF rfl ae)
theorem nl {x:Rat}:Ok Tryz.prog 71 [dR x] [.c (.i .i64 (a7 x 0))]:=by
 refine Ok.fn Tryz.func71 6 [.tmp 2] rfl<|aa<|ab<|ag<|aa<|ab<|al 1<|aj (aA (cI x.num) bF rfl)<|aj (ak rfl (tg))<|ag<|am ?_
 rw[←nG]
 exact ao (aC ae)
theorem cb {x:Rat}:Ok Tryz.prog 71 [dR x] [.c (.i .i64 (a7 x 0))]:=nl
theorem qi {n:Int}(h0: -9223372036854775808≤n) (h1:n≤9223372036854775807):Ok Tryz.prog 28 [.c (.i .i64 n)] [dR (n:Rat)]:=by
 refine Ok.fn Tryz.func28 7 [.cell 2 31] rfl<|aa<|ab<|aw (ah br rfl) rfl<|aq<|aa<|ab<|al 1<|aj (ak rfl (lA (by omega) (by omega)))<|aj (ak rfl (Ik))<|aj (aD (us:=cQ n 1) om br rfl rfl rfl) ?_
 refine ag<|am ?_
 rw[Gw]
 exact ao (bb az rfl ae)
theorem oe {n:Int}(h0: -9223372036854775808≤n) (h1:n≤9223372036854775807):Ok Tryz.prog 28 [.c (.i .i64 n)] [dR (n:Rat)]:=qi h0 h1
theorem kF {x y:Int}(hx:Sz 199800 x) (hy:Sz 199800 y) (h0:y≠0):Ok Tryz.prog 138 [dI x,dI y] [dR (Rat.divInt x y)]:=by
 have hg:=wh (n:=x) h0
 have hg2:=wh (n:= -x) (d:= -y) (by omega)
 have hgs:=(Sz.gcd (x:=x) hy h0).mono (l:=200000) (by decide)
 have hgs2:=(Sz.gcd (x:= -x) hy.neg (by omega)).mono (l:=200000) (by decide)
 refine Ok.fn Tryz.func138 39 [.cell 4 31] rfl<|aa<|ab<|al 2<|aw (ah br rfl) rfl<|aq<|aa<|aa<|ab<|al 1<|aj (ak rfl (tg))<|ag ?_
 refine au rfl (fun hc1=>?_) (fun hc1=>?_)
 ·have hn:=NK hc1
  refine aM 4 rfl rfl<|an 1<|ai (ak rfl (rL (ep hx)))<|an 1<|ai (ak rfl (rL (ep hy)))<|aV<|ar<|ag<|aa<|ab<|al 2<|aj (ak rfl (CU (ep (Sz.neg hx)) (ep (Sz.neg hy))))<|aw (ah de rfl) rfl<|ag ?_
  refine aa<|ab<|al 2<|aj (ak rfl (iO (ep (Sz.neg hx)) (Jt) (by assumption)))<|al 4<|aw (ah de rfl) rfl<|aw (ah de rfl) rfl<|ag<|aa<|ab<|al 2<|aj (ak rfl (iO (ep (Sz.neg hy)) (Jt) (by assumption)))<|al 4<|aw (ah de rfl) rfl ?_
  refine aw (ah de rfl) rfl<|ag<|aa<|ab<|al 2<|aj (aD (us:=cQ ((-x).fdiv ((Int.gcd (-x) (-y):Int))) ((-y).fdiv ((Int.gcd (-x) (-y):Int)))) om br rfl rfl rfl) ?_
  refine ag<|am ?_
  rw[AF,sV (by omega)]
  exact ao (bb az rfl ae)
 ·have hn:=NE hc1
  refine ap<|aa<|ab<|al 2<|aj (ak rfl (CU (ep hx) (ep hy)))<|aw (ah de rfl) rfl<|ag<|aa<|ab<|al 2<|aj (ak rfl (iO (ep hx) (Jt) (by assumption)))<|al 4<|aw (ah de rfl) rfl<|aw (ah de rfl) rfl ?_
  refine ag<|aa<|ab<|al 2<|aj (ak rfl (iO (ep hy) (Jt) (by assumption)))<|al 4<|aw (ah de rfl) rfl<|aw (ah de rfl) rfl<|ag<|aa<|ab<|al 2<|aj (aD (us:=cQ (x.fdiv (Int.gcd x y:Int)) (y.fdiv (Int.gcd x y:Int))) om br rfl rfl rfl) ?_
  refine ag<|am ?_
  rw[sV (by omega)]
  exact ao (bb az rfl ae)
theorem D5 {x y:Int}(hx:Sz 199800 x) (hy:Sz 199800 y) (h0:y≠0):Ok Tryz.prog 307 [dI x,dI y] [dR (Rat.divInt x y),.c (.i .i64 0)]:=by
 refine Ok.fn Tryz.func307 13 [.cell 4 31,.tmp 5] rfl<|aa<|ab<|al 2<|aw (ah br rfl) rfl<|ag<|aa<|aa<|ab<|al 1<|aj (ak rfl (tg))<|ag ?_
 refine au rfl (fun hc1=>?_) (fun hc1=>?_)
 ·exact absurd (OI hc1) h0
 ·refine ap<|aa<|ab<|al 2 ?_
  refine aj (ak rfl (kF (ep hx) (ep hy) (by first|assumption|exact neg_ne (by assumption)|exact fz (by assumption) (by assumption)))) ?_
  refine ag<|am ?_
  exact ao (bb az rfl (aC ae))
theorem Ej {n d:Int}(h0: -9223372036854775808≤n) (h1:n≤9223372036854775807) (h2: -9223372036854775808≤d) (h3:d≤9223372036854775807) (hd:d≠0):Ok Tryz.prog 64 [.c (.i .i64 n),.c (.i .i64 d)] [dR (Rat.divInt n d)]:=by
 have z1:Sz 199800 n:=Sz.small (by decide) h0 h1
 have z2:Sz 199800 d:=Sz.small (by decide) h2 h3
 refine Ok.fn Tryz.func64 12 [.cell 4 31] rfl<|aa<|ab<|aw (ah br rfl) rfl<|aq<|aa<|aa<|ab<|ag ?_
 refine au rfl (fun hc1=>?_) (fun hc1=>?_)
 ·exact absurd (by simpa using hc1) hd
 ·refine ap<|aa<|ab<|al 1<|aj (ak rfl (lA (by omega) (by omega)))<|al 1<|aj (ak rfl (lA (by omega) (by omega))) ?_
  refine aj (ak rfl (kF (Jt) (Jt) (by first|assumption|exact neg_ne (by assumption)|exact fz (by assumption) (by assumption)))) ?_
  refine ag<|am ?_
  exact ao (bb az rfl ae)
theorem ii {x:Rat}(hx:Rz 60000 x):Ok Tryz.prog 196 [dR x] [dR (-x)]:=by
 refine Ok.fn Tryz.func196 9 [.cell 2 31] rfl<|aa<|ab<|al 1<|aw (ah br rfl) rfl<|aq<|aa<|aM 6 rfl rfl<|an 1<|ai (aA (cI x.num) bF rfl)<|ai (ak rfl (rL (ep (Rz.n hx))))<|an 1<|ai (aA (cI (x.den:Int)) bF rfl)<|ai (aD (us:=cQ (-x.num) (x.den:Int)) om br rfl rfl rfl) ?_
 refine aV<|ar<|ag<|am ?_
 rw[HL (Rat.neg_num x) (congrArg Int.ofNat (Rat.neg_den x))]
 exact ao (bb az rfl ae)
theorem eJ {x y:Rat}(hx:Rz 60000 x) (hy:Rz 60000 y):Ok Tryz.prog 144 [dR x,dR y] [dR (x+y)]:=by
 have hn:=fz (iA x) (iA y)
 refine Ok.fn Tryz.func144 26 [.cell 4 31] rfl<|aa<|ab<|al 2<|aw (ah br rfl) rfl<|aq<|aa<|ab<|al 1<|aj (aA (cI x.num) bF rfl)<|al 1<|aj (aA (cI (y.den:Int)) bF rfl)<|aj (ak rfl (iS (ep (Rz.n hx)) (ep (Rz.d hy))))<|aw (ah de rfl) rfl ?_
 refine ag<|aa<|ab<|al 1<|aj (aA (cI y.num) bF rfl)<|al 1<|aj (aA (cI (x.den:Int)) bF rfl)<|aj (ak rfl (iS (ep (Rz.n hy)) (ep (Rz.d hx))))<|aw (ah de rfl) rfl<|ag<|aa<|aM 9 rfl rfl<|an 2<|ai (ak rfl (sh (ep (Sz.mul (Rz.n hx) (Rz.d hy))) (ep (Sz.mul (Rz.n hy) (Rz.d hx))))) ?_
 refine an 1<|ai (aA (cI (x.den:Int)) bF rfl)<|an 1<|ai (aA (cI (y.den:Int)) bF rfl)<|ai (ak rfl (iS (ep (Rz.d hx)) (ep (Rz.d hy)))) ?_
 refine ai (ak rfl (kF (ep (Sz.addm (Sz.mul (Rz.n hx) (Rz.d hy)) (Sz.mul (Rz.n hy) (Rz.d hx)))) (ep (Sz.mul (Rz.d hx) (Rz.d hy))) (by first|assumption|exact neg_ne (by assumption)|exact fz (by assumption) (by assumption)))) ?_
 refine aV<|ar<|ag<|am ?_
 rw[←JC]
 exact ao (bb az rfl ae)
theorem LV {x y:Rat}(hx:Rz 300 x) (hy:Rz 300 y):Ok Tryz.prog 144 [dR x,dR y] [dR (x+y)]:=eJ (hx.mono (by decide)) (hy.mono (by decide))
theorem fK {x y:Rat}(hx:Rz 60000 x) (hy:Rz 60000 y):Ok Tryz.prog 145 [dR x,dR y] [dR (x-y)]:=by
 refine Ok.fn Tryz.func145 9 [.cell 4 31] rfl<|aa<|ab<|al 2<|aw (ah br rfl) rfl<|aq<|aa<|aM 4 rfl rfl<|an 2<|ai (ak rfl (ii (aO hy)))<|ai (ak rfl (eJ (aO hx) (aO (Rz.neg hy))))<|aV<|ar<|ag ?_
 refine am ?_
 rw[Rat.sub_eq_add_neg]
 exact ao (bb az rfl ae)
theorem JK {x y:Rat}(hx:Rz 300 x) (hy:Rz 300 y):Ok Tryz.prog 145 [dR x,dR y] [dR (x-y)]:=fK (hx.mono (by decide)) (hy.mono (by decide))
theorem cK {x y:Rat}(hx:Rz 60000 x) (hy:Rz 60000 y):Ok Tryz.prog 69 [dR x,dR y] [dR (x*y)]:=by
 have hn:=fz (iA x) (iA y)
 refine Ok.fn Tryz.func69 16 [.cell 4 31] rfl<|aa<|ab<|al 2<|aw (ah br rfl) rfl<|aq<|aa<|aM 11 rfl rfl<|an 1<|ai (aA (cI x.num) bF rfl)<|an 1<|ai (aA (cI y.num) bF rfl)<|ai (ak rfl (iS (ep (Rz.n hx)) (ep (Rz.n hy))))<|an 1 ?_
 refine ai (aA (cI (x.den:Int)) bF rfl)<|an 1<|ai (aA (cI (y.den:Int)) bF rfl)<|ai (ak rfl (iS (ep (Rz.d hx)) (ep (Rz.d hy)))) ?_
 refine ai (ak rfl (kF (ep (Sz.mul (Rz.n hx) (Rz.n hy))) (ep (Sz.mul (Rz.d hx) (Rz.d hy))) (by first|assumption|exact neg_ne (by assumption)|exact fz (by assumption) (by assumption)))) ?_
 refine aV<|ar<|ag<|am ?_
 rw[←OR]
 exact ao (bb az rfl ae)
theorem JL {x y:Rat}(hx:Rz 300 x) (hy:Rz 300 y):Ok Tryz.prog 69 [dR x,dR y] [dR (x*y)]:=cK (hx.mono (by decide)) (hy.mono (by decide))
theorem tz {x y:Rat}(hx:Rz 60000 x) (hy:Rz 60000 y) (h0:y≠0):Ok Tryz.prog 240 [dR x,dR y] [dR (x/y),.c (.i .i64 0)]:=by
 have hn:=fz (iA x) (HM h0)
 refine Ok.fn Tryz.func240 19 [.cell 4 31,.tmp 5] rfl<|aa<|ab<|al 2<|aw (ah br rfl) rfl<|ag<|aa<|aM 13 rfl rfl<|an 1<|ai (aA (cI x.num) bF rfl)<|an 1<|ai (aA (cI (y.den:Int)) bF rfl)<|ai (ak rfl (iS (ep (Rz.n hx)) (ep (Rz.d hy))))<|an 1 ?_
 refine ai (aA (cI (x.den:Int)) bF rfl)<|an 1<|ai (aA (cI y.num) bF rfl)<|ai (ak rfl (iS (ep (Rz.d hx)) (ep (Rz.n hy)))) ?_
 refine ai (ak rfl (D5 (ep (Sz.mul (Rz.n hx) (Rz.d hy))) (ep (Sz.mul (Rz.d hx) (Rz.n hy))) (by first|assumption|exact neg_ne (by assumption)|exact fz (by assumption) (by assumption)))) ?_
 refine bJ<|ar<|ag<|am ?_
 rw[←ON]
 exact ao (bb az rfl (aC ae))
theorem Le {x y:Rat}(hx:Rz 300 x) (hy:Rz 300 y) (h0:y≠0):Ok Tryz.prog 240 [dR x,dR y] [dR (x/y),.c (.i .i64 0)]:=tz (hx.mono (by decide)) (hy.mono (by decide)) h0
theorem ft {x y:Rat}(hx:Rz 60000 x) (hy:Rz 60000 y):Ok Tryz.prog 139 [dR x,dR y] [.c (.i .i64 (a7 x y))]:=by
 refine Ok.fn Tryz.func139 16 [.tmp 4] rfl<|aa<|ab<|ag<|aa<|aM 12 rfl rfl<|an 1<|ai (aA (cI x.num) bF rfl)<|an 1<|ai (aA (cI (y.den:Int)) bF rfl)<|ai (ak rfl (iS (ep (Rz.n hx)) (ep (Rz.d hy))))<|an 1<|ai (aA (cI y.num) bF rfl)<|an 1 ?_
 refine ai (aA (cI (x.den:Int)) bF rfl)<|ai (ak rfl (iS (ep (Rz.n hy)) (ep (Rz.d hx))))<|ai (ak rfl (CL (ep (Sz.mul (Rz.n hx) (Rz.d hy))) (ep (Sz.mul (Rz.n hy) (Rz.d hx)))))<|bJ<|ar<|aq<|am ?_
 rw[zZ (x:=x) (y:=y)]
 exact ao (aC ae)
theorem Lh {x y:Rat}(hx:Rz 300 x) (hy:Rz 300 y):Ok Tryz.prog 139 [dR x,dR y] [.c (.i .i64 (a7 x y))]:=ft (hx.mono (by decide)) (hy.mono (by decide))
theorem vb {x:Int}(hx:Sz 60000 x):Ok Tryz.prog 267 [dI x] [dI (bD x),.c (.b (rH x))]:=by
 have hs:=Sz.isq hx
 refine Ok.fn Tryz.func267 21 [.cell 2 29,.tmp 3] rfl<|aa<|ab<|al 1<|aw (ah de rfl) rfl<|ag<|aa<|ab<|al 1<|aj (ak rfl (In (ep hx)))<|al 3<|aw (ah de rfl) rfl<|ag<|aa ?_
 refine dr 12 [2,999999] bd (by kernel_rfl) rfl rfl<|an 3 ?_
 refine gJ (bO rfl) (fun c1 hb1=>?_)
 cases c1
 ·refine an 6<|gV (iE bF rfl) rfl rfl rfl rfl<|bJ<|bi<|aq<|am ?_
  rw[v9 (e7 hb1)]
  exact ao (bb bF rfl (aC ae))
 ·refine an 2<|ai (ak rfl (iS (ep (Sz.isq hx)) (ep (Sz.isq hx))))<|an 1<|ai (ak rfl (sx (ep (Sz.mul (Sz.isq hx) (Sz.isq hx))) (ep hx)))<|an 1<|C0 (iE bF rfl) rfl rfl (by kernel_rfl) rfl<|bJ<|bi<|aq<|am ?_
  rw[show rH x=(bD x*bD x==x) from rfl]
  exact ao (bb bF rfl (aC ae))
theorem oa {x:Rat}(hx:Rz 60000 x):Ok Tryz.prog 193 [dR x] [dQ (if iD x then bD x.num else 0) (if iD x then bD (x.den:Int) else 0),.c (.b (iD x))]:=by
 refine Ok.fn Tryz.func193 30 [.cell 2 31,.tmp 3] rfl<|aa<|ab<|al 1<|aw (ah br rfl) rfl<|ag<|aa<|ab<|al 1<|aj (aA (cI x.num) bF rfl)<|aj (ak rfl (vb (ep (Rz.n hx))))<|al 3<|aw (ah de rfl) rfl<|ag ?_
 refine aa<|ab<|al 1<|aj (aA (cI (x.den:Int)) bF rfl)<|aj (ak rfl (vb (ep (Rz.d hx))))<|al 3<|aw (ah de rfl) rfl<|ag<|aa<|aa<|ab<|al 2 ?_
 refine cm (bO rfl) (fun c1 hb1=>?_)
 cases c1
 ·refine ag ?_
  refine au rfl (fun hc2=>?_) (fun hc2=>?_)
  ·refine aa<|ab<|aj (aD (us:=(([.b false]++[.s 0 []])++([.b false]++[.s 0 []]))) om br rfl rfl rfl) ?_
   refine ag<|am ?_
   rw[Gg (by simpa using hc2),if_neg (by decide),if_neg (by decide),rO]
   exact ao (bb az rfl (aC ae))
  ·refine ap<|aa<|ab<|al 2<|aj (aD (us:=cQ (bD x.num) (bD (x.den:Int))) om br rfl rfl rfl) ?_
   refine ag<|am ?_
   rw[MP (by simpa using hb1) (by simpa using hc2),if_pos rfl,if_pos rfl]
   exact ao (bb az rfl (aC ae))
 ·refine ag<|bo rfl<|aa<|ab<|aj (aD (us:=(([.b false]++[.s 0 []])++([.b false]++[.s 0 []]))) om br rfl rfl rfl) ?_
  refine ag<|am ?_
  rw[Iz (by simpa using hb1),if_neg (by decide),if_neg (by decide),rO]
  exact ao (bb az rfl (aC ae))
theorem Ex {x y:Rat}(hx:Rz 60000 x) (hy:Rz 60000 y):Ok Tryz.prog 58 [dR x,dR y] [.c (.b (decide (x=y)))]:=by
 refine Ok.fn Tryz.func58 17 [.tmp 4] rfl<|aa<|ab<|ag<|aa<|ab<|al 1<|aj (aA (cI x.num) bF rfl)<|al 1<|aj (aA (cI y.num) bF rfl)<|aj (ak rfl (sx (ep (Rz.n hx)) (ep (Rz.n hy)))) ?_
 refine cm (bO rfl) (fun c1 hb1=>?_)
 cases c1
 ·refine ag<|am ?_
  rw[Pu hb1]
  exact ao (aC ae)
 ·refine al 1<|aj (aA (cI (x.den:Int)) bF rfl)<|al 1<|aj (aA (cI (y.den:Int)) bF rfl)<|aj (ak rfl (sx (ep (Rz.d hx)) (ep (Rz.d hy))))<|ag<|am ?_
  rw[NJ hb1]
  exact ao (aC ae)
theorem I9 {x y:Rat}(hx:Rz 300 x) (hy:Rz 300 y):Ok Tryz.prog 58 [dR x,dR y] [.c (.b (decide (x=y)))]:=Ex (hx.mono (by decide)) (hy.mono (by decide))
def vQ (x y:Int):Bool:=decide (0<y)&&(((Int.gcd x y:Nat):Int)==1)
theorem Ue {x y:Int}(h:vQ x y=true):cQ x y=cR (Rat.divInt x y):=by
 unfold vQ at h
 simp only[Bool.and_eq_true,decide_eq_true_eq,beq_iff_eq] at h
 have:=r7 (n:=x) h.1 h.2
 unfold dR dQ at this
 injection this with this
 exact this.symm
theorem GF {x y:Int}(h:vQ x y=true):(Rat.divInt x y).num=x∧((Rat.divInt x y).den:Int)=y:=by
 unfold vQ at h
 simp only[Bool.and_eq_true,decide_eq_true_eq,beq_iff_eq] at h
 obtain⟨h1,h2⟩:=h
 have h3:Int.gcd x y=1:=by omega
 rw[Rat.num_divInt,Rat.den_divInt,if_neg (by omega),Int.sign_eq_one_of_pos h1,Int.one_mul,Int.gcd_comm y x,h3]
 simp;omega
def zc (b c:Rat):Rat:=if b=0 then 0 else c
def Js (b1 b2 c:Rat):Rat:=if b1=0∧b2=0 then 0 else c
theorem yU {b c:Rat}(h:b=0):zc b c=0:=by unfold zc;rw[if_pos h]
theorem kR {b c:Rat}(h:b≠0):zc b c=c:=by unfold zc;rw[if_neg h]
theorem My {b1 b2 c:Rat}(h:b1=0) (h2:b2=0):Js b1 b2 c=0:=by unfold Js;rw[if_pos ⟨h,h2⟩]
theorem PB {b1 b2 c:Rat}(h:b1≠0):Js b1 b2 c=c:=by unfold Js;rw[if_neg (fun e=>h e.1)]
theorem Pm {b1 b2 c:Rat}(h:b2≠0):Js b1 b2 c=c:=by unfold Js;rw[if_neg (fun e=>h e.2)]
theorem qd {x:Rat}(h:(a7 x 0==0)=true):x=0:=Cg h
theorem ov {x:Rat}(h:(a7 x 0==0)=false):x≠0:=fun e=>by rw[li.2 e] at h;cases h
theorem MN {x y:Rat}(h:(a7 x y !=0)=true):x≠y:=fun e=>by rw[li.2 e] at h;cases h
theorem Cy:(0:Rat)=((0:Int):Rat):=rfl
def Om (b1 c1 b2 c2:Rat):Prop:=b1≠0∧b2≠0∧c1≠c2
def cc (b1 c1 c2:Rat):Rat:=if b1=0 then c2 else c1
theorem I1 {b1 c1 c2:Rat}(h:b1=0):cc b1 c1 c2=c2:=by unfold cc;rw[if_pos h]
theorem uh {b1 c1 c2:Rat}(h:b1≠0):cc b1 c1 c2=c1:=by unfold cc;rw[if_neg h]
def xy (b1 b2 c:Rat):Bool:=if b1=0∧b2=0 then decide (c=0) else decide (0<c)&& !iD c
def zP:List CellD:=[.b false,.s 0 [],.b false,.s 0 [],.b false,.s 0 [],.b false,.s 0 [],.b false,.s 0 [],.b false,.s 0 [],.b false,.s 0 [],.b false,.s 0 [],.b false,.s 0 [],.b false,.s 0 []]
theorem vv:Ok Tryz.prog 197 [] [dR 0]:=by
 refine Ok.fn Tryz.func197 2 [.cell 0 31] rfl<|aa<|ab<|aw (ah br rfl) rfl<|aq<|aa<|ab<|aj (ak rfl (po (by omega) (by omega)))<|ag<|am ?_
 rw[Cy]
 exact ao (bb az rfl ae)
theorem t6 {a b c:Rat}:Ok Tryz.prog 108 [dR a,dR b,dR c] [.a ((cR a++cR b++cR (zc b c)))]:=by
 refine Ok.fn Tryz.func108 15 [.cell 6 67] rfl<|aa<|ab<|al 3<|aw (ah fv rfl) rfl<|aq<|aa<|aa<|ab<|al 1<|aj (ak rfl (iW))<|ag ?_
 refine au rfl (fun hc1=>?_) (fun hc1=>?_)
 ·--region 2
  refine ab<|aj (ak rfl (vv))<|ag<|aa<|ab<|al 3<|aj (aD (us:=(cR a++cR b++cR 0)) uv fv rfl rfl rfl) ?_
  refine ag<|am ?_
  rw[yU (qd hc1)]
  exact ao (bb g9 rfl ae)
 ·refine ap<|aa<|ab<|al 3<|aj (aD (us:=(cR a++cR b++cR c)) uv fv rfl rfl rfl) ?_
  refine ag<|am ?_
  rw[kR (ov hc1)]
  exact ao (bb g9 rfl ae)
theorem oJ {a1 b1 a2 b2 c:Rat}:Ok Tryz.prog 41 [.a ((cR a1++cR b1++cR a2++cR b2++cR c))] [.a ((cR a1++cR b1++cR (zc b1 c)))]:=by
 refine Ok.fn Tryz.func41 10 [.cell 2 67] rfl<|aa<|ab<|al 1<|aw (ah fv rfl) rfl<|aq<|aa<|ab<|al 1<|aj (aA (cR a1) az rfl)<|al 1<|aj (aA (cR b1) az rfl)<|al 1<|aj (aA (cR c) az rfl) ?_
 refine aj (ak rfl (t6))<|ag<|am ?_
 exact ao (bb g9 rfl ae)
theorem Bq {a1 b1 a2 b2 c:Rat}:Ok Tryz.prog 91 [.a ((cR a1++cR b1++cR a2++cR b2++cR c))] [.a ((cR a2++cR b2++cR (zc b2 c)))]:=by
 refine Ok.fn Tryz.func91 10 [.cell 2 67] rfl<|aa<|ab<|al 1<|aw (ah fv rfl) rfl<|aq<|aa<|ab<|al 1<|aj (aA (cR a2) az rfl)<|al 1<|aj (aA (cR b2) az rfl)<|al 1<|aj (aA (cR c) az rfl) ?_
 refine aj (ak rfl (t6))<|ag<|am ?_
 exact ao (bb g9 rfl ae)
theorem mq {a1 b1 a2 b2 c:Rat}:Ok Tryz.prog 264 [.a ((cR a1++cR b1++cR a2++cR b2++cR c))] [.a ((cR a1++cR b1++cR a2++cR b2++cR (Js b1 b2 c)))]:=by
 refine Ok.fn Tryz.func264 16 [.cell 2 37] rfl<|aa<|ab<|al 1<|aw (ah hJ rfl) rfl<|aq<|aa<|aa<|ab<|al 1<|aj (aA (cR b1) az rfl)<|aj (ak rfl (iW))<|al 1 ?_
 refine cm (bO rfl) (fun c1 hb1=>?_)
 cases c1
 ·refine ag<|ba rfl<|ap<|aa<|ab<|ag<|am ?_
  rw[PB (ov hb1)]
  exact ao (bb ca rfl ae)
 ·refine al 1<|aj (aA (cR b2) az rfl)<|aj (ak rfl (iW))<|ag ?_
  refine au rfl (fun hc2=>?_) (fun hc2=>?_)
  ·--region 2
   refine ab<|aj (ak rfl (vv))<|al 1<|dm (bm (us:=(cR a1++cR b1++cR a2++cR b2++cR 0)) az rfl rfl rfl rfl (Nat.le_of_ble_eq_true rfl) rfl rfl) ?_
   refine aq<|aa<|ab<|ag<|am ?_
   rw[My (qd hb1) (qd hc2)]
   exact ao (bb ca rfl ae)
  ·refine ap<|aa<|ab<|ag<|am ?_
   rw[Pm (ov hc2)]
   exact ao (bb ca rfl ae)
theorem qZ:Ok Tryz.prog 96 [] [dR 0]:=by
 refine Ok.fn Tryz.func96 2 [.cell 0 31] rfl<|aa<|ab<|aw (ah br rfl) rfl<|aq<|aa<|ab<|aj (ak rfl (qi (by omega) (by omega)))<|ag<|am ?_
 rw[Cy]
 exact ao (bb az rfl ae)
theorem vd:Ok Tryz.prog 181 [] [dR 0]:=by
 refine Ok.fn Tryz.func181 2 [.cell 0 31] rfl<|aa<|ab<|aw (ah br rfl) rfl<|aq<|aa<|ab<|aj (ak rfl (qi (by omega) (by omega)))<|ag<|am ?_
 rw[Cy]
 exact ao (bb az rfl ae)
theorem jn {a:Rat}:Ok Tryz.prog 97 [dR a] [.a ((cR a++cR 0++cR 0))]:=by
 refine Ok.fn Tryz.func97 7 [.cell 2 67] rfl<|aa<|ab<|al 1<|aw (ah fv rfl) rfl<|aq<|aa<|aM 4 rfl rfl<|an 1<|ai (ak rfl (vd))<|ai (ak rfl (vd))<|ai (aD (us:=(cR a++cR 0++cR 0)) uv fv rfl rfl rfl) ?_
 refine aV<|ar<|ag<|am ?_
 exact ao (bb g9 rfl ae)
theorem tH {a b c:Rat}:Ok Tryz.prog 109 [dR a,dR b,dR c] [.a ((cR a++cR b++cR (zc b c)))]:=by
 refine Ok.fn Tryz.func109 16 [.cell 6 67] rfl<|aa<|ab<|al 3<|aw (ah fv rfl) rfl<|aq<|aa<|aa<|ab<|al 1<|aj (ak rfl (nl))<|ag ?_
 refine au rfl (fun hc1=>?_) (fun hc1=>?_)
 ·refine aa<|ab<|al 1<|aj (ak rfl (jn))<|ag<|am ?_
  have e:=qd hc1
  subst e
  rw[yU rfl]
  exact ao (bb g9 rfl ae)
 ·refine ap<|aa<|ab<|al 3<|aj (aD (us:=(cR a++cR b++cR c)) uv fv rfl rfl rfl) ?_
  refine ag<|am ?_
  rw[kR (ov hc1)]
  exact ao (bb g9 rfl ae)
theorem nI {a1 b1 a2 b2 c:Rat}:Ok Tryz.prog 43 [.a ((cR a1++cR b1++cR a2++cR b2++cR c))] [.a ((cR a1++cR b1++cR (zc b1 c)))]:=by
 refine Ok.fn Tryz.func43 10 [.cell 2 67] rfl<|aa<|ab<|al 1<|aw (ah fv rfl) rfl<|aq<|aa<|ab<|al 1<|aj (aA (cR a1) az rfl)<|al 1<|aj (aA (cR b1) az rfl)<|al 1<|aj (aA (cR c) az rfl) ?_
 refine aj (ak rfl (tH))<|ag<|am ?_
 exact ao (bb g9 rfl ae)
theorem wc {a1 b1 a2 b2 c:Rat}:Ok Tryz.prog 105 [.a ((cR a1++cR b1++cR a2++cR b2++cR c))] [.a ((cR a2++cR b2++cR (zc b2 c)))]:=by
 refine Ok.fn Tryz.func105 10 [.cell 2 67] rfl<|aa<|ab<|al 1<|aw (ah fv rfl) rfl<|aq<|aa<|ab<|al 1<|aj (aA (cR a2) az rfl)<|al 1<|aj (aA (cR b2) az rfl)<|al 1<|aj (aA (cR c) az rfl) ?_
 refine aj (ak rfl (tH))<|ag<|am ?_
 exact ao (bb g9 rfl ae)
theorem mj {v w:Rat}:Ok Tryz.prog 30 [.a ((cR v++cR w))] [.a ((cR v++cR 0++cR w++cR 0++cR 0))]:=by
 refine Ok.fn Tryz.func30 11 [.cell 2 37] rfl<|aa<|ab<|al 1<|aw (ah hJ rfl) rfl<|aq<|aa<|aM 8 rfl rfl<|an 1<|ai (aA (cR v) az rfl)<|ai (ak rfl (qZ))<|an 1<|ai (aA (cR w) az rfl)<|ai (ak rfl (qZ)) ?_
 refine ai (ak rfl (qZ))<|ai (aD (us:=(cR v++cR 0++cR w++cR 0++cR 0)) EE hJ rfl rfl rfl) ?_
 refine aV<|ar<|ag<|am ?_
 exact ao (bb ca rfl ae)
def ny (x:Int):Bool:=decide (-9223372036854775808≤x)&&decide (x≤9223372036854775807)
theorem PD {x:Int}(h:x< -9223372036854775808):ny x=false:=by unfold ny;rw[decide_eq_false (by omega)];rfl
theorem OB {x:Int}(h:9223372036854775807<x):ny x=false:=by unfold ny;rw[decide_eq_false (p:=x≤9223372036854775807) (by omega),Bool.and_false]
theorem AE {x:Int}(h: ¬x< -9223372036854775808) (h2: ¬9223372036854775807<x):ny x=true:=by unfold ny;rw[decide_eq_true (by omega),decide_eq_true (by omega)];rfl
theorem KW {x:Int}:ny x=true↔ -9223372036854775808≤x∧x≤9223372036854775807:=by unfold ny;simp
theorem OW {r:Int}(h0:1≤r) (h1:r≤9223372036854775808):IntKind.u64.wrap (0-r)=18446744073709551616-r:=by unfold IntKind.wrap;simp[IntKind.bits,IntKind.signed];omega
theorem PF {r:Int}(h0:1≤r) (h1:r≤9223372036854775808):IntKind.i64.wrap (18446744073709551616-r)= -r:=by unfold IntKind.wrap;simp[IntKind.bits,IntKind.signed];omega
theorem oC {p:Prop}[Decidable p] (h:decide p=true):p:=by simpa using h
theorem jm {p:Prop}[Decidable p] (h:decide p=false): ¬p:=by simpa using h
theorem dS {b:Bool}(h:(!b)=false):b=true:=by simpa using h
theorem fX {b:Bool}(h:(!b)=true):b=false:=by simpa using h
def oo (lo hi:Int):Bool:=decide (-2305843009213693952≤lo)&&decide (hi≤2305843009213693952)
theorem Sb {lo hi:Int}(h:lo< -2305843009213693952):oo lo hi=false:=by unfold oo;rw[decide_eq_false (by omega)];rfl
theorem QY {lo hi:Int}(h:hi>2305843009213693952):oo lo hi=false:=by unfold oo;rw[decide_eq_false (p:=hi≤2305843009213693952) (by omega),Bool.and_false]
theorem Nc {lo hi:Int}(h: ¬lo< -2305843009213693952) (h2: ¬hi>2305843009213693952):oo lo hi=true:=by unfold oo;rw[decide_eq_true (by omega),decide_eq_true (by omega)];rfl
def fG (a:Rat):Int:=(a*((65536:Int):Rat)).num.fdiv ((a*((65536:Int):Rat)).den:Int)
def fu (a:Rat):Int:= -((-(a*((65536:Int):Rat))).num.fdiv ((-(a*((65536:Int):Rat))).den:Int))
def fw (a:Rat):Bool:=ny (fG a)&&(ny (fu a)&&oo (fG a) (fu a))
theorem n6 {x:Int}(hx:Sz 1000000 x):Ok Tryz.prog 314 [dI x] [.c (.i .i64 (if ny x then x else 0)),.c (.b (ny x))]:=by
 refine Ok.fn Tryz.func314 39 [.tmp 2,.tmp 3] rfl<|aa<|ab<|ag<|aa<|aa<|aM 10 rfl rfl<|an 1<|ai (ak rfl (ig (by omega) (by omega)))<|ai (ak rfl (iT))<|an 1 ?_
 refine gJ (bO rfl) (fun c1 hb1=>?_)
 cases c1
 ·refine an 1<|ai (ak rfl (ig (by omega) (by omega)))<|ai (ak rfl (iT))<|bJ<|ar<|aq ?_
  refine au rfl (fun hc2=>?_) (fun hc2=>?_)
  ·refine aa<|ab<|ag<|am ?_
   rw[OB (Tu hc2),if_neg (by decide)]
   exact ao (aC (aC ae))
  ·have hlo:=NE hb1
   have hhi:=TA hc2
   have hln:=fe hx
   refine ap<|aa<|ab<|ag<|aa<|aa<|ab<|al 3 ?_
   refine aj (aG (r:=(((cH x.natAbs).length:Int))-1) rfl rfl (ck (by(first|omega|(simp;omega))) (by(first|omega|(simp;omega)))) rfl) ?_
   refine ag<|aX<|cZ (ι:={t:Nat×Int // ShInv (cH x.natAbs) t.1 t.2}) (fun i=>⟨39,[(1,.p 1 0),(4,.v (.c (.i .u64 i.1.2))),(5,.v (.c (.i .i64 ((i.1.1:Int)-1))))],[(1,29,cI x)]⟩) (fun i=>i.1.1) ⟨((cH x.natAbs).length,0),⟨Nat.le_refl _,Int.le_refl 0,by rw[List.take_length];simp⟩⟩ (aR ⟨rfl,rfl,rfl,trivial⟩ ⟨rfl,trivial⟩ rfl) ?_
   rintro⟨⟨j,r⟩,hI⟩
   replace hI:ShInv (cH x.natAbs) j r:=hI
   have g5:=hI.le
   have g3:=hI.r0
   have g4:=hI.bound (bt _)
   rw[bH] at g4
   show Dw _ _ ⟨39,[(1,.p 1 0),(4,.v (.c (.i .u64 r))),(5,.v (.c (.i .i64 ((j:Int)-1))))],[(1,29,cI x)]⟩ _
   refine aa<|aa<|ab<|ag ?_
   refine au rfl (fun hc3=>?_) (fun hc3=>?_)
   ·obtain⟨q,rfl⟩: ∃q,j=q+1:=⟨j-1,by have:=oC hc3;omega⟩
    have hS:=hI.step (bt _)
    have hB:=hS.bound (bt _)
    have g1:=cz (bt x.natAbs) q
    rw[bH] at hB
    refine Dw.weak (σ':=⟨39,[(1,.p 1 0),(4,.v (.c (.i .u64 r))),(5,.v (.c (.i .i64 (q:Int))))],[(1,29,cI x)]⟩) (aR ⟨rfl,rfl,by rw[show(q:Int)=((q+1:Nat):Int)-1 from by omega];rfl,trivial⟩ ⟨rfl,trivial⟩ rfl) ?_
    refine ap<|aa<|aX<|ab<|al 1 ?_
    refine aj (aG (r:=r*1000000000) rfl rfl (ff (by(first|omega|(simp;omega))) (by(first|omega|(simp;omega)))) rfl) ?_
    refine al 3 ?_
    refine aj (a8 fN rfl rfl (by(first|omega|(simp;omega))) (fY _) rfl rfl) ?_
    refine aj (cn d8 rfl (gA (i:=q) (by(first|omega|(simp;omega)))) rfl) ?_
    refine aj (bN (r:=(cH x.natAbs).getD q 0) fR eo rfl (fq (by(first|omega|(simp;omega))) (by(first|omega|(simp;omega)))) rfl) ?_
    refine aj (aG (r:=(r*1000000000)+((cH x.natAbs).getD q 0)) rfl rfl (en (by(first|omega|(simp;omega))) (by(first|omega|(simp;omega)))) rfl) ?_
    refine ag<|ab<|al 1 ?_
    refine aj (aG (r:=(q:Int)-1) rfl rfl (ck (by(first|omega|(simp;omega))) (by(first|omega|(simp;omega)))) rfl) ?_
    refine ag ?_
    exact⟨⟨(q,r*1000000000+(cH x.natAbs).getD q 0),hS⟩,aR ⟨rfl,rfl,rfl,trivial⟩ ⟨rfl,trivial⟩ rfl,by show q<q+1;omega⟩
   ·have hz:j=0:=by have:=jm hc3;omega
    have hfin:(x.natAbs:Int)=r:=by subst hz;have:=hI.v;rw[bH] at this;simp[val,mh] at this;omega
    refine cq<|aa<|aa<|ab<|ag ?_
    refine au rfl (fun hc4=>?_) (fun hc4=>?_)
    ·have hn:=oC hc4
     refine ab<|al 1<|aj (eI (r:=18446744073709551616-r) rfl (OW (by omega) (by omega)) rfl) ?_
     refine ag<|aa<|ab<|al 1<|aj (bN (r:=x) eo uq rfl (by rw[PF (by omega) (by omega)];omega) rfl) ?_
     refine ag<|am ?_
     rw[AE hlo hhi,if_pos rfl]
     exact ao (aC (aC ae))
    ·have hn:=jm hc4
     refine ap<|aa<|ab<|al 1<|aj (bN (r:=x) eo uq rfl (by rw[←hfin];rw[lU (by omega) (by omega)];omega) rfl) ?_
     refine ag<|am ?_
     rw[AE hlo hhi,if_pos rfl]
     exact ao (aC (aC ae))
 ·refine bJ<|ar<|aq<|bo rfl<|aa<|ab<|ag<|am ?_
  rw[PD (NK hb1),if_neg (by decide)]
  exact ao (aC (aC ae))
theorem lI {x y:Int}:Ok Tryz.prog 316 [.c (.i .i64 x),.c (.i .i64 y)] [.a (([.i .i64 (if oo x y then x else 0)]++[.i .i64 (if oo x y then y else 0)])),.c (.b (oo x y))]:=by
 refine Ok.fn Tryz.func316 16 [.cell 4 221,.tmp 5] rfl<|aa<|ab<|aw (ah dC rfl) rfl<|ag<|aa<|aa<|ab<|al 2 ?_
 refine cm (bO rfl) (fun c1 hb1=>?_)
 cases c1
 ·refine ag ?_
  refine au rfl (fun hc2=>?_) (fun hc2=>?_)
  ·refine aa<|ab<|aj (aD (us:=([.i .i64 0]++[.i .i64 0])) km dC rfl rfl rfl) ?_
   refine ag<|am ?_
   rw[QY (oC hc2),if_neg (by decide),if_neg (by decide)]
   exact ao (bb fV rfl (aC ae))
  ·refine ap<|aa<|ab<|al 2<|aj (aD (us:=([.i .i64 x]++[.i .i64 y])) km dC rfl rfl rfl) ?_
   refine ag<|am ?_
   rw[Nc (jm hb1) (jm hc2),if_pos rfl,if_pos rfl]
   exact ao (bb fV rfl (aC ae))
 ·refine ag<|bo rfl<|aa<|ab<|aj (aD (us:=([.i .i64 0]++[.i .i64 0])) km dC rfl rfl rfl) ?_
  refine ag<|am ?_
  rw[Sb (oC hb1),if_neg (by decide),if_neg (by decide)]
  exact ao (bb fV rfl (aC ae))
def kT (s t c:Int):Int:=if t=0∨s=t then s else if s=0 then t else s*c
def cg (a b m:Rat):Int:=kT (a7 a 0) (a7 b 0*a7 m 0) (a7 (a*a) (b*b*m))
def vj (A B C D M N:Rat):Rat:=A*A+B*B*M-N*(C*C+D*D*M)
def oG (A B C D N:Rat):Rat:=A*B-N*(C*D)
def iH (A B C D M N:Rat):Int:=if M<0∨N<0 then 0 else kT (cg A B M) (cg C D M*a7 N 0) (cg (vj A B C D M N) (oG A B C D N+oG A B C D N) M)
theorem p7 {s t c:Int}(h:(s==0)=true):kT s t c=t:=by
 have h:s=0:=by simpa using h
 subst h
 unfold kT
 by_cases ht:t=0
 ·rw[if_pos (.inl ht),ht]
 ·rw[if_neg (by omega),if_pos rfl]
theorem ph {s t c:Int}(h:(t==0)=true):kT s t c=s:=by
 have h:t=0:=by simpa using h
 unfold kT;rw[if_pos (.inl h)]
theorem pi {s t c:Int}(h:(s==t)=true):kT s t c=s:=by
 have h:s=t:=by simpa using h
 unfold kT;rw[if_pos (.inr h)]
theorem pE {s t c:Int}(h1:(s==0)=false) (h2:(t==0)=false) (h3:(s==t)=false):kT s t c=s*c:=by
 have h1:s≠0:=by simpa using h1
 have h2:t≠0:=by simpa using h2
 have h3:s≠t:=by simpa using h3
 unfold kT;rw[if_neg (by omega),if_neg h1]
theorem dK (x y:Rat): -1≤a7 x y∧a7 x y≤1:=by
 unfold a7
 split
 ·omega
 ·split<;>omega
theorem gj {s t:Int}(h: -1≤s∧s≤1) (h': -1≤t∧t≤1): -1≤s*t∧s*t≤1:=by
 have hs:s= -1∨s=0∨s=1:=by omega
 rcases hs with rfl|rfl|rfl<;>omega
theorem Ck {s t c:Int}(h: -1≤s∧s≤1) (h': -1≤t∧t≤1) (h2: -1≤c∧c≤1): -1≤kT s t c∧kT s t c≤1:=by
 unfold kT
 split
 ·exact h
 ·split
  ·exact h'
  ·exact gj h h2
theorem fO (a b m:Rat): -1≤cg a b m∧cg a b m≤1:=Ck (dK _ _) (gj (dK _ _) (dK _ _)) (dK _ _)
theorem yL {x:Rat}(h:decide (a7 x 0<0)=true):x<0:=zp.1 (by simpa using h)
theorem u4 {x:Rat}(h:decide (a7 x 0<0)=false): ¬x<0:=fun e=>by have:=zp.2 e;simp at h;omega
theorem CF {A B C D M N:Rat}(h:M<0∨N<0):iH A B C D M N=0:=by unfold iH;rw[if_pos h]
theorem oh {A B C D M N:Rat}(h: ¬M<0) (h': ¬N<0):iH A B C D M N=kT (cg A B M) (cg C D M*a7 N 0) (cg (vj A B C D M N) (oG A B C D N+oG A B C D N) M):=by
 unfold iH;rw[if_neg (fun e=>e.elim h h')]
theorem j6 {a b m:Rat}(ha:Rz 20000 a) (hb:Rz 20000 b) (hm:Rz 20000 m):Ok Tryz.prog 172 [dR a,dR b,dR m] [.c (.i .i64 (cg a b m))]:=by
 have ka:Rz 60000 a:=ha.m_
 have kb:Rz 60000 b:=hb.m_
 have hp:=gj (dK b 0) (dK m 0)
 have hp2:=gj (dK a 0) (dK (a*a) (b*b*m))
 refine Ok.fn Tryz.func172 40 [.tmp 6] rfl<|aa<|ab<|ag<|aa<|aM 9 rfl rfl<|an 1<|ai (ak rfl (dw))<|an 1<|ai (ak rfl (dw))<|an 1<|ai (ak rfl (dw))<|ai (aG (r:=(a7 b 0)*(a7 m 0)) rfl rfl (eB (by omega) (by omega)) rfl) ?_
 refine bJ<|ar<|aq<|aa<|aX<|aa<|ab<|al 2 ?_
 refine cm (bO rfl) (fun c1 hb1=>?_)
 cases c1
 ·refine ag ?_
  refine au rfl (fun hc2=>?_) (fun hc2=>?_)
  ·refine aa<|ab<|ag<|am ?_
   unfold cg
   rw[pi hc2]
   exact ao (aC ae)
  ·refine aa<|ab<|ag ?_
   refine au rfl (fun hc3=>?_) (fun hc3=>?_)
   ·refine aa<|ab<|ag<|am ?_
    unfold cg
    rw[p7 hc3]
    exact ao (aC ae)
   ·refine ap<|aa<|aM 12 rfl rfl<|an 3<|ai (ak rfl (ek (aO ha) (aO ha)))<|an 2<|ai (ak rfl (ek (aO hb) (aO hb)))<|an 1<|ai (ak rfl (ek (aO (Rz.mul hb hb)) (aO hm)))<|ai (ak rfl (lv (aO (Rz.mul ha ha)) (aO (Rz.mul (Rz.mul hb hb) hm))))<|ai (aG (r:=(a7 a 0)*(a7 (a*a) ((b*b)*m))) rfl rfl (eB (by omega) (by omega)) rfl) ?_
    refine bJ<|ar<|aq<|am ?_
    unfold cg
    rw[pE hc3 hb1 hc2]
    exact ao (aC ae)
 ·refine ag<|bo rfl<|aa<|ab<|ag<|am ?_
  unfold cg
  rw[ph hb1]
  exact ao (aC ae)
theorem pp {a b m:Rat}(ha:Rz 20000 a) (hb:Rz 20000 b) (hm:Rz 20000 m):Ok Tryz.prog 143 [dR a,dR b,dR m] [.c (.i .i64 (cg a b m))]:=by
 have ka:Rz 60000 a:=ha.m_
 have kb:Rz 60000 b:=hb.m_
 have hp:=gj (dK b 0) (dK m 0)
 have hp2:=gj (dK a 0) (dK (a*a) (b*b*m))
 refine Ok.fn Tryz.func143 42 [.tmp 6] rfl<|aa<|ab<|ag<|aa<|aM 9 rfl rfl<|an 1<|ai (ak rfl (cb))<|an 1<|ai (ak rfl (cb))<|an 1<|ai (ak rfl (cb))<|ai (aG (r:=(a7 b 0)*(a7 m 0)) rfl rfl (eB (by omega) (by omega)) rfl) ?_
 refine bJ<|ar<|aq<|aa<|aa<|ab<|al 2 ?_
 refine cm (bO rfl) (fun c1 hb1=>?_)
 cases c1
 ·refine al 3 ?_
  refine cm (bO rfl) (fun c2 hb2=>?_)
  cases c2
  ·refine ag ?_
   refine au rfl (fun hc3=>?_) (fun hc3=>?_)
   ·refine aa<|aa<|ab<|ag ?_
    refine au rfl (fun hc4=>?_) (fun hc4=>?_)
    ·exact absurd hc4 (by rw[hb1];decide)
    ·refine ap<|aa<|ab<|ag<|am ?_
     unfold cg
     rw[pi hc3]
     exact ao (aC ae)
   ·refine ap<|aa<|aM 12 rfl rfl<|an 3<|ai (ak rfl (cK (aO ha) (aO ha)))<|an 2<|ai (ak rfl (cK (aO hb) (aO hb)))<|an 1<|ai (ak rfl (cK (aO (Rz.mul hb hb)) (aO hm)))<|ai (ak rfl (ft (aO (Rz.mul ha ha)) (aO (Rz.mul (Rz.mul hb hb) hm))))<|ai (aG (r:=(a7 a 0)*(a7 (a*a) ((b*b)*m))) rfl rfl (eB (by omega) (by omega)) rfl) ?_
    refine bJ<|ar<|aq<|am ?_
    unfold cg
    rw[pE hb1 hb2 hc3]
    exact ao (aC ae)
  ·refine ag<|bo rfl<|aa<|aa<|ab<|ag ?_
   refine au rfl (fun hc5=>?_) (fun hc5=>?_)
   ·exact absurd hc5 (by rw[hb1];decide)
   ·refine ap<|aa<|ab<|ag<|am ?_
    unfold cg
    rw[ph hb2]
    exact ao (aC ae)
 ·refine ag<|bo rfl<|aa<|aa<|ab<|ag ?_
  refine au rfl (fun hc6=>?_) (fun hc6=>?_)
  ·refine aa<|ab<|ag<|am ?_
   unfold cg
   rw[p7 hb1]
   exact ao (aC ae)
  ·exact absurd hb1 (by rw[hc6];decide)
theorem EJ {A B C D M N:Rat}(hA:Rz 1600 A) (hB:Rz 1600 B) (hC:Rz 1600 C) (hD:Rz 1600 D) (hM:Rz 1600 M) (hN:Rz 1600 N):Ok Tryz.prog 67 [.a ((cR A++cR B++cR C++cR D++cR M++cR N))] [.c (.i .i64 (iH A B C D M N))]:=by
 have z1:=gj (fO C D M) (dK N 0)
 have z2:=gj (fO A B M) (fO (A*A+B*B*M-N*(C*C+D*D*M)) ((A*B-N*(C*D))+(A*B-N*(C*D))) M)
 refine Ok.fn Tryz.func67 107 [.tmp 2] rfl<|aa<|ab<|ag<|aa<|aa<|ab<|al 1<|aj (aA (cR M) az rfl)<|aj (ak rfl (cb))<|al 1 ?_
 refine cm (bO rfl) (fun c1 hb1=>?_)
 cases c1
 ·have n1:=u4 hb1
  refine al 1<|aj (aA (cR N) az rfl)<|aj (ak rfl (cb))<|ag ?_
  refine au rfl (fun hc2=>?_) (fun hc2=>?_)
  ·refine aa<|ab<|ag<|am ?_
   rw[CF (.inr (yL hc2))]
   exact ao (aC ae)
  ·have n2:=u4 hc2
   refine ap<|aa<|aM 20 rfl rfl<|an 1<|ai (aA (cR A) az rfl)<|an 1<|ai (aA (cR B) az rfl)<|an 1<|ai (aA (cR M) az rfl)<|ai (ak rfl (pp (aO hA) (aO hB) (aO hM)))<|an 1<|ai (aA (cR C) az rfl)<|an 1<|ai (aA (cR D) az rfl) ?_
   refine an 1<|ai (aA (cR M) az rfl)<|ai (ak rfl (pp (aO hC) (aO hD) (aO hM)))<|an 1<|ai (aA (cR N) az rfl)<|ai (ak rfl (cb))<|ai (aG (r:=(cg C D M)*(a7 N 0)) rfl rfl (eB (by omega) (by omega)) rfl) ?_
   refine bJ<|ar<|aq<|aa<|aa<|ab<|al 2 ?_
   refine cm (bO rfl) (fun c3 hb3=>?_)
   cases c3
   ·refine al 3 ?_
    refine cm (bO rfl) (fun c4 hb4=>?_)
    cases c4
    ·refine ag ?_
     refine au rfl (fun hc5=>?_) (fun hc5=>?_)
     ·refine aa<|aa<|ab<|ag ?_
      refine au rfl (fun hc6=>?_) (fun hc6=>?_)
      ·exact absurd hc6 (by rw[hb3];decide)
      ·refine ap<|aa<|ab<|ag<|am ?_
       rw[oh n1 n2,pi hc5]
       exact ao (aC ae)
     ·refine ap<|aa<|aM 18 rfl rfl<|an 1<|ai (aA (cR N) az rfl)<|an 1<|ai (aA (cR C) az rfl)<|an 1<|ai (aA (cR C) az rfl)<|ai (ak rfl (cK (aO hC) (aO hC)))<|an 1<|ai (aA (cR D) az rfl)<|an 1<|ai (aA (cR D) az rfl) ?_
      refine ai (ak rfl (cK (aO hD) (aO hD)))<|an 1<|ai (aA (cR M) az rfl)<|ai (ak rfl (cK (aO (Rz.mul hD hD)) (aO hM)))<|ai (ak rfl (eJ (aO (Rz.mul hC hC)) (aO (Rz.mul (Rz.mul hD hD) hM))))<|ai (ak rfl (cK (aO hN) (aO (Rz.add (Rz.mul hC hC) (Rz.mul (Rz.mul hD hD) hM)))))<|bh (ah br rfl) rfl<|aV<|bi<|ag<|aa<|aM 17 rfl rfl<|an 1<|ai (aA (cR A) az rfl) ?_
      refine an 1<|ai (aA (cR A) az rfl)<|ai (ak rfl (cK (aO hA) (aO hA)))<|an 1<|ai (aA (cR B) az rfl)<|an 1<|ai (aA (cR B) az rfl)<|ai (ak rfl (cK (aO hB) (aO hB)))<|an 1<|ai (aA (cR M) az rfl)<|ai (ak rfl (cK (aO (Rz.mul hB hB)) (aO hM)))<|ai (ak rfl (eJ (aO (Rz.mul hA hA)) (aO (Rz.mul (Rz.mul hB hB) hM))))<|an 1<|ai (ak rfl (fK (aO (Rz.add (Rz.mul hA hA) (Rz.mul (Rz.mul hB hB) hM))) (aO (Rz.mul hN (Rz.add (Rz.mul hC hC) (Rz.mul (Rz.mul hD hD) hM)))))) ?_
      refine bh (ah br rfl) rfl<|aV<|bi<|ag<|aa<|aM 15 rfl rfl<|an 1<|ai (aA (cR A) az rfl)<|an 1<|ai (aA (cR B) az rfl)<|ai (ak rfl (cK (aO hA) (aO hB)))<|an 1<|ai (aA (cR N) az rfl)<|an 1 ?_
      refine ai (aA (cR C) az rfl)<|an 1<|ai (aA (cR D) az rfl)<|ai (ak rfl (cK (aO hC) (aO hD)))<|ai (ak rfl (cK (aO hN) (aO (Rz.mul hC hD))))<|ai (ak rfl (fK (aO (Rz.mul hA hB)) (aO (Rz.mul hN (Rz.mul hC hD)))))<|bh (ah br rfl) rfl<|aV<|bi<|ag<|aa<|aM 10 rfl rfl<|an 4<|ai (ak rfl (eJ (aO (Rz.sub (Rz.mul hA hB) (Rz.mul hN (Rz.mul hC hD)))) (aO (Rz.sub (Rz.mul hA hB) (Rz.mul hN (Rz.mul hC hD)))))) ?_
      refine an 1<|ai (aA (cR M) az rfl)<|ai (ak rfl (pp (aO (Rz.sub (Rz.add (Rz.mul hA hA) (Rz.mul (Rz.mul hB hB) hM)) (Rz.mul hN (Rz.add (Rz.mul hC hC) (Rz.mul (Rz.mul hD hD) hM))))) (aO (Rz.add (Rz.sub (Rz.mul hA hB) (Rz.mul hN (Rz.mul hC hD))) (Rz.sub (Rz.mul hA hB) (Rz.mul hN (Rz.mul hC hD))))) (aO hM)))<|ai (aG (r:=(cg A B M)*(cg (((A*A)+((B*B)*M))-(N*((C*C)+((D*D)*M)))) (((A*B)-(N*(C*D)))+((A*B)-(N*(C*D)))) M)) rfl rfl (eB (by omega) (by omega)) rfl) ?_
      refine bJ<|ar<|aq<|am ?_
      rw[oh n1 n2,pE hb3 hb4 hc5]
      exact ao (aC ae)
    ·refine ag<|bo rfl<|aa<|aa<|ab<|ag ?_
     refine au rfl (fun hc7=>?_) (fun hc7=>?_)
     ·exact absurd hc7 (by rw[hb3];decide)
     ·refine ap<|aa<|ab<|ag<|am ?_
      rw[oh n1 n2,ph hb4]
      exact ao (aC ae)
   ·refine ag<|bo rfl<|aa<|aa<|ab<|ag ?_
    refine au rfl (fun hc8=>?_) (fun hc8=>?_)
    ·refine aa<|ab<|ag<|am ?_
     rw[oh n1 n2,p7 hb3]
     exact ao (aC ae)
    ·exact absurd hb3 (by rw[hc8];decide)
 ·refine ag<|bo rfl<|aa<|ab<|ag<|am ?_
  rw[CF (.inl (yL hb1))]
  exact ao (aC ae)
theorem G9 {a b c d e f:Rat}(ha:Rz 60000 a) (_hb:Rz 60000 b) (hd:Rz 60000 d) (he:Rz 60000 e):Ok Tryz.prog 192 [.a ((cR a++cR b++cR c)),.a ((cR d++cR e++cR f))] [.a ((cR (a-d)++cR b++cR (-e)++cR 0++cR c++cR f))]:=by
 refine Ok.fn Tryz.func192 21 [.cell 4 105] rfl<|aa<|ab<|al 2<|aw (ah Do rfl) rfl<|aq<|aa<|aM 16 rfl rfl<|an 1<|ai (aA (cR a) az rfl)<|an 1<|ai (aA (cR d) az rfl)<|ai (ak rfl (fK (aO ha) (aO hd)))<|an 1 ?_
 refine ai (aA (cR b) az rfl)<|an 1<|ai (aA (cR e) az rfl)<|ai (ak rfl (ii (aO he)))<|ai (ak rfl ((show Ok Tryz.prog 28 [.c (.i .i64 0)] [dR 0] from oe (by omega) (by omega))))<|an 1<|ai (aA (cR c) az rfl)<|an 1<|ai (aA (cR f) az rfl)<|ai (aD (us:=(cR (a-d)++cR b++cR (-e)++cR 0++cR c++cR f)) Ng Do rfl rfl rfl) ?_
 refine aV<|ar<|ag<|am ?_
 exact ao (bb Mi rfl ae)
theorem yl {a b c d e f:Rat}(ha:Rz 600 a) (hb:Rz 600 b) (hc:Rz 600 c) (hd:Rz 600 d) (he:Rz 600 e) (hf:Rz 600 f):Ok Tryz.prog 104 [.a ((cR a++cR b++cR c)),.a ((cR d++cR e++cR f))] [.c (.i .i64 (iH (a-d) b (-e) 0 c f))]:=by
 have ka:Rz 60000 a:=ha.m_
 have ma:Rz 1600 a:=ha.m_
 have kb:Rz 60000 b:=hb.m_
 have mb:Rz 1600 b:=hb.m_
 have kc:Rz 60000 c:=hc.m_
 have mc:Rz 1600 c:=hc.m_
 have kd:Rz 60000 d:=hd.m_
 have md:Rz 1600 d:=hd.m_
 have ke:Rz 60000 e:=he.m_
 have me:Rz 1600 e:=he.m_
 have kf:Rz 60000 f:=hf.m_
 have mf:Rz 1600 f:=hf.m_
 have m1:Rz 1600 (a-d):=(ha.sub hd).m_
 have m2:Rz 1600 (-e):=me.neg
 have m0:Rz 1600 (0:Rat):=Rz.int (n:=0) (Sz.small (by decide) (by decide) (by decide)) (by decide)
 refine Ok.fn Tryz.func104 9 [.tmp 4] rfl<|aa<|ab<|ag<|aa<|ab<|al 2<|aj (ak rfl (G9 (by assumption) (by assumption) (by assumption) (by assumption)))<|aj (ak rfl (EJ (by assumption) (by assumption) (by assumption) (by assumption) (by assumption) (by assumption)))<|ag<|am ?_
 exact ao (aC ae)
theorem nJ {a:Rat}(ha:Rz 60000 a):Ok Tryz.prog 251 [dR a] [dR a]:=by
 refine Ok.fn Tryz.func251 6 [.cell 2 31] rfl<|aa<|ab<|al 1<|aw (ah br rfl) rfl<|aq<|aa<|ab<|al 1<|aj (ak rfl (jS (aO ha)))<|aj (ak rfl (jS (aO (Rz.neg ha))))<|ag<|am ?_
 have hfin:dR a=dR (-(-a)):=by rw[Rat.neg_neg]
 rw[hfin]
 exact ao (bb az rfl ae)
theorem zJ {a b c d e f:Rat}(ha:Rz 60000 a) (hb:Rz 60000 b) (hc:Rz 60000 c) (hd:Rz 60000 d) (he:Rz 60000 e) (hf:Rz 60000 f):Ok Tryz.prog 173 [.a ((cR a++cR b++cR c)),.a ((cR d++cR e++cR f))] [.a ((cR (a-d)++cR b++cR (-e)++cR 0++cR c++cR f))]:=by
 refine Ok.fn Tryz.func173 24 [.cell 4 105] rfl<|aa<|ab<|al 2<|aw (ah Do rfl) rfl<|aq<|aa<|aM 19 rfl rfl<|an 1<|ai (aA (cR a) az rfl)<|an 1<|ai (aA (cR d) az rfl)<|ai (ak rfl (iq (aO ha) (aO hd)))<|an 1 ?_
 refine ai (aA (cR b) az rfl)<|ai (ak rfl (nJ (aO hb)))<|an 1<|ai (aA (cR e) az rfl)<|ai (ak rfl (jS (aO he)))<|ai (ak rfl ((show Ok Tryz.prog 87 [.c (.i .i64 0)] [dR 0] from nL (by omega) (by omega))))<|an 1<|ai (aA (cR c) az rfl)<|ai (ak rfl (nJ (aO hc)))<|an 1<|ai (aA (cR f) az rfl)<|ai (ak rfl (nJ (aO hf)))<|ai (aD (us:=(cR (a-d)++cR b++cR (-e)++cR 0++cR c++cR f)) Ng Do rfl rfl rfl) ?_
 refine aV<|ar<|ag<|am ?_
 exact ao (bb Mi rfl ae)
def rB (b c:Rat):Rat:=if b=0∨c=0 then 0 else b
def rC (b c:Rat):Rat:=if b=0∨c=0 then 0 else c
theorem J6 {b c:Rat}(h:b=0∨c=0):rB b c=0:=by unfold rB;rw[if_pos h]
theorem K7 {b c:Rat}(h:b=0∨c=0):rC b c=0:=by unfold rC;rw[if_pos h]
theorem TB {b c:Rat}(h:b≠0) (h':c≠0):rB b c=b:=by unfold rB;rw[if_neg (fun e=>e.elim h h')]
theorem S6 {b c:Rat}(h:b≠0) (h':c≠0):rC b c=c:=by unfold rC;rw[if_neg (fun e=>e.elim h h')]
def s3 (a b c:Rat):Int:=if a7 a 0=a7 b 0∨a7 b 0=0 then a7 a 0 else if a7 a 0=0 then a7 b 0 else if 0<a*a-b*b*c then a7 a 0 else a7 b 0
theorem SH {a b c:Rat}(h:(a7 a 0==a7 b 0)=true):s3 a b c=a7 a 0:=by unfold s3;rw[if_pos (.inl (by simpa using h))]
theorem TP {a b c:Rat}(h:(a7 b 0==0)=true):s3 a b c=a7 a 0:=by unfold s3;rw[if_pos (.inr (by simpa using h))]
theorem NV {a b c:Rat}(h:(a7 a 0==a7 b 0)=false) (h2:(a7 b 0==0)=false):s3 a b c=if a7 a 0=0 then a7 b 0 else if 0<a*a-b*b*c then a7 a 0 else a7 b 0:=by
 unfold s3;rw[if_neg (fun e=>e.elim (by simpa using h) (by simpa using h2))]
theorem TE {x:Rat}(h:decide (a7 x 0>0)=true):0<x:=xS.1 (by simpa using h)
theorem RD {x:Rat}(h:decide (a7 x 0>0)=false): ¬0<x:=fun e=>by have:=xS.2 e;simp at h;omega
theorem i_eq {s t:Int}(h:(s==t)=true):s=t:=by simpa using h
theorem Rw {s t:Int}(h:(s==t)=false):s≠t:=by simpa using h
theorem Pv {b c e f:Rat}(hf: ¬Om b c e f) (h1:b≠0) (h2:e≠0):(a7 c f==0)=true:=by
 rw[r_eqb']
 exact Classical.byContradiction fun h=>hf ⟨h1,h2,h⟩
where
 r_eqb' {x y:Rat}:((a7 x y==0)=true)=(x=y):=by rw[beq_iff_eq];exact propext li
theorem pD {a:Rat}(ha:Rz 60000 a):Ok Tryz.prog 358 [dR a] [dR (a*a)]:=by
 refine Ok.fn Tryz.func358 6 [.cell 2 31] rfl<|aa<|ab<|al 1<|aw (ah br rfl) rfl<|aq<|aa<|ab<|al 2<|aj (ak rfl (cK (aO ha) (aO ha)))<|ag<|am ?_
 exact ao (bb az rfl ae)
theorem AY {a b c:Rat}(ha:Rz 10000 a) (hb:Rz 10000 b) (hc:Rz 10000 c):Ok Tryz.prog 325 [.a ((cR a++cR b++cR c))] [dR (a*a-b*b*c)]:=by
 have ka:Rz 60000 a:=ha.m_
 have kb:Rz 60000 b:=hb.m_
 have kc:Rz 60000 c:=hc.m_
 refine Ok.fn Tryz.func325 13 [.cell 2 31] rfl<|aa<|ab<|al 1<|aw (ah br rfl) rfl<|aq<|aa<|aM 10 rfl rfl<|an 1<|ai (aA (cR a) az rfl)<|ai (ak rfl (pD (aO ha)))<|an 1<|ai (aA (cR b) az rfl)<|ai (ak rfl (pD (aO hb))) ?_
 refine an 1<|ai (aA (cR c) az rfl)<|ai (ak rfl (cK (aO (Rz.mul hb hb)) (aO hc)))<|ai (ak rfl (fK (aO (Rz.mul ha ha)) (aO (Rz.mul (Rz.mul hb hb) hc))))<|aV<|ar<|ag<|am ?_
 exact ao (bb az rfl ae)
theorem tO {a b c:Rat}(ha:Rz 10000 a) (hb:Rz 10000 b) (hc:Rz 10000 c):Ok Tryz.prog 271 [.a ((cR a++cR b++cR c))] [.c (.i .i64 (s3 a b c))]:=by
 refine Ok.fn Tryz.func271 28 [.tmp 2] rfl<|aa<|ab<|ag<|aa<|aM 8 rfl rfl<|an 1<|ai (aA (cR a) az rfl)<|ai (ak rfl (cb))<|an 1<|ai (aA (cR b) az rfl)<|ai (ak rfl (cb))<|bJ<|ar ?_
 refine aq<|aa<|aa<|ab<|al 3 ?_
 refine cm (bO rfl) (fun c1 hb1=>?_)
 cases c1
 ·refine ag ?_
  refine au rfl (fun hc2=>?_) (fun hc2=>?_)
  ·refine aa<|ab<|ag<|am ?_
   rw[TP hc2]
   exact ao (aC ae)
  ·refine ap<|aa<|aa<|ab<|ag ?_
   refine au rfl (fun hc3=>?_) (fun hc3=>?_)
   ·refine aa<|ab<|ag<|am ?_
    rw[NV hb1 hc2,if_pos (i_eq hc3)]
    exact ao (aC ae)
   ·refine ap<|aa<|aa<|ab<|al 1<|aj (ak rfl (AY (by assumption) (by assumption) (by assumption)))<|aj (ak rfl (cb))<|ag ?_
    refine au rfl (fun hc4=>?_) (fun hc4=>?_)
    ·refine aa<|ab<|ag<|am ?_
     rw[NV hb1 hc2,if_neg (Rw hc3),if_pos (TE hc4)]
     exact ao (aC ae)
    ·refine ap<|aa<|ab<|ag<|am ?_
     rw[NV hb1 hc2,if_neg (Rw hc3),if_neg (RD hc4)]
     exact ao (aC ae)
 ·refine ag<|bo rfl<|aa<|ab<|ag<|am ?_
  rw[SH hb1]
  exact ao (aC ae)
theorem mw {a b c:Rat}:Ok Tryz.prog 329 [dR a,dR b,dR c] [.a ((cR a++cR (rB b c)++cR (rC b c)))]:=by
 refine Ok.fn Tryz.func329 21 [.cell 6 67] rfl<|aa<|ab<|al 3<|aw (ah fv rfl) rfl<|aq<|aa<|aa<|ab<|al 1<|aj (ak rfl (nl))<|al 1 ?_
 refine cm (bO rfl) (fun c1 hb1=>?_)
 cases c1
 ·refine al 1<|aj (ak rfl (nl))<|ag ?_
  refine au rfl (fun hc2=>?_) (fun hc2=>?_)
  ·refine aa<|ab<|al 1<|aj (ak rfl (jn))<|ag<|am ?_
   rw[J6 (.inr (qd hc2)),K7 (.inr (qd hc2))]
   exact ao (bb g9 rfl ae)
  ·refine ap<|aa<|ab<|al 3<|aj (aD (us:=(cR a++cR b++cR c)) uv fv rfl rfl rfl) ?_
   refine ag<|am ?_
   rw[TB (ov hb1) (ov hc2),S6 (ov hb1) (ov hc2)]
   exact ao (bb g9 rfl ae)
 ·refine ag<|bo rfl<|aa<|ab<|al 1<|aj (ak rfl (jn))<|ag<|am ?_
  rw[J6 (.inl (qd hb1)),K7 (.inl (qd hb1))]
  exact ao (bb g9 rfl ae)
theorem pj {a b c d e f:Rat}(hc:Rz 60000 c) (hf:Rz 60000 f) (hb: ¬Om b c e f):Ok Tryz.prog 330 [.a ((cR a++cR b++cR c)),.a ((cR d++cR e++cR f))] [dR (cc b c f),.c (.b true)]:=by
 refine Ok.fn Tryz.func330 26 [.cell 4 31,.tmp 5] rfl<|aa<|ab<|al 2<|aw (ah br rfl) rfl<|ag<|aa<|aa<|ab<|al 1<|aj (aA (cR b) az rfl)<|aj (ak rfl (cb))<|ag ?_
 refine au rfl (fun hc1=>?_) (fun hc1=>?_)
 ·refine aa<|ab<|al 1<|aj (aA (cR f) az rfl)<|ag<|am ?_
  rw[I1 (qd hc1)]
  exact ao (bb az rfl (aC ae))
 ·refine ap<|aa<|dr 16 [4,999999] bd (by kernel_rfl) rfl rfl<|an 1<|ai (aA (cR c) az rfl)<|an 1<|ai (aA (cR e) az rfl)<|ai (ak rfl (cb))<|an 1 ?_
  refine gJ (bO rfl) (fun c2 hb2=>?_)
  cases c2
  ·refine an 1<|ai (aA (cR c) az rfl)<|an 1<|ai (aA (cR f) az rfl)<|ai (ak rfl (ft (aO hc) (aO hf)))<|an 2<|gV (iE az rfl) rfl rfl rfl rfl<|bJ<|bi<|aq<|am ?_
   rw[uh (ov hc1),Pv hb (ov hc1) (ov hb2)]
   exact ao (bb az rfl (aC ae))
  ·refine an 7<|C0 (iE az rfl) rfl rfl (by kernel_rfl) rfl<|bJ<|bi<|aq<|am ?_
   rw[uh (ov hc1)]
   exact ao (bb az rfl (aC ae))
theorem DT {a b c d e f:Rat}(ha:Rz 10000 a) (hb:Rz 10000 b) (hc:Rz 10000 c) (hd:Rz 10000 d) (he:Rz 10000 e) (hf:Rz 10000 f) (hbad: ¬Om b c e f):Ok Tryz.prog 361 [.a ((cR a++cR b++cR c)),.a ((cR d++cR e++cR f))] [.a ((cR (a+d)++cR (rB (b+e) (cc b c f))++cR (rC (b+e) (cc b c f)))),.c (.i .i64 0)]:=by
 have ka:Rz 60000 a:=ha.m_
 have kb:Rz 60000 b:=hb.m_
 have kc:Rz 60000 c:=hc.m_
 have kd:Rz 60000 d:=hd.m_
 have ke:Rz 60000 e:=he.m_
 have kf:Rz 60000 f:=hf.m_
 refine Ok.fn Tryz.func361 29 [.cell 4 67,.tmp 5] rfl<|aa<|ab<|al 2<|aw (ah fv rfl) rfl<|ag<|aa<|ab<|al 2<|aj (ak rfl (pj (by assumption) (by assumption) (by assumption)))<|al 3<|aw (ah br rfl) rfl<|ag<|aa ?_
 refine aa<|ab<|ag<|ba rfl<|ap<|aa<|aM 12 rfl rfl<|an 1<|ai (aA (cR a) az rfl)<|an 1<|ai (aA (cR d) az rfl)<|ai (ak rfl (eJ (aO ha) (aO hd)))<|an 1<|ai (aA (cR b) az rfl) ?_
 refine an 1<|ai (aA (cR e) az rfl)<|ai (ak rfl (eJ (aO hb) (aO he)))<|an 1<|ai (ak rfl (mw))<|aV<|ar<|ag<|am ?_
 exact ao (bb g9 rfl (aC ae))
theorem Eh {a b c d e f:Rat}(ha:Rz 10000 a) (hb:Rz 10000 b) (hc:Rz 10000 c) (hd:Rz 10000 d) (he:Rz 10000 e) (hf:Rz 10000 f) (hbad: ¬Om b c e f):Ok Tryz.prog 276 [.a ((cR a++cR b++cR c)),.a ((cR d++cR e++cR f))] [.a ((cR (a*d+b*e*cc b c f)++cR (rB (a*e+b*d) (cc b c f))++cR (rC (a*e+b*d) (cc b c f)))),.c (.i .i64 0)]:=by
 have ka:Rz 60000 a:=ha.m_
 have kb:Rz 60000 b:=hb.m_
 have kc:Rz 60000 c:=hc.m_
 have kd:Rz 60000 d:=hd.m_
 have ke:Rz 60000 e:=he.m_
 have kf:Rz 60000 f:=hf.m_
 have hcc:Rz 10000 (cc b c f):=by unfold cc;split<;>assumption
 have z1:Rz 60000 (b*e):=(Rz.mul hb he).m_
 have z2:Rz 60000 (cc b c f):=hcc.m_
 have z3:Rz 60000 (b*e*cc b c f):=(Rz.mul (Rz.mul hb he) hcc).m_
 refine Ok.fn Tryz.func276 47 [.cell 4 67,.tmp 5] rfl<|aa<|ab<|al 2<|aw (ah fv rfl) rfl<|ag<|aa<|ab<|al 2<|aj (ak rfl (pj (by assumption) (by assumption) (by assumption)))<|al 3<|aw (ah br rfl) rfl<|ag<|aa ?_
 refine aa<|ab<|ag<|ba rfl<|ap<|aa<|aM 14 rfl rfl<|an 1<|ai (aA (cR a) az rfl)<|an 1<|ai (aA (cR d) az rfl) ?_
 refine ai (ak rfl (cK (by first|assumption|exact Rz.mono ha (by decide)) (by first|assumption|exact Rz.mono hd (by decide)))) ?_
 refine an 1<|ai (aA (cR b) az rfl)<|an 1<|ai (aA (cR e) az rfl) ?_
 refine ai (ak rfl (cK (by first|assumption|exact Rz.mono hb (by decide)) (by first|assumption|exact Rz.mono he (by decide)))) ?_
 refine an 1 ?_
 refine ai (ak rfl (cK (by first|assumption|exact Rz.mono (Rz.mul hb he) (by decide)) (by first|assumption|exact Rz.mono (by assumption) (by decide)))) ?_
 refine ai (ak rfl (eJ (by first|assumption|exact Rz.mono (Rz.mul ha hd) (by decide)) (by first|assumption|exact Rz.mono (Rz.mul (Rz.mul hb he) (by assumption)) (by decide)))) ?_
 refine bh (ah br rfl) rfl<|aV<|bi<|ag<|aa<|aM 12 rfl rfl<|an 1<|ai (aA (cR a) az rfl)<|an 1<|ai (aA (cR e) az rfl) ?_
 refine ai (ak rfl (cK (by first|assumption|exact Rz.mono ha (by decide)) (by first|assumption|exact Rz.mono he (by decide)))) ?_
 refine an 1<|ai (aA (cR b) az rfl)<|an 1<|ai (aA (cR d) az rfl) ?_
 refine ai (ak rfl (cK (by first|assumption|exact Rz.mono hb (by decide)) (by first|assumption|exact Rz.mono hd (by decide)))) ?_
 refine ai (ak rfl (eJ (by first|assumption|exact Rz.mono (Rz.mul ha he) (by decide)) (by first|assumption|exact Rz.mono (Rz.mul hb hd) (by decide)))) ?_
 refine bh (ah br rfl) rfl<|aV<|bi<|ag<|aa<|ab<|al 3<|aj (ak rfl (mw))<|ag<|am ?_
 exact ao (bb g9 rfl (aC ae))
theorem vW {a b c d:Rat}(ha:Rz 60000 a) (hd:Rz 60000 d):Ok Tryz.prog 274 [.a ((cR a++cR b++cR c)),dR d] [.a ((cR (a+d)++cR b++cR c))]:=by
 refine Ok.fn Tryz.func274 14 [.cell 4 67] rfl<|aa<|ab<|al 2<|aw (ah fv rfl) rfl<|aq<|aa<|aM 9 rfl rfl<|an 1<|ai (aA (cR a) az rfl)<|an 1<|ai (ak rfl (eJ (aO ha) (aO hd)))<|an 1<|ai (aA (cR b) az rfl) ?_
 refine an 1<|ai (aA (cR c) az rfl)<|ai (aD (us:=(cR (a+d)++cR b++cR c)) uv fv rfl rfl rfl) ?_
 refine aV<|ar<|ag<|am ?_
 exact ao (bb g9 rfl ae)
end Go.Proofs.YtacopbfkmnpfgaaGreat
