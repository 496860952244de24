/-Package swarfref02. -/
import Derived.Test.YtkmdgigkbhmilaaGreatNbH
namespace Go.Proofs.YtkmdgigkbhmilaaGreat
open Go Go.RowKit
theorem CC:Ok Tryz.prog 114 [] [dI 1]:=by
 refine Ok.fn Tryz.func114 2 [.cell 0 33] rfl<|aa<|ab<|aC (ai dL rfl) rfl<|ar<|aa<|ab<|ah (am rfl (nO (by omega) (by omega)))<|ag<|an ?_
 exact aq (a7 bU rfl ae)
theorem fl {x:Rat}:Ok Tryz.prog 66 [dR x] [.c (.i .i64 (aV x 0))]:=by
 refine Ok.fn Tryz.func66 6 [.tmp 2] rfl<|aa<|ab<|ag<|aa<|ab<|al 1<|ah (aF (cI x.num) bU rfl)<|ah (am rfl (sm))<|ag<|an ?_
 rw[←sn]
 exact aq (aE ae)
theorem db {x:Rat}:Ok Tryz.prog 66 [dR x] [.c (.i .i64 (aV x 0))]:=fl
theorem mv {n:Int}(h0: -9223372036854775808≤n) (h1:n≤9223372036854775807):Ok Tryz.prog 46 [.c (.i .i64 n)] [dR (n:Rat)]:=by
 refine Ok.fn Tryz.func46 7 [.cell 2 35] rfl<|aa<|ab<|aC (ai bJ rfl) rfl<|ar<|aa<|ab<|al 1<|ah (am rfl (nO (by omega) (by omega)))<|ah (am rfl (CC))<|ah (aN (us:=cQ n 1) qC bJ rfl rfl rfl) ?_
 refine ag<|an ?_
 rw[LF]
 exact aq (a7 aD rfl ae)
theorem gM {n:Int}(h0: -9223372036854775808≤n) (h1:n≤9223372036854775807):Ok Tryz.prog 46 [.c (.i .i64 n)] [dR (n:Rat)]:=mv h0 h1
theorem mK {x y:Int}(hx:Sz 199800 x) (hy:Sz 199800 y) (h0:y≠0):Ok Tryz.prog 116 [dI x,dI y] [dR (Rat.divInt x y)]:=by
 have hg:=zF (n:=x) h0
 have hg2:=zF (n:= -x) (d:= -y) (by omega)
 have hgs:=(Sz.gcd (x:=x) hy h0).mono (l:=200000) (by decide)
 have hgs2:=(Sz.gcd (x:= -x) hy.neg (by omega)).mono (l:=200000) (by decide)
 refine Ok.fn Tryz.func116 39 [.cell 4 35] rfl<|aa<|ab<|al 2<|aC (ai bJ rfl) rfl<|ar<|aa<|aa<|ab<|al 1<|ah (am rfl (sm))<|ag ?_
 refine aw rfl (fun hc1=>?_) (fun hc1=>?_)
 ·have hn:=PU hc1
  refine aR 4 rfl rfl<|ap 1<|aj (am rfl (uv (fm hx)))<|ap 1<|aj (am rfl (uv (fm hy)))<|aY<|az<|ag<|aa<|ab<|al 2<|ah (am rfl (zO (fm (Sz.neg hx)) (fm (Sz.neg hy))))<|aC (ai dL rfl) rfl<|ag ?_
  refine aa<|ab<|al 2<|ah (am rfl (j6 (fm (Sz.neg hx)) (JE) (by assumption)))<|al 4<|aC (ai dL rfl) rfl<|aC (ai dL rfl) rfl<|ag<|aa<|ab<|al 2<|ah (am rfl (j6 (fm (Sz.neg hy)) (JE) (by assumption)))<|al 4<|aC (ai dL rfl) rfl ?_
  refine aC (ai dL rfl) rfl<|ag<|aa<|ab<|al 2<|ah (aN (us:=cQ ((-x).fdiv ((Int.gcd (-x) (-y):Int))) ((-y).fdiv ((Int.gcd (-x) (-y):Int)))) qC bJ rfl rfl rfl) ?_
  refine ag<|an ?_
  rw[Dv,ww (by omega)]
  exact aq (a7 aD rfl ae)
 ·have hn:=QQ hc1
  refine ao<|aa<|ab<|al 2<|ah (am rfl (zO (fm hx) (fm hy)))<|aC (ai dL rfl) rfl<|ag<|aa<|ab<|al 2<|ah (am rfl (j6 (fm hx) (JE) (by assumption)))<|al 4<|aC (ai dL rfl) rfl<|aC (ai dL rfl) rfl ?_
  refine ag<|aa<|ab<|al 2<|ah (am rfl (j6 (fm hy) (JE) (by assumption)))<|al 4<|aC (ai dL rfl) rfl<|aC (ai dL rfl) rfl<|ag<|aa<|ab<|al 2<|ah (aN (us:=cQ (x.fdiv (Int.gcd x y:Int)) (y.fdiv (Int.gcd x y:Int))) qC bJ rfl rfl rfl) ?_
  refine ag<|an ?_
  rw[ww (by omega)]
  exact aq (a7 aD rfl ae)
theorem Hq {x y:Int}(hx:Sz 199800 x) (hy:Sz 199800 y) (h0:y≠0):Ok Tryz.prog 128 [dI x,dI y] [dR (Rat.divInt x y),.c (.i .i64 0)]:=by
 refine Ok.fn Tryz.func128 13 [.cell 4 35,.tmp 5] rfl<|aa<|ab<|al 2<|aC (ai bJ rfl) rfl<|ag<|aa<|aa<|ab<|al 1<|ah (am rfl (sm))<|ag ?_
 refine aw rfl (fun hc1=>?_) (fun hc1=>?_)
 ·exact absurd (PX hc1) h0
 ·refine ao<|aa<|ab<|al 2 ?_
  refine ah (am rfl (mK (fm hx) (fm hy) (by first|assumption|exact neg_ne (by assumption)|exact gZ (by assumption) (by assumption)))) ?_
  refine ag<|an ?_
  exact aq (a7 aD rfl (aE ae))
theorem yB {n d:Int}(h0: -9223372036854775808≤n) (h1:n≤9223372036854775807) (h2: -9223372036854775808≤d) (h3:d≤9223372036854775807) (hd:d≠0):Ok Tryz.prog 49 [.c (.i .i64 n),.c (.i .i64 d)] [dR (Rat.divInt n d)]:=by
 have z1:Sz 199800 n:=Sz.small (by decide) h0 h1
 have z2:Sz 199800 d:=Sz.small (by decide) h2 h3
 refine Ok.fn Tryz.func49 12 [.cell 4 35] rfl<|aa<|ab<|aC (ai bJ rfl) rfl<|ar<|aa<|aa<|ab<|ag ?_
 refine aw rfl (fun hc1=>?_) (fun hc1=>?_)
 ·exact absurd (by simpa using hc1) hd
 ·refine ao<|aa<|ab<|al 1<|ah (am rfl (nO (by omega) (by omega)))<|al 1<|ah (am rfl (nO (by omega) (by omega))) ?_
  refine ah (am rfl (mK (JE) (JE) (by first|assumption|exact neg_ne (by assumption)|exact gZ (by assumption) (by assumption)))) ?_
  refine ag<|an ?_
  exact aq (a7 aD rfl ae)
theorem jk {n d:Int}(h0: -9223372036854775808≤n) (h1:n≤9223372036854775807) (h2: -9223372036854775808≤d) (h3:d≤9223372036854775807) (hd:d≠0):Ok Tryz.prog 49 [.c (.i .i64 n),.c (.i .i64 d)] [dR (Rat.divInt n d)]:=yB h0 h1 h2 h3 hd
theorem eK {x:Rat}(hx:Rz 60000 x):Ok Tryz.prog 131 [dR x] [dR (-x)]:=by
 refine Ok.fn Tryz.func131 9 [.cell 2 35] rfl<|aa<|ab<|al 1<|aC (ai bJ rfl) rfl<|ar<|aa<|aR 6 rfl rfl<|ap 1<|aj (aF (cI x.num) bU rfl)<|aj (am rfl (uv (fm (Rz.n hx))))<|ap 1<|aj (aF (cI (x.den:Int)) bU rfl)<|aj (aN (us:=cQ (-x.num) (x.den:Int)) qC bJ rfl rfl rfl) ?_
 refine aY<|az<|ag<|an ?_
 rw[IR (Rat.neg_num x) (congrArg Int.ofNat (Rat.neg_den x))]
 exact aq (a7 aD rfl ae)
theorem gj {x y:Rat}(hx:Rz 60000 x) (hy:Rz 60000 y):Ok Tryz.prog 130 [dR x,dR y] [dR (x+y)]:=by
 have hn:=gZ (jP x) (jP y)
 refine Ok.fn Tryz.func130 26 [.cell 4 35] rfl<|aa<|ab<|al 2<|aC (ai bJ rfl) rfl<|ar<|aa<|ab<|al 1<|ah (aF (cI x.num) bU rfl)<|al 1<|ah (aF (cI (y.den:Int)) bU rfl)<|ah (am rfl (ko (fm (Rz.n hx)) (fm (Rz.d hy))))<|aC (ai dL rfl) rfl ?_
 refine ag<|aa<|ab<|al 1<|ah (aF (cI y.num) bU rfl)<|al 1<|ah (aF (cI (x.den:Int)) bU rfl)<|ah (am rfl (ko (fm (Rz.n hy)) (fm (Rz.d hx))))<|aC (ai dL rfl) rfl<|ag<|aa<|aR 9 rfl rfl<|ap 2<|aj (am rfl (ub (fm (Sz.mul (Rz.n hx) (Rz.d hy))) (fm (Sz.mul (Rz.n hy) (Rz.d hx))))) ?_
 refine ap 1<|aj (aF (cI (x.den:Int)) bU rfl)<|ap 1<|aj (aF (cI (y.den:Int)) bU rfl)<|aj (am rfl (ko (fm (Rz.d hx)) (fm (Rz.d hy)))) ?_
 refine aj (am rfl (mK (fm (Sz.addm (Sz.mul (Rz.n hx) (Rz.d hy)) (Sz.mul (Rz.n hy) (Rz.d hx)))) (fm (Sz.mul (Rz.d hx) (Rz.d hy))) (by first|assumption|exact neg_ne (by assumption)|exact gZ (by assumption) (by assumption)))) ?_
 refine aY<|az<|ag<|an ?_
 rw[←Oz]
 exact aq (a7 aD rfl ae)
theorem eP {x y:Rat}(hx:Rz 60000 x) (hy:Rz 60000 y):Ok Tryz.prog 62 [dR x,dR y] [dR (x-y)]:=by
 refine Ok.fn Tryz.func62 9 [.cell 4 35] rfl<|aa<|ab<|al 2<|aC (ai bJ rfl) rfl<|ar<|aa<|aR 4 rfl rfl<|ap 2<|aj (am rfl (eK (aX hy)))<|aj (am rfl (gj (aX hx) (aX (Rz.neg hy))))<|aY<|az<|ag ?_
 refine an ?_
 rw[Rat.sub_eq_add_neg]
 exact aq (a7 aD rfl ae)
theorem cW {x y:Rat}(hx:Rz 60000 x) (hy:Rz 60000 y):Ok Tryz.prog 63 [dR x,dR y] [dR (x*y)]:=by
 have hn:=gZ (jP x) (jP y)
 refine Ok.fn Tryz.func63 16 [.cell 4 35] rfl<|aa<|ab<|al 2<|aC (ai bJ rfl) rfl<|ar<|aa<|aR 11 rfl rfl<|ap 1<|aj (aF (cI x.num) bU rfl)<|ap 1<|aj (aF (cI y.num) bU rfl)<|aj (am rfl (ko (fm (Rz.n hx)) (fm (Rz.n hy))))<|ap 1 ?_
 refine aj (aF (cI (x.den:Int)) bU rfl)<|ap 1<|aj (aF (cI (y.den:Int)) bU rfl)<|aj (am rfl (ko (fm (Rz.d hx)) (fm (Rz.d hy)))) ?_
 refine aj (am rfl (mK (fm (Sz.mul (Rz.n hx) (Rz.n hy))) (fm (Sz.mul (Rz.d hx) (Rz.d hy))) (by first|assumption|exact neg_ne (by assumption)|exact gZ (by assumption) (by assumption)))) ?_
 refine aY<|az<|ag<|an ?_
 rw[←Rq]
 exact aq (a7 aD rfl ae)
theorem pQ {x y:Rat}(hx:Rz 60000 x) (hy:Rz 60000 y) (h0:y≠0):Ok Tryz.prog 61 [dR x,dR y] [dR (x/y),.c (.i .i64 0)]:=by
 have hn:=gZ (jP x) (LW h0)
 refine Ok.fn Tryz.func61 19 [.cell 4 35,.tmp 5] rfl<|aa<|ab<|al 2<|aC (ai bJ rfl) rfl<|ag<|aa<|aR 13 rfl rfl<|ap 1<|aj (aF (cI x.num) bU rfl)<|ap 1<|aj (aF (cI (y.den:Int)) bU rfl)<|aj (am rfl (ko (fm (Rz.n hx)) (fm (Rz.d hy))))<|ap 1 ?_
 refine aj (aF (cI (x.den:Int)) bU rfl)<|ap 1<|aj (aF (cI y.num) bU rfl)<|aj (am rfl (ko (fm (Rz.d hx)) (fm (Rz.n hy)))) ?_
 refine aj (am rfl (Hq (fm (Sz.mul (Rz.n hx) (Rz.d hy))) (fm (Sz.mul (Rz.d hx) (Rz.n hy))) (by first|assumption|exact neg_ne (by assumption)|exact gZ (by assumption) (by assumption)))) ?_
 refine bk<|az<|ag<|an ?_
 rw[←Rl]
 exact aq (a7 aD rfl (aE ae))
theorem gl {x y:Rat}(hx:Rz 60000 x) (hy:Rz 60000 y):Ok Tryz.prog 67 [dR x,dR y] [.c (.i .i64 (aV x y))]:=by
 refine Ok.fn Tryz.func67 16 [.tmp 4] rfl<|aa<|ab<|ag<|aa<|aR 12 rfl rfl<|ap 1<|aj (aF (cI x.num) bU rfl)<|ap 1<|aj (aF (cI (y.den:Int)) bU rfl)<|aj (am rfl (ko (fm (Rz.n hx)) (fm (Rz.d hy))))<|ap 1<|aj (aF (cI y.num) bU rfl)<|ap 1 ?_
 refine aj (aF (cI (x.den:Int)) bU rfl)<|aj (am rfl (ko (fm (Rz.n hy)) (fm (Rz.d hx))))<|aj (am rfl (F1 (fm (Sz.mul (Rz.n hx) (Rz.d hy))) (fm (Sz.mul (Rz.n hy) (Rz.d hx)))))<|bk<|az<|ar<|an ?_
 rw[Bn (x:=x) (y:=y)]
 exact aq (aE ae)
theorem M5 {x y:Rat}(hx:Rz 300 x) (hy:Rz 300 y):Ok Tryz.prog 67 [dR x,dR y] [.c (.i .i64 (aV x y))]:=gl (hx.mono (by decide)) (hy.mono (by decide))
theorem yj {x:Int}(hx:Sz 60000 x):Ok Tryz.prog 138 [dI x] [dI (bP x),.c (.b (xe x))]:=by
 have hs:=Sz.isq hx
 refine Ok.fn Tryz.func138 21 [.cell 2 33,.tmp 3] rfl<|aa<|ab<|al 1<|aC (ai dL rfl) rfl<|ag<|aa<|ab<|al 1<|ah (am rfl (LC (fm hx)))<|al 3<|aC (ai dL rfl) rfl<|ag<|aa ?_
 refine bZ 12 [2,999999] aU (by kernel_rfl) rfl rfl<|ap 3 ?_
 refine fb (bN rfl) (fun c1 hb1=>?_)
 cases c1
 ·refine ap 6<|gw (fG bU rfl) rfl rfl rfl rfl<|bk<|bl<|ar<|an ?_
  rw[FM (e7 hb1)]
  exact aq (a7 bU rfl (aE ae))
 ·refine ap 2<|aj (am rfl (ko (fm (Sz.isq hx)) (fm (Sz.isq hx))))<|ap 1<|aj (am rfl (pr (fm (Sz.mul (Sz.isq hx) (Sz.isq hx))) (fm hx)))<|ap 1<|B8 (fG bU rfl) rfl rfl (by kernel_rfl) rfl<|bk<|bl<|ar<|an ?_
  rw[show xe x=(bP x*bP x==x) from rfl]
  exact aq (a7 bU rfl (aE ae))
theorem nJ {x:Rat}(hx:Rz 60000 x):Ok Tryz.prog 71 [dR x] [dQ (if go x then bP x.num else 0) (if go x then bP (x.den:Int) else 0),.c (.b (go x))]:=by
 refine Ok.fn Tryz.func71 30 [.cell 2 35,.tmp 3] rfl<|aa<|ab<|al 1<|aC (ai bJ rfl) rfl<|ag<|aa<|ab<|al 1<|ah (aF (cI x.num) bU rfl)<|ah (am rfl (yj (fm (Rz.n hx))))<|al 3<|aC (ai dL rfl) rfl<|ag ?_
 refine aa<|ab<|al 1<|ah (aF (cI (x.den:Int)) bU rfl)<|ah (am rfl (yj (fm (Rz.d hx))))<|al 3<|aC (ai dL rfl) rfl<|ag<|aa<|aa<|ab<|al 2 ?_
 refine cg (bN rfl) (fun c1 hb1=>?_)
 cases c1
 ·refine ag ?_
  refine aw rfl (fun hc2=>?_) (fun hc2=>?_)
  ·refine aa<|ab<|ah (aN (us:=(([.b false]++[.s 0 []])++([.b false]++[.s 0 []]))) qC bJ rfl rfl rfl) ?_
   refine ag<|an ?_
   rw[IQ (by simpa using hc2),if_neg (by decide),if_neg (by decide),rO]
   exact aq (a7 aD rfl (aE ae))
  ·refine ao<|aa<|ab<|al 2<|ah (aN (us:=cQ (bP x.num) (bP (x.den:Int))) qC bJ rfl rfl rfl) ?_
   refine ag<|an ?_
   rw[PE (by simpa using hb1) (by simpa using hc2),if_pos rfl,if_pos rfl]
   exact aq (a7 aD rfl (aE ae))
 ·refine ag<|bg rfl<|aa<|ab<|ah (aN (us:=(([.b false]++[.s 0 []])++([.b false]++[.s 0 []]))) qC bJ rfl rfl rfl) ?_
  refine ag<|an ?_
  rw[K9 (by simpa using hb1),if_neg (by decide),if_neg (by decide),rO]
  exact aq (a7 aD rfl (aE ae))
theorem GM {x y:Rat}(hx:Rz 60000 x) (hy:Rz 60000 y):Ok Tryz.prog 65 [dR x,dR y] [.c (.b (decide (x=y)))]:=by
 refine Ok.fn Tryz.func65 17 [.tmp 4] rfl<|aa<|ab<|ag<|aa<|ab<|al 1<|ah (aF (cI x.num) bU rfl)<|al 1<|ah (aF (cI y.num) bU rfl)<|ah (am rfl (pr (fm (Rz.n hx)) (fm (Rz.n hy)))) ?_
 refine cg (bN rfl) (fun c1 hb1=>?_)
 cases c1
 ·refine ag<|an ?_
  rw[Ro hb1]
  exact aq (aE ae)
 ·refine al 1<|ah (aF (cI (x.den:Int)) bU rfl)<|al 1<|ah (aF (cI (y.den:Int)) bU rfl)<|ah (am rfl (pr (fm (Rz.d hx)) (fm (Rz.d hy))))<|ag<|an ?_
  rw[R2 hb1]
  exact aq (aE ae)
theorem wJ {x y:Rat}(hx:Rz 300 x) (hy:Rz 300 y):Ok Tryz.prog 65 [dR x,dR y] [.c (.b (decide (x=y)))]:=GM (hx.mono (by decide)) (hy.mono (by decide))
def vQ (x y:Int):Bool:=decide (0<y)&&(((Int.gcd x y:Nat):Int)==1)
theorem V4 {x y:Int}(h:vQ x y=true):cQ x y=cR (Rat.divInt x y):=by
 unfold vQ at h
 simp only[Bool.and_eq_true,decide_eq_true_eq,beq_iff_eq] at h
 have:=uJ (n:=x) h.1 h.2
 unfold dR dQ at this
 injection this with this
 exact this.symm
theorem JJ {x y:Int}(h:vQ x y=true):(Rat.divInt x y).num=x∧((Rat.divInt x y).den:Int)=y:=by
 unfold vQ at h
 simp only[Bool.and_eq_true,decide_eq_true_eq,beq_iff_eq] at h
 obtain⟨h1,h2⟩:=h
 have h3:Int.gcd x y=1:=by omega
 rw[Rat.num_divInt,Rat.den_divInt,if_neg (by omega),Int.sign_eq_one_of_pos h1,Int.one_mul,Int.gcd_comm y x,h3]
 simp;omega
def zc (b c:Rat):Rat:=if b=0 then 0 else c
def zcp (b1 b2 c:Rat):Rat:=if b1=0∧b2=0 then 0 else c
theorem o8 {b c:Rat}(h:b=0):zc b c=0:=by unfold zc;rw[if_pos h]
theorem fS {b c:Rat}(h:b≠0):zc b c=c:=by unfold zc;rw[if_neg h]
theorem xB {b1 b2 c:Rat}(h:b1=0) (h2:b2=0):zcp b1 b2 c=0:=by unfold zcp;rw[if_pos ⟨h,h2⟩]
theorem DY {b1 b2 c:Rat}(h:b1≠0):zcp b1 b2 c=c:=by unfold zcp;rw[if_neg (fun e=>h e.1)]
theorem yN {b1 b2 c:Rat}(h:b2≠0):zcp b1 b2 c=c:=by unfold zcp;rw[if_neg (fun e=>h e.2)]
theorem mC {x:Rat}(h:(aV x 0==0)=true):x=0:=Gb h
theorem jT {x:Rat}(h:(aV x 0==0)=false):x≠0:=fun e=>by rw[lP.2 e] at h;cases h
theorem AT {x y:Rat}(h:(aV x y !=0)=true):x≠y:=fun e=>by rw[lP.2 e] at h;cases h
theorem Fq:(0:Rat)=((0:Int):Rat):=rfl
def G3 (b1 c1 b2 c2:Rat):Prop:=b1≠0∧b2≠0∧c1≠c2
def cc (b1 c1 c2:Rat):Rat:=if b1=0 then c2 else c1
theorem tk {b1 c1 c2:Rat}(h:b1=0):cc b1 c1 c2=c2:=by unfold cc;rw[if_pos h]
theorem oS {b1 c1 c2:Rat}(h:b1≠0):cc b1 c1 c2=c1:=by unfold cc;rw[if_neg h]
def sI (b1 b2 c:Rat):Bool:=if b1=0∧b2=0 then decide (c=0) else decide (0<c)&& !go c
def vq (a b c d e f:Rat):Bool:=decide (a=d)&&(decide (b=e)&&decide (c=f))
def zP:List CellD:=[.b false,.s 0 [],.b false,.s 0 [],.b false,.s 0 [],.b false,.s 0 [],.b false,.s 0 [],.b false,.s 0 [],.b false,.s 0 [],.b false,.s 0 [],.b false,.s 0 [],.b false,.s 0 []]
theorem xZ:Ok Tryz.prog 221 [] [dR 0]:=by
 refine Ok.fn Tryz.func221 2 [.cell 0 35] rfl<|aa<|ab<|aC (ai bJ rfl) rfl<|ar<|aa<|ab<|ah (am rfl (wx (by omega) (by omega)))<|ag<|an ?_
 rw[Fq]
 exact aq (a7 aD rfl ae)
theorem vU {a b c:Rat}:Ok Tryz.prog 144 [dR a,dR b,dR c] [.a ((cR a++cR b++cR (zc b c)))]:=by
 refine Ok.fn Tryz.func144 15 [.cell 6 49] rfl<|aa<|ab<|al 3<|aC (ai de rfl) rfl<|ar<|aa<|aa<|ab<|al 1<|ah (am rfl (ml))<|ag ?_
 refine aw rfl (fun hc1=>?_) (fun hc1=>?_)
 ·--region 2
  refine ab<|ah (am rfl (xZ))<|ag<|aa<|ab<|al 3<|ah (aN (us:=(cR a++cR b++cR 0)) lQ de rfl rfl rfl) ?_
  refine ag<|an ?_
  rw[o8 (mC hc1)]
  exact aq (a7 dx rfl ae)
 ·refine ao<|aa<|ab<|al 3<|ah (aN (us:=(cR a++cR b++cR c)) lQ de rfl rfl rfl) ?_
  refine ag<|an ?_
  rw[fS (jT hc1)]
  exact aq (a7 dx rfl ae)
theorem jw {a1 b1 a2 b2 c:Rat}:Ok Tryz.prog 75 [.a ((cR a1++cR b1++cR a2++cR b2++cR c))] [.a ((cR a1++cR b1++cR (zc b1 c)))]:=by
 refine Ok.fn Tryz.func75 10 [.cell 2 49] rfl<|aa<|ab<|al 1<|aC (ai de rfl) rfl<|ar<|aa<|ab<|al 1<|ah (aF (cR a1) aD rfl)<|al 1<|ah (aF (cR b1) aD rfl)<|al 1<|ah (aF (cR c) aD rfl) ?_
 refine ah (am rfl (vU))<|ag<|an ?_
 exact aq (a7 dx rfl ae)
theorem nw {a1 b1 a2 b2 c:Rat}:Ok Tryz.prog 77 [.a ((cR a1++cR b1++cR a2++cR b2++cR c))] [.a ((cR a2++cR b2++cR (zc b2 c)))]:=by
 refine Ok.fn Tryz.func77 10 [.cell 2 49] rfl<|aa<|ab<|al 1<|aC (ai de rfl) rfl<|ar<|aa<|ab<|al 1<|ah (aF (cR a2) aD rfl)<|al 1<|ah (aF (cR b2) aD rfl)<|al 1<|ah (aF (cR c) aD rfl) ?_
 refine ah (am rfl (vU))<|ag<|an ?_
 exact aq (a7 dx rfl ae)
theorem oh {a1 b1 a2 b2 c:Rat}:Ok Tryz.prog 289 [.a ((cR a1++cR b1++cR a2++cR b2++cR c))] [.a ((cR a1++cR b1++cR a2++cR b2++cR (zcp b1 b2 c)))]:=by
 refine Ok.fn Tryz.func289 16 [.cell 2 46] rfl<|aa<|ab<|al 1<|aC (ai fO rfl) rfl<|ar<|aa<|aa<|ab<|al 1<|ah (aF (cR b1) aD rfl)<|ah (am rfl (ml))<|al 1 ?_
 refine cg (bN rfl) (fun c1 hb1=>?_)
 cases c1
 ·refine ag<|aP rfl<|ao<|aa<|ab<|ag<|an ?_
  rw[DY (jT hb1)]
  exact aq (a7 bo rfl ae)
 ·refine al 1<|ah (aF (cR b2) aD rfl)<|ah (am rfl (ml))<|ag ?_
  refine aw rfl (fun hc2=>?_) (fun hc2=>?_)
  ·--region 2
   refine ab<|ah (am rfl (xZ))<|al 1<|bL (bm (us:=(cR a1++cR b1++cR a2++cR b2++cR 0)) aD rfl rfl rfl rfl (Nat.le_of_ble_eq_true rfl) rfl rfl) ?_
   refine ar<|aa<|ab<|ag<|an ?_
   rw[xB (mC hb1) (mC hc2)]
   exact aq (a7 bo rfl ae)
  ·refine ao<|aa<|ab<|ag<|an ?_
   rw[yN (jT hc2)]
   exact aq (a7 bo rfl ae)
theorem qt:Ok Tryz.prog 115 [] [dR 0]:=by
 refine Ok.fn Tryz.func115 2 [.cell 0 35] rfl<|aa<|ab<|aC (ai bJ rfl) rfl<|ar<|aa<|ab<|ah (am rfl (mv (by omega) (by omega)))<|ag<|an ?_
 rw[Fq]
 exact aq (a7 aD rfl ae)
theorem xO:Ok Tryz.prog 69 [] [dR 0]:=by
 refine Ok.fn Tryz.func69 2 [.cell 0 35] rfl<|aa<|ab<|aC (ai bJ rfl) rfl<|ar<|aa<|ab<|ah (am rfl (mv (by omega) (by omega)))<|ag<|an ?_
 rw[Fq]
 exact aq (a7 aD rfl ae)
theorem dP {a:Rat}:Ok Tryz.prog 17 [dR a] [.a ((cR a++cR 0++cR 0))]:=by
 refine Ok.fn Tryz.func17 7 [.cell 2 49] rfl<|aa<|ab<|al 1<|aC (ai de rfl) rfl<|ar<|aa<|aR 4 rfl rfl<|ap 1<|aj (am rfl (xO))<|aj (am rfl (xO))<|aj (aN (us:=(cR a++cR 0++cR 0)) lQ de rfl rfl rfl) ?_
 refine aY<|az<|ag<|an ?_
 exact aq (a7 dx rfl ae)
theorem wz {a b c:Rat}:Ok Tryz.prog 97 [dR a,dR b,dR c] [.a ((cR a++cR b++cR (zc b c)))]:=by
 refine Ok.fn Tryz.func97 16 [.cell 6 49] rfl<|aa<|ab<|al 3<|aC (ai de rfl) rfl<|ar<|aa<|aa<|ab<|al 1<|ah (am rfl (fl))<|ag ?_
 refine aw rfl (fun hc1=>?_) (fun hc1=>?_)
 ·refine aa<|ab<|al 1<|ah (am rfl (dP))<|ag<|an ?_
  have e:=mC hc1
  subst e
  rw[o8 rfl]
  exact aq (a7 dx rfl ae)
 ·refine ao<|aa<|ab<|al 3<|ah (aN (us:=(cR a++cR b++cR c)) lQ de rfl rfl rfl) ?_
  refine ag<|an ?_
  rw[fS (jT hc1)]
  exact aq (a7 dx rfl ae)
theorem i4 {a1 b1 a2 b2 c:Rat}:Ok Tryz.prog 33 [.a ((cR a1++cR b1++cR a2++cR b2++cR c))] [.a ((cR a1++cR b1++cR (zc b1 c)))]:=by
 refine Ok.fn Tryz.func33 10 [.cell 2 49] rfl<|aa<|ab<|al 1<|aC (ai de rfl) rfl<|ar<|aa<|ab<|al 1<|ah (aF (cR a1) aD rfl)<|al 1<|ah (aF (cR b1) aD rfl)<|al 1<|ah (aF (cR c) aD rfl) ?_
 refine ah (am rfl (wz))<|ag<|an ?_
 exact aq (a7 dx rfl ae)
theorem lU {a1 b1 a2 b2 c:Rat}:Ok Tryz.prog 82 [.a ((cR a1++cR b1++cR a2++cR b2++cR c))] [.a ((cR a2++cR b2++cR (zc b2 c)))]:=by
 refine Ok.fn Tryz.func82 10 [.cell 2 49] rfl<|aa<|ab<|al 1<|aC (ai de rfl) rfl<|ar<|aa<|ab<|al 1<|ah (aF (cR a2) aD rfl)<|al 1<|ah (aF (cR b2) aD rfl)<|al 1<|ah (aF (cR c) aD rfl) ?_
 refine ah (am rfl (wz))<|ag<|an ?_
 exact aq (a7 dx rfl ae)
theorem iS {a1 b1 a2 b2 c:Rat}:Ok Tryz.prog 68 [dR a1,dR b1,dR a2,dR b2,dR c] [.a ((cR a1++cR b1++cR a2++cR b2++cR (zcp b1 b2 c)))]:=by
 refine Ok.fn Tryz.func68 26 [.cell 10 46] rfl<|aa<|ab<|al 5<|aC (ai fO rfl) rfl<|ar<|aa<|aa<|ab<|al 1<|ah (am rfl (fl))<|al 1 ?_
 refine cg (bN rfl) (fun c1 hb1=>?_)
 cases c1
 ·refine ag<|aP rfl<|ao<|aa<|ab<|al 5<|ah (aN (us:=(cR a1++cR b1++cR a2++cR b2++cR c)) zp fO rfl rfl rfl) ?_
  refine ag<|an ?_
  rw[DY (jT hb1)]
  exact aq (a7 bo rfl ae)
 ·refine al 1<|ah (am rfl (fl))<|ag ?_
  refine aw rfl (fun hc2=>?_) (fun hc2=>?_)
  ·--region 2
   refine ab<|ah (am rfl (qt))<|ag<|aa<|ab<|al 5<|ah (aN (us:=(cR a1++cR b1++cR a2++cR b2++cR 0)) zp fO rfl rfl rfl) ?_
   refine ag<|an ?_
   rw[xB (mC hb1) (mC hc2)]
   exact aq (a7 bo rfl ae)
  ·refine ao<|aa<|ab<|al 5<|ah (aN (us:=(cR a1++cR b1++cR a2++cR b2++cR c)) zp fO rfl rfl rfl) ?_
   refine ag<|an ?_
   rw[yN (jT hc2)]
   exact aq (a7 bo rfl ae)
theorem ln {v w:Rat}:Ok Tryz.prog 47 [.a ((cR v++cR w))] [.a ((cR v++cR 0++cR w++cR 0++cR 0))]:=by
 refine Ok.fn Tryz.func47 11 [.cell 2 46] rfl<|aa<|ab<|al 1<|aC (ai fO rfl) rfl<|ar<|aa<|aR 8 rfl rfl<|ap 1<|aj (aF (cR v) aD rfl)<|aj (am rfl (qt))<|ap 1<|aj (aF (cR w) aD rfl)<|aj (am rfl (qt)) ?_
 refine aj (am rfl (qt))<|aj (aN (us:=(cR v++cR 0++cR w++cR 0++cR 0)) zp fO rfl rfl rfl) ?_
 refine aY<|az<|ag<|an ?_
 exact aq (a7 bo rfl ae)
def q9 (x:Int):Bool:=decide (-9223372036854775808≤x)&&decide (x≤9223372036854775807)
theorem QT {x:Int}(h:x< -9223372036854775808):q9 x=false:=by unfold q9;rw[decide_eq_false (by omega)];rfl
theorem Rg {x:Int}(h:9223372036854775807<x):q9 x=false:=by unfold q9;rw[decide_eq_false (p:=x≤9223372036854775807) (by omega),Bool.and_false]
theorem La {x:Int}(h: ¬x< -9223372036854775808) (h2: ¬9223372036854775807<x):q9 x=true:=by unfold q9;rw[decide_eq_true (by omega),decide_eq_true (by omega)];rfl
theorem On {x:Int}:q9 x=true↔ -9223372036854775808≤x∧x≤9223372036854775807:=by unfold q9;simp
theorem QS {r:Int}(h0:1≤r) (h1:r≤9223372036854775808):IntKind.u64.wrap (0-r)=18446744073709551616-r:=by unfold IntKind.wrap;simp[IntKind.bits,IntKind.signed];omega
theorem RY {r:Int}(h0:1≤r) (h1:r≤9223372036854775808):IntKind.i64.wrap (18446744073709551616-r)= -r:=by unfold IntKind.wrap;simp[IntKind.bits,IntKind.signed];omega
theorem qN {p:Prop}[Decidable p] (h:decide p=true):p:=by simpa using h
theorem li {p:Prop}[Decidable p] (h:decide p=false): ¬p:=by simpa using h
theorem dF {b:Bool}(h:(!b)=false):b=true:=by simpa using h
theorem fM {b:Bool}(h:(!b)=true):b=false:=by simpa using h
def pu (lo hi:Int):Bool:=decide (-2305843009213693952≤lo)&&decide (hi≤2305843009213693952)
theorem SF {lo hi:Int}(h:lo< -2305843009213693952):pu lo hi=false:=by unfold pu;rw[decide_eq_false (by omega)];rfl
theorem Sp {lo hi:Int}(h:hi>2305843009213693952):pu lo hi=false:=by unfold pu;rw[decide_eq_false (p:=hi≤2305843009213693952) (by omega),Bool.and_false]
theorem Ph {lo hi:Int}(h: ¬lo< -2305843009213693952) (h2: ¬hi>2305843009213693952):pu lo hi=true:=by unfold pu;rw[decide_eq_true (by omega),decide_eq_true (by omega)];rfl
def io (a:Rat):Int:=(a*((65536:Int):Rat)).num.fdiv ((a*((65536:Int):Rat)).den:Int)
def gS (a:Rat):Int:= -((-(a*((65536:Int):Rat))).num.fdiv ((-(a*((65536:Int):Rat))).den:Int))
def gh (a:Rat):Bool:=q9 (io a)&&(q9 (gS a)&&pu (io a) (gS a))
theorem tv {x:Int}(hx:Sz 1000000 x):Ok Tryz.prog 280 [dI x] [.c (.i .i64 (if q9 x then x else 0)),.c (.b (q9 x))]:=by
 refine Ok.fn Tryz.func280 39 [.tmp 2,.tmp 3] rfl<|aa<|ab<|ag<|aa<|aa<|aR 10 rfl rfl<|ap 1<|aj (am rfl (kH (by omega) (by omega)))<|aj (am rfl (kq))<|ap 1 ?_
 refine fb (bN rfl) (fun c1 hb1=>?_)
 cases c1
 ·refine ap 1<|aj (am rfl (kH (by omega) (by omega)))<|aj (am rfl (kq))<|bk<|az<|ar ?_
  refine aw rfl (fun hc2=>?_) (fun hc2=>?_)
  ·refine aa<|ab<|ag<|an ?_
   rw[Rg (UW hc2),if_neg (by decide)]
   exact aq (aE (aE ae))
  ·have hlo:=QQ hb1
   have hhi:=VA hc2
   have hln:=fR hx
   refine ao<|aa<|ab<|ag<|aa<|aa<|ab<|al 3 ?_
   refine ah (aK (r:=(((du x.natAbs).length:Int))-1) rfl rfl (bV (by(first|omega|(simp;omega))) (by(first|omega|(simp;omega)))) rfl) ?_
   refine ag<|aJ<|bD (ι:={t:Nat×Int // ShInv (du x.natAbs) t.1 t.2}) (fun i=>⟨39,[(1,.p 1 0),(4,.v (.c (.i .u64 i.1.2))),(5,.v (.c (.i .i64 ((i.1.1:Int)-1))))],[(1,33,cI x)]⟩) (fun i=>i.1.1) ⟨((du x.natAbs).length,0),⟨Nat.le_refl _,Int.le_refl 0,by rw[List.take_length];simp⟩⟩ (aM ⟨rfl,rfl,rfl,trivial⟩ ⟨rfl,trivial⟩ rfl) ?_
   rintro⟨⟨j,r⟩,hI⟩
   replace hI:ShInv (du x.natAbs) j r:=hI
   have g5:=hI.le
   have g3:=hI.r0
   have g4:=hI.bound (bW _)
   rw[cz] at g4
   show Dw _ _ ⟨39,[(1,.p 1 0),(4,.v (.c (.i .u64 r))),(5,.v (.c (.i .i64 ((j:Int)-1))))],[(1,33,cI x)]⟩ _
   refine aa<|aa<|ab<|ag ?_
   refine aw rfl (fun hc3=>?_) (fun hc3=>?_)
   ·obtain⟨q,rfl⟩: ∃q,j=q+1:=⟨j-1,by have:=qN hc3;omega⟩
    have hS:=hI.step (bW _)
    have hB:=hS.bound (bW _)
    have g1:=dw (bW x.natAbs) q
    rw[cz] at hB
    refine Dw.weak (σ':=⟨39,[(1,.p 1 0),(4,.v (.c (.i .u64 r))),(5,.v (.c (.i .i64 (q:Int))))],[(1,33,cI x)]⟩) (aM ⟨rfl,rfl,by rw[show(q:Int)=((q+1:Nat):Int)-1 from by omega];rfl,trivial⟩ ⟨rfl,trivial⟩ rfl) ?_
    refine ao<|aa<|aJ<|ab<|al 1 ?_
    refine ah (aK (r:=r*1000000000) rfl rfl (gn (by(first|omega|(simp;omega))) (by(first|omega|(simp;omega)))) rfl) ?_
    refine al 3 ?_
    refine ah (aW gX rfl rfl (by(first|omega|(simp;omega))) (ig _) rfl rfl) ?_
    refine ah (cU eQ rfl (iW (i:=q) (by(first|omega|(simp;omega)))) rfl) ?_
    refine ah (bF (r:=(du x.natAbs).getD q 0) iv fk rfl (gG (by(first|omega|(simp;omega))) (by(first|omega|(simp;omega)))) rfl) ?_
    refine ah (aK (r:=(r*1000000000)+((du x.natAbs).getD q 0)) rfl rfl (fh (by(first|omega|(simp;omega))) (by(first|omega|(simp;omega)))) rfl) ?_
    refine ag<|ab<|al 1 ?_
    refine ah (aK (r:=(q:Int)-1) rfl rfl (bV (by(first|omega|(simp;omega))) (by(first|omega|(simp;omega)))) rfl) ?_
    refine ag ?_
    exact⟨⟨(q,r*1000000000+(du x.natAbs).getD q 0),hS⟩,aM ⟨rfl,rfl,rfl,trivial⟩ ⟨rfl,trivial⟩ rfl,by show q<q+1;omega⟩
   ·have hz:j=0:=by have:=li hc3;omega
    have hfin:(x.natAbs:Int)=r:=by subst hz;have:=hI.v;rw[cz] at this;simp[val,oJ] at this;omega
    refine bj<|aa<|aa<|ab<|ag ?_
    refine aw rfl (fun hc4=>?_) (fun hc4=>?_)
    ·have hn:=qN hc4
     refine ab<|al 1<|ah (dD (r:=18446744073709551616-r) rfl (QS (by omega) (by omega)) rfl) ?_
     refine ag<|aa<|ab<|al 1<|ah (bF (r:=x) fk kZ rfl (by rw[RY (by omega) (by omega)];omega) rfl) ?_
     refine ag<|an ?_
     rw[La hlo hhi,if_pos rfl]
     exact aq (aE (aE ae))
    ·have hn:=li hc4
     refine ao<|aa<|ab<|al 1<|ah (bF (r:=x) fk kZ rfl (by rw[←hfin];rw[iU (by omega) (by omega)];omega) rfl) ?_
     refine ag<|an ?_
     rw[La hlo hhi,if_pos rfl]
     exact aq (aE (aE ae))
 ·refine bk<|az<|ar<|bg rfl<|aa<|ab<|ag<|an ?_
  rw[QT (PU hb1),if_neg (by decide)]
  exact aq (aE (aE ae))
theorem oZ {x y:Int}:Ok Tryz.prog 282 [.c (.i .i64 x),.c (.i .i64 y)] [.a (([.i .i64 (if pu x y then x else 0)]++[.i .i64 (if pu x y then y else 0)])),.c (.b (pu x y))]:=by
 refine Ok.fn Tryz.func282 16 [.cell 4 202,.tmp 5] rfl<|aa<|ab<|aC (ai dB rfl) rfl<|ag<|aa<|aa<|ab<|al 2 ?_
 refine cg (bN rfl) (fun c1 hb1=>?_)
 cases c1
 ·refine ag ?_
  refine aw rfl (fun hc2=>?_) (fun hc2=>?_)
  ·refine aa<|ab<|ah (aN (us:=([.i .i64 0]++[.i .i64 0])) lk dB rfl rfl rfl) ?_
   refine ag<|an ?_
   rw[Sp (qN hc2),if_neg (by decide),if_neg (by decide)]
   exact aq (a7 gi rfl (aE ae))
  ·refine ao<|aa<|ab<|al 2<|ah (aN (us:=([.i .i64 x]++[.i .i64 y])) lk dB rfl rfl rfl) ?_
   refine ag<|an ?_
   rw[Ph (li hb1) (li hc2),if_pos rfl,if_pos rfl]
   exact aq (a7 gi rfl (aE ae))
 ·refine ag<|bg rfl<|aa<|ab<|ah (aN (us:=([.i .i64 0]++[.i .i64 0])) lk dB rfl rfl rfl) ?_
  refine ag<|an ?_
  rw[SF (qN hb1),if_neg (by decide),if_neg (by decide)]
  exact aq (a7 gi rfl (aE ae))
def ll (s t c:Int):Int:=if t=0∨s=t then s else if s=0 then t else s*c
def cm (a b m:Rat):Int:=ll (aV a 0) (aV b 0*aV m 0) (aV (a*a) (b*b*m))
def xM (A B C D M N:Rat):Rat:=A*A+B*B*M-N*(C*C+D*D*M)
def qI (A B C D N:Rat):Rat:=A*B-N*(C*D)
def iX (A B C D M N:Rat):Int:=if M<0∨N<0 then 0 else ll (cm A B M) (cm C D M*aV N 0) (cm (xM A B C D M N) (qI A B C D N+qI A B C D N) M)
theorem rK {s t c:Int}(h:(s==0)=true):ll s t c=t:=by
 have h:s=0:=by simpa using h
 subst h
 unfold ll
 by_cases ht:t=0
 ·rw[if_pos (.inl ht),ht]
 ·rw[if_neg (by omega),if_pos rfl]
theorem sH {s t c:Int}(h:(t==0)=true):ll s t c=s:=by
 have h:t=0:=by simpa using h
 unfold ll;rw[if_pos (.inl h)]
theorem rA {s t c:Int}(h:(s==t)=true):ll s t c=s:=by
 have h:s=t:=by simpa using h
 unfold ll;rw[if_pos (.inr h)]
theorem su {s t c:Int}(h1:(s==0)=false) (h2:(t==0)=false) (h3:(s==t)=false):ll s t c=s*c:=by
 have h1:s≠0:=by simpa using h1
 have h2:t≠0:=by simpa using h2
 have h3:s≠t:=by simpa using h3
 unfold ll;rw[if_neg (by omega),if_neg h1]
theorem dm (x y:Rat): -1≤aV x y∧aV x y≤1:=by
 unfold aV
 split
 ·omega
 ·split<;>omega
theorem ei {s t:Int}(h: -1≤s∧s≤1) (h': -1≤t∧t≤1): -1≤s*t∧s*t≤1:=by
 have hs:s= -1∨s=0∨s=1:=by omega
 rcases hs with rfl|rfl|rfl<;>omega
theorem EN {s t c:Int}(h: -1≤s∧s≤1) (h': -1≤t∧t≤1) (h2: -1≤c∧c≤1): -1≤ll s t c∧ll s t c≤1:=by
 unfold ll
 split
 ·exact h
 ·split
  ·exact h'
  ·exact ei h h2
theorem fq (a b m:Rat): -1≤cm a b m∧cm a b m≤1:=EN (dm _ _) (ei (dm _ _) (dm _ _)) (dm _ _)
theorem Bx {x:Rat}(h:decide (aV x 0<0)=true):x<0:=CI.1 (by simpa using h)
theorem xK {x:Rat}(h:decide (aV x 0<0)=false): ¬x<0:=fun e=>by have:=CI.2 e;simp at h;omega
theorem Fg {A B C D M N:Rat}(h:M<0∨N<0):iX A B C D M N=0:=by unfold iX;rw[if_pos h]
theorem qh {A B C D M N:Rat}(h: ¬M<0) (h': ¬N<0):iX A B C D M N=ll (cm A B M) (cm C D M*aV N 0) (cm (xM A B C D M N) (qI A B C D N+qI A B C D N) M):=by
 unfold iX;rw[if_neg (fun e=>e.elim h h')]
theorem mj {a b m:Rat}(ha:Rz 20000 a) (hb:Rz 20000 b) (hm:Rz 20000 m):Ok Tryz.prog 147 [dR a,dR b,dR m] [.c (.i .i64 (cm a b m))]:=by
 have ka:Rz 60000 a:=ha.m_
 have kb:Rz 60000 b:=hb.m_
 have hp:=ei (dm b 0) (dm m 0)
 have hp2:=ei (dm a 0) (dm (a*a) (b*b*m))
 refine Ok.fn Tryz.func147 40 [.tmp 6] rfl<|aa<|ab<|ag<|aa<|aR 9 rfl rfl<|ap 1<|aj (am rfl (dh))<|ap 1<|aj (am rfl (dh))<|ap 1<|aj (am rfl (dh))<|aj (aK (r:=(aV b 0)*(aV m 0)) rfl rfl (dg (by omega) (by omega)) rfl) ?_
 refine bk<|az<|ar<|aa<|aJ<|aa<|ab<|al 2 ?_
 refine cg (bN rfl) (fun c1 hb1=>?_)
 cases c1
 ·refine ag ?_
  refine aw rfl (fun hc2=>?_) (fun hc2=>?_)
  ·refine aa<|ab<|ag<|an ?_
   unfold cm
   rw[rA hc2]
   exact aq (aE ae)
  ·refine aa<|ab<|ag ?_
   refine aw rfl (fun hc3=>?_) (fun hc3=>?_)
   ·refine aa<|ab<|ag<|an ?_
    unfold cm
    rw[rK hc3]
    exact aq (aE ae)
   ·refine ao<|aa<|aR 12 rfl rfl<|ap 3<|aj (am rfl (dd (aX ha) (aX ha)))<|ap 2<|aj (am rfl (dd (aX hb) (aX hb)))<|ap 1<|aj (am rfl (dd (aX (Rz.mul hb hb)) (aX hm)))<|aj (am rfl (kJ (aX (Rz.mul ha ha)) (aX (Rz.mul (Rz.mul hb hb) hm))))<|aj (aK (r:=(aV a 0)*(aV (a*a) ((b*b)*m))) rfl rfl (dg (by omega) (by omega)) rfl) ?_
    refine bk<|az<|ar<|an ?_
    unfold cm
    rw[su hc3 hb1 hc2]
    exact aq (aE ae)
 ·refine ag<|bg rfl<|aa<|ab<|ag<|an ?_
  unfold cm
  rw[sH hb1]
  exact aq (aE ae)
theorem ss {a b m:Rat}(ha:Rz 20000 a) (hb:Rz 20000 b) (hm:Rz 20000 m):Ok Tryz.prog 219 [dR a,dR b,dR m] [.c (.i .i64 (cm a b m))]:=by
 have ka:Rz 60000 a:=ha.m_
 have kb:Rz 60000 b:=hb.m_
 have hp:=ei (dm b 0) (dm m 0)
 have hp2:=ei (dm a 0) (dm (a*a) (b*b*m))
 refine Ok.fn Tryz.func219 42 [.tmp 6] rfl<|aa<|ab<|ag<|aa<|aR 9 rfl rfl<|ap 1<|aj (am rfl (db))<|ap 1<|aj (am rfl (db))<|ap 1<|aj (am rfl (db))<|aj (aK (r:=(aV b 0)*(aV m 0)) rfl rfl (dg (by omega) (by omega)) rfl) ?_
 refine bk<|az<|ar<|aa<|aa<|ab<|al 2 ?_
 refine cg (bN rfl) (fun c1 hb1=>?_)
 cases c1
 ·refine al 3 ?_
  refine cg (bN rfl) (fun c2 hb2=>?_)
  cases c2
  ·refine ag ?_
   refine aw rfl (fun hc3=>?_) (fun hc3=>?_)
   ·refine aa<|aa<|ab<|ag ?_
    refine aw rfl (fun hc4=>?_) (fun hc4=>?_)
    ·exact absurd hc4 (by rw[hb1];decide)
    ·refine ao<|aa<|ab<|ag<|an ?_
     unfold cm
     rw[rA hc3]
     exact aq (aE ae)
   ·refine ao<|aa<|aR 12 rfl rfl<|ap 3<|aj (am rfl (cW (aX ha) (aX ha)))<|ap 2<|aj (am rfl (cW (aX hb) (aX hb)))<|ap 1<|aj (am rfl (cW (aX (Rz.mul hb hb)) (aX hm)))<|aj (am rfl (gl (aX (Rz.mul ha ha)) (aX (Rz.mul (Rz.mul hb hb) hm))))<|aj (aK (r:=(aV a 0)*(aV (a*a) ((b*b)*m))) rfl rfl (dg (by omega) (by omega)) rfl) ?_
    refine bk<|az<|ar<|an ?_
    unfold cm
    rw[su hb1 hb2 hc3]
    exact aq (aE ae)
  ·refine ag<|bg rfl<|aa<|aa<|ab<|ag ?_
   refine aw rfl (fun hc5=>?_) (fun hc5=>?_)
   ·exact absurd hc5 (by rw[hb1];decide)
   ·refine ao<|aa<|ab<|ag<|an ?_
    unfold cm
    rw[sH hb2]
    exact aq (aE ae)
 ·refine ag<|bg rfl<|aa<|aa<|ab<|ag ?_
  refine aw rfl (fun hc6=>?_) (fun hc6=>?_)
  ·refine aa<|ab<|ag<|an ?_
   unfold cm
   rw[rK hb1]
   exact aq (aE ae)
  ·exact absurd hb1 (by rw[hc6];decide)
theorem yc {A B C D M N:Rat}(hA:Rz 1600 A) (hB:Rz 1600 B) (hC:Rz 1600 C) (hD:Rz 1600 D) (hM:Rz 1600 M) (hN:Rz 1600 N):Ok Tryz.prog 139 [.a ((cR A++cR B++cR C++cR D++cR M++cR N))] [.c (.i .i64 (iX A B C D M N))]:=by
 have z1:=ei (fq C D M) (dm N 0)
 have z2:=ei (fq A B M) (fq (A*A+B*B*M-N*(C*C+D*D*M)) ((A*B-N*(C*D))+(A*B-N*(C*D))) M)
 refine Ok.fn Tryz.func139 107 [.tmp 2] rfl<|aa<|ab<|ag<|aa<|aa<|ab<|al 1<|ah (aF (cR M) aD rfl)<|ah (am rfl (db))<|al 1 ?_
 refine cg (bN rfl) (fun c1 hb1=>?_)
 cases c1
 ·have n1:=xK hb1
  refine al 1<|ah (aF (cR N) aD rfl)<|ah (am rfl (db))<|ag ?_
  refine aw rfl (fun hc2=>?_) (fun hc2=>?_)
  ·refine aa<|ab<|ag<|an ?_
   rw[Fg (.inr (Bx hc2))]
   exact aq (aE ae)
  ·have n2:=xK hc2
   refine ao<|aa<|aR 20 rfl rfl<|ap 1<|aj (aF (cR A) aD rfl)<|ap 1<|aj (aF (cR B) aD rfl)<|ap 1<|aj (aF (cR M) aD rfl)<|aj (am rfl (ss (aX hA) (aX hB) (aX hM)))<|ap 1<|aj (aF (cR C) aD rfl)<|ap 1<|aj (aF (cR D) aD rfl) ?_
   refine ap 1<|aj (aF (cR M) aD rfl)<|aj (am rfl (ss (aX hC) (aX hD) (aX hM)))<|ap 1<|aj (aF (cR N) aD rfl)<|aj (am rfl (db))<|aj (aK (r:=(cm C D M)*(aV N 0)) rfl rfl (dg (by omega) (by omega)) rfl) ?_
   refine bk<|az<|ar<|aa<|aa<|ab<|al 2 ?_
   refine cg (bN rfl) (fun c3 hb3=>?_)
   cases c3
   ·refine al 3 ?_
    refine cg (bN rfl) (fun c4 hb4=>?_)
    cases c4
    ·refine ag ?_
     refine aw rfl (fun hc5=>?_) (fun hc5=>?_)
     ·refine aa<|aa<|ab<|ag ?_
      refine aw rfl (fun hc6=>?_) (fun hc6=>?_)
      ·exact absurd hc6 (by rw[hb3];decide)
      ·refine ao<|aa<|ab<|ag<|an ?_
       rw[qh n1 n2,rA hc5]
       exact aq (aE ae)
     ·refine ao<|aa<|aR 18 rfl rfl<|ap 1<|aj (aF (cR N) aD rfl)<|ap 1<|aj (aF (cR C) aD rfl)<|ap 1<|aj (aF (cR C) aD rfl)<|aj (am rfl (cW (aX hC) (aX hC)))<|ap 1<|aj (aF (cR D) aD rfl)<|ap 1<|aj (aF (cR D) aD rfl) ?_
      refine aj (am rfl (cW (aX hD) (aX hD)))<|ap 1<|aj (aF (cR M) aD rfl)<|aj (am rfl (cW (aX (Rz.mul hD hD)) (aX hM)))<|aj (am rfl (gj (aX (Rz.mul hC hC)) (aX (Rz.mul (Rz.mul hD hD) hM))))<|aj (am rfl (cW (aX hN) (aX (Rz.add (Rz.mul hC hC) (Rz.mul (Rz.mul hD hD) hM)))))<|ba (ai bJ rfl) rfl<|aY<|bl<|ag<|aa<|aR 17 rfl rfl<|ap 1<|aj (aF (cR A) aD rfl) ?_
      refine ap 1<|aj (aF (cR A) aD rfl)<|aj (am rfl (cW (aX hA) (aX hA)))<|ap 1<|aj (aF (cR B) aD rfl)<|ap 1<|aj (aF (cR B) aD rfl)<|aj (am rfl (cW (aX hB) (aX hB)))<|ap 1<|aj (aF (cR M) aD rfl)<|aj (am rfl (cW (aX (Rz.mul hB hB)) (aX hM)))<|aj (am rfl (gj (aX (Rz.mul hA hA)) (aX (Rz.mul (Rz.mul hB hB) hM))))<|ap 1<|aj (am rfl (eP (aX (Rz.add (Rz.mul hA hA) (Rz.mul (Rz.mul hB hB) hM))) (aX (Rz.mul hN (Rz.add (Rz.mul hC hC) (Rz.mul (Rz.mul hD hD) hM)))))) ?_
      refine ba (ai bJ rfl) rfl<|aY<|bl<|ag<|aa<|aR 15 rfl rfl<|ap 1<|aj (aF (cR A) aD rfl)<|ap 1<|aj (aF (cR B) aD rfl)<|aj (am rfl (cW (aX hA) (aX hB)))<|ap 1<|aj (aF (cR N) aD rfl)<|ap 1 ?_
      refine aj (aF (cR C) aD rfl)<|ap 1<|aj (aF (cR D) aD rfl)<|aj (am rfl (cW (aX hC) (aX hD)))<|aj (am rfl (cW (aX hN) (aX (Rz.mul hC hD))))<|aj (am rfl (eP (aX (Rz.mul hA hB)) (aX (Rz.mul hN (Rz.mul hC hD)))))<|ba (ai bJ rfl) rfl<|aY<|bl<|ag<|aa<|aR 10 rfl rfl<|ap 4<|aj (am rfl (gj (aX (Rz.sub (Rz.mul hA hB) (Rz.mul hN (Rz.mul hC hD)))) (aX (Rz.sub (Rz.mul hA hB) (Rz.mul hN (Rz.mul hC hD)))))) ?_
      refine ap 1<|aj (aF (cR M) aD rfl)<|aj (am rfl (ss (aX (Rz.sub (Rz.add (Rz.mul hA hA) (Rz.mul (Rz.mul hB hB) hM)) (Rz.mul hN (Rz.add (Rz.mul hC hC) (Rz.mul (Rz.mul hD hD) hM))))) (aX (Rz.add (Rz.sub (Rz.mul hA hB) (Rz.mul hN (Rz.mul hC hD))) (Rz.sub (Rz.mul hA hB) (Rz.mul hN (Rz.mul hC hD))))) (aX hM)))<|aj (aK (r:=(cm A B M)*(cm (((A*A)+((B*B)*M))-(N*((C*C)+((D*D)*M)))) (((A*B)-(N*(C*D)))+((A*B)-(N*(C*D)))) M)) rfl rfl (dg (by omega) (by omega)) rfl) ?_
      refine bk<|az<|ar<|an ?_
      rw[qh n1 n2,su hb3 hb4 hc5]
      exact aq (aE ae)
    ·refine ag<|bg rfl<|aa<|aa<|ab<|ag ?_
     refine aw rfl (fun hc7=>?_) (fun hc7=>?_)
     ·exact absurd hc7 (by rw[hb3];decide)
     ·refine ao<|aa<|ab<|ag<|an ?_
      rw[qh n1 n2,sH hb4]
      exact aq (aE ae)
   ·refine ag<|bg rfl<|aa<|aa<|ab<|ag ?_
    refine aw rfl (fun hc8=>?_) (fun hc8=>?_)
    ·refine aa<|ab<|ag<|an ?_
     rw[qh n1 n2,rK hb3]
     exact aq (aE ae)
    ·exact absurd hb3 (by rw[hc8];decide)
 ·refine ag<|bg rfl<|aa<|ab<|ag<|an ?_
  rw[Fg (.inl (Bx hb1))]
  exact aq (aE ae)
theorem BD {a b c d e f:Rat}(ha:Rz 60000 a) (_hb:Rz 60000 b) (hd:Rz 60000 d) (he:Rz 60000 e):Ok Tryz.prog 140 [.a ((cR a++cR b++cR c)),.a ((cR d++cR e++cR f))] [.a ((cR (a-d)++cR b++cR (-e)++cR 0++cR c++cR f))]:=by
 refine Ok.fn Tryz.func140 21 [.cell 4 153] rfl<|aa<|ab<|al 2<|aC (ai E4 rfl) rfl<|ar<|aa<|aR 16 rfl rfl<|ap 1<|aj (aF (cR a) aD rfl)<|ap 1<|aj (aF (cR d) aD rfl)<|aj (am rfl (eP (aX ha) (aX hd)))<|ap 1 ?_
 refine aj (aF (cR b) aD rfl)<|ap 1<|aj (aF (cR e) aD rfl)<|aj (am rfl (eK (aX he)))<|aj (am rfl ((show Ok Tryz.prog 46 [.c (.i .i64 0)] [dR 0] from gM (by omega) (by omega))))<|ap 1<|aj (aF (cR c) aD rfl)<|ap 1<|aj (aF (cR f) aD rfl)<|aj (aN (us:=(cR (a-d)++cR b++cR (-e)++cR 0++cR c++cR f)) OJ E4 rfl rfl rfl) ?_
 refine aY<|az<|ag<|an ?_
 exact aq (a7 O8 rfl ae)
theorem A7 {a b c d e f:Rat}(ha:Rz 600 a) (hb:Rz 600 b) (hc:Rz 600 c) (hd:Rz 600 d) (he:Rz 600 e) (hf:Rz 600 f):Ok Tryz.prog 72 [.a ((cR a++cR b++cR c)),.a ((cR d++cR e++cR f))] [.c (.i .i64 (iX (a-d) b (-e) 0 c f))]:=by
 have ka:Rz 60000 a:=ha.m_
 have ma:Rz 1600 a:=ha.m_
 have kb:Rz 60000 b:=hb.m_
 have mb:Rz 1600 b:=hb.m_
 have kc:Rz 60000 c:=hc.m_
 have mc:Rz 1600 c:=hc.m_
 have kd:Rz 60000 d:=hd.m_
 have md:Rz 1600 d:=hd.m_
 have ke:Rz 60000 e:=he.m_
 have me:Rz 1600 e:=he.m_
 have kf:Rz 60000 f:=hf.m_
 have mf:Rz 1600 f:=hf.m_
 have m1:Rz 1600 (a-d):=(ha.sub hd).m_
 have m2:Rz 1600 (-e):=me.neg
 have m0:Rz 1600 (0:Rat):=Rz.int (n:=0) (Sz.small (by decide) (by decide) (by decide)) (by decide)
 refine Ok.fn Tryz.func72 9 [.tmp 4] rfl<|aa<|ab<|ag<|aa<|ab<|al 2<|ah (am rfl (BD (by assumption) (by assumption) (by assumption) (by assumption)))<|ah (am rfl (yc (by assumption) (by assumption) (by assumption) (by assumption) (by assumption) (by assumption)))<|ag<|an ?_
 exact aq (aE ae)
theorem pP {a:Rat}(ha:Rz 60000 a):Ok Tryz.prog 226 [dR a] [dR a]:=by
 refine Ok.fn Tryz.func226 6 [.cell 2 35] rfl<|aa<|ab<|al 1<|aC (ai bJ rfl) rfl<|ar<|aa<|ab<|al 1<|ah (am rfl (gc (aX ha)))<|ah (am rfl (gc (aX (Rz.neg ha))))<|ag<|an ?_
 have hfin:dR a=dR (-(-a)):=by rw[Rat.neg_neg]
 rw[hfin]
 exact aq (a7 aD rfl ae)
theorem AL {a b c d e f:Rat}(ha:Rz 60000 a) (hb:Rz 60000 b) (hc:Rz 60000 c) (hd:Rz 60000 d) (he:Rz 60000 e) (hf:Rz 60000 f):Ok Tryz.prog 149 [.a ((cR a++cR b++cR c)),.a ((cR d++cR e++cR f))] [.a ((cR (a-d)++cR b++cR (-e)++cR 0++cR c++cR f))]:=by
 refine Ok.fn Tryz.func149 24 [.cell 4 153] rfl<|aa<|ab<|al 2<|aC (ai E4 rfl) rfl<|ar<|aa<|aR 19 rfl rfl<|ap 1<|aj (aF (cR a) aD rfl)<|ap 1<|aj (aF (cR d) aD rfl)<|aj (am rfl (fE (aX ha) (aX hd)))<|ap 1 ?_
 refine aj (aF (cR b) aD rfl)<|aj (am rfl (pP (aX hb)))<|ap 1<|aj (aF (cR e) aD rfl)<|aj (am rfl (gc (aX he)))<|aj (am rfl ((show Ok Tryz.prog 58 [.c (.i .i64 0)] [dR 0] from iM (by omega) (by omega))))<|ap 1<|aj (aF (cR c) aD rfl)<|aj (am rfl (pP (aX hc)))<|ap 1<|aj (aF (cR f) aD rfl)<|aj (am rfl (pP (aX hf)))<|aj (aN (us:=(cR (a-d)++cR b++cR (-e)++cR 0++cR c++cR f)) OJ E4 rfl rfl rfl) ?_
 refine aY<|az<|ag<|an ?_
 exact aq (a7 O8 rfl ae)
def rB (b c:Rat):Rat:=if b=0∨c=0 then 0 else b
def rC (b c:Rat):Rat:=if b=0∨c=0 then 0 else c
theorem En {b c:Rat}(h:b=0∨c=0):rB b c=0:=by unfold rB;rw[if_pos h]
theorem Df {b c:Rat}(h:b=0∨c=0):rC b c=0:=by unfold rC;rw[if_pos h]
theorem M4 {b c:Rat}(h:b≠0) (h':c≠0):rB b c=b:=by unfold rB;rw[if_neg (fun e=>e.elim h h')]
theorem P9 {b c:Rat}(h:b≠0) (h':c≠0):rC b c=c:=by unfold rC;rw[if_neg (fun e=>e.elim h h')]
def s3 (a b c:Rat):Int:=if aV a 0=aV b 0∨aV b 0=0 then aV a 0 else if aV a 0=0 then aV b 0 else if 0<a*a-b*b*c then aV a 0 else aV b 0
theorem UP {a b c:Rat}(h:(aV a 0==aV b 0)=true):s3 a b c=aV a 0:=by unfold s3;rw[if_pos (.inl (by simpa using h))]
theorem UY {a b c:Rat}(h:(aV b 0==0)=true):s3 a b c=aV a 0:=by unfold s3;rw[if_pos (.inr (by simpa using h))]
theorem RC {a b c:Rat}(h:(aV a 0==aV b 0)=false) (h2:(aV b 0==0)=false):s3 a b c=if aV a 0=0 then aV b 0 else if 0<a*a-b*b*c then aV a 0 else aV b 0:=by
 unfold s3;rw[if_neg (fun e=>e.elim (by simpa using h) (by simpa using h2))]
theorem UV {x:Rat}(h:decide (aV x 0>0)=true):0<x:=vW.1 (by simpa using h)
theorem SW {x:Rat}(h:decide (aV x 0>0)=false): ¬0<x:=fun e=>by have:=vW.2 e;simp at h;omega
theorem Vl {s t:Int}(h:(s==t)=true):s=t:=by simpa using h
theorem TA {s t:Int}(h:(s==t)=false):s≠t:=by simpa using h
theorem Ke {b c e f:Rat}(hf: ¬G3 b c e f) (h1:b≠0) (h2:e≠0):(aV c f==0)=true:=by
 rw[r_eqb']
 exact Classical.byContradiction fun h=>hf ⟨h1,h2,h⟩
where
 r_eqb' {x y:Rat}:((aV x y==0)=true)=(x=y):=by rw[beq_iff_eq];exact propext lP
theorem rl {a:Rat}(ha:Rz 60000 a):Ok Tryz.prog 284 [dR a] [dR (a*a)]:=by
 refine Ok.fn Tryz.func284 6 [.cell 2 35] rfl<|aa<|ab<|al 1<|aC (ai bJ rfl) rfl<|ar<|aa<|ab<|al 2<|ah (am rfl (cW (aX ha) (aX ha)))<|ag<|an ?_
 exact aq (a7 aD rfl ae)
theorem wR {a b c:Rat}(ha:Rz 10000 a) (hb:Rz 10000 b) (hc:Rz 10000 c):Ok Tryz.prog 234 [.a ((cR a++cR b++cR c))] [dR (a*a-b*b*c)]:=by
 have ka:Rz 60000 a:=ha.m_
 have kb:Rz 60000 b:=hb.m_
 have kc:Rz 60000 c:=hc.m_
 refine Ok.fn Tryz.func234 13 [.cell 2 35] rfl<|aa<|ab<|al 1<|aC (ai bJ rfl) rfl<|ar<|aa<|aR 10 rfl rfl<|ap 1<|aj (aF (cR a) aD rfl)<|aj (am rfl (rl (aX ha)))<|ap 1<|aj (aF (cR b) aD rfl)<|aj (am rfl (rl (aX hb))) ?_
 refine ap 1<|aj (aF (cR c) aD rfl)<|aj (am rfl (cW (aX (Rz.mul hb hb)) (aX hc)))<|aj (am rfl (eP (aX (Rz.mul ha ha)) (aX (Rz.mul (Rz.mul hb hb) hc))))<|aY<|az<|ag<|an ?_
 exact aq (a7 aD rfl ae)
theorem kj {a b c:Rat}(ha:Rz 10000 a) (hb:Rz 10000 b) (hc:Rz 10000 c):Ok Tryz.prog 157 [.a ((cR a++cR b++cR c))] [.c (.i .i64 (s3 a b c))]:=by
 refine Ok.fn Tryz.func157 28 [.tmp 2] rfl<|aa<|ab<|ag<|aa<|aR 8 rfl rfl<|ap 1<|aj (aF (cR a) aD rfl)<|aj (am rfl (db))<|ap 1<|aj (aF (cR b) aD rfl)<|aj (am rfl (db))<|bk<|az ?_
 refine ar<|aa<|aa<|ab<|al 3 ?_
 refine cg (bN rfl) (fun c1 hb1=>?_)
 cases c1
 ·refine ag ?_
  refine aw rfl (fun hc2=>?_) (fun hc2=>?_)
  ·refine aa<|ab<|ag<|an ?_
   rw[UY hc2]
   exact aq (aE ae)
  ·refine ao<|aa<|aa<|ab<|ag ?_
   refine aw rfl (fun hc3=>?_) (fun hc3=>?_)
   ·refine aa<|ab<|ag<|an ?_
    rw[RC hb1 hc2,if_pos (Vl hc3)]
    exact aq (aE ae)
   ·refine ao<|aa<|aa<|ab<|al 1<|ah (am rfl (wR (by assumption) (by assumption) (by assumption)))<|ah (am rfl (db))<|ag ?_
    refine aw rfl (fun hc4=>?_) (fun hc4=>?_)
    ·refine aa<|ab<|ag<|an ?_
     rw[RC hb1 hc2,if_neg (TA hc3),if_pos (UV hc4)]
     exact aq (aE ae)
    ·refine ao<|aa<|ab<|ag<|an ?_
     rw[RC hb1 hc2,if_neg (TA hc3),if_neg (SW hc4)]
     exact aq (aE ae)
 ·refine ag<|bg rfl<|aa<|ab<|ag<|an ?_
  rw[UP hb1]
  exact aq (aE ae)
theorem lF {a b c:Rat}:Ok Tryz.prog 132 [dR a,dR b,dR c] [.a ((cR a++cR (rB b c)++cR (rC b c)))]:=by
 refine Ok.fn Tryz.func132 21 [.cell 6 49] rfl<|aa<|ab<|al 3<|aC (ai de rfl) rfl<|ar<|aa<|aa<|ab<|al 1<|ah (am rfl (fl))<|al 1 ?_
 refine cg (bN rfl) (fun c1 hb1=>?_)
 cases c1
 ·refine al 1<|ah (am rfl (fl))<|ag ?_
  refine aw rfl (fun hc2=>?_) (fun hc2=>?_)
  ·refine aa<|ab<|al 1<|ah (am rfl (dP))<|ag<|an ?_
   rw[En (.inr (mC hc2)),Df (.inr (mC hc2))]
   exact aq (a7 dx rfl ae)
  ·refine ao<|aa<|ab<|al 3<|ah (aN (us:=(cR a++cR b++cR c)) lQ de rfl rfl rfl) ?_
   refine ag<|an ?_
   rw[M4 (jT hb1) (jT hc2),P9 (jT hb1) (jT hc2)]
   exact aq (a7 dx rfl ae)
 ·refine ag<|bg rfl<|aa<|ab<|al 1<|ah (am rfl (dP))<|ag<|an ?_
  rw[En (.inl (mC hb1)),Df (.inl (mC hb1))]
  exact aq (a7 dx rfl ae)
theorem sD {a b c d e f:Rat}(hc:Rz 60000 c) (hf:Rz 60000 f) (hb: ¬G3 b c e f):Ok Tryz.prog 242 [.a ((cR a++cR b++cR c)),.a ((cR d++cR e++cR f))] [dR (cc b c f),.c (.b true)]:=by
 refine Ok.fn Tryz.func242 26 [.cell 4 35,.tmp 5] rfl<|aa<|ab<|al 2<|aC (ai bJ rfl) rfl<|ag<|aa<|aa<|ab<|al 1<|ah (aF (cR b) aD rfl)<|ah (am rfl (db))<|ag ?_
 refine aw rfl (fun hc1=>?_) (fun hc1=>?_)
 ·refine aa<|ab<|al 1<|ah (aF (cR f) aD rfl)<|ag<|an ?_
  rw[tk (mC hc1)]
  exact aq (a7 aD rfl (aE ae))
 ·refine ao<|aa<|bZ 16 [4,999999] aU (by kernel_rfl) rfl rfl<|ap 1<|aj (aF (cR c) aD rfl)<|ap 1<|aj (aF (cR e) aD rfl)<|aj (am rfl (db))<|ap 1 ?_
  refine fb (bN rfl) (fun c2 hb2=>?_)
  cases c2
  ·refine ap 1<|aj (aF (cR c) aD rfl)<|ap 1<|aj (aF (cR f) aD rfl)<|aj (am rfl (gl (aX hc) (aX hf)))<|ap 2<|gw (fG aD rfl) rfl rfl rfl rfl<|bk<|bl<|ar<|an ?_
   rw[oS (jT hc1),Ke hb (jT hc1) (jT hb2)]
   exact aq (a7 aD rfl (aE ae))
  ·refine ap 7<|B8 (fG aD rfl) rfl rfl (by kernel_rfl) rfl<|bk<|bl<|ar<|an ?_
   rw[oS (jT hc1)]
   exact aq (a7 aD rfl (aE ae))
theorem Ht {a b c d e f:Rat}(ha:Rz 10000 a) (hb:Rz 10000 b) (hc:Rz 10000 c) (hd:Rz 10000 d) (he:Rz 10000 e) (hf:Rz 10000 f) (hbad: ¬G3 b c e f):Ok Tryz.prog 287 [.a ((cR a++cR b++cR c)),.a ((cR d++cR e++cR f))] [.a ((cR (a+d)++cR (rB (b+e) (cc b c f))++cR (rC (b+e) (cc b c f)))),.c (.i .i64 0)]:=by
 have ka:Rz 60000 a:=ha.m_
 have kb:Rz 60000 b:=hb.m_
 have kc:Rz 60000 c:=hc.m_
 have kd:Rz 60000 d:=hd.m_
 have ke:Rz 60000 e:=he.m_
 have kf:Rz 60000 f:=hf.m_
 refine Ok.fn Tryz.func287 29 [.cell 4 49,.tmp 5] rfl<|aa<|ab<|al 2<|aC (ai de rfl) rfl<|ag<|aa<|ab<|al 2<|ah (am rfl (sD (by assumption) (by assumption) (by assumption)))<|al 3<|aC (ai bJ rfl) rfl<|ag<|aa ?_
 refine aa<|ab<|ag<|aP rfl<|ao<|aa<|aR 12 rfl rfl<|ap 1<|aj (aF (cR a) aD rfl)<|ap 1<|aj (aF (cR d) aD rfl)<|aj (am rfl (gj (aX ha) (aX hd)))<|ap 1<|aj (aF (cR b) aD rfl) ?_
 refine ap 1<|aj (aF (cR e) aD rfl)<|aj (am rfl (gj (aX hb) (aX he)))<|ap 1<|aj (am rfl (lF))<|aY<|az<|ag<|an ?_
 exact aq (a7 dx rfl (aE ae))
theorem xN {a b c d e f:Rat}(ha:Rz 10000 a) (hb:Rz 10000 b) (hc:Rz 10000 c) (hd:Rz 10000 d) (he:Rz 10000 e) (hf:Rz 10000 f) (hbad: ¬G3 b c e f):Ok Tryz.prog 168 [.a ((cR a++cR b++cR c)),.a ((cR d++cR e++cR f))] [.a ((cR (a*d+b*e*cc b c f)++cR (rB (a*e+b*d) (cc b c f))++cR (rC (a*e+b*d) (cc b c f)))),.c (.i .i64 0)]:=by
 have ka:Rz 60000 a:=ha.m_
 have kb:Rz 60000 b:=hb.m_
 have kc:Rz 60000 c:=hc.m_
 have kd:Rz 60000 d:=hd.m_
 have ke:Rz 60000 e:=he.m_
 have kf:Rz 60000 f:=hf.m_
 have hcc:Rz 10000 (cc b c f):=by unfold cc;split<;>assumption
 have z1:Rz 60000 (b*e):=(Rz.mul hb he).m_
 have z2:Rz 60000 (cc b c f):=hcc.m_
 have z3:Rz 60000 (b*e*cc b c f):=(Rz.mul (Rz.mul hb he) hcc).m_
 refine Ok.fn Tryz.func168 47 [.cell 4 49,.tmp 5] rfl<|aa<|ab<|al 2<|aC (ai de rfl) rfl<|ag<|aa<|ab<|al 2<|ah (am rfl (sD (by assumption) (by assumption) (by assumption)))<|al 3<|aC (ai bJ rfl) rfl<|ag<|aa ?_
 refine aa<|ab<|ag<|aP rfl<|ao<|aa<|aR 14 rfl rfl<|ap 1<|aj (aF (cR a) aD rfl)<|ap 1<|aj (aF (cR d) aD rfl) ?_
 refine aj (am rfl (cW (by first|assumption|exact Rz.mono ha (by decide)) (by first|assumption|exact Rz.mono hd (by decide)))) ?_
 refine ap 1<|aj (aF (cR b) aD rfl)<|ap 1<|aj (aF (cR e) aD rfl) ?_
 refine aj (am rfl (cW (by first|assumption|exact Rz.mono hb (by decide)) (by first|assumption|exact Rz.mono he (by decide)))) ?_
 refine ap 1 ?_
 refine aj (am rfl (cW (by first|assumption|exact Rz.mono (Rz.mul hb he) (by decide)) (by first|assumption|exact Rz.mono (by assumption) (by decide)))) ?_
 refine aj (am rfl (gj (by first|assumption|exact Rz.mono (Rz.mul ha hd) (by decide)) (by first|assumption|exact Rz.mono (Rz.mul (Rz.mul hb he) (by assumption)) (by decide)))) ?_
 refine ba (ai bJ rfl) rfl<|aY<|bl<|ag<|aa<|aR 12 rfl rfl<|ap 1<|aj (aF (cR a) aD rfl)<|ap 1<|aj (aF (cR e) aD rfl) ?_
 refine aj (am rfl (cW (by first|assumption|exact Rz.mono ha (by decide)) (by first|assumption|exact Rz.mono he (by decide)))) ?_
 refine ap 1<|aj (aF (cR b) aD rfl)<|ap 1<|aj (aF (cR d) aD rfl) ?_
 refine aj (am rfl (cW (by first|assumption|exact Rz.mono hb (by decide)) (by first|assumption|exact Rz.mono hd (by decide)))) ?_
 refine aj (am rfl (gj (by first|assumption|exact Rz.mono (Rz.mul ha he) (by decide)) (by first|assumption|exact Rz.mono (Rz.mul hb hd) (by decide)))) ?_
 refine ba (ai bJ rfl) rfl<|aY<|bl<|ag<|aa<|ab<|al 3<|ah (am rfl (lF))<|ag<|an ?_
 exact aq (a7 dx rfl (aE ae))
theorem iT {a b c d:Rat}(ha:Rz 60000 a) (hd:Rz 60000 d):Ok Tryz.prog 159 [.a ((cR a++cR b++cR c)),dR d] [.a ((cR (a+d)++cR b++cR c))]:=by
 refine Ok.fn Tryz.func159 14 [.cell 4 49] rfl<|aa<|ab<|al 2<|aC (ai de rfl) rfl<|ar<|aa<|aR 9 rfl rfl<|ap 1<|aj (aF (cR a) aD rfl)<|ap 1<|aj (am rfl (gj (aX ha) (aX hd)))<|ap 1<|aj (aF (cR b) aD rfl) ?_
 refine ap 1<|aj (aF (cR c) aD rfl)<|aj (aN (us:=(cR (a+d)++cR b++cR c)) lQ de rfl rfl rfl) ?_
 refine aY<|az<|ag<|an ?_
 exact aq (a7 dx rfl ae)
theorem G6 {a b c d e f:Rat}(ha:Rz 300 a) (hb:Rz 300 b) (hc:Rz 300 c) (hd:Rz 300 d) (he:Rz 300 e) (hf:Rz 300 f):Ok Tryz.prog 15 [.a ((cR a++cR b++cR c)),.a ((cR d++cR e++cR f))] [.c (.b (vq a b c d e f))]:=by
 refine Ok.fn Tryz.func15 24 [.tmp 4] rfl<|aa<|ab<|ag<|aa<|ab<|al 1<|ah (aF (cR a) aD rfl)<|al 1<|ah (aF (cR d) aD rfl)<|ah (am rfl (wJ (aX ha) (aX hd))) ?_
 refine cg (bN rfl) (fun c1 hb1=>?_)
 cases c1
 ·refine ag<|an ?_
  rw[show vq a b c d e f=false from by unfold vq;rw[hb1];rfl]
  exact aq (aE ae)
 ·refine al 1<|ah (aF (cR b) aD rfl)<|al 1<|ah (aF (cR e) aD rfl)<|ah (am rfl (wJ (aX hb) (aX he)))<|al 1 ?_
  refine cg (bN rfl) (fun c2 hb2=>?_)
  cases c2
  ·refine ag<|an ?_
   rw[show vq a b c d e f=false from by unfold vq;rw[hb1,hb2];rfl]
   exact aq (aE ae)
  ·refine al 1<|ah (aF (cR c) aD rfl)<|al 1<|ah (aF (cR f) aD rfl)<|ah (am rfl (wJ (aX hc) (aX hf)))<|ag<|an ?_
   rw[show vq a b c d e f=decide (c=f) from by unfold vq;rw[hb1,hb2];rfl]
   exact aq (aE ae)
theorem I8 {x y:Int}(h0: -9223372036854775808≤x) (h1:x≤9223372036854775807) (h2: -9223372036854775808≤y) (h3:y≤9223372036854775807):Ok Tryz.prog 111 [.c (.i .i64 x),.c (.i .i64 y)] [.a ((cR (((x:Int):Rat))++cR (((y:Int):Rat))))]:=by
 refine Ok.fn Tryz.func111 10 [.cell 4 37] rfl<|aa<|ab<|aC (ai il rfl) rfl<|ar<|aa<|ab<|al 1<|ah (am rfl (mv (by omega) (by omega)))<|al 1<|ah (am rfl (mv (by omega) (by omega)))<|ah (aN (us:=(cR (((x:Int):Rat))++cR (((y:Int):Rat)))) nr il rfl rfl rfl) ?_
 refine ag<|an ?_
 exact aq (a7 MB rfl ae)
def rH (a b c p q r:Rat):Int:=iX (a-p) b (-q) 0 (zc b c) (zc q r)
def jZ (a1 b1 a2 b2 c p1 q1 p2 q2 r:Rat):Int:=if rH a1 b1 c p1 q1 r≠0 then rH a1 b1 c p1 q1 r else rH a2 b2 c p2 q2 r
theorem Og {a1 b1 a2 b2 c p1 q1 p2 q2 r:Rat}(h:(rH a1 b1 c p1 q1 r !=0)=true):jZ a1 b1 a2 b2 c p1 q1 p2 q2 r=rH a1 b1 c p1 q1 r:=by unfold jZ;rw[if_pos (by simpa using h)]
theorem Nf {a1 b1 a2 b2 c p1 q1 p2 q2 r:Rat}(h:(rH a1 b1 c p1 q1 r !=0)=false):jZ a1 b1 a2 b2 c p1 q1 p2 q2 r=rH a2 b2 c p2 q2 r:=by unfold jZ;rw[if_neg (by simpa using h)]
theorem Rz.zero {k:Nat}(hk:1≤k):Rz k (0:Rat):=⟨⟨by have:=dJ k;rw[Rat.zero_num];omega,by have:=dJ k;rw[Rat.zero_num];omega⟩,by rw[Rat.zero_den];exact Sz.one hk⟩
theorem Rz.zc {k:Nat}{b c:Rat}(h:Rz k c) (hk:1≤k):Rz k (zc b c):=by
 unfold Go.Proofs.YtkmdgigkbhmilaaGreat.zc
 split
 ·exact Rz.zero hk
 ·exact h
def rt (c:Rat):Rat:=Rat.divInt (bP c.num) (bP (c.den:Int))
theorem NU {c:Rat}(h:go c=true):dQ (if go c then bP c.num else 0) (if go c then bP (c.den:Int) else 0)=dR (rt c):=by
 rw[if_pos h,if_pos h]
 unfold go xe at h
 simp only[Bool.and_eq_true,beq_iff_eq] at h
 obtain⟨h1,h2⟩:=h
 have n0:=ep c.num
 have d0:=ep (c.den:Int)
 have dp:=den_pos c
 have hd:0<bP (c.den:Int):=by
  rcases Int.lt_trichotomy 0 (bP (c.den:Int)) with e|e|e
  ·exact e
  ·rw[←e] at h2;simp at h2;omega
  ·omega
 have hg:Int.gcd (bP c.num) (bP (c.den:Int))=1:=by
  have hr:Int.gcd c.num (c.den:Int)=1:=c.reduced
  have d1:Int.gcd (bP c.num) (bP (c.den:Int))∣Int.gcd c.num (c.den:Int):=by
   refine Int.dvd_gcd ?_ ?_
   ·have t:((Int.gcd (bP c.num) (bP (c.den:Int)):Nat):Int)∣bP c.num*bP c.num:=Int.dvd_mul_of_dvd_left (Int.gcd_dvd_left ..)
    rw[h1] at t;exact t
   ·have t:((Int.gcd (bP c.num) (bP (c.den:Int)):Nat):Int)∣bP (c.den:Int)*bP (c.den:Int):=Int.dvd_mul_of_dvd_left (Int.gcd_dvd_right ..)
    rw[h2] at t;exact t
  rw[hr] at d1
  exact Nat.dvd_one.1 d1
 unfold rt
 exact(uJ hd (by rw[hg];rfl)).symm
end Go.Proofs.YtkmdgigkbhmilaaGreat
