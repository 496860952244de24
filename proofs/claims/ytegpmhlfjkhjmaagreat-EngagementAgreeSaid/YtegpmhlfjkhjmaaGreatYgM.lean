/-Ways:directions,ranges. -/
import Derived.Test.YtegpmhlfjkhjmaaGreatYgL
namespace Go.Proofs.YtegpmhlfjkhjmaaGreat
open Go Go.RowKit
variable {k:Ci}{a n s t:Int}{p q:Pt}{A B C D M N R c e m r x y:Rat}
theorem Ky (hx:Rz 300 x) (hy:Rz 300 y):Ok Tryz.prog 115 [dR x,dR y] [dR (x+y)]:=by
 refine bW Tryz.func115 rfl<|ac rfl (RW (aE hx) (aE hy)) ?_
 exact ah (aQ aX rfl aa)
theorem AF (hx:Rz 300 x) (hy:Rz 300 y):Ok Tryz.prog 117 [dR x,dR y] [dR (x-y)]:=by
 refine bW Tryz.func117 rfl<|ac rfl (Rh (aE hx) (aE hy)) ?_
 exact ah (aQ aX rfl aa)
theorem vL (hx:Rz 300 x) (hy:Rz 300 y):Ok Tryz.prog 155 [dR x,dR y] [dR (x*y)]:=by
 refine bW Tryz.func155 rfl<|ac rfl (RH (aE hx) (aE hy)) ?_
 exact ah (aQ aX rfl aa)
theorem AX (hx:Rz 300 x):Ok Tryz.prog 63 [dR x] [.c (.b (mQ x))]:=by
 refine bW Tryz.func63 rfl<|ac rfl (fm (by omega) (by omega))<|cz 12 [] ?_
 refine aC rfl (oJ (aE hx) (aE (dm (cX (k:=3) (by decide) (by decide) (by decide)) (by decide)))) ?_
 refine AG (bq rfl) (fun c1 hb1=>?_)
 cases c1
 ·refine ah ?_
  rw[PQ hb1]
  exact ak aa
 ·refine aC rfl (EI (aE hx)) ?_
  refine aC rfl (oJ (aE (lj hx)) (aE (dm (cX (k:=3) (by decide) (by decide) (by decide)) (by decide))))<|ah ?_
  rw[Wg hb1]
  exact ak aa
theorem BS (hR:Rz 20 R) (hr:Rz 20 r) (he:Rz 20 e) (h0:((2:Int):Rat)*(e*r)≠0):Ok Tryz.prog 69 [dR R,dR r,dR e] [dR (CA R r e)]:=by
 refine bW Tryz.func69 rfl<|cz 12 [] ?_
 refine aC rfl (vL (aE hR) (aE hR)) ?_
 refine aC rfl (vL (aE he) (aE he)) ?_
 refine aC rfl (AF (aE (aF hR hR)) (aE (aF he he))) ?_
 refine aC rfl (vL (aE hr) (aE hr)) ?_
 refine aC rfl (AF (aE (cT (aF hR hR) (aF he he))) (aE (aF hr hr)))<|cz 13 [8,999999] ?_
 refine aC rfl (fm (by omega) (by omega)) ?_
 refine aC rfl (vL (aE he) (aE hr)) ?_
 refine aC rfl (vL (aE (dm (cX (k:=3) (by decide) (by decide) (by decide)) (by decide))) (aE (aF he hr)))<|aC rfl (JW (aE (cT (cT (aF hR hR) (aF he he)) (aF hr hr))) (aE (aF (dm (cX (k:=3) (by decide) (by decide) (by decide)) (by decide)) (aF he hr))) h0) ?_
 refine DQ.mk<|fp (dL aX rfl) rfl rfl rfl rfl<|dc ?_
 refine qg rfl ?_
 exact ah (aQ aX rfl aa)
theorem Q4 (hc:Rz 20 c) (ha:1≤a) (ha2:a≤10000000) (ht:1≤t) (ht2:t≤10000000) (hs:1≤s) (hs2:s≤10000001):Ok Tryz.prog 120 [.c (.i .i64 a),.c (.i .i64 t),.c (.i .i64 s),dR c] [.c (.b (UD a t s c))]:=by
 have hza:Sz 3 a:=cX (by decide) (by omega) (by omega)
 have hzt:Sz 3 t:=cX (by decide) (by omega) (by omega)
 have hzs:Sz 3 s:=cX (by decide) (by omega) (by omega)
 have hz:=ZO ha ht hs ha2 ht2 hs2
 have h0:((2:Int):Rat)*((((a+s:Int)):Rat)*((t:Int):Rat))≠0:=by
  have:(0:Rat)<((2:Int):Rat)*((((a+s:Int)):Rat)*((t:Int):Rat)):=cY (by decide) (Fu ha ht (by omega))
  grind
 refine bW Tryz.func120 rfl<|ac rfl (fm (by omega) (by omega))<|ar (bZ (a+t) (bm (by omega) (by omega)) rfl)<|ac rfl (fm (by omega) (by omega))<|ac rfl (fm (by omega) (by omega))<|ar (bZ (a+s) (bm (by omega) (by omega)) rfl)<|ac rfl (fm (by omega) (by omega))<|ac rfl (lh (BS (aE (dm (Sz.addm hza hzt) (by decide))) (aE (dm hzt (by decide))) (aE (dm (Sz.addm hza hzs) (by decide))) h0) (x':=cq a t s) rfl) ?_
 refine ac rfl (oJ (HJ) (aE (dm (cX (k:=3) (by decide) (by decide) (by decide)) (by decide)))) ?_
 refine df rfl (fun hc1=>?_) (fun hc1=>?_)
 ·exact(Q0 ha ht hs hc1).elim
 ·refine ac rfl (vL (HJ) (HJ))<|cz 14 [] ?_
  refine aC rfl (gJ) ?_
  refine AG (bq rfl) (fun c2 hb2=>?_)
  cases c2
  ·refine ah ?_
   rw[Zo hb2]
   exact ak aa
  ·refine aC rfl (Ky (aE (aF (by assumption) (by assumption))) (aE (aF (by assumption) (by assumption)))) ?_
   refine aC rfl (AF (aE (ig (aF (by assumption) (by assumption)) (aF (by assumption) (by assumption)))) (aE (dm (cX (k:=3) (by decide) (by decide) (by decide)) (by decide)))) ?_
   refine aC rfl (oJ (aE (cT (ig (aF (by assumption) (by assumption)) (aF (by assumption) (by assumption))) (dm (cX (k:=3) (by decide) (by decide) (by decide)) (by decide)))) (aE hc))<|ah ?_
   rw[YS hb2]
   exact ak aa
theorem NH (hc:Rz 20 c) (ha:1≤a) (ha2:a≤10000000) (ht:1≤t) (ht2:t≤10000000) (h0:0≤n) (h1:n≤t):Ok Tryz.prog 119 [.c (.i .i64 n),.c (.p ([.i .i64 a])),.c (.p ([.i .i64 t])),.c (.p (cR c))] [.c (.b (!UD a t (n+1) c))]:=by
 refine bW Tryz.func119 rfl<|ar (xk YH rfl rfl rfl) ?_
 refine ar (xk YH rfl rfl rfl) ?_
 refine ar (bZ (n+1) (bm (by omega) (by omega)) rfl)<|ar (lp (us:=cR c) aX rfl rfl rfl rfl) ?_
 refine ac rfl (Q4 hc ha ha2 ht ht2 (by omega) (by omega)) ?_
 exact ah (ak aa)
theorem Qa {N r:Int}(hN0:0≤N) (hN:N≤1000000000) (hr0:0≤r) (hr1:r≤N) (hφ: ∀i:Int,0≤i→i<N→Ok Tryz.prog 119 [.c (.i .i64 i),.c (.p ([.i .i64 a])),.c (.p ([.i .i64 t])),.c (.p (cR c))] [.c (.b (decide (r≤i)))]):Ok Tryz.prog 118 [.c (.i .i64 N),.c (.k 119 [.p ([.i .i64 a]),.p ([.i .i64 t]),.p (cR c)])] [.c (.i .i64 r)]:=by
 refine bW Tryz.func118 rfl ?_
 refine DW.mk<|bF (ι:={p:Int×Int // 0≤p.1∧p.1≤r∧r≤p.2∧p.2≤N}) (fun i=>⟨26,[(0,.v (.c (.i .i64 N))),(1,.v (.c (.k 119 [.p ([.i .i64 a]),.p ([.i .i64 t]),.p (cR c)]))),(5,.v (.c (.i .i64 i.1.1))),(6,.v (.c (.i .i64 i.1.2)))],[]⟩) (fun i=>(i.1.2-i.1.1).toNat) ⟨(0,N),by show(0:Int)≤0;omega,hr0,hr1,by show N≤N;omega⟩ (aA ⟨rfl,rfl,rfl,rfl,trivial⟩ trivial rfl) ?_
 rintro⟨⟨lo,hi⟩,g1,g2,g3,g4⟩
 replace g1:0≤lo:=g1
 replace g2:lo≤r:=g2
 replace g3:r≤hi:=g3
 replace g4:hi≤N:=g4
 dsimp only
 refine nZ ?_
 refine df rfl (fun hc1=>?_) (fun hc1=>?_)
 ·have hlt:lo<hi:=of_decide_eq_true hc1
  refine ar (bZ (lo+hi) (bm (by omega) (by omega)) rfl)<|ar (bv (r:=lo+hi) Om FI rfl (gZ (by omega) (by omega)) rfl) ?_
  refine ar (MV (r:=(lo+hi)/2) rfl rfl (by decide) NX rfl) ?_
  refine ar (bv (r:=(lo+hi)/2) FI Om rfl (ii (by omega) (by omega)) rfl) ?_
  refine ar (oV rfl rfl (hφ _ (by omega) (by omega)) rfl) ?_
  refine df rfl (fun hc2=>?_) (fun hc2=>?_)
  ·have hm: ¬r≤(lo+hi)/2:=by simpa using hc2
   refine ar (bZ (((lo+hi)/2)+1) (bm (by omega) (by omega)) rfl) ?_
   exact⟨⟨((lo+hi)/2+1,hi),by show 0≤(lo+hi)/2+1;omega,by show(lo+hi)/2+1≤r;omega,g3,g4⟩,aA ⟨rfl,rfl,rfl,rfl,trivial⟩ trivial rfl,by show(hi-((lo+hi)/2+1)).toNat<(hi-lo).toNat;omega⟩
  ·have hm:r≤(lo+hi)/2:=by simpa using hc2
   exact⟨⟨(lo,(lo+hi)/2),g1,g2,by show r≤(lo+hi)/2;omega,by show(lo+hi)/2≤N;omega⟩,aA ⟨rfl,rfl,rfl,rfl,trivial⟩ trivial rfl,by show((lo+hi)/2-lo).toNat<(hi-lo).toNat;omega⟩
 ·have hlo:r=lo:=by have:=of_decide_eq_false hc1;omega
  refine ah ?_
  rw[hlo]
  exact ak aa
theorem O2 (hc:Rz 20 c) (ha:1≤a) (ha2:a≤10000000) (ht:1≤t) (ht2:t≤10000000) {r:Int}(hcos:mQ c=true) (hr0:0≤r) (hr1:r≤t+1) (hφ: ∀i:Int,0≤i→i<t+1→UD a t (i+1) c=decide (i<r)):Ok Tryz.prog 39 [.c (.i .i64 a),.c (.i .i64 t),dR c] [.c (.i .i64 r),.c (.i .i64 0)]:=by
 refine ex Tryz.func39 33 [.tmp 6,.tmp 7] rfl<|ae<|ag<|ae<|ae<|bz<|bQ 1<|aW (aU (c:=false) (ew rfl) (decide_eq_false (by omega))) ?_
 refine bQ 2<|aW (aU (c:=false) (ew rfl) (decide_eq_false (by omega))) ?_
 refine bQ 3<|aW (aU (c:=false) (ew rfl) (decide_eq_false (by omega))) ?_
 refine bQ 3<|aW (aU (c:=false) (ew rfl) (decide_eq_false (by omega))) ?_
 refine bQ 3<|aW (cb rfl (eG (AX (aE hc)) hcos))<|fL<|bn rfl<|aB<|ae<|jT (t:=3) (k:=3) rfl rfl<|jT (t:=4) (k:=4) rfl rfl<|jT (t:=5) (k:=5) rfl rfl<|ag<|ar (xk YH rfl rfl rfl) ?_
 refine ar (bZ (t+1) (bm (by omega) (by omega)) rfl)<|ar (pM (us:=[.p ([.i .i64 a]),.p ([.i .i64 t]),.p (cR c)]) rfl rfl) ?_
 refine ac rfl (Qa (by omega) (by omega) hr0 hr1 (fun i g1 g2=>eG (NH hc ha ha2 ht ht2 g1 (by omega)) (by rw[hφ i g1 g2];exact LO i r)))<|ae<|ag<|a9 ?_
 exact ah (ak (ak aa))
theorem Ru (h:decide (aw c ((1:Int):Rat)≤0)=true):mQ c=decide (aw c (((-1):Int):Rat)≥0):=by
 have h1:=ye.1 (of_decide_eq_true h)
 unfold mQ
 rw[decide_eq_true (show c≤1 from h1),fW]
 apply decide_eq_decide.2
 rw[Az]
 exact Iff.rfl
def ra (R r e:Rat):Bool:= !(decide (aw R 0≤0)||(decide (aw r 0≤0)||decide (aw e 0≤0)))&& !(decide (aw (CA R r e) ((1:Int):Rat)≥0)||decide (aw (-(CA R r e)) ((1:Int):Rat)≥0))
def Ju (u r:Rat):Bool:= !(decide (aw r 0≤0)||(decide (aw u 0<0)||decide (aw u (r+r)>0)))
theorem Ig (h:decide (aw x 0≤0)=false):0<x:=by
 have:=of_decide_eq_false h
 rw[ye] at this
 grind
theorem Oj (h1:decide (aw r 0≤0)=false) (h2:decide (aw e 0≤0)=false):((2:Int):Rat)*(e*r)≠0:=by
 have:(0:Rat)<((2:Int):Rat)*(e*r):=cY (by decide) (cY (Ig h2) (Ig h1))
 grind
theorem V5 (h1:decide (aw r 0≤0)=false):r≠0:=by
 have:=Ig h1
 grind
theorem TI (hR:Rz 20 R) (hr:Rz 20 r) (he:Rz 20 e) (h0:((2:Int):Rat)*(e*r)≠0):Rz 200 (CA R r e):=by
 have h2:Rz 3 ((2:Int):Rat):=Rz.num (by decide) (by decide)
 exact((((hR.mul hR).sub (he.mul he)).sub (hr.mul hr)).div (h2.mul (he.mul hr)) h0).mono (by decide)
def Gx (x c:Rat):Bool:=decide (aw x 0≥0)&&decide (aw (((2:Int):Rat)*(x*x)-((1:Int):Rat)) c≥0)
theorem Wv (h:decide (aw x 0≥0)=true):Gx x c=decide (aw (((2:Int):Rat)*(x*x)-((1:Int):Rat)) c≥0):=by unfold Gx;rw[h,fW]
theorem Ws (h:decide (aw x 0≥0)=false):Gx x c=false:=by unfold Gx;rw[h,lr]
theorem GN (hR:Rz 20 R) (hr:Rz 20 r) (he:Rz 20 e) (hd:ra R r e=false):Ok Tryz.prog 20 [dR R,dR r,dR e] [.a ((([.b false]++[cM ([])])++([.b false]++[cM ([])]))),.c (.b false)]:=by
 refine bW Tryz.func20 rfl<|ac rfl (gJ) ?_
 refine jC (bq rfl) (fun c1 hb1=>?_)
 cases c1
 ·refine ac rfl (gJ) ?_
  refine jC (bq rfl) (fun c2 hb2=>?_)
  cases c2
  ·refine ac rfl (gJ) ?_
   refine df rfl (fun hc3=>?_) (fun hc3=>?_)
   ·refine ar (az (us:=(([.b false]++[.s 0 []])++([.b false]++[.s 0 []]))) qj qe rfl rfl rfl) ?_
    exact ah (aQ aX rfl (ak aa))
   ·have h0:=Oj hb2 hc3
    have hz:Rz 200 (CA R r e):=TI hR hr he h0
    refine ac rfl (BS (aE hR) (aE hr) (aE he) h0)<|ac rfl (fm (by omega) (by omega))<|cz 11 [] ?_
    refine aC rfl (oJ (HJ) (aE (dm (cX (k:=3) (by decide) (by decide) (by decide)) (by decide)))) ?_
    refine AG (bq rfl) (fun c4 hb4=>?_)
    cases c4
    ·refine aC rfl (EI (HJ)) ?_
     refine aC rfl (oJ (aE (lj (by assumption))) (aE (dm (cX (k:=3) (by decide) (by decide) (by decide)) (by decide)))) ?_
     refine df rfl (fun hc5=>?_) (fun hc5=>?_)
     ·refine ar (az (us:=(([.b false]++[.s 0 []])++([.b false]++[.s 0 []]))) qj qe rfl rfl rfl) ?_
      exact ah (aQ aX rfl (ak aa))
     ·exact absurd hd (by rw[show ra R r e=true from by unfold ra;rw[hb1,hb2,hc3,hb4,hc5];rfl];decide)
    ·refine rx rfl<|ar (az (us:=(([.b false]++[.s 0 []])++([.b false]++[.s 0 []]))) qj qe rfl rfl rfl) ?_
     exact ah (aQ aX rfl (ak aa))
  ·refine rx rfl<|ar (az (us:=(([.b false]++[.s 0 []])++([.b false]++[.s 0 []]))) qj qe rfl rfl rfl) ?_
   exact ah (aQ aX rfl (ak aa))
 ·refine ar (bq rfl)<|rx rfl<|ar (az (us:=(([.b false]++[.s 0 []])++([.b false]++[.s 0 []]))) qj qe rfl rfl rfl) ?_
  exact ah (aQ aX rfl (ak aa))
theorem Dh (hR:Rz 20 R) (hr:Rz 20 r) (he:Rz 20 e) (hd:ra R r e=true):Ok Tryz.prog 20 [dR R,dR r,dR e] [dR (CA R r e),.c (.b true)]:=by
 refine bW Tryz.func20 rfl<|ac rfl (gJ) ?_
 refine jC (bq rfl) (fun c1 hb1=>?_)
 cases c1
 ·refine ac rfl (gJ) ?_
  refine jC (bq rfl) (fun c2 hb2=>?_)
  cases c2
  ·refine ac rfl (gJ) ?_
   refine df rfl (fun hc3=>?_) (fun hc3=>?_)
   ·exact absurd hd (by rw[show ra R r e=false from by unfold ra;rw[hb1,hb2,hc3];rfl];decide)
   ·have h0:=Oj hb2 hc3
    have hz:Rz 200 (CA R r e):=TI hR hr he h0
    refine ac rfl (BS (aE hR) (aE hr) (aE he) h0)<|ac rfl (fm (by omega) (by omega))<|cz 11 [] ?_
    refine aC rfl (oJ (HJ) (aE (dm (cX (k:=3) (by decide) (by decide) (by decide)) (by decide)))) ?_
    refine AG (bq rfl) (fun c4 hb4=>?_)
    cases c4
    ·refine aC rfl (EI (HJ)) ?_
     refine aC rfl (oJ (aE (lj (by assumption))) (aE (dm (cX (k:=3) (by decide) (by decide) (by decide)) (by decide)))) ?_
     refine df rfl (fun hc5=>?_) (fun hc5=>?_)
     ·exact absurd hd (by rw[show ra R r e=false from by unfold ra;rw[hb1,hb2,hc3,hb4,hc5];rfl];decide)
     ·exact ah (aQ aX rfl (ak aa))
    ·exact absurd hd (by rw[show ra R r e=false from by unfold ra;rw[hb1,hb2,hc3,hb4];rfl];decide)
  ·exact absurd hd (by rw[show ra R r e=false from by unfold ra;rw[hb1,hb2];rfl];decide)
 ·exact absurd hd (by rw[show ra R r e=false from by unfold ra;rw[hb1];rfl];decide)
theorem Ou {u:Rat}(hu:Rz 20 u) (hr:Rz 20 r) (hd:Ju u r=true):Ok Tryz.prog 38 [dR u,dR r] [dR (((1:Int):Rat)-u/r),.c (.i .i64 0)]:=by
 refine bW Tryz.func38 rfl<|cz 16 [] ?_
 refine aC rfl (gJ) ?_
 refine AG (bq rfl) (fun c1 hb1=>?_)
 cases c1
 ·refine aC rfl (gJ) ?_
  refine AG (bq rfl) (fun c2 hb2=>?_)
  cases c2
  ·refine aC rfl (Ky (aE hr) (aE hr))<|aC rfl (oJ (aE hu) (aE (ig hr hr))) ?_
   refine df rfl (fun hc3=>?_) (fun hc3=>?_)
   ·exact absurd hd (by rw[show Ju u r=false from by unfold Ju;rw[hb1,hb2,hc3];rfl];decide)
   ·have h0:=V5 hb1
    refine ac rfl (JW (aE hu) (aE hr) h0)<|qg rfl<|cz 3 []<|aC rfl (fm (by omega) (by omega)) ?_
    refine aC rfl (AF (aE (dm (cX (k:=3) (by decide) (by decide) (by decide)) (by decide))) (aE (Rz.div hu hr (by assumption)))) ?_
    exact ah (aQ aX rfl (ak aa))
  ·exact absurd hd (by rw[show Ju u r=false from by unfold Ju;rw[hb1,hb2];rfl];decide)
 ·exact absurd hd (by rw[show Ju u r=false from by unfold Ju;rw[hb1];rfl];decide)
theorem Ij (hx:Rz 300 x):Ok Tryz.prog 97 [dR x] [dR (x*x)]:=by
 refine bW Tryz.func97 rfl<|ac rfl (KR (aE hx) (aE hx)) ?_
 exact ah (aQ aX rfl aa)
theorem qQ (h0: -9223372036854775808≤n) (h1:n≤9223372036854775807):Ok Tryz.prog 94 [.c (.i .i64 n)] [dR (n:Rat)]:=by
 refine bW Tryz.func94 rfl<|ac rfl (dH (by omega) (by omega)) ?_
 exact ah (aQ aX rfl aa)
theorem Ma (hx:Rz 300 x):Ok Tryz.prog 27 [dR x] [.c (.b (mQ x))]:=by
 refine bW Tryz.func27 rfl<|cz 11 [] ?_
 refine aC rfl (qQ (by omega) (by omega))<|aC rfl (EA (aE hx) (aE (dm (cX (k:=3) (by decide) (by decide) (by decide)) (by decide)))) ?_
 refine AG (bq rfl) (fun c1 hb1=>?_)
 cases c1
 ·refine ah ?_
  rw[PQ hb1]
  exact ak aa
 ·refine aC rfl (qQ (by omega) (by omega))<|aC rfl (EA (aE hx) (aE (dm (Sz.neg (cX (k:=3) (by decide) (by decide) (by decide))) (by decide))))<|ah ?_
  rw[Ru hb1]
  exact ak aa
theorem Sn (hx:Rz 60 x) (hc:Rz 20 c):Ok Tryz.prog 28 [dR x,dR c] [.c (.b (Gx x c))]:=by
 refine bW Tryz.func28 rfl<|cz 7 []<|aC rfl (qQ (by omega) (by omega)) ?_
 refine aC rfl (Ij (aE hx)) ?_
 refine aC rfl (KR (aE (dm (cX (k:=3) (by decide) (by decide) (by decide)) (by decide))) (aE (aF hx hx)))<|aC rfl (qQ (by omega) (by omega))<|aC rfl (SC (aE (aF (dm (cX (k:=3) (by decide) (by decide) (by decide)) (by decide)) (aF hx hx))) (aE (dm (cX (k:=3) (by decide) (by decide) (by decide)) (by decide))))<|ac rfl (iA) ?_
 refine jC (bq rfl) (fun c1 hb1=>?_)
 cases c1
 ·refine ah ?_
  rw[Ws hb1]
  exact ak aa
 ·refine ac rfl (EA (aE (cT (aF (dm (cX (k:=3) (by decide) (by decide) (by decide)) (by decide)) (aF hx hx)) (dm (cX (k:=3) (by decide) (by decide) (by decide)) (by decide)))) (aE hc))<|ah ?_
  rw[Wv hb1]
  exact ak aa
theorem AE (hx:Rz 6000000 x) (hy:Rz 6000000 y):Ok Tryz.prog 115 [dR x,dR y] [dR (x+y)]:=by
 refine bW Tryz.func115 rfl<|ac rfl (iG (aE hx) (aE hy)) ?_
 exact ah (aQ aX rfl aa)
theorem uS (hx:Rz 6000000 x) (hy:Rz 6000000 y):Ok Tryz.prog 117 [dR x,dR y] [dR (x-y)]:=by
 refine bW Tryz.func117 rfl<|ac rfl (ei (aE hx) (aE hy)) ?_
 exact ah (aQ aX rfl aa)
theorem nj (hx:Rz 6000000 x) (hy:Rz 6000000 y):Ok Tryz.prog 155 [dR x,dR y] [dR (x*y)]:=by
 refine bW Tryz.func155 rfl<|ac rfl (cB (aE hx) (aE hy)) ?_
 exact ah (aQ aX rfl aa)
theorem pc (hx:Rz 6000000 x) (hy:Rz 6000000 y):Ok Tryz.prog 84 [dR x,dR y] [dR (x+y)]:=by
 refine bW Tryz.func84 rfl<|ac rfl (cK (aE hx) (aE hy)) ?_
 exact ah (aQ aX rfl aa)
theorem Je (hx:Rz 6000000 x) (hy:Rz 6000000 y):Ok Tryz.prog 179 [dR x,dR y] [dR (x-y)]:=by
 refine bW Tryz.func179 rfl<|ac rfl (eo (aE hx) (aE hy)) ?_
 exact ah (aQ aX rfl aa)
theorem zT (hx:Rz 6000000 x) (hy:Rz 6000000 y):Ok Tryz.prog 85 [dR x,dR y] [dR (x*y)]:=by
 refine bW Tryz.func85 rfl<|ac rfl (cm (aE hx) (aE hy)) ?_
 exact ah (aQ aX rfl aa)
theorem JN {xa xb ya yb:Rat}(hA:Rz 400000 A) (hB:Rz 400000 B) (hC:Rz 400000 C) (hD:Rz 400000 D) (hxa:Rz 400000 xa) (hxb:Rz 400000 xb) (hya:Rz 400000 ya) (hyb:Rz 400000 yb) (n0: -1≤n) (n1:n≤1):Ok Tryz.prog 274 [.a ((cR A++cR B++cR C++cR D++cR M++cR N)),.a ((cR xa++cR xb)),.a ((cR ya++cR yb)),.c (.i .i64 n)] [.a ((cR (A+((n:Int):Rat)*(xa*ya))++cR (B+((n:Int):Rat)*(xb*ya))++cR (C+((n:Int):Rat)*(xa*yb))++cR (D+((n:Int):Rat)*(xb*yb))++cR M++cR N))]:=by
 have hn:Rz 3 ((n:Int):Rat):=Rz.num (by omega) (by omega)
 have hn2:Rz 6000000 ((n:Int):Rat):=hn.m_
 have k0:Rz 6000000 (xa*ya):=(hxa.mul hya).m_
 have j0:Rz 6000000 (((n:Int):Rat)*(xa*ya)):=(hn.mul (hxa.mul hya)).m_
 have k1:Rz 6000000 (xb*ya):=(hxb.mul hya).m_
 have j1:Rz 6000000 (((n:Int):Rat)*(xb*ya)):=(hn.mul (hxb.mul hya)).m_
 have k2:Rz 6000000 (xa*yb):=(hxa.mul hyb).m_
 have j2:Rz 6000000 (((n:Int):Rat)*(xa*yb)):=(hn.mul (hxa.mul hyb)).m_
 have k3:Rz 6000000 (xb*yb):=(hxb.mul hyb).m_
 have j3:Rz 6000000 (((n:Int):Rat)*(xb*yb)):=(hn.mul (hxb.mul hyb)).m_
 refine bW Tryz.func274 rfl<|ac rfl (fX (by omega) (by omega))<|cz 11 [] ?_
 refine aC rfl (nj (by first|assumption|exact bY hxa (by decide)) (by first|assumption|exact bY hya (by decide))) ?_
 refine aC rfl (nj (by first|assumption|exact bY (dm (by assumption) (by decide)) (by decide)) (by first|assumption|exact bY (aF hxa hya) (by decide))) ?_
 refine aC rfl (AE (by first|assumption|exact bY hA (by decide)) (by first|assumption|exact bY (aF (dm (by assumption) (by decide)) (aF hxa hya)) (by decide))) ?_
 refine nM (aY (us:=(cR (A+((((n:Int):Rat))*(xa*ya)))++cR B++cR C++cR D++cR M++cR N)) aX rfl rfl rfl rfl (dO rfl) rfl rfl) ?_
 refine cz 11 [] ?_
 refine aC rfl (nj (by first|assumption|exact bY hxb (by decide)) (by first|assumption|exact bY hya (by decide))) ?_
 refine aC rfl (nj (by first|assumption|exact bY (dm (by assumption) (by decide)) (by decide)) (by first|assumption|exact bY (aF hxb hya) (by decide))) ?_
 refine aC rfl (AE (by first|assumption|exact bY hB (by decide)) (by first|assumption|exact bY (aF (dm (by assumption) (by decide)) (aF hxb hya)) (by decide))) ?_
 refine nM (aY (us:=(cR (A+((((n:Int):Rat))*(xa*ya)))++cR (B+((((n:Int):Rat))*(xb*ya)))++cR C++cR D++cR M++cR N)) aX rfl rfl rfl rfl (dO rfl) rfl rfl) ?_
 refine cz 11 [] ?_
 refine aC rfl (nj (by first|assumption|exact bY hxa (by decide)) (by first|assumption|exact bY hyb (by decide))) ?_
 refine aC rfl (nj (by first|assumption|exact bY (dm (by assumption) (by decide)) (by decide)) (by first|assumption|exact bY (aF hxa hyb) (by decide))) ?_
 refine aC rfl (AE (by first|assumption|exact bY hC (by decide)) (by first|assumption|exact bY (aF (dm (by assumption) (by decide)) (aF hxa hyb)) (by decide))) ?_
 refine nM (aY (us:=(cR (A+((((n:Int):Rat))*(xa*ya)))++cR (B+((((n:Int):Rat))*(xb*ya)))++cR (C+((((n:Int):Rat))*(xa*yb)))++cR D++cR M++cR N)) aX rfl rfl rfl rfl (dO rfl) rfl rfl) ?_
 refine cz 11 [] ?_
 refine aC rfl (nj (by first|assumption|exact bY hxb (by decide)) (by first|assumption|exact bY hyb (by decide))) ?_
 refine aC rfl (nj (by first|assumption|exact bY (dm (by assumption) (by decide)) (by decide)) (by first|assumption|exact bY (aF hxb hyb) (by decide))) ?_
 refine aC rfl (AE (by first|assumption|exact bY hD (by decide)) (by first|assumption|exact bY (aF (dm (by assumption) (by decide)) (aF hxb hyb)) (by decide))) ?_
 refine nM (aY (us:=(cR (A+((((n:Int):Rat))*(xa*ya)))++cR (B+((((n:Int):Rat))*(xb*ya)))++cR (C+((((n:Int):Rat))*(xa*yb)))++cR (D+((((n:Int):Rat))*(xb*yb)))++cR M++cR N)) aX rfl rfl rfl rfl (dO rfl) rfl rfl) ?_
 exact ah (aQ Dt rfl aa)
theorem Un (hk:GK k) (hp:GP p) (hq:GP q) (hm:Rz 10 m):Ok Tryz.prog 154 [.a (bo k),.a (ai p),.a (ai q),dR m] [.c (.i .i64 (CB k p q)),.c (.i .i64 (Is k p q m))]:=by
 obtain⟨s1,s2,s3,s4⟩:=Kk hk hp hq
 obtain⟨c1,c2,c3,c4⟩:=TY hk hp hq
 obtain⟨d1,d2,d3,d4⟩:=Ze hk hp hq hm
 have z0:Rz 400000 (0:Rat):=eK (by decide)
 have t0:Rz 400000 (p.a1-k.x):=s1.m_
 have t1:Rz 400000 (p.a2-k.y):=s2.m_
 have t2:Rz 400000 (q.a1-k.x):=s3.m_
 have t3:Rz 400000 (q.a2-k.y):=s4.m_
 have t4:Rz 400000 (p.b1):=hp.b1.m_
 have t5:Rz 400000 (p.b2):=hp.b2.m_
 have t6:Rz 400000 (q.b1):=hq.b1.m_
 have t7:Rz 400000 (q.b2):=hq.b2.m_
 have u0:Rz 400000 ((p.a1-k.x)*(q.a1-k.x)):=(s1.mul s3).m_
 have u1:Rz 400000 (p.b1*(q.a1-k.x)):=(hp.b1.mul s3).m_
 have u2:Rz 400000 ((p.a1-k.x)*q.b1):=(s1.mul hq.b1).m_
 have u3:Rz 400000 (p.b1*q.b1):=(hp.b1.mul hq.b1).m_
 have u4:Rz 400000 ((p.a1-k.x)*(q.a2-k.y)):=(s1.mul s4).m_
 have u5:Rz 400000 (p.b1*(q.a2-k.y)):=(hp.b1.mul s4).m_
 have u6:Rz 400000 ((p.a1-k.x)*q.b2):=(s1.mul hq.b2).m_
 have u7:Rz 400000 (p.b1*q.b2):=(hp.b1.mul hq.b2).m_
 have e1:Rz 6000000 (p.a1-k.x):=s1.m_
 have dA0:Rz 6000000 ((p.a1-k.x)*(q.a1-k.x)+(p.a2-k.y)*(q.a2-k.y)):=((s1.mul s3).add (s2.mul s4)).m_
 have hm6:Rz 6000000 m:=hm.m_
 refine ex Tryz.func154 86 [.tmp 8,.tmp 9] rfl<|ae<|ag<|ae<|fb 20 [10,11,999999] ?_
 refine aC rfl (uS (aE (hp.a1)) (aE (hk.x))) ?_
 refine aq (az (us:=(cR (p.a1-k.x)++cR p.b1)) Kq F8 rfl rfl rfl) ?_
 refine aC rfl (uS (aE (hp.a2)) (aE (hk.y))) ?_
 refine aq (az (us:=(cR (p.a2-k.y)++cR p.b2)) Kq F8 rfl rfl rfl) ?_
 refine DQ.mk<|fp (dL Ke rfl) rfl rfl rfl rfl<|dc ?_
 refine DQ.mk<|fp (dL Ke rfl) rfl rfl rfl rfl<|dc ?_
 refine ae<|fb 20 [12,13,999999] ?_
 refine aC rfl (uS (aE (hq.a1)) (aE (hk.x))) ?_
 refine aq (az (us:=(cR (q.a1-k.x)++cR q.b1)) Kq F8 rfl rfl rfl) ?_
 refine aC rfl (uS (aE (hq.a2)) (aE (hk.y))) ?_
 refine aq (az (us:=(cR (q.a2-k.y)++cR q.b2)) Kq F8 rfl rfl rfl) ?_
 refine DQ.mk<|fp (dL Ke rfl) rfl rfl rfl rfl<|dc ?_
 refine DQ.mk<|fp (dL Ke rfl) rfl rfl rfl rfl<|dc ?_
 refine ae<|ag<|ae<|ag<|ac rfl (lh (fX (by decide) (by decide)) (show((0:Int):Rat)=0 from rfl))<|ae<|bz<|bQ 5<|aW (ed (cR p.c) aX rfl)<|bQ 1<|aW (ed (cR q.c) aX rfl)<|aW (az (us:=(cR 0++cR 0++cR 0++cR 0++cR p.c++cR q.c)) Df Ao rfl rfl rfl) ?_
 refine uX (jR Ao rfl) rfl<|fL<|ae<|fb 10 [] ?_
 refine aC rfl (EK (JN (by first|assumption|(exact bY (by assumption) (by decide))) (by first|assumption|(exact bY (by assumption) (by decide))) (by first|assumption|(exact bY (by assumption) (by decide))) (by first|assumption|(exact bY (by assumption) (by decide))) (by first|assumption|(exact bY (by assumption) (by decide))) (by first|assumption|(exact bY (by assumption) (by decide))) (by first|assumption|(exact bY (by assumption) (by decide))) (by first|assumption|(exact bY (by assumption) (by decide))) (by decide) (by decide)) (vh _) (vh _) (vh _) (vh _)) ?_
 refine aC rfl (EK (JN (by first|assumption|(exact bY (by assumption) (by decide))) (by first|assumption|(exact bY (by assumption) (by decide))) (by first|assumption|(exact bY (by assumption) (by decide))) (by first|assumption|(exact bY (by assumption) (by decide))) (by first|assumption|(exact bY (by assumption) (by decide))) (by first|assumption|(exact bY (by assumption) (by decide))) (by first|assumption|(exact bY (by assumption) (by decide))) (by first|assumption|(exact bY (by assumption) (by decide))) (by decide) (by decide)) (Er _ _) (Er _ _) (Er _ _) (Er _ _)) ?_
 refine ae<|ag ?_
 refine ac rfl (uS (aE (ig (aF (cT (hp.a1) (hk.x)) (cT (hq.a1) (hk.x))) (aF (cT (hp.a2) (hk.y)) (cT (hq.a2) (hk.y))))) (HJ)) ?_
 refine nM (aY (us:=(cR ((((p.a1-k.x)*(q.a1-k.x))+((p.a2-k.y)*(q.a2-k.y)))-m)++cR ((p.b1*(q.a1-k.x))+(p.b2*(q.a2-k.y)))++cR (((p.a1-k.x)*q.b1)+((p.a2-k.y)*q.b2))++cR ((p.b1*q.b1)+(p.b2*q.b2))++cR p.c++cR q.c)) aX rfl rfl rfl rfl (dO rfl) rfl rfl) ?_
 refine ae<|fb 14 [] ?_
 refine aC rfl (EK (JN (by first|assumption|(exact bY (by assumption) (by decide))) (by first|assumption|(exact bY (by assumption) (by decide))) (by first|assumption|(exact bY (by assumption) (by decide))) (by first|assumption|(exact bY (by assumption) (by decide))) (by first|assumption|(exact bY (by assumption) (by decide))) (by first|assumption|(exact bY (by assumption) (by decide))) (by first|assumption|(exact bY (by assumption) (by decide))) (by first|assumption|(exact bY (by assumption) (by decide))) (by decide) (by decide)) (vh _) (vh _) (vh _) (vh _)) ?_
 refine aC rfl (EK (JN (by first|assumption|(exact bY (by assumption) (by decide))) (by first|assumption|(exact bY (by assumption) (by decide))) (by first|assumption|(exact bY (by assumption) (by decide))) (by first|assumption|(exact bY (by assumption) (by decide))) (by first|assumption|(exact bY (by assumption) (by decide))) (by first|assumption|(exact bY (by assumption) (by decide))) (by first|assumption|(exact bY (by assumption) (by decide))) (by first|assumption|(exact bY (by assumption) (by decide))) (by decide) (by decide)) (Ey _ _) (Ey _ _) (Ey _ _) (Ey _ _)) ?_
 refine aC rfl (bX (vM (c1.m_) (c2.m_) (c3.m_) (c4.m_) (hp.c.m_) (hq.c.m_)) (B4 _ _ _ _ _ _)) ?_
 refine aC rfl (bX (vM (d1.m_) (d2.m_) (d3.m_) (d4.m_) (hp.c.m_) (hq.c.m_)) (B4 _ _ _ _ _ _))<|a9 ?_
 exact ah (ak (ak aa))
theorem E4 (hk:GK k) (hp:GP p):Ok Tryz.prog 175 [.a (ai p),.a ((cR k.x++cR k.y))] [.a ((cR (p.a1-k.x)++cR p.b1++cR p.c)),.a ((cR (p.a2-k.y)++cR p.b2++cR p.c))]:=by
 refine bW Tryz.func175 rfl<|cz 22 [4,5,999999] ?_
 refine aC rfl (Je (aE (hp.a1)) (aE (hk.x))) ?_
 refine aq (az (us:=(cR (p.a1-k.x)++cR p.b1++cR p.c)) kT js rfl rfl rfl) ?_
 refine aC rfl (Je (aE (hp.a2)) (aE (hk.y))) ?_
 refine aq (az (us:=(cR (p.a2-k.y)++cR p.b2++cR p.c)) kT js rfl rfl rfl) ?_
 refine DQ.mk<|iM (dL cG rfl) rfl rfl rfl rfl<|dc ?_
 refine DQ.mk<|iM (dL cG rfl) rfl rfl rfl rfl<|dc ?_
 exact ah (aQ cG rfl (aQ cG rfl aa))
theorem yu {a b d f:Rat}(ha:Rz 400000 a) (hb:Rz 400000 b) (hd:Rz 400000 d) (he:Rz 400000 e):Ok Tryz.prog 177 [.a ((cR a++cR b++cR c)),.a ((cR d++cR e++cR f))] [.a ((cR (a*d)++cR (b*d)++cR (a*e)++cR (b*e)++cR c++cR f))]:=by
 refine ex Tryz.func177 30 [.cell 4 186] rfl<|ae<|ag<|ae<|nu 25 rfl rfl<|cE 1<|bh (ed (cR a) aX rfl)<|cE 1<|bh (ed (cR d) aX rfl)<|bh (cb rfl (zT (aE ha) (aE hd)))<|cE 1<|bh (ed (cR b) aX rfl)<|cE 1<|bh (ed (cR d) aX rfl) ?_
 refine bh (cb rfl (zT (aE hb) (aE hd)))<|cE 1<|bh (ed (cR a) aX rfl)<|cE 1<|bh (ed (cR e) aX rfl)<|bh (cb rfl (zT (aE ha) (aE he)))<|cE 1<|bh (ed (cR b) aX rfl)<|cE 1<|bh (ed (cR e) aX rfl)<|bh (cb rfl (zT (aE hb) (aE he)))<|cE 1<|bh (ed (cR c) aX rfl)<|cE 1 ?_
 refine bh (ed (cR f) aX rfl)<|bh (az (us:=(cR (a*d)++cR (b*d)++cR (a*e)++cR (b*e)++cR c++cR f)) Df Ao rfl rfl rfl) ?_
 refine mT<|dN<|fL<|a9 ?_
 exact ah (aQ Dt rfl aa)
theorem EX {E F G H O S:Rat}(hA:Rz 2000000 A) (hB:Rz 2000000 B) (hC:Rz 2000000 C) (hD:Rz 2000000 D) (hE:Rz 2000000 E) (hF:Rz 2000000 F) (hG:Rz 2000000 G) (hH:Rz 2000000 H):Ok Tryz.prog 176 [.a ((cR A++cR B++cR C++cR D++cR M++cR N)),.a ((cR E++cR F++cR G++cR H++cR O++cR S))] [.a ((cR (A+E)++cR (B+F)++cR (C+G)++cR (D+H)++cR M++cR N))]:=by
 refine ex Tryz.func176 30 [.cell 4 186] rfl<|ae<|ag<|ae<|nu 25 rfl rfl<|cE 1<|bh (ed (cR A) aX rfl)<|cE 1<|bh (ed (cR E) aX rfl)<|bh (cb rfl (pc (aE hA) (aE hE)))<|cE 1<|bh (ed (cR B) aX rfl)<|cE 1<|bh (ed (cR F) aX rfl) ?_
 refine bh (cb rfl (pc (aE hB) (aE hF)))<|cE 1<|bh (ed (cR C) aX rfl)<|cE 1<|bh (ed (cR G) aX rfl)<|bh (cb rfl (pc (aE hC) (aE hG)))<|cE 1<|bh (ed (cR D) aX rfl)<|cE 1<|bh (ed (cR H) aX rfl)<|bh (cb rfl (pc (aE hD) (aE hH)))<|cE 1<|bh (ed (cR M) aX rfl)<|cE 1 ?_
 refine bh (ed (cR N) aX rfl)<|bh (az (us:=(cR (A+E)++cR (B+F)++cR (C+G)++cR (D+H)++cR M++cR N)) Df Ao rfl rfl rfl) ?_
 refine mT<|dN<|fL<|a9 ?_
 exact ah (aQ Dt rfl aa)
theorem Ns (hA:Rz 2000000 A) (hB:Rz 2000000 B) (hC:Rz 2000000 C) (hD:Rz 2000000 D):Ok Tryz.prog 178 [.a ((cR A++cR B++cR C++cR D++cR M++cR N))] [.a ((cR (-A)++cR (-B)++cR (-C)++cR (-D)++cR M++cR N))]:=by
 refine ex Tryz.func178 20 [.cell 2 186] rfl<|ae<|ag<|ae<|nu 17 rfl rfl<|cE 1<|bh (ed (cR A) aX rfl)<|bh (cb rfl (gU (aE hA)))<|cE 1<|bh (ed (cR B) aX rfl)<|bh (cb rfl (gU (aE hB)))<|cE 1<|bh (ed (cR C) aX rfl)<|bh (cb rfl (gU (aE hC))) ?_
 refine cE 1<|bh (ed (cR D) aX rfl)<|bh (cb rfl (gU (aE hD)))<|cE 1<|bh (ed (cR M) aX rfl)<|cE 1<|bh (ed (cR N) aX rfl)<|bh (az (us:=(cR (-A)++cR (-B)++cR (-C)++cR (-D)++cR M++cR N)) Df Ao rfl rfl rfl) ?_
 refine mT<|dN<|fL<|a9 ?_
 exact ah (aQ Dt rfl aa)
theorem se (hk:GK k) (hp:GP p) (hq:GP q):Ok Tryz.prog 187 [.a ((cR k.x++cR k.y)),.a (ai p),.a (ai q)] [.c (.i .i64 (CB k p q))]:=by
 obtain⟨s1,s2,s3,s4⟩:=Kk hk hp hq
 obtain⟨c1,c2,c3,c4⟩:=TY hk hp hq
 have t0:Rz 400000 (p.a1-k.x):=s1.m_
 have t1:Rz 400000 (p.a2-k.y):=s2.m_
 have t2:Rz 400000 (q.a1-k.x):=s3.m_
 have t3:Rz 400000 (q.a2-k.y):=s4.m_
 have t4:Rz 400000 (p.b1):=hp.b1.m_
 have t5:Rz 400000 (p.b2):=hp.b2.m_
 have t6:Rz 400000 (q.b1):=hq.b1.m_
 have t7:Rz 400000 (q.b2):=hq.b2.m_
 have u0:Rz 2000000 ((p.a1-k.x)*(q.a2-k.y)):=(s1.mul s4).m_
 have u1:Rz 2000000 (p.b1*(q.a2-k.y)):=(hp.b1.mul s4).m_
 have u2:Rz 2000000 ((p.a1-k.x)*q.b2):=(s1.mul hq.b2).m_
 have u3:Rz 2000000 (p.b1*q.b2):=(hp.b1.mul hq.b2).m_
 have u4:Rz 2000000 ((p.a2-k.y)*(q.a1-k.x)):=(s2.mul s3).m_
 have u5:Rz 2000000 (p.b2*(q.a1-k.x)):=(hp.b2.mul s3).m_
 have u6:Rz 2000000 ((p.a2-k.y)*q.b1):=(s2.mul hq.b1).m_
 have u7:Rz 2000000 (p.b2*q.b1):=(hp.b2.mul hq.b1).m_
 have w0:Rz 2000000 (-((p.a2-k.y)*(q.a1-k.x))):=lj u4
 have w1:Rz 2000000 (-(p.b2*(q.a1-k.x))):=lj u5
 have w2:Rz 2000000 (-((p.a2-k.y)*q.b1)):=lj u6
 have w3:Rz 2000000 (-(p.b2*q.b1)):=lj u7
 refine bW Tryz.func187 rfl ?_
 refine ac rfl (E4 hk hp) ?_
 refine ac rfl (E4 hk hq)<|cz 10 [] ?_
 refine aC rfl (yu (by first|assumption|(exact bY (by assumption) (by decide))) (by first|assumption|(exact bY (by assumption) (by decide))) (by first|assumption|(exact bY (by assumption) (by decide))) (by first|assumption|(exact bY (by assumption) (by decide)))) ?_
 refine aC rfl (yu (by first|assumption|(exact bY (by assumption) (by decide))) (by first|assumption|(exact bY (by assumption) (by decide))) (by first|assumption|(exact bY (by assumption) (by decide))) (by first|assumption|(exact bY (by assumption) (by decide)))) ?_
 refine aC rfl (Ns (by assumption) (by assumption) (by assumption) (by assumption))<|aC rfl (EX (by assumption) (by assumption) (by assumption) (by assumption) (by assumption) (by assumption) (by assumption) (by assumption))<|aC rfl (zM (c1.m_) (c2.m_) (c3.m_) (c4.m_) (hp.c.m_) (hq.c.m_)) ?_
 exact ah (ak aa)
theorem Uw:Ok Tryz.prog 89 [.a (bo k)] [.a ((cR k.x++cR k.y))]:=by
 refine bW Tryz.func89 rfl<|ar (az (us:=(cR k.x++cR k.y)) IW G1 rfl rfl rfl) ?_
 exact ah (aQ LI rfl aa)
theorem ZS {l:Ln}(_hl:GL l) (_hx:Rz 3 x):Ok Tryz.prog 64 [.a (([.b false]++jq l++tK++[.b false]++ai p++ai q)),dR x] [.c (.i .i64 0),.c (.i .i64 1)]:=by
 refine bW Tryz.func64 rfl ?_
 refine ar (gn mv rfl) ?_
 refine ar (bq rfl) ?_
 refine rx rfl ?_
 exact ah (ak (ak aa))
theorem IT (hk:GK k) (hp:GP p) (hq:GP q) (hx:Rz 3 x):Ok Tryz.prog 64 [.a (([.b true]++mw++bo k++[.b true]++ai p++ai q)),dR x] [.c (.i .i64 (FD true k p q x)),.c (.i .i64 (OK true k p q x))]:=by
 have hm:Rz 10 (x*k.q):=(hx.mul hk.q).m_
 have x6:Rz 6000000 x:=hx.m_
 have q6:Rz 6000000 k.q:=hk.q.m_
 have v1:=yF hp.v
 have v2:=yF hq.v
 have r1:CB k q p=Em true k p q:=QF v1 v2
 have r2:Is k q p (x*k.q)=Is k p q (x*k.q):=U9 v1 v2
 refine bW Tryz.func64 rfl ?_
 refine ar (gn mv rfl) ?_
 refine ar (bq rfl) ?_
 refine ac rfl (AX (hx.m_)) ?_
 refine df rfl (fun hc1=>?_) (fun hc1=>?_)
 ·have n1:mQ x=false:=by simpa using hc1
  refine ah ?_
  rw[(D4 n1:FD true k p q x=0∧_).1,(D4 n1:FD true k p q x=0∧_).2]
  exact ak (ak aa)
 ·have n1:mQ x=true:=by simpa using hc1
  refine cz 8 [6,7,999999] ?_
  refine aq (co (ai p) bE rfl (by kernel_rfl)) ?_
  refine aq (co (ai q) bE rfl (by kernel_rfl)) ?_
  refine DQ.mk<|fp (dL bE rfl) rfl rfl rfl rfl<|dc ?_
  refine DQ.mk<|fp (dL bE rfl) rfl rfl rfl rfl<|dc ?_
  refine ar (gn mv rfl)<|rx rfl ?_
  refine cz 15 [] ?_
  refine aq (co (bo k) sI rfl (by kernel_rfl)) ?_
  refine aq (co (cR k.q) aX rfl (by kernel_rfl)) ?_
  refine aC rfl (nj (aE hx) (aE (hk.q))) ?_
  refine aC rfl (Un hk hq hp hm) ?_
  refine df rfl (fun hc2=>?_) (fun hc2=>?_)
  ·have n2:decide (Em true k p q≥0)=false:=by have n3:=of_decide_eq_true hc2;exact decide_eq_false (by rw[←r1];show ¬(_:Int)≥0;omega)
   refine ah ?_
   rw[(Fe n2:FD true k p q x=0∧_).1,(Fe n2:FD true k p q x=0∧_).2]
   exact ak (ak aa)
  ·have n2:decide (Em true k p q≥0)=true:=by have n3:=of_decide_eq_false hc2;exact decide_eq_true (by rw[←r1];omega)
   refine ar (fi (r:= -Is k q p (x*k.q)) rfl (Ad (QE _ _ _ _)) rfl) ?_
   refine ah ?_
   rw[(D7 n1 n2).1,(D7 n1 n2).2,←r2]
   exact ak (ak aa)
theorem GT (hk:GK k) (hp:GP p) (hq:GP q) (hx:Rz 3 x):Ok Tryz.prog 64 [.a (([.b true]++mw++bo k++[.b false]++ai p++ai q)),dR x] [.c (.i .i64 (FD false k p q x)),.c (.i .i64 (OK false k p q x))]:=by
 have hm:Rz 10 (x*k.q):=(hx.mul hk.q).m_
 have x6:Rz 6000000 x:=hx.m_
 have q6:Rz 6000000 k.q:=hk.q.m_
 refine bW Tryz.func64 rfl ?_
 refine ar (gn mv rfl) ?_
 refine ar (bq rfl) ?_
 refine ac rfl (AX (hx.m_)) ?_
 refine df rfl (fun hc1=>?_) (fun hc1=>?_)
 ·have n1:mQ x=false:=by simpa using hc1
  refine ah ?_
  rw[(D4 n1:FD false k p q x=0∧_).1,(D4 n1:FD false k p q x=0∧_).2]
  exact ak (ak aa)
 ·have n1:mQ x=true:=by simpa using hc1
  refine cz 8 [6,7,999999] ?_
  refine aq (co (ai p) bE rfl (by kernel_rfl)) ?_
  refine aq (co (ai q) bE rfl (by kernel_rfl)) ?_
  refine DQ.mk<|fp (dL bE rfl) rfl rfl rfl rfl<|dc ?_
  refine DQ.mk<|fp (dL bE rfl) rfl rfl rfl rfl<|dc ?_
  refine ar (gn mv rfl)<|qg rfl<|cz 15 [] ?_
  refine aq (co (bo k) sI rfl (by kernel_rfl)) ?_
  refine aq (co (cR k.q) aX rfl (by kernel_rfl)) ?_
  refine aC rfl (nj (aE hx) (aE (hk.q))) ?_
  refine aC rfl (Un hk hp hq hm) ?_
  refine df rfl (fun hc2=>?_) (fun hc2=>?_)
  ·have n2:decide (Em false k p q≥0)=false:=by have n3:=of_decide_eq_true hc2;exact decide_eq_false (by show ¬CB k p q≥0;show ¬(_:Int)≥0;omega)
   refine ah ?_
   rw[(Fe n2:FD false k p q x=0∧_).1,(Fe n2:FD false k p q x=0∧_).2]
   exact ak (ak aa)
  ·have n2:decide (Em false k p q≥0)=true:=by have n3:=of_decide_eq_false hc2;exact decide_eq_true (by show CB k p q≥0;omega)
   refine ar (fi (r:= -Is k p q (x*k.q)) rfl (Ad (QE _ _ _ _)) rfl) ?_
   refine ah ?_
   rw[(D7 n1 n2).1,(D7 n1 n2).2]
   exact ak (ak aa)
theorem Zj {v:Cv}(hv:v.good) (hx:Rz 3 x):Ok Tryz.prog 64 [.a (aG v),dR x] [.c (.i .i64 (SQ v x)),.c (.i .i64 (RE v x))]:=by
 cases v with
 |seg l p q=>exact ZS hv.1 hx
 |arc k w p q=>
  cases w with
  |true=>exact IT hv.1 hv.2.1 hv.2.2 hx
  |false=>exact GT hv.1 hv.2.1 hv.2.2 hx
end Go.Proofs.YtegpmhlfjkhjmaaGreat
namespace Go.Proofs.YtegpmhlfjkhjmaaGreat
def uK (k:Fin 4):Bool:=k==0||k==1
def uF (k:Fin 4):Bool:=k==2||k==1
def BG (u v:Bool) (n:Int):Int:=if u !=v then(if v then-1 else 1) else if u then-n else n
def As (u v:Bool) (n:Int):Int:=if u !=v then(if u then-1 else 1) else if u then-n else n
def EV (a1 a2 a3:Int):Int:=if decide (a1<0) !=decide (a2<0) then(if decide (a2<0) then-1 else 1) else a3
def LP (b:Int):Int:=if b=0 then 0 else if b>0 then 1 else 2
def XO (n:Int):Int:=min 1 (max (-1) n)
def uz (b1 b2 b3:Int):Int:=if LP b1≠LP b2 then XO (LP b1-LP b2) else XO b3
def i3 (i:Fin 3):Int:=(i.val:Int)-1
def FL (n1 n2 n3:Int):Bool:=(n2 !=0||n3==n1)&&(n1 !=0||n3== -n2)&&(n1 != -n2||n3==n1)
def tT (k l:Fin 4) (n:Int):Bool:=
 if k=0 then n==(if l=0 then 0 else 1) else if k=2 then n==(if l=2 then 0 else-1)
 else if l=0 then n== -1 else if l=2 then n==1 else true
set_option maxRecDepth 100000 in
theorem OP: ∀(uf up uq:Bool) (i j l:Fin 3),FL (i3 i) (i3 j) (i3 l)=true→
 EV (BG up uf (i3 i)) (BG uq uf (i3 j)) (BG up uq (i3 l))=uz (As up uf (i3 i)) (As uq uf (i3 j)) (As up uq (i3 l)):=by decide+kernel
def cwR (kf kp kt:Fin 4) (n1 n2 n3:Int):Bool:=
 decide (EV (BG (uF kf) (uF kf) 0) (BG (uF kp) (uF kf) (-n1)) (BG (uF kf) (uF kp) n1)≤0)&&
 decide (EV (BG (uF kp) (uF kf) (-n1)) (BG (uF kt) (uF kf) (-n2)) (BG (uF kp) (uF kt) (-n3))≤0)
def Zi (kf kp kt:Fin 4) (n1 n2 n3:Int):Bool:=
 decide (uz (As (uK kp) (uK kt) n3) (As (uK kf) (uK kt) (-n2)) (As (uK kp) (uK kf) n1)≤0)
set_option maxRecDepth 100000 in
theorem Sg: ∀(kf kp kt:Fin 4) (i j l:Fin 3),FL (i3 i) (i3 j) (i3 l)=true→tT kp kf (i3 i)=true→tT kt kf (i3 j)=true→tT kp kt (i3 l)=true→
 cwR kf kp kt (i3 i) (i3 j) (i3 l)=Zi kf kp kt (i3 i) (i3 j) (i3 l):=by decide+kernel
def aaT (uf up ut:Bool) (n1 n2 n3:Int):Bool:=
 decide (EV (BG uf uf 0) (BG up uf n1) (BG uf up (-n1))≤0)&&decide (EV (BG up uf n1) (BG ut uf n2) (BG up ut n3)≤0)
def aa2 (uf up ut:Bool) (n1 n2 n3:Int):Bool:=decide (uz (As up uf n1) (As ut uf n2) (As up ut n3)≤0)
set_option maxRecDepth 100000 in
theorem NT: ∀(uf up ut:Bool) (i j l:Fin 3),FL (i3 i) (i3 j) (i3 l)=true→aaT uf up ut (i3 i) (i3 j) (i3 l)=aa2 uf up ut (i3 i) (i3 j) (i3 l):=by decide+kernel
end Go.Proofs.YtegpmhlfjkhjmaaGreat
namespace Go.Proofs.YtegpmhlfjkhjmaaGreat
open Go Go.RowKit
variable {k:Ci}{f l p q t:Pt}
def pX (p:Pt):Re:=wt p.a1 p.b1 p.c
def pY (p:Pt):Re:=wt p.a2 p.b2 p.c
theorem b9 (h:GP p):0≤p.c:=yF h.v
theorem n8 (hp:0≤p.c) (hq:0≤q.c):cx p q=aO (pX p-pX q):=q7 hp hq
theorem rb (hp:0≤p.c) (hq:0≤q.c):cy p q=aO (pY p-pY q):=q7 hp hq
theorem nC (hp:0≤p.c) (v:Rat):jm p v=aO (pX p-Re.of v):=by
 unfold jm
 rw[iD (jW hp)]
 exact congrArg aO (ba fun n=>by unfold pX wt am;simp only[aI,ao,aD,aV];grind)
theorem yA (hp:0≤p.c) (v:Rat):qf p v=aO (pY p-Re.of v):=by
 unfold qf
 rw[iD (jW hp)]
 exact congrArg aO (ba fun n=>by unfold pY wt am;simp only[aI,ao,aD,aV];grind)
theorem de (hp:0≤p.c) (hq:0≤q.c):cx q p= -cx p q:=by rw[n8 hp hq,n8 hq hp,uE]
theorem yh (hp:0≤p.c):cx p p=0:=by rw[n8 hp hp,pe]
theorem S7 {A B c:Rat}(hc:0≤c) (b1 b2 x y:Rat) (hA:A=zf x y b1 b2 c) (hB:B=Cc x y b1 b2):
 aO (am A B (zc B c)-(wt x b1 c*wt x b1 c+wt y b2 c*wt y b2 c))=0:=by
 subst hA hB
 rw[show am (zf x y b1 b2 c) (Cc x y b1 b2) (zc (Cc x y b1 b2) c)=wt (zf x y b1 b2 c) (Cc x y b1 b2) c from rfl,pk,pk,pk]
 have h:=my hc
 have e:Re.of (zf x y b1 b2 c)+Re.of (Cc x y b1 b2)*Re.rt c-((Re.of x+Re.of b1*Re.rt c)*(Re.of x+Re.of b1*Re.rt c)+(Re.of y+Re.of b2*Re.rt c)*(Re.of y+Re.of b2*Re.rt c))=Re.of (-(b1*b1+b2*b2))*(Re.rt c*Re.rt c-Re.of c):=ba fun n=>by
  unfold zf Cc
  simp only[aI,ao,aD,aV];grind
 rw[e,bj,h,og]
def wz (k:Ci) (p:Pt):Re:=(pX p-Re.of k.x)*(pX p-Re.of k.x)+(pY p-Re.of k.y)*(pY p-Re.of k.y)-Re.of k.q
theorem DU (a b c v:Rat):wt (a-v) b c=wt a b c-Re.of v:=ba fun n=>by unfold wt am;simp only[aI,ao,aD,aV];grind
theorem Ug (hp:0≤p.c):aO (am (Ac k p) (qC k p) (zc (qC k p) p.c))=aO (wz k p):=by
 refine dC ?_
 have h:=S7 (A:=zf (p.a1-k.x) (p.a2-k.y) p.b1 p.b2 p.c) (B:=qC k p) hp p.b1 p.b2 (p.a1-k.x) (p.a2-k.y) rfl rfl
 rw[←h]
 refine congrArg aO (ba fun n=>?_)
 unfold wz pX pY
 rw[DU,DU]
 unfold Ac am
 simp only[aI,ao,aD,aV];grind
theorem EL (hv:tZ p.b1 p.b2 p.c=true):jQ k p= -aO (wz k p):=by
 unfold jQ
 rw[←Ug (yF hv),OA (jW (yF hv))]
 intro hb
 have h:=PB hv (x:=p.a1-k.x) (y:=p.a2-k.y) hb
 rw[show zc (qC k p) p.c=p.c from by unfold zc;rw[if_neg hb]]
 grind
theorem y8 (hp:GP p):jQ k p= -aO (wz k p):=EL hp.v
theorem SI (k:Ci) (p:Pt): -1≤jQ k p∧jQ k p≤1:=by have:=T5 (Ac k p) (qC k p) (zc (qC k p) p.c);unfold jQ;omega
def OnK (k:Ci) (p:Pt):Prop:=GP p∧jQ k p=0
theorem bH {w:Bool}:(Cv.arc k w f t).supp p=true↔jQ k p=0:=by
 show(jQ k p==0)=true↔_
 simp
def kd (k:Ci) (p:Pt):Fin 4:=if qf p k.y>0 then 1 else if qf p k.y=0 then(if jm p k.x>0 then 0 else 2) else 3
theorem fv (k:Ci) (p:Pt):j6 k p=uK (kd k p):=by
 unfold j6 kd uK
 by_cases h:qf p k.y>0
 ·grind
 grind
section
variable {k:Ci}{p:Pt}(hq:0<k.q) (hp:OnK k p)
include hp
theorem a7:0≤p.c:=b9 hp.1
theorem wZ:aO (wz k p)=0:=by have h1:=y8 (k:=k) hp.1;rw[hp.2] at h1;omega
include hq
theorem Pp (h:qf p k.y=0):jm p k.x≠0:=by
 intro h2
 rw[yA (a7 hp)] at h
 rw[nC (a7 hp)] at h2
 have e:Re.of k.q=((pX p-Re.of k.x)*(pX p-Re.of k.x)+(pY p-Re.of k.y)*(pY p-Re.of k.y))+ -wz k p:=ba fun n=>by unfold wz;simp only[aI,ao,aD,aV,bg];grind
 have h3:aO (Re.of k.q)=0:=by
  rw[e,dE _ (by rw[b8,wZ hp];rfl),dE _ (by rw[bj,h,lX]),bj,h2,lX]
 rw[ca] at h3
 have:=Bx.1 h3
 grind
end
theorem AO (p:Pt):pX p.flip= -pX p:=ba fun n=>by
 show(wt (-p.a1) (-p.b1) p.c).s n=_
 unfold pX wt am
 have:zc (-p.b1) p.c=zc p.b1 p.c:=by
  by_cases h:p.b1=0
  ·grind
  ·rw[nF h,nF (by grind)]
 simp only[aI,aD,aV,bg];grind
theorem Rq (p:Pt):pY p.flip=pY p:=rfl
theorem B5 (hp:0≤p.c):jm p.flip k.mir.x= -jm p k.x:=by
 rw[nC (show 0≤p.flip.c from hp),nC hp,AO,←b8]
 exact congrArg aO (ba fun n=>by show _+ -(-k.x)=_;simp only[ao,aV,bg];grind)
theorem Cq (k:Ci) (p:Pt):qf p.flip k.mir.y=qf p k.y:=rfl
theorem lT (hp:0≤p.c) (hq:0≤q.c):cx p.flip q.flip= -cx p q:=by
 rw[n8 (show 0≤p.flip.c from hp) (show 0≤q.flip.c from hq),n8 hp hq,AO,AO,←b8]
 exact congrArg aO (ba fun n=>by simp only[ao,bg];grind)
theorem rG (hq:0<k.q) (hp:OnK k p):j6 k.mir p.flip=uF (kd k p):=by
 have h1:=B5 (k:=k) (a7 hp)
 have h2:=Pp hq hp
 unfold j6 kd uF
 rw[h1,Cq]
 by_cases h:qf p k.y>0
 ·grind
 grind
theorem eP (k:Ci) (p q:Pt):fh k p q=BG (j6 k p) (j6 k q) (cx p q):=rfl
def ns (k:Ci) (p q:Pt):Int:=As (j6 k p) (j6 k q) (cx p q)
def rS (k:Ci) (f p:Pt):Int:=LP (ns k p f)
def xn (k:Ci) (f p q:Pt):Int:=uz (ns k p f) (ns k q f) (ns k p q)
theorem rL (k:Ci) (f p q:Pt):ru k f p q=EV (fh k p f) (fh k q f) (fh k p q):=rfl
theorem fC {n:Int}(h: -1≤n∧n≤1): ∃i:Fin 3,n=i3 i:=by
 rcases(by omega:n= -1∨n=0∨n=1) with h|h|h
 ·exact⟨0,h⟩
 ·exact⟨1,h⟩
 ·exact⟨2,h⟩
theorem jA (hf:0≤f.c) (hp:0≤p.c) (ht:0≤t.c):FL (cx p f) (cx t f) (cx p t)=true:=by
 rw[n8 hp hf,n8 ht hf,n8 hp ht]
 have e2:pX p-pX t=(pX p-pX f)+ -(pX t-pX f):=ba fun n=>by simp only[aI,ao,bg];grind
 unfold FL
 simp only[dF,sj,bne_iff_ne,beq_iff_eq]
 refine⟨⟨?_,?_⟩,?_⟩
 ·by_cases h:aO (pX t-pX f)=0
  ·right;rw[e2];exact dE _ (by rw[b8,h];rfl)
  grind
 ·by_cases h:aO (pX p-pX f)=0
  ·right;rw[e2,mm h,b8]
  grind
 ·by_cases h:aO (pX p-pX f)= -aO (pX t-pX f)
  ·right;rw[e2,jf (by rw[b8];exact h)]
  grind
theorem Vz (X:Re):aO (X+X)=aO X:=jf rfl
theorem Br (hp:OnK k p) (hl:OnK k l) (h0:qf p k.y=0) (h1:jm p k.x>0):
 (qf l k.y=0∧jm l k.x>0∧cx p l=0)∨(¬(qf l k.y=0∧jm l k.x>0)∧cx p l=1):=by
 have cp:=a7 hp
 have cl:=a7 hl
 rw[yA cp] at h0
 rw[nC cp] at h1
 rw[yA cl,nC cl,n8 cp cl]
 generalize hP:pX p-Re.of k.x=P at*
 generalize hL:pX l-Re.of k.x=L at*
 generalize hY:pY p-Re.of k.y=Y at*
 generalize hZ:pY l-Re.of k.y=Z at*
 have d:pX p-pX l=P-L:=by rw[←hP,←hL];exact ba fun n=>by simp only[ao];grind
 rw[d]
 have w1:wz k p=P*P+Y*Y-Re.of k.q:=by rw[←hP,←hY];rfl
 have w2:wz k l=L*L+Z*Z-Re.of k.q:=by rw[←hL,←hZ];rfl
 have e:(P-L)*(P+L)=(Z*Z+(P*P+Y*Y-Re.of k.q))+(-(L*L+Z*Z-Re.of k.q)+ -(Y*Y)):=ba fun n=>by simp only[aI,ao,aD,aV,bg];grind
 have z1:aO (-(L*L+Z*Z-Re.of k.q)+ -(Y*Y))=0:=by
  rw[dE _ (by rw[b8,bj,h0];rfl),b8,←w2,wZ hl];rfl
 have hprod:aO (P-L)*aO (P+L)=aO Z*aO Z:=by
  rw[←bj,e,dE _ z1,dE _ (by rw[←w1];exact wZ hp),bj]
 have s2:(P-L)+(P+L)=P+P:=ba fun n=>by simp only[aI,ao];grind
 have hP1:aO (P+P)=1:=by rw[Vz];have:=bp P;omega
 have hPL:L=P+ -(P-L):=ba fun n=>by simp only[aI,ao,bg];grind
 have hPL2:L= -P+(P+L):=ba fun n=>by simp only[aI,bg];grind
 rcases bp Z with c|c|c
 ·right
  refine⟨fun h=>by omega,?_⟩
  rcases bp (P-L) with a|a|a
  ·exact a
  ·grind
  ·exfalso
   have:aO (P+L)= -1:=by grind
   have:=jf (x:=P-L) (y:=P+L) (by omega)
   grind
 ·rw[c] at hprod
  rcases bp (P-L) with a|a|a
  ·right
   have h5:aO (P+L)=0:=by grind
   have:aO L= -aO P:=by rw[hPL2,dE _ h5,b8]
   omega
  ·left
   have:aO L=aO P:=by rw[hPL,dE _ (by rw[b8,a];rfl)]
   grind
  ·exfalso
   have h5:aO (P+L)=0:=by grind
   have:=dE (P-L) h5
   grind
 ·right
  refine⟨fun h=>by omega,?_⟩
  rcases bp (P-L) with a|a|a
  ·exact a
  ·grind
  ·exfalso
   have:aO (P+L)= -1:=by grind
   have:=jf (x:=P-L) (y:=P+L) (by omega)
   grind
theorem Oa (_hp:0≤p.c):aO (wz k.mir p.flip)=aO (wz k p):=by
 refine congrArg aO (ba fun n=>?_)
 unfold wz
 rw[AO,Rq]
 simp only[Ci.mir,aI,ao,aD,aV,bg];grind
theorem OnK.flip (hp:OnK k p):OnK k.mir p.flip:=by
 refine⟨hp.1.flip,?_⟩
 rw[y8 hp.1.flip,Oa (a7 hp),wZ hp];rfl
theorem Fc (hp:OnK k p) (hl:OnK k l) (h0:qf p k.y=0) (h1:jm p k.x<0):
 (qf l k.y=0∧jm l k.x<0∧cx p l=0)∨(¬(qf l k.y=0∧jm l k.x<0)∧cx p l= -1):=by
 have h:=Br hp.flip hl.flip (by rw[Cq];exact h0) (by rw[B5 (a7 hp)];omega)
 rw[Cq,B5 (a7 hl),lT (a7 hp) (a7 hl)] at h
 grind
theorem yN (hq:0<k.q) (hp:OnK k p):(kd k p=0∧qf p k.y=0∧jm p k.x>0)∨(kd k p=1∧qf p k.y>0)∨(kd k p=2∧qf p k.y=0∧jm p k.x<0)∨(kd k p=3∧qf p k.y<0):=by
 have h2:=Pp hq hp
 unfold kd
 grind
theorem gI (hq:0<k.q) (hp:OnK k p) (hl:OnK k l):tT (kd k p) (kd k l) (cx p l)=true:=by
 have R:=Br hp hl
 have L:=Fc hp hl
 have R':=Br hl hp
 have L':=Fc hl hp
 rw[de (a7 hp) (a7 hl)] at R' L'
 rcases yN hq hp with⟨e1,a1,a2⟩|⟨e1,a1⟩|⟨e1,a1,a2⟩|⟨e1,a1⟩<;>rcases yN hq hl with⟨e2,b1,b2⟩|⟨e2,b1⟩|⟨e2,b1,b2⟩|⟨e2,b1⟩<;>rw[e1,e2]<;>simp[tT]
 all_goals first
  |(have h:=R a1 a2;omega)
  |(have h:=L a1 a2;omega)
  |(have h:=R' b1 b2;omega)
  |(have h:=L' b1 b2;omega)
theorem zi (hf:GP f) (ht:GP t) (hp:GP p):(decide ((Cv.arc k false f t).ord f p≤0)&&decide ((Cv.arc k false f t).ord p t≤0))=decide (xn k f p t≤0):=by
 have cf:=b9 hf
 have ct:=b9 ht
 have cp:=b9 hp
 show(decide (ru k f f p≤0)&&decide (ru k f p t≤0))=_
 have ht:=jA cf cp ct
 obtain⟨i,hi⟩:=fC (eJ p f)
 obtain⟨j,hj⟩:=fC (eJ t f)
 obtain⟨l,hl⟩:=fC (eJ p t)
 have h:=NT (j6 k f) (j6 k p) (j6 k t) i j l (by rw[←hi,←hj,←hl];exact ht)
 rw[←hi,←hj,←hl] at h
 rw[rL,rL,eP,eP,eP,eP,eP,yh cf,de cp cf]
 exact h
theorem Dd (hq:0<k.q) (hf:OnK k f) (ht:OnK k t) (hp:OnK k p):(decide ((Cv.arc k true f t).ord f p≤0)&&decide ((Cv.arc k true f t).ord p t≤0))=decide (xn k t p f≤0):=by
 have cf:=a7 hf
 have ct:=a7 ht
 have cp:=a7 hp
 show(decide (ru k.mir f.flip f.flip p.flip≤0)&&decide (ru k.mir f.flip p.flip t.flip≤0))=_
 have h3:=jA cf cp ct
 have m1:=gI hq hp hf
 have m2:=gI hq ht hf
 have m3:=gI hq hp ht
 obtain⟨i,hi⟩:=fC (eJ p f)
 obtain⟨j,hj⟩:=fC (eJ t f)
 obtain⟨l,hl⟩:=fC (eJ p t)
 rw[hi] at m1
 rw[hj] at m2
 rw[hl] at m3
 have h:=Sg (kd k f) (kd k p) (kd k t) i j l (by rw[←hi,←hj,←hl];exact h3) m1 m2 m3
 rw[←hi,←hj,←hl] at h
 unfold cwR Zi at h
 rw[rL,rL,eP,eP,eP,eP,eP,lT cf cf,lT cp cf,lT cf cp,lT ct cf,lT cp ct,yh cf,de cp cf,Int.neg_zero,Int.neg_neg,rG hq hf,rG hq hp,rG hq ht,h]
 unfold xn ns
 rw[de ct cf,fv,fv,fv]
theorem Vi (k:Ci) (f p q:Pt): -1≤xn k f p q∧xn k f p q≤1:=by unfold xn uz XO;split<;>omega
theorem SV (hf:GP f) (hp:GP p) (hq:GP q):(Cv.arc k false f t).ord p q=xn k f p q:=by
 show ru k f p q=_
 have ht:=jA (b9 hf) (b9 hp) (b9 hq)
 obtain⟨i,hi⟩:=fC (eJ p f)
 obtain⟨j,hj⟩:=fC (eJ q f)
 obtain⟨l,hl⟩:=fC (eJ p q)
 have h:=OP (j6 k f) (j6 k p) (j6 k q) i j l (by rw[←hi,←hj,←hl];exact ht)
 rw[←hi,←hj,←hl] at h
 exact h
end Go.Proofs.YtegpmhlfjkhjmaaGreat
