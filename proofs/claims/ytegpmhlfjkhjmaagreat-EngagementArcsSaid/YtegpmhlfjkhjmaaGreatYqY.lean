/-Ways:directions,ranges. -/
import Derived.Test.YtegpmhlfjkhjmaaGreatYqX
namespace Go.Proofs.YtegpmhlfjkhjmaaGreat
open Go Go.RowKit
variable {w:Bool}{a b n s t:Int}{m p:Pt}{R c e r x y:Rat}
def M9 (c:Rat):Bool:=decide (c≤1)&&decide (-1≤c)
theorem Yr (h:decide (aJ c ((1:Int):Rat)≤0)=true):M9 c=decide (aJ (-c) ((1:Int):Rat)≤0):=by
 have h1:=Bc.1 (of_decide_eq_true h)
 unfold M9
 rw[decide_eq_true (show c≤1 from h1),iO]
 apply decide_eq_decide.2
 rw[Bc]
 constructor<;>intro h<;>grind
theorem WG (h:decide (aJ c ((1:Int):Rat)≤0)=false):M9 c=false:=by
 have h1:=mt Bc.2 (of_decide_eq_false h)
 unfold M9
 rw[decide_eq_false (show ¬c≤1 from h1),pk]
def Vp (R r e:Rat):Rat:=(R*R-e*e-r*r)/(((2:Int):Rat)*(e*r))
def cq (a t s:Int):Rat:=Vp (((a+t:Int)):Rat) ((t:Int):Rat) (((a+s:Int)):Rat)
def VN (a t s:Int) (c:Rat):Bool:=decide (aJ (cq a t s) 0≥0)&&decide (aJ (cq a t s*cq a t s+cq a t s*cq a t s-((1:Int):Rat)) c≥0)
theorem Zz (h:1≤n):0<(n:Rat):=by
 have:=iN.2 (show 0<n by omega)
 exact this
theorem Fr (ha:1≤a) (ht:1≤t) (hs:0≤s):0<(((a+s:Int)):Rat)*((t:Int):Rat):=kG (Zz (by omega)) (Zz ht)
theorem abp (ha:1≤a) (ht:1≤t) (hs:0≤s):cq a t s*(((2:Int):Rat)*((((a+s:Int)):Rat)*((t:Int):Rat)))=(((a+t)*(a+t)-(a+s)*(a+s)-t*t:Int):Rat):=by
 have h:=Fr ha ht hs
 unfold cq Vp
 rw[o8 (by have:(0:Rat)<((2:Int):Rat)*((((a+s:Int)):Rat)*((t:Int):Rat)):=kG (by decide) h;grind)]
 simp only[oX,fZ]
theorem Z0 (ha:1≤a) (ht:1≤t) (hs:1≤s):cq a t s<1:=by
 have h:=abp ha ht (show 0≤s by omega)
 have hp:(0:Rat)<((2:Int):Rat)*((((a+s:Int)):Rat)*((t:Int):Rat)):=kG (by decide) (Fr ha ht (by omega))
 apply f7
 intro hn
 have h1:(1:Rat)≤cq a t s:=by grind
 have h2:=s7 h1 (show 0≤((2:Int):Rat)*((((a+s:Int)):Rat)*((t:Int):Rat)) by grind)
 rw[h,Rat.one_mul] at h2
 have h3:(((2*((a+s)*t):Int)):Rat)≤(((a+t)*(a+t)-(a+s)*(a+s)-t*t:Int):Rat):=by
  rw[fZ,fZ];exact h2
 have h4:=fH.1 h3
 have h5:(a+t)*(a+t)≤(a+s+t)*(a+t):=zL (by omega) (by omega)
 have h6:(a+s+t)*(a+t)<(a+s+t)*(a+s+t):=Int.mul_lt_mul_of_pos_left (by omega) (by omega)
 grind
theorem To (ha:1≤a) (ht:1≤t) (hs:1≤s) (h:decide (aJ (cq a t s) ((1:Int):Rat)≥0)=true):False:=by
 have h1:=Ss.1 (of_decide_eq_true h)
 have h2:=Z0 ha ht hs
 have h3:(1:Rat)≤cq a t s:=h1
 grind
theorem aaH (h:decide (aJ (cq a t s) 0≥0)=true):VN a t s c=decide (aJ (cq a t s*cq a t s+cq a t s*cq a t s-((1:Int):Rat)) c≥0):=by unfold VN;rw[h,iO]
theorem abu (h:decide (aJ (cq a t s) 0≥0)=false):VN a t s c=false:=by unfold VN;rw[h,pk]
theorem Nj (i r:Int):(!decide (i<r))=decide (r≤i):=by rw[←decide_not];exact decide_eq_decide.2 (by omega)
theorem QZ {m:Int}:m.fdiv (2^(min (1:Int).toNat IntKind.u64.bits))=m/2:=by
 show m.fdiv 2=m/2
 exact pv _ (by decide)
theorem Zp (ha:1≤a) (ht:1≤t) (hs:1≤s) (ha2:a≤10000000) (ht2:t≤10000000) (hs2:s≤10000001):Rz 40 (cq a t s):=by
 have r1:Rz 3 (((a+t:Int)):Rat):=Rz.num (by omega) (by omega)
 have r2:Rz 3 (((a+s:Int)):Rat):=Rz.num (by omega) (by omega)
 have r3:Rz 3 ((t:Int):Rat):=Rz.num (by omega) (by omega)
 have r4:Rz 3 ((2:Int):Rat):=Rz.num (by omega) (by omega)
 have hp:(0:Rat)<((2:Int):Rat)*((((a+s:Int)):Rat)*((t:Int):Rat)):=kG (by decide) (Fr ha ht (by omega))
 exact((((r1.mul r1).sub (r2.mul r2)).sub (r3.mul r3)).div (r4.mul (r2.mul r3)) (by grind)).mono (by decide)
theorem KG (hx:Rz 300 x) (hy:Rz 300 y):Ok Tryz.prog 115 [dR x,dR y] [dR (x+y)]:=by
 refine ca Tryz.func115 rfl<|ac rfl (Sp (aQ hx) (aQ hy)) ?_
 exact ah (aV bF rfl ae)
theorem AY (hx:Rz 300 x) (hy:Rz 300 y):Ok Tryz.prog 117 [dR x,dR y] [dR (x-y)]:=by
 refine ca Tryz.func117 rfl<|ac rfl (S6 (aQ hx) (aQ hy)) ?_
 exact ah (aV bF rfl ae)
theorem wv (hx:Rz 300 x) (hy:Rz 300 y):Ok Tryz.prog 155 [dR x,dR y] [dR (x*y)]:=by
 refine ca Tryz.func155 rfl<|ac rfl (Ul (aQ hx) (aQ hy)) ?_
 exact ah (aV bF rfl ae)
theorem S2 (hx:Rz 300 x):Ok Tryz.prog 63 [dR x] [.c (.b (M9 x))]:=by
 refine ca Tryz.func63 rfl<|ac rfl (fY (by omega) (by omega))<|cT 12 [] ?_
 refine aK rfl (tE (aQ hx) (aQ (d6 (dY (k:=3) (by decide) (by decide) (by decide)) (by decide)))) ?_
 refine AF (bz rfl) (fun c1 hb1=>?_)
 cases c1
 ·refine ah ?_
  rw[WG hb1]
  exact az ae
 ·refine aK rfl (Kq (aQ hx)) ?_
  refine aK rfl (tE (aQ (oC hx)) (aQ (d6 (dY (k:=3) (by decide) (by decide) (by decide)) (by decide))))<|ah ?_
  rw[Yr hb1]
  exact az ae
theorem HZ (hR:Rz 20 R) (hr:Rz 20 r) (he:Rz 20 e) (h0:((2:Int):Rat)*(e*r)≠0):Ok Tryz.prog 69 [dR R,dR r,dR e] [dR (Vp R r e)]:=by
 refine ca Tryz.func69 rfl<|cT 12 [] ?_
 refine aK rfl (wv (aQ hR) (aQ hR)) ?_
 refine aK rfl (wv (aQ he) (aQ he)) ?_
 refine aK rfl (AY (aQ (aO hR hR)) (aQ (aO he he))) ?_
 refine aK rfl (wv (aQ hr) (aQ hr)) ?_
 refine aK rfl (AY (aQ (dd (aO hR hR) (aO he he))) (aQ (aO hr hr)))<|cT 13 [8,999999] ?_
 refine aK rfl (fY (by omega) (by omega)) ?_
 refine aK rfl (wv (aQ he) (aQ hr)) ?_
 refine aK rfl (wv (aQ (d6 (dY (k:=3) (by decide) (by decide) (by decide)) (by decide))) (aQ (aO he hr)))<|aK rfl (LL (aQ (dd (dd (aO hR hR) (aO he he)) (aO hr hr))) (aQ (aO (d6 (dY (k:=3) (by decide) (by decide) (by decide)) (by decide)) (aO he hr))) h0) ?_
 refine DQ.mk<|iQ (fg bF rfl) rfl rfl rfl rfl<|d7 ?_
 refine qQ rfl ?_
 exact ah (aV bF rfl ae)
theorem Sf (hc:Rz 20 c) (ha:1≤a) (ha2:a≤10000000) (ht:1≤t) (ht2:t≤10000000) (hs:1≤s) (hs2:s≤10000001):Ok Tryz.prog 120 [.c (.i .i64 a),.c (.i .i64 t),.c (.i .i64 s),dR c] [.c (.b (VN a t s c))]:=by
 have hza:Sz 3 a:=dY (by decide) (by omega) (by omega)
 have hzt:Sz 3 t:=dY (by decide) (by omega) (by omega)
 have hzs:Sz 3 s:=dY (by decide) (by omega) (by omega)
 have hz:=Zp ha ht hs ha2 ht2 hs2
 have h0:((2:Int):Rat)*((((a+s:Int)):Rat)*((t:Int):Rat))≠0:=by
  have:(0:Rat)<((2:Int):Rat)*((((a+s:Int)):Rat)*((t:Int):Rat)):=kG (by decide) (Fr ha ht (by omega))
  grind
 refine ca Tryz.func120 rfl<|ac rfl (fY (by omega) (by omega))<|ar (ci (a+t) (bk (by omega) (by omega)) rfl)<|ac rfl (fY (by omega) (by omega))<|ac rfl (fY (by omega) (by omega))<|ar (ci (a+s) (bk (by omega) (by omega)) rfl)<|ac rfl (fY (by omega) (by omega))<|ac rfl (gM (HZ (aQ (d6 (Sz.addm hza hzt) (by decide))) (aQ (d6 hzt (by decide))) (aQ (d6 (Sz.addm hza hzs) (by decide))) h0) (x':=cq a t s) rfl) ?_
 refine ac rfl (tE (Ix) (aQ (d6 (dY (k:=3) (by decide) (by decide) (by decide)) (by decide)))) ?_
 refine dD rfl (fun hc1=>?_) (fun hc1=>?_)
 ·exact(To ha ht hs hc1).elim
 ·refine ac rfl (wv (Ix) (Ix))<|cT 14 [] ?_
  refine aK rfl (jZ) ?_
  refine AF (bz rfl) (fun c2 hb2=>?_)
  cases c2
  ·refine ah ?_
   rw[abu hb2]
   exact az ae
  ·refine aK rfl (KG (aQ (aO (by assumption) (by assumption))) (aQ (aO (by assumption) (by assumption)))) ?_
   refine aK rfl (AY (aQ (gD (aO (by assumption) (by assumption)) (aO (by assumption) (by assumption)))) (aQ (d6 (dY (k:=3) (by decide) (by decide) (by decide)) (by decide)))) ?_
   refine aK rfl (tE (aQ (dd (gD (aO (by assumption) (by assumption)) (aO (by assumption) (by assumption))) (d6 (dY (k:=3) (by decide) (by decide) (by decide)) (by decide)))) (aQ hc))<|ah ?_
   rw[aaH hb2]
   exact az ae
theorem NE (hc:Rz 20 c) (ha:1≤a) (ha2:a≤10000000) (ht:1≤t) (ht2:t≤10000000) (h0:0≤n) (h1:n≤t):Ok Tryz.prog 119 [.c (.i .i64 n),.c (.p ([.i .i64 a])),.c (.p ([.i .i64 t])),.c (.p (cR c))] [.c (.b (!VN a t (n+1) c))]:=by
 refine ca Tryz.func119 rfl<|ar (xk Tk rfl rfl rfl) ?_
 refine ar (xk Tk rfl rfl rfl) ?_
 refine ar (ci (n+1) (bk (by omega) (by omega)) rfl)<|ar (mM (us:=cR c) bF rfl rfl rfl rfl) ?_
 refine ac rfl (Sf hc ha ha2 ht ht2 (by omega) (by omega)) ?_
 exact ah (az ae)
theorem Ny {N r:Int}(hN0:0≤N) (hN:N≤1000000000) (hr0:0≤r) (hr1:r≤N) (hφ: ∀i:Int,0≤i→i<N→Ok Tryz.prog 119 [.c (.i .i64 i),.c (.p ([.i .i64 a])),.c (.p ([.i .i64 t])),.c (.p (cR c))] [.c (.b (decide (r≤i)))]):Ok Tryz.prog 118 [.c (.i .i64 N),.c (.k 119 [.p ([.i .i64 a]),.p ([.i .i64 t]),.p (cR c)])] [.c (.i .i64 r)]:=by
 refine ca Tryz.func118 rfl ?_
 refine DW.mk<|bh (ι:={p:Int×Int // 0≤p.1∧p.1≤r∧r≤p.2∧p.2≤N}) (fun i=>⟨26,[(0,.v (.c (.i .i64 N))),(1,.v (.c (.k 119 [.p ([.i .i64 a]),.p ([.i .i64 t]),.p (cR c)]))),(5,.v (.c (.i .i64 i.1.1))),(6,.v (.c (.i .i64 i.1.2)))],[]⟩) (fun i=>(i.1.2-i.1.1).toNat) ⟨(0,N),by show(0:Int)≤0;omega,hr0,hr1,by show N≤N;omega⟩ (ao ⟨rfl,rfl,rfl,rfl,trivial⟩ trivial rfl) ?_
 rintro⟨⟨lo,hi⟩,g1,g2,g3,g4⟩
 replace g1:0≤lo:=g1
 replace g2:lo≤r:=g2
 replace g3:r≤hi:=g3
 replace g4:hi≤N:=g4
 dsimp only
 refine no ?_
 refine dD rfl (fun hc1=>?_) (fun hc1=>?_)
 ·have hlt:lo<hi:=of_decide_eq_true hc1
  refine ar (ci (lo+hi) (bk (by omega) (by omega)) rfl)<|ar (b6 (r:=lo+hi) Ps EQ rfl (iB (by omega) (by omega)) rfl) ?_
  refine ar (Qm (r:=(lo+hi)/2) rfl rfl (by decide) QZ rfl) ?_
  refine ar (b6 (r:=(lo+hi)/2) EQ Ps rfl (qN (by omega) (by omega)) rfl) ?_
  refine ar (mx rfl rfl (hφ _ (by omega) (by omega)) rfl) ?_
  refine dD rfl (fun hc2=>?_) (fun hc2=>?_)
  ·have hm: ¬r≤(lo+hi)/2:=by simpa using hc2
   refine ar (ci (((lo+hi)/2)+1) (bk (by omega) (by omega)) rfl) ?_
   exact⟨⟨((lo+hi)/2+1,hi),by show 0≤(lo+hi)/2+1;omega,by show(lo+hi)/2+1≤r;omega,g3,g4⟩,ao ⟨rfl,rfl,rfl,rfl,trivial⟩ trivial rfl,by show(hi-((lo+hi)/2+1)).toNat<(hi-lo).toNat;omega⟩
  ·have hm:r≤(lo+hi)/2:=by simpa using hc2
   exact⟨⟨(lo,(lo+hi)/2),g1,g2,by show r≤(lo+hi)/2;omega,by show(lo+hi)/2≤N;omega⟩,ao ⟨rfl,rfl,rfl,rfl,trivial⟩ trivial rfl,by show((lo+hi)/2-lo).toNat<(hi-lo).toNat;omega⟩
 ·have hlo:r=lo:=by have:=of_decide_eq_false hc1;omega
  refine ah ?_
  rw[hlo]
  exact az ae
theorem QY (hc:Rz 20 c) (ha:1≤a) (ha2:a≤10000000) (ht:1≤t) (ht2:t≤10000000) {r:Int}(hcos:M9 c=true) (hr0:0≤r) (hr1:r≤t+1) (hφ: ∀i:Int,0≤i→i<t+1→VN a t (i+1) c=decide (i<r)):Ok Tryz.prog 39 [.c (.i .i64 a),.c (.i .i64 t),dR c] [.c (.i .i64 r),.c (.i .i64 0)]:=by
 refine eH Tryz.func39 33 [.tmp 6,.tmp 7] rfl<|aa<|ag<|aa<|aa<|bg<|bK 1<|aR (aP (c:=false) (dF rfl) (decide_eq_false (by omega))) ?_
 refine bK 2<|aR (aP (c:=false) (dF rfl) (decide_eq_false (by omega))) ?_
 refine bK 3<|aR (aP (c:=false) (dF rfl) (decide_eq_false (by omega))) ?_
 refine bK 3<|aR (aP (c:=false) (dF rfl) (decide_eq_false (by omega))) ?_
 refine bK 3<|aR (cj rfl (ez (S2 (aQ hc)) hcos))<|ex<|a8 rfl<|aA<|aa<|kU (t:=3) (k:=3) rfl rfl<|kU (t:=4) (k:=4) rfl rfl<|kU (t:=5) (k:=5) rfl rfl<|ag<|ar (xk Tk rfl rfl rfl) ?_
 refine ar (ci (t+1) (bk (by omega) (by omega)) rfl)<|ar (qp (us:=[.p ([.i .i64 a]),.p ([.i .i64 t]),.p (cR c)]) rfl rfl) ?_
 refine ac rfl (Ny (by omega) (by omega) hr0 hr1 (fun i g1 g2=>ez (NE hc ha ha2 ht ht2 g1 (by omega)) (by rw[hφ i g1 g2];exact Nj i r)))<|aa<|ag<|aZ ?_
 exact ah (az (az ae))
def BP (R r e:Rat):Bool:= !(decide (aJ R 0≤0)||(decide (aJ r 0≤0)||decide (aJ e 0≤0)))&& !(decide (aJ (Vp R r e) ((1:Int):Rat)≥0)||decide (aJ (-(Vp R r e)) ((1:Int):Rat)≥0))
def Jg (u r:Rat):Bool:= !(decide (aJ r 0≤0)||(decide (aJ u 0<0)||decide (aJ u (r+r)>0)))
theorem JG (h:decide (aJ x 0≤0)=false):0<x:=by
 have:=of_decide_eq_false h
 rw[Bc] at this
 grind
theorem Wz (h1:decide (aJ r 0≤0)=false) (h2:decide (aJ e 0≤0)=false):((2:Int):Rat)*(e*r)≠0:=by
 have:(0:Rat)<((2:Int):Rat)*(e*r):=kG (by decide) (kG (JG h2) (JG h1))
 grind
theorem XG (h1:decide (aJ r 0≤0)=false):r≠0:=by
 have:=JG h1
 grind
theorem abf (hR:Rz 20 R) (hr:Rz 20 r) (he:Rz 20 e) (h0:((2:Int):Rat)*(e*r)≠0):Rz 200 (Vp R r e):=by
 have h2:Rz 3 ((2:Int):Rat):=Rz.num (by decide) (by decide)
 exact((((hR.mul hR).sub (he.mul he)).sub (hr.mul hr)).div (h2.mul (he.mul hr)) h0).mono (by decide)
theorem Mq (hR:Rz 20 R) (hr:Rz 20 r) (he:Rz 20 e) (hd:BP R r e=true):Ok Tryz.prog 20 [dR R,dR r,dR e] [dR (Vp R r e),.c (.b true)]:=by
 refine ca Tryz.func20 rfl<|ac rfl (jZ) ?_
 refine jT (bz rfl) (fun c1 hb1=>?_)
 cases c1
 ·refine ac rfl (jZ) ?_
  refine jT (bz rfl) (fun c2 hb2=>?_)
  cases c2
  ·refine ac rfl (jZ) ?_
   refine dD rfl (fun hc3=>?_) (fun hc3=>?_)
   ·exact absurd hd (by rw[show BP R r e=false from by unfold BP;rw[hb1,hb2,hc3];rfl];decide)
   ·have h0:=Wz hb2 hc3
    have hz:Rz 200 (Vp R r e):=abf hR hr he h0
    refine ac rfl (HZ (aQ hR) (aQ hr) (aQ he) h0)<|ac rfl (fY (by omega) (by omega))<|cT 11 [] ?_
    refine aK rfl (tE (Ix) (aQ (d6 (dY (k:=3) (by decide) (by decide) (by decide)) (by decide)))) ?_
    refine AF (bz rfl) (fun c4 hb4=>?_)
    cases c4
    ·refine aK rfl (Kq (Ix)) ?_
     refine aK rfl (tE (aQ (oC (by assumption))) (aQ (d6 (dY (k:=3) (by decide) (by decide) (by decide)) (by decide)))) ?_
     refine dD rfl (fun hc5=>?_) (fun hc5=>?_)
     ·exact absurd hd (by rw[show BP R r e=false from by unfold BP;rw[hb1,hb2,hc3,hb4,hc5];rfl];decide)
     ·exact ah (aV bF rfl (az ae))
    ·exact absurd hd (by rw[show BP R r e=false from by unfold BP;rw[hb1,hb2,hc3,hb4];rfl];decide)
  ·exact absurd hd (by rw[show BP R r e=false from by unfold BP;rw[hb1,hb2];rfl];decide)
 ·exact absurd hd (by rw[show BP R r e=false from by unfold BP;rw[hb1];rfl];decide)
theorem RI {u:Rat}(hu:Rz 20 u) (hr:Rz 20 r) (hd:Jg u r=true):Ok Tryz.prog 38 [dR u,dR r] [dR (((1:Int):Rat)-u/r),.c (.i .i64 0)]:=by
 refine ca Tryz.func38 rfl<|cT 16 [] ?_
 refine aK rfl (jZ) ?_
 refine AF (bz rfl) (fun c1 hb1=>?_)
 cases c1
 ·refine aK rfl (jZ) ?_
  refine AF (bz rfl) (fun c2 hb2=>?_)
  cases c2
  ·refine aK rfl (KG (aQ hr) (aQ hr))<|aK rfl (tE (aQ hu) (aQ (gD hr hr))) ?_
   refine dD rfl (fun hc3=>?_) (fun hc3=>?_)
   ·exact absurd hd (by rw[show Jg u r=false from by unfold Jg;rw[hb1,hb2,hc3];rfl];decide)
   ·have h0:=XG hb1
    refine ac rfl (LL (aQ hu) (aQ hr) h0)<|qQ rfl<|cT 3 []<|aK rfl (fY (by omega) (by omega)) ?_
    refine aK rfl (AY (aQ (d6 (dY (k:=3) (by decide) (by decide) (by decide)) (by decide))) (aQ (nu hu hr (by assumption)))) ?_
    exact ah (aV bF rfl (az ae))
  ·exact absurd hd (by rw[show Jg u r=false from by unfold Jg;rw[hb1,hb2];rfl];decide)
 ·exact absurd hd (by rw[show Jg u r=false from by unfold Jg;rw[hb1];rfl];decide)
def mj:Ci:=⟨((4:Int):Rat),((0:Int):Rat),((3*3:Int):Rat)⟩
def sS:Ci:=⟨((0:Int):Rat),((0:Int):Rat),((5*5:Int):Rat)⟩
def qX (x y:Int):Pt:=rP (x:Rat) (y:Rat)
def vK:Cv:=.arc mj false (qX 4 (-3)) (qX 4 3)
theorem KT {k:Nat}(h: -100≤n) (h':n≤100) (hk:1≤k):Rz k ((n:Int):Rat):=(d6 (EF (by omega) (by omega)) (by decide)).mono hk
theorem UX {P:Program}{f:FuncId}{ds rs:List D0}{x':Rat}(h:Ok P f ds (dR x::rs)) (e:x=x'):Ok P f ds (dR x'::rs):=by subst e;exact h
theorem Bb:RK mj:=⟨by constructor<;>decide+kernel,by constructor<;>decide+kernel,by constructor<;>decide+kernel,by decide+kernel⟩
theorem TY:RK sS:=⟨by constructor<;>decide+kernel,by constructor<;>decide+kernel,by constructor<;>decide+kernel,by decide+kernel⟩
def Qs:Cv:=.arc mj false (qX 1 0) (qX 4 (-3))
def Og:Cv:=.arc mj false (qX 4 (-3)) (qX 7 0)
def OM:Cv:=.arc mj false (qX 7 0) (qX 4 3)
def Qd:Cv:=.arc mj false (qX 4 3) (qX 1 0)
theorem Se:bm mj [sS]=[Qs,Og,OM,Qd]:=by kernel_rfl
theorem Xe:Qs.fwd=.arc mj false (qX 1 0) (qX 4 (-3)):=by kernel_rfl
theorem Wl:Og.fwd=.arc mj false (qX 4 (-3)) (qX 7 0):=by kernel_rfl
theorem WX:OM.fwd=.arc mj true (qX 4 3) (qX 7 0):=by kernel_rfl
theorem Wi:Qd.fwd=.arc mj true (qX 1 0) (qX 4 3):=by kernel_rfl
theorem O7 {k:Ci}(h:Dh k p=0):mp k p= -aJ (F9 k p) 0:=by
 unfold mp
 rw[h,aaM (by decide+kernel)]
theorem ZF {s:Rat}(h1:1<x) (h7:x<7) (hs:s*s=1):mp sS (fS x 0 mj.y s (mv mj x))= -aJ (8*x-32) 0:=by
 have k1:mj.x=4:=by decide+kernel
 have k2:mj.y=0:=by decide+kernel
 have k3:mj.q=9:=by decide+kernel
 have d1:sS.x=0:=by decide+kernel
 have d2:sS.y=0:=by decide+kernel
 have d3:sS.q=25:=by decide+kernel
 have e:mv mj x=9-(x-4)*(x-4):=by unfold mv;rw[k1,k3]
 have hc:0<mv mj x:=by
  rw[e,show 9-(x-4)*(x-4)=(x-1)*(7-x) from by grind]
  exact kG (by grind) (by grind)
 generalize mv mj x=c at*
 unfold fS
 split
 ·rename_i hq
  have h:=Jr hc hq
  rw[O7 (by unfold Dh IR;rw[d1,d2];grind),show F9 sS ⟨x+0*rt c,0,mj.y+s*rt c,0,0⟩=8*x-32 from by unfold F9 Iu;rw[d1,d2,d3,k2];grind]
 ·rw[O7 (by unfold Dh IR;rw[d1,d2,k2];grind),show F9 sS ⟨x,0,mj.y,s,c⟩=8*x-32 from by unfold F9 Iu;rw[d1,d2,d3,k2];grind]
theorem abc {f t:Pt}(hm:m=wZ (.arc mj w f t) x) (h1:1<x) (h7:x<7):qd [sS] m=decide (4<x):=by
 subst hm
 show(decide (mp sS (fS x 0 mj.y (sW w) (mv mj x))<0)&&true)=_
 rw[ZF h1 h7 (by cases w<;>decide+kernel),Bool.and_true]
 refine decide_eq_decide.2 ?_
 unfold aJ
 split
 ·exact⟨fun h=>absurd h (by decide),fun h=>by grind⟩
 ·split
  ·exact⟨fun _=>by grind,fun _=>by decide⟩
  ·exact⟨fun h=>absurd h (by decide),fun h=>by grind⟩
theorem Za (h:mS (qX a b) x<0):((a:Int):Rat)<x:=by
 have h':aJ ((a:Rat)-x) 0<0:=p5▸h
 unfold aJ at h'
 (repeat' split at h')<;>grind
theorem ZR (h:0<mS (qX a b) x):x<((a:Int):Rat):=by
 have h':0<aJ ((a:Rat)-x) 0:=p5▸h
 unfold aJ at h'
 (repeat' split at h')<;>grind
theorem LM {c:Cv}{d e:Int}(hf:c.fwd=.arc mj w (qX a b) (qX d e)) (ha:1≤((a:Int):Rat)) (hd:((d:Int):Rat)≤7) (hm: ∃x,m=wZ c.fwd x∧mS c.fwd.p x<0∧0<mS c.fwd.q x):
 (((d:Int):Rat)≤4→qd [sS] m=false)∧(4≤((a:Int):Rat)→qd [sS] m=true):=by
 obtain⟨x,h1,h2,h3⟩:=hm
 rw[hf] at h1 h2 h3
 have a1:=Za h2
 have b1:=ZR h3
 rw[abc h1 (by grind) (by grind)]
 exact⟨fun h=>decide_eq_false (by grind),fun h=>decide_eq_true (by grind)⟩
theorem abq {m:Nat→Pt}(hm: ∀i,i<(bm mj [sS]).length→ ∃x,m i=wZ ((bm mj [sS]).getD i aY).fwd x∧mS ((bm mj [sS]).getD i aY).fwd.p x<0∧0<mS ((bm mj [sS]).getD i aY).fwd.q x):
 KY mj [sS] m=fun i=>i%4==1||i%4==2:=by
 rw[Se] at hm
 have o: ∀i,i<4→qd [sS] (m i)=(i==1||i==2):=fun i hi=>by
  have:=hm i hi
  match i,hi with
  |0,_=>exact(LM (c:=Qs) Xe (by decide+kernel) (by decide+kernel) this).1 (by decide+kernel)
  |1,_=>exact(LM (c:=Og) Wl (by decide+kernel) (by decide+kernel) this).2 (by decide+kernel)
  |2,_=>exact(LM (c:=OM) WX (by decide+kernel) (by decide+kernel) this).2 (by decide+kernel)
  |3,_=>exact(LM (c:=Qd) Wi (by decide+kernel) (by decide+kernel) this).1 (by decide+kernel)
 funext i
 unfold KY
 rw[Se]
 exact o (i%4) (rV _ (by decide))
theorem Xp:bp aY cY (ni [Qs,Og,OM,Qd] (fun i=>i%4==1||i%4==2) 0 [Qs,Og,OM,Qd].length)=[vK]:=by kernel_rfl
theorem Cs:CvV vK:=
 ⟨⟨Bb.k,VL (KT (by decide) (by decide) (by decide)) (KT (by decide) (by decide) (by decide)),VL (KT (by decide) (by decide) (by decide)) (KT (by decide) (by decide) (by decide))⟩,Bb.pos,by decide+kernel,by decide+kernel,by decide+kernel⟩
theorem WR: ∀i:Int,0≤i→i<3+1→VN 3 3 (i+1) ((-1:Int):Rat)=decide (i<2):=fun i h0 h1=>by
 have:i=0∨i=1∨i=2∨i=3:=by omega
 rcases this with rfl|rfl|rfl|rfl<;>decide+kernel
theorem QF (c:Cv) (r:List CellD):((aD c++r).drop 26).take 20=aj c.p:=by
 have hl:=ai c
 rw[xh (by omega),xz (by rw[fO];omega)]
 exact lr c
theorem Sx:Ok Tryz.prog 9 [.a (aX mj),.c (.s 1 (aX sS))] [.c (.s [vK].length (aw aD [vK])),.c (.b false)]:=by
 have hL: ∀d∈ [sS],RK d:=fun d hd=>by rw[nE.1 hd];exact TY
 obtain⟨m,hm⟩:=Qb Bb hL
 have e:=abq (m:=m) fun i hi=>(hm i hi).2.2.2
 rcases Km Bb hL (by decide) (fun i hi=>⟨(hm i hi).1,(hm i hi).2.1⟩) with⟨h,_⟩|⟨s,h1,h2,h3,h⟩
 ·exact absurd (h 0 (by rw[Se];decide)) (by rw[e];decide)
 ·have h0:s=0:=(jo s).elim id fun q=>absurd (h2 0 q) (by rw[e];decide)
  subst h0
  rw[e,Se,Xp] at h
  exact h
theorem QB {x y r:Int}(x0: -100≤x) (x1:x≤100) (y0: -100≤y) (y1:y≤100) (r0:0≤r) (r1:r≤100):Ok Tryz.prog 19 [.c (.i .i64 x),.c (.i .i64 y),.c (.i .i64 r)] [.a ((cR (((x:Int):Rat))++cR (((y:Int):Rat))++cR (((r*r:Int):Rat))))]:=by
 have r2:0≤r*r:=f5 r0 r0
 have r3:r*r≤100*100:=rG r1 r1 r0 (by decide)
 refine ca Tryz.func19 rfl<|ac rfl (eu (by omega) (by omega))<|ac rfl (eu (by omega) (by omega))<|ar (ci (r*r) ((congrArg some (qN (by omega) (by omega)))) rfl)<|ac rfl (eu (by omega) (by omega))<|ar (aM (us:=(cR (((x:Int):Rat))++cR (((y:Int):Rat))++cR (((r*r:Int):Rat)))) XP Ud rfl rfl rfl) ?_
 exact ah (aV qV rfl ae)
theorem IZ:Ok Tryz.prog 7 [] [.c (.b true)]:=by
 refine eH Tryz.func7 92 [.tmp 0] rfl<|aa<|ag<|aa<|ag<|ac rfl (eu (by decide) (by decide))<|aa<|ag<|ac rfl (eu (by decide) (by decide))<|ac rfl (eu (by decide) (by decide))<|ac rfl (UX (x':=((0:Int):Rat)) (RI (KT (n:=3) (by decide) (by decide) (by decide)) (KT (n:=3) (by decide) (by decide) (by decide)) (by decide+kernel)) (by decide+kernel))<|aa<|ag<|ac rfl (eu (by decide) (by decide)) ?_
 refine ac rfl (eu (by decide) (by decide))<|ac rfl (eu (by decide) (by decide))<|ac rfl (UX (x':=((0:Int):Rat)) (Mq (KT (n:=5) (by decide) (by decide) (by decide)) (KT (n:=3) (by decide) (by decide) (by decide)) (KT (n:=4) (by decide) (by decide) (by decide)) (by decide+kernel)) (by decide+kernel))<|aa<|ag<|ac rfl (QB (x:=4) (y:=0) (r:=3) (by decide) (by decide) (by decide) (by decide) (by decide) (by decide))<|ac rfl (QB (x:=0) (y:=0) (r:=5) (by decide) (by decide) (by decide) (by decide) (by decide) (by decide))<|ar (bX (n:=1) (us:=(cR (((0:Int):Rat))++cR (((0:Int):Rat))++cR (((5*5:Int):Rat)))) F2 rfl rfl rfl (by decide) (by decide) rfl) ?_
 refine ac rfl (Sx)<|aa<|ag<|ac rfl (eu (by decide) (by decide))<|ac rfl (QY (a:=3) (t:=3) (KT (n:= -1) (by decide) (by decide) (by decide)) (by decide) (by decide) (by decide) (by decide) (by decide+kernel) (r:=2) (by decide) (by decide) WR)<|aa<|ln 57 rfl rfl<|dt 16<|bD (cj rfl (ez (El (KT (n:=0) (by decide) (by decide) (by decide)) (KT (n:=0) (by decide) (by decide) (by decide))) (decide_eq_true rfl)))<|dt 4<|bD (cj rfl (ez (El (KT (n:=0) (by decide) (by decide) (by decide)) (KT (n:=0) (by decide) (by decide) (by decide))) (decide_eq_true rfl)))<|dt 8<|bD (aP (c:=true) (dF rfl) rfl) ?_
 refine dt 3<|bD (bH (us:=aD ([vK].getD 0 aY)++aw aD ([vK].drop (0+1))) gF rfl rfl (⟨by decide,by decide⟩) (am ai _) (jf ai (ew (show 0<[vK].length from by decide))) rfl) ?_
 refine bD (ip ai bW rfl)<|bD (cj rfl (UV Cs))<|dt 3<|bD (bH (us:=aD ([vK].getD 0 aY)++aw aD ([vK].drop (0+1))) gF rfl rfl (⟨by decide,by decide⟩) (am ai _) (jf ai (ew (show 0<[vK].length from by decide))) rfl) ?_
 refine bD (nO I5 rfl rfl rfl) ?_
 refine bD (cg (us:=aj vK.p) bv rfl (QF _ _) (ak _) rfl) ?_
 refine bD (cj rfl (GW (by decide) (by decide) (by decide) (by decide)))<|bD (cj rfl ((show Ok _ _ _ [.a (aj vK.p)] from Bq)))<|bD (cj rfl (ez (c:=true) (BO Cs.g.2.1 Cs.g.2.1) (by decide+kernel)))<|dt 3<|bD (bH (us:=aD ([vK].getD 0 aY)++aw aD ([vK].drop (0+1))) gF rfl rfl (⟨by decide,by decide⟩) (am ai _) (jf ai (ew (show 0<[vK].length from by decide))) rfl) ?_
 refine bD (nO Al rfl rfl rfl) ?_
 refine bD (cg (us:=aj vK.q) bv rfl (yg _ _) (ak _) rfl) ?_
 refine bD (cj rfl (GW (by decide) (by decide) (by decide) (by decide)))<|bD (cj rfl ((show Ok _ _ _ [.a (aj vK.q)] from Bq)))<|bD (cj rfl (ez (c:=true) (BO Cs.g.2.2 Cs.g.2.2) (by decide+kernel)))<|yo<|dk<|ba<|aZ ?_
 exact ah (az ae)
end Go.Proofs.YtegpmhlfjkhjmaaGreat
namespace Go.Proofs.YtegpmhlfjkhjmaaGreat
open Go.ChangeShapes Go.WideShapes Go.ChangeAt Go.RowKit Go.Deep
variable {fuel m:Nat}
theorem BN {α:Type}{m:Nat}: ∀(L:List (List α)),(∀x∈L,x.length=m)→L.flatten.length=L.length*m
 |[],_=>by simp
 |y::L,h=>by
  rw[vo,dm,BN L (fun x hx=>h x (fB _ hx)),h y (fJ ..),tC,oH];omega
theorem J9 {α:Type}{m:Nat}: ∀(L:List (List α)) (i q:Nat) (x:List α),(∀x∈L,x.length=m)→L[i]? =some x→q<m→L.flatten[i*m+q]? =x[q]?
 |[],i,q,x,_,h,_=>by simp at h
 |y::L,0,q,x,hm,h,hq=>by
  simp at h
  subst h
  rw[vo,CA (by rw[hm y (fJ ..)];omega)]
  congr 1;omega
 |y::L,i+1,q,x,hm,h,hq=>by
  rw[vo,Co (by rw[hm y (fJ ..),oH];omega),hm y (fJ ..),show(i+1)*m+q-m=i*m+q from by rw[oH];omega]
  exact J9 L i q x (fun x hx=>hm x (fB _ hx)) (by simpa using h) hq
theorem H0 {α:Type}{m:Nat}: ∀(L:List (List α)) (i:Nat) (x:List α),(∀x∈L,x.length=m)→L[i]? =some x→(L.flatten.drop (i*m)).take m=x
 |[],i,x,_,h=>by simp at h
 |y::L,0,x,hm,h=>by
  simp at h
  subst h
  rw[Nat.zero_mul,oW,vo,←hm y (fJ ..)]
  simp
 |y::L,i+1,x,hm,h=>by
  rw[vo,oH,Nat.add_comm,←xN,Nat.one_mul]
  have:(y++L.flatten).drop m=L.flatten:=by rw[←hm y (fJ ..)];simp
  rw[this]
  exact H0 L i x (fun x hx=>hm x (fB _ hx)) (by simpa using h)
section
variable {H:Type}{enc:TypeId×Value→H}{P:Program}{w:World}{base:Nat}{spare:Nat→Bool}{held:Bool}
theorem KZ {V:Nat→Prop}: ∀(L:List (List Value×List CellD)),(∀p∈L,RdCs V w p.1 p.2)→RdCs V w (L.map (·.1)).flatten (L.map (·.2)).flatten
 |[],_=>uw
 |p::L,h=>by
  rw[oU,oU,vo,vo]
  exact(h p (fJ ..)).append (KZ L fun q hq=>h q (fB _ hq))
theorem IW {t e:TypeId}(ht:P.underlying t=some (.slice e)) (hc:P.cellsOf e=m) (hm:0<m) {Q:List CellD→Prop}
 (hel: ∀fuel cs x,DataW.trod enc P w base spare held fuel e cs=some x→ ∃us,us.length=m∧Q us∧RdCs RT w cs us) {fuel:Nat}{v:Value}{x:DataW H×List MemPlace}(h:DataW.trod enc P w base spare held fuel t [v]=some x):
 ∃(n:Nat) (us:List CellD),us.length=n*m∧n≤maxLen∧(∀j,j<n→Q ((us.drop (j*m)).take m))∧RdC RT w v (.s n us):=by
 rcases open_slice ht h with⟨hcs,_⟩|⟨a,len,cap,k,n,D,Pl,hcs,_,hl,hk,hkk,_,hi⟩
 ·simp at hcs;subst hcs
  exact⟨0,[],by simp,by decide,fun j hj=>by omega,.s0 none 0 (by omega)⟩
 ·simp at hcs;subst hcs
  rw[hc] at hi
  obtain⟨l,hll,hp⟩:=Hi (p:=fun j (z:List Value×List CellD)=>z.1.length=m∧z.2.length=m∧Q z.2∧RdCs RT w z.1 z.2∧ ∀i,i<m→w.cell? (a.add (j*m+i))=z.1[i]?) len (fun j hj=>by
   obtain⟨cs',h1,h2⟩:=hi j (by rw[hkk];split<;>omega)
   obtain⟨us,e1,e2,e3⟩:=hel _ _ _ h2
   obtain⟨_,hlen,hcell⟩:=World.cells?_some h1
   exact⟨(cs',us),hlen,e1,e2,e3,fun i hi=>by rw[←hcell i hi,add_add]⟩)
  have hmem: ∀z∈l,z.1.length=m∧z.2.length=m∧RdCs RT w z.1 z.2:=fun z hz=>by
   obtain⟨i,hi⟩:=List.getElem?_of_mem hz
   exact⟨(hp i z hi).1,(hp i z hi).2.1,(hp i z hi).2.2.2.1⟩
  have m1: ∀x∈l.map (·.1),x.length=m:=fun x hx=>by obtain⟨z,hz,rfl⟩:=ny.1 hx;exact(hmem z hz).1
  have m2: ∀x∈l.map (·.2),x.length=m:=fun x hx=>by obtain⟨z,hz,rfl⟩:=ny.1 hx;exact(hmem z hz).2.1
  have hrd:=KZ (w:=w) (V:=RT) l (fun p hp=>(hmem p hp).2.2)
  have hvl:(l.map (·.1)).flatten.length=len*m:=by rw[BN _ m1,oJ,hll]
  have hul:(l.map (·.2)).flatten.length=len*m:=by rw[BN _ m2,oJ,hll]
  refine⟨len,(l.map (·.2)).flatten,hul,by omega,fun j hj=>?_,?_⟩
  ·have hj2:l[j]? =some l[j]:=f9 (by omega)
   rw[H0 _ j l[j].2 m2 (by rw[s9,hj2];rfl)]
   exact(hp j _ hj2).2.2.1
  ·unfold maxLen at hk
   by_cases h0:len=0
   ·subst h0
    have:l=[]:=jP.1 hll
    subst this
    exact .s0 _ _ (by omega)
   ·have hcell: ∀j,j<len*m→ ∃v,(l.map (·.1)).flatten[j]? =some v∧w.cell? (a.add j)=some v:=by
     intro j hj
     have hd:j/m<len:=Nat.div_lt_of_lt_mul (by rw[Nat.mul_comm];exact hj)
     have hq:j%m<m:=rV _ hm
     have e:j=j/m*m+j%m:=by rw[Nat.mul_comm];exact(Nat.div_add_mod j m).symm
     have hj2:l[j/m]? =some l[j/m]:=f9 (by omega)
     have h1:=J9 (l.map (·.1)) (j/m) (j%m) l[j/m].1 m1 (by rw[s9,hj2];rfl) hq
     have h2:=(hp _ _ hj2).2.2.2.2 (j%m) hq
     rw[←e] at h1 h2
     refine⟨_,f9 (by omega),?_⟩
     rw[h2,←h1,f9 (by omega)]
    obtain⟨v0,_,h00⟩:=hcell 0 (Nat.mul_pos (by omega) hm)
    have ea:=PJ a _ h00
    rw[ea]
    refine .s a.block a.off cap m len _ (fun j=>(l.map (·.1)).flatten.getD j undef) (by omega) hl (by omega) hul (X2 _ _ _ (by have:=K9 a 0 _ h00;simpa using this)) (fun h=>h) (fun j hj=>?_) (fun j u hu=>?_)
    ·obtain⟨v,e1,e2⟩:=hcell j hj
     rw[K9 a j _ e2]
     simp[List.getD,e1]
    ·have hj:j<len*m:=by rw[←hul];exact(ji.1 hu).1
     obtain⟨v,e1,e2⟩:=hcell j hj
     simp only[List.getD,e1,Option.getD_some]
     exact hrd.2 j v u e1 hu
end
theorem VK {φ:Nat→Rn}: ∀(n:Nat) (us:List CellD),us.length=n*4→(∀j,j<n→(us.drop (j*4)).take 4=uy (φ j))→us=aw uy ((List.range n).map φ)
 |0,us,hl,_=>jP.1 (by omega)
 |n+1,us,hl,h=>by
  have h1:=VK n (us.take (n*4)) (by rw[dE];omega) fun j hj=>by
   rw[←h j (by omega),List.drop_take,List.take_take]
   congr 1;omega
  rw[List.range_succ,o5,dB,←h1]
  show us=us.take (n*4)++aw uy [φ n]
  rw[dV,←h n (by omega),show(us.drop (n*4)).take 4=us.drop (n*4) from ja (by rw[fO];omega)]
  exact(xi _ _).symm
section
variable {H:Type}{enc:TypeId×Value→H}{w:World}{base:Nat}{spare:Nat→Bool}{held:Bool}
set_option maxRecDepth 100000 in
theorem GU {cs:List Value}{x:DataW H×List MemPlace}(h:DataW.trod enc Tryz.prog w base spare held fuel 25 cs=some x):
 ∃r:Rn,RnB r∧RdCs RT w cs (uy r):=by
 obtain⟨xs,n,_,_,hcl,hxl,hf⟩:=DataW.trod_struct (P:=Tryz.prog) Tryz.underlying25 h
 have hcl:cs.length=4:=hcl.trans (by kernel_rfl)
 have hxl:xs.length=4:=hxl.trans (by kernel_rfl)
 match cs,hcl with
 |[c0,c1,c2,c3],_=>
  have h0:DataW.trod enc Tryz.prog w base spare held n 22 [c0]=xs[0]? :=hf 0 _ rfl
  have h1:DataW.trod enc Tryz.prog w base spare held n 22 [c1]=xs[1]? :=hf 1 _ rfl
  have h2:DataW.trod enc Tryz.prog w base spare held n 23 [c2]=xs[2]? :=hf 2 _ rfl
  have h3:DataW.trod enc Tryz.prog w base spare held n 5 [c3]=xs[3]? :=hf 3 _ rfl
  rw[f9 (by omega)] at h0 h1 h2 h3
  obtain⟨A,e0,_,g0⟩:=DataW.trod_int (P:=Tryz.prog) Tryz.underlying22 h0
  obtain⟨B,e1,_,g1⟩:=DataW.trod_int (P:=Tryz.prog) Tryz.underlying22 h1
  obtain⟨C,e2,_,g2⟩:=DataW.trod_int (P:=Tryz.prog) Tryz.underlying23 h2
  obtain⟨D,e3,_,g3⟩:=DataW.trod_int (P:=Tryz.prog) Tryz.underlying5 h3
  simp at e0 e1 e2 e3
  subst e0 e1 e2 e3
  simp[Lit.wf,IntKind.min,IntKind.max,IntKind.signed,IntKind.bits] at g0 g1 g2 g3
  have k: ∀(t:IntKind) (q:Int),RdCs RT w [Value.int t q] [.i t q]:=fun t q=>uk (.i _ _) uw
  have q:(-32768≤A∧A≤32767)∧(-32768≤B∧B≤32767)∧(0≤C∧C≤65535)∧0≤D∧D≤255:=by omega
  exact⟨⟨A,B,C,D⟩,⟨q.1.1,q.1.2,q.2.1.1,q.2.1.2,q.2.2.1.1,q.2.2.1.2,q.2.2.2.1,q.2.2.2.2⟩,qA (qA (qA (k _ A) (k _ B)) (k _ C)) (k _ D)⟩
theorem Nm {v:Value}{x:DataW H×List MemPlace}(h:DataW.trod enc Tryz.prog w base spare held fuel 26 [v]=some x):
 ∃W:List Rn,(∀r∈W,RnB r)∧RdC RT w v (.s W.length (aw uy W)):=by
 obtain⟨n,us,h1,_,h3,h4⟩:=IW (P:=Tryz.prog) (m:=4) (Q:=fun us=> ∃r:Rn,RnB r∧us=uy r) Tryz.underlying26 (by kernel_rfl) (by decide) (fun fuel cs x h=>by
  obtain⟨r,w1,hr⟩:=GU h
  have hl:cs.length=4:=by
   obtain⟨xs,n,_,_,hcl,hxl,hf⟩:=DataW.trod_struct (P:=Tryz.prog) Tryz.underlying25 h
   exact hcl.trans (by kernel_rfl)
  exact⟨_,hr.1.symm.trans hl,⟨r,w1,rfl⟩,hr⟩) h
 have key: ∀j,∃r:Rn,j<n→RnB r∧(us.drop (j*4)).take 4=uy r:=fun j=>by
  by_cases hj:j<n
  ·obtain⟨r,w1,e⟩:=h3 j hj
   exact⟨r,fun _=>⟨w1,e⟩⟩
  ·exact⟨Ih,fun q=>absurd q hj⟩
 obtain⟨φ,hφ⟩:=Classical.axiomOfChoice key
 have e:=VK (φ:=φ) n us h1 fun j hj=>(hφ j hj).2
 refine⟨(List.range n).map φ,fun r hr=>?_,?_⟩
 ·obtain⟨j,hj,rfl⟩:=ny.1 hr
  exact(hφ j (lP.1 hj)).1
 ·rw[←e,oJ,List.length_range];exact h4
end
end Go.Proofs.YtegpmhlfjkhjmaaGreat
namespace Go.Proofs.YtegpmhlfjkhjmaaGreat
open Go.ChangeShapes Go.WideShapes Go.ChangeAt Go.RowKit
theorem I3 {r:Rn}(b:RnB r) {W:List Rn}(bw: ∀r∈W,RnB r):Ok Tryz.prog 3 [.a (uy r),.c (.s W.length (aw uy W))] [.c (.b true)]:=W9 b bw IZ
set_option maxRecDepth 100000 in
theorem Ds (os:Os) (started:os.Started) (H:Type) (enc:TypeId×Value→H):
 ReturnsInHanded {} Tryz.checked os 3 .any (Rows.engagementArcsSpec.pre6 enc Tryz.prog Tryz.f3 Rows.engagementArcsRow.domain false) (Rows.engagementArcsSpec.post enc Tryz.prog Tryz.f3 false true false false):=by
 refine returnsInHanded_of_change (C:=Tryz.checked) own started (by kernel_rfl) Tryz.func3
  (ChangeSpec.witness6 (enc:=enc) (C:=Tryz.checked) false ⟨#[],#[.agg #[.int .i16 0,.int .i16 0,.int .u16 0,.int .u8 0],.slice none 0 0],[]⟩ 8 (by kernel_rfl) (by kernel_rfl) (by kernel_rfl) (by kernel_rfl)) ?_
 intro W base args ds gs before hval0 hW hcnd _
 have hval: ∀(j:Nat) t v,Tryz.f3.params[j]? =some t→args[j]? =some v→Value.okWide Tryz.prog W .any base t v:=hval0
 have hW':=hW
 obtain⟨p,q,hA0,hV,rfl,hfz,hnd⟩:=hW
 have hA:DataW.TrodAll enc Tryz.prog W 0 (fun _=>true) true Tryz.f3.params.toList args.toList ds p:=hA0
 rw[Tryz.params3] at hA hval
 obtain⟨v0,vs0,d0,ds0,p0,q0,hargs,rfl,rfl,h0,r0⟩:=trodAll_cons hA
 obtain⟨v1,vs1,d1,ds1,p1,q1,rfl,rfl,rfl,h1,r1⟩:=trodAll_cons r0
 obtain⟨rfl,rfl,rfl⟩:=trodAll_nil r1
 obtain rfl:args= #[v0,v1]:=by cases args;simp_all
 obtain⟨rfl,rfl⟩:=trodVars_none hV
 obtain⟨a0,rfl,_⟩:=okWide_struct Tryz.underlying25 (hval 0 25 v0 rfl rfl)
 have k0:=h0
 have lt0: ∀x∈p0,x.block<W.heap.size:=by obtain⟨m,hm⟩:=k0;exact DataW.trod_lt m _ _ _ hm
 obtain⟨A1,len1,cap1,rfl⟩:=okWide_slice Tryz.underlying26 (hval 1 26 v1 rfl rfl)
 have k1:=h1
 have lt1: ∀x∈p1,x.block<W.heap.size:=by obtain⟨m,hm⟩:=k1;exact DataW.trod_lt m _ _ _ hm
 obtain⟨s0,b0,hr0⟩:=GU (show DataW.trod enc Tryz.prog W 0 _ _ h0.choose 25 a0.toList=some _ from h0.choose_spec)
 obtain⟨L1,b1,hr1⟩:=Nm (show DataW.trod enc Tryz.prog W 0 _ _ h1.choose 26 [_]=some _ from h1.choose_spec)
 clear hA0 hval0
 refine(WI (I3 b0 b1) (uv ⟨a0,rfl,hr0⟩ (uv hr1 RdL.nil))).mono fun e W' ⟨he,bel⟩=>?_
 subst he
 exact⟨_,rfl,_,_,_,[],_,[],hW',trodAll_mk1 (shut_bool Tryz.underlying4 _),(trodAll_cons_mk (Below.trod JX (by kernel_rfl) (of_decide_eq_true (by kernel_rfl)) k0 bel lt0) (trodAll_cons_mk (Below.trod JX (by kernel_rfl) (of_decide_eq_true (by kernel_rfl)) k1 bel lt1) trodAll_mk0)),rfl,bel.frame _,fun h=>by cases h⟩
theorem arcs32_proved:Rows.EngagementArcsSaid:=
 OpenClaim.holds_of_wide 3 Tryz.f3 rfl rfl rfl rfl rfl rfl rfl ⟨rfl,rfl,rfl,rfl,rfl⟩ rfl rfl rfl rfl rfl Nc Tryz.func3 Me
  (of_decide_eq_true (by kernel_rfl)) (by unfold Func.isWrapper;first|(rw[if_pos (by decide+kernel)];kernel_rfl)|(rw[if_neg (by decide+kernel)];exact⟨rfl,rfl⟩))
  (fun os started H enc _=>Ds os started H enc)
end Go.Proofs.YtegpmhlfjkhjmaaGreat
