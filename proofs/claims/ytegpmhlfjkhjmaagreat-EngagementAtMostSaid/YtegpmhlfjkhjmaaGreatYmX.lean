/-Plain:ways in one direction,their centers;the range of coordinates. -/
import Derived.Test.YtegpmhlfjkhjmaaGreatYmW
namespace Go.Proofs.YtegpmhlfjkhjmaaGreat
open Go Go.RowKit
variable {k:Ci}{a n s t:Int}{p q:Pt}{R c e m r x y:Rat}
def lr (c:Rat):Bool:=decide (c≤1)&&decide (-1≤c)
theorem Xp (h:decide (aM c ((1:Int):Rat)≤0)=true):lr c=decide (aM (-c) ((1:Int):Rat)≤0):=by
 have h1:=y5.1 (of_decide_eq_true h)
 unfold lr
 rw[decide_eq_true (show c≤1 from h1),iF]
 apply decide_eq_decide.2
 rw[y5]
 constructor<;>intro h<;>grind
theorem PT (h:decide (aM c ((1:Int):Rat)≤0)=false):lr c=false:=by
 have h1:=mt y5.2 (of_decide_eq_false h)
 unfold lr
 rw[decide_eq_false (show ¬c≤1 from h1),pi]
def W3 (R r e:Rat):Rat:=(R*R-e*e-r*r)/(((2:Int):Rat)*(e*r))
def cq (a t s:Int):Rat:=W3 (((a+t:Int)):Rat) ((t:Int):Rat) (((a+s:Int)):Rat)
def Wp (a t s:Int) (c:Rat):Bool:=decide (aM (cq a t s) 0≥0)&&decide (aM (cq a t s*cq a t s+cq a t s*cq a t s-((1:Int):Rat)) c≥0)
theorem abE (h:1≤n):0<(n:Rat):=by
 have:=iM.2 (show 0<n by omega)
 exact this
theorem Gh (ha:1≤a) (ht:1≤t) (hs:0≤s):0<(((a+s:Int)):Rat)*((t:Int):Rat):=kw (abE (by omega)) (abE ht)
theorem abA (ha:1≤a) (ht:1≤t) (hs:0≤s):cq a t s*(((2:Int):Rat)*((((a+s:Int)):Rat)*((t:Int):Rat)))=(((a+t)*(a+t)-(a+s)*(a+s)-t*t:Int):Rat):=by
 have h:=Gh ha ht hs
 unfold cq W3
 rw[o9 (by have:(0:Rat)<((2:Int):Rat)*((((a+s:Int)):Rat)*((t:Int):Rat)):=kw (by decide) h;grind)]
 simp only[qE,f8]
theorem acV (ha:1≤a) (ht:1≤t) (hs:1≤s):cq a t s<1:=by
 have h:=abA ha ht (show 0≤s by omega)
 have hp:(0:Rat)<((2:Int):Rat)*((((a+s:Int)):Rat)*((t:Int):Rat)):=kw (by decide) (Gh ha ht (by omega))
 apply gg
 intro hn
 have h1:(1:Rat)≤cq a t s:=by grind
 have h2:=sN h1 (show 0≤((2:Int):Rat)*((((a+s:Int)):Rat)*((t:Int):Rat)) by grind)
 rw[h,Rat.one_mul] at h2
 have h3:(((2*((a+s)*t):Int)):Rat)≤(((a+t)*(a+t)-(a+s)*(a+s)-t*t:Int):Rat):=by
  rw[f8,f8];exact h2
 have h4:=fI.1 h3
 have h5:(a+t)*(a+t)≤(a+s+t)*(a+t):=AR (by omega) (by omega)
 have h6:(a+s+t)*(a+t)<(a+s+t)*(a+s+t):=Int.mul_lt_mul_of_pos_left (by omega) (by omega)
 grind
theorem Un (ha:1≤a) (ht:1≤t) (hs:1≤s) (h:decide (aM (cq a t s) ((1:Int):Rat)≥0)=true):False:=by
 have h1:=Lj.1 (of_decide_eq_true h)
 have h2:=acV ha ht hs
 have h3:(1:Rat)≤cq a t s:=h1
 grind
theorem aaR (h:decide (aM (cq a t s) 0≥0)=true):Wp a t s c=decide (aM (cq a t s*cq a t s+cq a t s*cq a t s-((1:Int):Rat)) c≥0):=by unfold Wp;rw[h,iF]
theorem aap (h:decide (aM (cq a t s) 0≥0)=false):Wp a t s c=false:=by unfold Wp;rw[h,pi]
theorem Ot (i r:Int):(!decide (i<r))=decide (r≤i):=by rw[←decide_not];exact decide_eq_decide.2 (by omega)
theorem OH {m:Int}:m.fdiv (2^(min (1:Int).toNat IntKind.u64.bits))=m/2:=by
 show m.fdiv 2=m/2
 exact pv _ (by decide)
theorem abB (ha:1≤a) (ht:1≤t) (hs:1≤s) (ha2:a≤10000000) (ht2:t≤10000000) (hs2:s≤10000001):Rz 40 (cq a t s):=by
 have r1:Rz 3 (((a+t:Int)):Rat):=Rz.num (by omega) (by omega)
 have r2:Rz 3 (((a+s:Int)):Rat):=Rz.num (by omega) (by omega)
 have r3:Rz 3 ((t:Int):Rat):=Rz.num (by omega) (by omega)
 have r4:Rz 3 ((2:Int):Rat):=Rz.num (by omega) (by omega)
 have hp:(0:Rat)<((2:Int):Rat)*((((a+s:Int)):Rat)*((t:Int):Rat)):=kw (by decide) (Gh ha ht (by omega))
 exact((((r1.mul r1).sub (r2.mul r2)).sub (r3.mul r3)).div (r4.mul (r2.mul r3)) (by grind)).mono (by decide)
section
variable (k:Ci) (p q:Pt) (m:Rat)
def XL:Rat:=(p.a1-k.x)*(q.a2-k.y)+ -((p.a2-k.y)*(q.a1-k.x))
def Zf:Rat:=p.b1*(q.a2-k.y)+ -(p.b2*(q.a1-k.x))
def XZ:Rat:=(p.a1-k.x)*q.b2+ -((p.a2-k.y)*q.b1)
def crD:Rat:=p.b1*q.b2+ -(p.b2*q.b1)
def Wc:Rat:=(p.a1-k.x)*(q.a1-k.x)+(p.a2-k.y)*(q.a2-k.y)-m
def WS:Rat:=p.b1*(q.a1-k.x)+p.b2*(q.a2-k.y)
def W5:Rat:=(p.a1-k.x)*q.b1+(p.a2-k.y)*q.b2
def Ys:Rat:=p.b1*q.b1+p.b2*q.b2
def D8:Int:=fD (XL k p q) (Zf k p q) (XZ k p q) (crD p q) p.c q.c
def GZ:Int:=fD (Wc k p q m) (WS k p q) (W5 k p q) (Ys p q) p.c q.c
end
theorem Zk (k:Ci) (p q:Pt): -1≤D8 k p q∧D8 k p q≤1:=vZ _ _ _ _ _ _
theorem KA (k:Ci) (p q:Pt) (m:Rat): -1≤GZ k p q m∧GZ k p q m≤1:=vZ _ _ _ _ _ _
theorem MB (A B C D M N:Rat):jH A C B D N M=jH A B C D M N:=br fun n=>by
 unfold jH aB
 simp only[aQ,aR,bc]
 grind
theorem XC (hp:0≤p.c) (hq:0≤q.c):GZ k q p m=GZ k p q m:=by
 unfold GZ
 rw[nm hq hp,nm hp hq,←MB (Wc k p q m)]
 congr 1
 rw[show Wc k q p m=Wc k p q m from by unfold Wc;grind,show WS k q p=W5 k p q from by unfold WS W5;grind,show W5 k q p=WS k p q from by unfold WS W5;grind,show Ys q p=Ys p q from by unfold Ys;grind]
theorem XA (hp:0≤p.c) (hq:0≤q.c):D8 k q p= -D8 k p q:=by
 unfold D8
 rw[nm hq hp,nm hp hq,←cj,←MB (XL k q p)]
 congr 1
 rw[show XL k q p= -XL k p q from by unfold XL;grind,show Zf k q p= -XZ k p q from by unfold Zf XZ;grind,show XZ k q p= -Zf k p q from by unfold Zf XZ;grind,show crD q p= -crD p q from by unfold crD;grind]
 exact br fun n=>by
  unfold jH aB
  simp only[aQ,aR,bc,bD]
  grind
def xj (w:Bool) (k:Ci) (f t:Pt):Int:=if w then-D8 k f t else D8 k f t
def FN (w:Bool) (k:Ci) (f t:Pt) (c:Rat):Bool:=lr c&&decide (xj w k f t≥0)
def BB (w:Bool) (k:Ci) (f t:Pt) (c:Rat):Int:=if FN w k f t c then-GZ k f t (c*k.q) else 0
def Ol (w:Bool) (k:Ci) (f t:Pt) (c:Rat):Int:=if FN w k f t c then 0 else 1
section
variable {w:Bool}{k:Ci}{f t:Pt}{c:Rat}
theorem Ak (h:lr c=false):BB w k f t c=0∧Ol w k f t c=1:=by
 have:FN w k f t c=false:=by unfold FN;rw[h];rfl
 unfold BB Ol;rw[this];exact⟨rfl,rfl⟩
theorem At (h:decide (xj w k f t≥0)=false):BB w k f t c=0∧Ol w k f t c=1:=by
 have:FN w k f t c=false:=by unfold FN;rw[h,nj]
 unfold BB Ol;rw[this];exact⟨rfl,rfl⟩
theorem Bc (h:lr c=true) (g:decide (xj w k f t≥0)=true):BB w k f t c= -GZ k f t (c*k.q)∧Ol w k f t c=0:=by
 have:FN w k f t c=true:=by unfold FN;rw[h,g];rfl
 unfold BB Ol;rw[this];exact⟨rfl,rfl⟩
end
def Gx (c:Cv) (x:Rat):Int:=match c with
 | .seg ..=>0
 | .arc k w f t=>BB w k f t x
def Fp (c:Cv) (x:Rat):Int:=match c with
 | .seg ..=>1
 | .arc k w f t=>Ol w k f t x
theorem vp (x:Rat):0+((1:Int):Rat)*x=x:=by rw[show((1:Int):Rat)=1 from rfl];grind
theorem Ge (x y:Rat):x+((1:Int):Rat)*y=x+y:=by rw[show((1:Int):Rat)=1 from rfl];grind
theorem GY (x y:Rat):x+((-1:Int):Rat)*y=x+ -y:=by rw[show((-1:Int):Rat)= -1 from rfl];grind
theorem F1 {P:Program}{f:FuncId}{ds:List D0}{A B C D M N A' B' C' D':Rat}(h:Ok P f ds [.a (cR A++cR B++cR C++cR D++cR M++cR N)]) (e1:A=A') (e2:B=B') (e3:C=C') (e4:D=D'):Ok P f ds [.a (cR A'++cR B'++cR C'++cR D'++cR M++cR N)]:=by subst e1 e2 e3 e4;exact h
section
variable {k:Ci}{p q:Pt}(hk:GK k) (hp:GP p) (hq:GP q)
include hk hp hq
theorem IR:Rz 347 (p.a1-k.x)∧Rz 347 (p.a2-k.y)∧Rz 347 (q.a1-k.x)∧Rz 347 (q.a2-k.y):=
 ⟨(hp.a1.sub hk.x).mono (by decide),(hp.a2.sub hk.y).mono (by decide),(hq.a1.sub hk.x).mono (by decide),(hq.a2.sub hk.y).mono (by decide)⟩
theorem Wf:Rz 1600 (XL k p q)∧Rz 1600 (Zf k p q)∧Rz 1600 (XZ k p q)∧Rz 1600 (crD p q):=by
 obtain⟨h1,h2,h3,h4⟩:=IR hk hp hq
 exact⟨((h1.mul h4).add (h2.mul h3).neg).mono (by decide),((hp.b1.mul h4).add (hp.b2.mul h3).neg).mono (by decide),((h1.mul hq.b2).add (h2.mul hq.b1).neg).mono (by decide),((hp.b1.mul hq.b2).add (hp.b2.mul hq.b1).neg).mono (by decide)⟩
theorem QZ (hm:Rz 10 m):Rz 1600 (Wc k p q m)∧Rz 1600 (WS k p q)∧Rz 1600 (W5 k p q)∧Rz 1600 (Ys p q):=by
 obtain⟨h1,h2,h3,h4⟩:=IR hk hp hq
 exact⟨(((h1.mul h3).add (h2.mul h4)).sub hm).mono (by decide),((hp.b1.mul h3).add (hp.b2.mul h4)).mono (by decide),((h1.mul hq.b1).add (h2.mul hq.b2)).mono (by decide),((hp.b1.mul hq.b1).add (hp.b2.mul hq.b2)).mono (by decide)⟩
end
theorem MW (hx:Rz 300 x) (hy:Rz 300 y):Ok Tryz.prog 115 [dR x,dR y] [dR (x+y)]:=by
 refine bX Tryz.func115 rfl<|ac rfl (UF (aO hx) (aO hy)) ?_
 exact ah (aS aZ rfl ae)
theorem BW (hx:Rz 300 x) (hy:Rz 300 y):Ok Tryz.prog 117 [dR x,dR y] [dR (x-y)]:=by
 refine bX Tryz.func117 rfl<|ac rfl (Uw (aO hx) (aO hy)) ?_
 exact ah (aS aZ rfl ae)
theorem wJ (hx:Rz 300 x) (hy:Rz 300 y):Ok Tryz.prog 155 [dR x,dR y] [dR (x*y)]:=by
 refine bX Tryz.func155 rfl<|ac rfl (Vb (aO hx) (aO hy)) ?_
 exact ah (aS aZ rfl ae)
theorem BQ (hx:Rz 300 x):Ok Tryz.prog 63 [dR x] [.c (.b (lr x))]:=by
 refine bX Tryz.func63 rfl<|ac rfl (f7 (by omega) (by omega))<|cJ 12 [] ?_
 refine aK rfl (tR (aO hx) (aO (eG (dS (k:=3) (by decide) (by decide) (by decide)) (by decide)))) ?_
 refine BD (bE rfl) (fun c1 hb1=>?_)
 cases c1
 ·refine ah ?_
  rw[PT hb1]
  exact az ae
 ·refine aK rfl (MN (aO hx)) ?_
  refine aK rfl (tR (aO (l5 hx)) (aO (eG (dS (k:=3) (by decide) (by decide) (by decide)) (by decide))))<|ah ?_
  rw[Xp hb1]
  exact az ae
theorem Jf (hR:Rz 20 R) (hr:Rz 20 r) (he:Rz 20 e) (h0:((2:Int):Rat)*(e*r)≠0):Ok Tryz.prog 69 [dR R,dR r,dR e] [dR (W3 R r e)]:=by
 refine bX Tryz.func69 rfl<|cJ 12 [] ?_
 refine aK rfl (wJ (aO hR) (aO hR)) ?_
 refine aK rfl (wJ (aO he) (aO he)) ?_
 refine aK rfl (BW (aO (aP hR hR)) (aO (aP he he))) ?_
 refine aK rfl (wJ (aO hr) (aO hr)) ?_
 refine aK rfl (BW (aO (cT (aP hR hR) (aP he he))) (aO (aP hr hr)))<|cJ 13 [8,999999] ?_
 refine aK rfl (f7 (by omega) (by omega)) ?_
 refine aK rfl (wJ (aO he) (aO hr)) ?_
 refine aK rfl (wJ (aO (eG (dS (k:=3) (by decide) (by decide) (by decide)) (by decide))) (aO (aP he hr)))<|aK rfl (L5 (aO (cT (cT (aP hR hR) (aP he he)) (aP hr hr))) (aO (aP (eG (dS (k:=3) (by decide) (by decide) (by decide)) (by decide)) (aP he hr))) h0) ?_
 refine DQ.mk<|f5 (eh aZ rfl) rfl rfl rfl rfl<|dF ?_
 refine sb rfl ?_
 exact ah (aS aZ rfl ae)
theorem Vz (hc:Rz 20 c) (ha:1≤a) (ha2:a≤10000000) (ht:1≤t) (ht2:t≤10000000) (hs:1≤s) (hs2:s≤10000001):Ok Tryz.prog 120 [.c (.i .i64 a),.c (.i .i64 t),.c (.i .i64 s),dR c] [.c (.b (Wp a t s c))]:=by
 have hza:Sz 3 a:=dS (by decide) (by omega) (by omega)
 have hzt:Sz 3 t:=dS (by decide) (by omega) (by omega)
 have hzs:Sz 3 s:=dS (by decide) (by omega) (by omega)
 have hz:=abB ha ht hs ha2 ht2 hs2
 have h0:((2:Int):Rat)*((((a+s:Int)):Rat)*((t:Int):Rat))≠0:=by
  have:(0:Rat)<((2:Int):Rat)*((((a+s:Int)):Rat)*((t:Int):Rat)):=kw (by decide) (Gh ha ht (by omega))
  grind
 refine bX Tryz.func120 rfl<|ac rfl (f7 (by omega) (by omega))<|ar (ci (a+t) (bh (by omega) (by omega)) rfl)<|ac rfl (f7 (by omega) (by omega))<|ac rfl (f7 (by omega) (by omega))<|ar (ci (a+s) (bh (by omega) (by omega)) rfl)<|ac rfl (f7 (by omega) (by omega))<|ac rfl (jJ (Jf (aO (eG (Sz.addm hza hzt) (by decide))) (aO (eG hzt (by decide))) (aO (eG (Sz.addm hza hzs) (by decide))) h0) (x':=cq a t s) rfl) ?_
 refine ac rfl (tR (G3) (aO (eG (dS (k:=3) (by decide) (by decide) (by decide)) (by decide)))) ?_
 refine dk rfl (fun hc1=>?_) (fun hc1=>?_)
 ·exact(Un ha ht hs hc1).elim
 ·refine ac rfl (wJ (G3) (G3))<|cJ 14 [] ?_
  refine aK rfl (kH) ?_
  refine BD (bE rfl) (fun c2 hb2=>?_)
  cases c2
  ·refine ah ?_
   rw[aap hb2]
   exact az ae
  ·refine aK rfl (MW (aO (aP (by assumption) (by assumption))) (aO (aP (by assumption) (by assumption)))) ?_
   refine aK rfl (BW (aO (gj (aP (by assumption) (by assumption)) (aP (by assumption) (by assumption)))) (aO (eG (dS (k:=3) (by decide) (by decide) (by decide)) (by decide)))) ?_
   refine aK rfl (tR (aO (cT (gj (aP (by assumption) (by assumption)) (aP (by assumption) (by assumption))) (eG (dS (k:=3) (by decide) (by decide) (by decide)) (by decide)))) (aO hc))<|ah ?_
   rw[aaR hb2]
   exact az ae
theorem QG (hc:Rz 20 c) (ha:1≤a) (ha2:a≤10000000) (ht:1≤t) (ht2:t≤10000000) (h0:0≤n) (h1:n≤t):Ok Tryz.prog 119 [.c (.i .i64 n),.c (.p ([.i .i64 a])),.c (.p ([.i .i64 t])),.c (.p (cR c))] [.c (.b (!Wp a t (n+1) c))]:=by
 refine bX Tryz.func119 rfl<|ar (xG Ue rfl rfl rfl) ?_
 refine ar (xG Ue rfl rfl rfl) ?_
 refine ar (ci (n+1) (bh (by omega) (by omega)) rfl)<|ar (mw (us:=cR c) aZ rfl rfl rfl rfl) ?_
 refine ac rfl (Vz hc ha ha2 ht ht2 (by omega) (by omega)) ?_
 exact ah (az ae)
theorem QT {N r:Int}(hN0:0≤N) (hN:N≤1000000000) (hr0:0≤r) (hr1:r≤N) (hφ: ∀i:Int,0≤i→i<N→Ok Tryz.prog 119 [.c (.i .i64 i),.c (.p ([.i .i64 a])),.c (.p ([.i .i64 t])),.c (.p (cR c))] [.c (.b (decide (r≤i)))]):Ok Tryz.prog 118 [.c (.i .i64 N),.c (.k 119 [.p ([.i .i64 a]),.p ([.i .i64 t]),.p (cR c)])] [.c (.i .i64 r)]:=by
 refine bX Tryz.func118 rfl ?_
 refine DW.mk<|bn (ι:={p:Int×Int // 0≤p.1∧p.1≤r∧r≤p.2∧p.2≤N}) (fun i=>⟨26,[(0,.v (.c (.i .i64 N))),(1,.v (.c (.k 119 [.p ([.i .i64 a]),.p ([.i .i64 t]),.p (cR c)]))),(5,.v (.c (.i .i64 i.1.1))),(6,.v (.c (.i .i64 i.1.2)))],[]⟩) (fun i=>(i.1.2-i.1.1).toNat) ⟨(0,N),by show(0:Int)≤0;omega,hr0,hr1,by show N≤N;omega⟩ (ap ⟨rfl,rfl,rfl,rfl,trivial⟩ trivial rfl) ?_
 rintro⟨⟨lo,hi⟩,g1,g2,g3,g4⟩
 replace g1:0≤lo:=g1
 replace g2:lo≤r:=g2
 replace g3:r≤hi:=g3
 replace g4:hi≤N:=g4
 dsimp only
 refine nu ?_
 refine dk rfl (fun hc1=>?_) (fun hc1=>?_)
 ·have hlt:lo<hi:=of_decide_eq_true hc1
  refine ar (ci (lo+hi) (bh (by omega) (by omega)) rfl)<|ar (bZ (r:=lo+hi) Rh FV rfl (iC (by omega) (by omega)) rfl) ?_
  refine ar (Su (r:=(lo+hi)/2) rfl rfl (by decide) OH rfl) ?_
  refine ar (bZ (r:=(lo+hi)/2) FV Rh rfl (pK (by omega) (by omega)) rfl) ?_
  refine ar (p9 rfl rfl (hφ _ (by omega) (by omega)) rfl) ?_
  refine dk rfl (fun hc2=>?_) (fun hc2=>?_)
  ·have hm: ¬r≤(lo+hi)/2:=by simpa using hc2
   refine ar (ci (((lo+hi)/2)+1) (bh (by omega) (by omega)) rfl) ?_
   exact⟨⟨((lo+hi)/2+1,hi),by show 0≤(lo+hi)/2+1;omega,by show(lo+hi)/2+1≤r;omega,g3,g4⟩,ap ⟨rfl,rfl,rfl,rfl,trivial⟩ trivial rfl,by show(hi-((lo+hi)/2+1)).toNat<(hi-lo).toNat;omega⟩
  ·have hm:r≤(lo+hi)/2:=by simpa using hc2
   exact⟨⟨(lo,(lo+hi)/2),g1,g2,by show r≤(lo+hi)/2;omega,by show(lo+hi)/2≤N;omega⟩,ap ⟨rfl,rfl,rfl,rfl,trivial⟩ trivial rfl,by show((lo+hi)/2-lo).toNat<(hi-lo).toNat;omega⟩
 ·have hlo:r=lo:=by have:=of_decide_eq_false hc1;omega
  refine ah ?_
  rw[hlo]
  exact az ae
theorem Q7 (hc:Rz 20 c) (ha:1≤a) (ha2:a≤10000000) (ht:1≤t) (ht2:t≤10000000) {r:Int}(hcos:lr c=true) (hr0:0≤r) (hr1:r≤t+1) (hφ: ∀i:Int,0≤i→i<t+1→Wp a t (i+1) c=decide (i<r)):Ok Tryz.prog 39 [.c (.i .i64 a),.c (.i .i64 t),dR c] [.c (.i .i64 r),.c (.i .i64 0)]:=by
 refine eo Tryz.func39 33 [.tmp 6,.tmp 7] rfl<|aa<|ag<|aa<|aa<|bm<|bU 1<|aU (a8 (c:=false) (fh rfl) (decide_eq_false (by omega))) ?_
 refine bU 2<|aU (a8 (c:=false) (fh rfl) (decide_eq_false (by omega))) ?_
 refine bU 3<|aU (a8 (c:=false) (fh rfl) (decide_eq_false (by omega))) ?_
 refine bU 3<|aU (a8 (c:=false) (fh rfl) (decide_eq_false (by omega))) ?_
 refine bU 3<|aU (cb rfl (fp (BQ (aO hc)) hcos))<|ed<|bz rfl<|aA<|aa<|kO (t:=3) (k:=3) rfl rfl<|kO (t:=4) (k:=4) rfl rfl<|kO (t:=5) (k:=5) rfl rfl<|ag<|ar (xG Ue rfl rfl rfl) ?_
 refine ar (ci (t+1) (bh (by omega) (by omega)) rfl)<|ar (qR (us:=[.p ([.i .i64 a]),.p ([.i .i64 t]),.p (cR c)]) rfl rfl) ?_
 refine ac rfl (QT (by omega) (by omega) hr0 hr1 (fun i g1 g2=>fp (QG hc ha ha2 ht ht2 g1 (by omega)) (by rw[hφ i g1 g2];exact Ot i r)))<|aa<|ag<|a7 ?_
 exact ah (az (az ae))
theorem TN (h:decide (aM c ((1:Int):Rat)≤0)=true):lr c=decide (aM c (((-1):Int):Rat)≥0):=by
 have h1:=y5.1 (of_decide_eq_true h)
 unfold lr
 rw[decide_eq_true (show c≤1 from h1),iF]
 apply decide_eq_decide.2
 rw[Lj]
 exact Iff.rfl
def CL (R r e:Rat):Bool:= !(decide (aM R 0≤0)||(decide (aM r 0≤0)||decide (aM e 0≤0)))&& !(decide (aM (W3 R r e) ((1:Int):Rat)≥0)||decide (aM (-(W3 R r e)) ((1:Int):Rat)≥0))
def JH (u r:Rat):Bool:= !(decide (aM r 0≤0)||(decide (aM u 0<0)||decide (aM u (r+r)>0)))
theorem KI (h:decide (aM x 0≤0)=false):0<x:=by
 have:=of_decide_eq_false h
 rw[y5] at this
 grind
theorem ZB (h1:decide (aM r 0≤0)=false) (h2:decide (aM e 0≤0)=false):((2:Int):Rat)*(e*r)≠0:=by
 have:(0:Rat)<((2:Int):Rat)*(e*r):=kw (by decide) (kw (KI h2) (KI h1))
 grind
theorem Zd (h1:decide (aM r 0≤0)=false):r≠0:=by
 have:=KI h1
 grind
theorem acB (hR:Rz 20 R) (hr:Rz 20 r) (he:Rz 20 e) (h0:((2:Int):Rat)*(e*r)≠0):Rz 200 (W3 R r e):=by
 have h2:Rz 3 ((2:Int):Rat):=Rz.num (by decide) (by decide)
 exact((((hR.mul hR).sub (he.mul he)).sub (hr.mul hr)).div (h2.mul (he.mul hr)) h0).mono (by decide)
theorem N0 (hR:Rz 20 R) (hr:Rz 20 r) (he:Rz 20 e) (hd:CL R r e=true):Ok Tryz.prog 20 [dR R,dR r,dR e] [dR (W3 R r e),.c (.b true)]:=by
 refine bX Tryz.func20 rfl<|ac rfl (kH) ?_
 refine jU (bE rfl) (fun c1 hb1=>?_)
 cases c1
 ·refine ac rfl (kH) ?_
  refine jU (bE rfl) (fun c2 hb2=>?_)
  cases c2
  ·refine ac rfl (kH) ?_
   refine dk rfl (fun hc3=>?_) (fun hc3=>?_)
   ·exact absurd hd (by rw[show CL R r e=false from by unfold CL;rw[hb1,hb2,hc3];rfl];decide)
   ·have h0:=ZB hb2 hc3
    have hz:Rz 200 (W3 R r e):=acB hR hr he h0
    refine ac rfl (Jf (aO hR) (aO hr) (aO he) h0)<|ac rfl (f7 (by omega) (by omega))<|cJ 11 [] ?_
    refine aK rfl (tR (G3) (aO (eG (dS (k:=3) (by decide) (by decide) (by decide)) (by decide)))) ?_
    refine BD (bE rfl) (fun c4 hb4=>?_)
    cases c4
    ·refine aK rfl (MN (G3)) ?_
     refine aK rfl (tR (aO (l5 (by assumption))) (aO (eG (dS (k:=3) (by decide) (by decide) (by decide)) (by decide)))) ?_
     refine dk rfl (fun hc5=>?_) (fun hc5=>?_)
     ·exact absurd hd (by rw[show CL R r e=false from by unfold CL;rw[hb1,hb2,hc3,hb4,hc5];rfl];decide)
     ·exact ah (aS aZ rfl (az ae))
    ·exact absurd hd (by rw[show CL R r e=false from by unfold CL;rw[hb1,hb2,hc3,hb4];rfl];decide)
  ·exact absurd hd (by rw[show CL R r e=false from by unfold CL;rw[hb1,hb2];rfl];decide)
 ·exact absurd hd (by rw[show CL R r e=false from by unfold CL;rw[hb1];rfl];decide)
theorem Rk {u:Rat}(hu:Rz 20 u) (hr:Rz 20 r) (hd:JH u r=true):Ok Tryz.prog 38 [dR u,dR r] [dR (((1:Int):Rat)-u/r),.c (.i .i64 0)]:=by
 refine bX Tryz.func38 rfl<|cJ 16 [] ?_
 refine aK rfl (kH) ?_
 refine BD (bE rfl) (fun c1 hb1=>?_)
 cases c1
 ·refine aK rfl (kH) ?_
  refine BD (bE rfl) (fun c2 hb2=>?_)
  cases c2
  ·refine aK rfl (MW (aO hr) (aO hr))<|aK rfl (tR (aO hu) (aO (gj hr hr))) ?_
   refine dk rfl (fun hc3=>?_) (fun hc3=>?_)
   ·exact absurd hd (by rw[show JH u r=false from by unfold JH;rw[hb1,hb2,hc3];rfl];decide)
   ·have h0:=Zd hb1
    refine ac rfl (L5 (aO hu) (aO hr) h0)<|sb rfl<|cJ 3 []<|aK rfl (f7 (by omega) (by omega)) ?_
    refine aK rfl (BW (aO (eG (dS (k:=3) (by decide) (by decide) (by decide)) (by decide))) (aO (nJ hu hr (by assumption)))) ?_
    exact ah (aS aZ rfl (az ae))
  ·exact absurd hd (by rw[show JH u r=false from by unfold JH;rw[hb1,hb2];rfl];decide)
 ·exact absurd hd (by rw[show JH u r=false from by unfold JH;rw[hb1];rfl];decide)
theorem Bg (h0: -9223372036854775808≤n) (h1:n≤9223372036854775807):Ok Tryz.prog 94 [.c (.i .i64 n)] [dR (n:Rat)]:=by
 refine bX Tryz.func94 rfl<|ac rfl (d8 (by omega) (by omega)) ?_
 exact ah (aS aZ rfl ae)
theorem EL (hx:Rz 300 x):Ok Tryz.prog 27 [dR x] [.c (.b (lr x))]:=by
 refine bX Tryz.func27 rfl<|cJ 11 [] ?_
 refine aK rfl (Bg (by omega) (by omega))<|aK rfl (K0 (aO hx) (aO (eG (dS (k:=3) (by decide) (by decide) (by decide)) (by decide)))) ?_
 refine BD (bE rfl) (fun c1 hb1=>?_)
 cases c1
 ·refine ah ?_
  rw[PT hb1]
  exact az ae
 ·refine aK rfl (Bg (by omega) (by omega))<|aK rfl (K0 (aO hx) (aO (eG (Sz.neg (dS (k:=3) (by decide) (by decide) (by decide))) (by decide))))<|ah ?_
  rw[TN hb1]
  exact az ae
end Go.Proofs.YtegpmhlfjkhjmaaGreat
