/-Roots and points in reduced form:the reference. -/
import Derived.Test.YtegpmhlfjkhjmaaGreatYgH
import Derived.Test.YtegpmhlfjkhjmaaGreatProg
namespace Go.Proofs.YtegpmhlfjkhjmaaGreat
open Go Go.RowKit
variable {hi lo n p r u v x y:Int}{j k:Nat}{A B C D M N a a1 a2 b b1 b2 c d e f m p1 p2 q1 q2:Rat}{U xt yt:TypeId}
variable {ty:TypeId}{pos:String}{af:Array Edge}{g:Option (Nat×Bool)}{dst:Option Nat}
theorem cY:type_of% @Rat.mul_pos:=@Rat.mul_pos
theorem ef:type_of% @Rat.intCast_le_intCast:=@Rat.intCast_le_intCast
theorem fE:type_of% @Rat.intCast_mul:=@Rat.intCast_mul
theorem f7:type_of% @Rat.mul_nonneg:=@Rat.mul_nonneg
theorem iv:type_of% @Rat.intCast_lt_intCast:=@Rat.intCast_lt_intCast
theorem iE:type_of% @Rat.intCast_add:=@Rat.intCast_add
theorem kO:type_of% @Rat.le_refl:=@Rat.le_refl
theorem tH:type_of% @Rat.intCast_pos:=@Rat.intCast_pos
theorem xD:type_of% @Int.le_trans:=@Int.le_trans
theorem wM:type_of% @Bool.and_true:=@Bool.and_true
theorem vN (ha1:Rz 300 a1) (hb1:Rz 300 b1) (ha2:Rz 300 a2) (hb2:Rz 300 b2) (hc:Rz 300 c):Ok Tryz.prog 58 [.a ((cR a1++cR b1++cR a2++cR b2++cR c))] [.c (.b (tZ b1 b2 c))]:=by
 refine bW Tryz.func58 rfl ?_
 refine ac rfl (jk (aE ha1)) ?_
 refine ar (bq rfl) ?_
 refine ac rfl (jk (aE ha2)) ?_
 refine ar (bq rfl) ?_
 refine ac rfl (jk (aE hb1)) ?_
 refine ar (bq rfl) ?_
 refine ac rfl (jk (aE hb2)) ?_
 refine ar (bq rfl) ?_
 refine ac rfl (jk (aE hc)) ?_
 refine qg rfl ?_
 refine ac rfl (iA) ?_
 refine jC (bq rfl) (fun c1 hb1=>?_)
 cases c1
 ·refine qg rfl<|ac rfl (G8 (aE hc))<|ac rfl (iA) ?_
  refine jC (bq rfl) (fun c2 hb2=>?_)
  cases c2
  ·refine ah ?_
   rw[Uz hb1,hb2,lr]
   exact ak aa
  ·refine ah ?_
   rw[Uz hb1,hb2,fW]
   exact ak aa
 ·refine ac rfl (iA) ?_
  refine df rfl (fun hc3=>?_) (fun hc3=>?_)
  ·refine ac rfl (iA)<|ah ?_
   rw[YW hb1 hc3]
   exact ak aa
  ·refine ac rfl (G8 (aE hc))<|ac rfl (iA) ?_
   refine jC (bq rfl) (fun c4 hb4=>?_)
   cases c4
   ·refine ah ?_
    rw[Uf hc3,hb4,lr]
    exact ak aa
   ·refine ah ?_
    rw[Uf hc3,hb4,fW]
    exact ak aa
def CN (a b c p q r:Rat):Int:=eE (a-p) b (-q) 0 (zc b c) (zc q r)
def rI (a1 b1 a2 b2 c p1 q1 p2 q2 r:Rat):Int:=if CN a1 b1 c p1 q1 r≠0 then CN a1 b1 c p1 q1 r else CN a2 b2 c p2 q2 r
theorem QX {r:Rat}(h:(CN a1 b1 c p1 q1 r !=0)=true):rI a1 b1 a2 b2 c p1 q1 p2 q2 r=CN a1 b1 c p1 q1 r:=by unfold rI;rw[if_pos (by simpa using h)]
theorem Rv {r:Rat}(h:(CN a1 b1 c p1 q1 r !=0)=false):rI a1 b1 a2 b2 c p1 q1 p2 q2 r=CN a2 b2 c p2 q2 r:=by unfold rI;rw[if_neg (by simpa using h)]
theorem Rz.zero (hk:1≤k):Rz k (0:Rat):=⟨⟨by have:=cH k;rw[Rat.zero_num];omega,by have:=cH k;rw[Rat.zero_num];omega⟩,by rw[Rat.zero_den];exact Sz.one hk⟩
theorem Rz.zc (h:Rz k c) (hk:1≤k):Rz k (zc b c):=by
 unfold Go.Proofs.YtegpmhlfjkhjmaaGreat.zc
 split
 ·exact Rz.zero hk
 ·exact h
def rt (c:Rat):Rat:=Rat.divInt (bO c.num) (bO (c.den:Int))
theorem Ry (h:iC c=true):dQ (if iC c then bO c.num else 0) (if iC c then bO (c.den:Int) else 0)=dR (rt c):=by
 rw[if_pos h,if_pos h]
 unfold iC Cy at h
 simp only[dF,beq_iff_eq] at h
 obtain⟨h1,h2⟩:=h
 have d0:=eg (c.den:Int)
 have dp:=den_pos c
 have hd:0<bO (c.den:Int):=by grind
 have hg:Int.gcd (bO c.num) (bO (c.den:Int))=1:=by
  have hr:Int.gcd c.num (c.den:Int)=1:=c.reduced
  have d1:Int.gcd (bO c.num) (bO (c.den:Int))∣Int.gcd c.num (c.den:Int):=by
   refine Int.dvd_gcd ?_ ?_
   ·have t:((Int.gcd (bO c.num) (bO (c.den:Int)):Nat):Int)∣bO c.num*bO c.num:=Int.dvd_mul_of_dvd_left (Int.gcd_dvd_left ..)
    rw[h1] at t;exact t
   ·have t:((Int.gcd (bO c.num) (bO (c.den:Int)):Nat):Int)∣bO (c.den:Int)*bO (c.den:Int):=Int.dvd_mul_of_dvd_left (Int.gcd_dvd_right ..)
    rw[h2] at t;exact t
  rw[hr] at d1
  exact Nat.dvd_one.1 d1
 exact(AP hd (by rw[hg];rfl)).symm
def Rc (x:Nat→Rat):Prop:= ∀e:Rat,0<e→ ∃K:Nat,∀i j,K≤i→K≤j→x i-x j≤e
def Gu (x:Nat→Rat):Prop:= ∃e:Rat,0<e∧ ∃K:Nat,∀k,K≤k→e≤x k
def LG (x:Nat→Rat):Prop:= ∀e:Rat,0<e→ ∃K:Nat,∀k,K≤k→ -e≤x k∧x k≤e
structure Re where
 s:Nat→Rat
 c:Rc s
theorem Re.ext {x y:Re}(h: ∀k,x.s k=y.s k):x=y:=by
 cases x;cases y
 have:_=_:=funext h
 subst this;rfl
theorem nP (h:0<e):0<e/2:=by grind
theorem GR (h:0<e) (h2:0<B):0<e/B∧B*(e/B)=e:=by
 refine⟨?_,by grind⟩
 exact cY h (Rat.inv_pos.2 h2)
theorem Re.bnd (x:Re): ∃B:Rat,0<B∧ ∃K:Nat,∀k,K≤k→ -B≤x.s k∧x.s k≤B:=by
 obtain⟨K,h⟩:=x.c 1 (by decide)
 by_cases hs:0≤x.s K
 ·exact⟨x.s K+1,by grind,K,fun k hk=>by have h1:=h k K hk (cj _);have h2:=h K k (cj _) hk;constructor<;>grind⟩
 ·exact⟨1-x.s K,by grind,K,fun k hk=>by have h1:=h k K hk (cj _);have h2:=h K k (cj _) hk;constructor<;>grind⟩
theorem C3 (q:Rat):Rc (fun _=>q):=fun e he=>⟨0,fun i j _ _=>by grind⟩
theorem Rb {x y:Nat→Rat}(hx:Rc x) (hy:Rc y):Rc (fun k=>x k+y k):=fun e he=>by
 obtain⟨K,h⟩:=hx (e/2) (nP he)
 obtain⟨L,g⟩:=hy (e/2) (nP he)
 exact⟨max K L,fun i j hi hj=>by have h1:=h i j (by omega) (by omega);have h2:=g i j (by omega) (by omega);grind⟩
theorem Q3 {x:Nat→Rat}(hx:Rc x):Rc (fun k=> -x k):=fun e he=>by
 obtain⟨K,h⟩:=hx e he
 exact⟨K,fun i j hi hj=>by have h1:=h j i hj hi;grind⟩
theorem IM (h1: -e≤a) (h2:a≤e) (h3: -f≤b) (h4:b≤f):a*b≤e*f∧ -(e*f)≤a*b:=by
 have p1:0≤(e-a)*(f+b):=f7 (by grind) (by grind)
 have p2:0≤(e+a)*(f-b):=f7 (by grind) (by grind)
 have p3:0≤(e-a)*(f-b):=f7 (by grind) (by grind)
 have p4:0≤(e+a)*(f+b):=f7 (by grind) (by grind)
 grind
theorem RS (x y:Re):Rc (fun k=>x.s k*y.s k):=fun e he=>by
 obtain⟨B,hB,K,hb⟩:=x.bnd
 obtain⟨D,hD,L,hd⟩:=y.bnd
 obtain⟨d1,e1⟩:=GR (nP he) hB
 obtain⟨d2,e2⟩:=GR (nP he) hD
 obtain⟨K',h⟩:=x.c _ d2
 obtain⟨L',g⟩:=y.c _ d1
 refine⟨max (max K L) (max K' L'),fun i j hi hj=>?_⟩
 have b1:=hb i (by omega)
 have b2:=hd j (by omega)
 have h1:=h i j (by omega) (by omega)
 have h2:=h j i (by omega) (by omega)
 have g1:=g i j (by omega) (by omega)
 have g2:=g j i (by omega) (by omega)
 have p1:=(IM b1.1 b1.2 (a:=x.s i) (b:=y.s i-y.s j) (f:=e/2/B) (by grind) (by grind)).1
 have p2:=(IM b2.1 b2.2 (a:=y.s j) (b:=x.s i-x.s j) (f:=e/2/D) (by grind) (by grind)).1
 rw[e1] at p1
 rw[e2] at p2
 grind
def Re.of (q:Rat):Re:=⟨fun _=>q,C3 q⟩
instance:Add Re:=⟨fun x y=>⟨fun k=>x.s k+y.s k,Rb x.c y.c⟩⟩
instance:Neg Re:=⟨fun x=>⟨fun k=> -x.s k,Q3 x.c⟩⟩
instance:_root_.Sub Re:=⟨fun x y=>x+ -y⟩
instance:Mul Re:=⟨fun x y=>⟨fun k=>x.s k*y.s k,RS x y⟩⟩
theorem aI (x y:Re) (k:Nat):(x+y).s k=x.s k+y.s k:=rfl
theorem bg (x:Re) (k:Nat):(-x).s k= -x.s k:=rfl
theorem ao (x y:Re) (k:Nat):(x-y).s k=x.s k+ -y.s k:=rfl
theorem aD (x y:Re) (k:Nat):(x*y).s k=x.s k*y.s k:=rfl
theorem aV (q:Rat) (k:Nat):(Re.of q).s k=q:=rfl
theorem ll (x:Re):Gu x.s∨LG x.s∨Gu (-x).s:=by
 by_cases hn:LG x.s
 ·grind
 ·unfold LG at hn
  obtain⟨e,hn⟩:=Classical.not_forall.1 hn
  obtain⟨he,hn⟩:=Classical.not_imp.1 hn
  obtain⟨K,h⟩:=x.c (e/2) (nP he)
  have hn2:=not_exists.1 hn K
  obtain⟨k,hn3⟩:=Classical.not_forall.1 hn2
  obtain⟨hk,hn4⟩:=Classical.not_imp.1 hn3
  by_cases h1:e<x.s k
  ·exact .inl ⟨e/2,nP he,K,fun j hj=>by have:=h k j hk hj;grind⟩
  ·have h2:x.s k< -e:=by
    apply fH
    grind
   exact .inr (.inr ⟨e/2,nP he,K,fun j hj=>by rw[bg];have:=h j k hj hk;grind⟩)
section
variable {x y z:Re}
theorem Se (h:Gu x.s): ¬Gu (-x).s:=fun g=>by
 obtain⟨e,he,K,h⟩:=h
 obtain⟨f,hf,L,g⟩:=g
 have h1:=h (max K L) (by omega)
 have h2:=g (max K L) (by omega)
 rw[bg] at h2
 grind
theorem Am (h:Gu x.s): ¬LG x.s:=fun g=>by
 obtain⟨e,he,K,h⟩:=h
 obtain⟨L,g⟩:=g (e/2) (nP he)
 have h1:=h (max K L) (by omega)
 have h2:=g (max K L) (by omega)
 grind
theorem Ei (h:LG x.s):LG (-x).s:=fun e he=>by
 obtain⟨K,h⟩:=h e he
 exact⟨K,fun k hk=>by rw[bg];have:=h k hk;constructor<;>grind⟩
theorem Tm (h:LG x.s) (g:LG y.s):LG (x+y).s:=fun e he=>by
 obtain⟨K,h⟩:=h (e/2) (nP he)
 obtain⟨L,g⟩:=g (e/2) (nP he)
 exact⟨max K L,fun k hk=>by rw[aI];have:=h k (by omega);have:=g k (by omega);constructor<;>grind⟩
theorem Ah (h:Gu x.s) (g:LG y.s):Gu (x+y).s:=by
 obtain⟨e,he,K,h⟩:=h
 obtain⟨L,g⟩:=g (e/2) (nP he)
 exact⟨e/2,nP he,max K L,fun k hk=>by rw[aI];have:=h k (by omega);have:=g k (by omega);grind⟩
theorem Kp (h:Gu x.s) (g:Gu y.s):Gu (x+y).s:=by
 obtain⟨e,he,K,h⟩:=h
 obtain⟨f,hf,L,g⟩:=g
 exact⟨e,he,max K L,fun k hk=>by rw[aI];have:=h k (by omega);have:=g k (by omega);grind⟩
theorem AC (h:Gu x.s) (g:Gu y.s):Gu (x*y).s:=by
 obtain⟨e,he,K,h⟩:=h
 obtain⟨f,hf,L,g⟩:=g
 refine⟨e*f,cY he hf,max K L,fun k hk=>?_⟩
 rw[aD]
 have p1:0≤(x.s k-e)*f:=f7 (by grind) (by grind)
 have p2:0≤x.s k*(y.s k-f):=f7 (by grind) (by grind)
 grind
theorem xN (x:Re) (g:LG y.s):LG (x*y).s:=fun e he=>by
 obtain⟨B,hB,K,hb⟩:=x.bnd
 obtain⟨d1,e1⟩:=GR he hB
 obtain⟨L,g⟩:=g _ d1
 refine⟨max K L,fun k hk=>?_⟩
 rw[aD]
 have h1:=hb k (by omega)
 have h2:=g k (by omega)
 have p:=IM h1.1 h1.2 h2.1 h2.2
 rw[e1] at p
 exact⟨p.2,p.1⟩
theorem Mh (x:Re): - -x=x:=Re.ext fun k=>by rw[bg,bg];grind
theorem vx (x y:Re):x*y=y*x:=Re.ext fun k=>by rw[aD,aD];grind
theorem LY (x y:Re): -(x*y)= -x*y:=Re.ext fun k=>by rw[bg,aD,aD,bg];grind
theorem LX (x y:Re): -(x*y)=x* -y:=Re.ext fun k=>by rw[bg,aD,aD,bg];grind
theorem CW (x y:Re): -(x+y)= -x+ -y:=Re.ext fun k=>by rw[bg,aI,aI,bg,bg];grind
noncomputable def aO (x:Re):Int:=open Classical in if Gu x.s then 1 else if Gu (-x).s then-1 else 0
theorem oB:aO x=1↔Gu x.s:=by
 unfold aO
 split
 ·rename_i h;simp[h]
 ·rename_i h;split<;>simp[h]
theorem nD:aO x= -1↔Gu (-x).s:=by
 unfold aO
 split
 ·rename_i h;simp[Se h]
 grind
theorem mx:aO x=0↔LG x.s:=by
 unfold aO
 split
 ·rename_i h;simp[Am h]
 ·rename_i h
  split
  ·rename_i h2
   have h3:=Am h2
   simp
   exact fun g=>h3 (Ei g)
  ·rename_i h2
   simp
   exact((ll x).resolve_left h).resolve_right h2
theorem bp (x:Re):aO x=1∨aO x=0∨aO x= -1:=by
 rcases ll x with h|h|h
 ·exact .inl (oB.2 h)
 ·exact .inr (.inl (mx.2 h))
 ·exact .inr (.inr (nD.2 h))
theorem b8 (x:Re):aO (-x)= -aO x:=by
 rcases ll x with h|h|h
 ·rw[oB.2 h,nD,Mh];exact h
 ·rw[mx.2 h,mx.2 (Ei h)];rfl
 ·rw[nD.2 h,oB.2 h];rfl
theorem bj (x y:Re):aO (x*y)=aO x*aO y:=by
 rcases ll x with h|h|h<;>rcases ll y with g|g|g
 ·rw[oB.2 h,oB.2 g,oB.2 (AC h g)];rfl
 ·rw[oB.2 h,mx.2 g,mx.2 (xN x g)];rfl
 ·rw[oB.2 h,nD.2 g,oi,nD,LX];exact AC h g
 ·rw[mx.2 h,lX,mx,vx];exact xN y h
 ·rw[mx.2 h,lX,mx,vx];exact xN y h
 ·rw[mx.2 h,lX,mx,vx];exact xN y h
 ·rw[nD.2 h,oB.2 g,ri,nD,LY];exact AC h g
 ·rw[nD.2 h,mx.2 g,mx.2 (xN x g)];rfl
 ·rw[nD.2 h,nD.2 g]
  have e:x*y= -x* -y:=Re.ext fun k=>by rw[aD,aD,bg,bg];grind
  rw[e,oB.2 (AC h g)];rfl
theorem dE (x:Re) (h:aO y=0):aO (x+y)=aO x:=by
 have g:=mx.1 h
 rcases ll x with h|h|h
 ·rw[oB.2 h,oB.2 (Ah h g)]
 ·rw[mx.2 h,mx.2 (Tm h g)]
 ·rw[nD.2 h,nD,CW];exact Ah h (Ei g)
theorem Kh (x y:Re):x+y=y+x:=Re.ext fun k=>by rw[aI,aI];grind
theorem mm (h:aO x=0) (y:Re):aO (x+y)=aO y:=by rw[Kh];exact dE y h
theorem jf (h:aO x=aO y):aO (x+y)=aO x:=by
 rcases bp x with g|g|g
 ·rw[g,oB];exact Kp (oB.1 g) (oB.1 (h.symm.trans g))
 ·rw[dE x (h.symm.trans g)]
 ·rw[g,nD,CW];exact Kp (nD.1 g) (nD.1 (h.symm.trans g))
theorem pZ (h:0≤aO x) (g:0≤aO y):0≤aO (x+y):=by
 rcases bp x with a|a|a
 ·rcases bp y with b|b|b
  ·rw[jf (a.trans b.symm)];exact h
  ·rw[dE x b];exact h
  grind
 ·rw[mm a];exact g
 grind
theorem B7 (h:0<aO x) (g:0≤aO y):0<aO (x+y):=by
 rcases bp y with b|b|b
 ·rcases bp x with a|a|a
  ·rw[jf (a.trans b.symm)];exact h
  ·omega
  grind
 ·rw[dE x b];exact h
 grind
theorem dC (h:aO (x-y)=0):aO x=aO y:=by
 have e:x=(x-y)+y:=Re.ext fun k=>by rw[aI,ao];grind
 rw[e]
 exact mm h y
theorem ca (q:Rat):aO (Re.of q)=aw q 0:=by
 unfold aw
 split
 ·rename_i h
  exact nD.2 ⟨-q,by grind,0,fun k _=>by rw[bg,aV];grind⟩
 ·split
  ·rename_i h;exact oB.2 ⟨q,h,0,fun k _=>by rw[aV];grind⟩
  ·exact mx.2 fun e he=>⟨0,fun k _=>by rw[aV];constructor<;>grind⟩
end
theorem Gp {X Y r n:Re}(hr:0≤aO r) (hn:aO (r*r-n)=0):aO (X+Y*r)=rf (aO X) (aO Y*aO n) (aO (X*X-Y*Y*n)):=by
 have hrn:aO r=aO n:=by
  have h1:=dC hn
  rw[bj] at h1
  rcases bp r with h|h|h
  ·grind
  ·grind
  grind
 have ht:aO (Y*r)=aO Y*aO n:=by rw[bj,hrn]
 rw[←ht]
 unfold rf
 split
 ·rename_i h
  rcases h with h|h
  ·exact dE X h
  ·exact jf h
 ·rename_i h
  split
  ·rename_i h2;exact mm h2 _
  ·rename_i h2
   have hopp:aO (Y*r)= -aO X:=by
    have a:=bp X
    have b:=bp (Y*r)
    omega
   have hm:aO (X+ -(Y*r))=aO X:=jf (by rw[b8,hopp];omega)
   have e1:aO ((X+Y*r)*(X+ -(Y*r)))=aO (X*X-Y*Y*n):=by
    refine dC ?_
    have e:(X+Y*r)*(X+ -(Y*r))-(X*X-Y*Y*n)= -(Y*Y)*(r*r-n):=Re.ext fun k=>by
     simp only[ao,aD,aI,bg];grind
    rw[e,bj,hn,og]
   rw[bj,hm] at e1
   have a:=bp X
   grind
def wI (m:Rat) (k:Nat):Rat:=(((m.den:Int)*((k:Int)+1):Int):Rat)
def Uv (m:Rat) (k:Nat):Int:=bO (m.num*(m.den:Int)*(((k:Int)+1)*((k:Int)+1)))
def xH (m:Rat) (k:Nat):Rat:=((Uv m k:Int):Rat)/wI m k
theorem ph {x y:Rat}(hd:0<d) (h:x*d≤y*d):x≤y:=by
 apply fH
 intro hn
 have h1:0<(x-y)*d:=cY (by grind) hd
 grind
theorem tN (m:Rat):m*((m.den:Int):Rat)=((m.num:Int):Rat):=by
 have h:=Rat.num_divInt_den m
 rw[Rat.divInt_eq_div] at h
 have hd:(0:Rat)<((m.den:Int):Rat):=tH.2 (by have:=m.den_pos;omega)
 grind
theorem yC (m:Rat) (k:Nat):0<wI m k:=by
 have h1:=den_pos m
 have h2:(0:Int)<(m.den:Int)*((k:Int)+1):=by grind
 exact tH.2 h2
theorem Eo (m:Rat) (k:Nat):xH m k*wI m k=((Uv m k:Int):Rat):=by
 have:=yC m k
 unfold xH;grind
theorem QD (m:Rat) (k:Nat):m*(wI m k*wI m k)=((m.num*(m.den:Int)*(((k:Int)+1)*((k:Int)+1)):Int):Rat):=by
 have h:=tN m
 unfold wI
 grind
theorem XQ (m:Rat) (k:Nat):0≤Uv m k:=eg _
theorem MR (h:0≤m) (k:Nat):0≤m.num*(m.den:Int)*(((k:Int)+1)*((k:Int)+1)):=
 fK (fK (Rat.num_nonneg.2 h) (by have:=den_pos m;omega)) (fK (by omega) (by omega))
theorem FE (m:Rat) (k:Nat):0≤xH m k:=by
 refine ph (yC m k) ?_
 rw[Eo]
 have:(0:Rat)≤((Uv m k:Int):Rat):=Rat.intCast_nonneg.2 (XQ m k)
 grind
theorem Qu (h:0≤m) (k:Nat):xH m k*xH m k≤m:=by
 have hd:=yC m k
 refine ph (cY hd hd) ?_
 rw[QD]
 have e:xH m k*xH m k*(wI m k*wI m k)=((Uv m k*Uv m k:Int):Rat):=by
  rw[fE,←Eo];grind
 rw[e]
 exact ef.2 (qL (MR h k))
theorem NF (h:0≤m) (k:Nat):m<(xH m k+1/wI m k)*(xH m k+1/wI m k):=by
 have hd:=yC m k
 have e:(xH m k+1/wI m k)*(xH m k+1/wI m k)*(wI m k*wI m k)=(((Uv m k+1)*(Uv m k+1):Int):Rat):=by
  rw[fE,iE,←Eo]
  grind
 have h1:=iv.2 (v7 (MR h k))
 rw[←QD] at h1
 have h2:m*(wI m k*wI m k)<(xH m k+1/wI m k)*(xH m k+1/wI m k)*(wI m k*wI m k):=by rw[e];exact h1
 apply fH
 intro hn
 have h3:0≤(m-(xH m k+1/wI m k)*(xH m k+1/wI m k))*(wI m k*wI m k):=f7 (by grind) (by have:=cY hd hd;grind)
 grind
theorem y7 (m:Rat) (he:0<e) (hk:e.den≤k):0<1/wI m k∧1/wI m k≤e:=by
 have hd:=yC m k
 refine⟨?_,?_⟩
 ·have:=(GR (e:=1) (by decide) hd).1;exact this
 ·refine ph hd ?_
  have h1:=tN e
  have h2:0<e.num:=tH.1 (by rw[←h1];exact cY he (tH.2 (by have:=e.den_pos;omega)))
  have h3:(1:Rat)≤((e.num:Int):Rat):=by
   have:((1:Int):Rat)≤((e.num:Int):Rat):=ef.2 (by omega)
   grind
  have h4:((e.den:Int):Rat)≤wI m k:=by
   refine ef.2 ?_
   have:=den_pos m
   have h5:1*((k:Int)+1)≤(m.den:Int)*((k:Int)+1):=zw (by omega) (by omega)
   omega
  have h6:0≤e*(wI m k-((e.den:Int):Rat)):=f7 (by grind) (by grind)
  grind
theorem XC (h:0≤m):Rc (xH m):=fun e he=>by
 refine⟨e.den,fun i j _ hj=>?_⟩
 obtain⟨hp,hs⟩:=y7 m he hj
 have h1:=Qu h i
 have h2:=NF h j
 have h3:=FE m i
 have h4:=FE m j
 apply fH
 intro hn
 have h5:0≤(xH m i-(xH m j+1/wI m j))*(xH m i+(xH m j+1/wI m j)):=f7 (by grind) (by grind)
 grind
def Re.rt (m:Rat):Re:=⟨fun k=>if 0≤m then xH m k else 0,by
 by_cases h:0≤m
 ·simp only[h,if_true];exact XC h
 ·simp only[h,if_false];exact C3 0⟩
theorem WT {x:Re}(h: ∀k,0≤x.s k):0≤aO x:=by
 rcases bp x with a|a|a
 ·omega
 ·omega
 ·obtain⟨e,he,K,g⟩:=nD.1 a
  have h1:=g K (cj _)
  rw[bg] at h1
  grind
theorem uk (m:Rat):0≤aO (Re.rt m):=WT fun k=>by
 show 0≤(if 0≤m then xH m k else 0)
 split
 ·exact FE m k
 ·exact kO
theorem my (h:0≤m):aO (Re.rt m*Re.rt m-Re.of m)=0:=mx.2 fun e he=>by
 obtain⟨d1,d2⟩:=GR he (show 0<2*m+3 by grind)
 refine⟨(e/(2*m+3)).den,fun k hk=>?_⟩
 rw[ao,aD,aV]
 show-e≤(if 0≤m then xH m k else 0)*(if 0≤m then xH m k else 0)+ -m∧(if 0≤m then xH m k else 0)*(if 0≤m then xH m k else 0)+ -m≤e
 rw[if_pos h]
 obtain⟨hp,hs⟩:=y7 m d1 hk
 obtain⟨hp1,hs1⟩:=y7 m (e:=1) (by decide) (k:=k) (by
  have:(1:Rat).den=1:=rfl
  rw[this]
  have:=(e/(2*m+3)).den_pos
  omega)
 have h1:=Qu h k
 have h2:=NF h k
 have h3:=FE m k
 refine⟨?_,by grind⟩
 have h4:xH m k≤m+1:=by
  apply fH
  intro hn
  have h5:0≤(xH m k-(m+1))*(xH m k+(m+1)):=f7 (by grind) (by grind)
  have h6:0≤m*m:=f7 h h
  grind
 generalize 1/wI m k=d at*
 have h7:0≤d*((m+1)-xH m k):=f7 (by grind) (by grind)
 have h8:0≤d*(1-d):=f7 (by grind) (by grind)
 have h9:0≤(2*m+3)*(e/(2*m+3)-d):=f7 (by grind) (by grind)
 grind
theorem f9 (x y:Rat):aw (x-y) 0=aw x y:=by
 unfold aw
 grind
theorem gg (x y:Rat):Re.of x*Re.of y=Re.of (x*y):=rfl
theorem MS (x:Rat): -Re.of x=Re.of (-x):=rfl
theorem Wn (x y:Rat):Re.of x+Re.of y=Re.of (x+y):=rfl
theorem wN (x y:Rat):Re.of x-Re.of y=Re.of (x-y):=Re.ext fun k=>by rw[ao,aV,aV,aV];grind
def am (a b m:Rat):Re:=Re.of a+Re.of b*Re.rt m
theorem iD (h:0≤m):bd a b m=aO (am a b m):=by
 unfold am
 rw[Gp (n:=Re.of m) (uk m) (my h),ca,ca,ca,gg,gg,gg,wN,ca,f9]
 rfl
def jo (A B C D M N:Rat):Re:=am A B M+am C D M*Re.rt N
theorem mi (hM:0≤M) (hN:0≤N):eE A B C D M N=aO (jo A B C D M N):=by
 unfold jo
 rw[Gp (n:=Re.of N) (uk N) (my hN),←iD hM,←iD hM,ca,vK (by grind) (by grind)]
 have e:aO (am A B M*am A B M-am C D M*am C D M*Re.of N)=aO (am (Dr A B C D M N) (wy A B C D N+wy A B C D N) M):=by
  refine dC ?_
  have e:(am A B M*am A B M-am C D M*am C D M*Re.of N)-am (Dr A B C D M N) (wy A B C D N+wy A B C D N) M=(Re.of (B*B-D*D*N))*(Re.rt M*Re.rt M-Re.of M):=Re.ext fun k=>by
   unfold am Dr wy
   simp only[ao,aD,aI,aV];grind
  rw[e,bj,my hM,og]
 rw[e,←iD hM]
theorem mW (hc:0≤c) (hf:0≤f):eE (a-d) b (-e) 0 c f=aO (am a b c-am d e f):=by
 rw[mi hc hf]
 refine congrArg aO (Re.ext fun k=>?_)
 unfold jo am
 simp only[ao,aD,aI,aV];grind
section
variable {P:Program}{ops:Array Oper}{T:TF}{B:BF}
theorem sy {x y:Operand}{k yk:IntKind}{m:Int}
 (hx:cO T x=some (.v (.c (.i k m)))) (hy:cO T y=some (.v (.c (.i yk n)))) (h0: ¬n<0) (hr:m.fdiv (2^(min n.toNat k.bits))=r) (hg:gd ops ⟨dst,.binOp .shr xt x y yt,ty,pos,af,g⟩ T=some true):
 Sem P ops ⟨dst,.binOp .shr xt x y yt,ty,pos,af,g⟩ T B (.r (.v (.c (.i k r)))):=
 bG hg (qo rfl) (fun V β a w hs=>by
  have e1:a.eval x=.int k m:=fO (ap hs (x:=x) (by simp[Op.operands]) hx)
  have e2:a.eval y=.int yk n:=fO (ap hs (x:=y) (by simp[Op.operands]) hy)
  subst hr
  exact⟨.int k (m.fdiv (2^(min n.toNat k.bits))),by simp[execOp,e1,e2,eqGuard,binOp,Op.shift,h0],.i _ _⟩)
theorem R6 {x y:Operand}{k yk:IntKind}{m:Int}
 (hx:cO T x=some (.v (.c (.i k m)))) (hy:cO T y=some (.v (.c (.i yk n)))) (h0: ¬n<0) (hr:k.wrap (m*2^(min n.toNat k.bits))=r) (hg:gd ops ⟨dst,.binOp .shl xt x y yt,ty,pos,af,g⟩ T=some true):
 Sem P ops ⟨dst,.binOp .shl xt x y yt,ty,pos,af,g⟩ T B (.r (.v (.c (.i k r)))):=
 bG hg (qo rfl) (fun V β a w hs=>by
  have e1:a.eval x=.int k m:=fO (ap hs (x:=x) (by simp[Op.operands]) hx)
  have e2:a.eval y=.int yk n:=fO (ap hs (x:=y) (by simp[Op.operands]) hy)
  subst hr
  exact⟨.int k (k.wrap (m*2^(min n.toNat k.bits))),by simp[execOp,e1,e2,eqGuard,binOp,Op.shift,h0],.i _ _⟩)
end
def qb (x:Int):Int:=bO (max x 0*65536)
def kw (y:Int):Int:=if Cy (y*65536) then bO (y*65536) else bO (y*65536)+1
theorem Bh (h0:0≤n) (h1:n≤2305843009213693952):0≤bO (n*65536)∧bO (n*65536)≤549755813888:=by
 refine⟨eg _,?_⟩
 have h2:=qL (x:=n*65536) (by omega)
 by_cases h:bO (n*65536)≤549755813888
 ·exact h
 ·have:=Qh (a:=549755813889) (b:=bO (n*65536)) (by decide) (by omega)
  omega
theorem LQ (h0: -4611686018427387904≤x) (h1:x≤4611686018427387904):w8 x=true:=S9.2 ⟨by omega,by omega⟩
theorem F6 (h0: -2305843009213693952≤lo) (h1:hi≤2305843009213693952):wm lo hi=true:=TZ (by omega) (by omega)
theorem oH (ha:Rz 4000000 a):Ok Tryz.prog 238 [dR a] [.a (([.i .i64 (if iO a then ji a else 0)]++[.i .i64 (if iO a then iN a else 0)])),.c (.b (iO a))]:=by
 have hz:Rz 6000000 (a*((65536:Int):Rat)):=(aF ha (dm (cX (k:=3) (by decide) (by decide) (by decide)) (by decide))).m_
 have ha3:Rz 6000000 a:=ha.m_
 have h65:Rz 6000000 ((65536:Int):Rat):=(dm (cX (k:=3) (by decide) (by decide) (by decide)) (by decide)).m_
 have hzn:Rz 6000000 (-(a*((65536:Int):Rat))):=hz.neg
 have hs1:Sz 100000000 (ji a):=(Sz.fdiv hz.n).m_
 have hs2:Sz 100000000 ((-(a*((65536:Int):Rat))).num.fdiv ((-(a*((65536:Int):Rat))).den:Int)):=(Sz.fdiv hzn.n).m_
 have hs3:Sz 100000000 (iN a):=hs2.neg
 have hf1:Ok Tryz.prog 323 [dR (a*((65536:Int):Rat))] [dI (ji a)]:=wF hz
 have hf3:Ok Tryz.prog 167 [dI ((-(a*((65536:Int):Rat))).num.fdiv ((-(a*((65536:Int):Rat))).den:Int))] [dI (iN a)]:=yi hs2
 refine ex Tryz.func238 38 [.cell 2 230,.tmp 3] rfl<|ae<|ag<|ae<|fb 4 [] ?_
 refine aC rfl (fX (by omega) (by omega)) ?_
 refine aC rfl (cB (by first|assumption|exact bY (by assumption) (by decide)) (by first|assumption|exact bY (dm (cX (k:=3) (by decide) (by decide) (by decide)) (by decide)) (by decide))) ?_
 refine ae<|ag ?_
 refine ac rfl (hf1) ?_
 refine ac rfl (zp (by first|assumption|exact Sz.mono (by assumption) (by decide))) ?_
 refine ae<|ag ?_
 refine ac rfl (dD (by first|assumption|exact bY (aF (by assumption) (dm (cX (k:=3) (by decide) (by decide) (by decide)) (by decide))) (by decide))) ?_
 refine ac rfl (wF hzn)<|ac rfl (hf3) ?_
 refine ac rfl (zp (by first|assumption|exact Sz.mono (by assumption) (by decide))) ?_
 refine ae<|ae<|ag ?_
 refine jC (bq rfl) (fun c1 hb1=>?_)
 cases c1
 ·refine aS rfl (fun hc2=>?_) (fun hc2=>?_)
  ·refine ae<|ag<|ar (az (us:=([.i .i64 0]++[.i .i64 0])) qx pt rfl rfl rfl) ?_
   refine a9 ?_
   rw[show iO a=false from by unfold iO;rw[jw hc2,lr,lU],if_neg (by decide),if_neg (by decide)]
   exact ah (aQ jz rfl (ak aa))
  ·have e1:=eZ hb1
   have e2:=eZ hc2
   refine oC (σ':=⟨38,[(2,.p 2 0),(5,.v (.c (.i .i64 (ji a)))),(7,.v (.c (.i .i64 (iN a))))],[(2,230,([.i .i64 0]++[.i .i64 0]))]⟩) (aA ⟨rfl,by rw[if_pos e1];rfl,by rw[if_pos e2];rfl,trivial⟩ ⟨rfl,trivial⟩ rfl) ?_
   refine aB<|ae<|ag<|ac rfl (sF) ?_
   refine a9 ?_
   rw[show iO a=wm (ji a) (iN a) from by unfold iO;rw[e1,e2];rfl]
   exact ah (aQ jz rfl (ak aa))
 ·refine dG rfl<|ae<|ag<|ar (az (us:=([.i .i64 0]++[.i .i64 0])) qx pt rfl rfl rfl) ?_
  refine a9 ?_
  rw[show iO a=false from by unfold iO;rw[jw hb1];rfl,if_neg (by decide),if_neg (by decide)]
  exact ah (aQ jz rfl (ak aa))
theorem Gv (h0:0≤n) (h1:n≤2305843009213693952):Ok Tryz.prog 387 [.c (.i .i64 n)] [.c (.i .i64 (bO (n*65536))),.c (.b (Cy (n*65536)))]:=by
 have z1:Sz 100000000 n:=cX (by decide) (by omega) (by omega)
 have z2:Sz 100000000 (65536:Int):=cX (by decide) (by decide) (by decide)
 have z4:Sz 3 (n*65536):=⟨by have:pw 3=1000000000000000000000000000:=by decide
                             omega,by have:pw 3=1000000000000000000000000000:=by decide
                                      omega⟩
 have z5:Sz 99999999 (n*65536):=z4.m_
 have z6:Sz 100000000 (bO (n*65536)):=z4.isq.m_
 have hb:=Bh h0 h1
 have e0:(if w8 (bO (n*65536)) then bO (n*65536) else 0)=bO (n*65536):=by rw[LQ (by omega) (by omega),if_pos rfl]
 refine bW Tryz.func387 rfl<|ac rfl (iy (by omega) (by omega))<|ac rfl (iy (by omega) (by omega)) ?_
 refine ac rfl (fS (by first|assumption|exact Sz.mono (by assumption) (by decide)) (by first|assumption|exact Sz.mono (cX (k:=3) (by decide) (by decide) (by decide)) (by decide))) ?_
 refine ac rfl (BZ (by first|assumption|exact Sz.mono (dh (by assumption) (cX (k:=3) (by decide) (by decide) (by decide))) (by decide))) ?_
 refine ac rfl ((show Ok Tryz.prog 322 [dI (bO (n*65536))] [.c (.i .i64 (bO (n*65536))),.c (.b (w8 (bO (n*65536))))] from by have:=zp z6;rw[e0] at this;exact this))<|cz 9 [] ?_
 refine aC rfl (fS (by first|assumption|exact Sz.mono (Sz.isq (dh (by assumption) (cX (k:=3) (by decide) (by decide) (by decide)))) (by decide)) (by first|assumption|exact Sz.mono (Sz.isq (dh (by assumption) (cX (k:=3) (by decide) (by decide) (by decide)))) (by decide))) ?_
 refine aC rfl (oR)<|ah ?_
 rw[JE]
 exact ak (ak aa)
theorem HN (h0: -2305843009213693952≤x) (h1:x≤2305843009213693952) (h2: -2305843009213693952≤y) (h3:y≤2305843009213693952) (hn: ¬y<0):Ok Tryz.prog 365 [.a (([.i .i64 x]++[.i .i64 y]))] [.a (([.i .i64 (qb x)]++[.i .i64 (kw y)])),.c (.b true)]:=by
 have b1:=Bh (n:=max x 0) (by omega) (by omega)
 have b2:=Bh (n:=y) (by omega) h3
 refine bW Tryz.func365 rfl ?_
 refine df rfl (fun hc1=>?_) (fun hc1=>?_)
 ·exact absurd (wv hc1) hn
 ·refine ar (E7 rfl rfl rfl) ?_
  refine ac rfl (Gv (by omega) (by omega))<|ac rfl (Gv (by omega) (by omega)) ?_
  refine df rfl (fun hc2=>?_) (fun hc2=>?_)
  ·refine ar (bZ ((bO (y*65536))+1) (bm (by omega) (by omega)) rfl)<|ac rfl ((show Ok Tryz.prog 324 [.c (.i .i64 (bO ((max x 0)*65536))),.c (.i .i64 ((bO (y*65536))+1))] [.a ([.i .i64 (bO ((max x 0)*65536))]++[.i .i64 ((bO (y*65536))+1)]),.c (.b true)] from by have:=sF (x:=bO ((max x 0)*65536)) (y:=(bO (y*65536))+1);rw[F6 (by omega) (by omega),if_pos rfl,if_pos rfl] at this;exact this)) ?_
   refine ah ?_
   unfold qb kw
   rw[jw hc2,if_neg (by decide)]
   exact aQ jz rfl (ak aa)
  ·refine ac rfl ((show Ok Tryz.prog 324 [.c (.i .i64 (bO ((max x 0)*65536))),.c (.i .i64 (bO (y*65536)))] [.a ([.i .i64 (bO ((max x 0)*65536))]++[.i .i64 (bO (y*65536))]),.c (.b true)] from by have:=sF (x:=bO ((max x 0)*65536)) (y:=bO (y*65536));rw[F6 (by omega) (by omega),if_pos rfl,if_pos rfl] at this;exact this)) ?_
   refine ah ?_
   unfold qb kw
   rw[eZ hc2,if_pos rfl]
   exact aQ jz rfl (ak aa)
theorem J6 (h0: -2305843009213693952≤x) (h1:x≤2305843009213693952) (h2: -2305843009213693952≤y) (h3:y≤2305843009213693952) (h4: -2305843009213693952≤u) (h5:u≤2305843009213693952) (h6: -2305843009213693952≤v) (h7:v≤2305843009213693952):Ok Tryz.prog 240 [.a (([.i .i64 x]++[.i .i64 y])),.a (([.i .i64 u]++[.i .i64 v]))] [.a (([.i .i64 (if wm (x+u) (y+v) then x+u else 0)]++[.i .i64 (if wm (x+u) (y+v) then y+v else 0)])),.c (.b (wm (x+u) (y+v)))]:=by
 refine bW Tryz.func240 rfl<|ar (bZ (x+u) (bm (by omega) (by omega)) rfl) ?_
 refine ar (bZ (y+v) (bm (by omega) (by omega)) rfl) ?_
 refine ac rfl (sF) ?_
 exact ah (aQ jz rfl (ak aa))
theorem Kf (h0: -9223372036854775808≤x) (h1:x≤9223372036854775807):Ok Tryz.prog 367 [.c (.i .i64 x)] [.c (.i .u64 (x.natAbs:Int))]:=by
 refine bW Tryz.func367 rfl ?_
 refine df rfl (fun hc1=>?_) (fun hc1=>?_)
 ·have hn:=wv hc1
  have e:(x.natAbs:Int)= -x:=by omega
  refine ar (bv (r:=x+18446744073709551616) tW fA rfl (GQ hn h0) rfl) ?_
  refine ar (fi (r:= -x) rfl (DG hn h0) rfl) ?_
  refine ah ?_
  rw[e]
  exact ak aa
 ·have hn:=oh hc1
  have e:(x.natAbs:Int)=x:=by omega
  refine ar (bv (r:=x) tW fA rfl (gZ (by omega) (by omega)) rfl) ?_
  refine ah ?_
  rw[e]
  exact ak aa
section
variable {P:Program}{ops:Array Oper}{T:TF}{B:BF}
theorem AZ {x y:Operand}{k:IntKind}{m:Int}
 (hx:cO T x=some (.v (.c (.i k m)))) (hy:cO T y=some (.v (.c (.i k n)))) (hr:k.wrap ((BitVec.ofInt k.bits m&&&BitVec.ofInt k.bits n).toNat:Int)=r) (hg:gd ops ⟨dst,.binOp .and xt x y yt,ty,pos,af,g⟩ T=some true):
 Sem P ops ⟨dst,.binOp .and xt x y yt,ty,pos,af,g⟩ T B (.r (.v (.c (.i k r)))):=
 bG hg (qo rfl) (fun V β a w hs=>by
  have e1:a.eval x=.int k m:=fO (ap hs (x:=x) (by simp[Op.operands]) hx)
  have e2:a.eval y=.int k n:=fO (ap hs (x:=y) (by simp[Op.operands]) hy)
  subst hr
  exact⟨.int k (k.wrap ((BitVec.ofInt k.bits m&&&BitVec.ofInt k.bits n).toNat:Int)),by simp[execOp,e1,e2,eqGuard,binOp,Op.intBits],.i _ _⟩)
theorem XX {x y:Operand}{k:IntKind}{m:Int}
 (hx:cO T x=some (.v (.c (.i k m)))) (hy:cO T y=some (.v (.c (.i k n)))) (hr:k.wrap ((BitVec.ofInt k.bits m|||BitVec.ofInt k.bits n).toNat:Int)=r) (hg:gd ops ⟨dst,.binOp .or xt x y yt,ty,pos,af,g⟩ T=some true):
 Sem P ops ⟨dst,.binOp .or xt x y yt,ty,pos,af,g⟩ T B (.r (.v (.c (.i k r)))):=
 bG hg (qo rfl) (fun V β a w hs=>by
  have e1:a.eval x=.int k m:=fO (ap hs (x:=x) (by simp[Op.operands]) hx)
  have e2:a.eval y=.int k n:=fO (ap hs (x:=y) (by simp[Op.operands]) hy)
  subst hr
  exact⟨.int k (k.wrap ((BitVec.ofInt k.bits m|||BitVec.ofInt k.bits n).toNat:Int)),by simp[execOp,e1,e2,eqGuard,binOp,Op.intBits],.i _ _⟩)
end
theorem yZ (n:Nat) (h:n<18446744073709551616):(BitVec.ofInt 64 (n:Int)).toNat=n:=by
 rw[BitVec.toNat_ofInt];omega
theorem PX (h0:0≤x) (h1:x≤18446744073709551615):IntKind.u64.wrap ((BitVec.ofInt IntKind.u64.bits x&&&BitVec.ofInt IntKind.u64.bits 4294967295).toNat:Int)=x%4294967296:=by
 obtain⟨n,rfl⟩:=yX h0
 have e:(BitVec.ofInt IntKind.u64.bits (n:Int)&&&BitVec.ofInt IntKind.u64.bits 4294967295).toNat=n%4294967296:=by
  show(BitVec.ofInt 64 (n:Int)&&&BitVec.ofInt 64 ((4294967295:Nat):Int)).toNat=_
  rw[BitVec.toNat_and,yZ n (by omega),yZ _ (by decide)]
  exact Nat.and_two_pow_sub_one_eq_mod n 32
 rw[e,gZ (by omega) (by omega)];omega
theorem YX (h0:0≤x) (h1:x≤18446744073709551615):IntKind.u64.wrap ((BitVec.ofInt IntKind.u64.bits x&&&BitVec.ofInt IntKind.u64.bits 65535).toNat:Int)=x%65536:=by
 obtain⟨n,rfl⟩:=yX h0
 have e:(BitVec.ofInt IntKind.u64.bits (n:Int)&&&BitVec.ofInt IntKind.u64.bits 65535).toNat=n%65536:=by
  show(BitVec.ofInt 64 (n:Int)&&&BitVec.ofInt 64 ((65535:Nat):Int)).toNat=_
  rw[BitVec.toNat_and,yZ n (by omega),yZ _ (by decide)]
  exact Nat.and_two_pow_sub_one_eq_mod n 16
 rw[e,gZ (by omega) (by omega)];omega
theorem aa4 {h l:Int}(h0:0≤h) (h1:h<65536) (l0:0≤l) (l1:l<281474976710656):IntKind.u64.wrap ((BitVec.ofInt IntKind.u64.bits (h*281474976710656)|||BitVec.ofInt IntKind.u64.bits l).toNat:Int)=h*281474976710656+l:=by
 obtain⟨n,rfl⟩:=yX h0
 obtain⟨m,rfl⟩:=yX l0
 have e:(BitVec.ofInt IntKind.u64.bits ((n:Int)*281474976710656)|||BitVec.ofInt IntKind.u64.bits (m:Int)).toNat=n*281474976710656+m:=by
  show(BitVec.ofInt 64 ((n:Int)*((281474976710656:Nat):Int))|||BitVec.ofInt 64 (m:Int)).toNat=_
  rw[←Int.natCast_mul,BitVec.toNat_or,yZ _ (by omega),yZ _ (by omega)]
  have:=Nat.two_pow_add_eq_or_of_lt (i:=48) (b:=m) (by omega) n
  grind
 rw[e,gZ (by omega) (by omega)];omega
theorem GA:x.fdiv (2^(min (32:Int).toNat IntKind.u64.bits))=x/4294967296:=by
 rw[show(2:Int)^(min (32:Int).toNat IntKind.u64.bits)=4294967296 from rfl];exact ow _ (by decide)
theorem UJ:x.fdiv (2^(min (16:Int).toNat IntKind.u64.bits))=x/65536:=by
 rw[show(2:Int)^(min (16:Int).toNat IntKind.u64.bits)=65536 from rfl];exact ow _ (by decide)
theorem Zs (h0:0≤x) (h1:x<65536):IntKind.u64.wrap (x*2^(min (48:Int).toNat IntKind.u64.bits))=x*281474976710656:=by
 rw[show(2:Int)^(min (48:Int).toNat IntKind.u64.bits)=281474976710656 from rfl,gZ (by omega) (by omega)]
theorem aa3:IntKind.u64.wrap x=x%18446744073709551616:=by unfold IntKind.wrap;simp[IntKind.bits,IntKind.signed]
theorem Zz (_h0:0≤x) (_h1:x≤18446744073709551615) (_h2:0≤y) (_h3:y≤18446744073709551615):
 (x/4294967296)*(y/4294967296)+((x/4294967296)*(y%4294967296)+(x%4294967296)*(y%4294967296)/4294967296)/4294967296+(((x/4294967296)*(y%4294967296)+(x%4294967296)*(y%4294967296)/4294967296)%4294967296+(x%4294967296)*(y/4294967296))/4294967296=x*y/18446744073709551616:=by
 obtain⟨a,ha⟩: ∃a,x/4294967296=a:=⟨_,rfl⟩
 obtain⟨b,hb⟩: ∃b,x%4294967296=b:=⟨_,rfl⟩
 obtain⟨c,hc⟩: ∃c,y/4294967296=c:=⟨_,rfl⟩
 obtain⟨d,hd⟩: ∃d,y%4294967296=d:=⟨_,rfl⟩
 rw[ha,hb,hc,hd]
 have e:x*y=18446744073709551616*(a*c)+4294967296*(a*d)+4294967296*(b*c)+b*d:=by grind
 omega
theorem LR (h0:0≤x) (h1:x≤18446744073709551615) (h2:0≤y) (h3:y≤18446744073709551615):Ok Tryz.prog 366 [.c (.i .u64 x),.c (.i .u64 y)] [.c (.i .u64 (x*y/18446744073709551616)),.c (.i .u64 (x*y%18446744073709551616))]:=by
 obtain⟨a,ha⟩: ∃a,x/4294967296=a:=⟨_,rfl⟩
 obtain⟨b,hb⟩: ∃b,x%4294967296=b:=⟨_,rfl⟩
 obtain⟨c,hc⟩: ∃c,y/4294967296=c:=⟨_,rfl⟩
 obtain⟨d,hd⟩: ∃d,y%4294967296=d:=⟨_,rfl⟩
 have hm:=Zz h0 h1 h2 h3
 rw[ha,hb,hc,hd] at hm
 have pb: ∀u v:Int,0≤u→u≤4294967295→0≤v→v≤4294967295→0≤u*v∧u*v≤18446744065119617025:=fun u v u0 u1 v0 v1=>⟨Int.mul_nonneg u0 v0,pu (c:=(4294967295:Int)) u1 v1 v0 (by decide)⟩
 have q1:=pb b d (by omega) (by omega) (by omega) (by omega)
 have q2:=pb a d (by omega) (by omega) (by omega) (by omega)
 have q3:=pb b c (by omega) (by omega) (by omega) (by omega)
 have q4:=pb a c (by omega) (by omega) (by omega) (by omega)
 refine bW Tryz.func366 rfl<|ar (AZ (r:=b) rfl rfl (by rw[←hb];exact PX h0 h1) rfl) ?_
 refine ar (sy (r:=a) rfl rfl (by decide) (by rw[←ha];exact GA) rfl) ?_
 refine ar (AZ (r:=d) rfl rfl (by rw[←hd];exact PX h2 h3) rfl) ?_
 refine ar (sy (r:=c) rfl rfl (by decide) (by rw[←hc];exact GA) rfl) ?_
 refine ar (bZ (b*d) (gO (by omega) (by omega)) rfl)<|ar (bZ (a*d) (gO (by omega) (by omega)) rfl)<|ar (sy (r:=b*d/4294967296) rfl rfl (by decide) (GA) rfl) ?_
 refine ar (bZ ((a*d)+(b*d/4294967296)) (fG (by omega) (by omega)) rfl)<|ar (AZ (r:=(a*d+b*d/4294967296)%4294967296) rfl rfl (PX (by omega) (by omega)) rfl) ?_
 refine ar (sy (r:=(a*d+b*d/4294967296)/4294967296) rfl rfl (by decide) (GA) rfl) ?_
 refine ar (bZ (b*c) (gO (by omega) (by omega)) rfl)<|ar (bZ (((a*d+b*d/4294967296)%4294967296)+(b*c)) (fG (by omega) (by omega)) rfl)<|ar (bZ (a*c) (gO (by omega) (by omega)) rfl)<|ar (bZ ((a*c)+((a*d+b*d/4294967296)/4294967296)) (fG (by omega) (by omega)) rfl)<|ar (sy (r:=((a*d+b*d/4294967296)%4294967296+b*c)/4294967296) rfl rfl (by decide) (GA) rfl) ?_
 refine ar (bZ (((a*c)+((a*d+b*d/4294967296)/4294967296))+(((a*d+b*d/4294967296)%4294967296+b*c)/4294967296)) (fG (by omega) (by omega)) rfl)<|ar (bZ (x*y%18446744073709551616) (congrArg some aa3) rfl)<|ah ?_
 rw[←hm]
 exact ak (ak aa)
def MG (x y:Int):Int:=(x.natAbs:Int)*(y.natAbs:Int)
def CE (p:Int):Int:=if p%65536=0 then p/65536 else p/65536+1
def lI (x y:Int):Int:=if (!(decide (x<0)==decide (y<0)))=true then-(CE (MG x y)) else MG x y/65536
def lu (x y:Int):Int:=if (!(decide (x<0)==decide (y<0)))=true then-(MG x y/65536) else CE (MG x y)
def ww (x y:Int):Bool:=decide (MG x y/65536>2305843009213693952)
def qp (x y:Int):Bool:= !ww x y&&(decide (lI x y≥ -2305843009213693952)&&decide (lu x y≤2305843009213693952))
theorem WS (h:(p%18446744073709551616%65536 !=0)=true):CE p=p/65536+1:=by
 have h:p%18446744073709551616%65536≠0:=by simpa using h
 unfold CE;rw[if_neg (by omega)]
theorem Xp (h:(p%18446744073709551616%65536 !=0)=false):CE p=p/65536:=by
 have h:p%18446744073709551616%65536=0:=by simpa using h
 unfold CE;rw[if_pos (by omega)]
theorem aaP {a:Int}(h:(a !=0)=true):a≠0:=by simpa using h
theorem abI {a:Int}(h:(a !=0)=false):a=0:=by simpa using h
theorem Ii (h0: -9223372036854775808≤x) (h1:x≤9223372036854775807) (h2: -9223372036854775808≤y) (h3:y≤9223372036854775807):Ok Tryz.prog 325 [.c (.i .i64 x),.c (.i .i64 y)] [.c (.i .i64 (if ww x y then 0 else lI x y)),.c (.i .i64 (if ww x y then 0 else lu x y)),.c (.b (qp x y))]:=by
 obtain⟨p,hp⟩: ∃p,MG x y=p:=⟨_,rfl⟩
 have hp':(x.natAbs:Int)*(y.natAbs:Int)=p:=hp
 have hp0:0≤p:=by rw[←hp'];exact fK (by omega) (by omega)
 have hp1:p≤9223372036854775808*9223372036854775808:=by rw[←hp'];exact pu (by omega) (by omega) (by omega) (by decide)
 have hmul:Ok Tryz.prog 366 [.c (.i .u64 (x.natAbs:Int)),.c (.i .u64 (y.natAbs:Int))] [.c (.i .u64 (p/18446744073709551616)),.c (.i .u64 (p%18446744073709551616))]:=by rw[←hp'];exact LR (by omega) (by omega) (by omega) (by omega)
 have big:p/65536>2305843009213693952→ww x y=true:=fun h=>by unfold ww;rw[hp];exact decide_eq_true h
 have small: ¬p/65536>2305843009213693952→ww x y=false:=fun h=>by unfold ww;rw[hp];exact decide_eq_false h
 refine bW Tryz.func325 rfl<|ac rfl (Kf (by omega) (by omega))<|ac rfl (Kf (by omega) (by omega))<|ac rfl (hmul)<|ar (sy (r:=p/18446744073709551616/65536) rfl rfl (by decide) (UJ) rfl) ?_
 refine df rfl (fun hc1=>?_) (fun hc1=>?_)
 ·have g1:=aaP hc1
  refine ah ?_
  rw[show qp x y=false from by unfold qp;rw[big (by omega)];rfl,big (by omega),if_pos rfl,if_pos rfl]
  exact ak (ak (ak aa))
 ·have g1:=abI hc1
  refine ar (R6 (r:=(p/18446744073709551616)*281474976710656) rfl rfl (by decide) (Zs (by omega) (by omega)) rfl) ?_
  refine ar (sy (r:=p%18446744073709551616/65536) rfl rfl (by decide) (UJ) rfl) ?_
  refine ar (XX (r:=p/65536) rfl rfl ((aa4 (by omega) (by omega) (by omega) (by omega)).trans (by omega)) rfl) ?_
  refine df rfl (fun hc2=>?_) (fun hc2=>?_)
  ·refine ah ?_
   rw[show qp x y=false from by unfold qp;rw[big (wv hc2)];rfl,big (wv hc2),if_pos rfl,if_pos rfl]
   exact ak (ak (ak aa))
  ·have g2:=oh hc2
   refine ar (bv (r:=p/65536) fA tW rfl (ii (by omega) (by omega)) rfl) ?_
   refine ar (bv (r:=p/65536) fA tW rfl (ii (by omega) (by omega)) rfl) ?_
   refine ar (AZ (r:=p%18446744073709551616%65536) rfl rfl (YX (by omega) (by omega)) rfl) ?_
   refine df rfl (fun hc3=>?_) (fun hc3=>?_)
   ·have hu:=WS hc3
    refine ar (bZ ((p/65536)+1) (bm (by omega) (by omega)) rfl)<|ar (ko rfl rfl gY rfl) ?_
    refine df rfl (fun hc4=>?_) (fun hc4=>?_)
    ·refine ar (fi (r:= -(p/65536+1)) rfl (by rw[ii (by omega) (by omega)];omega) rfl) ?_
     refine ar (fi (r:= -(p/65536)) rfl (by rw[ii (by omega) (by omega)];omega) rfl) ?_
     refine jC (bq rfl) (fun c5 hb5=>?_)
     cases c5
     ·refine ah ?_
      unfold qp
      rw[small (oh hc2),if_neg (by decide),if_neg (by decide),sK,fW]
      rw[show lI x y= -(p/65536+1) from by unfold lI;rw[hp,hu,if_pos hc4],show lu x y= -(p/65536) from by unfold lu;rw[hp,hu,if_pos hc4]]
      rw[hb5,lr]
      exact ak (ak (ak aa))
     ·refine ah ?_
      unfold qp
      rw[small (oh hc2),if_neg (by decide),if_neg (by decide),sK,fW]
      rw[show lI x y= -(p/65536+1) from by unfold lI;rw[hp,hu,if_pos hc4],show lu x y= -(p/65536) from by unfold lu;rw[hp,hu,if_pos hc4]]
      rw[hb5,fW]
      exact ak (ak (ak aa))
    ·refine jC (bq rfl) (fun c6 hb6=>?_)
     cases c6
     ·refine ah ?_
      unfold qp
      rw[small (oh hc2),if_neg (by decide),if_neg (by decide),sK,fW]
      rw[show lI x y=p/65536 from by unfold lI;rw[hp,hu,if_neg (by rw[hc4];decide)],show lu x y=p/65536+1 from by unfold lu;rw[hp,hu,if_neg (by rw[hc4];decide)]]
      rw[hb6,lr]
      exact ak (ak (ak aa))
     ·refine ah ?_
      unfold qp
      rw[small (oh hc2),if_neg (by decide),if_neg (by decide),sK,fW]
      rw[show lI x y=p/65536 from by unfold lI;rw[hp,hu,if_neg (by rw[hc4];decide)],show lu x y=p/65536+1 from by unfold lu;rw[hp,hu,if_neg (by rw[hc4];decide)]]
      rw[hb6,fW]
      exact ak (ak (ak aa))
   ·have hu:=Xp hc3
    refine ar (ko rfl rfl gY rfl) ?_
    refine df rfl (fun hc7=>?_) (fun hc7=>?_)
    ·refine ar (fi (r:= -(p/65536)) rfl (by rw[ii (by omega) (by omega)];omega) rfl) ?_
     refine ar (fi (r:= -(p/65536)) rfl (by rw[ii (by omega) (by omega)];omega) rfl) ?_
     refine jC (bq rfl) (fun c8 hb8=>?_)
     cases c8
     ·refine ah ?_
      unfold qp
      rw[small (oh hc2),if_neg (by decide),if_neg (by decide),sK,fW]
      rw[show lI x y= -(p/65536) from by unfold lI;rw[hp,hu,if_pos hc7],show lu x y= -(p/65536) from by unfold lu;rw[hp,hu,if_pos hc7]]
      rw[hb8,lr]
      exact ak (ak (ak aa))
     ·refine ah ?_
      unfold qp
      rw[small (oh hc2),if_neg (by decide),if_neg (by decide),sK,fW]
      rw[show lI x y= -(p/65536) from by unfold lI;rw[hp,hu,if_pos hc7],show lu x y= -(p/65536) from by unfold lu;rw[hp,hu,if_pos hc7]]
      rw[hb8,fW]
      exact ak (ak (ak aa))
    ·refine jC (bq rfl) (fun c9 hb9=>?_)
     cases c9
     ·refine ah ?_
      unfold qp
      rw[small (oh hc2),if_neg (by decide),if_neg (by decide),sK,fW]
      rw[show lI x y=p/65536 from by unfold lI;rw[hp,hu,if_neg (by rw[hc7];decide)],show lu x y=p/65536 from by unfold lu;rw[hp,hu,if_neg (by rw[hc7];decide)]]
      rw[hb9,lr]
      exact ak (ak (ak aa))
     ·refine ah ?_
      unfold qp
      rw[small (oh hc2),if_neg (by decide),if_neg (by decide),sK,fW]
      rw[show lI x y=p/65536 from by unfold lI;rw[hp,hu,if_neg (by rw[hc7];decide)],show lu x y=p/65536 from by unfold lu;rw[hp,hu,if_neg (by rw[hc7];decide)]]
      rw[hb9,fW]
      exact ak (ak (ak aa))
def L9 (x y:Int):Int:=if x>0 then 1 else if y<0 then-1 else 0
def LK (x y:Int):Bool:=decide (x>0)||(decide (y<0)||(x==0&&y==0))
theorem Z2 (h:decide (x>0)=true):L9 x y=1∧LK x y=true:=by
 unfold L9 LK;rw[if_pos (by simpa using h),h];exact⟨rfl,rfl⟩
theorem aag (h:decide (x>0)=false) (h2:decide (y<0)=true):L9 x y= -1∧LK x y=true:=by
 unfold L9 LK;rw[if_neg (by simpa using h),if_pos (by simpa using h2),h,h2];exact⟨rfl,rfl⟩
theorem S3 (h:decide (x>0)=false) (h2:decide (y<0)=false):L9 x y=0∧LK x y=(x==0&&y==0):=by
 unfold L9 LK;rw[if_neg (by simpa using h),if_neg (by simpa using h2),h,h2];exact⟨rfl,rfl⟩
theorem Ha:Ok Tryz.prog 242 [.a (([.i .i64 x]++[.i .i64 y]))] [.c (.i .i64 (L9 x y)),.c (.b (LK x y))]:=by
 refine bW Tryz.func242 rfl ?_
 refine df rfl (fun hc1=>?_) (fun hc1=>?_)
 ·refine ah ?_
  rw[(Z2 hc1).1,(Z2 hc1).2]
  exact ak (ak aa)
 ·refine df rfl (fun hc2=>?_) (fun hc2=>?_)
  ·refine ah ?_
   rw[(aag hc1 hc2).1,(aag hc1 hc2).2]
   exact ak (ak aa)
  ·refine cz 10 [] ?_
   refine AG (bq rfl) (fun c3 hb3=>?_)
   cases c3
   ·refine ah ?_
    rw[(S3 hc1 hc2).1,(S3 hc1 hc2).2,hb3,lr]
    exact ak (ak aa)
   ·refine ah ?_
    rw[(S3 hc1 hc2).1,(S3 hc1 hc2).2,hb3,fW]
    exact ak (ak aa)
def wl (x y:Int) (k:Nat):Int:=if k=0 then x else y
theorem JX (h:k<2):([CellD.i .i64 x,.i .i64 y])[k*1]? =some (.i .i64 (wl x y k)):=by
 have:k=0∨k=1:=by omega
 rcases this with rfl|rfl<;>rfl
theorem Pd (h0: -2305843009213693952≤x) (h1:x≤2305843009213693952) (h2: -2305843009213693952≤y) (h3:y≤2305843009213693952): -2305843009213693952≤wl x y k∧wl x y k≤2305843009213693952:=by
 unfold wl;split<;>omega
def CM (x y u v:Int):Nat→Int
 |0=>2305843009213693952
 |n+1=>min (CM x y u v n) (lI (wl x y (n/2)) (wl u v (n%2)))
def Cz (x y u v:Int):Nat→Int
 |0=> -2305843009213693952
 |n+1=>max (Cz x y u v n) (lu (wl x y (n/2)) (wl u v (n%2)))
def y5 (x y u v:Int):Nat→Bool
 |0=>true
 |n+1=>y5 x y u v n&&qp (wl x y (n/2)) (wl u v (n%2))
theorem O8 (h:qp x y=true): ¬ww x y=true:=by
 unfold qp at h
 grind
theorem MO {n:Nat}(h:y5 x y u v n=false) (m:Nat):y5 x y u v (n+m)=false:=by
 induction m with
 |zero=>exact h
 |succ m ih=>show(y5 x y u v (n+m)&&_)=false;rw[ih];rfl
theorem Sy (hj:j<2) (h:qp (wl x y k) (wl u v j)=true):min (CM x y u v (2*k+j)) (if ww (wl x y k) (wl u v j) then 0 else lI (wl x y k) (wl u v j))=CM x y u v (2*k+(j+1)):=by
 rw[if_neg (O8 h)]
 show _=min (CM x y u v (2*k+j)) (lI (wl x y ((2*k+j)/2)) (wl u v ((2*k+j)%2)))
 grind
theorem Te (hj:j<2) (h:qp (wl x y k) (wl u v j)=true):max (Cz x y u v (2*k+j)) (if ww (wl x y k) (wl u v j) then 0 else lu (wl x y k) (wl u v j))=Cz x y u v (2*k+(j+1)):=by
 rw[if_neg (O8 h)]
 show _=max (Cz x y u v (2*k+j)) (lu (wl x y ((2*k+j)/2)) (wl u v ((2*k+j)%2)))
 grind
theorem Kj (hj:j<2):y5 x y u v (2*k+(j+1))=(y5 x y u v (2*k+j)&&qp (wl x y k) (wl u v j)):=by
 show(y5 x y u v (2*k+j)&&qp (wl x y ((2*k+j)/2)) (wl u v ((2*k+j)%2)))=_
 grind
theorem KT (h0: -2305843009213693952≤x) (h1:x≤2305843009213693952) (h2: -2305843009213693952≤y) (h3:y≤2305843009213693952) (h4: -2305843009213693952≤u) (h5:u≤2305843009213693952) (h6: -2305843009213693952≤v) (h7:v≤2305843009213693952):Ok Tryz.prog 239 [.a (([.i .i64 x]++[.i .i64 y])),.a (([.i .i64 u]++[.i .i64 v]))] [.a (([.i .i64 (if y5 x y u v 4 then CM x y u v 4 else 0)]++[.i .i64 (if y5 x y u v 4 then Cz x y u v 4 else 0)])),.c (.b (y5 x y u v 4))]:=by
 refine ex Tryz.func239 56 [.cell 4 230,.tmp 5] rfl<|ae<|ag<|ae<|ag<|ae<|ae<|ag ?_
 refine DL.mk<|pD (qd (us:=[.i .i64 x,.i .i64 y]) Ty rfl rfl (by decide) (by decide) rfl) rfl<|eQ ?_
 refine ar (iJ JZ rfl rfl) ?_
 refine aP<|bF (ι:={k:Nat // k≤2∧y5 x y u v (2*k)=true}) (fun i=>⟨56,[(2,.p 2 0),(3,.p 3 0),(4,.p 4 0),(6,.v (.c (.i .i64 (CM x y u v (2*i.1))))),(7,.v (.c (.i .i64 (Cz x y u v (2*i.1))))),(19,.o 19 2 2),(20,.v (.c (.i .i64 (2:Int)))),(21,.v (.c (.i .i64 (i.1:Int))))],[(2,230,([.i .i64 x]++[.i .i64 y])),(3,230,([.i .i64 u]++[.i .i64 v])),(4,230,([.i .i64 0]++[.i .i64 0])),(19,2,[.i .i64 x,.i .i64 y])]⟩) (fun i=>2-i.1) ⟨0,by omega,rfl⟩ (aA ⟨rfl,rfl,rfl,rfl,rfl,rfl,rfl,rfl,trivial⟩ ⟨rfl,rfl,rfl,rfl,trivial⟩ rfl) ?_
 rintro⟨k,hk0,hok⟩
 replace hk0:k≤2:=hk0
 replace hok:y5 x y u v (2*k)=true:=hok
 have gx:=Pd (k:=k) h0 h1 h2 h3
 dsimp only
 refine ae<|ag<|ae ?_
 refine aS rfl (fun hc1=>?_) (fun hc1=>?_)
 ·have hk:k<2:=by have:=wv hc1;omega
  refine aB<|ae<|aP<|ae<|bz<|aW (bk JZ rfl rfl (by omega) rfl) ?_
  refine aW (oX YH rfl rfl (JX (x:=x) (y:=y) (k:=k) (by omega)) rfl) ?_
  refine fL<|ae<|ag ?_
  refine DL.mk<|pD (qd (us:=[.i .i64 u,.i .i64 v]) Ty rfl rfl (by decide) (by decide) rfl) rfl<|eQ ?_
  refine ar (iJ JZ rfl rfl) ?_
  refine aP<|bF (ι:={j:Nat // j≤2∧y5 x y u v (2*k+j)=true}) (fun i=>⟨56,[(2,.p 2 0),(3,.p 3 0),(4,.p 4 0),(6,.v (.c (.i .i64 (CM x y u v (2*k+i.1))))),(7,.v (.c (.i .i64 (Cz x y u v (2*k+i.1))))),(19,.o 19 2 2),(20,.v (.c (.i .i64 (2:Int)))),(21,.v (.c (.i .i64 (k:Int)))),(9,.v (.c (.i .i64 (wl x y k)))),(29,.o 29 2 2),(30,.v (.c (.i .i64 (2:Int)))),(31,.v (.c (.i .i64 (i.1:Int))))],[(2,230,([.i .i64 x]++[.i .i64 y])),(3,230,([.i .i64 u]++[.i .i64 v])),(4,230,([.i .i64 0]++[.i .i64 0])),(19,2,[.i .i64 x,.i .i64 y]),(29,2,[.i .i64 u,.i .i64 v])]⟩) (fun i=>2-i.1) ⟨0,by omega,hok⟩ (aA ⟨rfl,rfl,rfl,rfl,rfl,rfl,rfl,rfl,rfl,rfl,rfl,rfl,trivial⟩ ⟨rfl,rfl,rfl,rfl,rfl,trivial⟩ rfl) ?_
  rintro⟨j,hj0,hokj⟩
  replace hj0:j≤2:=hj0
  replace hokj:y5 x y u v (2*k+j)=true:=hokj
  have gu:=Pd (k:=j) h4 h5 h6 h7
  dsimp only
  refine ae<|ag<|ae ?_
  refine aS rfl (fun hc2=>?_) (fun hc2=>?_)
  ·have hj:j<2:=by have:=wv hc2;omega
   refine aB<|ae<|aP<|ae<|bz<|aW (bk JZ rfl rfl (by omega) rfl) ?_
   refine aW (oX YH rfl rfl (JX (x:=u) (y:=v) (k:=j) (by omega)) rfl) ?_
   refine fL<|ae<|ag<|ac rfl (Ii (by omega) (by omega) (by omega) (by omega))<|ae<|ae<|ag ?_
   refine aS rfl (fun hc3=>?_) (fun hc3=>?_)
   ·have hbad:y5 x y u v 4=false:=by
     have h8:=MO (n:=2*k+(j+1)) (by rw[Kj hj,jw hc3,lU]) (4-(2*k+(j+1)))
     rw[show 2*k+(j+1)+(4-(2*k+(j+1)))=4 from by omega] at h8;exact h8
    refine ae<|ag<|ar (az (us:=([.i .i64 0]++[.i .i64 0])) qx pt rfl rfl rfl) ?_
    refine a9 ?_
    rw[hbad,if_neg (by decide),if_neg (by decide)]
    exact ah (aQ jz rfl (ak aa))
   ·have hsc:=eZ hc3
    refine aB<|ag<|ar (Ej rfl rfl rfl) ?_
    refine ar (E7 rfl rfl rfl) ?_
    refine ag<|ar (bZ ((j:Int)+1) (bm (by omega) (by omega)) rfl) ?_
    exact⟨⟨j+1,by omega,by rw[Kj hj,hokj,hsc];rfl⟩,aA ⟨rfl,rfl,rfl,by rw[←Sy hj hsc];rfl,by rw[←Te hj hsc];rfl,rfl,rfl,rfl,rfl,rfl,rfl,by rw[show((j+1:Nat):Int)=(j:Int)+1 from by omega];rfl,trivial⟩ ⟨rfl,rfl,rfl,rfl,rfl,trivial⟩ rfl,by show 2-(j+1)<2-j;omega⟩
  ·have hj2:2*k+j=2*k+2:=by have:=oh hc2;omega
   refine b7<|ag<|ar (bZ ((k:Int)+1) (bm (by omega) (by omega)) rfl) ?_
   exact⟨⟨k+1,by omega,by rw[show 2*(k+1)=2*k+2 from by omega,←hj2];exact hokj⟩,aA ⟨rfl,rfl,rfl,by rw[show 2*(k+1)=2*k+2 from by omega,←hj2];rfl,by rw[show 2*(k+1)=2*k+2 from by omega,←hj2];rfl,rfl,rfl,by rw[show((k+1:Nat):Int)=(k:Int)+1 from by omega];rfl,trivial⟩ ⟨rfl,rfl,rfl,rfl,trivial⟩ rfl,by show 2-(k+1)<2-k;omega⟩
 ·have hk2:2*k=4:=by have:=oh hc1;omega
  refine b7<|ae<|ag<|ar (az (us:=([.i .i64 (CM x y u v (2*k))]++[.i .i64 (Cz x y u v (2*k))])) qx pt rfl rfl rfl) ?_
  refine a9 ?_
  rw[hk2] at hok
  have e1:CM x y u v 4=CM x y u v (2*k):=by rw[hk2]
  have e2:Cz x y u v 4=Cz x y u v (2*k):=by rw[hk2]
  rw[hok,if_pos rfl,if_pos rfl,e1,e2]
  exact ah (aQ jz rfl (ak aa))
theorem Ap (h: ¬c<0):0≤iN c:=by
 unfold iN
 have h1:0≤c*((65536:Int):Rat):=by grind
 have h2:0≤(c*((65536:Int):Rat)).num:=Rat.num_nonneg.2 h1
 have h3:=den_pos (-(c*((65536:Int):Rat)))
 rw[ow _ (by omega),Rat.neg_num]
 have h4:(-(c*((65536:Int):Rat)).num)/((-(c*((65536:Int):Rat))).den:Int)≤0:=by
  have h5:=Int.ediv_le_ediv h3 (show-(c*((65536:Int):Rat)).num≤0 by omega)
  rw[Int.zero_ediv] at h5;exact h5
 omega
theorem Li (h:wm lo hi=true): -2305843009213693952≤lo∧hi≤2305843009213693952:=by unfold wm at h;simpa using h
theorem UQ (c:Rat):ji c≤iN c:=by
 unfold ji iN
 have h3:=den_pos (c*((65536:Int):Rat))
 rw[Rat.neg_num,Rat.neg_den,ow _ (by omega),ow _ (by omega)]
 generalize (c*((65536:Int):Rat)).num=n at*
 generalize ((c*((65536:Int):Rat)).den:Int)=d at*
 have e1:=qV n d
 have e2:=qV (-n) d
 have m1:=n9 n (show d≠0 by omega)
 have m2:=n9 (-n) (show d≠0 by omega)
 have h4:d*(n/d+(-n)/d)≤d*0:=by grind
 have:=Int.le_of_mul_le_mul_left h4 h3
 omega
theorem DN (h:iO c=true): -2305843009213693952≤ji c∧ji c≤2305843009213693952∧ -2305843009213693952≤iN c∧iN c≤2305843009213693952:=by
 unfold iO at h
 simp only[dF] at h
 have h1:=Li h.2.2
 have h2:=UQ c
 omega
theorem Or (h1:x≤2305843009213693952) (h2:0≤y) (h3:y≤2305843009213693952):0≤qb x∧qb x≤549755813889∧0≤kw y∧kw y≤549755813889:=by
 have b1:=Bh (n:=max x 0) (by omega) (by omega)
 have b2:=Bh (n:=y) h2 h3
 unfold qb kw
 grind
theorem Xd (n:Nat) (h:y5 x y u v n=true): -2305843009213693952≤CM x y u v n∧CM x y u v n≤2305843009213693952∧ -2305843009213693952≤Cz x y u v n∧Cz x y u v n≤2305843009213693952:=by
 induction n with
 |zero=>show _≤(2305843009213693952:Int)∧(2305843009213693952:Int)≤_∧_≤(-2305843009213693952:Int)∧(-2305843009213693952:Int)≤_;omega
 |succ n ih=>
  have h':(y5 x y u v n&&qp (wl x y (n/2)) (wl u v (n%2)))=true:=h
  rw[dF] at h'
  have i:=ih h'.1
  have s1:=h'.2
  unfold qp at s1
  simp only[dF,decide_eq_true_eq] at s1
  show _≤min _ _∧min _ _≤_∧_≤max _ _∧max _ _≤_
  omega
def SR (b c:Rat):Bool:=y5 (ji b) (iN b) (qb (ji c)) (kw (iN c)) 4
def FC (b c:Rat):Int:=CM (ji b) (iN b) (qb (ji c)) (kw (iN c)) 4
def EE (b c:Rat):Int:=Cz (ji b) (iN b) (qb (ji c)) (kw (iN c)) 4
def SM (a b c:Rat):Bool:=iO b&&(iO c&&(!decide (aw c 0<0)&&(SR b c&&wm (ji a+FC b c) (iN a+EE b c))))
def dS (a b c:Rat):Bool:=iO a&&((aw b 0==0)||SM a b c)
def dY (a b c:Rat):Int:=if dS a b c then(if (aw b 0==0)=true then ji a else ji a+FC b c) else 0
def dZ (a b c:Rat):Int:=if dS a b c then(if (aw b 0==0)=true then iN a else iN a+EE b c) else 0
theorem qB (h:dS a b c=false):dY a b c=0∧dZ a b c=0:=by
 unfold dY dZ;rw[h];exact⟨rfl,rfl⟩
theorem aba (h:iO a=false):dS a b c=false:=by unfold dS;rw[h];rfl
theorem RX (h:(aw b 0==0)=false) (hx:SM a b c=false):dS a b c=false:=by unfold dS;rw[h,hx];cases iO a<;>rfl
theorem Zl (h:iO a=true) (h2:(aw b 0==0)=true):dY a b c=ji a∧dZ a b c=iN a∧dS a b c=true:=by
 have e:dS a b c=true:=by unfold dS;rw[h,h2];rfl
 unfold dY dZ;rw[e,if_pos rfl,if_pos rfl,if_pos h2,if_pos h2];exact⟨rfl,rfl,rfl⟩
theorem aa1 (h:iO a=true) (h2:(aw b 0==0)=false) (h3:iO b=true) (h4:iO c=true) (h5:decide (aw c 0<0)=false) (h6:SR b c=true):
 dY a b c=(if wm (ji a+FC b c) (iN a+EE b c) then ji a+FC b c else 0)∧dZ a b c=(if wm (ji a+FC b c) (iN a+EE b c) then iN a+EE b c else 0)∧dS a b c=wm (ji a+FC b c) (iN a+EE b c):=by
 have e:dS a b c=wm (ji a+FC b c) (iN a+EE b c):=by unfold dS SM;rw[h,h2,h3,h4,h5,h6];rfl
 unfold dY dZ;rw[e,h2];exact⟨rfl,rfl,rfl⟩
theorem wG (ha:Rz 4000000 a) (hb:Rz 4000000 b) (hc:Rz 4000000 c):Ok Tryz.prog 321 [.a ((cR a++cR b++cR c))] [.a (([.i .i64 (dY a b c)]++[.i .i64 (dZ a b c)])),.c (.b (dS a b c))]:=by
 refine ex Tryz.func321 72 [.cell 2 230,.tmp 3] rfl<|ae<|ag<|ae<|ag ?_
 refine ac rfl (oH (aE ha))<|ae<|ae<|ag ?_
 refine jC (bq rfl) (fun c1 hb1=>?_)
 cases c1
 ·have ea:=eZ hb1
  refine ac rfl (cn) ?_
  refine aS rfl (fun hc2=>?_) (fun hc2=>?_)
  ·obtain⟨w1,w2,w3⟩:=Zl (c:=c) ea hc2
   refine ae<|ag ?_
   refine a9 ?_
   have x1:dY a b c=(if iO a then ji a else 0):=by rw[w1,ea];rfl
   have x2:dZ a b c=(if iO a then iN a else 0):=by rw[w2,ea];rfl
   have x3:dS a b c=iO a:=by rw[w3,ea]
   rw[x1,x2,x3]
   exact ah (aQ jz rfl (ak aa))
  ·have hb0:=hc2
   refine aB<|ae<|ag ?_
   refine ac rfl (oH (aE hb))<|ae<|ag ?_
   refine ac rfl (oH (aE hc))<|ae<|ae<|ag ?_
   refine jC (bq rfl) (fun c3 hb3=>?_)
   cases c3
   ·have eb:=eZ hb3
    refine jC (bq rfl) (fun c4 hb4=>?_)
    cases c4
    ·have ec:=eZ hb4
     refine ac rfl (cn) ?_
     refine aS rfl (fun hc5=>?_) (fun hc5=>?_)
     ·have hno:dS a b c=false:=RX hb0 (by unfold SM;rw[hc5,Bool.not_true,lr,lU,lU])
      refine ae<|ag<|ar (az (us:=([.i .i64 0]++[.i .i64 0])) qx pt rfl rfl rfl) ?_
      refine a9 ?_
      rw[(qB hno).1,(qB hno).2,hno]
      exact ah (aQ jz rfl (ak aa))
     ·have hcn:=hc5
      have bA:=DN ea
      have bB:=DN eb
      have bC:=DN ec
      have hH:=Ap (c:=c) (Bp hc5)
      have bS:=Or (x:=ji c) (y:=iN c) (by omega) hH (by omega)
      refine oC (σ':=⟨72,[(1,.p 1 0),(2,.p 2 0),(4,.p 4 0),(6,.p 6 0),(7,.p 7 0)],[(1,129,(cR a++cR b++cR c)),(2,230,([.i .i64 0]++[.i .i64 0])),(4,230,([.i .i64 (ji a)]++[.i .i64 (iN a)])),(6,230,([.i .i64 (ji b)]++[.i .i64 (iN b)])),(7,230,([.i .i64 (ji c)]++[.i .i64 (iN c)]))]⟩) (aA ⟨rfl,rfl,rfl,rfl,rfl,trivial⟩ ⟨rfl,rfl,by rw[if_pos ea,if_pos ea];rfl,by rw[if_pos eb,if_pos eb];rfl,by rw[if_pos ec,if_pos ec];rfl,trivial⟩ rfl) ?_
      refine aB<|ae<|ae<|ag ?_
      refine ac rfl (HN (by omega) (by omega) (by omega) (by omega) (by omega)) ?_
      refine ae<|ag ?_
      refine bn rfl ?_
      refine aB<|ae<|ae<|ag ?_
      refine ac rfl (KT (by omega) (by omega) (by omega) (by omega) (by omega) (by omega) (by omega) (by omega)) ?_
      refine ae ?_
      refine ag ?_
      refine aS rfl (fun hc6=>?_) (fun hc6=>?_)
      ·have hno:dS a b c=false:=RX hb0 (by unfold SM SR;rw[jw hc6,lr,lU,lU,lU])
       refine ae<|ag<|ar (az (us:=([.i .i64 0]++[.i .i64 0])) qx pt rfl rfl rfl) ?_
       refine a9 ?_
       rw[(qB hno).1,(qB hno).2,hno]
       exact ah (aQ jz rfl (ak aa))
      ·have hm:SR b c=true:=eZ hc6
       have bM:=Xd 4 hm
       obtain⟨w1,w2,w3⟩:=aa1 ea hb0 eb ec hcn hm
       refine oC (σ':=⟨72,[(1,.p 1 0),(2,.p 2 0),(4,.p 4 0),(6,.p 6 0),(7,.p 7 0)],[(1,129,(cR a++cR b++cR c)),(2,230,([.i .i64 0]++[.i .i64 0])),(4,230,([.i .i64 (ji a)]++[.i .i64 (iN a)])),(6,230,([.i .i64 (FC b c)]++[.i .i64 (EE b c)])),(7,230,([.i .i64 (qb (ji c))]++[.i .i64 (kw (iN c))]))]⟩) (aA ⟨rfl,rfl,rfl,rfl,rfl,trivial⟩ ⟨rfl,rfl,rfl,by rw[if_pos (eZ hc6),if_pos (eZ hc6)];rfl,rfl,trivial⟩ rfl) ?_
       refine aB<|ae<|ag ?_
       refine ac rfl (J6 (x:=ji a) (y:=iN a) (u:=FC b c) (v:=EE b c) (by omega) (by omega) (by omega) (by omega) bM.1 bM.2.1 bM.2.2.1 bM.2.2.2) ?_
       refine a9 ?_
       rw[w1,w2,w3]
       exact ah (aQ jz rfl (ak aa))
    ·have hno:dS a b c=false:=RX hb0 (by unfold SM;rw[jw hb4,lr,lU])
     refine dG rfl<|ae<|ag<|ar (az (us:=([.i .i64 0]++[.i .i64 0])) qx pt rfl rfl rfl) ?_
     refine a9 ?_
     rw[(qB hno).1,(qB hno).2,hno]
     exact ah (aQ jz rfl (ak aa))
   ·have hno:dS a b c=false:=RX hb0 (by unfold SM;rw[jw hb3];rfl)
    refine ar (bq rfl)<|dG rfl<|ae<|ag<|ar (az (us:=([.i .i64 0]++[.i .i64 0])) qx pt rfl rfl rfl) ?_
    refine a9 ?_
    rw[(qB hno).1,(qB hno).2,hno]
    exact ah (aQ jz rfl (ak aa))
 ·refine dG rfl<|ae<|ag ?_
  refine a9 ?_
  have hno:dS a b c=false:=aba (jw hb1)
  have x1:dY a b c=(if iO a then ji a else 0):=by rw[(qB hno).1,jw hb1];rfl
  have x2:dZ a b c=(if iO a then iN a else 0):=by rw[(qB hno).2,jw hb1];rfl
  have x3:dS a b c=iO a:=by rw[hno,jw hb1]
  rw[x1,x2,x3]
  exact ah (aQ jz rfl (ak aa))
def I2 (o1 o2:Bool) (l1 h1 l2 h2:Int):Int:=if (o1&&o2)=true then(if decide (h1<l2)=true then-1 else if decide (l1>h2)=true then 1 else 0) else 0
def Hp (o1 o2:Bool) (l1 h1 l2 h2:Int):Bool:=(o1&&o2)&&(decide (h1<l2)||decide (l1>h2))
theorem Cb (ha:Rz 4000000 a) (hb:Rz 4000000 b) (hc:Rz 4000000 c) (hd:Rz 4000000 d) (he:Rz 4000000 e) (hf:Rz 4000000 f):Ok Tryz.prog 253 [.a ((cR a++cR b++cR c)),.a ((cR d++cR e++cR f))] [.c (.i .i64 (I2 (dS a b c) (dS d e f) (dY a b c) (dZ a b c) (dY d e f) (dZ d e f))),.c (.b (Hp (dS a b c) (dS d e f) (dY a b c) (dZ a b c) (dY d e f) (dZ d e f)))]:=by
 refine bW Tryz.func253 rfl ?_
 refine ac rfl (wG (by assumption) (by assumption) (by assumption)) ?_
 refine ac rfl (wG (by assumption) (by assumption) (by assumption)) ?_
 refine jC (bq rfl) (fun c1 hb1=>?_)
 cases c1
 ·refine df rfl (fun hc2=>?_) (fun hc2=>?_)
  ·refine ah ?_
   rw[show I2 (dS a b c) (dS d e f) (dY a b c) (dZ a b c) (dY d e f) (dZ d e f)=0 from by unfold I2;rw[eZ hb1,jw hc2];rfl,show Hp (dS a b c) (dS d e f) (dY a b c) (dZ a b c) (dY d e f) (dZ d e f)=false from by unfold Hp;rw[eZ hb1,jw hc2];rfl]
   exact ak (ak aa)
  ·refine df rfl (fun hc3=>?_) (fun hc3=>?_)
   ·refine ah ?_
    rw[show I2 (dS a b c) (dS d e f) (dY a b c) (dZ a b c) (dY d e f) (dZ d e f)= -1 from by unfold I2;rw[eZ hb1,eZ hc2,hc3];rfl,show Hp (dS a b c) (dS d e f) (dY a b c) (dZ a b c) (dY d e f) (dZ d e f)=true from by unfold Hp;rw[eZ hb1,eZ hc2,hc3];rfl]
    exact ak (ak aa)
   ·refine df rfl (fun hc4=>?_) (fun hc4=>?_)
    ·refine ah ?_
     rw[show I2 (dS a b c) (dS d e f) (dY a b c) (dZ a b c) (dY d e f) (dZ d e f)=1 from by unfold I2;rw[eZ hb1,eZ hc2,hc3,hc4];rfl,show Hp (dS a b c) (dS d e f) (dY a b c) (dZ a b c) (dY d e f) (dZ d e f)=true from by unfold Hp;rw[eZ hb1,eZ hc2,hc3,hc4];rfl]
     exact ak (ak aa)
    ·refine ah ?_
     rw[show I2 (dS a b c) (dS d e f) (dY a b c) (dZ a b c) (dY d e f) (dZ d e f)=0 from by unfold I2;rw[eZ hb1,eZ hc2,hc3,hc4];rfl,show Hp (dS a b c) (dS d e f) (dY a b c) (dZ a b c) (dY d e f) (dZ d e f)=false from by unfold Hp;rw[eZ hb1,eZ hc2,hc3,hc4];rfl]
     exact ak (ak aa)
 ·refine rx rfl<|ah ?_
  rw[show I2 (dS a b c) (dS d e f) (dY a b c) (dZ a b c) (dY d e f) (dZ d e f)=0 from by unfold I2;rw[jw hb1];rfl,show Hp (dS a b c) (dS d e f) (dY a b c) (dZ a b c) (dY d e f) (dZ d e f)=false from by unfold Hp;rw[jw hb1];rfl]
  exact ak (ak aa)
theorem Be (w:World) (b:Nat) (v:Value) (U T:TypeId) (cs ds:Array Value) (u:Value) (hlt:b<w.heap.size) (hb:w.heap[b]? =some (.cells #[u] T (0,0))):
 (((w.setCell ⟨b,0,none⟩ v).alloc (.cells cs U)).alloc (.cells ds U)).heap[w.heap.size+1]? =some (.cells ds U (0,0))∧
 (((w.setCell ⟨b,0,none⟩ v).alloc (.cells cs U)).alloc (.cells ds U)).heap[b]? =some (.cells #[v] T (0,0))∧Mid b w (((w.setCell ⟨b,0,none⟩ v).alloc (.cells cs U)).alloc (.cells ds U)):=by
 have hs:(w.setCell ⟨b,0,none⟩ v).heap.size=w.heap.size:=by simp
 refine⟨?_,?_,?_⟩
 ·have:=heap_alloc_new ((w.setCell ⟨b,0,none⟩ v).alloc (.cells cs U)) (.cells ds U)
  rw[gE,hs] at this
  grind
 ·rw[xl _ _ _ (by rw[gE,hs];omega),xl _ _ _ (by rw[hs];omega)]
  exact heap_setCell_same w b 0 #[u] T v hb
 ·refine⟨rfl,rfl,rfl,by rw[gE,gE,hs];omega,fun c hc hne=>?_⟩
  rw[xl _ _ _ (by rw[gE,hs];omega),xl _ _ _ (by rw[hs];omega)]
  exact heap_setCell_other w ⟨b,0,none⟩ c v hne
set_option maxRecDepth 10000 in
theorem NY (b:Nat) (ok c:Bool) (lo hi:Int) (w:World) (hb:w.heap[b]? =some (.cells #[.bool ok] 313 (0,0))):
 Calls Tryz.prog 369 #[.pointer (some ⟨b,0,none⟩),.agg #[.int .i64 lo,.int .i64 hi],.bool c] w fun e w'=>
  e=.returned (.agg #[.int .i64 lo,.int .i64 hi])∧w'.heap[b]? =some (.cells #[.bool (ok&&c)] 313 (0,0))∧Mid b w w':=by
 have hlt:b<w.heap.size:=(tU.1 hb).1
 have e1:((w.alloc (.cells #[.int .i64 lo,.int .i64 hi] 230)).alloc (.cells #[.int .i64 0,.int .i64 0] 230)).heap[b]? =some (.cells #[.bool ok] 313 (0,0)):=by
  rw[xl _ _ _ (by simp;omega),xl _ _ _ hlt];exact hb
 have c1:((w.alloc (.cells #[.int .i64 lo,.int .i64 hi] 230)).alloc (.cells #[.int .i64 0,.int .i64 0] 230)).cell? ⟨b,0,none⟩=some (.bool ok):=(cZ e1 0).trans rfl
 have f0:w.frozen? ⟨b,0,none⟩=false:=Bk.frozen (t:=313) (cs:= #[.bool ok]) hb 0
 cases ok
 ·go_enter Tryz.func369,Tryz.ntmps369
  go_wp2_with fail
  obtain⟨h1,h2,h3⟩:=Be w b (.bool false) 230 313 #[.int .i64 lo,.int .i64 hi] #[.int .i64 lo,.int .i64 hi] _ hlt hb
  have k0:=(cZ h1 0).trans rfl
  have k1:=(cZ h1 1).trans rfl
  refine⟨rfl,.agg #[.int .i64 lo,.int .i64 hi],?_,rfl,h2,h3⟩
  simp[results,Tryz.results369,go_sem,k0,k1]
  try rfl
 ·go_enter Tryz.func369,Tryz.ntmps369
  go_wp2_with fail
  obtain⟨h1,h2,h3⟩:=Be w b (.bool c) 230 313 #[.int .i64 lo,.int .i64 hi] #[.int .i64 lo,.int .i64 hi] _ hlt hb
  have k0:=(cZ h1 0).trans rfl
  have k1:=(cZ h1 1).trans rfl
  refine⟨rfl,.agg #[.int .i64 lo,.int .i64 hi],?_,rfl,h2,h3⟩
  simp[results,Tryz.results369,go_sem,k0,k1]
  try rfl
structure OkP (P:Program) (f:FuncId) (U:TypeId) (cs0 cs1:List CellD) (ds rs:List D0):Prop where
 cal:fj P f=true
 run: ∀(V:Nat→Prop) (b:Nat) (bs:Array Value) (vs:Array Value) (vl:List Value) (w:World),vs.toList=.pointer (some ⟨b,0,none⟩)::vl→(∀c,V c→c<w.heap.size)→V b→w.heap[b]? =some (.cells bs U (0,0))→RdCs V w bs.toList cs0→RdL V w vl ds→
  Calls P f vs w fun e w'=> ∃v,∃bs':Array Value,e=.returned v∧w'.heap[b]? =some (.cells bs' U (0,0))∧Mid b w w'∧RdCs V w' bs'.toList cs1∧TR V w' v rs
section
variable {P:Program}{ops:Array Oper}{T:TF}{B:BF}
theorem fB {fo x:Operand}{xs:List Operand}{args:Array Operand}{at_:Array TypeId}{f:FuncId}{cs0 cs1:List CellD}{ds rs:List D0}
 (hf:cO T fo=some (.v (.c (.f f)))) (hargs:args.toList=x::xs) (hx:cO T x=some (.p k 0)) (ha:oY T xs=some ds) (hb:B k=some (U,cs0)) (hok:OkP P f U cs0 cs1 ds rs) (hg:gd ops ⟨dst,.call ⟨.value fo,args,at_⟩,ty,pos,af,g⟩ T=some true):
 Sem P ops ⟨dst,.call ⟨.value fo,args,at_⟩,ty,pos,af,g⟩ T B (.rs k U cs1 (xd rs)):=by
 refine⟨by unfold xd;split<;>rfl,⟨_,hb⟩,fun V β a w hs=>⟨d9 hs hg,?_⟩⟩
 have hin: ∀y∈x::xs,y∈(⟨dst,.call ⟨.value fo,args,at_⟩,ty,pos,af,g⟩:Oper).op.operands:=fun y hy=>by
  have hx2:y∈args:=by grind
  simp[Op.operands,Call.operands,hx2]
 have h1:=RdC.func_eq (ap hs (x:=fo) (by simp[Op.operands,Call.operands]) hf)
 have h2:=iS hs xs ds (fun y hy=>hin y (gN _ hy)) ha
 have h3:a.eval x=.pointer (some ⟨β k,0,none⟩):=ap hs (hin x (gT ..)) hx
 obtain⟨hV,bs,e,hr⟩:=hs.box k U cs0 hb
 have hc:=hok.cal
 unfold fj at hc
 cases hfn:P.funcs[f]? with
 |none=>rw[hfn] at hc;cases hc
 |some fn=>
  rw[hfn] at hc
  simp only[dF,bne_iff_ne,ne_eq,rl] at hc
  have hrun:(execOp a.eval ⟨dst,.call ⟨.value fo,args,at_⟩,ty,pos,af,g⟩).run P w=.ok (.enter f (args.map a.eval)) w:=by
   have hb2:fn.body≠none:=by have:=hc.2;cases hbb:fn.body with
    |none=>rw[hbb] at this;cases this
    |some c=>simp
   simp[execOp,resolve,h1,Deferred.ofValue,invoke,callFunc,program,Sem.run,hfn,hc.1,hb2]
  unfold Gives
  rw[hrun]
  refine(hok.run V (β k) bs (args.map a.eval) (xs.map a.eval) w (by rw[wV,hargs,si,h3]) hs.av hV e hr h2).mono ?_
  rintro e w' ⟨v,bs',rfl,hbl,hm,hr1,hr2⟩
  refine⟨v,rfl,bs',hbl,hm,hr1,?_⟩
  unfold TR at hr2
  split at hr2
  ·exact hr2
  ·rename_i hne
   have e2:xd rs=.t rs:=by
    unfold xd
    grind
   rw[e2];exact hr2
theorem s9 {x:Operand}{off:Nat}
 (hx:cO T x=some (.p k off)) (hg:gd ops ⟨dst,.nilCheck x,ty,pos,af,g⟩ T=some true):Sem P ops ⟨dst,.nilCheck x,ty,pos,af,g⟩ T B (.r (.p k off)):=
 bG hg (fun l e=>m9 (ops:=ops) (o:=⟨dst,.nilCheck x,ty,pos,af,g⟩) (by simp[Op.operands]) hx e)
  (fun V β a w hs=>by
   have hp:a.eval x=.pointer (some ⟨β k,off,none⟩):=ap hs (x:=x) (by simp[Op.operands]) hx
   exact⟨_,by simp[execOp,hp],rfl⟩)
end
theorem QW (ok c:Bool) (lo hi:Int):OkP Tryz.prog 369 313 [.b ok] [.b (ok&&c)] [.a [.i .i64 lo,.i .i64 hi],.c (.b c)] [.a [.i .i64 lo,.i .i64 hi]]:=
 ⟨by kernel_rfl,fun V b bs vs vl w hvs hV hb hbl hcs hds=>by
  obtain⟨vs⟩:=vs
  replace hvs:vs=_:=hvs
  subst hvs
  match vl,hds with
  |[],hds=>have:=hds.1;simp at this
  |v1::vl,hds=>
  obtain⟨h1,hds⟩:=hds.uncons
  match vl,hds with
  |[],hds=>have:=hds.1;simp at this
  |v2::vl,hds=>
  obtain⟨h2,hds⟩:=hds.uncons
  have hn:vl=[]:=mI.1 hds.1
  subst hn
  have h2:=ua h2
  subst h2
  obtain⟨cs,rfl,h1⟩:=h1
  obtain⟨cs⟩:=cs
  obtain⟨bs⟩:=bs
  match cs,h1 with
  |[],h1=>have:=h1.1;simp at this
  |x1::cs,h1=>
  obtain⟨g1,h1⟩:=h1.uncons
  match cs,h1 with
  |[],h1=>have:=h1.1;simp at this
  |x2::cs,h1=>
  obtain⟨g2,h1⟩:=h1.uncons
  have hn:cs=[]:=mI.1 h1.1
  subst hn
  have g1:=fO g1
  have g2:=fO g2
  subst g1 g2
  match bs,hcs with
  |[],hcs=>have:=hcs.1;simp at this
  |y1::bs,hcs=>
  obtain⟨g3,hcs⟩:=hcs.uncons
  have hn:bs=[]:=mI.1 hcs.1
  subst hn
  have g3:=ua g3
  subst g3
  refine(NY b ok c lo hi w hbl).mono ?_
  rintro e w' ⟨rfl,h3,h4⟩
  exact⟨_,_,rfl,h3,h4,qA (.b _) vm,_,rfl,qA (.i _ _) (qA (.i _ _) vm)⟩⟩
def Bd (x:Int):Prop:= -2305843009213693952≤x∧x≤2305843009213693952
theorem Bd.zero:Bd 0:=by unfold Bd;omega
def gL (e:Rat):Int:=if iO e then ji e else 0
def gH (e:Rat):Int:=if iO e then iN e else 0
theorem ui (e:Rat):Bd (gL e):=by
 unfold gL;split
 ·rename_i h;have:=DN h;exact⟨this.1,this.2.1⟩
 ·exact Bd.zero
theorem um (e:Rat):Bd (gH e):=by
 unfold gH;split
 ·rename_i h;have:=DN h;exact⟨this.2.2.1,this.2.2.2⟩
 ·exact Bd.zero
theorem CJ (e:Rat):gL e≤gH e:=by
 unfold gL gH;split
 ·exact UQ e
 ·exact pP _
theorem JG (h: ¬e<0): ¬gH e<0:=by
 unfold gH;split
 ·have:=Ap h;omega
 ·omega
theorem Lc (e:Rat):Bd (qb (gL e)):=by
 have:=Or (x:=gL e) (y:=0) (ui e).2 (by omega) (by omega)
 unfold Bd;omega
theorem KA (h: ¬e<0):Bd (kw (gH e)):=by
 have:=Or (x:=0) (y:=gH e) (by omega) (by have:=JG h;omega) (um e).2
 unfold Bd;omega
theorem aan (x y:Int):lI x y≤lu x y:=by
 have h:MG x y/65536≤CE (MG x y):=by unfold CE;split<;>omega
 unfold lI lu;split<;>omega
theorem Zw (x y u v:Int):CM x y u v 4≤Cz x y u v 4:=by
 exact xD (Int.min_le_right _ _) (xD (aan _ _) (Int.le_max_right _ _))
def pL (x y u v:Int):Int:=if y5 x y u v 4 then CM x y u v 4 else 0
def pH (x y u v:Int):Int:=if y5 x y u v 4 then Cz x y u v 4 else 0
theorem Ds (x y u v:Int):Bd (pL x y u v):=by
 unfold pL;split
 ·rename_i h;have:=Xd 4 h;exact⟨this.1,this.2.1⟩
 ·exact Bd.zero
theorem CY (x y u v:Int):Bd (pH x y u v):=by
 unfold pH;split
 ·rename_i h;have:=Xd 4 h;exact⟨this.2.2.1,this.2.2.2⟩
 ·exact Bd.zero
theorem At (x y u v:Int):pL x y u v≤pH x y u v:=by
 unfold pL pH;split
 ·exact Zw x y u v
 ·exact pP _
def aL (x y u v:Int):Int:=if wm (x+u) (y+v) then x+u else 0
def aH (x y u v:Int):Int:=if wm (x+u) (y+v) then y+v else 0
theorem JD (h:x≤y) (h2:u≤v):Bd (aL x y u v):=by
 unfold aL;split
 ·rename_i h3;have:=Li h3;unfold Bd;omega
 ·exact Bd.zero
theorem J0 (h:x≤y) (h2:u≤v):Bd (aH x y u v):=by
 unfold aH;split
 ·rename_i h3;have:=Li h3;unfold Bd;omega
 ·exact Bd.zero
theorem iT (h:Rz 4000000 e):Ok Tryz.prog 238 [dR e] [.a ([.i .i64 (gL e)]++[.i .i64 (gH e)]),.c (.b (iO e))]:=oH h
theorem Gy (h: ¬e<0):Ok Tryz.prog 365 [.a ([.i .i64 (gL e)]++[.i .i64 (gH e)])] [.a ([.i .i64 (qb (gL e))]++[.i .i64 (kw (gH e))]),.c (.b true)]:=
 HN (ui e).1 (ui e).2 (um e).1 (um e).2 (JG h)
theorem vr (h1:Bd x) (h2:Bd y) (h3:Bd u) (h4:Bd v):Ok Tryz.prog 239 [.a ([.i .i64 x]++[.i .i64 y]),.a ([.i .i64 u]++[.i .i64 v])] [.a ([.i .i64 (pL x y u v)]++[.i .i64 (pH x y u v)]),.c (.b (y5 x y u v 4))]:=
 KT h1.1 h1.2 h2.1 h2.2 h3.1 h3.2 h4.1 h4.2
theorem v6 (h1:Bd x) (h2:Bd y) (h3:Bd u) (h4:Bd v):Ok Tryz.prog 240 [.a ([.i .i64 x]++[.i .i64 y]),.a ([.i .i64 u]++[.i .i64 v])] [.a ([.i .i64 (aL x y u v)]++[.i .i64 (aH x y u v)]),.c (.b (wm (x+u) (y+v)))]:=
 J6 h1.1 h1.2 h2.1 h2.2 h3.1 h3.2 h4.1 h4.2
theorem f6 {ok c:Bool}:OkP Tryz.prog 369 313 [.b ok] [.b (ok&&c)] [.a ([.i .i64 x]++[.i .i64 y]),.c (.b c)] [.a ([.i .i64 x]++[.i .i64 y])]:=QW ok c x y
def Ul (B M:Rat):Int:=pL (gL B) (gH B) (qb (gL M)) (kw (gH M))
def Tv (B M:Rat):Int:=pH (gL B) (gH B) (qb (gL M)) (kw (gH M))
def qbK (B M:Rat):Bool:=y5 (gL B) (gH B) (qb (gL M)) (kw (gH M)) 4
def SN (M N:Rat):Int:=pL (qb (gL M)) (kw (gH M)) (qb (gL N)) (kw (gH N))
def Td (M N:Rat):Int:=pH (qb (gL M)) (kw (gH M)) (qb (gL N)) (kw (gH N))
def aaO (M N:Rat):Bool:=y5 (qb (gL M)) (kw (gH M)) (qb (gL N)) (kw (gH N)) 4
def qdL (D M N:Rat):Int:=pL (gL D) (gH D) (SN M N) (Td M N)
def qdH (D M N:Rat):Int:=pH (gL D) (gH D) (SN M N) (Td M N)
def qdK (D M N:Rat):Bool:=y5 (gL D) (gH D) (SN M N) (Td M N) 4
def SL (A B M:Rat):Int:=aL (gL A) (gH A) (Ul B M) (Tv B M)
def Tl (A B M:Rat):Int:=aH (gL A) (gH A) (Ul B M) (Tv B M)
def aaR (A B M:Rat):Bool:=wm (gL A+Ul B M) (gH A+Tv B M)
def RD (C D M N:Rat):Int:=aL (Ul C N) (Tv C N) (qdL D M N) (qdH D M N)
def Q5 (C D M N:Rat):Int:=aH (Ul C N) (Tv C N) (qdL D M N) (qdH D M N)
def aaY (C D M N:Rat):Bool:=wm (Ul C N+qdL D M N) (Tv C N+qdH D M N)
def ZQ (A B C D M N:Rat):Int:=aL (SL A B M) (Tl A B M) (RD C D M N) (Q5 C D M N)
def Yc (A B C D M N:Rat):Int:=aH (SL A B M) (Tl A B M) (RD C D M N) (Q5 C D M N)
def qsK (A B C D M N:Rat):Bool:=wm (SL A B M+RD C D M N) (Tl A B M+Q5 C D M N)
def VS (M N:Rat):Bool:=iO M&&iO N
def W6 (B C D M N:Rat):Bool:=VS M N&&(iO B&&(qbK B M&&(iO C&&(qbK C N&&(iO D&&(aaO M N&&qdK D M N))))))
def Ld (A B C D M N:Rat):Bool:=W6 B C D M N&&(iO A&&(aaR A B M&&(aaY C D M N&&qsK A B C D M N)))
def QT (A B C D M N:Rat):Bool:=Ld A B C D M N&&LK (ZQ A B C D M N) (Yc A B C D M N)
def UM (A B C D M N:Rat):Int:=if Ld A B C D M N then L9 (ZQ A B C D M N) (Yc A B C D M N) else 0
theorem Dy (h:Ld A B C D M N=false):UM A B C D M N=0∧QT A B C D M N=false:=by
 unfold UM QT;rw[h];exact⟨rfl,rfl⟩
theorem Jr (h:Ld A B C D M N=true):UM A B C D M N=L9 (ZQ A B C D M N) (Yc A B C D M N)∧QT A B C D M N=LK (ZQ A B C D M N) (Yc A B C D M N):=by
 unfold UM QT;rw[h];exact⟨rfl,rfl⟩
theorem Ob (h:W6 B C D M N=false):Ld A B C D M N=false:=by unfold Ld;rw[h];rfl
theorem V4 (h:VS M N=false):Ld A B C D M N=false:=Ob (by unfold W6;rw[h];rfl)
theorem Jg {b c:Bool}(h:(!b)=true) (e:c=b):c=false:=by rw[e];simpa using h
theorem Wc {b c:Bool}(h:(!b)=false) (e:c=b):c=true:=by rw[e];simpa using h
theorem IX (hA:Rz 4000000 A) (hB:Rz 4000000 B) (hC:Rz 4000000 C) (hD:Rz 4000000 D) (hM:Rz 4000000 M) (hN:Rz 4000000 N) (hm: ¬M<0) (hn: ¬N<0):Ok Tryz.prog 331 [.a ((cR A++cR B++cR C++cR D++cR M++cR N))] [.c (.i .i64 (UM A B C D M N)),.c (.b (QT A B C D M N))]:=by
 refine bW Tryz.func331 rfl<|ar (az (us:=([.b true])) Z5 Z1 rfl rfl rfl) ?_
 refine ac rfl (iT (aE hM)) ?_
 refine DL.mk<|r5 (fB rfl rfl rfl rfl rfl (f6) rfl)<|eQ ?_
 refine ac rfl (Gy (by assumption)) ?_
 refine DL.mk<|r5 (fB rfl rfl rfl rfl rfl (f6) rfl)<|eQ ?_
 refine ac rfl (iT (aE hN)) ?_
 refine DL.mk<|r5 (fB rfl rfl rfl rfl rfl (f6) rfl)<|eQ ?_
 refine ac rfl (Gy (by assumption)) ?_
 refine DL.mk<|r5 (fB rfl rfl rfl rfl rfl (f6) rfl)<|eQ ?_
 refine ar (s9 rfl rfl) ?_
 refine df rfl (fun hc1=>?_) (fun hc1=>?_)
 ·have hk:Ld A B C D M N=false:=V4 (Jg hc1 (by unfold VS;simp only[fW,wM];try rfl))
  refine ah ?_
  rw[(Dy hk).1,(Dy hk).2]
  exact ak (ak aa)
 ·refine cz 14 [12] ?_
  refine aC rfl (iT (aE hB)) ?_
  refine DQ.mk<|ue (fB rfl rfl rfl rfl rfl (f6) rfl) rfl rfl rfl rfl rfl (by kernel_rfl) rfl<|dc ?_
  refine aC rfl (vr (ui _) (um _) (Lc _) (KA (by assumption))) ?_
  refine DQ.mk<|ue (fB rfl rfl rfl rfl rfl (f6) rfl) rfl rfl rfl rfl rfl (by kernel_rfl) rfl<|dc ?_
  refine cz 14 [12] ?_
  refine aC rfl (iT (aE hC)) ?_
  refine DQ.mk<|ue (fB rfl rfl rfl rfl rfl (f6) rfl) rfl rfl rfl rfl rfl (by kernel_rfl) rfl<|dc ?_
  refine aC rfl (vr (ui _) (um _) (Lc _) (KA (by assumption))) ?_
  refine DQ.mk<|ue (fB rfl rfl rfl rfl rfl (f6) rfl) rfl rfl rfl rfl rfl (by kernel_rfl) rfl<|dc ?_
  refine cz 20 [12] ?_
  refine aC rfl (iT (aE hD)) ?_
  refine DQ.mk<|ue (fB rfl rfl rfl rfl rfl (f6) rfl) rfl rfl rfl rfl rfl (by kernel_rfl) rfl<|dc ?_
  refine aC rfl (vr (Lc _) (KA (by assumption)) (Lc _) (KA (by assumption))) ?_
  refine DQ.mk<|ue (fB rfl rfl rfl rfl rfl (f6) rfl) rfl rfl rfl rfl rfl (by kernel_rfl) rfl<|dc ?_
  refine aC rfl (vr (ui _) (um _) (Ds _ _ _ _) (CY _ _ _ _)) ?_
  refine DQ.mk<|ue (fB rfl rfl rfl rfl rfl (f6) rfl) rfl rfl rfl rfl rfl (by kernel_rfl) rfl<|dc ?_
  refine ar (s9 rfl rfl) ?_
  refine df rfl (fun hc2=>?_) (fun hc2=>?_)
  ·have hk:Ld A B C D M N=false:=Ob (Jg hc2 (by unfold W6 VS;simp only[fW,wM,Bool.and_assoc];try rfl))
   refine ah ?_
   rw[(Dy hk).1,(Dy hk).2]
   exact ak (ak aa)
  ·refine cz 26 [12] ?_
   refine aC rfl (iT (aE hA)) ?_
   refine DQ.mk<|ue (fB rfl rfl rfl rfl rfl (f6) rfl) rfl rfl rfl rfl rfl (by kernel_rfl) rfl<|dc ?_
   refine aC rfl (v6 (ui _) (um _) (Ds _ _ _ _) (CY _ _ _ _)) ?_
   refine DQ.mk<|ue (fB rfl rfl rfl rfl rfl (f6) rfl) rfl rfl rfl rfl rfl (by kernel_rfl) rfl<|dc ?_
   refine aC rfl (v6 (Ds _ _ _ _) (CY _ _ _ _) (Ds _ _ _ _) (CY _ _ _ _)) ?_
   refine DQ.mk<|ue (fB rfl rfl rfl rfl rfl (f6) rfl) rfl rfl rfl rfl rfl (by kernel_rfl) rfl<|dc ?_
   refine aC rfl (v6 (JD (by first|exact CJ _|exact At _ _ _ _) (by first|exact CJ _|exact At _ _ _ _)) (J0 (by first|exact CJ _|exact At _ _ _ _) (by first|exact CJ _|exact At _ _ _ _)) (JD (by first|exact CJ _|exact At _ _ _ _) (by first|exact CJ _|exact At _ _ _ _)) (J0 (by first|exact CJ _|exact At _ _ _ _) (by first|exact CJ _|exact At _ _ _ _))) ?_
   refine DQ.mk<|ue (fB rfl rfl rfl rfl rfl (f6) rfl) rfl rfl rfl rfl rfl (by kernel_rfl) rfl<|dc ?_
   refine ar (s9 rfl rfl) ?_
   refine df rfl (fun hc3=>?_) (fun hc3=>?_)
   ·have hk:Ld A B C D M N=false:=Jg hc3 (by unfold Ld W6 VS;simp only[fW,wM,Bool.and_assoc];try rfl)
    refine ah ?_
    rw[(Dy hk).1,(Dy hk).2]
    exact ak (ak aa)
   ·refine ac rfl (Ha) ?_
    have hk:Ld A B C D M N=true:=Wc hc3 (by unfold Ld W6 VS;simp only[fW,wM,Bool.and_assoc];try rfl)
    refine ah ?_
    rw[(Jr hk).1,(Jr hk).2]
    exact ak (ak aa)
def Ar (A B C D M N:Rat):Int:=if M<0∨N<0 then 0 else if QT A B C D M N=true then UM A B C D M N else eE A B C D M N
theorem Js (h:M<0∨N<0):Ar A B C D M N=0:=by unfold Ar;rw[if_pos h]
theorem Xq (h: ¬M<0) (h': ¬N<0) (hq:QT A B C D M N=true):Ar A B C D M N=UM A B C D M N:=by unfold Ar;rw[if_neg (fun e=>e.elim h h'),if_pos hq]
theorem EG (h: ¬M<0) (h': ¬N<0) (hq:QT A B C D M N=false):Ar A B C D M N=rf (bd A B M) (bd C D M*aw N 0) (bd (A*A+M*(B*B)-N*(C*C+M*(D*D))) (A*B-N*(C*D)+(A*B-N*(C*D))) M):=by
 unfold Ar;rw[if_neg (fun e=>e.elim h h'),hq,if_neg (by decide),vK h h']
 unfold Dr wy
 grind
def td (a b c d e f:Rat):Int:=
 if (aw b 0==0)=true∧(aw e 0==0)=true then aw a d else
 if Hp (dS a b c) (dS d e f) (dY a b c) (dZ a b c) (dY d e f) (dZ d e f)=true then I2 (dS a b c) (dS d e f) (dY a b c) (dZ a b c) (dY d e f) (dZ d e f) else
 if (aw c f==0)=true then bd (a-d) (b-e) c else Ar (a-d) b (-e) 0 c f
section
variable {a b c d e f:Rat}
theorem Wb (h:(aw b 0==0)=true) (h2:(aw e 0==0)=true):td a b c d e f=aw a d:=by unfold td;rw[if_pos ⟨h,h2⟩]
theorem N5 (h: ¬((aw b 0==0)=true∧(aw e 0==0)=true)) (h2:Hp (dS a b c) (dS d e f) (dY a b c) (dZ a b c) (dY d e f) (dZ d e f)=true):
 td a b c d e f=I2 (dS a b c) (dS d e f) (dY a b c) (dZ a b c) (dY d e f) (dZ d e f):=by unfold td;rw[if_neg h,if_pos h2]
theorem N3 (h: ¬((aw b 0==0)=true∧(aw e 0==0)=true)) (h2:Hp (dS a b c) (dS d e f) (dY a b c) (dZ a b c) (dY d e f) (dZ d e f)=false) (h3:(aw c f==0)=true):
 td a b c d e f=bd (a-d) (b-e) c:=by unfold td;rw[if_neg h,h2,if_neg (by decide),if_pos h3]
theorem ND (h: ¬((aw b 0==0)=true∧(aw e 0==0)=true)) (h2:Hp (dS a b c) (dS d e f) (dY a b c) (dZ a b c) (dY d e f) (dZ d e f)=false) (h3:(aw c f==0)=false):
 td a b c d e f=Ar (a-d) b (-e) 0 c f:=by unfold td;rw[if_neg h,h2,if_neg (by decide),h3,if_neg (by decide)]
theorem Xy {b c:Bool}(h:b=false): ¬(b=true∧c=true):=fun e=>by rw[h] at e;exact absurd e.1 (by decide)
theorem V8 {b c:Bool}(h:c=false): ¬(b=true∧c=true):=fun e=>by rw[h] at e;exact absurd e.2 (by decide)
end
theorem s7 (ha:Rz 6000000 a) (hb:Rz 6000000 b):Ok Tryz.prog 332 [dR a,dR b] [dR (a+b)]:=by
 refine bW Tryz.func332 rfl<|ac rfl (iG (aE ha) (aE hb)) ?_
 exact ah (aQ aX rfl aa)
theorem vM (hA:Rz 160000 A) (hB:Rz 160000 B) (hC:Rz 160000 C) (hD:Rz 160000 D) (hM:Rz 160000 M) (hN:Rz 160000 N):Ok Tryz.prog 255 [.a ((cR A++cR B++cR C++cR D++cR M++cR N))] [.c (.i .i64 (Ar A B C D M N))]:=by
 have z1:=jr (gC C D M) (dA N 0)
 have z2:=jr (gC A B M) (gC (A*A+M*(B*B)-N*(C*C+M*(D*D))) ((A*B-N*(C*D))+(A*B-N*(C*D))) M)
 have kA:Rz 4000000 A:=hA.m_
 have kB:Rz 4000000 B:=hB.m_
 have kC:Rz 4000000 C:=hC.m_
 have kD:Rz 4000000 D:=hD.m_
 have kM:Rz 4000000 M:=hM.m_
 have kN:Rz 4000000 N:=hN.m_
 refine bW Tryz.func255 rfl ?_
 refine ac rfl (cn) ?_
 refine jC (bq rfl) (fun c1 hb1=>?_)
 cases c1
 ·have n1:=Bp hb1
  refine ac rfl (cn) ?_
  refine df rfl (fun hc2=>?_) (fun hc2=>?_)
  ·refine ah ?_
   rw[Js (.inr (Fr hc2))]
   exact ak aa
  ·have n2:=Bp hc2
   refine ac rfl (IX (by assumption) (by assumption) (by assumption) (by assumption) (by assumption) (by assumption) (by assumption) (by assumption)) ?_
   refine df rfl (fun hc3=>?_) (fun hc3=>?_)
   ·refine ah ?_
    rw[Xq n1 n2 hc3]
    exact ak aa
   ·refine cz 20 [] ?_
    refine aC rfl (oZ (aE hA) (aE hB) (aE hM)) ?_
    refine aC rfl (oZ (aE hC) (aE hD) (aE hM)) ?_
    refine aC rfl (cn) ?_
    refine aq (bZ ((bd C D M)*(aw N 0)) (fJ (by omega) (by omega)) rfl) ?_
    refine jC (bq rfl) (fun c4 hb4=>?_)
    cases c4
    ·refine df rfl (fun hc5=>?_) (fun hc5=>?_)
     ·refine ah ?_
      rw[EG n1 n2 hc3,yw hc5]
      exact ak aa
     ·refine df rfl (fun hc6=>?_) (fun hc6=>?_)
      ·refine ah ?_
       rw[EG n1 n2 hc3,yn hc6]
       exact ak aa
      ·refine cz 42 [] ?_
       refine aC rfl (cB (aE hA) (aE hA)) ?_
       refine aC rfl (cB (aE hB) (aE hB)) ?_
       refine aC rfl (cB (aE hM) (aE (aF hB hB))) ?_
       refine aC rfl (s7 (aE (aF hA hA)) (aE (aF hM (aF hB hB)))) ?_
       refine aC rfl (cB (aE hC) (aE hC)) ?_
       refine aC rfl (cB (aE hD) (aE hD)) ?_
       refine aC rfl (cB (aE hM) (aE (aF hD hD))) ?_
       refine aC rfl (s7 (aE (aF hC hC)) (aE (aF hM (aF hD hD)))) ?_
       refine aC rfl (cB (aE hN) (aE (ig (aF hC hC) (aF hM (aF hD hD))))) ?_
       refine aC rfl (ei (aE (ig (aF hA hA) (aF hM (aF hB hB)))) (aE (aF hN (ig (aF hC hC) (aF hM (aF hD hD))))))<|cz 18 [] ?_
       refine aC rfl (cB (aE hA) (aE hB)) ?_
       refine aC rfl (cB (aE hC) (aE hD)) ?_
       refine aC rfl (cB (aE hN) (aE (aF hC hD)))<|aC rfl (ei (aE (aF hA hB)) (aE (aF hN (aF hC hD))))<|cz 11 [] ?_
       refine aC rfl (s7 (aE (cT (aF hA hB) (aF hN (aF hC hD)))) (aE (cT (aF hA hB) (aF hN (aF hC hD))))) ?_
       refine aC rfl (oZ (aE (cT (ig (aF hA hA) (aF hM (aF hB hB))) (aF hN (ig (aF hC hC) (aF hM (aF hD hD)))))) (aE (ig (cT (aF hA hB) (aF hN (aF hC hD))) (cT (aF hA hB) (aF hN (aF hC hD))))) (aE hM)) ?_
       refine aq (bZ ((bd A B M)*(bd (((A*A)+(M*(B*B)))-(N*((C*C)+(M*(D*D))))) (((A*B)-(N*(C*D)))+((A*B)-(N*(C*D)))) M)) (fJ (by omega) (by omega)) rfl)<|ah ?_
       rw[EG n1 n2 hc3,yc hc6 hb4 hc5]
       exact ak aa
    ·refine rx rfl<|ah ?_
     rw[EG n1 n2 hc3,yG hb4]
     exact ak aa
 ·refine rx rfl<|ah ?_
  rw[Js (.inl (Fr hb1))]
  exact ak aa
theorem BV (ha:Rz 2000000 a) (hb:Rz 160000 b) (hc:Rz 160000 c) (hd:Rz 2000000 d) (he:Rz 160000 e) (hf:Rz 160000 f) (h1:Rz 160000 (a-d)):Ok Tryz.prog 139 [.a ((cR a++cR b++cR c)),.a ((cR d++cR e++cR f))] [.c (.i .i64 (td a b c d e f))]:=by
 have ka:Rz 6000000 a:=ha.m_
 have la:Rz 4000000 a:=ha.m_
 have kb:Rz 6000000 b:=hb.m_
 have lb:Rz 4000000 b:=hb.m_
 have kc:Rz 6000000 c:=hc.m_
 have lc:Rz 4000000 c:=hc.m_
 have kd:Rz 6000000 d:=hd.m_
 have ld:Rz 4000000 d:=hd.m_
 have ke:Rz 6000000 e:=he.m_
 have le:Rz 4000000 e:=he.m_
 have kf:Rz 6000000 f:=hf.m_
 have lf:Rz 4000000 f:=hf.m_
 have m2:Rz 160000 (-e):=he.neg
 have m0:Rz 160000 (0:Rat):=dm (n:=0) (cX (by decide) (by decide) (by decide)) (by decide)
 have w1:Rz 2000000 (a-d):=h1.m_
 have w2:Rz 2000000 (b-e):=(hb.sub he).m_
 have w3:Rz 2000000 c:=hc.m_
 refine bW Tryz.func139 rfl ?_
 refine ac rfl (cn) ?_
 refine jC (bq rfl) (fun c1 hb1=>?_)
 cases c1
 ·refine qg rfl<|ac rfl (Cb (by assumption) (by assumption) (by assumption) (by assumption) (by assumption) (by assumption)) ?_
  refine df rfl (fun hc2=>?_) (fun hc2=>?_)
  ·refine ah ?_
   rw[N5 (Xy hb1) hc2]
   exact ak aa
  ·refine ac rfl (kQ (aE hc) (aE hf)) ?_
   refine df rfl (fun hc3=>?_) (fun hc3=>?_)
   ·refine cz 14 [] ?_
    refine aC rfl (ei (aE ha) (aE hd)) ?_
    refine aC rfl (ei (aE hb) (aE he)) ?_
    refine aC rfl (oZ w1 w2 w3)<|ah ?_
    rw[N3 (Xy hb1) hc2 hc3]
    exact ak aa
   ·refine ac rfl (G3 (by assumption) (by assumption) (by assumption) (by assumption) (by assumption) (by assumption))<|ac rfl (vM (by assumption) (by assumption) (by assumption) (by assumption) (by assumption) (by assumption))<|ah ?_
    rw[ND (Xy hb1) hc2 hc3]
    exact ak aa
 ·refine ac rfl (cn) ?_
  refine df rfl (fun hc4=>?_) (fun hc4=>?_)
  ·refine ac rfl (kQ (aE ha) (aE hd))<|ah ?_
   rw[Wb hb1 hc4]
   exact ak aa
  ·refine ac rfl (Cb (by assumption) (by assumption) (by assumption) (by assumption) (by assumption) (by assumption)) ?_
   refine df rfl (fun hc5=>?_) (fun hc5=>?_)
   ·refine ah ?_
    rw[N5 (V8 hc4) hc5]
    exact ak aa
   ·refine ac rfl (kQ (aE hc) (aE hf)) ?_
    refine df rfl (fun hc6=>?_) (fun hc6=>?_)
    ·refine cz 14 [] ?_
     refine aC rfl (ei (aE ha) (aE hd)) ?_
     refine aC rfl (ei (aE hb) (aE he)) ?_
     refine aC rfl (oZ w1 w2 w3)<|ah ?_
     rw[N3 (V8 hc4) hc5 hc6]
     exact ak aa
    ·refine ac rfl (G3 (by assumption) (by assumption) (by assumption) (by assumption) (by assumption) (by assumption))<|ac rfl (vM (by assumption) (by assumption) (by assumption) (by assumption) (by assumption) (by assumption))<|ah ?_
     rw[ND (V8 hc4) hc5 hc6]
     exact ak aa
end Go.Proofs.YtegpmhlfjkhjmaaGreat
