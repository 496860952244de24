/-Plain:the program's integer below a root;a multiple of a unit near a root. -/
import Derived.Test.YtegpmhlfjkhjmaaGreatYmL
namespace Go.Proofs.YtegpmhlfjkhjmaaGreat
open Go Go.RowKit
variable {k:Ci}{f:FuncId}{ds rs:List D0}{L:List Pt}{l:Ln}{P:Program}{p q:Pt}{a a1 a2 b b1 b2 c d e u v x y:Rat}
theorem nJ:type_of% @Rz.div:=@Rz.div
theorem qS:type_of% @List.not_mem_nil:=@List.not_mem_nil
theorem yc:type_of% @Nat.not_lt_zero:=@Nat.not_lt_zero
def VF (a b c:Rat):Int:=bY ((a.den:Int)*(a.den:Int)*((b*b*c).num*((b*b*c).den:Int)))
def X8 (a b c:Rat) (r:Int):Int:=(a.num*((b*b*c).den:Int)+r).fdiv ((a.den:Int)*((b*b*c).den:Int))
def oX (a b c:Rat):Int:=if b=0 then a.num.fdiv (a.den:Int) else if b<0 then X8 a b c (-(VF a b c+1)) else X8 a b c (VF a b c)
section
variable {a b c:Rat}
theorem RD (h:b=0):oX a b c=a.num.fdiv (a.den:Int):=by unfold oX;rw[if_pos h]
theorem WI (h:b≠0) (h2:b<0):oX a b c=X8 a b c (-(VF a b c+1)):=by unfold oX;rw[if_neg h,if_pos h2]
theorem VS (h:b≠0) (h2: ¬b<0):oX a b c=X8 a b c (VF a b c):=by unfold oX;rw[if_neg h,if_neg h2]
theorem MO {Z D:Int}(hD:0<D):Z.fdiv D*D≤Z∧Z+1≤(Z.fdiv D+1)*D:=by
 rw[pv _ (by omega),Int.add_mul,tw (Z/D) D]
 have h1:=sr Z D
 have h2:=pG Z (show D≠0 by omega)
 have h3:=oR Z hD
 omega
theorem sF {x y:Re}(hd:0<d) (h:cD (Re.of d*x) (Re.of d*y)):cD x y:=by
 unfold cD at*
 have e:aT (Re.of d*y-Re.of d*x)=aT (Re.of d*(y-x)):=congrArg aT (br fun k=>by simp only[aI,aR,bc];grind)
 have hp:aT (Re.of d)=1:=by rw[cV];unfold aM;rw[if_neg (by grind),if_pos hd]
 rw[e,bH,hp,pn] at h
 grind
theorem Kr {x y:Re}(hd:0<d) (h:cD x y):cD (Re.of d*x) (Re.of d*y):=by
 unfold cD at*
 have e:aT (Re.of d*y-Re.of d*x)=aT (Re.of d*(y-x)):=congrArg aT (br fun k=>by simp only[aI,aR,bc];grind)
 have hp:aT (Re.of d)=1:=by rw[cV];unfold aM;rw[if_neg (by grind),if_pos hd]
 rw[e,bH,hp,pn]
 grind
theorem qf {m n:Int}(h:m≤n):cD (Re.of (m:Rat)) (Re.of (n:Rat)):=of_le (fI.2 h)
theorem T4 (hc:0≤c):cD (Re.of ((VF a b c:Int):Rat)) (Re.of (((a.den:Int)*((b*b*c).den:Int):Int):Rat)*(Re.of (if b<0 then-b else b)*Re.rt c))∧
 cD (Re.of (((a.den:Int)*((b*b*c).den:Int):Int):Rat)*(Re.of (if b<0 then-b else b)*Re.rt c)) (Re.of (((VF a b c+1:Int)):Rat)):=by
 have hbc:0≤b*b*c:=by
  have:0≤b*b:=by
   by_cases h:0≤b
   ·exact jo h h
   ·have:=jo (show 0≤ -b by grind) (show 0≤ -b by grind);grind
  exact jo this hc
 have hin:0≤(a.den:Int)*(a.den:Int)*((b*b*c).num*((b*b*c).den:Int)):=
  fZ (fZ (by omega) (by omega)) (fZ (Rat.num_nonneg.2 hbc) (by omega))
 have h1:=rJ hin
 have h2:=wI hin
 have h0:=fg ((a.den:Int)*(a.den:Int)*((b*b*c).num*((b*b*c).den:Int)))
 have hn:=uM (b*b*c)
 have dn:=den_pos a
 have dq:=den_pos (b*b*c)
 generalize hN:(a.den:Int)*(a.den:Int)*((b*b*c).num*((b*b*c).den:Int))=N at*
 have eI:VF a b c=bY N:=by unfold VF;rw[hN]
 rw[eI]
 generalize hb':(if b<0 then-b else b)=b'
 have hb2:b'*b'=b*b∧0≤b':=by grind
 generalize hD:(a.den:Int)*((b*b*c).den:Int)=D
 have hD0:0<D:=by subst hD;exact qr dn dq
 have eN:((N:Int):Rat)=((D:Int):Rat)*((D:Int):Rat)*(b*b*c):=by
  subst hN hD
  grind
 have nnR:0≤aT (Re.of ((D:Int):Rat)*(Re.of b'*Re.rt c)):=by
  have p1:aT (Re.of ((D:Int):Rat))=1:=by have:=Cr hD0;have:=bJ (Re.of ((D:Int):Rat));omega
  have p2:0≤aT (Re.of b'):=by rw[cV];exact kJ hb2.2
  have p3:=xy c
  rw[bH,p1,pn,bH]
  exact fZ p2 p3
 have eS: ∀q:Rat,aT (Re.of ((D:Int):Rat)*(Re.of b'*Re.rt c)*(Re.of ((D:Int):Rat)*(Re.of b'*Re.rt c))-Re.of q)=aM ((N:Int):Rat) q:=by
  intro q
  rw[←oK,←cV]
  refine dV ?_
  have e:Re.of ((D:Int):Rat)*(Re.of b'*Re.rt c)*(Re.of ((D:Int):Rat)*(Re.of b'*Re.rt c))-Re.of q-Re.of (((N:Int):Rat)-q)=Re.of (((D:Int):Rat)*((D:Int):Rat)*(b'*b'))*(Re.rt c*Re.rt c-Re.of c):=br fun k=>by
   simp only[aI,aR,bc];grind
  rw[e,bH,oE hc,pF]
 refine⟨?_,?_⟩
 ·refine qP (wK h0) nnR ?_
  rw[ia,eS,←f8]
  exact kJ (fI.2 h1)
 ·refine qP nnR (wK (by omega)) ?_
  have h3:0≤ -aT (Re.of ((D:Int):Rat)*(Re.of b'*Re.rt c)*(Re.of ((D:Int):Rat)*(Re.of b'*Re.rt c))-Re.of (((bY N+1:Int):Rat)*((bY N+1:Int):Rat))):=by
   rw[eS,←f8]
   have:=CM (x:=((N:Int):Rat)) (y:=(((bY N+1)*(bY N+1):Int):Rat)) (fI.2 (by omega))
   omega
  rw[←cj] at h3
  refine lk (fun k=>?_) h3
  simp only[bD,aI,aR,bc];grind
theorem FY {x y:Re}(h:cD x y):0≤aT (y-x):=h
theorem uz (hc:0≤c):cD (Re.of ((oX a b c:Int):Rat)) (Re.of a+Re.of b*Re.rt c)∧cD (Re.of a+Re.of b*Re.rt c) (Re.of (((oX a b c+1:Int)):Rat)):=by
 by_cases hb:b=0
 ·subst hb
  have e:Re.of a+Re.of 0*Re.rt c=Re.of a:=br fun k=>by simp only[aQ,aR,bc];grind
  rw[e,RD rfl]
  have dn:=den_pos a
  obtain⟨h1,h2⟩:=MO (Z:=a.num) dn
  have hn:=uM a
  have hp:(0:Rat)<((a.den:Int):Rat):=uv.2 dn
  refine⟨of_le (qI hp ?_),of_le (qI hp ?_)⟩
  ·rw[hn,←f8];exact fI.2 h1
  ·rw[hn,←f8];exact fI.2 (by omega)
 ·obtain⟨r1,r2⟩:=T4 (a:=a) (b:=b) hc
  have dn:=den_pos a
  have dq:=den_pos (b*b*c)
  have hD0:0<(a.den:Int)*((b*b*c).den:Int):=qr dn dq
  have hDr:(0:Rat)<(((a.den:Int)*((b*b*c).den:Int):Int):Rat):=uv.2 hD0
  have eX:(((a.den:Int)*((b*b*c).den:Int):Int):Rat)*a=((a.num*((b*b*c).den:Int):Int):Rat):=by
   have:=uM a
   grind
  have en:=fun h2=>WI (a:=a) (c:=c) hb h2
  have ep:=fun h2=>VS (a:=a) (c:=c) hb h2
  generalize hD:(a.den:Int)*((b*b*c).den:Int)=D at*
  generalize VF a b c=I at*
  have key: ∀r:Int,∀Y:Re,oX a b c=X8 a b c r→Re.of a+Re.of b*Re.rt c=Re.of a+Y→cD (Re.of ((r:Int):Rat)) (Re.of ((D:Int):Rat)*Y)→cD (Re.of ((D:Int):Rat)*Y) (Re.of (((r+1:Int)):Rat))→
   cD (Re.of ((oX a b c:Int):Rat)) (Re.of a+Re.of b*Re.rt c)∧cD (Re.of a+Re.of b*Re.rt c) (Re.of (((oX a b c+1:Int)):Rat)):=by
   intro r Y e1 e2 g1 g2
   rw[e2,e1]
   have e3:X8 a b c r=(a.num*((b*b*c).den:Int)+r).fdiv D:=by unfold X8;rw[hD]
   rw[e3]
   obtain⟨f1,f2⟩:=MO (Z:=a.num*((b*b*c).den:Int)+r) hD0
   refine⟨sF hDr ?_,sF hDr ?_⟩
   ·have a1:=qf f1
    have a2:=qB (FY a1) (FY g1)
    refine lk (fun k=>?_) a2
    simp only[aI,aQ,aR,bc,f8,kW] at*
    grind
   ·have a1:=qf f2
    have a2:=qB (FY a1) (FY g2)
    refine lk (fun k=>?_) a2
    simp only[aI,aQ,aR,bc,f8,kW,Rat.intCast_one] at*
    grind
  by_cases hn:b<0
  ·rw[if_pos hn] at r1 r2
   refine key (-(I+1)) (Re.of b*Re.rt c) (en hn) rfl ?_ ?_
   ·refine lk (fun k=>?_) r2
    simp only[aI,aR,bc,ri,kW,Rat.intCast_one];grind
   ·refine lk (fun k=>?_) r1
    simp only[aI,aR,bc,ri,kW,Rat.intCast_one];grind
  grind
end
theorem Dp (A B C D M N:Rat):BH A B C D M N=fD A B C D M N:=by
 by_cases h:M<0∨N<0
 ·rw[Jz h,Fq h]
 ·have hM:0≤M:=by grind
  have hN:0≤N:=by grind
  rw[Lm hM hN,nm hM hN]
theorem mG {f:Rat}(ha:Rz 2000000 a) (hb:Rz 160000 b) (hc:Rz 160000 c) (hd:Rz 2000000 d) (he:Rz 160000 e) (hf:Rz 160000 f) (h1:Rz 160000 (a-d)) (c0:0≤c) (f0:0≤f):
 Ok Tryz.prog 139 [.a (cR a++cR b++cR c),.a (cR d++cR e++cR f)] [.c (.i .i64 (fD (a-d) b (-e) 0 c f))]:=cA (CY ha hb hc hd he hf h1) ((MQ c0 f0).trans (nP c0 f0).symm)
theorem wW {x':Rat}(h:Ok P f ds (dR x::rs)) (e:x=x'):Ok P f ds (dR x'::rs):=by subst e;exact h
theorem Gk {x x':Int}(h:Ok P f ds [dI x]) (e:x=x'):Ok P f ds [dI x']:=by subst e;exact h
def HM (a b c:Rat):Rat:=1/(a*a-b*b*c)
def vJ (a b c:Rat):Int:=if aM b 0=0∨aM a 0=aM b 0 then aM a 0 else if aM a 0=0 then aM b 0 else aM a 0*aM (a*a-b*b*c) 0
section
variable {a b c:Rat}
theorem ZM (h:(aM b 0==0)=true):vJ a b c=aM a 0:=by unfold vJ;rw[if_pos (.inl (by simpa using h))]
theorem Z6 (h:(aM a 0==aM b 0)=true):vJ a b c=aM a 0:=by unfold vJ;rw[if_pos (.inr (by simpa using h))]
theorem Yo (h:(aM b 0==0)=false) (h2:(aM a 0==aM b 0)=false) (h3:(aM a 0==0)=true):vJ a b c=aM b 0:=by
 unfold vJ;rw[if_neg (fun e=>e.elim (by simpa using h) (by simpa using h2)),if_pos (by simpa using h3)]
theorem ZO (h:(aM b 0==0)=false) (h2:(aM a 0==aM b 0)=false) (h3:(aM a 0==0)=false):vJ a b c=aM a 0*aM (a*a-b*b*c) 0:=by
 unfold vJ;rw[if_neg (fun e=>e.elim (by simpa using h) (by simpa using h2)),if_neg (by simpa using h3)]
end
theorem dv1 (n:Int):Rat.divInt n 1=(n:Rat):=by rw[Bf];have:((1:Int):Rat)=1:=rfl;rw[this];grind
theorem AQ:Ok Tryz.prog 236 [] [dR 0]:=by
 refine bX Tryz.func236 rfl<|ac rfl (f7 (by omega) (by omega)) ?_
 refine ah ?_
 rw[Lc]
 exact aS aZ rfl ae
theorem yL:Ok Tryz.prog 320 [dR a,dR b,dR c] [.a ((cR a++cR b++cR (zc b c)))]:=by
 refine bX Tryz.func320 rfl<|ac rfl (kH) ?_
 refine dk rfl (fun hc1=>?_) (fun hc1=>?_)
 ·refine ac rfl (AQ) ?_
  refine ar (aG (us:=(cR a++cR b++cR 0)) lU jL rfl rfl rfl) ?_
  refine ah ?_
  rw[F6 (q9 hc1)]
  exact aS df rfl ae
 ·refine ar (aG (us:=(cR a++cR b++cR c)) lU jL rfl rfl rfl) ?_
  refine ah ?_
  rw[oY (o6 hc1)]
  exact aS df rfl ae
theorem HK {k:Rat}(ha:Rz 6000000 a) (hb:Rz 6000000 b) (hk:Rz 6000000 k):Ok Tryz.prog 363 [.a ((cR a++cR b++cR c)),dR k] [.a ((cR (a*k)++cR (b*k)++cR (zc (b*k) c)))]:=by
 refine bX Tryz.func363 rfl<|cJ 11 [] ?_
 refine aK rfl (cX (aO ha) (aO hk)) ?_
 refine aK rfl (cX (aO hb) (aO hk)) ?_
 refine aK rfl (yL) ?_
 exact ah (aS df rfl ae)
theorem re (ha:Rz 400000 a) (hb:Rz 400000 b) (hc:Rz 400000 c):Ok Tryz.prog 314 [.a ((cR a++cR b++cR c))] [dI (oX a b c)]:=by
 have hn:(a.den:Int)*((b*b*c).den:Int)≠0:=iJ (jG a) (jG (b*b*c))
 refine bX Tryz.func314 rfl<|ac rfl (cK) ?_
 refine dk rfl (fun hc1=>?_) (fun hc1=>?_)
 ·refine ac rfl (yh (aO ha)) ?_
  refine ah ?_
  rw[RD (q9 hc1)]
  exact aS d9 rfl ae
 ·refine cJ 9 [] ?_
  refine aK rfl (cX (aO hb) (aO hb)) ?_
  refine aK rfl (cX (aO (aP hb hb)) (aO hc))<|cJ 9 [4,5,999999] ?_
  refine DQ.mk<|f5 (eh d9 rfl) rfl rfl rfl rfl<|dF ?_
  refine DQ.mk<|f5 (eh d9 rfl) rfl rfl rfl rfl<|dF ?_
  refine cJ 9 [] ?_
  refine aK rfl (gN (er (dg ha)) (er (dg ha))) ?_
  refine aK rfl (gN (er (de (aP (aP hb hb) hc))) (er (dg (aP (aP hb hb) hc)))) ?_
  refine aK rfl (gN (er (dE (dg ha) (dg ha))) (er (dE (de (aP (aP hb hb) hc)) (dg (aP (aP hb hb) hc))))) ?_
  refine ac rfl (Dg (er (dE (dE (dg ha) (dg ha)) (dE (de (aP (aP hb hb) hc)) (dg (aP (aP hb hb) hc)))))) ?_
  refine ac rfl (cK) ?_
  refine dk rfl (fun hc2=>?_) (fun hc2=>?_)
  ·refine cJ 4 [] ?_
   refine aK rfl (jb (by omega) (by omega))<|aK rfl (uc (er (Sz.isq (dE (dE (dg ha) (dg ha)) (dE (de (aP (aP hb hb) hc)) (dg (aP (aP hb hb) hc)))))) (er (dS (k:=3) (by decide) (by decide) (by decide))))<|aK rfl (zb (er (Sz.addm (Sz.isq (dE (dE (dg ha) (dg ha)) (dE (de (aP (aP hb hb) hc)) (dg (aP (aP hb hb) hc))))) (dS (k:=3) (by decide) (by decide) (by decide)))))<|cJ 20 [9,10,999999] ?_
   refine aK rfl (gN (er (de ha)) (er (dg (aP (aP hb hb) hc)))) ?_
   refine aK rfl (uc (er (dE (de ha) (dg (aP (aP hb hb) hc)))) (er (Sz.neg (Sz.addm (Sz.isq (dE (dE (dg ha) (dg ha)) (dE (de (aP (aP hb hb) hc)) (dg (aP (aP hb hb) hc))))) (dS (k:=3) (by decide) (by decide) (by decide)))))) ?_
   refine aK rfl (gN (er (dg ha)) (er (dg (aP (aP hb hb) hc)))) ?_
   refine aK rfl (nQ (er (Sz.addm (dE (de ha) (dg (aP (aP hb hb) hc))) (Sz.neg (Sz.addm (Sz.isq (dE (dE (dg ha) (dg ha)) (dE (de (aP (aP hb hb) hc)) (dg (aP (aP hb hb) hc))))) (dS (k:=3) (by decide) (by decide) (by decide)))))) (er (dE (dg ha) (dg (aP (aP hb hb) hc)))) (by assumption)) ?_
   refine DQ.mk<|f5 (eh d9 rfl) rfl rfl rfl rfl<|dF ?_
   refine DQ.mk<|f5 (eh d9 rfl) rfl rfl rfl rfl<|dF ?_
   refine ah ?_
   rw[WI (o6 hc1) (Gb hc2)]
   exact aS d9 rfl ae
  ·refine cJ 20 [9,10,999999] ?_
   refine aK rfl (gN (er (de ha)) (er (dg (aP (aP hb hb) hc)))) ?_
   refine aK rfl (uc (er (dE (de ha) (dg (aP (aP hb hb) hc)))) (er (Sz.isq (dE (dE (dg ha) (dg ha)) (dE (de (aP (aP hb hb) hc)) (dg (aP (aP hb hb) hc))))))) ?_
   refine aK rfl (gN (er (dg ha)) (er (dg (aP (aP hb hb) hc)))) ?_
   refine aK rfl (nQ (er (Sz.addm (dE (de ha) (dg (aP (aP hb hb) hc))) (Sz.isq (dE (dE (dg ha) (dg ha)) (dE (de (aP (aP hb hb) hc)) (dg (aP (aP hb hb) hc))))))) (er (dE (dg ha) (dg (aP (aP hb hb) hc)))) (by assumption)) ?_
   refine DQ.mk<|f5 (eh d9 rfl) rfl rfl rfl rfl<|dF ?_
   refine DQ.mk<|f5 (eh d9 rfl) rfl rfl rfl rfl<|dF ?_
   refine ah ?_
   rw[VS (o6 hc1) (Cu hc2)]
   exact aS d9 rfl ae
theorem gK:Ok Tryz.prog 130 [dR a] [.a ((cR a++cR 0++cR 0))]:=by
 refine bX Tryz.func130 rfl<|cJ 4 [] ?_
 refine aK rfl (AQ) ?_
 refine aK rfl (AQ) ?_
 refine aq (aG (us:=(cR a++cR 0++cR 0)) lU jL rfl rfl rfl) ?_
 exact ah (aS df rfl ae)
theorem En (ha:Rz 6000000 a) (hb:Rz 6000000 b):Ok Tryz.prog 229 [.a ((cR a++cR b++cR c))] [.a ((cR (-a)++cR (-b)++cR c))]:=by
 refine bX Tryz.func229 rfl<|cJ 9 [] ?_
 refine aK rfl (dX (aO ha)) ?_
 refine aK rfl (dX (aO hb)) ?_
 refine aq (aG (us:=(cR (-a)++cR (-b)++cR c)) lU jL rfl rfl rfl) ?_
 exact ah (aS df rfl ae)
theorem Di (ha:Rz 1000000 a) (hb:Rz 1000000 b) (hc:Rz 1000000 c):Ok Tryz.prog 362 [.a ((cR a++cR b++cR c))] [dR (a*a-b*b*c)]:=by
 refine bX Tryz.func362 rfl<|cJ 14 [] ?_
 refine aK rfl (cX (aO ha) (aO ha)) ?_
 refine aK rfl (cX (aO hb) (aO hb)) ?_
 refine aK rfl (cX (aO (aP hb hb)) (aO hc)) ?_
 refine aK rfl (eZ (aO (aP ha ha)) (aO (aP (aP hb hb) hc))) ?_
 exact ah (aS aZ rfl ae)
theorem JW (ha:Rz 1000000 a) (hb:Rz 1000000 b) (hc:Rz 1000000 c):Ok Tryz.prog 361 [.a ((cR a++cR b++cR c))] [.c (.i .i64 (vJ a b c))]:=by
 have hp:=jO (d6 a 0) (d6 (a*a-b*b*c) 0)
 refine bX Tryz.func361 rfl<|cJ 8 [] ?_
 refine aK rfl (cK) ?_
 refine aK rfl (cK) ?_
 refine jU (bE rfl) (fun c1 hb1=>?_)
 cases c1
 ·refine dk rfl (fun hc2=>?_) (fun hc2=>?_)
  ·refine ah ?_
   rw[Z6 hc2]
   exact az ae
  ·refine dk rfl (fun hc3=>?_) (fun hc3=>?_)
   ·refine ah ?_
    rw[Yo hb1 hc2 hc3]
    exact az ae
   ·refine ac rfl (Di (by assumption) (by assumption) (by assumption))<|ac rfl (cK)<|ar (ci ((aM a 0)*(aM (a*a-b*b*c) 0)) (fX (by omega) (by omega)) rfl)<|ah ?_
    rw[ZO hb1 hc2 hc3]
    exact az ae
 ·refine sy rfl<|ah ?_
  rw[ZM hb1]
  exact az ae
theorem Al (ha:Rz 6000000 a) (hd:Rz 6000000 d):Ok Tryz.prog 316 [.a ((cR a++cR b++cR c)),dR d] [.a ((cR (a-d)++cR b++cR c))]:=by
 refine bX Tryz.func316 rfl<|ac rfl (eZ (aO ha) (aO hd)) ?_
 refine pu (aY (us:=(cR (a-d)++cR b++cR c)) aZ rfl rfl rfl rfl (fe rfl) rfl rfl) ?_
 exact ah (aS df rfl ae)
theorem KG {f:Rat}(ha:Rz 2000000 a) (hb:Rz 160000 b) (hc:Rz 160000 c) (hd:Rz 2000000 d) (he:Rz 160000 e) (hf:Rz 160000 f) (h1:Rz 160000 (a-d)) (c0:0≤c) (f0:0≤f):Ok Tryz.prog 318 [.a ((cR a++cR b++cR c)),.a ((cR d++cR e++cR f))] [.c (.b (fD (a-d) b (-e) 0 c f==0))]:=by
 refine bX Tryz.func318 rfl ?_
 refine ac rfl (mG (by assumption) (by assumption) (by assumption) (by assumption) (by assumption) (by assumption) (by assumption) (by assumption) (by assumption)) ?_
 exact ah (az ae)
theorem ew (ha:Rz 2000000 a) (hb:Rz 160000 b) (hc:Rz 160000 c) (hd:Rz 2000000 d) (h1:Rz 160000 (a-d)) (c0:0≤c):Ok Tryz.prog 227 [.a ((cR a++cR b++cR c)),dR d] [.c (.i .i64 (fD (a-d) b (-0) 0 c 0))]:=by
 have z0:Rz 160000 (0:Rat):=dJ (by decide)
 refine bX Tryz.func227 rfl<|cJ 5 [] ?_
 refine aK rfl (gK) ?_
 refine aK rfl (mG (by assumption) (by assumption) (by assumption) (by assumption) z0 z0 h1 c0 tI) ?_
 exact ah (az ae)
theorem BX (hc:0≤c):fD (a-d) b (-0) 0 c 0=bF (a-d) b c:=by
 rw[nP hc tI,iX hc]
 exact congrArg aT (br fun n=>by unfold aB;simp only[aQ,aI,aR,bc];grind)
theorem Pz (hp:GP p) (hq:GP q):Ok Tryz.prog 51 [.a (aj p),.a (aj q)] [.c (.i .i64 (cP p q))]:=cA (xD (hp.a1.mono (by decide)) (hp.b1.mono (by decide)) (hp.a2.mono (by decide)) (hp.b2.mono (by decide)) (hp.c.mono (by decide)) (hq.a1.mono (by decide)) (hq.b1.mono (by decide)) (hq.a2.mono (by decide)) (hq.b2.mono (by decide)) (hq.c.mono (by decide)) ((hp.a1.sub hq.a1).mono (by decide)) ((hp.a2.sub hq.a2).mono (by decide))) (IV (cm hp) (cm hq))
theorem yN (hp:GP p) (hq:GP q):Ok Tryz.prog 220 [.a (aj p),.a (aj q)] [.c (.b (cP p q==0))]:=fp (HQ (hp.a1.mono (by decide)) (hp.b1.mono (by decide)) (hp.a2.mono (by decide)) (hp.b2.mono (by decide)) (hp.c.mono (by decide)) (hq.a1.mono (by decide)) (hq.b1.mono (by decide)) (hq.a2.mono (by decide)) (hq.b2.mono (by decide)) (hq.c.mono (by decide)) ((hp.a1.sub hq.a1).mono (by decide)) ((hp.a2.sub hq.a2).mono (by decide))) (by rw[IV (cm hp) (cm hq)];rfl)
theorem xCX (hp:GP p) (hq:GP q):Ok Tryz.prog 139 [.a ((cR p.a1++cR p.b1++cR (zc p.b1 p.c))),.a ((cR q.a1++cR q.b1++cR (zc q.b1 q.c)))] [.c (.i .i64 (cx p q))]:=mG (hp.a1.mono (by decide)) (hp.b1.mono (by decide)) (ij (hp.c.mono (by decide)) (by decide)) (hq.a1.mono (by decide)) (hq.b1.mono (by decide)) (ij (hq.c.mono (by decide)) (by decide)) ((hp.a1.sub hq.a1).mono (by decide)) (kZ (cm hp)) (kZ (cm hq))
theorem xEX (hp:GP p) (hq:GP q):Ok Tryz.prog 318 [.a ((cR p.a1++cR p.b1++cR (zc p.b1 p.c))),.a ((cR q.a1++cR q.b1++cR (zc q.b1 q.c)))] [.c (.b (cx p q==0))]:=KG (hp.a1.mono (by decide)) (hp.b1.mono (by decide)) (ij (hp.c.mono (by decide)) (by decide)) (hq.a1.mono (by decide)) (hq.b1.mono (by decide)) (ij (hq.c.mono (by decide)) (by decide)) ((hp.a1.sub hq.a1).mono (by decide)) (kZ (cm hp)) (kZ (cm hq))
theorem xRX (hp:GP p) (hv:Rz 400 v):Ok Tryz.prog 227 [.a ((cR p.a1++cR p.b1++cR (zc p.b1 p.c))),dR v] [.c (.i .i64 (mO p v))]:=cA (ew (hp.a1.mono (by decide)) (hp.b1.mono (by decide)) (ij (hp.c.mono (by decide)) (by decide)) (hv.mono (by decide)) ((hp.a1.sub hv).mono (by decide)) (kZ (cm hp))) (BX (kZ (cm hp)))
theorem xRY (hp:GP p) (hv:Rz 400 v):Ok Tryz.prog 227 [.a ((cR p.a2++cR p.b2++cR (zc p.b2 p.c))),dR v] [.c (.i .i64 (sY p v))]:=cA (ew (hp.a2.mono (by decide)) (hp.b2.mono (by decide)) (ij (hp.c.mono (by decide)) (by decide)) (hv.mono (by decide)) ((hp.a2.sub hv).mono (by decide)) (kZ (cm hp))) (BX (kZ (cm hp)))
theorem qO (hx:Rz 6000000 x) (hy:Rz 6000000 y):Ok Tryz.prog 134 [dR x,dR y] [dR (x+y)]:=by
 refine bX Tryz.func134 rfl<|ac rfl (ja (aO hx) (aO hy)) ?_
 exact ah (aS aZ rfl ae)
theorem sZ (hx:Rz 6000000 x) (hy:Rz 6000000 y):Ok Tryz.prog 133 [dR x,dR y] [dR (x-y)]:=by
 refine bX Tryz.func133 rfl<|ac rfl (eZ (aO hx) (aO hy)) ?_
 exact ah (aS aZ rfl ae)
theorem gG (hx:Rz 6000000 x) (hy:Rz 6000000 y):Ok Tryz.prog 135 [dR x,dR y] [dR (x*y)]:=by
 refine bX Tryz.func135 rfl<|ac rfl (cX (aO hx) (aO hy)) ?_
 exact ah (aS aZ rfl ae)
theorem CW (hx:Rz 6000000 x) (hy:Rz 6000000 y):Ok Tryz.prog 297 [dR x,dR y] [dR (x+y)]:=by
 refine bX Tryz.func297 rfl<|ac rfl (ja (aO hx) (aO hy)) ?_
 exact ah (aS aZ rfl ae)
theorem qv (hx:Rz 6000000 x) (hy:Rz 6000000 y):Ok Tryz.prog 296 [dR x,dR y] [dR (x-y)]:=by
 refine bX Tryz.func296 rfl<|ac rfl (eZ (aO hx) (aO hy)) ?_
 exact ah (aS aZ rfl ae)
theorem od (hx:Rz 6000000 x) (hy:Rz 6000000 y):Ok Tryz.prog 298 [dR x,dR y] [dR (x*y)]:=by
 refine bX Tryz.func298 rfl<|ac rfl (cX (aO hx) (aO hy)) ?_
 exact ah (aS aZ rfl ae)
theorem Yq {m:Rat}(ha:Rz 2000000 a) (hb:Rz 2000000 b) (hm:Rz 2000000 m):Ok Tryz.prog 136 [dR a,dR b,dR m] [.c (.i .i64 (bF a b m))]:=by
 have ka:Rz 6000000 a:=ha.m_
 have kb:Rz 6000000 b:=hb.m_
 have hp:=jO (d6 b 0) (d6 m 0)
 have hp2:=jO (d6 a 0) (d6 (a*a) (b*b*m))
 refine bX Tryz.func136 rfl<|cJ 9 [] ?_
 refine aK rfl (cK) ?_
 refine aK rfl (cK) ?_
 refine aK rfl (cK) ?_
 refine aq (ci ((aM b 0)*(aM m 0)) (fX (by omega) (by omega)) rfl) ?_
 refine jU (bE rfl) (fun c1 hb1=>?_)
 cases c1
 ·refine dk rfl (fun hc2=>?_) (fun hc2=>?_)
  ·refine ah ?_
   unfold bF
   rw[zq hc2]
   exact az ae
  ·refine dk rfl (fun hc3=>?_) (fun hc3=>?_)
   ·refine ah ?_
    unfold bF
    rw[yC hc3]
    exact az ae
   ·refine cJ 12 [] ?_
    refine aK rfl (gG (aO ha) (aO ha)) ?_
    refine aK rfl (gG (aO hb) (aO hb)) ?_
    refine aK rfl (gG (aO (aP hb hb)) (aO hm)) ?_
    refine aK rfl (l6 (aO (aP ha ha)) (aO (aP (aP hb hb) hm))) ?_
    refine aq (ci ((aM a 0)*(aM (a*a) ((b*b)*m))) (fX (by omega) (by omega)) rfl)<|ah ?_
    unfold bF
    rw[zX hc3 hb1 hc2]
    exact az ae
 ·refine sy rfl<|ah ?_
  unfold bF
  rw[yZ hb1]
  exact az ae
theorem L0 {x y:Int}(hx:Bd x) (hy:Bd y):Ok Tryz.prog 241 [.a (([.i .i64 x]++[.i .i64 y]))] [.a (([.i .i64 (-y)]++[.i .i64 (-x)]))]:=by
 unfold Bd at hx hy
 refine bX Tryz.func241 rfl<|ar (fa (r:= -y) rfl (by rw[Int.zero_sub];exact pK (by omega) (by omega)) rfl) ?_
 refine ar (fa (r:= -x) rfl (by rw[Int.zero_sub];exact pK (by omega) (by omega)) rfl) ?_
 refine ar (aG (us:=([.i .i64 (-y)]++[.i .i64 (-x)])) ry qk rfl rfl rfl) ?_
 exact ah (aS jW rfl ae)
theorem Sb (ha:Rz 4000000 a) (hb:Rz 4000000 b) (hc:Rz 4000000 c) (hv:Rz 4000000 v):Ok Tryz.prog 237 [dR a,dR b,dR c,dR v] [.a (([.i .i64 (EJ a b c v)]++[.i .i64 (Eh a b c v)])),.c (.b (Js a b c v))]:=by
 refine bX Tryz.func237 rfl<|ar (aG (us:=(cR a++cR b++cR c)) lU jL rfl rfl rfl) ?_
 refine ac rfl (yl (by assumption) (by assumption) (by assumption))<|ac rfl (jp (aO hv)) ?_
 refine jU (bE rfl) (fun c1 hb1=>?_)
 cases c1
 ·refine dk rfl (fun hc2=>?_) (fun hc2=>?_)
  ·have n1:BC a b c v=false:=by unfold BC;rw[fF hb1,jN hc2];rfl
   refine ar (aG (us:=([.i .i64 0]++[.i .i64 0])) ry qk rfl rfl rfl) ?_
   refine ah ?_
   rw[(E3 n1).1,(E3 n1).2.1,(E3 n1).2.2]
   exact aS jW rfl (az ae)
  ·have n1:BC a b c v=true:=by unfold BC;rw[fF hb1,fF hc2];rfl
   refine cJ 6 [] ?_
   refine aK rfl (L0 (vj _) (v7 _)) ?_
   refine aK rfl (w9 (acj _ _ _) (abt _ _ _) (Bd.neg (v7 _)) (Bd.neg (vj _)))<|ah ?_
   rw[(FI n1).1,(FI n1).2.1,(FI n1).2.2]
   exact aS jW rfl (az ae)
 ·have n1:BC a b c v=false:=by unfold BC;rw[jN hb1];rfl
  refine sy rfl<|ar (aG (us:=([.i .i64 0]++[.i .i64 0])) ry qk rfl rfl rfl) ?_
  refine ah ?_
  rw[(E3 n1).1,(E3 n1).2.1,(E3 n1).2.2]
  exact aS jW rfl (az ae)
theorem UK (hk:GK k) (hp:GB p):Ok Tryz.prog 132 [.a (aV k),.a (aj p)] [.c (.i .i64 (VK k p)),.c (.b (VO k p))]:=by
 refine bX Tryz.func132 rfl ?_
 refine ac rfl (Sb (hp.a1.m_) (hp.b1.m_) (hp.c.m_) (hk.x.m_)) ?_
 refine ac rfl (Sb (hp.a2.m_) (hp.b2.m_) (hp.c.m_) (hk.y.m_)) ?_
 refine ac rfl (jp (hk.q.m_)) ?_
 refine jU (bE rfl) (fun c1 hb1=>?_)
 cases c1
 ·refine jU (bE rfl) (fun c2 hb2=>?_)
  cases c2
  ·refine dk rfl (fun hc3=>?_) (fun hc3=>?_)
   ·have m0:SU k p=false:=by unfold SU;rw[show Js p.a1 p.b1 p.c k.x=true from fF hb1,show Js p.a2 p.b2 p.c k.y=true from fF hb2,show jj k.q=false from jN hc3];rfl
    have m1:KX k p=false:=by unfold KX;rw[m0];rfl
    have m2:Jr k p=false:=by unfold Jr;rw[m1];rfl
    have m3:Ee k p=false:=by unfold Ee;rw[m2];rfl
    refine ah ?_
    rw[(rO m3).1,(rO m3).2]
    exact az (az ae)
   ·have n1:SU k p=true:=by unfold SU;rw[show Js p.a1 p.b1 p.c k.x=true from fF hb1,show Js p.a2 p.b2 p.c k.y=true from fF hb2,show jj k.q=true from fF hc3];rfl
    refine ac rfl (wU (Fe _ _ _ _) (FO _ _ _ _) (Fe _ _ _ _) (FO _ _ _ _))<|ac rfl (wU (Fe _ _ _ _) (FO _ _ _ _) (Fe _ _ _ _) (FO _ _ _ _)) ?_
    refine jU (bE rfl) (fun c4 hb4=>?_)
    cases c4
    ·refine dk rfl (fun hc5=>?_) (fun hc5=>?_)
     ·have m1:KX k p=false:=by unfold KX;rw[n1,show UJ k p=true from fF hb4,show Xj k p=false from jN hc5];rfl
      have m2:Jr k p=false:=by unfold Jr;rw[m1];rfl
      have m3:Ee k p=false:=by unfold Ee;rw[m2];rfl
      refine ah ?_
      rw[(rO m3).1,(rO m3).2]
      exact az (az ae)
     ·have n2:KX k p=true:=by unfold KX;rw[n1,show UJ k p=true from fF hb4,show Xj k p=true from fF hc5];rfl
      refine ac rfl (w9 MA.1 MA.2 LT.1 LT.2) ?_
      refine dk rfl (fun hc6=>?_) (fun hc6=>?_)
      ·have m2:Jr k p=false:=by unfold Jr;rw[n2,show smK k p=false from jN hc6];rfl
       have m3:Ee k p=false:=by unfold Ee;rw[m2];rfl
       refine ah ?_
       rw[(rO m3).1,(rO m3).2]
       exact az (az ae)
      ·have n3:Jr k p=true:=by unfold Jr;rw[n2,show smK k p=true from fF hc6];rfl
       refine cJ 10 [15,999999] ?_
       refine aK rfl (L0 (vj _) (v7 _)) ?_
       refine aK rfl (w9 SI.1 SI.2 (Bd.neg (v7 _)) (Bd.neg (vj _))) ?_
       refine DQ.mk<|f5 (eh jW rfl) rfl rfl rfl rfl<|dF ?_
       refine dk rfl (fun hc7=>?_) (fun hc7=>?_)
       ·have m3:Ee k p=false:=by unfold Ee;rw[n3,show rsK k p=false from jN hc7];rfl
        refine ah ?_
        rw[(rO m3).1,(rO m3).2]
        exact az (az ae)
       ·have n4:Ee k p=true:=by unfold Ee;rw[n3,show rsK k p=true from fF hc7];rfl
        refine ac rfl (H3)<|ah ?_
        rw[(KU n4).1,(KU n4).2]
        exact az (az ae)
    ·refine sy rfl ?_
     have m1:KX k p=false:=by unfold KX;rw[n1,show UJ k p=false from jN hb4];rfl
     have m2:Jr k p=false:=by unfold Jr;rw[m1];rfl
     have m3:Ee k p=false:=by unfold Ee;rw[m2];rfl
     refine ah ?_
     rw[(rO m3).1,(rO m3).2]
     exact az (az ae)
  ·refine sy rfl ?_
   have m0:SU k p=false:=by unfold SU;rw[show Js p.a1 p.b1 p.c k.x=true from fF hb1,show Js p.a2 p.b2 p.c k.y=false from jN hb2];rfl
   have m1:KX k p=false:=by unfold KX;rw[m0];rfl
   have m2:Jr k p=false:=by unfold Jr;rw[m1];rfl
   have m3:Ee k p=false:=by unfold Ee;rw[m2];rfl
   refine ah ?_
   rw[(rO m3).1,(rO m3).2]
   exact az (az ae)
 ·refine ar (bE rfl)<|sy rfl ?_
  have m0:SU k p=false:=by unfold SU;rw[show Js p.a1 p.b1 p.c k.x=false from jN hb1];rfl
  have m1:KX k p=false:=by unfold KX;rw[m0];rfl
  have m2:Jr k p=false:=by unfold Jr;rw[m1];rfl
  have m3:Ee k p=false:=by unfold Ee;rw[m2];rfl
  refine ah ?_
  rw[(rO m3).1,(rO m3).2]
  exact az (az ae)
theorem RT (k:Ci) (p:Pt):(p.a1-k.x)*(p.a1-k.x)+(p.a2-k.y)*(p.a2-k.y)+p.c*(p.b1*p.b1+p.b2*p.b2)-k.q=G5 k p:=by unfold G5 Jv;grind
theorem OU (hk:GK k) (hp:GB p):Ok Tryz.prog 46 [.a (aV k),.a (aj p)] [.c (.i .i64 (mr k p))]:=by
 have b1:=U5 k p
 have b2:=ip (G5 k p) (DY k p) p.c
 have e3:=ab7 (k:=k) hp.v
 have wA:=QY hk hp
 have wB:=Rm hk hp
 refine bX Tryz.func46 rfl ?_
 refine ac rfl (UK hk hp) ?_
 refine dk rfl (fun hc1=>?_) (fun hc1=>?_)
 ·have e4:=aaA hp.v hc1
  refine ar (fa (r:= -VK k p) rfl (by rw[Int.zero_sub];exact pK (by omega) (by omega)) rfl) ?_
  refine ah ?_
  rw[←e4]
  exact az ae
 ·refine cJ 12 [] ?_
  refine aK rfl (sZ (aO (hp.a1)) (aO (hk.x))) ?_
  refine aK rfl (sZ (aO (hp.a2)) (aO (hk.y)))<|cJ 8 [9,10,999999] ?_
  refine DQ.mk<|f5 (eh aZ rfl) rfl rfl rfl rfl<|dF ?_
  refine DQ.mk<|f5 (eh aZ rfl) rfl rfl rfl rfl<|dF ?_
  refine cJ 19 [] ?_
  refine aK rfl (gG (aO (cT (hp.a1) (hk.x))) (aO (cT (hp.a1) (hk.x)))) ?_
  refine aK rfl (gG (aO (cT (hp.a2) (hk.y))) (aO (cT (hp.a2) (hk.y)))) ?_
  refine aK rfl (qO (aO (aP (cT (hp.a1) (hk.x)) (cT (hp.a1) (hk.x)))) (aO (aP (cT (hp.a2) (hk.y)) (cT (hp.a2) (hk.y))))) ?_
  refine aK rfl (gG (aO (hp.b1)) (aO (hp.b1))) ?_
  refine aK rfl (gG (aO (hp.b2)) (aO (hp.b2))) ?_
  refine aK rfl (qO (aO (aP (hp.b1) (hp.b1))) (aO (aP (hp.b2) (hp.b2)))) ?_
  refine aK rfl (gG (aO (hp.c)) (aO (gj (aP (hp.b1) (hp.b1)) (aP (hp.b2) (hp.b2))))) ?_
  refine aK rfl (qO (aO (gj (aP (cT (hp.a1) (hk.x)) (cT (hp.a1) (hk.x))) (aP (cT (hp.a2) (hk.y)) (cT (hp.a2) (hk.y))))) (aO (aP (hp.c) (gj (aP (hp.b1) (hp.b1)) (aP (hp.b2) (hp.b2))))))<|cJ 8 [] ?_
  refine aK rfl (gG (aO (cT (hp.a1) (hk.x))) (aO (hp.b1))) ?_
  refine aK rfl (gG (aO (cT (hp.a2) (hk.y))) (aO (hp.b2))) ?_
  refine aK rfl (qO (aO (aP (cT (hp.a1) (hk.x)) (hp.b1))) (aO (aP (cT (hp.a2) (hk.y)) (hp.b2))))<|cJ 12 [] ?_
  refine aK rfl (sZ (aO (gj (gj (aP (cT (hp.a1) (hk.x)) (cT (hp.a1) (hk.x))) (aP (cT (hp.a2) (hk.y)) (cT (hp.a2) (hk.y)))) (aP (hp.c) (gj (aP (hp.b1) (hp.b1)) (aP (hp.b2) (hp.b2)))))) (aO (hk.q))) ?_
  refine aK rfl (qO (aO (gj (aP (cT (hp.a1) (hk.x)) (hp.b1)) (aP (cT (hp.a2) (hk.y)) (hp.b2)))) (aO (gj (aP (cT (hp.a1) (hk.x)) (hp.b1)) (aP (cT (hp.a2) (hk.y)) (hp.b2))))) ?_
  refine aK rfl (cA (c:=bF (G5 k p) (DY k p) p.c) (Yq (by rw[RT];exact wA.m_) (wB.m_) (hp.c.m_)) (by rw[RT];rfl))<|aq (fa (r:= -bF (G5 k p) (DY k p) p.c) rfl (xv b2) rfl) ?_
  refine ah ?_
  rw[←e3]
  exact az ae
theorem abh (hk:GK k) (hp:GP p):Ok Tryz.prog 46 [.a (aV k),.a (aj p)] [.c (.i .i64 (mr k p))]:=OU hk hp.gb
theorem w8 (ha:Rz 2000000 a) (hb:Rz 2000000 b) (hc:Rz 2000000 c) (h0: ¬c<0) (hs:je c=true):Ok Tryz.prog 234 [dR a,dR b,dR c] [.a ((cR (a+b*rt c)++cR 0++cR 0)),.c (.i .i64 0)]:=by
 have kt:Rz 2000000 (rt c):=hc.rt
 have k1:Rz 6000000 (b*rt c):=(hb.mul hc.rt).m_
 refine bX Tryz.func234 rfl<|ac rfl (cK) ?_
 refine dk rfl (fun hc1=>?_) (fun hc1=>?_)
 ·exact absurd (Gb hc1) h0
 ·refine ac rfl (El (aO hc)) ?_
  refine DW.mk<|aJ rfl (fun hc2=>?_) (fun hc2=>?_)
  ·refine lh (σ':=⟨30,[(3,.p 3 0),(4,.p 4 0),(6,.p 6 0),(8,.p 8 0)],[(3,38,cR a),(4,38,cR b),(6,129,zR),(8,38,cR (rt c))]⟩) (ap ⟨rfl,rfl,rfl,rfl,trivial⟩ ⟨rfl,rfl,rfl,by rw[←CX hs];rfl,trivial⟩ rfl)<|nu ?_
   refine cJ 6 [] ?_
   refine aK rfl (cX (aO hb) (G3)) ?_
   refine aK rfl (ja (aO ha) (aO (aP hb (by assumption))))<|aK rfl (gK) ?_
   exact ah (aS df rfl (az ae))
  ·exact absurd hs (by rw[hc2];decide)
theorem wX (_ha:Rz 2000000 a) (_hb:Rz 2000000 b) (hc:Rz 2000000 c) (h0: ¬c<0) (hs:je c=false):Ok Tryz.prog 234 [dR a,dR b,dR c] [.a ((cR a++cR b++cR (zc b c))),.c (.i .i64 0)]:=by
 refine bX Tryz.func234 rfl<|ac rfl (cK) ?_
 refine dk rfl (fun hc1=>?_) (fun hc1=>?_)
 ·exact absurd (Gb hc1) h0
 ·refine ac rfl (El (aO hc)) ?_
  refine dk rfl (fun hc2=>?_) (fun hc2=>?_)
  ·exact absurd hc2 (by rw[hs];decide)
  ·refine ac rfl (yL) ?_
   exact ah (aS df rfl (az ae))
theorem Ng {q:Rat}(hx:Rz 100 x) (hu:Rz 100 u) (hy:Rz 100 y) (hv:Rz 100 v) (hq:Rz 200 q) (h0:0<q) (_hb: ¬(u=0∧v=0)) (hs:je q=true):Ok Tryz.prog 301 [dR x,dR u,dR y,dR v,dR q] [.a (aj (fV x u y v q))]:=by
 have nq: ¬q<0:=by grind
 refine bX Tryz.func301 rfl<|ac rfl (w8 (hx.m_) (hu.m_) (hq.m_) nq hs)<|ac rfl (w8 (hy.m_) (hv.m_) (hq.m_) nq hs)<|ac rfl (Fo (v':=0) (xX (dJ (by decide)) (dJ (by decide)) (fun e=>e.1 rfl)) rfl rfl rfl rfl (MC rfl rfl))<|ah ?_
 rw[show fV x u y v q=⟨x+u*rt q,0,y+v*rt q,0,0⟩ from by unfold fV;rw[hs];rfl]
 exact aS bq rfl ae
theorem Nu {q:Rat}(hx:Rz 100 x) (hu:Rz 100 u) (hy:Rz 100 y) (hv:Rz 100 v) (hq:Rz 200 q) (h0:0<q) (hb: ¬(u=0∧v=0)) (hs:je q=false):Ok Tryz.prog 301 [dR x,dR u,dR y,dR v,dR q] [.a (aj (fV x u y v q))]:=by
 have nq: ¬q<0:=by grind
 have hz: ∀w:Rat,Rz 6000000 (zc w q):=fun w=>ij (hq.m_) (by decide)
 refine bX Tryz.func301 rfl<|ac rfl (wX (hx.m_) (hu.m_) (hq.m_) nq hs)<|ac rfl (wX (hy.m_) (hv.m_) (hq.m_) nq hs)<|ac rfl (Fo (v':=q) (xX (hz _) (hz _) (fun e=>e.2.2 (by rw[oY e.1,oY e.2.1]))) rfl rfl rfl rfl (ZS hb))<|ah ?_
 rw[show fV x u y v q=⟨x,u,y,v,q⟩ from by unfold fV;rw[hs];rfl]
 exact aS bq rfl ae
theorem rT {q:Rat}(hx:Rz 100 x) (hu:Rz 100 u) (hy:Rz 100 y) (hv:Rz 100 v) (hq:Rz 200 q) (h0:0<q) (hb: ¬(u=0∧v=0)):Ok Tryz.prog 301 [dR x,dR u,dR y,dR v,dR q] [.a (aj (fV x u y v q))]:=by
 cases hs:je q with
 |true=>exact Ng hx hu hy hv hq h0 hb hs
 |false=>exact Nu hx hu hy hv hq h0 hb hs
theorem Wo (hk:GK k) (h0:0<k.q):Ok Tryz.prog 213 [.a (aV k)] [.a (aj (jT k)),.a (aj (jE k))]:=by
 have o1:Rz 6000000 (1:Rat):=n9.m_
 refine bX Tryz.func213 rfl<|ac rfl (jJ (gT (by decide) (by decide)) (show((1:Int):Rat)=1 from rfl))<|ac rfl (jJ (gT (by decide) (by decide)) (show((0:Int):Rat)=0 from rfl))<|cJ 19 [] ?_
 refine aK rfl (dX o1) ?_
 refine aK rfl (rT (hk.x.m_) (n9.neg.m_) (hk.y.m_) (dJ (by decide)) (hk.q.m_) h0 (fun e=>absurd e.1 (by decide))) ?_
 refine aK rfl (rT (hk.x.m_) (n9.m_) (hk.y.m_) (dJ (by decide)) (hk.q.m_) h0 (fun e=>absurd e.1 (by decide))) ?_
 exact ah (aS bq rfl (aS bq rfl ae))
theorem VX (hl:GL l):Ok Tryz.prog 263 [.a (iI l)] [dR (fi l)]:=by
 refine bX Tryz.func263 rfl<|cJ 11 [] ?_
 refine aK rfl (gF (aO (hl.a)) (aO (hl.a))) ?_
 refine aK rfl (gF (aO (hl.b)) (aO (hl.b))) ?_
 refine aK rfl (tu (aO (aP (hl.a) (hl.a))) (aO (aP (hl.b) (hl.b)))) ?_
 exact ah (aS aZ rfl ae)
theorem Wm (hl:GL l) (hk:GK k):Ok Tryz.prog 265 [.a (iI l),dR k.x,dR k.y] [dR (nL l k.x k.y)]:=by
 refine bX Tryz.func265 rfl<|cJ 12 [] ?_
 refine aK rfl (gF (aO (hl.a)) (aO (hk.x))) ?_
 refine aK rfl (gF (aO (hl.b)) (aO (hk.y))) ?_
 refine aK rfl (tu (aO (aP (hl.a) (hk.x))) (aO (aP (hl.b) (hk.y)))) ?_
 refine aK rfl (mT (aO (gj (aP (hl.a) (hk.x)) (aP (hl.b) (hk.y)))) (aO (hl.c))) ?_
 exact ah (aS aZ rfl ae)
theorem XY (hl:GL l) (hk:GK k):Ok Tryz.prog 262 [.a (iI l),.a (aV k)] [dR (mq l k)]:=by
 have v1:Rz 6000000 (nL l k.x k.y):=(pO hl hk).m_
 have n1:Rz 6000000 (fi l):=(mU hl).m_
 have n2:Rz 6000000 k.q:=hk.q.m_
 have n3:Rz 6000000 (fi l*k.q):=((mU hl).mul hk.q).m_
 have n4:Rz 6000000 (nL l k.x k.y*nL l k.x k.y):=((pO hl hk).mul (pO hl hk)).m_
 refine bX Tryz.func262 rfl<|ac rfl (Wm hl hk)<|cJ 9 [] ?_
 refine aK rfl (VX hl) ?_
 refine aK rfl (gF (by first|assumption|exact b4 (by assumption) (by decide)) (by first|assumption|exact b4 (hk.q) (by decide))) ?_
 refine aK rfl (gF (by first|assumption|exact b4 (by assumption) (by decide)) (by first|assumption|exact b4 (by assumption) (by decide))) ?_
 refine aK rfl (mT (by first|assumption|exact b4 (aP (by assumption) (hk.q)) (by decide)) (by first|assumption|exact b4 (aP (by assumption) (by assumption)) (by decide))) ?_
 exact ah (aS aZ rfl ae)
theorem Xa {d:Ci}(hk:GK k) (hd:GK d):Ok Tryz.prog 142 [.a (aV k),.a (aV d)] [.c (.b (pT k d))]:=by
 refine bX Tryz.func142 rfl ?_
 refine ac rfl (qy (aO (hk.x)) (aO (hd.x))) ?_
 refine jU (bE rfl) (fun c1 hb1=>?_)
 cases c1
 ·refine ah ?_
  rw[show pT k d=false from by unfold pT Ad;rw[hb1];rfl]
  exact az ae
 ·refine ac rfl (qy (aO (hk.y)) (aO (hd.y)))<|ah ?_
  rw[show pT k d=(aM k.y d.y==0) from by unfold pT Ad;rw[hb1];rfl]
  exact az ae
theorem PK (ha1:Rz 200 a1) (hb1:Rz 200 b1) (ha2:Rz 200 a2) (hb2:Rz 200 b2) (hc:Rz 200 c) (hs:je c=true):Ok Tryz.prog 257 [dR a1,dR b1,dR a2,dR b2,dR c] [.a (aj (fV a1 b1 a2 b2 c))]:=by
 have kt:Rz 6000000 (rt c):=hc.rt.m_
 have k1:Rz 6000000 (b1*rt c):=(hb1.mul hc.rt).m_
 have k2:Rz 6000000 (b2*rt c):=(hb2.mul hc.rt).m_
 refine bX Tryz.func257 rfl ?_
 refine ac rfl (sU (by first|assumption|exact b4 hc (by decide))) ?_
 refine DW.mk<|aJ rfl (fun hc1=>?_) (fun hc1=>?_)
 ·refine lh (σ':=⟨37,[(5,.p 5 0),(6,.p 6 0),(7,.p 7 0),(8,.p 8 0),(9,.p 9 0),(10,.p 10 0),(11,.p 11 0)],[(5,38,cR a1),(6,38,cR b1),(7,38,cR a2),(8,38,cR b2),(9,38,cR c),(10,47,zP),(11,38,cR (rt c))]⟩) (ap ⟨rfl,rfl,rfl,rfl,rfl,rfl,rfl,trivial⟩ ⟨rfl,rfl,rfl,rfl,rfl,rfl,by rw[←CX hs];rfl,trivial⟩ rfl)<|nu ?_
  refine cJ 12 [] ?_
  refine aK rfl (gF (by first|assumption|exact b4 hb1 (by decide)) (by first|assumption|exact b4 (by assumption) (by decide))) ?_
  refine aK rfl (tu (by first|assumption|exact b4 ha1 (by decide)) (by first|assumption|exact b4 (aP hb1 (by assumption)) (by decide))) ?_
  refine aK rfl (gF (by first|assumption|exact b4 hb2 (by decide)) (by first|assumption|exact b4 (by assumption) (by decide))) ?_
  refine aK rfl (tu (by first|assumption|exact b4 ha2 (by decide)) (by first|assumption|exact b4 (aP hb2 (by assumption)) (by decide))) ?_
  refine aq (aG (us:=(cR (a1+(b1*(rt c)))++cR (a2+(b2*(rt c))))) HR Fu rfl rfl rfl) ?_
  refine aK rfl (BL)<|ah ?_
  rw[show fV a1 b1 a2 b2 c=⟨a1+b1*rt c,0,a2+b2*rt c,0,0⟩ from by unfold fV;rw[hs];rfl]
  exact aS bq rfl ae
 ·exact absurd hc1 (by rw[hs];decide)
theorem So (_ha1:Rz 200 a1) (_hb1:Rz 200 b1) (_ha2:Rz 200 a2) (_hb2:Rz 200 b2) (hc:Rz 200 c) (hs:je c=false):Ok Tryz.prog 257 [dR a1,dR b1,dR a2,dR b2,dR c] [.a (aj (fV a1 b1 a2 b2 c))]:=by
 refine eo Tryz.func257 37 [.cell 10 47] rfl<|aa<|ag<|aa<|aa<|ag ?_
 refine ac rfl (sU (aO hc))<|aa<|ag ?_
 refine aJ rfl (fun hc1=>?_) (fun hc1=>?_)
 ·exact absurd hc1 (by rw[hs];decide)
 ·refine aA<|aa<|bm<|bU 5<|aU (aG (us:=(cR a1++cR b1++cR a2++cR b2++cR c)) Ef Ac rfl rfl rfl) ?_
  refine ed<|a7 ?_
  rw[show fV a1 b1 a2 b2 c=⟨a1,b1,a2,b2,c⟩ from by unfold fV;rw[hs];rfl]
  exact ah (aS bq rfl ae)
theorem MK (ha1:Rz 200 a1) (hb1:Rz 200 b1) (ha2:Rz 200 a2) (hb2:Rz 200 b2) (hc:Rz 200 c):Ok Tryz.prog 257 [dR a1,dR b1,dR a2,dR b2,dR c] [.a (aj (fV a1 b1 a2 b2 c))]:=by
 cases hs:je c with
 |true=>exact PK ha1 hb1 ha2 hb2 hc hs
 |false=>exact So ha1 hb1 ha2 hb2 hc hs
theorem adD (hl:GL l) (hk:GK k):Ok Tryz.prog 144 [.a (iI l),.a (aV k)] [.c (.s ((jd l k).length) (ao aj (jd l k)))]:=by
 have h0:=hl.n
 have z1:Rz 6000000 (nL l k.x k.y):=(pO hl hk).m_
 have z2:Rz 6000000 (fi l):=(mU hl).m_
 have z3:Rz 6000000 (nL l k.x k.y/fi l):=(Jb hl hk).m_
 have z4:Rz 6000000 (l.b/fi l):=(Ir hl).m_
 have z5:Rz 6000000 (-l.a/fi l):=(IN hl).m_
 have z6:Rz 6000000 l.a:=hl.a.m_
 have z7:Rz 6000000 l.b:=hl.b.m_
 have z8:Rz 6000000 (-l.a):=z6.neg
 have z9:Rz 6000000 (nL l k.x k.y/fi l*l.a):=((Jb hl hk).mul hl.a).m_
 have zA:Rz 6000000 (nL l k.x k.y/fi l*l.b):=((Jb hl hk).mul hl.b).m_
 have zB:Rz 6000000 k.x:=hk.x.m_
 have zC:Rz 6000000 k.y:=hk.y.m_
 refine bX Tryz.func144 rfl<|cJ 7 [] ?_
 refine aK rfl (XY hl hk) ?_
 refine aK rfl (VX hl) ?_
 refine ac rfl (dm) ?_
 refine dk rfl (fun hc1=>?_) (fun hc1=>?_)
 ·refine ah ?_
  rw[OD hc1]
  exact az ae
 ·have g1: ¬aM (mq l k) 0<0:=of_decide_eq_false hc1
  refine cJ 9 [] ?_
  refine aK rfl (Wm hl hk) ?_
  refine aK rfl (DT (by first|assumption|exact b4 (by assumption) (by decide)) (by first|assumption|exact b4 (by assumption) (by decide)) (by assumption)) ?_
  refine cJ 16 [] ?_
  refine aK rfl (gF (by first|assumption|exact b4 (nJ (by assumption) (by assumption) (by assumption)) (by decide)) (by first|assumption|exact b4 (by assumption) (by decide))) ?_
  refine aK rfl (mT (by first|assumption|exact b4 (by assumption) (by decide)) (by first|assumption|exact b4 (aP (nJ (by assumption) (by assumption) (by assumption)) (by assumption)) (by decide))) ?_
  refine aK rfl (gF (by first|assumption|exact b4 (nJ (by assumption) (by assumption) (by assumption)) (by decide)) (by first|assumption|exact b4 (by assumption) (by decide))) ?_
  refine aK rfl (mT (by first|assumption|exact b4 (by assumption) (by decide)) (by first|assumption|exact b4 (aP (nJ (by assumption) (by assumption) (by assumption)) (by assumption)) (by decide))) ?_
  refine ac rfl (dm) ?_
  refine dk rfl (fun hc2=>?_) (fun hc2=>?_)
  ·refine ar (aG (us:=(cR (k.x-(((nL l k.x k.y)/(fi l))*l.a))++cR (k.y-(((nL l k.x k.y)/(fi l))*l.b)))) HR Fu rfl rfl rfl) ?_
   refine ac rfl (BL)<|ar (bV (n:=1) (us:=(cR (k.x-(((nL l k.x k.y)/(fi l))*l.a))++cR 0++cR (k.y-(((nL l k.x k.y)/(fi l))*l.b))++cR 0++cR 0)) du rfl rfl rfl (by decide) (by decide) rfl) ?_
   refine ah ?_
   rw[Q8 hc1 hc2]
   exact az ae
  ·have g2: ¬aM (mq l k) 0=0:=by simpa using hc2
   refine cJ 11 [] ?_
   refine aK rfl (DT (by first|assumption|exact b4 (by assumption) (by decide)) (by first|assumption|exact b4 (by assumption) (by decide)) (by assumption)) ?_
   refine aK rfl (yG (by first|assumption|exact b4 (by assumption) (by decide))) ?_
   refine aK rfl (DT (by first|assumption|exact b4 (l5 (by assumption)) (by decide)) (by first|assumption|exact b4 (by assumption) (by decide)) (by assumption)) ?_
   refine cJ 16 [] ?_
   refine aK rfl (yG (by first|assumption|exact b4 (nJ (by assumption) (by assumption) (by assumption)) (by decide))) ?_
   refine aK rfl (yG (by first|assumption|exact b4 (nJ (l5 (by assumption)) (by assumption) (by assumption)) (by decide))) ?_
   refine aK rfl (MK ((kv hl hk).m_) ((Ir hl).neg.m_) ((j7 hl hk).m_) ((IN hl).neg.m_) ((yI hl hk).m_)) ?_
   refine aK rfl (MK ((kv hl hk).m_) ((Ir hl).m_) ((j7 hl hk).m_) ((IN hl).m_) ((yI hl hk).m_)) ?_
   refine ac rfl (AI (J1 hl hk g1 g2) (Kl hl hk g1 g2)) ?_
   refine dk rfl (fun hc3=>?_) (fun hc3=>?_)
   ·refine ar (bV (n:=2) (us:=aj (Ll l k)++aj (MT l k)) du rfl rfl rfl (by decide) (by decide) rfl) ?_
    refine ah ?_
    rw[P6 hc1 hc2 hc3]
    exact az ae
   ·refine ar (bV (n:=2) (us:=aj (MT l k)++aj (Ll l k)) du rfl rfl rfl (by decide) (by decide) rfl) ?_
    refine ah ?_
    rw[RP hc1 hc2 hc3]
    exact az ae
theorem abm {d:Ci}(hk:GK k) (hd:GK d) (hn:pT k d=false):Ok Tryz.prog 143 [.a (aV k),.a (aV d)] [.a (iI (mQ k d)),.c (.i .i64 0)]:=by
 have zt:Rz 6000000 (2:Rat):=Ga.m_
 have f1:Rz 6000000 (CC k):=(wv hk).m_
 have f2:Rz 6000000 (CC d):=(wv hd).m_
 refine bX Tryz.func143 rfl<|ac rfl (fp (Xa hk hd) hn)<|sb rfl<|ac rfl (jJ (eE (by decide) (by decide)) (show((2:Int):Rat)=2 from rfl))<|cJ 15 [] ?_
 refine aK rfl (gF (aO (hk.x)) (aO (hk.x))) ?_
 refine aK rfl (gF (aO (hk.y)) (aO (hk.y))) ?_
 refine aK rfl (tu (aO (aP (hk.x) (hk.x))) (aO (aP (hk.y) (hk.y)))) ?_
 refine aK rfl (mT (aO (gj (aP (hk.x) (hk.x)) (aP (hk.y) (hk.y)))) (aO (hk.q)))<|cJ 15 [] ?_
 refine aK rfl (gF (aO (hd.x)) (aO (hd.x))) ?_
 refine aK rfl (gF (aO (hd.y)) (aO (hd.y))) ?_
 refine aK rfl (tu (aO (aP (hd.x) (hd.x))) (aO (aP (hd.y) (hd.y)))) ?_
 refine aK rfl (mT (aO (gj (aP (hd.x) (hd.x)) (aP (hd.y) (hd.y)))) (aO (hd.q))) ?_
 refine cJ 18 [] ?_
 refine aK rfl (mT (aO (hd.x)) (aO (hk.x))) ?_
 refine aK rfl (gF (G3) (aO (cT (hd.x) (hk.x)))) ?_
 refine aK rfl (mT (aO (hd.y)) (aO (hk.y))) ?_
 refine aK rfl (gF (G3) (aO (cT (hd.y) (hk.y)))) ?_
 refine aK rfl (mT (aO (cT (gj (aP (hd.x) (hd.x)) (aP (hd.y) (hd.y))) (hd.q))) (aO (cT (gj (aP (hk.x) (hk.x)) (aP (hk.y) (hk.y))) (hk.q)))) ?_
 refine aq (aG (us:=(cR (2*(d.x-k.x))++cR (2*(d.y-k.y))++cR ((((d.x*d.x)+(d.y*d.y))-d.q)-(((k.x*k.x)+(k.y*k.y))-k.q)))) XJ U4 rfl rfl rfl) ?_
 exact ah (aS TX rfl (az ae))
theorem M6 {d:Ci}(hk:GK k) (hd:GK d):Ok Tryz.prog 53 [.a (aV k),.a (aV d)] [.c (.s ((bG k d).length) (ao aj (bG k d))),.c (.i .i64 (CI k d))]:=by
 refine bX Tryz.func53 rfl ?_
 refine ac rfl (Xa hk hd) ?_
 refine dk rfl (fun hc1=>?_) (fun hc1=>?_)
 ·refine ac rfl (qy (aO (hk.q)) (aO (hd.q))) ?_
  refine dk rfl (fun hc2=>?_) (fun hc2=>?_)
  ·refine ah ?_
   rw[(Sv hc1 hc2).1,(Sv hc1 hc2).2]
   exact az (az ae)
  ·refine ah ?_
   rw[(PQ hc1 hc2).1,(PQ hc1 hc2).2]
   exact az (az ae)
 ·refine ac rfl (abm hk hd hc1)<|ac rfl (adD (ub hk hd hc1) hk)<|ah ?_
  rw[(Rf hc1).1,(Rf hc1).2]
  exact az (az ae)
theorem Zc {c:Cv}(hc:c.good) (hp:GP p) (hq:GP q):Ok Tryz.prog 78 [.a (aC c),.a (aj p),.a (aj q)] [.c (.i .i64 (c.ord p q))]:=by
 cases c with
 |seg l f t=>exact JL hc.1 hc.2.1 hc.2.2 hp hq
 |arc k w f t=>exact J4 hc.1 hc.2.1 hc.2.2 hp hq
theorem DN {c:Cv}(hc:c.good) (hp:GP p):Ok Tryz.prog 25 [.a (aC c),.a (aj p)] [.c (.b (c.on p))]:=by
 cases c with
 |seg l f t=>exact acQ hc.1 hc.2.1 hc.2.2 hp
 |arc k w f t=>exact aam hc.1 hc.2.1 hc.2.2 hp
theorem UT {c:Cv}(hc:c.good) (hL: ∀p∈L,GP p) (lL:L.length≤100):Ok Tryz.prog 145 [.a (aC c),.c (.s ((L).length) (ao aj (L)))] [.c (.s ((cz c L).length) (ao aj (cz c L)))]:=by
 refine eo Tryz.func145 64 [.tmp 4] rfl<|aa<|ag<|aa<|ag<|aa<|aa<|ag<|aE<|bn (ι:={n:Nat // n≤L.length}) (fun i=>⟨64,[(1,.v (.c (.s ((L).length) (ao aj (L))))),(2,.p 2 0),(5,.v (.c (.s ((cz c (L.take i.1)).length) (ao aj (cz c (L.take i.1)))))),(6,.v (.c (.i .i64 (i.1:Int))))],[(2,49,aC c)]⟩) (fun i=>L.length-i.1) ⟨0,eF _⟩ (ap ⟨rfl,rfl,rfl,rfl,trivial⟩ ⟨rfl,trivial⟩ rfl) ?_
 rintro⟨n,h2⟩
 replace h2:n≤L.length:=h2
 dsimp only
 refine aa<|aa<|ag ?_
 refine aJ rfl (fun hc1=>?_) (fun hc1=>?_)
 ·have g1:n<L.length:=by have:=of_decide_eq_true hc1;omega
  obtain⟨O,eO⟩: ∃O,cz c (L.take n)=O:=⟨_,rfl⟩
  have hO: ∀p∈O,GP p:=fun p hp=>hL p (Cm (mI (by rw[eO];exact hp)))
  have lO:O.length≤100:=by
   have:=Ai (c:=c) (l:=L.take n)
   rw[eO,dH] at this;omega
  refine lh (σ':=⟨64,[(1,.v (.c (.s ((L).length) (ao aj (L))))),(2,.p 2 0),(5,.v (.c (.s ((O).length) (ao aj (O))))),(6,.v (.c (.i .i64 (n:Int))))],[(2,49,aC c)]⟩) (ap ⟨rfl,rfl,by rw[←eO];rfl,rfl,trivial⟩ ⟨rfl,trivial⟩ rfl) ?_
  refine aA<|aa<|aE<|aa<|ag<|aa<|aE<|bn (ι:={j:Nat // j≤O.length∧ ∀r,r<j→(c).ord (O.getD r dPt) (L.getD n dPt)<0}) (fun i=>⟨64,[(1,.v (.c (.s ((L).length) (ao aj (L))))),(2,.p 2 0),(5,.v (.c (.s ((O).length) (ao aj (O))))),(6,.v (.c (.i .i64 (n:Int)))),(7,.v (.c (.i .i64 (i.1:Int))))],[(2,49,aC c)]⟩) (fun i=>O.length-i.1) ⟨0,eF _,fun r h=>absurd h (yc r)⟩ (ap ⟨rfl,rfl,rfl,rfl,rfl,trivial⟩ ⟨rfl,trivial⟩ rfl) ?_
  rintro⟨j,h3,h4⟩
  replace h3:j≤O.length:=h3
  replace h4: ∀r,r<j→(c).ord (O.getD r dPt) (L.getD n dPt)<0:=h4
  dsimp only
  refine aa<|aa<|dC 17 [] ?_
  refine BD (bE rfl) (fun c2 hb2=>?_)
  cases c2
  ·have g2:O.length≤j:=by have:=of_decide_eq_false hb2;omega
   have hs:pp c (L.getD n dPt) O=j:=GS h3 h4 (.inl (by omega))
   have g4: ¬(j<O.length∧cP (O.getD j dPt) (L.getD n dPt)=0):=fun h=>by omega
   refine bz rfl<|bi<|aa<|aa<|lX 15 rfl rfl<|cn 3<|ba (a8 (c:=false) (fh rfl) (decide_eq_false (by omega))) ?_
   refine yW<|dG<|bt<|bz rfl<|aA ?_
   rcases jn j with hj0|hj0
   ·refine Fh 15 [10,14] dP (by kernel_rfl) rfl rfl<|gw rfl (kj du rfl) rfl ?_
    refine gw rfl (bE rfl) rfl<|gw rfl (bE rfl) rfl<|gw rfl (yj (n':=0) (us':=[]) (oC (j:=(j:Int)) (n:=(O).length) (xs:=ao aj (O)) (us:=ao aj (O.take j)) cE rfl rfl (by omega) (am ak _) (pW ak _ _) rfl) (by omega) (by rw[hj0];rfl)) rfl ?_
    refine gw rfl (n8 du rfl rfl rfl) rfl ?_
    refine gw rfl (bE rfl) rfl<|gw rfl (bE rfl) rfl<|gw rfl (fl dPt ak g1 cE rfl) rfl<|gw rfl (ck (us:=aj (L.getD n dPt)) bq rfl rfl rfl rfl) rfl ?_
    refine gw rfl (bV (n:=1) (us:=aj (L.getD n dPt)) du rfl rfl rfl (by decide) (by decide) rfl) rfl ?_
    refine Ec rfl<|gw rfl (bE rfl) rfl<|gw rfl (bE rfl) rfl<|gw rfl (rG (j:=(j:Int)) (n:=(O).length) (xs:=ao aj (O)) (n':=O.length-j) (us:=ao aj (O.drop j)) cE rfl rfl (by omega) (am ak _) (by omega) (p5 ak _ _) rfl) rfl ?_
    refine Ec rfl ?_
    refine IK (x0:=.tmp 52) (t1:=58) (y1:=.tmp 57) (t2:=62) (y2:=.tmp 61) (N':=O.length+1) (zs':=ao aj (O.take j++(L.getD n dPt)::O.drop j)) du (by decide) rfl rfl rfl rfl rfl rfl (rfl) (by rw[am ak,fS]) (by kernel_rfl) (by kernel_rfl) (by decide) rfl rfl rfl rfl (by omega) (by rw[yD,hj0];rfl) (by omega) (iQ (by omega)) (fun cg3 rg3 hga3 hgb3 hgc3=>?_)
    refine ed<|cB (t:=5) (m:=20) (us:=ao aj (O.take j++(L.getD n dPt)::O.drop j)) rfl rfl (jw (n:=O.length+1) (by rw[am ak,mg (by omega)]) (by assumption) (by omega)) (by omega) (by assumption) (gn (by rw[am ak,mg (by omega)]))<|bm<|bU 1<|aU (ca (by omega) rfl)<|ed ?_
    exact⟨⟨n+1,g1⟩,ap ⟨rfl,rfl,by rw[s7 g1,eO,zp hs g4,mg h3];rfl,rfl,trivial⟩ ⟨rfl,trivial⟩ rfl,by show L.length-(n+1)<L.length-n;omega⟩
   ·refine Fh 15 [4,10,14] dP (by kernel_rfl) rfl rfl<|gw rfl (kj du rfl) rfl ?_
    refine gw rfl (bE rfl) rfl<|gw rfl (bE rfl) rfl<|gw rfl ((oC (j:=(j:Int)) (n:=(O).length) (xs:=ao aj (O)) (us:=ao aj (O.take j)) cE rfl rfl (by omega) (am ak _) (pW ak _ _) rfl)) rfl ?_
    refine Ec rfl<|gw rfl (bE rfl) rfl<|gw rfl (bE rfl) rfl<|gw rfl (fl dPt ak g1 cE rfl) rfl<|gw rfl (ck (us:=aj (L.getD n dPt)) bq rfl rfl rfl rfl) rfl ?_
    refine gw rfl (bV (n:=1) (us:=aj (L.getD n dPt)) du rfl rfl rfl (by decide) (by decide) rfl) rfl ?_
    refine Ec rfl<|gw rfl (bE rfl) rfl<|gw rfl (bE rfl) rfl<|gw rfl (rG (j:=(j:Int)) (n:=(O).length) (xs:=ao aj (O)) (n':=O.length-j) (us:=ao aj (O.drop j)) cE rfl rfl (by omega) (am ak _) (by omega) (p5 ak _ _) rfl) rfl ?_
    refine Ec rfl ?_
    refine H6 (x0:=.tmp 48) (t1:=52) (y1:=.tmp 51) (t2:=58) (y2:=.tmp 57) (t3:=62) (y3:=.tmp 61) (N':=O.length+1) (zs':=ao aj (O.take j++(L.getD n dPt)::O.drop j)) du (by decide) rfl rfl rfl rfl rfl rfl rfl rfl (by rw[am ak,dH,il h3];rfl) (rfl) (by rw[am ak,fS]) (by kernel_rfl) (by kernel_rfl) (hj0) rfl rfl rfl rfl rfl rfl (by omega) (yD.symm) (by omega) (iQ (by omega)) (fun cg4 rg4 hga4 hgb4 hgc4=>?_)
    refine ed<|cB (t:=5) (m:=20) (us:=ao aj (O.take j++(L.getD n dPt)::O.drop j)) rfl rfl (jw (n:=O.length+1) (by rw[am ak,mg (by omega)]) (by assumption) (by omega)) (by omega) (by assumption) (gn (by rw[am ak,mg (by omega)]))<|ag<|ar (ca (by omega) rfl) ?_
    exact⟨⟨n+1,g1⟩,ap ⟨rfl,rfl,by rw[s7 g1,eO,zp hs g4,mg h3];rfl,rfl,trivial⟩ ⟨rfl,trivial⟩ rfl,by show L.length-(n+1)<L.length-n;omega⟩
  ·have g2:j<O.length:=by have:=of_decide_eq_true hb2;omega
   refine aq (kV (ai _) bO rfl)<|aq (fl dPt ak g2 cE rfl)<|aq (ck (us:=aj (O.getD j dPt)) bq rfl rfl rfl rfl) ?_
   refine aq (fl dPt ak g1 cE rfl)<|aq (ck (us:=aj (L.getD n dPt)) bq rfl rfl rfl rfl) ?_
   refine aK rfl (Zc hc (GP.getD hO j) (GP.getD hL n)) ?_
   refine aJ rfl (fun hc5=>?_) (fun hc5=>?_)
   ·have g3:(c).ord (O.getD j dPt) (L.getD n dPt)<0:=of_decide_eq_true hc5
    refine aA<|aE<|ag<|ar (ca (by omega) rfl) ?_
    exact⟨⟨j+1,g2,fun r hr=>(Nat.lt_succ_iff_lt_or_eq.1 hr).elim (h4 r) (fun e=>by rw[e];exact g3)⟩,ap ⟨rfl,rfl,rfl,rfl,rfl,trivial⟩ ⟨rfl,trivial⟩ rfl,by show O.length-(j+1)<O.length-j;omega⟩
   ·have g3: ¬(c).ord (O.getD j dPt) (L.getD n dPt)<0:=of_decide_eq_false hc5
    have hs:pp c (L.getD n dPt) O=j:=GS h3 h4 (.inr g3)
    refine bi<|aa<|aa<|lX 15 rfl rfl<|cn 3<|ba (a8 (c:=true) (fh rfl) (decide_eq_true (by omega))) ?_
    refine cn 3<|ba (fl dPt ak g2 cE rfl)<|ba (ck (us:=aj (O.getD j dPt)) bq rfl rfl rfl rfl) ?_
    refine cn 2<|ba (fl dPt ak g1 cE rfl)<|ba (ck (us:=aj (L.getD n dPt)) bq rfl rfl rfl rfl) ?_
    refine ba (cb rfl (Hj (GP.getD hO j) (GP.getD hL n)))<|yW<|dG<|bt ?_
    refine aJ rfl (fun hc6=>?_) (fun hc6=>?_)
    ·have g4:cP (O.getD j dPt) (L.getD n dPt)=0:=by simpa using hc6
     refine bi<|ag<|ar (ca (by omega) rfl) ?_
     exact⟨⟨n+1,g1⟩,ap ⟨rfl,rfl,by rw[s7 g1,eO,TW hs g2 g4];rfl,rfl,trivial⟩ ⟨rfl,trivial⟩ rfl,by show L.length-(n+1)<L.length-n;omega⟩
    ·have g5:cP (O.getD j dPt) (L.getD n dPt)≠0:=by simpa using hc6
     have g4: ¬(j<O.length∧cP (O.getD j dPt) (L.getD n dPt)=0):=fun h=>g5 h.2
     refine aA ?_
     rcases jn j with hj0|hj0
     ·refine Fh 15 [10,14] dP (by kernel_rfl) rfl rfl<|gw rfl (kj du rfl) rfl ?_
      refine gw rfl (bE rfl) rfl<|gw rfl (bE rfl) rfl<|gw rfl (yj (n':=0) (us':=[]) (oC (j:=(j:Int)) (n:=(O).length) (xs:=ao aj (O)) (us:=ao aj (O.take j)) cE rfl rfl (by omega) (am ak _) (pW ak _ _) rfl) (by omega) (by rw[hj0];rfl)) rfl ?_
      refine gw rfl (n8 du rfl rfl rfl) rfl ?_
      refine gw rfl (bE rfl) rfl<|gw rfl (bE rfl) rfl<|gw rfl (fl dPt ak g1 cE rfl) rfl<|gw rfl (ck (us:=aj (L.getD n dPt)) bq rfl rfl rfl rfl) rfl ?_
      refine gw rfl (bV (n:=1) (us:=aj (L.getD n dPt)) du rfl rfl rfl (by decide) (by decide) rfl) rfl ?_
      refine Ec rfl<|gw rfl (bE rfl) rfl<|gw rfl (bE rfl) rfl<|gw rfl (rG (j:=(j:Int)) (n:=(O).length) (xs:=ao aj (O)) (n':=O.length-j) (us:=ao aj (O.drop j)) cE rfl rfl (by omega) (am ak _) (by omega) (p5 ak _ _) rfl) rfl ?_
      refine Ec rfl ?_
      refine IK (x0:=.tmp 52) (t1:=58) (y1:=.tmp 57) (t2:=62) (y2:=.tmp 61) (N':=O.length+1) (zs':=ao aj (O.take j++(L.getD n dPt)::O.drop j)) du (by decide) rfl rfl rfl rfl rfl rfl (rfl) (by rw[am ak,fS]) (by kernel_rfl) (by kernel_rfl) (by decide) rfl rfl rfl rfl (by omega) (by rw[yD,hj0];rfl) (by omega) (iQ (by omega)) (fun cg7 rg7 hga7 hgb7 hgc7=>?_)
      refine ed<|cB (t:=5) (m:=20) (us:=ao aj (O.take j++(L.getD n dPt)::O.drop j)) rfl rfl (jw (n:=O.length+1) (by rw[am ak,mg (by omega)]) (by assumption) (by omega)) (by omega) (by assumption) (gn (by rw[am ak,mg (by omega)]))<|bm<|bU 1<|aU (ca (by omega) rfl)<|ed ?_
      exact⟨⟨n+1,g1⟩,ap ⟨rfl,rfl,by rw[s7 g1,eO,zp hs g4,mg h3];rfl,rfl,trivial⟩ ⟨rfl,trivial⟩ rfl,by show L.length-(n+1)<L.length-n;omega⟩
     ·refine Fh 15 [4,10,14] dP (by kernel_rfl) rfl rfl<|gw rfl (kj du rfl) rfl ?_
      refine gw rfl (bE rfl) rfl<|gw rfl (bE rfl) rfl<|gw rfl ((oC (j:=(j:Int)) (n:=(O).length) (xs:=ao aj (O)) (us:=ao aj (O.take j)) cE rfl rfl (by omega) (am ak _) (pW ak _ _) rfl)) rfl ?_
      refine Ec rfl<|gw rfl (bE rfl) rfl<|gw rfl (bE rfl) rfl<|gw rfl (fl dPt ak g1 cE rfl) rfl<|gw rfl (ck (us:=aj (L.getD n dPt)) bq rfl rfl rfl rfl) rfl ?_
      refine gw rfl (bV (n:=1) (us:=aj (L.getD n dPt)) du rfl rfl rfl (by decide) (by decide) rfl) rfl ?_
      refine Ec rfl<|gw rfl (bE rfl) rfl<|gw rfl (bE rfl) rfl<|gw rfl (rG (j:=(j:Int)) (n:=(O).length) (xs:=ao aj (O)) (n':=O.length-j) (us:=ao aj (O.drop j)) cE rfl rfl (by omega) (am ak _) (by omega) (p5 ak _ _) rfl) rfl ?_
      refine Ec rfl ?_
      refine H6 (x0:=.tmp 48) (t1:=52) (y1:=.tmp 51) (t2:=58) (y2:=.tmp 57) (t3:=62) (y3:=.tmp 61) (N':=O.length+1) (zs':=ao aj (O.take j++(L.getD n dPt)::O.drop j)) du (by decide) rfl rfl rfl rfl rfl rfl rfl rfl (by rw[am ak,dH,il h3];rfl) (rfl) (by rw[am ak,fS]) (by kernel_rfl) (by kernel_rfl) (hj0) rfl rfl rfl rfl rfl rfl (by omega) (yD.symm) (by omega) (iQ (by omega)) (fun cg8 rg8 hga8 hgb8 hgc8=>?_)
      refine ed<|cB (t:=5) (m:=20) (us:=ao aj (O.take j++(L.getD n dPt)::O.drop j)) rfl rfl (jw (n:=O.length+1) (by rw[am ak,mg (by omega)]) (by assumption) (by omega)) (by omega) (by assumption) (gn (by rw[am ak,mg (by omega)]))<|ag<|ar (ca (by omega) rfl) ?_
      exact⟨⟨n+1,g1⟩,ap ⟨rfl,rfl,by rw[s7 g1,eO,zp hs g4,mg h3];rfl,rfl,trivial⟩ ⟨rfl,trivial⟩ rfl,by show L.length-(n+1)<L.length-n;omega⟩
 ·have hi:L.length≤n:=by have:=of_decide_eq_false hc1;omega
  refine bi<|aa<|ag<|a7 ?_
  rw[←NH (c:=c) (l:=L) hi]
  exact ah (az ae)
theorem Ib {c:Cv}(hc:c.good) (hL: ∀p∈L,GP p) (lL:L.length≤90) (hon: ∀p∈L,(c).on p=true) (h2S:2≤(cz c ([c.p,c.q]++L)).length):Ok Tryz.prog 54 [.a (aC c),.c (.s ((L).length) (ao aj (L)))] [.c (.s ((iU c L).length) (ao aC (iU c L))),.c (.i .i64 0)]:=by
 have gp_:=iT hc
 have gq_:=sv hc
 have hL2: ∀p∈ [c.p,c.q]++L,GP p:=fun p hp=>by
  rcases mW.1 hp with h|h
  ·simp only[dD,qS,or_false] at h
   rcases h with h|h<;>subst h<;>assumption
  ·exact hL p h
 have lS:(cz c ([c.p,c.q]++L)).length≤92:=by
  have:=Ai (c:=c) (l:=[c.p,c.q]++L)
  rw[dt] at this
  exact iO this (by show 2+L.length≤92;omega)
 refine eo Tryz.func54 56 [.tmp 4,.tmp 5] rfl<|aa<|bm<|ed<|aa<|aa<|bm<|ed<|aE<|bn (ι:={n:Nat // n≤L.length}) (fun i=>⟨56,[(1,.v (.c (.s ((L).length) (ao aj (L))))),(2,.p 2 0),(6,.v (.c (.i .i64 (i.1:Int))))],[(2,49,aC c)]⟩) (fun i=>L.length-i.1) ⟨0,eF _⟩ (ap ⟨rfl,rfl,rfl,trivial⟩ ⟨rfl,trivial⟩ rfl) ?_
 rintro⟨n,h2⟩
 replace h2:n≤L.length:=h2
 show Dw _ _ ⟨56,[(1,.v (.c (.s ((L).length) (ao aj (L))))),(2,.p 2 0),(6,.v (.c (.i .i64 (n:Int))))],[(2,49,aC c)]⟩ _
 refine aa<|aa<|bm<|ed ?_
 refine aJ rfl (fun hc1=>?_) (fun hc1=>?_)
 ·have g1:n<L.length:=by have:=of_decide_eq_true hc1;omega
  refine aA<|aa<|aE<|aa<|lX 7 rfl rfl<|ba (kV (ai _) bO rfl)<|cn 2<|ba (fl dPt ak g1 cE rfl)<|ba (ck (us:=aj (L.getD n dPt)) bq rfl rfl rfl rfl) ?_
  refine ba (cb rfl (fp (DN hc (GP.getD hL n)) (hon _ (bd g1))))<|yW<|dG<|bt<|bz rfl<|aA<|bm<|bU 1<|aU (ca (by omega) rfl)<|ed ?_
  exact⟨⟨n+1,g1⟩,ap ⟨rfl,rfl,rfl,trivial⟩ ⟨rfl,trivial⟩ rfl,by show L.length-(n+1)<L.length-n;omega⟩
 ·refine bi<|aa<|lX 10 rfl rfl<|ba (kV (ai _) bO rfl)<|cn 1<|ba (ce (us:=aj c.p) bq rfl rfl (mY _) rfl rfl) ?_
  refine cn 1<|ba (ce (us:=aj c.q) bq rfl rfl (uC _) rfl rfl) ?_
  refine ba (uE (us:=aj c.p++aj c.q) du rfl rfl rfl (by decide) (by decide) rfl) ?_
  refine cn 1<|ba (yj (n':=([c.p,c.q]++L).length) (us':=ao aj ([c.p,c.q]++L)) (GD du rfl rfl rfl (am ak _) (by decide) (by decide) (by omega) (iQ (by omega)) rfl) (by rw[dt];rfl) (by rw[dB];rfl)) ?_
  refine ba (cb rfl (UT hc hL2 (by rw[dt];show 2+L.length≤100;omega)))<|yW<|dG<|bt<|aa<|bm<|aU (eg rfl) ?_
  refine bt<|aa<|aa<|bm<|ed<|aE ?_
  refine DC (ι:={x9:Nat×Nat×List CellD // x9.1+2≤(cz c ([c.p,c.q]++L)).length∧x9.1+1≤x9.2.1∧x9.2.1≤maxLen∧x9.2.2.length=(x9.2.1-(x9.1+1))*66}) (fun i=>⟨56,[(2,.p 2 0),(7,.v (.c (.s (((cz c ([c.p,c.q]++L))).length) (ao aj ((cz c ([c.p,c.q]++L))))))),(8,.o 54 (i.1.1+1) i.1.2.1),(9,.v (.c (.i .i64 (((i.1.1+2:Nat):Int)))))],[(2,49,aC c),(54,49,ao aC (gI c ((cz c ([c.p,c.q]++L)).take (i.1.1+2)))++i.1.2.2)]⟩) (fun i=>(cz c ([c.p,c.q]++L)).length-i.1.1) ((cz c ([c.p,c.q]++L)).length+1) ?_ ?_
  ·refine aa<|aa<|bm<|bU 3<|aU (a8 (c:=true) (fh rfl) (decide_eq_true (by omega))) ?_
   refine bt<|dO rfl<|aA<|aa<|aE<|aa<|bm<|aU (kV (ai _) bO rfl)<|rZ (jh F9 rfl) rfl<|gi (cZ bO rfl rfl rfl (ai _) rfl rfl) ?_
   refine bt<|aa<|pQ 11 [10,999999] dP (by kernel_rfl) rfl rfl<|cn 2<|ba (ju (r:=0) rfl rfl rfl rfl) ?_
   refine ba (bI (us:=aj ((cz c ([c.p,c.q]++L)).getD 0 dPt)++ao aj ((cz c ([c.p,c.q]++L)).drop (0+1))) cE rfl rfl (by omega) (am ak _) (iY ak (eB (by omega))) rfl) ?_
   refine ba (ck (us:=aj ((((cz c ([c.p,c.q]++L)).getD 0 dPt)))) bq rfl rfl rfl rfl) ?_
   refine cn 2<|ba (bI (us:=aj ((cz c ([c.p,c.q]++L)).getD 1 dPt)++ao aj ((cz c ([c.p,c.q]++L)).drop (1+1))) cE rfl rfl (by omega) (am ak _) (iY ak (eB (by omega))) rfl) ?_
   refine ba (ck (us:=aj ((((cz c ([c.p,c.q]++L)).getD 1 dPt)))) bq rfl rfl rfl rfl) ?_
   refine cn 1<|iE (aY (us:=aC (c.setp ((((cz c ([c.p,c.q]++L)).getD 0 dPt))))) bq rfl rfl rfl rfl (by rw[ai];decide) (wT _ _) rfl) rfl rfl rfl rfl ?_
   refine ln<|tv<|bU 1<|gi (aY (us:=aC (c.ends ((((cz c ([c.p,c.q]++L)).getD 0 dPt))) ((((cz c ([c.p,c.q]++L)).getD 1 dPt))))) bq rfl rfl rfl rfl (by rw[ai];decide) (Ao _ _ _) rfl) ?_
   refine bt<|bm<|bU 1<|aU (kV (ai _) bO rfl)<|aU (bV (n:=1) (us:=aC (c.ends ((((cz c ([c.p,c.q]++L)).getD 0 dPt))) ((((cz c ([c.p,c.q]++L)).getD 1 dPt))))) lp rfl (vh rfl (ai _)) (d7 (ai _)) (by decide) (by decide) rfl) ?_
   refine lq (ys:=aC (c.ends ((((cz c ([c.p,c.q]++L)).getD 0 dPt))) ((((cz c ([c.p,c.q]++L)).getD 1 dPt))))) lp rfl rfl (d7 (ai _)) (by decide) (by decide) (by decide) rfl rfl (fun cg2 rg2 hga2 hgb2 hgc2=>?_)
   refine ed<|bm<|bU 1<|aU (ju (r:=2) rfl rfl rfl rfl) ?_
   refine ed ?_
   exact⟨⟨⟨0,cg2,rg2⟩,by omega,by omega,hgb2,hgc2⟩,ap ⟨rfl,rfl,rfl,rfl,trivial⟩ ⟨rfl,by rw[A9 (i:=0) _ (by omega),N7,nE,dW];rfl,trivial⟩ rfl,by show(cz c ([c.p,c.q]++L)).length-0<(cz c ([c.p,c.q]++L)).length+1;omega⟩
  ·rintro⟨⟨n,cp,rs⟩,h3,h4,h5,h6⟩
   dsimp only at h3 h4 h5 h6
   show Dw _ _ ⟨56,[(2,.p 2 0),(7,.v (.c (.s (((cz c ([c.p,c.q]++L))).length) (ao aj ((cz c ([c.p,c.q]++L))))))),(8,.o 54 (n+1) cp),(9,.v (.c (.i .i64 (((n+2:Nat):Int)))))],[(2,49,aC c),(54,49,ao aC (gI c ((cz c ([c.p,c.q]++L)).take (n+2)))++rs)]⟩ _
   refine aa<|aa<|bm<|ed ?_
   refine aJ rfl (fun hc3=>?_) (fun hc3=>?_)
   ·have g2:n+2<(cz c ([c.p,c.q]++L)).length:=by have:=of_decide_eq_true hc3;omega
    refine aA<|aa<|aE<|aa<|bm<|aU (kV (ai _) bO rfl)<|rZ (jh F9 rfl) rfl<|gi (cZ bO rfl rfl rfl (ai _) rfl rfl) ?_
    refine bt<|aa<|pQ 11 [10,999999] dP (by kernel_rfl) rfl rfl<|cn 2<|ba (ci (((n+1:Nat):Int)) ((bK (by omega) (by omega)).trans (congrArg some (by omega))) rfl)<|ba (bI (us:=aj ((cz c ([c.p,c.q]++L)).getD (n+1) dPt)++ao aj ((cz c ([c.p,c.q]++L)).drop ((n+1)+1))) cE rfl rfl (by omega) (am ak _) (iY ak (eB (by omega))) rfl) ?_
    refine ba (ck (us:=aj ((((cz c ([c.p,c.q]++L)).getD (n+1) dPt)))) bq rfl rfl rfl rfl) ?_
    refine cn 2<|ba (bI (us:=aj ((cz c ([c.p,c.q]++L)).getD (n+2) dPt)++ao aj ((cz c ([c.p,c.q]++L)).drop ((n+2)+1))) cE rfl rfl (by omega) (am ak _) (iY ak (eB (by omega))) rfl) ?_
    refine ba (ck (us:=aj ((((cz c ([c.p,c.q]++L)).getD (n+2) dPt)))) bq rfl rfl rfl rfl) ?_
    refine cn 1<|iE (aY (us:=aC (c.setp ((((cz c ([c.p,c.q]++L)).getD (n+1) dPt))))) bq rfl rfl rfl rfl (by rw[ai];decide) (wT _ _) rfl) rfl rfl rfl rfl ?_
    refine ln<|tv<|bU 1<|gi (aY (us:=aC (c.ends ((((cz c ([c.p,c.q]++L)).getD (n+1) dPt))) ((((cz c ([c.p,c.q]++L)).getD (n+2) dPt))))) bq rfl rfl rfl rfl (by rw[ai];decide) (Ao _ _ _) rfl) ?_
    refine bt<|bm<|bU 1<|aU (kV (ai _) bO rfl)<|aU (bV (n:=1) (us:=aC (c.ends ((((cz c ([c.p,c.q]++L)).getD (n+1) dPt))) ((((cz c ([c.p,c.q]++L)).getD (n+2) dPt))))) lp rfl (vh rfl (ai _)) (d7 (ai _)) (by decide) (by decide) rfl) ?_
    refine mh (us:=ao aC (gI c ((cz c ([c.p,c.q]++L)).take (n+2)))) (rest:=rs) (ys:=aC (c.ends ((((cz c ([c.p,c.q]++L)).getD (n+1) dPt))) ((((cz c ([c.p,c.q]++L)).getD (n+2) dPt))))) lp rfl rfl rfl (by rw[am ai,jg,dH,il (by omega)];rfl) (by assumption) (d7 (ai _)) (by decide) (by omega) (by assumption) (by omega) (iQ (by omega)) (.inl rfl) rfl (fun cg4 rg4 hga4 hgb4 hgc4=>?_)
    refine ed<|bm<|bU 1<|aU (ci (((n+1+2:Nat):Int)) ((bh (by omega) (by omega)).trans (congrArg some (by omega))) rfl)<|ed ?_
    exact⟨⟨⟨n+1,cg4,rg4⟩,by omega,by omega,hgb4,hgc4⟩,ap ⟨rfl,rfl,rfl,rfl,trivial⟩ ⟨rfl,by rw[A9 (i:=n+1) _ (by omega),dB,dW];rfl,trivial⟩ rfl,by show(cz c ([c.p,c.q]++L)).length-(n+1)<(cz c ([c.p,c.q]++L)).length-n;omega⟩
   ·have g2:n+2=(cz c ([c.p,c.q]++L)).length:=by have:=of_decide_eq_false hc3;omega
    refine bi<|aa<|bm<|ed<|cB (t:=4) (m:=66) (us:=ao aC (gI c ((cz c ([c.p,c.q]++L)).take (n+2)))) rfl rfl (jw (n:=n+1) (by rw[am ai,jg,dH,il (by omega)];rfl) (by assumption) (by omega)) (by omega) (by assumption) (gn (by rw[am ai,jg,dH,il (by omega)];rfl))<|a7 ?_
    rw[show iU c L=gI c ((cz c ([c.p,c.q]++L)).take (n+2)) from by rw[g2,lI];rfl,show(gI c ((cz c ([c.p,c.q]++L)).take (n+2))).length=n+1 from by rw[jg,dH,il (by omega)];rfl]
    exact ah (az (az ae))
theorem abf (hk:GK k):Ok Tryz.prog 141 [.a (aV k)] [.a (aj (jT k)),.a (aj (jE k))]:=by
 have o1:Rz 6000000 (1:Rat):=n9.m_
 refine bX Tryz.func141 rfl<|ac rfl (jJ (eE (by decide) (by decide)) (show((1:Int):Rat)=1 from rfl))<|ac rfl (jJ (eE (by decide) (by decide)) (show((0:Int):Rat)=0 from rfl))<|cJ 19 [] ?_
 refine aK rfl (yG o1) ?_
 refine aK rfl (MK (hk.x.m_) (n9.neg.m_) (hk.y.m_) (dJ (by decide)) (hk.q.m_)) ?_
 refine aK rfl (MK (hk.x.m_) (n9.m_) (hk.y.m_) (dJ (by decide)) (hk.q.m_)) ?_
 exact ah (aS bq rfl (aS bq rfl ae))
theorem Ug (hk:GK k):Ok Tryz.prog 52 [.a (aV k)] [.c (.s 2 (ao (OC rQ) (aw k)))]:=by
 refine eo Tryz.func52 19 [.tmp 2] rfl<|aa<|ag<|aa<|ag ?_
 refine ac rfl (abf hk)<|aa<|bm<|bU 3 ?_
 refine aU (aG (us:=([.b true]++rQ++aV k++[.b false]++aj (jT k)++aj (jE k))) Tk F9 rfl rfl rfl) ?_
 refine bU 3<|aU (aG (us:=([.b true]++rQ++aV k++[.b false]++aj (jE k)++aj (jT k))) Tk F9 rfl rfl rfl) ?_
 refine aU (bV (n:=2) (us:=([.b true]++rQ++aV k++[.b false]++aj (jT k)++aj (jE k))++([.b true]++rQ++aV k++[.b false]++aj (jE k)++aj (jT k))) lp rfl (by kernel_rfl) (by kernel_rfl) (by decide) (by decide) rfl) ?_
 refine ed<|a7 ?_
 exact ah (az ae)
theorem Yt (hk:GK k):Ok Tryz.prog 52 [.a (aV k)] [.c (.s ((aw k).length) (ao aC (aw k)))]:=(Ug hk).wks ((wkA rfl _ _ _ _).app ((wkA rfl _ _ _ _).app .nil))
end Go.Proofs.YtegpmhlfjkhjmaaGreat
