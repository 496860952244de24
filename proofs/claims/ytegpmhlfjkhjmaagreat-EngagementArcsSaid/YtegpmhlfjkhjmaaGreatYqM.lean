/-Plain:the program's integer below a root;a multiple of a unit near a root. -/
import Derived.Test.YtegpmhlfjkhjmaaGreatYqL
namespace Go.Proofs.YtegpmhlfjkhjmaaGreat
open Go Go.RowKit
variable {w w2:Bool}{k:Ci}{f:FuncId}{ds rs:List D0}{L:List Pt}{l m:Ln}{P:Program}{p q t u:Pt}{a a1 a2 b b1 b2 c d e v x y:Rat}
theorem nu:type_of% @Rz.div:=@Rz.div
theorem qF:type_of% @List.not_mem_nil:=@List.not_mem_nil
def TD (a b c:Rat):Int:=bV ((a.den:Int)*(a.den:Int)*((b*b*c).num*((b*b*c).den:Int)))
def Xn (a b c:Rat) (r:Int):Int:=(a.num*((b*b*c).den:Int)+r).fdiv ((a.den:Int)*((b*b*c).den:Int))
def ou (a b c:Rat):Int:=if b=0 then a.num.fdiv (a.den:Int) else if b<0 then Xn a b c (-(TD a b c+1)) else Xn a b c (TD a b c)
section
variable {a b c:Rat}
theorem QP (h:b=0):ou a b c=a.num.fdiv (a.den:Int):=by unfold ou;rw[if_pos h]
theorem Vi (h:b≠0) (h2:b<0):ou a b c=Xn a b c (-(TD a b c+1)):=by unfold ou;rw[if_neg h,if_pos h2]
theorem UM (h:b≠0) (h2: ¬b<0):ou a b c=Xn a b c (TD a b c):=by unfold ou;rw[if_neg h,if_neg h2]
theorem J1 {Z D:Int}(hD:0<D):Z.fdiv D*D≤Z∧Z+1≤(Z.fdiv D+1)*D:=by
 rw[pv _ (by omega),Int.add_mul,sG (Z/D) D]
 have h1:=rL Z D
 have h2:=pu Z (show D≠0 by omega)
 have h3:=og Z hD
 omega
theorem tc {x y:Re}(hd:0<d) (h:cD (Re.of d*x) (Re.of d*y)):cD x y:=by
 unfold cD at*
 have e:aS (Re.of d*y-Re.of d*x)=aS (Re.of d*(y-x)):=congrArg aS (bt fun k=>by simp only[aG,aT,bi];grind)
 have hp:aS (Re.of d)=1:=by rw[cO];unfold aJ;rw[if_neg (by grind),if_pos hd]
 rw[e,bJ,hp,pt] at h
 grind
theorem JF {x y:Re}(hd:0<d) (h:cD x y):cD (Re.of d*x) (Re.of d*y):=by
 unfold cD at*
 have e:aS (Re.of d*y-Re.of d*x)=aS (Re.of d*(y-x)):=congrArg aS (bt fun k=>by simp only[aG,aT,bi];grind)
 have hp:aS (Re.of d)=1:=by rw[cO];unfold aJ;rw[if_neg (by grind),if_pos hd]
 rw[e,bJ,hp,pt]
 grind
theorem qI {m n:Int}(h:m≤n):cD (Re.of (m:Rat)) (Re.of (n:Rat)):=of_le (fH.2 h)
theorem Tn (hc:0≤c):cD (Re.of ((TD a b c:Int):Rat)) (Re.of (((a.den:Int)*((b*b*c).den:Int):Int):Rat)*(Re.of (if b<0 then-b else b)*Re.rt c))∧
 cD (Re.of (((a.den:Int)*((b*b*c).den:Int):Int):Rat)*(Re.of (if b<0 then-b else b)*Re.rt c)) (Re.of (((TD a b c+1:Int)):Rat)):=by
 have hbc:0≤b*b*c:=by
  have:0≤b*b:=by
   by_cases h:0≤b
   ·exact jq h h
   ·have:=jq (show 0≤ -b by grind) (show 0≤ -b by grind);grind
  exact jq this hc
 have hin:0≤(a.den:Int)*(a.den:Int)*((b*b*c).num*((b*b*c).den:Int)):=
  f5 (f5 (by omega) (by omega)) (f5 (Rat.num_nonneg.2 hbc) (by omega))
 have h1:=ro hin
 have h2:=wx hin
 have h0:=eP ((a.den:Int)*(a.den:Int)*((b*b*c).num*((b*b*c).den:Int)))
 have hn:=uo (b*b*c)
 have dn:=den_pos a
 have dq:=den_pos (b*b*c)
 generalize hN:(a.den:Int)*(a.den:Int)*((b*b*c).num*((b*b*c).den:Int))=N at*
 have eI:TD a b c=bV N:=by unfold TD;rw[hN]
 rw[eI]
 generalize hb':(if b<0 then-b else b)=b'
 have hb2:b'*b'=b*b∧0≤b':=by grind
 generalize hD:(a.den:Int)*((b*b*c).den:Int)=D
 have hD0:0<D:=by subst hD;exact qP dn dq
 have eN:((N:Int):Rat)=((D:Int):Rat)*((D:Int):Rat)*(b*b*c):=by
  subst hN hD
  grind
 have nnR:0≤aS (Re.of ((D:Int):Rat)*(Re.of b'*Re.rt c)):=by
  have p1:aS (Re.of ((D:Int):Rat))=1:=by have:=CF hD0;have:=bL (Re.of ((D:Int):Rat));omega
  have p2:0≤aS (Re.of b'):=by rw[cO];exact kO hb2.2
  have p3:=xd c
  rw[bJ,p1,pt,bJ]
  exact f5 p2 p3
 have eS: ∀q:Rat,aS (Re.of ((D:Int):Rat)*(Re.of b'*Re.rt c)*(Re.of ((D:Int):Rat)*(Re.of b'*Re.rt c))-Re.of q)=aJ ((N:Int):Rat) q:=by
  intro q
  rw[←qb,←cO]
  refine dP ?_
  have e:Re.of ((D:Int):Rat)*(Re.of b'*Re.rt c)*(Re.of ((D:Int):Rat)*(Re.of b'*Re.rt c))-Re.of q-Re.of (((N:Int):Rat)-q)=Re.of (((D:Int):Rat)*((D:Int):Rat)*(b'*b'))*(Re.rt c*Re.rt c-Re.of c):=bt fun k=>by
   simp only[aG,aT,bi];grind
  rw[e,bJ,ow hc,pD]
 refine⟨?_,?_⟩
 ·refine qz (wm h0) nnR ?_
  rw[gZ,eS,←fZ]
  exact kO (fH.2 h1)
 ·refine qz nnR (wm (by omega)) ?_
  have h3:0≤ -aS (Re.of ((D:Int):Rat)*(Re.of b'*Re.rt c)*(Re.of ((D:Int):Rat)*(Re.of b'*Re.rt c))-Re.of (((bV N+1:Int):Rat)*((bV N+1:Int):Rat))):=by
   rw[eS,←fZ]
   have:=BR (x:=((N:Int):Rat)) (y:=(((bV N+1)*(bV N+1):Int):Rat)) (fH.2 (by omega))
   omega
  rw[←cm] at h3
  refine kZ (fun k=>?_) h3
  simp only[bE,aG,aT,bi];grind
theorem FJ {x y:Re}(h:cD x y):0≤aS (y-x):=h
theorem t8 (hc:0≤c):cD (Re.of ((ou a b c:Int):Rat)) (Re.of a+Re.of b*Re.rt c)∧cD (Re.of a+Re.of b*Re.rt c) (Re.of (((ou a b c+1:Int)):Rat)):=by
 by_cases hb:b=0
 ·subst hb
  have e:Re.of a+Re.of 0*Re.rt c=Re.of a:=bt fun k=>by simp only[aU,aT,bi];grind
  rw[e,QP rfl]
  have dn:=den_pos a
  obtain⟨h1,h2⟩:=J1 (Z:=a.num) dn
  have hn:=uo a
  have hp:(0:Rat)<((a.den:Int):Rat):=tv.2 dn
  refine⟨of_le (qj hp ?_),of_le (qj hp ?_)⟩
  ·rw[hn,←fZ];exact fH.2 h1
  ·rw[hn,←fZ];exact fH.2 (by omega)
 ·obtain⟨r1,r2⟩:=Tn (a:=a) (b:=b) hc
  have dn:=den_pos a
  have dq:=den_pos (b*b*c)
  have hD0:0<(a.den:Int)*((b*b*c).den:Int):=qP dn dq
  have hDr:(0:Rat)<(((a.den:Int)*((b*b*c).den:Int):Int):Rat):=tv.2 hD0
  have eX:(((a.den:Int)*((b*b*c).den:Int):Int):Rat)*a=((a.num*((b*b*c).den:Int):Int):Rat):=by
   have:=uo a
   grind
  have en:=fun h2=>Vi (a:=a) (c:=c) hb h2
  have ep:=fun h2=>UM (a:=a) (c:=c) hb h2
  generalize hD:(a.den:Int)*((b*b*c).den:Int)=D at*
  generalize TD a b c=I at*
  have key: ∀r:Int,∀Y:Re,ou a b c=Xn a b c r→Re.of a+Re.of b*Re.rt c=Re.of a+Y→cD (Re.of ((r:Int):Rat)) (Re.of ((D:Int):Rat)*Y)→cD (Re.of ((D:Int):Rat)*Y) (Re.of (((r+1:Int)):Rat))→
   cD (Re.of ((ou a b c:Int):Rat)) (Re.of a+Re.of b*Re.rt c)∧cD (Re.of a+Re.of b*Re.rt c) (Re.of (((ou a b c+1:Int)):Rat)):=by
   intro r Y e1 e2 g1 g2
   rw[e2,e1]
   have e3:Xn a b c r=(a.num*((b*b*c).den:Int)+r).fdiv D:=by unfold Xn;rw[hD]
   rw[e3]
   obtain⟨f1,f2⟩:=J1 (Z:=a.num*((b*b*c).den:Int)+r) hD0
   refine⟨tc hDr ?_,tc hDr ?_⟩
   ·have a1:=qI f1
    have a2:=p9 (FJ a1) (FJ g1)
    refine kZ (fun k=>?_) a2
    simp only[aG,aU,aT,bi,fZ,jw] at*
    grind
   ·have a1:=qI f2
    have a2:=p9 (FJ a1) (FJ g2)
    refine kZ (fun k=>?_) a2
    simp only[aG,aU,aT,bi,fZ,jw,Rat.intCast_one] at*
    grind
  by_cases hn:b<0
  ·rw[if_pos hn] at r1 r2
   refine key (-(I+1)) (Re.of b*Re.rt c) (en hn) rfl ?_ ?_
   ·refine kZ (fun k=>?_) r2
    simp only[aG,aT,bi,rF,jw,Rat.intCast_one];grind
   ·refine kZ (fun k=>?_) r1
    simp only[aG,aT,bi,rF,jw,Rat.intCast_one];grind
  grind
end
theorem mw {f:Rat}(ha:Rz 2000000 a) (hb:Rz 160000 b) (hc:Rz 160000 c) (hd:Rz 2000000 d) (he:Rz 160000 e) (hf:Rz 160000 f) (h1:Rz 160000 (a-d)) (c0:0≤c) (f0:0≤f):
 Ok Tryz.prog 139 [.a (cR a++cR b++cR c),.a (cR d++cR e++cR f)] [.c (.i .i64 (f6 (a-d) b (-e) 0 c f))]:=bY (CH ha hb hc hd he hf h1) ((KU c0 f0).trans (nM c0 f0).symm)
theorem vZ {x':Rat}(h:Ok P f ds (dR x::rs)) (e:x=x'):Ok P f ds (dR x'::rs):=by subst e;exact h
theorem FP {x x':Int}(h:Ok P f ds [dI x]) (e:x=x'):Ok P f ds [dI x']:=by subst e;exact h
def HQ (a b c:Rat):Rat:=1/(a*a-b*b*c)
def uN (a b c:Rat):Int:=if aJ b 0=0∨aJ a 0=aJ b 0 then aJ a 0 else if aJ a 0=0 then aJ b 0 else aJ a 0*aJ (a*a-b*b*c) 0
section
variable {a b c:Rat}
theorem Xj (h:(aJ b 0==0)=true):uN a b c=aJ a 0:=by unfold uN;rw[if_pos (.inl (by simpa using h))]
theorem Ye (h:(aJ a 0==aJ b 0)=true):uN a b c=aJ a 0:=by unfold uN;rw[if_pos (.inr (by simpa using h))]
theorem Wq (h:(aJ b 0==0)=false) (h2:(aJ a 0==aJ b 0)=false) (h3:(aJ a 0==0)=true):uN a b c=aJ b 0:=by
 unfold uN;rw[if_neg (fun e=>e.elim (by simpa using h) (by simpa using h2)),if_pos (by simpa using h3)]
theorem Wr (h:(aJ b 0==0)=false) (h2:(aJ a 0==aJ b 0)=false) (h3:(aJ a 0==0)=false):uN a b c=aJ a 0*aJ (a*a-b*b*c) 0:=by
 unfold uN;rw[if_neg (fun e=>e.elim (by simpa using h) (by simpa using h2)),if_neg (by simpa using h3)]
end
theorem dv1 (n:Int):Rat.divInt n 1=(n:Rat):=by rw[zo];have:((1:Int):Rat)=1:=rfl;rw[this];grind
theorem Ah:Ok Tryz.prog 236 [] [dR 0]:=by
 refine ca Tryz.func236 rfl<|ac rfl (fY (by omega) (by omega)) ?_
 refine ah ?_
 rw[Lx]
 exact aV bF rfl ae
theorem y6:Ok Tryz.prog 320 [dR a,dR b,dR c] [.a ((cR a++cR b++cR (zc b c)))]:=by
 refine ca Tryz.func320 rfl<|ac rfl (jZ) ?_
 refine dD rfl (fun hc1=>?_) (fun hc1=>?_)
 ·refine ac rfl (Ah) ?_
  refine ar (aM (us:=(cR a++cR b++cR 0)) m9 lh rfl rfl rfl) ?_
  refine ah ?_
  rw[Fh (qT hc1)]
  exact aV dh rfl ae
 ·refine ar (aM (us:=(cR a++cR b++cR c)) m9 lh rfl rfl rfl) ?_
  refine ah ?_
  rw[pe (pf hc1)]
  exact aV dh rfl ae
theorem H6 {k:Rat}(ha:Rz 6000000 a) (hb:Rz 6000000 b) (hk:Rz 6000000 k):Ok Tryz.prog 363 [.a ((cR a++cR b++cR c)),dR k] [.a ((cR (a*k)++cR (b*k)++cR (zc (b*k) c)))]:=by
 refine ca Tryz.func363 rfl<|cT 11 [] ?_
 refine aK rfl (cW (aQ ha) (aQ hk)) ?_
 refine aK rfl (cW (aQ hb) (aQ hk)) ?_
 refine aK rfl (y6) ?_
 exact ah (aV dh rfl ae)
theorem ry (ha:Rz 400000 a) (hb:Rz 400000 b) (hc:Rz 400000 c):Ok Tryz.prog 314 [.a ((cR a++cR b++cR c))] [dI (ou a b c)]:=by
 have hn:(a.den:Int)*((b*b*c).den:Int)≠0:=iJ (jL a) (jL (b*b*c))
 refine ca Tryz.func314 rfl<|ac rfl (cH) ?_
 refine dD rfl (fun hc1=>?_) (fun hc1=>?_)
 ·refine ac rfl (xq (aQ ha)) ?_
  refine ah ?_
  rw[QP (qT hc1)]
  exact aV dT rfl ae
 ·refine cT 9 [] ?_
  refine aK rfl (cW (aQ hb) (aQ hb)) ?_
  refine aK rfl (cW (aQ (aO hb hb)) (aQ hc))<|cT 9 [4,5,999999] ?_
  refine DQ.mk<|iQ (fg dT rfl) rfl rfl rfl rfl<|d7 ?_
  refine DQ.mk<|iQ (fg dT rfl) rfl rfl rfl rfl<|d7 ?_
  refine cT 9 [] ?_
  refine aK rfl (gG (eh (cZ ha)) (eh (cZ ha))) ?_
  refine aK rfl (gG (eh (eZ (aO (aO hb hb) hc))) (eh (cZ (aO (aO hb hb) hc)))) ?_
  refine aK rfl (gG (eh (dC (cZ ha) (cZ ha))) (eh (dC (eZ (aO (aO hb hb) hc)) (cZ (aO (aO hb hb) hc))))) ?_
  refine ac rfl (CB (eh (dC (dC (cZ ha) (cZ ha)) (dC (eZ (aO (aO hb hb) hc)) (cZ (aO (aO hb hb) hc)))))) ?_
  refine ac rfl (cH) ?_
  refine dD rfl (fun hc2=>?_) (fun hc2=>?_)
  ·refine cT 4 [] ?_
   refine aK rfl (jh (by omega) (by omega))<|aK rfl (tP (eh (Sz.isq (dC (dC (cZ ha) (cZ ha)) (dC (eZ (aO (aO hb hb) hc)) (cZ (aO (aO hb hb) hc)))))) (eh (dY (k:=3) (by decide) (by decide) (by decide))))<|aK rfl (yL (eh (Sz.addm (Sz.isq (dC (dC (cZ ha) (cZ ha)) (dC (eZ (aO (aO hb hb) hc)) (cZ (aO (aO hb hb) hc))))) (dY (k:=3) (by decide) (by decide) (by decide)))))<|cT 20 [9,10,999999] ?_
   refine aK rfl (gG (eh (eZ ha)) (eh (cZ (aO (aO hb hb) hc)))) ?_
   refine aK rfl (tP (eh (dC (eZ ha) (cZ (aO (aO hb hb) hc)))) (eh (Sz.neg (Sz.addm (Sz.isq (dC (dC (cZ ha) (cZ ha)) (dC (eZ (aO (aO hb hb) hc)) (cZ (aO (aO hb hb) hc))))) (dY (k:=3) (by decide) (by decide) (by decide)))))) ?_
   refine aK rfl (gG (eh (cZ ha)) (eh (cZ (aO (aO hb hb) hc)))) ?_
   refine aK rfl (nJ (eh (Sz.addm (dC (eZ ha) (cZ (aO (aO hb hb) hc))) (Sz.neg (Sz.addm (Sz.isq (dC (dC (cZ ha) (cZ ha)) (dC (eZ (aO (aO hb hb) hc)) (cZ (aO (aO hb hb) hc))))) (dY (k:=3) (by decide) (by decide) (by decide)))))) (eh (dC (cZ ha) (cZ (aO (aO hb hb) hc)))) (by assumption)) ?_
   refine DQ.mk<|iQ (fg dT rfl) rfl rfl rfl rfl<|d7 ?_
   refine DQ.mk<|iQ (fg dT rfl) rfl rfl rfl rfl<|d7 ?_
   refine ah ?_
   rw[Vi (pf hc1) (FV hc2)]
   exact aV dT rfl ae
  ·refine cT 20 [9,10,999999] ?_
   refine aK rfl (gG (eh (eZ ha)) (eh (cZ (aO (aO hb hb) hc)))) ?_
   refine aK rfl (tP (eh (dC (eZ ha) (cZ (aO (aO hb hb) hc)))) (eh (Sz.isq (dC (dC (cZ ha) (cZ ha)) (dC (eZ (aO (aO hb hb) hc)) (cZ (aO (aO hb hb) hc))))))) ?_
   refine aK rfl (gG (eh (cZ ha)) (eh (cZ (aO (aO hb hb) hc)))) ?_
   refine aK rfl (nJ (eh (Sz.addm (dC (eZ ha) (cZ (aO (aO hb hb) hc))) (Sz.isq (dC (dC (cZ ha) (cZ ha)) (dC (eZ (aO (aO hb hb) hc)) (cZ (aO (aO hb hb) hc))))))) (eh (dC (cZ ha) (cZ (aO (aO hb hb) hc)))) (by assumption)) ?_
   refine DQ.mk<|iQ (fg dT rfl) rfl rfl rfl rfl<|d7 ?_
   refine DQ.mk<|iQ (fg dT rfl) rfl rfl rfl rfl<|d7 ?_
   refine ah ?_
   rw[UM (pf hc1) (Db hc2)]
   exact aV dT rfl ae
theorem gJ:Ok Tryz.prog 130 [dR a] [.a ((cR a++cR 0++cR 0))]:=by
 refine ca Tryz.func130 rfl<|cT 4 [] ?_
 refine aK rfl (Ah) ?_
 refine aK rfl (Ah) ?_
 refine aq (aM (us:=(cR a++cR 0++cR 0)) m9 lh rfl rfl rfl) ?_
 exact ah (aV dh rfl ae)
theorem Ep (ha:Rz 6000000 a) (hb:Rz 6000000 b):Ok Tryz.prog 229 [.a ((cR a++cR b++cR c))] [.a ((cR (-a)++cR (-b)++cR c))]:=by
 refine ca Tryz.func229 rfl<|cT 9 [] ?_
 refine aK rfl (dS (aQ ha)) ?_
 refine aK rfl (dS (aQ hb)) ?_
 refine aq (aM (us:=(cR (-a)++cR (-b)++cR c)) m9 lh rfl rfl rfl) ?_
 exact ah (aV dh rfl ae)
theorem CV (ha:Rz 1000000 a) (hb:Rz 1000000 b) (hc:Rz 1000000 c):Ok Tryz.prog 362 [.a ((cR a++cR b++cR c))] [dR (a*a-b*b*c)]:=by
 refine ca Tryz.func362 rfl<|cT 14 [] ?_
 refine aK rfl (cW (aQ ha) (aQ ha)) ?_
 refine aK rfl (cW (aQ hb) (aQ hb)) ?_
 refine aK rfl (cW (aQ (aO hb hb)) (aQ hc)) ?_
 refine aK rfl (fp (aQ (aO ha ha)) (aQ (aO (aO hb hb) hc))) ?_
 exact ah (aV bF rfl ae)
theorem IM (ha:Rz 1000000 a) (hb:Rz 1000000 b) (hc:Rz 1000000 c):Ok Tryz.prog 361 [.a ((cR a++cR b++cR c))] [.c (.i .i64 (uN a b c))]:=by
 have hp:=jO (dZ a 0) (dZ (a*a-b*b*c) 0)
 refine ca Tryz.func361 rfl<|cT 8 [] ?_
 refine aK rfl (cH) ?_
 refine aK rfl (cH) ?_
 refine jT (bz rfl) (fun c1 hb1=>?_)
 cases c1
 ·refine dD rfl (fun hc2=>?_) (fun hc2=>?_)
  ·refine ah ?_
   rw[Ye hc2]
   exact az ae
  ·refine dD rfl (fun hc3=>?_) (fun hc3=>?_)
   ·refine ah ?_
    rw[Wq hb1 hc2 hc3]
    exact az ae
   ·refine ac rfl (CV (by assumption) (by assumption) (by assumption))<|ac rfl (cH)<|ar (ci ((aJ a 0)*(aJ (a*a-b*b*c) 0)) (fU (by omega) (by omega)) rfl)<|ah ?_
    rw[Wr hb1 hc2 hc3]
    exact az ae
 ·refine tg rfl<|ah ?_
  rw[Xj hb1]
  exact az ae
theorem zT (ha:Rz 6000000 a) (hd:Rz 6000000 d):Ok Tryz.prog 316 [.a ((cR a++cR b++cR c)),dR d] [.a ((cR (a-d)++cR b++cR c))]:=by
 refine ca Tryz.func316 rfl<|ac rfl (fp (aQ ha) (aQ hd)) ?_
 refine re (bd (us:=(cR (a-d)++cR b++cR c)) bF rfl rfl rfl rfl (fP rfl) rfl rfl) ?_
 exact ah (aV dh rfl ae)
theorem II {f:Rat}(ha:Rz 2000000 a) (hb:Rz 160000 b) (hc:Rz 160000 c) (hd:Rz 2000000 d) (he:Rz 160000 e) (hf:Rz 160000 f) (h1:Rz 160000 (a-d)) (c0:0≤c) (f0:0≤f):Ok Tryz.prog 318 [.a ((cR a++cR b++cR c)),.a ((cR d++cR e++cR f))] [.c (.b (f6 (a-d) b (-e) 0 c f==0))]:=by
 refine ca Tryz.func318 rfl ?_
 refine ac rfl (mw (by assumption) (by assumption) (by assumption) (by assumption) (by assumption) (by assumption) (by assumption) (by assumption) (by assumption)) ?_
 exact ah (az ae)
theorem er (ha:Rz 2000000 a) (hb:Rz 160000 b) (hc:Rz 160000 c) (hd:Rz 2000000 d) (h1:Rz 160000 (a-d)) (c0:0≤c):Ok Tryz.prog 227 [.a ((cR a++cR b++cR c)),dR d] [.c (.i .i64 (f6 (a-d) b (-0) 0 c 0))]:=by
 have z0:Rz 160000 (0:Rat):=dH (by decide)
 refine ca Tryz.func227 rfl<|cT 5 [] ?_
 refine aK rfl (gJ) ?_
 refine aK rfl (mw (by assumption) (by assumption) (by assumption) (by assumption) z0 z0 h1 c0 tD) ?_
 exact ah (az ae)
theorem Bu (hc:0≤c):f6 (a-d) b (-0) 0 c 0=bo (a-d) b c:=by
 rw[nM hc tD,iX hc]
 exact congrArg aS (bt fun n=>by unfold aC;simp only[aU,aG,aT,bi];grind)
theorem N5 (hp:GP p) (hq:GP q):Ok Tryz.prog 51 [.a (aj p),.a (aj q)] [.c (.i .i64 (cP p q))]:=bY (xc (hp.a1.mono (by decide)) (hp.b1.mono (by decide)) (hp.a2.mono (by decide)) (hp.b2.mono (by decide)) (hp.c.mono (by decide)) (hq.a1.mono (by decide)) (hq.b1.mono (by decide)) (hq.a2.mono (by decide)) (hq.b2.mono (by decide)) (hq.c.mono (by decide)) ((hp.a1.sub hq.a1).mono (by decide)) ((hp.a2.sub hq.a2).mono (by decide))) (HU (co hp) (co hq))
theorem yr (hp:GP p) (hq:GP q):Ok Tryz.prog 220 [.a (aj p),.a (aj q)] [.c (.b (cP p q==0))]:=ez (G1 (hp.a1.mono (by decide)) (hp.b1.mono (by decide)) (hp.a2.mono (by decide)) (hp.b2.mono (by decide)) (hp.c.mono (by decide)) (hq.a1.mono (by decide)) (hq.b1.mono (by decide)) (hq.a2.mono (by decide)) (hq.b2.mono (by decide)) (hq.c.mono (by decide)) ((hp.a1.sub hq.a1).mono (by decide)) ((hp.a2.sub hq.a2).mono (by decide))) (by rw[HU (co hp) (co hq)];rfl)
theorem xCX (hp:GP p) (hq:GP q):Ok Tryz.prog 139 [.a ((cR p.a1++cR p.b1++cR (zc p.b1 p.c))),.a ((cR q.a1++cR q.b1++cR (zc q.b1 q.c)))] [.c (.i .i64 (cx p q))]:=mw (hp.a1.mono (by decide)) (hp.b1.mono (by decide)) (il (hp.c.mono (by decide)) (by decide)) (hq.a1.mono (by decide)) (hq.b1.mono (by decide)) (il (hq.c.mono (by decide)) (by decide)) ((hp.a1.sub hq.a1).mono (by decide)) (li (co hp)) (li (co hq))
theorem xEX (hp:GP p) (hq:GP q):Ok Tryz.prog 318 [.a ((cR p.a1++cR p.b1++cR (zc p.b1 p.c))),.a ((cR q.a1++cR q.b1++cR (zc q.b1 q.c)))] [.c (.b (cx p q==0))]:=II (hp.a1.mono (by decide)) (hp.b1.mono (by decide)) (il (hp.c.mono (by decide)) (by decide)) (hq.a1.mono (by decide)) (hq.b1.mono (by decide)) (il (hq.c.mono (by decide)) (by decide)) ((hp.a1.sub hq.a1).mono (by decide)) (li (co hp)) (li (co hq))
theorem xRX (hp:GP p) (hv:Rz 400 v):Ok Tryz.prog 227 [.a ((cR p.a1++cR p.b1++cR (zc p.b1 p.c))),dR v] [.c (.i .i64 (mS p v))]:=bY (er (hp.a1.mono (by decide)) (hp.b1.mono (by decide)) (il (hp.c.mono (by decide)) (by decide)) (hv.mono (by decide)) ((hp.a1.sub hv).mono (by decide)) (li (co hp))) (Bu (li (co hp)))
theorem xRY (hp:GP p) (hv:Rz 400 v):Ok Tryz.prog 227 [.a ((cR p.a2++cR p.b2++cR (zc p.b2 p.c))),dR v] [.c (.i .i64 (sY p v))]:=bY (er (hp.a2.mono (by decide)) (hp.b2.mono (by decide)) (il (hp.c.mono (by decide)) (by decide)) (hv.mono (by decide)) ((hp.a2.sub hv).mono (by decide)) (li (co hp))) (Bu (li (co hp)))
theorem qG (hx:Rz 6000000 x) (hy:Rz 6000000 y):Ok Tryz.prog 134 [dR x,dR y] [dR (x+y)]:=by
 refine ca Tryz.func134 rfl<|ac rfl (jy (aQ hx) (aQ hy)) ?_
 exact ah (aV bF rfl ae)
theorem sy (hx:Rz 6000000 x) (hy:Rz 6000000 y):Ok Tryz.prog 133 [dR x,dR y] [dR (x-y)]:=by
 refine ca Tryz.func133 rfl<|ac rfl (fp (aQ hx) (aQ hy)) ?_
 exact ah (aV bF rfl ae)
theorem gi (hx:Rz 6000000 x) (hy:Rz 6000000 y):Ok Tryz.prog 135 [dR x,dR y] [dR (x*y)]:=by
 refine ca Tryz.func135 rfl<|ac rfl (cW (aQ hx) (aQ hy)) ?_
 exact ah (aV bF rfl ae)
theorem CN (hx:Rz 6000000 x) (hy:Rz 6000000 y):Ok Tryz.prog 297 [dR x,dR y] [dR (x+y)]:=by
 refine ca Tryz.func297 rfl<|ac rfl (jy (aQ hx) (aQ hy)) ?_
 exact ah (aV bF rfl ae)
theorem qx (hx:Rz 6000000 x) (hy:Rz 6000000 y):Ok Tryz.prog 296 [dR x,dR y] [dR (x-y)]:=by
 refine ca Tryz.func296 rfl<|ac rfl (fp (aQ hx) (aQ hy)) ?_
 exact ah (aV bF rfl ae)
theorem oR (hx:Rz 6000000 x) (hy:Rz 6000000 y):Ok Tryz.prog 298 [dR x,dR y] [dR (x*y)]:=by
 refine ca Tryz.func298 rfl<|ac rfl (cW (aQ hx) (aQ hy)) ?_
 exact ah (aV bF rfl ae)
theorem Wg {m:Rat}(ha:Rz 2000000 a) (hb:Rz 2000000 b) (hm:Rz 2000000 m):Ok Tryz.prog 136 [dR a,dR b,dR m] [.c (.i .i64 (bo a b m))]:=by
 have ka:Rz 6000000 a:=ha.m_
 have kb:Rz 6000000 b:=hb.m_
 have hp:=jO (dZ b 0) (dZ m 0)
 have hp2:=jO (dZ a 0) (dZ (a*a) (b*b*m))
 refine ca Tryz.func136 rfl<|cT 9 [] ?_
 refine aK rfl (cH) ?_
 refine aK rfl (cH) ?_
 refine aK rfl (cH) ?_
 refine aq (ci ((aJ b 0)*(aJ m 0)) (fU (by omega) (by omega)) rfl) ?_
 refine jT (bz rfl) (fun c1 hb1=>?_)
 cases c1
 ·refine dD rfl (fun hc2=>?_) (fun hc2=>?_)
  ·refine ah ?_
   unfold bo
   rw[yS hc2]
   exact az ae
  ·refine dD rfl (fun hc3=>?_) (fun hc3=>?_)
   ·refine ah ?_
    unfold bo
    rw[yT hc3]
    exact az ae
   ·refine cT 12 [] ?_
    refine aK rfl (gi (aQ ha) (aQ ha)) ?_
    refine aK rfl (gi (aQ hb) (aQ hb)) ?_
    refine aK rfl (gi (aQ (aO hb hb)) (aQ hm)) ?_
    refine aK rfl (lF (aQ (aO ha ha)) (aQ (aO (aO hb hb) hm))) ?_
    refine aq (ci ((aJ a 0)*(aJ (a*a) ((b*b)*m))) (fU (by omega) (by omega)) rfl)<|ah ?_
    unfold bo
    rw[yp hc3 hb1 hc2]
    exact az ae
 ·refine tg rfl<|ah ?_
  unfold bo
  rw[yE hb1]
  exact az ae
theorem LC {x y:Int}(hx:Bd x) (hy:Bd y):Ok Tryz.prog 241 [.a (([.i .i64 x]++[.i .i64 y]))] [.a (([.i .i64 (-y)]++[.i .i64 (-x)]))]:=by
 unfold Bd at hx hy
 refine ca Tryz.func241 rfl<|ar (gl (r:= -y) rfl (by rw[Int.zero_sub];exact qN (by omega) (by omega)) rfl) ?_
 refine ar (gl (r:= -x) rfl (by rw[Int.zero_sub];exact qN (by omega) (by omega)) rfl) ?_
 refine ar (aM (us:=([.i .i64 (-y)]++[.i .i64 (-x)])) qZ qr rfl rfl rfl) ?_
 exact ah (aV jV rfl ae)
theorem PV (ha:Rz 4000000 a) (hb:Rz 4000000 b) (hc:Rz 4000000 c) (hv:Rz 4000000 v):Ok Tryz.prog 237 [dR a,dR b,dR c,dR v] [.a (([.i .i64 (Eu a b c v)]++[.i .i64 (DF a b c v)])),.c (.b (Iv a b c v))]:=by
 refine ca Tryz.func237 rfl<|ar (aM (us:=(cR a++cR b++cR c)) m9 lh rfl rfl rfl) ?_
 refine ac rfl (xG (by assumption) (by assumption) (by assumption))<|ac rfl (jp (aQ hv)) ?_
 refine jT (bz rfl) (fun c1 hb1=>?_)
 cases c1
 ·refine dD rfl (fun hc2=>?_) (fun hc2=>?_)
  ·have n1:AV a b c v=false:=by unfold AV;rw[fA hb1,jN hc2];rfl
   refine ar (aM (us:=([.i .i64 0]++[.i .i64 0])) qZ qr rfl rfl rfl) ?_
   refine ah ?_
   rw[(DP n1).1,(DP n1).2.1,(DP n1).2.2]
   exact aV jV rfl (az ae)
  ·have n1:AV a b c v=true:=by unfold AV;rw[fA hb1,fA hc2];rfl
   refine cT 6 [] ?_
   refine aK rfl (LC (uP _) (vq _)) ?_
   refine aK rfl (v5 (Y7 _ _ _) (aby _ _ _) (Bd.neg (vq _)) (Bd.neg (uP _)))<|ah ?_
   rw[(EL n1).1,(EL n1).2.1,(EL n1).2.2]
   exact aV jV rfl (az ae)
 ·have n1:AV a b c v=false:=by unfold AV;rw[jN hb1];rfl
  refine tg rfl<|ar (aM (us:=([.i .i64 0]++[.i .i64 0])) qZ qr rfl rfl rfl) ?_
  refine ah ?_
  rw[(DP n1).1,(DP n1).2.1,(DP n1).2.2]
  exact aV jV rfl (az ae)
theorem Th (hk:GK k) (hp:GB p):Ok Tryz.prog 132 [.a (aX k),.a (aj p)] [.c (.i .i64 (UF k p)),.c (.b (VG k p))]:=by
 refine ca Tryz.func132 rfl ?_
 refine ac rfl (PV (hp.a1.m_) (hp.b1.m_) (hp.c.m_) (hk.x.m_)) ?_
 refine ac rfl (PV (hp.a2.m_) (hp.b2.m_) (hp.c.m_) (hk.y.m_)) ?_
 refine ac rfl (jp (hk.q.m_)) ?_
 refine jT (bz rfl) (fun c1 hb1=>?_)
 cases c1
 ·refine jT (bz rfl) (fun c2 hb2=>?_)
  cases c2
  ·refine dD rfl (fun hc3=>?_) (fun hc3=>?_)
   ·have m0:RO k p=false:=by unfold RO;rw[show Iv p.a1 p.b1 p.c k.x=true from fA hb1,show Iv p.a2 p.b2 p.c k.y=true from fA hb2,show jj k.q=false from jN hc3];rfl
    have m1:Kv k p=false:=by unfold Kv;rw[m0];rfl
    have m2:It k p=false:=by unfold It;rw[m1];rfl
    have m3:Dr k p=false:=by unfold Dr;rw[m2];rfl
    refine ah ?_
    rw[(rI m3).1,(rI m3).2]
    exact az (az ae)
   ·have n1:RO k p=true:=by unfold RO;rw[show Iv p.a1 p.b1 p.c k.x=true from fA hb1,show Iv p.a2 p.b2 p.c k.y=true from fA hb2,show jj k.q=true from fA hc3];rfl
    refine ac rfl (wd (Fw _ _ _ _) (E8 _ _ _ _) (Fw _ _ _ _) (E8 _ _ _ _))<|ac rfl (wd (Fw _ _ _ _) (E8 _ _ _ _) (Fw _ _ _ _) (E8 _ _ _ _)) ?_
    refine jT (bz rfl) (fun c4 hb4=>?_)
    cases c4
    ·refine dD rfl (fun hc5=>?_) (fun hc5=>?_)
     ·have m1:Kv k p=false:=by unfold Kv;rw[n1,show UA k p=true from fA hb4,show WZ k p=false from jN hc5];rfl
      have m2:It k p=false:=by unfold It;rw[m1];rfl
      have m3:Dr k p=false:=by unfold Dr;rw[m2];rfl
      refine ah ?_
      rw[(rI m3).1,(rI m3).2]
      exact az (az ae)
     ·have n2:Kv k p=true:=by unfold Kv;rw[n1,show UA k p=true from fA hb4,show WZ k p=true from fA hc5];rfl
      refine ac rfl (v5 LG.1 LG.2 LW.1 LW.2) ?_
      refine dD rfl (fun hc6=>?_) (fun hc6=>?_)
      ·have m2:It k p=false:=by unfold It;rw[n2,show smK k p=false from jN hc6];rfl
       have m3:Dr k p=false:=by unfold Dr;rw[m2];rfl
       refine ah ?_
       rw[(rI m3).1,(rI m3).2]
       exact az (az ae)
      ·have n3:It k p=true:=by unfold It;rw[n2,show smK k p=true from fA hc6];rfl
       refine cT 10 [15,999999] ?_
       refine aK rfl (LC (uP _) (vq _)) ?_
       refine aK rfl (v5 Or.1 Or.2 (Bd.neg (vq _)) (Bd.neg (uP _))) ?_
       refine DQ.mk<|iQ (fg jV rfl) rfl rfl rfl rfl<|d7 ?_
       refine dD rfl (fun hc7=>?_) (fun hc7=>?_)
       ·have m3:Dr k p=false:=by unfold Dr;rw[n3,show rsK k p=false from jN hc7];rfl
        refine ah ?_
        rw[(rI m3).1,(rI m3).2]
        exact az (az ae)
       ·have n4:Dr k p=true:=by unfold Dr;rw[n3,show rsK k p=true from fA hc7];rfl
        refine ac rfl (GG)<|ah ?_
        rw[(Ji n4).1,(Ji n4).2]
        exact az (az ae)
    ·refine tg rfl ?_
     have m1:Kv k p=false:=by unfold Kv;rw[n1,show UA k p=false from jN hb4];rfl
     have m2:It k p=false:=by unfold It;rw[m1];rfl
     have m3:Dr k p=false:=by unfold Dr;rw[m2];rfl
     refine ah ?_
     rw[(rI m3).1,(rI m3).2]
     exact az (az ae)
  ·refine tg rfl ?_
   have m0:RO k p=false:=by unfold RO;rw[show Iv p.a1 p.b1 p.c k.x=true from fA hb1,show Iv p.a2 p.b2 p.c k.y=false from jN hb2];rfl
   have m1:Kv k p=false:=by unfold Kv;rw[m0];rfl
   have m2:It k p=false:=by unfold It;rw[m1];rfl
   have m3:Dr k p=false:=by unfold Dr;rw[m2];rfl
   refine ah ?_
   rw[(rI m3).1,(rI m3).2]
   exact az (az ae)
 ·refine ar (bz rfl)<|tg rfl ?_
  have m0:RO k p=false:=by unfold RO;rw[show Iv p.a1 p.b1 p.c k.x=false from jN hb1];rfl
  have m1:Kv k p=false:=by unfold Kv;rw[m0];rfl
  have m2:It k p=false:=by unfold It;rw[m1];rfl
  have m3:Dr k p=false:=by unfold Dr;rw[m2];rfl
  refine ah ?_
  rw[(rI m3).1,(rI m3).2]
  exact az (az ae)
theorem PU (k:Ci) (p:Pt):(p.a1-k.x)*(p.a1-k.x)+(p.a2-k.y)*(p.a2-k.y)+p.c*(p.b1*p.b1+p.b2*p.b2)-k.q=F9 k p:=by unfold F9 Iu;grind
theorem RA (hk:GK k) (hp:GB p):Ok Tryz.prog 46 [.a (aX k),.a (aj p)] [.c (.i .i64 (mp k p))]:=by
 have b1:=Uv k p
 have b2:=ix (F9 k p) (Dh k p) p.c
 have e3:=aaR (k:=k) hp.v
 have wA:=Qc hk hp
 have wB:=RM hk hp
 refine ca Tryz.func46 rfl ?_
 refine ac rfl (Th hk hp) ?_
 refine dD rfl (fun hc1=>?_) (fun hc1=>?_)
 ·have e4:=Zl hp.v hc1
  refine ar (gl (r:= -UF k p) rfl (by rw[Int.zero_sub];exact qN (by omega) (by omega)) rfl) ?_
  refine ah ?_
  rw[←e4]
  exact az ae
 ·refine cT 12 [] ?_
  refine aK rfl (sy (aQ (hp.a1)) (aQ (hk.x))) ?_
  refine aK rfl (sy (aQ (hp.a2)) (aQ (hk.y)))<|cT 8 [9,10,999999] ?_
  refine DQ.mk<|iQ (fg bF rfl) rfl rfl rfl rfl<|d7 ?_
  refine DQ.mk<|iQ (fg bF rfl) rfl rfl rfl rfl<|d7 ?_
  refine cT 19 [] ?_
  refine aK rfl (gi (aQ (dd (hp.a1) (hk.x))) (aQ (dd (hp.a1) (hk.x)))) ?_
  refine aK rfl (gi (aQ (dd (hp.a2) (hk.y))) (aQ (dd (hp.a2) (hk.y)))) ?_
  refine aK rfl (qG (aQ (aO (dd (hp.a1) (hk.x)) (dd (hp.a1) (hk.x)))) (aQ (aO (dd (hp.a2) (hk.y)) (dd (hp.a2) (hk.y))))) ?_
  refine aK rfl (gi (aQ (hp.b1)) (aQ (hp.b1))) ?_
  refine aK rfl (gi (aQ (hp.b2)) (aQ (hp.b2))) ?_
  refine aK rfl (qG (aQ (aO (hp.b1) (hp.b1))) (aQ (aO (hp.b2) (hp.b2)))) ?_
  refine aK rfl (gi (aQ (hp.c)) (aQ (gD (aO (hp.b1) (hp.b1)) (aO (hp.b2) (hp.b2))))) ?_
  refine aK rfl (qG (aQ (gD (aO (dd (hp.a1) (hk.x)) (dd (hp.a1) (hk.x))) (aO (dd (hp.a2) (hk.y)) (dd (hp.a2) (hk.y))))) (aQ (aO (hp.c) (gD (aO (hp.b1) (hp.b1)) (aO (hp.b2) (hp.b2))))))<|cT 8 [] ?_
  refine aK rfl (gi (aQ (dd (hp.a1) (hk.x))) (aQ (hp.b1))) ?_
  refine aK rfl (gi (aQ (dd (hp.a2) (hk.y))) (aQ (hp.b2))) ?_
  refine aK rfl (qG (aQ (aO (dd (hp.a1) (hk.x)) (hp.b1))) (aQ (aO (dd (hp.a2) (hk.y)) (hp.b2))))<|cT 12 [] ?_
  refine aK rfl (sy (aQ (gD (gD (aO (dd (hp.a1) (hk.x)) (dd (hp.a1) (hk.x))) (aO (dd (hp.a2) (hk.y)) (dd (hp.a2) (hk.y)))) (aO (hp.c) (gD (aO (hp.b1) (hp.b1)) (aO (hp.b2) (hp.b2)))))) (aQ (hk.q))) ?_
  refine aK rfl (qG (aQ (gD (aO (dd (hp.a1) (hk.x)) (hp.b1)) (aO (dd (hp.a2) (hk.y)) (hp.b2)))) (aQ (gD (aO (dd (hp.a1) (hk.x)) (hp.b1)) (aO (dd (hp.a2) (hk.y)) (hp.b2))))) ?_
  refine aK rfl (bY (c:=bo (F9 k p) (Dh k p) p.c) (Wg (by rw[PU];exact wA.m_) (wB.m_) (hp.c.m_)) (by rw[PU];rfl))<|aq (gl (r:= -bo (F9 k p) (Dh k p) p.c) rfl (DB b2) rfl) ?_
  refine ah ?_
  rw[←e3]
  exact az ae
theorem abt (hk:GK k) (hp:GP p):Ok Tryz.prog 46 [.a (aX k),.a (aj p)] [.c (.i .i64 (mp k p))]:=RA hk hp.gb
theorem ws (ha:Rz 2000000 a) (hb:Rz 2000000 b) (hc:Rz 2000000 c) (h0: ¬c<0) (hs:jd c=true):Ok Tryz.prog 234 [dR a,dR b,dR c] [.a ((cR (a+b*rt c)++cR 0++cR 0)),.c (.i .i64 0)]:=by
 have kt:Rz 2000000 (rt c):=hc.rt
 have k1:Rz 6000000 (b*rt c):=(hb.mul hc.rt).m_
 refine ca Tryz.func234 rfl<|ac rfl (cH) ?_
 refine dD rfl (fun hc1=>?_) (fun hc1=>?_)
 ·exact absurd (FV hc1) h0
 ·refine ac rfl (Ej (aQ hc)) ?_
  refine DW.mk<|aI rfl (fun hc2=>?_) (fun hc2=>?_)
  ·refine lj (σ':=⟨30,[(3,.p 3 0),(4,.p 4 0),(6,.p 6 0),(8,.p 8 0)],[(3,38,cR a),(4,38,cR b),(6,129,zR),(8,38,cR (rt c))]⟩) (ao ⟨rfl,rfl,rfl,rfl,trivial⟩ ⟨rfl,rfl,rfl,by rw[←Cy hs];rfl,trivial⟩ rfl)<|no ?_
   refine cT 6 [] ?_
   refine aK rfl (cW (aQ hb) (Ix)) ?_
   refine aK rfl (jy (aQ ha) (aQ (aO hb (by assumption))))<|aK rfl (gJ) ?_
   exact ah (aV dh rfl (az ae))
  ·exact absurd hs (by rw[hc2];decide)
theorem wQ (_ha:Rz 2000000 a) (_hb:Rz 2000000 b) (hc:Rz 2000000 c) (h0: ¬c<0) (hs:jd c=false):Ok Tryz.prog 234 [dR a,dR b,dR c] [.a ((cR a++cR b++cR (zc b c))),.c (.i .i64 0)]:=by
 refine ca Tryz.func234 rfl<|ac rfl (cH) ?_
 refine dD rfl (fun hc1=>?_) (fun hc1=>?_)
 ·exact absurd (FV hc1) h0
 ·refine ac rfl (Ej (aQ hc)) ?_
  refine dD rfl (fun hc2=>?_) (fun hc2=>?_)
  ·exact absurd hc2 (by rw[hs];decide)
  ·refine ac rfl (y6) ?_
   exact ah (aV dh rfl (az ae))
theorem M8 {u q:Rat}(hx:Rz 100 x) (hu:Rz 100 u) (hy:Rz 100 y) (hv:Rz 100 v) (hq:Rz 200 q) (h0:0<q) (_hb: ¬(u=0∧v=0)) (hs:jd q=true):Ok Tryz.prog 301 [dR x,dR u,dR y,dR v,dR q] [.a (aj (fS x u y v q))]:=by
 have nq: ¬q<0:=by grind
 refine ca Tryz.func301 rfl<|ac rfl (ws (hx.m_) (hu.m_) (hq.m_) nq hs)<|ac rfl (ws (hy.m_) (hv.m_) (hq.m_) nq hs)<|ac rfl (F3 (v':=0) (xl (dH (by decide)) (dH (by decide)) (fun e=>e.1 rfl)) rfl rfl rfl rfl (KC rfl rfl))<|ah ?_
 rw[show fS x u y v q=⟨x+u*rt q,0,y+v*rt q,0,0⟩ from by unfold fS;rw[hs];rfl]
 exact aV bv rfl ae
theorem Nr {u q:Rat}(hx:Rz 100 x) (hu:Rz 100 u) (hy:Rz 100 y) (hv:Rz 100 v) (hq:Rz 200 q) (h0:0<q) (hb: ¬(u=0∧v=0)) (hs:jd q=false):Ok Tryz.prog 301 [dR x,dR u,dR y,dR v,dR q] [.a (aj (fS x u y v q))]:=by
 have nq: ¬q<0:=by grind
 have hz: ∀w:Rat,Rz 6000000 (zc w q):=fun w=>il (hq.m_) (by decide)
 refine ca Tryz.func301 rfl<|ac rfl (wQ (hx.m_) (hu.m_) (hq.m_) nq hs)<|ac rfl (wQ (hy.m_) (hv.m_) (hq.m_) nq hs)<|ac rfl (F3 (v':=q) (xl (hz _) (hz _) (fun e=>e.2.2 (by rw[pe e.1,pe e.2.1]))) rfl rfl rfl rfl (YV hb))<|ah ?_
 rw[show fS x u y v q=⟨x,u,y,v,q⟩ from by unfold fS;rw[hs];rfl]
 exact aV bv rfl ae
theorem rM {u q:Rat}(hx:Rz 100 x) (hu:Rz 100 u) (hy:Rz 100 y) (hv:Rz 100 v) (hq:Rz 200 q) (h0:0<q) (hb: ¬(u=0∧v=0)):Ok Tryz.prog 301 [dR x,dR u,dR y,dR v,dR q] [.a (aj (fS x u y v q))]:=by
 cases hs:jd q with
 |true=>exact M8 hx hu hy hv hq h0 hb hs
 |false=>exact Nr hx hu hy hv hq h0 hb hs
theorem U9 (hk:GK k) (h0:0<k.q):Ok Tryz.prog 213 [.a (aX k)] [.a (aj (jS k)),.a (aj (jI k))]:=by
 have o1:Rz 6000000 (1:Rat):=n5.m_
 refine ca Tryz.func213 rfl<|ac rfl (gM (iY (by decide) (by decide)) (show((1:Int):Rat)=1 from rfl))<|ac rfl (gM (iY (by decide) (by decide)) (show((0:Int):Rat)=0 from rfl))<|cT 19 [] ?_
 refine aK rfl (dS o1) ?_
 refine aK rfl (rM (hk.x.m_) (n5.neg.m_) (hk.y.m_) (dH (by decide)) (hk.q.m_) h0 (fun e=>absurd e.1 (by decide))) ?_
 refine aK rfl (rM (hk.x.m_) (n5.m_) (hk.y.m_) (dH (by decide)) (hk.q.m_) h0 (fun e=>absurd e.1 (by decide))) ?_
 exact ah (aV bv rfl (aV bv rfl ae))
theorem U3 (hl:GL l):Ok Tryz.prog 263 [.a (gK l)] [dR (fa l)]:=by
 refine ca Tryz.func263 rfl<|cT 11 [] ?_
 refine aK rfl (gE (aQ (hl.a)) (aQ (hl.a))) ?_
 refine aK rfl (gE (aQ (hl.b)) (aQ (hl.b))) ?_
 refine aK rfl (sU (aQ (aO (hl.a) (hl.a))) (aQ (aO (hl.b) (hl.b)))) ?_
 exact ah (aV bF rfl ae)
theorem VP (hl:GL l) (hk:GK k):Ok Tryz.prog 265 [.a (gK l),dR k.x,dR k.y] [dR (nN l k.x k.y)]:=by
 refine ca Tryz.func265 rfl<|cT 12 [] ?_
 refine aK rfl (gE (aQ (hl.a)) (aQ (hk.x))) ?_
 refine aK rfl (gE (aQ (hl.b)) (aQ (hk.y))) ?_
 refine aK rfl (sU (aQ (aO (hl.a) (hk.x))) (aQ (aO (hl.b) (hk.y)))) ?_
 refine aK rfl (nk (aQ (gD (aO (hl.a) (hk.x)) (aO (hl.b) (hk.y)))) (aQ (hl.c))) ?_
 exact ah (aV bF rfl ae)
theorem Yh (hl:GL l) (hk:GK k):Ok Tryz.prog 262 [.a (gK l),.a (aX k)] [dR (mu l k)]:=by
 have v1:Rz 6000000 (nN l k.x k.y):=(pK hl hk).m_
 have n1:Rz 6000000 (fa l):=(nl hl).m_
 have n2:Rz 6000000 k.q:=hk.q.m_
 have n3:Rz 6000000 (fa l*k.q):=((nl hl).mul hk.q).m_
 have n4:Rz 6000000 (nN l k.x k.y*nN l k.x k.y):=((pK hl hk).mul (pK hl hk)).m_
 refine ca Tryz.func262 rfl<|ac rfl (VP hl hk)<|cT 9 [] ?_
 refine aK rfl (U3 hl) ?_
 refine aK rfl (gE (by first|assumption|exact dU (by assumption) (by decide)) (by first|assumption|exact dU (hk.q) (by decide))) ?_
 refine aK rfl (gE (by first|assumption|exact dU (by assumption) (by decide)) (by first|assumption|exact dU (by assumption) (by decide))) ?_
 refine aK rfl (nk (by first|assumption|exact dU (aO (by assumption) (hk.q)) (by decide)) (by first|assumption|exact dU (aO (by assumption) (by assumption)) (by decide))) ?_
 exact ah (aV bF rfl ae)
theorem VE {d:Ci}(hk:GK k) (hd:GK d):Ok Tryz.prog 142 [.a (aX k),.a (aX d)] [.c (.b (pM k d))]:=by
 refine ca Tryz.func142 rfl ?_
 refine ac rfl (jF (aQ (hk.x)) (aQ (hd.x))) ?_
 refine jT (bz rfl) (fun c1 hb1=>?_)
 cases c1
 ·refine ah ?_
  rw[show pM k d=false from by unfold pM wV;rw[hb1];rfl]
  exact az ae
 ·refine ac rfl (jF (aQ (hk.y)) (aQ (hd.y)))<|ah ?_
  rw[show pM k d=(aJ k.y d.y==0) from by unfold pM wV;rw[hb1];rfl]
  exact az ae
theorem Rp (ha1:Rz 200 a1) (hb1:Rz 200 b1) (ha2:Rz 200 a2) (hb2:Rz 200 b2) (hc:Rz 200 c) (hs:jd c=true):Ok Tryz.prog 257 [dR a1,dR b1,dR a2,dR b2,dR c] [.a (aj (fS a1 b1 a2 b2 c))]:=by
 have kt:Rz 6000000 (rt c):=hc.rt.m_
 have k1:Rz 6000000 (b1*rt c):=(hb1.mul hc.rt).m_
 have k2:Rz 6000000 (b2*rt c):=(hb2.mul hc.rt).m_
 refine ca Tryz.func257 rfl ?_
 refine ac rfl (sT (by first|assumption|exact dU hc (by decide))) ?_
 refine DW.mk<|aI rfl (fun hc1=>?_) (fun hc1=>?_)
 ·refine lj (σ':=⟨37,[(5,.p 5 0),(6,.p 6 0),(7,.p 7 0),(8,.p 8 0),(9,.p 9 0),(10,.p 10 0),(11,.p 11 0)],[(5,38,cR a1),(6,38,cR b1),(7,38,cR a2),(8,38,cR b2),(9,38,cR c),(10,47,zP),(11,38,cR (rt c))]⟩) (ao ⟨rfl,rfl,rfl,rfl,rfl,rfl,rfl,trivial⟩ ⟨rfl,rfl,rfl,rfl,rfl,rfl,by rw[←Cy hs];rfl,trivial⟩ rfl)<|no ?_
  refine cT 12 [] ?_
  refine aK rfl (gE (by first|assumption|exact dU hb1 (by decide)) (by first|assumption|exact dU (by assumption) (by decide))) ?_
  refine aK rfl (sU (by first|assumption|exact dU ha1 (by decide)) (by first|assumption|exact dU (aO hb1 (by assumption)) (by decide))) ?_
  refine aK rfl (gE (by first|assumption|exact dU hb2 (by decide)) (by first|assumption|exact dU (by assumption) (by decide))) ?_
  refine aK rfl (sU (by first|assumption|exact dU ha2 (by decide)) (by first|assumption|exact dU (aO hb2 (by assumption)) (by decide))) ?_
  refine aq (aM (us:=(cR (a1+(b1*(rt c)))++cR (a2+(b2*(rt c))))) IL G8 rfl rfl rfl) ?_
  refine aK rfl (Bq)<|ah ?_
  rw[show fS a1 b1 a2 b2 c=⟨a1+b1*rt c,0,a2+b2*rt c,0,0⟩ from by unfold fS;rw[hs];rfl]
  exact aV bv rfl ae
 ·exact absurd hc1 (by rw[hs];decide)
theorem RC (_ha1:Rz 200 a1) (_hb1:Rz 200 b1) (_ha2:Rz 200 a2) (_hb2:Rz 200 b2) (hc:Rz 200 c) (hs:jd c=false):Ok Tryz.prog 257 [dR a1,dR b1,dR a2,dR b2,dR c] [.a (aj (fS a1 b1 a2 b2 c))]:=by
 refine eH Tryz.func257 37 [.cell 10 47] rfl<|aa<|ag<|aa<|aa<|ag ?_
 refine ac rfl (sT (aQ hc))<|aa<|ag ?_
 refine aI rfl (fun hc1=>?_) (fun hc1=>?_)
 ·exact absurd hc1 (by rw[hs];decide)
 ·refine aA<|aa<|bg<|bK 5<|aR (aM (us:=(cR a1++cR b1++cR a2++cR b2++cR c)) Dn yY rfl rfl rfl) ?_
  refine ex<|aZ ?_
  rw[show fS a1 b1 a2 b2 c=⟨a1,b1,a2,b2,c⟩ from by unfold fS;rw[hs];rfl]
  exact ah (aV bv rfl ae)
theorem Kp (ha1:Rz 200 a1) (hb1:Rz 200 b1) (ha2:Rz 200 a2) (hb2:Rz 200 b2) (hc:Rz 200 c):Ok Tryz.prog 257 [dR a1,dR b1,dR a2,dR b2,dR c] [.a (aj (fS a1 b1 a2 b2 c))]:=by
 cases hs:jd c with
 |true=>exact Rp ha1 hb1 ha2 hb2 hc hs
 |false=>exact RC ha1 hb1 ha2 hb2 hc hs
theorem ab6 (hl:GL l) (hk:GK k):Ok Tryz.prog 144 [.a (gK l),.a (aX k)] [.c (.s ((jg l k).length) (aw aj (jg l k)))]:=by
 have h0:=hl.n
 have z1:Rz 6000000 (nN l k.x k.y):=(pK hl hk).m_
 have z2:Rz 6000000 (fa l):=(nl hl).m_
 have z3:Rz 6000000 (nN l k.x k.y/fa l):=(GI hl hk).m_
 have z4:Rz 6000000 (l.b/fa l):=(Gf hl).m_
 have z5:Rz 6000000 (-l.a/fa l):=(HC hl).m_
 have z6:Rz 6000000 l.a:=hl.a.m_
 have z7:Rz 6000000 l.b:=hl.b.m_
 have z8:Rz 6000000 (-l.a):=z6.neg
 have z9:Rz 6000000 (nN l k.x k.y/fa l*l.a):=((GI hl hk).mul hl.a).m_
 have zA:Rz 6000000 (nN l k.x k.y/fa l*l.b):=((GI hl hk).mul hl.b).m_
 have zB:Rz 6000000 k.x:=hk.x.m_
 have zC:Rz 6000000 k.y:=hk.y.m_
 refine ca Tryz.func144 rfl<|cT 7 [] ?_
 refine aK rfl (Yh hl hk) ?_
 refine aK rfl (U3 hl) ?_
 refine ac rfl (dj) ?_
 refine dD rfl (fun hc1=>?_) (fun hc1=>?_)
 ·refine ah ?_
  rw[OA hc1]
  exact az ae
 ·have g1: ¬aJ (mu l k) 0<0:=of_decide_eq_false hc1
  refine cT 9 [] ?_
  refine aK rfl (VP hl hk) ?_
  refine aK rfl (Cn (by first|assumption|exact dU (by assumption) (by decide)) (by first|assumption|exact dU (by assumption) (by decide)) (by assumption)) ?_
  refine cT 16 [] ?_
  refine aK rfl (gE (by first|assumption|exact dU (nu (by assumption) (by assumption) (by assumption)) (by decide)) (by first|assumption|exact dU (by assumption) (by decide))) ?_
  refine aK rfl (nk (by first|assumption|exact dU (by assumption) (by decide)) (by first|assumption|exact dU (aO (nu (by assumption) (by assumption) (by assumption)) (by assumption)) (by decide))) ?_
  refine aK rfl (gE (by first|assumption|exact dU (nu (by assumption) (by assumption) (by assumption)) (by decide)) (by first|assumption|exact dU (by assumption) (by decide))) ?_
  refine aK rfl (nk (by first|assumption|exact dU (by assumption) (by decide)) (by first|assumption|exact dU (aO (nu (by assumption) (by assumption) (by assumption)) (by assumption)) (by decide))) ?_
  refine ac rfl (dj) ?_
  refine dD rfl (fun hc2=>?_) (fun hc2=>?_)
  ·refine ar (aM (us:=(cR (k.x-(((nN l k.x k.y)/(fa l))*l.a))++cR (k.y-(((nN l k.x k.y)/(fa l))*l.b)))) IL G8 rfl rfl rfl) ?_
   refine ac rfl (Bq)<|ar (bX (n:=1) (us:=(cR (k.x-(((nN l k.x k.y)/(fa l))*l.a))++cR 0++cR (k.y-(((nN l k.x k.y)/(fa l))*l.b))++cR 0++cR 0)) dr rfl rfl rfl (by decide) (by decide) rfl) ?_
   refine ah ?_
   rw[OR hc1 hc2]
   exact az ae
  ·have g2: ¬aJ (mu l k) 0=0:=by simpa using hc2
   refine cT 11 [] ?_
   refine aK rfl (Cn (by first|assumption|exact dU (by assumption) (by decide)) (by first|assumption|exact dU (by assumption) (by decide)) (by assumption)) ?_
   refine aK rfl (yN (by first|assumption|exact dU (by assumption) (by decide))) ?_
   refine aK rfl (Cn (by first|assumption|exact dU (oC (by assumption)) (by decide)) (by first|assumption|exact dU (by assumption) (by decide)) (by assumption)) ?_
   refine cT 16 [] ?_
   refine aK rfl (yN (by first|assumption|exact dU (nu (by assumption) (by assumption) (by assumption)) (by decide))) ?_
   refine aK rfl (yN (by first|assumption|exact dU (nu (oC (by assumption)) (by assumption) (by assumption)) (by decide))) ?_
   refine aK rfl (Kp ((j8 hl hk).m_) ((Gf hl).neg.m_) ((jX hl hk).m_) ((HC hl).neg.m_) ((yq hl hk).m_)) ?_
   refine aK rfl (Kp ((j8 hl hk).m_) ((Gf hl).m_) ((jX hl hk).m_) ((HC hl).m_) ((yq hl hk).m_)) ?_
   refine ac rfl (Ax (Jl hl hk g1 g2) (I0 hl hk g1 g2)) ?_
   refine dD rfl (fun hc3=>?_) (fun hc3=>?_)
   ·refine ar (bX (n:=2) (us:=aj (Kb l k)++aj (J4 l k)) dr rfl rfl rfl (by decide) (by decide) rfl) ?_
    refine ah ?_
    rw[P8 hc1 hc2 hc3]
    exact az ae
   ·refine ar (bX (n:=2) (us:=aj (J4 l k)++aj (Kb l k)) dr rfl rfl rfl (by decide) (by decide) rfl) ?_
    refine ah ?_
    rw[PS hc1 hc2 hc3]
    exact az ae
theorem aay {d:Ci}(hk:GK k) (hd:GK d) (hn:pM k d=false):Ok Tryz.prog 143 [.a (aX k),.a (aX d)] [.a (gK (mQ k d)),.c (.i .i64 0)]:=by
 have zt:Rz 6000000 (2:Rat):=FQ.m_
 have f1:Rz 6000000 (B9 k):=(wn hk).m_
 have f2:Rz 6000000 (B9 d):=(wn hd).m_
 refine ca Tryz.func143 rfl<|ac rfl (ez (VE hk hd) hn)<|qQ rfl<|ac rfl (gM (eu (by decide) (by decide)) (show((2:Int):Rat)=2 from rfl))<|cT 15 [] ?_
 refine aK rfl (gE (aQ (hk.x)) (aQ (hk.x))) ?_
 refine aK rfl (gE (aQ (hk.y)) (aQ (hk.y))) ?_
 refine aK rfl (sU (aQ (aO (hk.x) (hk.x))) (aQ (aO (hk.y) (hk.y)))) ?_
 refine aK rfl (nk (aQ (gD (aO (hk.x) (hk.x)) (aO (hk.y) (hk.y)))) (aQ (hk.q)))<|cT 15 [] ?_
 refine aK rfl (gE (aQ (hd.x)) (aQ (hd.x))) ?_
 refine aK rfl (gE (aQ (hd.y)) (aQ (hd.y))) ?_
 refine aK rfl (sU (aQ (aO (hd.x) (hd.x))) (aQ (aO (hd.y) (hd.y)))) ?_
 refine aK rfl (nk (aQ (gD (aO (hd.x) (hd.x)) (aO (hd.y) (hd.y)))) (aQ (hd.q))) ?_
 refine cT 18 [] ?_
 refine aK rfl (nk (aQ (hd.x)) (aQ (hk.x))) ?_
 refine aK rfl (gE (Ix) (aQ (dd (hd.x) (hk.x)))) ?_
 refine aK rfl (nk (aQ (hd.y)) (aQ (hk.y))) ?_
 refine aK rfl (gE (Ix) (aQ (dd (hd.y) (hk.y)))) ?_
 refine aK rfl (nk (aQ (dd (gD (aO (hd.x) (hd.x)) (aO (hd.y) (hd.y))) (hd.q))) (aQ (dd (gD (aO (hk.x) (hk.x)) (aO (hk.y) (hk.y))) (hk.q)))) ?_
 refine aq (aM (us:=(cR (2*(d.x-k.x))++cR (2*(d.y-k.y))++cR ((((d.x*d.x)+(d.y*d.y))-d.q)-(((k.x*k.x)+(k.y*k.y))-k.q)))) WF R5 rfl rfl rfl) ?_
 exact ah (aV Nd rfl (az ae))
theorem J7 {d:Ci}(hk:GK k) (hd:GK d):Ok Tryz.prog 53 [.a (aX k),.a (aX d)] [.c (.s ((bG k d).length) (aw aj (bG k d))),.c (.i .i64 (CT k d))]:=by
 refine ca Tryz.func53 rfl ?_
 refine ac rfl (VE hk hd) ?_
 refine dD rfl (fun hc1=>?_) (fun hc1=>?_)
 ·refine ac rfl (jF (aQ (hk.q)) (aQ (hd.q))) ?_
  refine dD rfl (fun hc2=>?_) (fun hc2=>?_)
  ·refine ah ?_
   rw[(Pb hc1 hc2).1,(Pb hc1 hc2).2]
   exact az (az ae)
  ·refine ah ?_
   rw[(NZ hc1 hc2).1,(NZ hc1 hc2).2]
   exact az (az ae)
 ·refine ac rfl (aay hk hd hc1)<|ac rfl (ab6 (tK hk hd hc1) hk)<|ah ?_
  rw[(NF hc1).1,(NF hc1).2]
  exact az (az ae)
theorem ZJ {d:Ci}(hk:GK k) (hd:GK d):Ok Tryz.prog 22 [.a (aX k),.a (aX d)] [.c (.b (lq k d))]:=by
 refine ca Tryz.func22 rfl ?_
 refine ac rfl (jF (aQ (hk.x)) (aQ (hd.x))) ?_
 refine jT (bz rfl) (fun c1 hb1=>?_)
 cases c1
 ·refine ar (bz rfl)<|ah ?_
  rw[show lq k d=false from by unfold lq wV;rw[hb1];rfl]
  exact az ae
 ·refine ac rfl (jF (aQ (hk.y)) (aQ (hd.y))) ?_
  refine jT (bz rfl) (fun c2 hb2=>?_)
  cases c2
  ·refine ah ?_
   rw[show lq k d=false from by unfold lq wV;rw[hb1,hb2];rfl]
   exact az ae
  ·refine ac rfl (jF (aQ (hk.q)) (aQ (hd.q)))<|ah ?_
   rw[show lq k d=(aJ k.q d.q==0) from by unfold lq wV;rw[hb1,hb2];rfl]
   exact az ae
theorem aaS (hl:GL l) (hm:GL m):Ok Tryz.prog 153 [.a (gK l),.a (gK m)] [.c (.b (BM l m))]:=by
 refine ca Tryz.func153 rfl<|cT 41 [] ?_
 refine aK rfl (iE (aQ (hl.a)) (aQ (hm.b))) ?_
 refine aK rfl (iE (aQ (hl.b)) (aQ (hm.a))) ?_
 refine aK rfl (jF (aQ (aO (hl.a) (hm.b))) (aQ (aO (hl.b) (hm.a)))) ?_
 refine AF (bz rfl) (fun c1 hb1=>?_)
 cases c1
 ·refine aq (bz rfl)<|ah ?_
  rw[show BM l m=false from by unfold BM wV;rw[hb1];rfl]
  exact az ae
 ·refine aK rfl (iE (aQ (hl.a)) (aQ (hm.c))) ?_
  refine aK rfl (iE (aQ (hl.c)) (aQ (hm.a))) ?_
  refine aK rfl (jF (aQ (aO (hl.a) (hm.c))) (aQ (aO (hl.c) (hm.a)))) ?_
  refine AF (bz rfl) (fun c2 hb2=>?_)
  cases c2
  ·refine ah ?_
   rw[show BM l m=false from by unfold BM wV;rw[hb1,hb2];rfl]
   exact az ae
  ·refine aK rfl (iE (aQ (hl.b)) (aQ (hm.c))) ?_
   refine aK rfl (iE (aQ (hl.c)) (aQ (hm.b))) ?_
   refine aK rfl (jF (aQ (aO (hl.b) (hm.c))) (aQ (aO (hl.c) (hm.b))))<|ah ?_
   rw[show BM l m=(aJ (l.b*m.c) (l.c*m.b)==0) from by unfold BM wV;rw[hb1,hb2];rfl]
   exact az ae
theorem Pj (hl:GL l) {f:Pt}(_hf:GP f) (_ht:GP t) (hm:GL m) {v:Pt}(_hu:GP u) (_hv:GP v):Ok Tryz.prog 62 [.a (([.b false]++gK l++qR++[.b false]++aj f++aj t)),.a (([.b false]++gK m++qR++[.b false]++aj u++aj v))] [.c (.b (B5 (Cv.seg l f t) (Cv.seg m u v)))]:=by
 refine ca Tryz.func62 rfl ?_
 refine ar (gI kP rfl) ?_
 refine ar (gI kP rfl) ?_
 refine ar (gV rfl rfl gO rfl) ?_
 refine qQ rfl<|ar (gI kP rfl)<|qQ rfl<|ar (dg (gK l) Nd rfl (by kernel_rfl)) ?_
 refine ar (dg (gK m) Nd rfl (by kernel_rfl)) ?_
 refine ac rfl (aaS hl hm) ?_
 exact ah (az ae)
theorem Pq (_hl:GL l) {f:Pt}(_hf:GP f) (_ht:GP t) {d:Ci}(_hd:GK d) {v:Pt}(_hu:GP u) (_hv:GP v):Ok Tryz.prog 62 [.a (([.b false]++gK l++qR++[.b false]++aj f++aj t)),.a (([.b true]++np++aX d++[.b w2]++aj u++aj v))] [.c (.b (B5 (Cv.seg l f t) (Cv.arc d w2 u v)))]:=by
 refine ca Tryz.func62 rfl ?_
 refine ar (gI kP rfl) ?_
 refine ar (gI kP rfl) ?_
 refine ar (gV rfl rfl gO rfl) ?_
 refine tg rfl ?_
 exact ah (az ae)
theorem N0 (_hk:GK k) {f:Pt}(_hf:GP f) (_ht:GP t) (_hm:GL m) {v:Pt}(_hu:GP u) (_hv:GP v):Ok Tryz.prog 62 [.a (([.b true]++np++aX k++[.b w]++aj f++aj t)),.a (([.b false]++gK m++qR++[.b false]++aj u++aj v))] [.c (.b (B5 (Cv.arc k w f t) (Cv.seg m u v)))]:=by
 refine ca Tryz.func62 rfl ?_
 refine ar (gI kP rfl) ?_
 refine ar (gI kP rfl) ?_
 refine ar (gV rfl rfl gO rfl) ?_
 refine tg rfl ?_
 exact ah (az ae)
theorem P3 (hk:GK k) {f:Pt}(_hf:GP f) (_ht:GP t) {d:Ci}(hd:GK d) {v:Pt}(_hu:GP u) (_hv:GP v):Ok Tryz.prog 62 [.a (([.b true]++np++aX k++[.b w]++aj f++aj t)),.a (([.b true]++np++aX d++[.b w2]++aj u++aj v))] [.c (.b (B5 (Cv.arc k w f t) (Cv.arc d w2 u v)))]:=by
 refine ca Tryz.func62 rfl ?_
 refine ar (gI kP rfl) ?_
 refine ar (gI kP rfl) ?_
 refine ar (gV rfl rfl gO rfl) ?_
 refine qQ rfl<|ar (gI kP rfl)<|tg rfl ?_
 refine ar (dg (aX k) qV rfl (by kernel_rfl)) ?_
 refine ar (dg (aX d) qV rfl (by kernel_rfl)) ?_
 refine ac rfl (ZJ hk hd) ?_
 exact ah (az ae)
theorem YT {c:Cv}(hc:c.good) (hp:GP p) (hq:GP q):Ok Tryz.prog 78 [.a (aD c),.a (aj p),.a (aj q)] [.c (.i .i64 (c.ord p q))]:=by
 cases c with
 |seg l f t=>exact IP hc.1 hc.2.1 hc.2.2 hp hq
 |arc k w f t=>exact Ju hc.1 hc.2.1 hc.2.2 hp hq
theorem CI {c:Cv}(hc:c.good) (hp:GP p):Ok Tryz.prog 25 [.a (aD c),.a (aj p)] [.c (.b (c.on p))]:=by
 cases c with
 |seg l f t=>exact aap hc.1 hc.2.1 hc.2.2 hp
 |arc k w f t=>exact Zv hc.1 hc.2.1 hc.2.2 hp
theorem TZ {c:Cv}(hc:c.good) (hL: ∀p∈L,GP p) (lL:L.length≤100):Ok Tryz.prog 145 [.a (aD c),.c (.s ((L).length) (aw aj (L)))] [.c (.s ((cr c L).length) (aw aj (cr c L)))]:=by
 refine eH Tryz.func145 64 [.tmp 4] rfl<|aa<|ag<|aa<|ag<|aa<|aa<|ag<|aB<|bh (ι:={n:Nat // n≤L.length}) (fun i=>⟨64,[(1,.v (.c (.s ((L).length) (aw aj (L))))),(2,.p 2 0),(5,.v (.c (.s ((cr c (L.take i.1)).length) (aw aj (cr c (L.take i.1)))))),(6,.v (.c (.i .i64 (i.1:Int))))],[(2,49,aD c)]⟩) (fun i=>L.length-i.1) ⟨0,eK _⟩ (ao ⟨rfl,rfl,rfl,rfl,trivial⟩ ⟨rfl,trivial⟩ rfl) ?_
 rintro⟨n,h2⟩
 replace h2:n≤L.length:=h2
 dsimp only
 refine aa<|aa<|ag ?_
 refine aI rfl (fun hc1=>?_) (fun hc1=>?_)
 ·have g1:n<L.length:=by have:=of_decide_eq_true hc1;omega
  obtain⟨O,eO⟩: ∃O,cr c (L.take n)=O:=⟨_,rfl⟩
  have hO: ∀p∈O,GP p:=fun p hp=>hL p (BZ (mI (by rw[eO];exact hp)))
  have lO:O.length≤100:=by
   have:=Am (c:=c) (l:=L.take n)
   rw[eO,dE] at this;omega
  refine lj (σ':=⟨64,[(1,.v (.c (.s ((L).length) (aw aj (L))))),(2,.p 2 0),(5,.v (.c (.s ((O).length) (aw aj (O))))),(6,.v (.c (.i .i64 (n:Int))))],[(2,49,aD c)]⟩) (ao ⟨rfl,rfl,by rw[←eO];rfl,rfl,trivial⟩ ⟨rfl,trivial⟩ rfl) ?_
  refine aA<|aa<|aB<|aa<|ag<|aa<|aB<|bh (ι:={j:Nat // j≤O.length∧ ∀r,r<j→(c).ord (O.getD r dPt) (L.getD n dPt)<0}) (fun i=>⟨64,[(1,.v (.c (.s ((L).length) (aw aj (L))))),(2,.p 2 0),(5,.v (.c (.s ((O).length) (aw aj (O))))),(6,.v (.c (.i .i64 (n:Int)))),(7,.v (.c (.i .i64 (i.1:Int))))],[(2,49,aD c)]⟩) (fun i=>O.length-i.1) ⟨0,eK _,fun r h=>absurd h (Nat.not_lt_zero r)⟩ (ao ⟨rfl,rfl,rfl,rfl,rfl,trivial⟩ ⟨rfl,trivial⟩ rfl) ?_
  rintro⟨j,h3,h4⟩
  replace h3:j≤O.length:=h3
  replace h4: ∀r,r<j→(c).ord (O.getD r dPt) (L.getD n dPt)<0:=h4
  dsimp only
  refine aa<|aa<|dJ 17 [] ?_
  refine AF (bz rfl) (fun c2 hb2=>?_)
  cases c2
  ·have g2:O.length≤j:=by have:=of_decide_eq_false hb2;omega
   have hs:nD c (L.getD n dPt) O=j:=EB h3 h4 (.inl (by omega))
   have g4: ¬(j<O.length∧cP (O.getD j dPt) (L.getD n dPt)=0):=fun h=>by omega
   refine a8 rfl<|a7<|aa<|aa<|ln 15 rfl rfl<|dt 3<|bD (aP (c:=false) (dF rfl) (decide_eq_false (by omega))) ?_
   refine yo<|dk<|ba<|a8 rfl<|aA ?_
   rcases jo j with hj0|hj0
   ·refine ET 15 [10,14] dM (by kernel_rfl) rfl rfl<|gj rfl (j7 dr rfl) rfl ?_
    refine gj rfl (bz rfl) rfl<|gj rfl (bz rfl) rfl<|gj rfl (xX (n':=0) (us':=[]) (oI (j:=(j:Int)) (n:=(O).length) (xs:=aw aj (O)) (us:=aw aj (O.take j)) cA rfl rfl (by omega) (am ak _) (pZ ak _ _) rfl) (by omega) (by rw[hj0];rfl)) rfl ?_
    refine gj rfl (n6 dr rfl rfl rfl) rfl ?_
    refine gj rfl (bz rfl) rfl<|gj rfl (bz rfl) rfl<|gj rfl (eM dPt ak g1 cA rfl) rfl<|gj rfl (cg (us:=aj (L.getD n dPt)) bv rfl rfl rfl rfl) rfl ?_
    refine gj rfl (bX (n:=1) (us:=aj (L.getD n dPt)) dr rfl rfl rfl (by decide) (by decide) rfl) rfl ?_
    refine Dk rfl<|gj rfl (bz rfl) rfl<|gj rfl (bz rfl) rfl<|gj rfl (rg (j:=(j:Int)) (n:=(O).length) (xs:=aw aj (O)) (n':=O.length-j) (us:=aw aj (O.drop j)) cA rfl rfl (by omega) (am ak _) (by omega) (pW ak _ _) rfl) rfl ?_
    refine Dk rfl ?_
    refine GV (x0:=.tmp 52) (t1:=58) (y1:=.tmp 57) (t2:=62) (y2:=.tmp 61) (N':=O.length+1) (zs':=aw aj (O.take j++(L.getD n dPt)::O.drop j)) dr (by decide) rfl rfl rfl rfl rfl rfl (rfl) (by rw[am ak,fO]) (by kernel_rfl) (by kernel_rfl) (by decide) rfl rfl rfl rfl (by omega) (by rw[yl,hj0];rfl) (by omega) (iM (by omega)) (fun cg3 rg3 hga3 hgb3 hgc3=>?_)
    refine ex<|cB (t:=5) (m:=20) (us:=aw aj (O.take j++(L.getD n dPt)::O.drop j)) rfl rfl (jC (n:=O.length+1) (by rw[am ak,mg (by omega)]) (by assumption) (by omega)) (by omega) (by assumption) (gh (by rw[am ak,mg (by omega)]))<|bg<|bK 1<|aR (cb (by omega) rfl)<|ex ?_
    exact⟨⟨n+1,g1⟩,ao ⟨rfl,rfl,by rw[sZ g1,eO,yu hs g4,mg h3];rfl,rfl,trivial⟩ ⟨rfl,trivial⟩ rfl,by show L.length-(n+1)<L.length-n;omega⟩
   ·refine ET 15 [4,10,14] dM (by kernel_rfl) rfl rfl<|gj rfl (j7 dr rfl) rfl ?_
    refine gj rfl (bz rfl) rfl<|gj rfl (bz rfl) rfl<|gj rfl ((oI (j:=(j:Int)) (n:=(O).length) (xs:=aw aj (O)) (us:=aw aj (O.take j)) cA rfl rfl (by omega) (am ak _) (pZ ak _ _) rfl)) rfl ?_
    refine Dk rfl<|gj rfl (bz rfl) rfl<|gj rfl (bz rfl) rfl<|gj rfl (eM dPt ak g1 cA rfl) rfl<|gj rfl (cg (us:=aj (L.getD n dPt)) bv rfl rfl rfl rfl) rfl ?_
    refine gj rfl (bX (n:=1) (us:=aj (L.getD n dPt)) dr rfl rfl rfl (by decide) (by decide) rfl) rfl ?_
    refine Dk rfl<|gj rfl (bz rfl) rfl<|gj rfl (bz rfl) rfl<|gj rfl (rg (j:=(j:Int)) (n:=(O).length) (xs:=aw aj (O)) (n':=O.length-j) (us:=aw aj (O.drop j)) cA rfl rfl (by omega) (am ak _) (by omega) (pW ak _ _) rfl) rfl ?_
    refine Dk rfl ?_
    refine GD (x0:=.tmp 48) (t1:=52) (y1:=.tmp 51) (t2:=58) (y2:=.tmp 57) (t3:=62) (y3:=.tmp 61) (N':=O.length+1) (zs':=aw aj (O.take j++(L.getD n dPt)::O.drop j)) dr (by decide) rfl rfl rfl rfl rfl rfl rfl rfl (by rw[am ak,dE,ij h3];rfl) (rfl) (by rw[am ak,fO]) (by kernel_rfl) (by kernel_rfl) (hj0) rfl rfl rfl rfl rfl rfl (by omega) (yl.symm) (by omega) (iM (by omega)) (fun cg4 rg4 hga4 hgb4 hgc4=>?_)
    refine ex<|cB (t:=5) (m:=20) (us:=aw aj (O.take j++(L.getD n dPt)::O.drop j)) rfl rfl (jC (n:=O.length+1) (by rw[am ak,mg (by omega)]) (by assumption) (by omega)) (by omega) (by assumption) (gh (by rw[am ak,mg (by omega)]))<|ag<|ar (cb (by omega) rfl) ?_
    exact⟨⟨n+1,g1⟩,ao ⟨rfl,rfl,by rw[sZ g1,eO,yu hs g4,mg h3];rfl,rfl,trivial⟩ ⟨rfl,trivial⟩ rfl,by show L.length-(n+1)<L.length-n;omega⟩
  ·have g2:j<O.length:=by have:=of_decide_eq_true hb2;omega
   refine aq (j9 (ai _) bW rfl)<|aq (eM dPt ak g2 cA rfl)<|aq (cg (us:=aj (O.getD j dPt)) bv rfl rfl rfl rfl) ?_
   refine aq (eM dPt ak g1 cA rfl)<|aq (cg (us:=aj (L.getD n dPt)) bv rfl rfl rfl rfl) ?_
   refine aK rfl (YT hc (GP.getD hO j) (GP.getD hL n)) ?_
   refine aI rfl (fun hc5=>?_) (fun hc5=>?_)
   ·have g3:(c).ord (O.getD j dPt) (L.getD n dPt)<0:=of_decide_eq_true hc5
    refine aA<|aB<|ag<|ar (cb (by omega) rfl) ?_
    exact⟨⟨j+1,g2,fun r hr=>(Nat.lt_succ_iff_lt_or_eq.1 hr).elim (h4 r) (fun e=>by rw[e];exact g3)⟩,ao ⟨rfl,rfl,rfl,rfl,rfl,trivial⟩ ⟨rfl,trivial⟩ rfl,by show O.length-(j+1)<O.length-j;omega⟩
   ·have g3: ¬(c).ord (O.getD j dPt) (L.getD n dPt)<0:=of_decide_eq_false hc5
    have hs:nD c (L.getD n dPt) O=j:=EB h3 h4 (.inr g3)
    refine a7<|aa<|aa<|ln 15 rfl rfl<|dt 3<|bD (aP (c:=true) (dF rfl) (decide_eq_true (by omega))) ?_
    refine dt 3<|bD (eM dPt ak g2 cA rfl)<|bD (cg (us:=aj (O.getD j dPt)) bv rfl rfl rfl rfl) ?_
    refine dt 2<|bD (eM dPt ak g1 cA rfl)<|bD (cg (us:=aj (L.getD n dPt)) bv rfl rfl rfl rfl) ?_
    refine bD (cj rfl (BO (GP.getD hO j) (GP.getD hL n)))<|yo<|dk<|ba ?_
    refine aI rfl (fun hc6=>?_) (fun hc6=>?_)
    ·have g4:cP (O.getD j dPt) (L.getD n dPt)=0:=by simpa using hc6
     refine a7<|ag<|ar (cb (by omega) rfl) ?_
     exact⟨⟨n+1,g1⟩,ao ⟨rfl,rfl,by rw[sZ g1,eO,Tl hs g2 g4];rfl,rfl,trivial⟩ ⟨rfl,trivial⟩ rfl,by show L.length-(n+1)<L.length-n;omega⟩
    ·have g5:cP (O.getD j dPt) (L.getD n dPt)≠0:=by simpa using hc6
     have g4: ¬(j<O.length∧cP (O.getD j dPt) (L.getD n dPt)=0):=fun h=>g5 h.2
     refine aA ?_
     rcases jo j with hj0|hj0
     ·refine ET 15 [10,14] dM (by kernel_rfl) rfl rfl<|gj rfl (j7 dr rfl) rfl ?_
      refine gj rfl (bz rfl) rfl<|gj rfl (bz rfl) rfl<|gj rfl (xX (n':=0) (us':=[]) (oI (j:=(j:Int)) (n:=(O).length) (xs:=aw aj (O)) (us:=aw aj (O.take j)) cA rfl rfl (by omega) (am ak _) (pZ ak _ _) rfl) (by omega) (by rw[hj0];rfl)) rfl ?_
      refine gj rfl (n6 dr rfl rfl rfl) rfl ?_
      refine gj rfl (bz rfl) rfl<|gj rfl (bz rfl) rfl<|gj rfl (eM dPt ak g1 cA rfl) rfl<|gj rfl (cg (us:=aj (L.getD n dPt)) bv rfl rfl rfl rfl) rfl ?_
      refine gj rfl (bX (n:=1) (us:=aj (L.getD n dPt)) dr rfl rfl rfl (by decide) (by decide) rfl) rfl ?_
      refine Dk rfl<|gj rfl (bz rfl) rfl<|gj rfl (bz rfl) rfl<|gj rfl (rg (j:=(j:Int)) (n:=(O).length) (xs:=aw aj (O)) (n':=O.length-j) (us:=aw aj (O.drop j)) cA rfl rfl (by omega) (am ak _) (by omega) (pW ak _ _) rfl) rfl ?_
      refine Dk rfl ?_
      refine GV (x0:=.tmp 52) (t1:=58) (y1:=.tmp 57) (t2:=62) (y2:=.tmp 61) (N':=O.length+1) (zs':=aw aj (O.take j++(L.getD n dPt)::O.drop j)) dr (by decide) rfl rfl rfl rfl rfl rfl (rfl) (by rw[am ak,fO]) (by kernel_rfl) (by kernel_rfl) (by decide) rfl rfl rfl rfl (by omega) (by rw[yl,hj0];rfl) (by omega) (iM (by omega)) (fun cg7 rg7 hga7 hgb7 hgc7=>?_)
      refine ex<|cB (t:=5) (m:=20) (us:=aw aj (O.take j++(L.getD n dPt)::O.drop j)) rfl rfl (jC (n:=O.length+1) (by rw[am ak,mg (by omega)]) (by assumption) (by omega)) (by omega) (by assumption) (gh (by rw[am ak,mg (by omega)]))<|bg<|bK 1<|aR (cb (by omega) rfl)<|ex ?_
      exact⟨⟨n+1,g1⟩,ao ⟨rfl,rfl,by rw[sZ g1,eO,yu hs g4,mg h3];rfl,rfl,trivial⟩ ⟨rfl,trivial⟩ rfl,by show L.length-(n+1)<L.length-n;omega⟩
     ·refine ET 15 [4,10,14] dM (by kernel_rfl) rfl rfl<|gj rfl (j7 dr rfl) rfl ?_
      refine gj rfl (bz rfl) rfl<|gj rfl (bz rfl) rfl<|gj rfl ((oI (j:=(j:Int)) (n:=(O).length) (xs:=aw aj (O)) (us:=aw aj (O.take j)) cA rfl rfl (by omega) (am ak _) (pZ ak _ _) rfl)) rfl ?_
      refine Dk rfl<|gj rfl (bz rfl) rfl<|gj rfl (bz rfl) rfl<|gj rfl (eM dPt ak g1 cA rfl) rfl<|gj rfl (cg (us:=aj (L.getD n dPt)) bv rfl rfl rfl rfl) rfl ?_
      refine gj rfl (bX (n:=1) (us:=aj (L.getD n dPt)) dr rfl rfl rfl (by decide) (by decide) rfl) rfl ?_
      refine Dk rfl<|gj rfl (bz rfl) rfl<|gj rfl (bz rfl) rfl<|gj rfl (rg (j:=(j:Int)) (n:=(O).length) (xs:=aw aj (O)) (n':=O.length-j) (us:=aw aj (O.drop j)) cA rfl rfl (by omega) (am ak _) (by omega) (pW ak _ _) rfl) rfl ?_
      refine Dk rfl ?_
      refine GD (x0:=.tmp 48) (t1:=52) (y1:=.tmp 51) (t2:=58) (y2:=.tmp 57) (t3:=62) (y3:=.tmp 61) (N':=O.length+1) (zs':=aw aj (O.take j++(L.getD n dPt)::O.drop j)) dr (by decide) rfl rfl rfl rfl rfl rfl rfl rfl (by rw[am ak,dE,ij h3];rfl) (rfl) (by rw[am ak,fO]) (by kernel_rfl) (by kernel_rfl) (hj0) rfl rfl rfl rfl rfl rfl (by omega) (yl.symm) (by omega) (iM (by omega)) (fun cg8 rg8 hga8 hgb8 hgc8=>?_)
      refine ex<|cB (t:=5) (m:=20) (us:=aw aj (O.take j++(L.getD n dPt)::O.drop j)) rfl rfl (jC (n:=O.length+1) (by rw[am ak,mg (by omega)]) (by assumption) (by omega)) (by omega) (by assumption) (gh (by rw[am ak,mg (by omega)]))<|ag<|ar (cb (by omega) rfl) ?_
      exact⟨⟨n+1,g1⟩,ao ⟨rfl,rfl,by rw[sZ g1,eO,yu hs g4,mg h3];rfl,rfl,trivial⟩ ⟨rfl,trivial⟩ rfl,by show L.length-(n+1)<L.length-n;omega⟩
 ·have hi:L.length≤n:=by have:=of_decide_eq_false hc1;omega
  refine a7<|aa<|ag<|aZ ?_
  rw[←Ng (c:=c) (l:=L) hi]
  exact ah (az ae)
theorem Gl {c:Cv}(hc:c.good) (hL: ∀p∈L,GP p) (lL:L.length≤90) (hon: ∀p∈L,(c).on p=true) (h2S:2≤(cr c ([c.p,c.q]++L)).length):Ok Tryz.prog 54 [.a (aD c),.c (.s ((L).length) (aw aj (L)))] [.c (.s ((je c L).length) (aw aD (je c L))),.c (.i .i64 0)]:=by
 have gp_:=iq hc
 have gq_:=o7 hc
 have hL2: ∀p∈ [c.p,c.q]++L,GP p:=fun p hp=>by
  rcases mW.1 hp with h|h
  ·simp only[dA,qF,or_false] at h
   rcases h with h|h<;>subst h<;>assumption
  ·exact hL p h
 have lS:(cr c ([c.p,c.q]++L)).length≤92:=by
  have:=Am (c:=c) (l:=[c.p,c.q]++L)
  rw[dm] at this
  exact iK this (by show 2+L.length≤92;omega)
 refine eH Tryz.func54 56 [.tmp 4,.tmp 5] rfl<|aa<|bg<|ex<|aa<|aa<|bg<|ex<|aB<|bh (ι:={n:Nat // n≤L.length}) (fun i=>⟨56,[(1,.v (.c (.s ((L).length) (aw aj (L))))),(2,.p 2 0),(6,.v (.c (.i .i64 (i.1:Int))))],[(2,49,aD c)]⟩) (fun i=>L.length-i.1) ⟨0,eK _⟩ (ao ⟨rfl,rfl,rfl,trivial⟩ ⟨rfl,trivial⟩ rfl) ?_
 rintro⟨n,h2⟩
 replace h2:n≤L.length:=h2
 show Dw _ _ ⟨56,[(1,.v (.c (.s ((L).length) (aw aj (L))))),(2,.p 2 0),(6,.v (.c (.i .i64 (n:Int))))],[(2,49,aD c)]⟩ _
 refine aa<|aa<|bg<|ex ?_
 refine aI rfl (fun hc1=>?_) (fun hc1=>?_)
 ·have g1:n<L.length:=by have:=of_decide_eq_true hc1;omega
  refine aA<|aa<|aB<|aa<|ln 7 rfl rfl<|bD (j9 (ai _) bW rfl)<|dt 2<|bD (eM dPt ak g1 cA rfl)<|bD (cg (us:=aj (L.getD n dPt)) bv rfl rfl rfl rfl) ?_
  refine bD (cj rfl (ez (CI hc (GP.getD hL n)) (hon _ (bj g1))))<|yo<|dk<|ba<|a8 rfl<|aA<|bg<|bK 1<|aR (cb (by omega) rfl)<|ex ?_
  exact⟨⟨n+1,g1⟩,ao ⟨rfl,rfl,rfl,trivial⟩ ⟨rfl,trivial⟩ rfl,by show L.length-(n+1)<L.length-n;omega⟩
 ·refine a7<|aa<|ln 10 rfl rfl<|bD (j9 (ai _) bW rfl)<|dt 1<|bD (bZ (us:=aj c.p) bv rfl rfl (lr _) rfl rfl) ?_
  refine dt 1<|bD (bZ (us:=aj c.q) bv rfl rfl (qt _) rfl rfl) ?_
  refine bD (tZ (us:=aj c.p++aj c.q) dr rfl rfl rfl (by decide) (by decide) rfl) ?_
  refine dt 1<|bD (xX (n':=([c.p,c.q]++L).length) (us':=aw aj ([c.p,c.q]++L)) (Fz dr rfl rfl rfl (am ak _) (by decide) (by decide) (by omega) (iM (by omega)) rfl) (by rw[dm];rfl) (by rw[dB];rfl)) ?_
  refine bD (cj rfl (TZ hc hL2 (by rw[dm];show 2+L.length≤100;omega)))<|yo<|dk<|ba<|aa<|bg<|aR (ed rfl) ?_
  refine ba<|aa<|aa<|bg<|ex<|aB ?_
  refine BL (ι:={x9:Nat×Nat×List CellD // x9.1+2≤(cr c ([c.p,c.q]++L)).length∧x9.1+1≤x9.2.1∧x9.2.1≤maxLen∧x9.2.2.length=(x9.2.1-(x9.1+1))*66}) (fun i=>⟨56,[(2,.p 2 0),(7,.v (.c (.s (((cr c ([c.p,c.q]++L))).length) (aw aj ((cr c ([c.p,c.q]++L))))))),(8,.o 54 (i.1.1+1) i.1.2.1),(9,.v (.c (.i .i64 (((i.1.1+2:Nat):Int)))))],[(2,49,aD c),(54,49,aw aD (gC c ((cr c ([c.p,c.q]++L)).take (i.1.1+2)))++i.1.2.2)]⟩) (fun i=>(cr c ([c.p,c.q]++L)).length-i.1.1) ((cr c ([c.p,c.q]++L)).length+1) ?_ ?_
  ·refine aa<|aa<|bg<|bK 3<|aR (aP (c:=true) (dF rfl) (decide_eq_true (by omega))) ?_
   refine ba<|df rfl<|aA<|aa<|aB<|aa<|bg<|aR (j9 (ai _) bW rfl)<|tO (jG EV rfl) rfl<|f8 (de bW rfl rfl rfl (ai _) rfl rfl) ?_
   refine ba<|aa<|pJ 11 [10,999999] dM (by kernel_rfl) rfl rfl<|dt 2<|bD (iU (r:=0) rfl rfl rfl rfl) ?_
   refine bD (bH (us:=aj ((cr c ([c.p,c.q]++L)).getD 0 dPt)++aw aj ((cr c ([c.p,c.q]++L)).drop (0+1))) cA rfl rfl (by omega) (am ak _) (jf ak (ew (by omega))) rfl) ?_
   refine bD (cg (us:=aj ((((cr c ([c.p,c.q]++L)).getD 0 dPt)))) bv rfl rfl rfl rfl) ?_
   refine dt 2<|bD (bH (us:=aj ((cr c ([c.p,c.q]++L)).getD 1 dPt)++aw aj ((cr c ([c.p,c.q]++L)).drop (1+1))) cA rfl rfl (by omega) (am ak _) (jf ak (ew (by omega))) rfl) ?_
   refine bD (cg (us:=aj ((((cr c ([c.p,c.q]++L)).getD 1 dPt)))) bv rfl rfl rfl rfl) ?_
   refine dt 1<|jb (bd (us:=aD (c.setp ((((cr c ([c.p,c.q]++L)).getD 0 dPt))))) bv rfl rfl rfl rfl (by rw[ai];decide) (wl _ _) rfl) rfl rfl rfl rfl ?_
   refine jY<|sE<|bK 1<|f8 (bd (us:=aD (c.ends ((((cr c ([c.p,c.q]++L)).getD 0 dPt))) ((((cr c ([c.p,c.q]++L)).getD 1 dPt))))) bv rfl rfl rfl rfl (by rw[ai];decide) (Ai _ _ _) rfl) ?_
   refine ba<|bg<|bK 1<|aR (j9 (ai _) bW rfl)<|aR (bX (n:=1) (us:=aD (c.ends ((((cr c ([c.p,c.q]++L)).getD 0 dPt))) ((((cr c ([c.p,c.q]++L)).getD 1 dPt))))) lT rfl (uV rfl (ai _)) (d8 (ai _)) (by decide) (by decide) rfl) ?_
   refine lW (ys:=aD (c.ends ((((cr c ([c.p,c.q]++L)).getD 0 dPt))) ((((cr c ([c.p,c.q]++L)).getD 1 dPt))))) lT rfl rfl (d8 (ai _)) (by decide) (by decide) (by decide) rfl rfl (fun cg2 rg2 hga2 hgb2 hgc2=>?_)
   refine ex<|bg<|bK 1<|aR (iU (r:=2) rfl rfl rfl rfl) ?_
   refine ex ?_
   exact⟨⟨⟨0,cg2,rg2⟩,by omega,by omega,hgb2,hgc2⟩,ao ⟨rfl,rfl,rfl,rfl,trivial⟩ ⟨rfl,by rw[zF (i:=0) _ (by omega),MP,nI,dV];rfl,trivial⟩ rfl,by show(cr c ([c.p,c.q]++L)).length-0<(cr c ([c.p,c.q]++L)).length+1;omega⟩
  ·rintro⟨⟨n,cp,rs⟩,h3,h4,h5,h6⟩
   dsimp only at h3 h4 h5 h6
   show Dw _ _ ⟨56,[(2,.p 2 0),(7,.v (.c (.s (((cr c ([c.p,c.q]++L))).length) (aw aj ((cr c ([c.p,c.q]++L))))))),(8,.o 54 (n+1) cp),(9,.v (.c (.i .i64 (((n+2:Nat):Int)))))],[(2,49,aD c),(54,49,aw aD (gC c ((cr c ([c.p,c.q]++L)).take (n+2)))++rs)]⟩ _
   refine aa<|aa<|bg<|ex ?_
   refine aI rfl (fun hc3=>?_) (fun hc3=>?_)
   ·have g2:n+2<(cr c ([c.p,c.q]++L)).length:=by have:=of_decide_eq_true hc3;omega
    refine aA<|aa<|aB<|aa<|bg<|aR (j9 (ai _) bW rfl)<|tO (jG EV rfl) rfl<|f8 (de bW rfl rfl rfl (ai _) rfl rfl) ?_
    refine ba<|aa<|pJ 11 [10,999999] dM (by kernel_rfl) rfl rfl<|dt 2<|bD (ci (((n+1:Nat):Int)) ((bO (by omega) (by omega)).trans (congrArg some (by omega))) rfl)<|bD (bH (us:=aj ((cr c ([c.p,c.q]++L)).getD (n+1) dPt)++aw aj ((cr c ([c.p,c.q]++L)).drop ((n+1)+1))) cA rfl rfl (by omega) (am ak _) (jf ak (ew (by omega))) rfl) ?_
    refine bD (cg (us:=aj ((((cr c ([c.p,c.q]++L)).getD (n+1) dPt)))) bv rfl rfl rfl rfl) ?_
    refine dt 2<|bD (bH (us:=aj ((cr c ([c.p,c.q]++L)).getD (n+2) dPt)++aw aj ((cr c ([c.p,c.q]++L)).drop ((n+2)+1))) cA rfl rfl (by omega) (am ak _) (jf ak (ew (by omega))) rfl) ?_
    refine bD (cg (us:=aj ((((cr c ([c.p,c.q]++L)).getD (n+2) dPt)))) bv rfl rfl rfl rfl) ?_
    refine dt 1<|jb (bd (us:=aD (c.setp ((((cr c ([c.p,c.q]++L)).getD (n+1) dPt))))) bv rfl rfl rfl rfl (by rw[ai];decide) (wl _ _) rfl) rfl rfl rfl rfl ?_
    refine jY<|sE<|bK 1<|f8 (bd (us:=aD (c.ends ((((cr c ([c.p,c.q]++L)).getD (n+1) dPt))) ((((cr c ([c.p,c.q]++L)).getD (n+2) dPt))))) bv rfl rfl rfl rfl (by rw[ai];decide) (Ai _ _ _) rfl) ?_
    refine ba<|bg<|bK 1<|aR (j9 (ai _) bW rfl)<|aR (bX (n:=1) (us:=aD (c.ends ((((cr c ([c.p,c.q]++L)).getD (n+1) dPt))) ((((cr c ([c.p,c.q]++L)).getD (n+2) dPt))))) lT rfl (uV rfl (ai _)) (d8 (ai _)) (by decide) (by decide) rfl) ?_
    refine l6 (us:=aw aD (gC c ((cr c ([c.p,c.q]++L)).take (n+2)))) (rest:=rs) (ys:=aD (c.ends ((((cr c ([c.p,c.q]++L)).getD (n+1) dPt))) ((((cr c ([c.p,c.q]++L)).getD (n+2) dPt))))) lT rfl rfl rfl (by rw[am ai,iW,dE,ij (by omega)];rfl) (by assumption) (d8 (ai _)) (by decide) (by omega) (by assumption) (by omega) (iM (by omega)) (.inl rfl) rfl (fun cg4 rg4 hga4 hgb4 hgc4=>?_)
    refine ex<|bg<|bK 1<|aR (ci (((n+1+2:Nat):Int)) ((bk (by omega) (by omega)).trans (congrArg some (by omega))) rfl)<|ex ?_
    exact⟨⟨⟨n+1,cg4,rg4⟩,by omega,by omega,hgb4,hgc4⟩,ao ⟨rfl,rfl,rfl,rfl,trivial⟩ ⟨rfl,by rw[zF (i:=n+1) _ (by omega),dB,dV];rfl,trivial⟩ rfl,by show(cr c ([c.p,c.q]++L)).length-(n+1)<(cr c ([c.p,c.q]++L)).length-n;omega⟩
   ·have g2:n+2=(cr c ([c.p,c.q]++L)).length:=by have:=of_decide_eq_false hc3;omega
    refine a7<|aa<|bg<|ex<|cB (t:=4) (m:=66) (us:=aw aD (gC c ((cr c ([c.p,c.q]++L)).take (n+2)))) rfl rfl (jC (n:=n+1) (by rw[am ai,iW,dE,ij (by omega)];rfl) (by assumption) (by omega)) (by omega) (by assumption) (gh (by rw[am ai,iW,dE,ij (by omega)];rfl))<|aZ ?_
    rw[show je c L=gC c ((cr c ([c.p,c.q]++L)).take (n+2)) from by rw[g2,lJ];rfl,show(gC c ((cr c ([c.p,c.q]++L)).take (n+2))).length=n+1 from by rw[iW,dE,ij (by omega)];rfl]
    exact ah (az (az ae))
theorem Ui {c d:Cv}(hc:c.good) (hd:d.good):Ok Tryz.prog 62 [.a (aD c),.a (aD d)] [.c (.b (B5 c d))]:=by
 cases c with
 |seg l f t=>
  cases d with
  |seg m u v=>exact Pj hc.1 hc.2.1 hc.2.2 hd.1 hd.2.1 hd.2.2
  |arc d w2 u v=>exact Pq hc.1 hc.2.1 hc.2.2 hd.1 hd.2.1 hd.2.2
 |arc k w f t=>
  cases d with
  |seg m u v=>exact N0 hc.1 hc.2.1 hc.2.2 hd.1 hd.2.1 hd.2.2
  |arc d w2 u v=>exact P3 hc.1 hc.2.1 hc.2.2 hd.1 hd.2.1 hd.2.2
theorem aac (hk:GK k):Ok Tryz.prog 141 [.a (aX k)] [.a (aj (jS k)),.a (aj (jI k))]:=by
 have o1:Rz 6000000 (1:Rat):=n5.m_
 refine ca Tryz.func141 rfl<|ac rfl (gM (eu (by decide) (by decide)) (show((1:Int):Rat)=1 from rfl))<|ac rfl (gM (eu (by decide) (by decide)) (show((0:Int):Rat)=0 from rfl))<|cT 19 [] ?_
 refine aK rfl (yN o1) ?_
 refine aK rfl (Kp (hk.x.m_) (n5.neg.m_) (hk.y.m_) (dH (by decide)) (hk.q.m_)) ?_
 refine aK rfl (Kp (hk.x.m_) (n5.m_) (hk.y.m_) (dH (by decide)) (hk.q.m_)) ?_
 exact ah (aV bv rfl (aV bv rfl ae))
theorem T7 (hk:GK k):Ok Tryz.prog 52 [.a (aX k)] [.c (.s 2 (aw (Rr qR) (ap k)))]:=by
 refine eH Tryz.func52 19 [.tmp 2] rfl<|aa<|ag<|aa<|ag ?_
 refine ac rfl (aac hk)<|aa<|bg<|bK 3 ?_
 refine aR (aM (us:=([.b true]++qR++aX k++[.b false]++aj (jS k)++aj (jI k))) Un EV rfl rfl rfl) ?_
 refine bK 3<|aR (aM (us:=([.b true]++qR++aX k++[.b false]++aj (jI k)++aj (jS k))) Un EV rfl rfl rfl) ?_
 refine aR (bX (n:=2) (us:=([.b true]++qR++aX k++[.b false]++aj (jS k)++aj (jI k))++([.b true]++qR++aX k++[.b false]++aj (jI k)++aj (jS k))) lT rfl (by kernel_rfl) (by kernel_rfl) (by decide) (by decide) rfl) ?_
 refine ex<|aZ ?_
 exact ah (az ae)
theorem YA (hk:GK k):Ok Tryz.prog 52 [.a (aX k)] [.c (.s ((ap k).length) (aw aD (ap k)))]:=(T7 hk).wks ((wkA rfl _ _ _ _).app ((wkA rfl _ _ _ _).app .nil))
end Go.Proofs.YtegpmhlfjkhjmaaGreat
