/-Data:a slice of nothing,slices from a place on,chains of two and three appends. -/
import Derived.Test.YtegpmhlfjkhjmaaGreatYgK
import Derived.Laws.StructEq
namespace Go.Proofs.YtegpmhlfjkhjmaaGreat
open Go Go.RowKit
variable {w:Bool}{k:Ci}{a n s:Int}{us ys zs:List CellD}{ds rs:List D0}{l:Ln}{by_:Nat}{P:Program}{f p q t:Pt}{a1 a2 b b1 b2 c d m v x y:Rat}{U e:TypeId}
variable {ty:TypeId}{pos:String}{af:Array Edge}{g:Option (Nat×Bool)}{dst:Option Nat}
theorem no:type_of% @Rat.div_mul_cancel:=@Rat.div_mul_cancel
theorem rQ:type_of% @Rat.mul_le_mul_of_nonneg_right:=@Rat.mul_le_mul_of_nonneg_right
section
variable {P:Program}{ops:Array Oper}{T:TF}{B:BF}
theorem Co {m:Nat}
 (hU:xG P U=some (e,m,by_,zs)) (hg:gd ops ⟨dst,.buildSlice U 0 #[],ty,pos,af,g⟩ T=some true):Sem P ops ⟨dst,.buildSlice U 0 #[],ty,pos,af,g⟩ T B (.r (.f 0 [])):=by
 refine⟨qo rfl,fun V β a w hs=>⟨d9 hs hg,?_⟩⟩
 obtain⟨hu,i,z,hi,hz,hsz,hby,hzl,hzr⟩:=jj hU
 have hexec:(execOp a.eval ⟨dst,.buildSlice U 0 #[],ty,pos,af,g⟩).run P w=.ok (.value (.slice (some ⟨w.heap.size,0,none⟩) 0 0)) (w.alloc (.cells #[] e)):=by
  have hso: ∀w,(sizeOf e).run P w=.ok i.size w:=fun w=>by unfold sizeOf typeInfo;simp[program,Sem.run,hi]
  simp[execOp,Instr.buildSlice,run_underlying hu,hso,Instr.fill,newRow]
  grind
 unfold Gives
 rw[hexec]
 exact⟨⟨⟨_,rfl⟩,.s0 _ _ (by decide)⟩,(cU _ w).alloc (cj _) _⟩
theorem CC {x y:Operand}{m:Nat}
 (hU:xG P U=some (e,m,by_,zs)) (hx:cO T x=some (.f 0 us)) (hy:cO T y=some (.v (.c (.s 0 ys))))
 (hg:gd ops ⟨dst,.call ⟨.builtin .append,#[x,y],#[U,U]⟩,ty,pos,af,g⟩ T=some true):
 Sem P ops ⟨dst,.call ⟨.builtin .append,#[x,y],#[U,U]⟩,ty,pos,af,g⟩ T B (.r (.f 0 us)):=by
 refine⟨qo rfl,fun V β a w hs=>⟨d9 hs hg,?_⟩⟩
 obtain⟨⟨A,e1⟩,hxr⟩:(∃A,a.eval x=.slice A 0 0)∧RdV V w (a.eval x) (.c (.s 0 us)):=ap hs (x:=x) (by simp[Op.operands,Call.operands]) hx
 have h2:RdC V w (a.eval y) (.s 0 ys):=ap hs (x:=y) (by simp[Op.operands,Call.operands]) hy
 have hys:ys=[]:=by
  generalize a.eval y=vy at h2
  cases h2 with
  |s0=>rfl
  |s b off c sz n' xs' cv h0=>omega
 subst hys
 obtain⟨news,hsrc,_⟩:=zI hU h2 (by simp)
 obtain⟨hu,i,z,hi,hz,hsz,hby,_,hzr⟩:=jj hU
 subst hsz
 have hn1:news=[]:=mI.1 (by rw[hsrc.newsLen,Nat.zero_mul])
 subst hn1
 rw[e1] at hxr
 have hrun:(Builtin.append_ #[U,U] ty #[.slice A 0 0,a.eval y]).run P w=.ok (.slice A 0 0) w:=by
  cases A with
  |none=>rcases hsrc.kind with⟨e',hk⟩|hk<;>simp[Builtin.append_,run_underlying hu,sizeOf,typeInfo,hi,hsrc.len,hsrc.cells]<;>rfl
  |some A=>
   rcases hsrc.kind with⟨e',hk⟩|hk<;>simp[Builtin.append_,run_underlying hu,sizeOf,typeInfo,hi,hsrc.len,hsrc.cells]<;>rfl
 have hexec:(execOp a.eval ⟨dst,.call ⟨.builtin .append,#[x,y],#[U,U]⟩,ty,pos,af,g⟩).run P w=.ok (.value (.slice A 0 0)) w:=by
  simp only[execOp,resolve,invoke,builtin,eH,fQ,fa,tk,si,sV,e1]
  rw[hrun]
  rfl
 unfold Gives
 rw[hexec]
 exact⟨⟨⟨A,rfl⟩,hxr⟩,cU _ w⟩
end
def rP (a b:Rat):Pt:=⟨a,0,b,0,0⟩
theorem KB {a:Rat}(ha:Rz 1 a) (hb:Rz 1 b):GP (rP a b):=GP.rat (ha.mono (by decide)) (hb.mono (by decide))
def fY (k:Ci):Pt:=dU k.x (-1) k.y 0 k.q
def fR (k:Ci):Pt:=dU k.x 1 k.y 0 k.q
theorem tv:Rz 1 (1:Rat):=⟨by rw[show(1:Rat).num=1 from rfl];exact qP (by decide) (by decide),by rw[show((1:Rat).den:Int)=1 from rfl];exact Sz.one (by decide)⟩
theorem qZ (hk:GK k) (h0:0<k.q):GP (fY k):=we (hk.x.mono (by decide)) (tv.neg.mono (by decide)) (hk.y.mono (by decide)) (eK (by decide)) (hk.q.mono (by decide)) h0 (fun e=>absurd e.1 (by decide))
theorem q5 (hk:GK k) (h0:0<k.q):GP (fR k):=we (hk.x.mono (by decide)) (tv.mono (by decide)) (hk.y.mono (by decide)) (eK (by decide)) (hk.q.mono (by decide)) h0 (fun e=>absurd e.1 (by decide))
def X4:List CellD:=LB++LB++LB++LB++LB
theorem YD {q:Rat}(h0:0<q) (hs:iC q=true):rt q≠0:=by
 intro h
 have hs2:=hs
 unfold iC Cy at hs2
 simp only[dF,beq_iff_eq] at hs2
 have hd:bO (q.den:Int)≠0:=by have:=xP (den_pos q);omega
 have hdq:((bO (q.den:Int):Int):Rat)≠0:=by simpa using hd
 have h1:((bO q.num:Int):Rat)=0:=by
  have h2:rt q*((bO (q.den:Int):Int):Rat)=((bO q.num:Int):Rat):=by unfold rt;rw[Rat.divInt_eq_div,no hdq]
  grind
 have h3:bO q.num=0:=by simpa using h1
 have h4:=hs2.1
 rw[h3,og] at h4
 have h5:q=0:=Rat.num_eq_zero.1 h4.symm
 grind
def bi (k:Ci):List Cv:=[.arc k false (fY k) (fR k),.arc k false (fR k) (fY k)]
theorem CO {ops:Array Oper}{T:TF}{B:BF}{x y:Operand}{q m:Nat}
 (hU:xG P U=some (e,m,by_,zs)) (hx:cO T x=some .z) (hy:cO T y=some (.v (.c (.s q ys)))) (hq:q=0)
 (hg:gd ops ⟨dst,.call ⟨.builtin .append,#[x,y],#[U,U]⟩,ty,pos,af,g⟩ T=some true):
 Sem P ops ⟨dst,.call ⟨.builtin .append,#[x,y],#[U,U]⟩,ty,pos,af,g⟩ T B (.r .z):=by
 subst hq
 refine⟨qo rfl,fun V β a w hs=>⟨d9 hs hg,?_⟩⟩
 have e1:a.eval x=.slice none 0 0:=ap hs (x:=x) (by simp[Op.operands,Call.operands]) hx
 have h2:RdC V w (a.eval y) (.s 0 ys):=ap hs (x:=y) (by simp[Op.operands,Call.operands]) hy
 have hys:ys=[]:=by
  generalize a.eval y=vy at h2
  cases h2 with
  |s0=>rfl
  |s b off c sz n' xs' cv h0=>omega
 subst hys
 obtain⟨news,hsrc,_⟩:=zI hU h2 (by simp)
 obtain⟨hu,i,z,hi,hz,hsz,hby,_,hzr⟩:=jj hU
 subst hsz
 have hn1:news=[]:=mI.1 (by rw[hsrc.newsLen,Nat.zero_mul])
 subst hn1
 have hrun:(Builtin.append_ #[U,U] ty #[.slice none 0 0,a.eval y]).run P w=.ok (.slice none 0 0) w:=by
  rcases hsrc.kind with⟨e',hk⟩|hk<;>simp[Builtin.append_,run_underlying hu,sizeOf,typeInfo,hi,hsrc.len,hsrc.cells]<;>rfl
 have hexec:(execOp a.eval ⟨dst,.call ⟨.builtin .append,#[x,y],#[U,U]⟩,ty,pos,af,g⟩).run P w=.ok (.value (.slice none 0 0)) w:=by
  simp only[execOp,resolve,invoke,builtin,eH,fQ,fa,tk,si,sV,e1]
  rw[hrun]
  rfl
 unfold Gives
 rw[hexec]
 exact⟨rfl,cU _ w⟩
def Q9 (a b c:Rat):Int:=bO ((a.den:Int)*(a.den:Int)*((b*b*c).num*((b*b*c).den:Int)))
def WK (a b c:Rat) (r:Int):Int:=(a.num*((b*b*c).den:Int)+r).fdiv ((a.den:Int)*((b*b*c).den:Int))
def nK (a b c:Rat):Int:=if b=0 then a.num.fdiv (a.den:Int) else if b<0 then WK a b c (-(Q9 a b c+1)) else WK a b c (Q9 a b c)
section
variable {a b c:Rat}
theorem P5 (h:b=0):nK a b c=a.num.fdiv (a.den:Int):=by unfold nK;rw[if_pos h]
theorem T9 (h:b≠0) (h2:b<0):nK a b c=WK a b c (-(Q9 a b c+1)):=by unfold nK;rw[if_neg h,if_pos h2]
theorem Uc (h:b≠0) (h2: ¬b<0):nK a b c=WK a b c (Q9 a b c):=by unfold nK;rw[if_neg h,if_neg h2]
theorem JQ {Z D:Int}(hD:0<D):Z.fdiv D*D≤Z∧Z+1≤(Z.fdiv D+1)*D:=by
 rw[ow _ (by omega),Int.add_mul,rE (Z/D) D]
 have h1:=qV Z D
 have h2:=n9 Z (show D≠0 by omega)
 have h3:=nB Z hD
 omega
theorem rU {x y:Re}(hd:0<d) (h:ck (Re.of d*x) (Re.of d*y)):ck x y:=by
 unfold ck at*
 have e:aO (Re.of d*y-Re.of d*x)=aO (Re.of d*(y-x)):=congrArg aO (ba fun k=>by simp only[ao,aD,aV];grind)
 have hp:aO (Re.of d)=1:=by rw[ca];unfold aw;rw[if_neg (by grind),if_pos hd]
 rw[e,bj,hp,oi] at h
 grind
theorem Jm {x y:Re}(hd:0<d) (h:ck x y):ck (Re.of d*x) (Re.of d*y):=by
 unfold ck at*
 have e:aO (Re.of d*y-Re.of d*x)=aO (Re.of d*(y-x)):=congrArg aO (ba fun k=>by simp only[ao,aD,aV];grind)
 have hp:aO (Re.of d)=1:=by rw[ca];unfold aw;rw[if_neg (by grind),if_pos hd]
 rw[e,bj,hp,oi]
 grind
theorem o6 {m:Int}(h:m≤n):ck (Re.of (m:Rat)) (Re.of (n:Rat)):=of_le (ef.2 h)
theorem RU (hc:0≤c):ck (Re.of ((Q9 a b c:Int):Rat)) (Re.of (((a.den:Int)*((b*b*c).den:Int):Int):Rat)*(Re.of (if b<0 then-b else b)*Re.rt c))∧
 ck (Re.of (((a.den:Int)*((b*b*c).den:Int):Int):Rat)*(Re.of (if b<0 then-b else b)*Re.rt c)) (Re.of (((Q9 a b c+1:Int)):Rat)):=by
 have hbc:0≤b*b*c:=by
  have:0≤b*b:=by
   by_cases h:0≤b
   ·exact f7 h h
   ·have:=f7 (show 0≤ -b by grind) (show 0≤ -b by grind);grind
  exact f7 this hc
 have hin:0≤(a.den:Int)*(a.den:Int)*((b*b*c).num*((b*b*c).den:Int)):=
  fK (fK (by omega) (by omega)) (fK (Rat.num_nonneg.2 hbc) (by omega))
 have h1:=qL hin
 have h2:=v7 hin
 have h0:=eg ((a.den:Int)*(a.den:Int)*((b*b*c).num*((b*b*c).den:Int)))
 have hn:=tN (b*b*c)
 have dn:=den_pos a
 have dq:=den_pos (b*b*c)
 generalize hN:(a.den:Int)*(a.den:Int)*((b*b*c).num*((b*b*c).den:Int))=N at*
 have eI:Q9 a b c=bO N:=by unfold Q9;rw[hN]
 rw[eI]
 generalize hb':(if b<0 then-b else b)=b'
 have hb2:b'*b'=b*b∧0≤b':=by grind
 generalize hD:(a.den:Int)*((b*b*c).den:Int)=D
 have hD0:0<D:=by subst hD;exact p5 dn dq
 have eN:((N:Int):Rat)=((D:Int):Rat)*((D:Int):Rat)*(b*b*c):=by
  subst hN hD
  grind
 have nnR:0≤aO (Re.of ((D:Int):Rat)*(Re.of b'*Re.rt c)):=by
  have p1:aO (Re.of ((D:Int):Rat))=1:=by have:=BR hD0;have:=bp (Re.of ((D:Int):Rat));omega
  have p2:0≤aO (Re.of b'):=by rw[ca];exact jJ hb2.2
  have p3:=uk c
  rw[bj,p1,oi,bj]
  exact fK p2 p3
 have eS: ∀q:Rat,aO (Re.of ((D:Int):Rat)*(Re.of b'*Re.rt c)*(Re.of ((D:Int):Rat)*(Re.of b'*Re.rt c))-Re.of q)=aw ((N:Int):Rat) q:=by
  intro q
  rw[←f9,←ca]
  refine dC ?_
  have e:Re.of ((D:Int):Rat)*(Re.of b'*Re.rt c)*(Re.of ((D:Int):Rat)*(Re.of b'*Re.rt c))-Re.of q-Re.of (((N:Int):Rat)-q)=Re.of (((D:Int):Rat)*((D:Int):Rat)*(b'*b'))*(Re.rt c*Re.rt c-Re.of c):=ba fun k=>by
   simp only[ao,aD,aV];grind
  rw[e,bj,my hc,og]
 refine⟨?_,?_⟩
 ·refine pG (vZ h0) nnR ?_
  rw[gg,eS,←fE]
  exact jJ (ef.2 h1)
 ·refine pG nnR (vZ (by omega)) ?_
  have h3:0≤ -aO (Re.of ((D:Int):Rat)*(Re.of b'*Re.rt c)*(Re.of ((D:Int):Rat)*(Re.of b'*Re.rt c))-Re.of (((bO N+1:Int):Rat)*((bO N+1:Int):Rat))):=by
   rw[eS,←fE]
   have:=Ca (x:=((N:Int):Rat)) (y:=(((bO N+1)*(bO N+1):Int):Rat)) (ef.2 (by omega))
   omega
  rw[←b8] at h3
  refine j7 (fun k=>?_) h3
  simp only[bg,ao,aD,aV];grind
theorem EC {x y:Re}(h:ck x y):0≤aO (y-x):=h
theorem sC (hc:0≤c):ck (Re.of ((nK a b c:Int):Rat)) (Re.of a+Re.of b*Re.rt c)∧ck (Re.of a+Re.of b*Re.rt c) (Re.of (((nK a b c+1:Int)):Rat)):=by
 by_cases hb:b=0
 ·subst hb
  have e:Re.of a+Re.of 0*Re.rt c=Re.of a:=ba fun k=>by simp only[aI,aD,aV];grind
  rw[e,P5 rfl]
  have dn:=den_pos a
  obtain⟨h1,h2⟩:=JQ (Z:=a.num) dn
  have hn:=tN a
  have hp:(0:Rat)<((a.den:Int):Rat):=tH.2 dn
  refine⟨of_le (ph hp ?_),of_le (ph hp ?_)⟩
  ·rw[hn,←fE];exact ef.2 h1
  ·rw[hn,←fE];exact ef.2 (by omega)
 ·obtain⟨r1,r2⟩:=RU (a:=a) (b:=b) hc
  have dn:=den_pos a
  have dq:=den_pos (b*b*c)
  have hD0:0<(a.den:Int)*((b*b*c).den:Int):=p5 dn dq
  have hDr:(0:Rat)<(((a.den:Int)*((b*b*c).den:Int):Int):Rat):=tH.2 hD0
  have eX:(((a.den:Int)*((b*b*c).den:Int):Int):Rat)*a=((a.num*((b*b*c).den:Int):Int):Rat):=by
   have:=tN a
   grind
  have en:=fun h2=>T9 (a:=a) (c:=c) hb h2
  have ep:=fun h2=>Uc (a:=a) (c:=c) hb h2
  generalize hD:(a.den:Int)*((b*b*c).den:Int)=D at*
  generalize Q9 a b c=I at*
  have key: ∀r:Int,∀Y:Re,nK a b c=WK a b c r→Re.of a+Re.of b*Re.rt c=Re.of a+Y→ck (Re.of ((r:Int):Rat)) (Re.of ((D:Int):Rat)*Y)→ck (Re.of ((D:Int):Rat)*Y) (Re.of (((r+1:Int)):Rat))→
   ck (Re.of ((nK a b c:Int):Rat)) (Re.of a+Re.of b*Re.rt c)∧ck (Re.of a+Re.of b*Re.rt c) (Re.of (((nK a b c+1:Int)):Rat)):=by
   intro r Y e1 e2 g1 g2
   rw[e2,e1]
   have e3:WK a b c r=(a.num*((b*b*c).den:Int)+r).fdiv D:=by unfold WK;rw[hD]
   rw[e3]
   obtain⟨f1,f2⟩:=JQ (Z:=a.num*((b*b*c).den:Int)+r) hD0
   refine⟨rU hDr ?_,rU hDr ?_⟩
   ·have a1:=o6 f1
    have a2:=pZ (EC a1) (EC g1)
    refine j7 (fun k=>?_) a2
    simp only[ao,aI,aD,aV,fE,iE] at*
    grind
   ·have a1:=o6 f2
    have a2:=pZ (EC a1) (EC g2)
    refine j7 (fun k=>?_) a2
    simp only[ao,aI,aD,aV,fE,iE,Rat.intCast_one] at*
    grind
  by_cases hn:b<0
  ·rw[if_pos hn] at r1 r2
   refine key (-(I+1)) (Re.of b*Re.rt c) (en hn) rfl ?_ ?_
   ·refine j7 (fun k=>?_) r2
    simp only[ao,aD,aV,qI,iE,Rat.intCast_one];grind
   ·refine j7 (fun k=>?_) r1
    simp only[ao,aD,aV,qI,iE,Rat.intCast_one];grind
  grind
end
theorem B4 (A B C D M N:Rat):Ar A B C D M N=eE A B C D M N:=by
 by_cases h:M<0∨N<0
 ·rw[Js h,Ft h]
 ·have hM:0≤M:=by grind
  have hN:0≤N:=by grind
  rw[Lk hM hN,mi hM hN]
theorem lk {a e f:Rat}(ha:Rz 2000000 a) (hb:Rz 160000 b) (hc:Rz 160000 c) (hd:Rz 2000000 d) (he:Rz 160000 e) (hf:Rz 160000 f) (h1:Rz 160000 (a-d)) (c0:0≤c) (f0:0≤f):
 Ok Tryz.prog 139 [.a (cR a++cR b++cR c),.a (cR d++cR e++cR f)] [.c (.i .i64 (eE (a-d) b (-e) 0 c f))]:=bX (BV ha hb hc hd he hf h1) ((JY c0 f0).trans (mW c0 f0).symm)
theorem wd {f:FuncId}{x':Rat}(h:Ok P f ds (dR x::rs)) (e:x=x'):Ok P f ds (dR x'::rs):=by subst e;exact h
theorem ES {f:FuncId}{x x':Int}(h:Ok P f ds [dI x]) (e:x=x'):Ok P f ds [dI x']:=by subst e;exact h
def GC (a b c:Rat):Rat:=1/(a*a-b*b*c)
def vi (a b c:Rat):Int:=if aw b 0=0∨aw a 0=aw b 0 then aw a 0 else if aw a 0=0 then aw b 0 else aw a 0*aw (a*a-b*b*c) 0
section
variable {a b c:Rat}
theorem Wm (h:(aw b 0==0)=true):vi a b c=aw a 0:=by unfold vi;rw[if_pos (.inl (by simpa using h))]
theorem V1 (h:(aw a 0==aw b 0)=true):vi a b c=aw a 0:=by unfold vi;rw[if_pos (.inr (by simpa using h))]
theorem Vv (h:(aw b 0==0)=false) (h2:(aw a 0==aw b 0)=false) (h3:(aw a 0==0)=true):vi a b c=aw b 0:=by
 unfold vi;rw[if_neg (fun e=>e.elim (by simpa using h) (by simpa using h2)),if_pos (by simpa using h3)]
theorem Vr (h:(aw b 0==0)=false) (h2:(aw a 0==aw b 0)=false) (h3:(aw a 0==0)=false):vi a b c=aw a 0*aw (a*a-b*b*c) 0:=by
 unfold vi;rw[if_neg (fun e=>e.elim (by simpa using h) (by simpa using h2)),if_neg (by simpa using h3)]
end
def mQ (c:Rat):Bool:=decide (c≤1)&&decide (-1≤c)
theorem Wg (h:decide (aw c ((1:Int):Rat)≤0)=true):mQ c=decide (aw (-c) ((1:Int):Rat)≤0):=by
 have h1:=ye.1 (of_decide_eq_true h)
 unfold mQ
 rw[decide_eq_true (show c≤1 from h1),fW]
 apply decide_eq_decide.2
 rw[ye]
 constructor<;>intro h<;>grind
theorem PQ (h:decide (aw c ((1:Int):Rat)≤0)=false):mQ c=false:=by
 have h1:=mt ye.2 (of_decide_eq_false h)
 unfold mQ
 rw[decide_eq_false (show ¬c≤1 from h1),lr]
def CA (R r e:Rat):Rat:=(R*R-e*e-r*r)/(((2:Int):Rat)*(e*r))
def cq (a t s:Int):Rat:=CA (((a+t:Int)):Rat) ((t:Int):Rat) (((a+s:Int)):Rat)
def UD (a t s:Int) (c:Rat):Bool:=decide (aw (cq a t s) 0≥0)&&decide (aw (cq a t s*cq a t s+cq a t s*cq a t s-((1:Int):Rat)) c≥0)
theorem aar (h:1≤n):0<(n:Rat):=by
 have:=iv.2 (show 0<n by omega)
 exact this
theorem Fu {t:Int}(ha:1≤a) (ht:1≤t) (hs:0≤s):0<(((a+s:Int)):Rat)*((t:Int):Rat):=cY (aar (by omega)) (aar ht)
theorem aal {t:Int}(ha:1≤a) (ht:1≤t) (hs:0≤s):cq a t s*(((2:Int):Rat)*((((a+s:Int)):Rat)*((t:Int):Rat)))=(((a+t)*(a+t)-(a+s)*(a+s)-t*t:Int):Rat):=by
 have h:=Fu ha ht hs
 unfold cq CA
 rw[no (by have:(0:Rat)<((2:Int):Rat)*((((a+s:Int)):Rat)*((t:Int):Rat)):=cY (by decide) h;grind)]
 simp only[pi,fE]
theorem Zu {t:Int}(ha:1≤a) (ht:1≤t) (hs:1≤s):cq a t s<1:=by
 have h:=aal ha ht (show 0≤s by omega)
 have hp:(0:Rat)<((2:Int):Rat)*((((a+s:Int)):Rat)*((t:Int):Rat)):=cY (by decide) (Fu ha ht (by omega))
 apply fH
 intro hn
 have h1:(1:Rat)≤cq a t s:=by grind
 have h2:=rQ h1 (show 0≤((2:Int):Rat)*((((a+s:Int)):Rat)*((t:Int):Rat)) by grind)
 rw[h,Rat.one_mul] at h2
 have h3:(((2*((a+s)*t):Int)):Rat)≤(((a+t)*(a+t)-(a+s)*(a+s)-t*t:Int):Rat):=by
  rw[fE,fE];exact h2
 have h4:=ef.1 h3
 have h5:(a+t)*(a+t)≤(a+s+t)*(a+t):=zw (by omega) (by omega)
 have h6:(a+s+t)*(a+t)<(a+s+t)*(a+s+t):=Int.mul_lt_mul_of_pos_left (by omega) (by omega)
 grind
theorem Q0 {t:Int}(ha:1≤a) (ht:1≤t) (hs:1≤s) (h:decide (aw (cq a t s) ((1:Int):Rat)≥0)=true):False:=by
 have h1:=Az.1 (of_decide_eq_true h)
 have h2:=Zu ha ht hs
 have h3:(1:Rat)≤cq a t s:=h1
 grind
theorem YS {t:Int}(h:decide (aw (cq a t s) 0≥0)=true):UD a t s c=decide (aw (cq a t s*cq a t s+cq a t s*cq a t s-((1:Int):Rat)) c≥0):=by unfold UD;rw[h,fW]
theorem Zo {t:Int}(h:decide (aw (cq a t s) 0≥0)=false):UD a t s c=false:=by unfold UD;rw[h,lr]
theorem LO (i r:Int):(!decide (i<r))=decide (r≤i):=by rw[←decide_not];exact decide_eq_decide.2 (by omega)
theorem NX {m:Int}:m.fdiv (2^(min (1:Int).toNat IntKind.u64.bits))=m/2:=by
 show m.fdiv 2=m/2
 exact ow _ (by decide)
theorem ZO {t:Int}(ha:1≤a) (ht:1≤t) (hs:1≤s) (ha2:a≤10000000) (ht2:t≤10000000) (hs2:s≤10000001):Rz 40 (cq a t s):=by
 have r1:Rz 3 (((a+t:Int)):Rat):=Rz.num (by omega) (by omega)
 have r2:Rz 3 (((a+s:Int)):Rat):=Rz.num (by omega) (by omega)
 have r3:Rz 3 ((t:Int):Rat):=Rz.num (by omega) (by omega)
 have r4:Rz 3 ((2:Int):Rat):=Rz.num (by omega) (by omega)
 have hp:(0:Rat)<((2:Int):Rat)*((((a+s:Int)):Rat)*((t:Int):Rat)):=cY (by decide) (Fu ha ht (by omega))
 exact((((r1.mul r1).sub (r2.mul r2)).sub (r3.mul r3)).div (r4.mul (r2.mul r3)) (by grind)).mono (by decide)
section
variable (k:Ci) (p q:Pt) (m:Rat)
def WG:Rat:=(p.a1-k.x)*(q.a2-k.y)+ -((p.a2-k.y)*(q.a1-k.x))
def VL:Rat:=p.b1*(q.a2-k.y)+ -(p.b2*(q.a1-k.x))
def WP:Rat:=(p.a1-k.x)*q.b2+ -((p.a2-k.y)*q.b1)
def X6:Rat:=p.b1*q.b2+ -(p.b2*q.b1)
def Xn:Rat:=(p.a1-k.x)*(q.a1-k.x)+(p.a2-k.y)*(q.a2-k.y)-m
def Va:Rat:=p.b1*(q.a1-k.x)+p.b2*(q.a2-k.y)
def VT:Rat:=(p.a1-k.x)*q.b1+(p.a2-k.y)*q.b2
def X2:Rat:=p.b1*q.b1+p.b2*q.b2
def CB:Int:=eE (WG k p q) (VL k p q) (WP k p q) (X6 p q) p.c q.c
def Is:Int:=eE (Xn k p q m) (Va k p q) (VT k p q) (X2 p q) p.c q.c
end
theorem QE (k:Ci) (p q:Pt) (m:Rat): -1≤Is k p q m∧Is k p q m≤1:=yv _ _ _ _ _ _
theorem JT (A B C D M N:Rat):jo A C B D N M=jo A B C D M N:=ba fun n=>by
 unfold jo am
 simp only[aI,aD,aV]
 grind
theorem U9 (hp:0≤p.c) (hq:0≤q.c):Is k q p m=Is k p q m:=by
 unfold Is
 rw[mi hq hp,mi hp hq,←JT (Xn k p q m)]
 congr 1
 rw[show Xn k q p m=Xn k p q m from by unfold Xn;grind,show Va k q p=VT k p q from by unfold Va VT;grind,show VT k q p=Va k p q from by unfold Va VT;grind,show X2 q p=X2 p q from by unfold X2;grind]
theorem QF (hp:0≤p.c) (hq:0≤q.c):CB k q p= -CB k p q:=by
 unfold CB
 rw[mi hq hp,mi hp hq,←b8,←JT (WG k q p)]
 congr 1
 rw[show WG k q p= -WG k p q from by unfold WG;grind,show VL k q p= -WP k p q from by unfold VL WP;grind,show WP k q p= -VL k p q from by unfold VL WP;grind,show X6 q p= -X6 p q from by unfold X6;grind]
 exact ba fun n=>by
  unfold jo am
  simp only[aI,aD,aV,bg]
  grind
def Em (w:Bool) (k:Ci) (f t:Pt):Int:=if w then-CB k f t else CB k f t
def CH (w:Bool) (k:Ci) (f t:Pt) (c:Rat):Bool:=mQ c&&decide (Em w k f t≥0)
def FD (w:Bool) (k:Ci) (f t:Pt) (c:Rat):Int:=if CH w k f t c then-Is k f t (c*k.q) else 0
def OK (w:Bool) (k:Ci) (f t:Pt) (c:Rat):Int:=if CH w k f t c then 0 else 1
section
variable {w:Bool}{k:Ci}{f t:Pt}{c:Rat}
theorem D4 (h:mQ c=false):FD w k f t c=0∧OK w k f t c=1:=by
 have:CH w k f t c=false:=by unfold CH;rw[h];rfl
 unfold FD OK;rw[this];exact⟨rfl,rfl⟩
theorem Fe (h:decide (Em w k f t≥0)=false):FD w k f t c=0∧OK w k f t c=1:=by
 have:CH w k f t c=false:=by unfold CH;rw[h,lU]
 unfold FD OK;rw[this];exact⟨rfl,rfl⟩
theorem D7 (h:mQ c=true) (g:decide (Em w k f t≥0)=true):FD w k f t c= -Is k f t (c*k.q)∧OK w k f t c=0:=by
 have:CH w k f t c=true:=by unfold CH;rw[h,g];rfl
 unfold FD OK;rw[this];exact⟨rfl,rfl⟩
end
def SQ (c:Cv) (x:Rat):Int:=match c with
 | .seg ..=>0
 | .arc k w f t=>FD w k f t x
def RE (c:Cv) (x:Rat):Int:=match c with
 | .seg ..=>1
 | .arc k w f t=>OK w k f t x
theorem vh (x:Rat):0+((1:Int):Rat)*x=x:=by rw[show((1:Int):Rat)=1 from rfl];grind
theorem Er (x y:Rat):x+((1:Int):Rat)*y=x+y:=by rw[show((1:Int):Rat)=1 from rfl];grind
theorem Ey (x y:Rat):x+((-1:Int):Rat)*y=x+ -y:=by rw[show((-1:Int):Rat)= -1 from rfl];grind
theorem EK {f:FuncId}{A B C D M N A' B' C' D':Rat}(h:Ok P f ds [.a (cR A++cR B++cR C++cR D++cR M++cR N)]) (e1:A=A') (e2:B=B') (e3:C=C') (e4:D=D'):Ok P f ds [.a (cR A'++cR B'++cR C'++cR D'++cR M++cR N)]:=by subst e1 e2 e3 e4;exact h
section
variable {k:Ci}{p q:Pt}(hk:GK k) (hp:GP p) (hq:GP q)
include hk hp hq
theorem Kk:Rz 347 (p.a1-k.x)∧Rz 347 (p.a2-k.y)∧Rz 347 (q.a1-k.x)∧Rz 347 (q.a2-k.y):=
 ⟨(hp.a1.sub hk.x).mono (by decide),(hp.a2.sub hk.y).mono (by decide),(hq.a1.sub hk.x).mono (by decide),(hq.a2.sub hk.y).mono (by decide)⟩
theorem TY:Rz 1600 (WG k p q)∧Rz 1600 (VL k p q)∧Rz 1600 (WP k p q)∧Rz 1600 (X6 p q):=by
 obtain⟨h1,h2,h3,h4⟩:=Kk hk hp hq
 exact⟨((h1.mul h4).add (h2.mul h3).neg).mono (by decide),((hp.b1.mul h4).add (hp.b2.mul h3).neg).mono (by decide),((h1.mul hq.b2).add (h2.mul hq.b1).neg).mono (by decide),((hp.b1.mul hq.b2).add (hp.b2.mul hq.b1).neg).mono (by decide)⟩
theorem Ze (hm:Rz 10 m):Rz 1600 (Xn k p q m)∧Rz 1600 (Va k p q)∧Rz 1600 (VT k p q)∧Rz 1600 (X2 p q):=by
 obtain⟨h1,h2,h3,h4⟩:=Kk hk hp hq
 exact⟨(((h1.mul h3).add (h2.mul h4)).sub hm).mono (by decide),((hp.b1.mul h3).add (hp.b2.mul h4)).mono (by decide),((h1.mul hq.b1).add (h2.mul hq.b2)).mono (by decide),((hp.b1.mul hq.b1).add (hp.b2.mul hq.b2)).mono (by decide)⟩
end
theorem aat {a:Rat}(ha:Rz 600 a) (hb:Rz 600 b) (hc:Rz 600 c) (hd:Rz 600 d):Ok Tryz.prog 86 [.a ((cR a++cR b++cR c)),dR d] [.c (.i .i64 (bd (a-d) b c))]:=by
 refine bW Tryz.func86 rfl<|cz 10 [] ?_
 refine aC rfl (eo (aE ha) (aE hd)) ?_
 refine aC rfl (uG (aE (cT ha hd)) (aE hb) (aE hc)) ?_
 exact ah (ak aa)
theorem abx (hp:GP p) (hv:Rz 600 v):Ok Tryz.prog 86 [.a ((cR p.a1++cR p.b1++cR (zc p.b1 p.c))),dR v] [.c (.i .i64 (jm p v))]:=aat (hp.a1.mono (by decide)) (hp.b1.mono (by decide)) (gw (hp.c.mono (by decide)) (by decide)) hv
theorem abz (hp:GP p) (hv:Rz 600 v):Ok Tryz.prog 86 [.a ((cR p.a2++cR p.b2++cR (zc p.b2 p.c))),dR v] [.c (.i .i64 (qf p v))]:=aat (hp.a2.mono (by decide)) (hp.b2.mono (by decide)) (gw (hp.c.mono (by decide)) (by decide)) hv
theorem yCX (hp:GP p) (hq:GP q):Ok Tryz.prog 83 [.a ((cR p.a1++cR p.b1++cR (zc p.b1 p.c))),.a ((cR q.a1++cR q.b1++cR (zc q.b1 q.c)))] [.c (.i .i64 (cx p q))]:=vk (hp.a1.mono (by decide)) (hp.b1.mono (by decide)) (gw (hp.c.mono (by decide)) (by decide)) (hq.a1.mono (by decide)) (hq.b1.mono (by decide)) (gw (hq.c.mono (by decide)) (by decide))
theorem yCY (hp:GP p) (hq:GP q):Ok Tryz.prog 83 [.a ((cR p.a2++cR p.b2++cR (zc p.b2 p.c))),.a ((cR q.a2++cR q.b2++cR (zc q.b2 q.c)))] [.c (.i .i64 (cy p q))]:=vk (hp.a2.mono (by decide)) (hp.b2.mono (by decide)) (gw (hp.c.mono (by decide)) (by decide)) (hq.a2.mono (by decide)) (hq.b2.mono (by decide)) (gw (hq.c.mono (by decide)) (by decide))
theorem E6 (hp:GP p) (hq:GP q):Ok Tryz.prog 57 [.a (ai p),.a (ai q)] [.c (.i .i64 (cP p q))]:=by
 refine bW Tryz.func57 rfl<|cz 6 [] ?_
 refine aC rfl (n5) ?_
 refine aC rfl (n5) ?_
 refine aC rfl (yCX hp hq) ?_
 refine df rfl (fun hc1=>?_) (fun hc1=>?_)
 ·refine ah ?_
  rw[aaV (p:=p) (q:=q) hc1]
  exact ak aa
 ·refine cz 6 [] ?_
  refine aC rfl (Fd) ?_
  refine aC rfl (Fd) ?_
  refine aC rfl (yCY hp hq)<|ah ?_
  rw[abA (p:=p) (q:=q) hc1]
  exact ak aa
theorem HB (hp:GP p) (hq:GP q):Ok Tryz.prog 41 [.a (ai p),.a (ai q)] [.c (.b (cP p q==0))]:=by
 refine bW Tryz.func41 rfl ?_
 refine ac rfl (E6 hp hq) ?_
 exact ah (ak aa)
theorem yQ (hx:Rz 6000000 x) (hy:Rz 6000000 y):Ok Tryz.prog 185 [dR x,dR y] [dR (x+y)]:=by
 refine bW Tryz.func185 rfl<|ac rfl (cK (aE hx) (aE hy)) ?_
 exact ah (aQ aX rfl aa)
theorem Gq (hx:Rz 6000000 x) (hy:Rz 6000000 y):Ok Tryz.prog 184 [dR x,dR y] [dR (x-y)]:=by
 refine bW Tryz.func184 rfl<|ac rfl (eo (aE hx) (aE hy)) ?_
 exact ah (aQ aX rfl aa)
theorem nA (hx:Rz 6000000 x) (hy:Rz 6000000 y):Ok Tryz.prog 186 [dR x,dR y] [dR (x*y)]:=by
 refine bW Tryz.func186 rfl<|ac rfl (cm (aE hx) (aE hy)) ?_
 exact ah (aQ aX rfl aa)
theorem SD {w:Rat}(hv:Rz 6000000 v) (hw:Rz 6000000 w):Ok Tryz.prog 180 [.a ((cR v++cR w))] [.a ((cR (-v)++cR (-w)))]:=by
 refine bW Tryz.func180 rfl<|cz 7 [] ?_
 refine aC rfl (gU (aE hv)) ?_
 refine aC rfl (gU (aE hw)) ?_
 refine aq (az (us:=(cR (-v)++cR (-w))) IW G1 rfl rfl rfl) ?_
 exact ah (aQ LI rfl aa)
theorem NC {w:Rat}(hv:Rz 6000000 v) (hw:Rz 6000000 w) (ha1:Rz 6000000 a1) (ha2:Rz 6000000 a2):Ok Tryz.prog 188 [.a ((cR a1++cR b1++cR a2++cR b2++cR c)),.a ((cR v++cR w))] [.a ((cR (a1+v)++cR b1++cR (a2+w)++cR b2++cR c))]:=by
 refine ex Tryz.func188 22 [.cell 4 47] rfl<|ae<|ag<|ae<|nu 17 rfl rfl<|cE 1<|bh (ed (cR a1) aX rfl)<|cE 1<|bh (ed (cR v) aX rfl)<|bh (cb rfl (cK (aE ha1) (aE hv)))<|cE 1<|bh (ed (cR b1) aX rfl)<|cE 1<|bh (ed (cR a2) aX rfl) ?_
 refine cE 1<|bh (ed (cR w) aX rfl)<|bh (cb rfl (cK (aE ha2) (aE hw)))<|cE 1<|bh (ed (cR b2) aX rfl)<|cE 1<|bh (ed (cR c) aX rfl)<|bh (az (us:=(cR (a1+v)++cR b1++cR (a2+w)++cR b2++cR c)) EY z8 rfl rfl rfl) ?_
 refine mT<|dN<|fL<|a9 ?_
 exact ah (aQ bE rfl aa)
theorem EW (ha1:Rz 60000 a1) (hb1:Rz 60000 b1) (ha2:Rz 60000 a2) (hb2:Rz 60000 b2) (hc:Rz 60000 c) (v1:tZ b1 b2 c=true) {e:Rat}(hd:Rz 60000 d) (he:Rz 60000 e):Ok Tryz.prog 91 [.a ((cR a1++cR b1++cR a2++cR b2++cR c)),.a ((cR d++cR e))] [.a ((cR (zf (a1-d) (a2-e) b1 b2 c)++cR (Cc (a1-d) (a2-e) b1 b2)++cR (zc (Cc (a1-d) (a2-e) b1 b2) c)))]:=by
 have ka1:Rz 6000000 a1:=ha1.m_
 have kb1:Rz 6000000 b1:=hb1.m_
 have ka2:Rz 6000000 a2:=ha2.m_
 have kb2:Rz 6000000 b2:=hb2.m_
 have kc:Rz 6000000 c:=hc.m_
 have kd:Rz 6000000 d:=hd.m_
 have ke:Rz 6000000 e:=he.m_
 have u1:Rz 140000 (a1-d):=(ha1.sub hd).m_
 have u2:Rz 140000 (a2-e):=(ha2.sub he).m_
 have k3:Rz 6000000 (-d):=kd.neg
 have k4:Rz 6000000 (-e):=ke.neg
 have nz:=aaD v1
 have x1:Rz 1000000 (a1-d):=u1.m_
 have x2:Rz 1000000 (a2-e):=u2.m_
 have y1:Rz 1000000 b1:=hb1.m_
 have y2:Rz 1000000 b2:=hb2.m_
 have hC:Rz 1000000 c:=hc.m_
 have z1:Rz 1000000 (zc b1 c):=gw hC (by decide)
 have z2:Rz 1000000 (zc b2 c):=gw hC (by decide)
 have A1:Rz 1000000 ((a1-d)*(a1-d)+b1*b1*c):=((u1.mul u1).add ((hb1.mul hb1).mul hc)).m_
 have A2:Rz 1000000 ((a2-e)*(a2-e)+b2*b2*c):=((u2.mul u2).add ((hb2.mul hb2).mul hc)).m_
 have B1:Rz 1000000 ((a1-d)*b1+(a1-d)*b1):=((u1.mul hb1).add (u1.mul hb1)).m_
 have B2:Rz 1000000 ((a2-e)*b2+(a2-e)*b2):=((u2.mul hb2).add (u2.mul hb2)).m_
 have C1:Rz 1000000 (zc ((a1-d)*b1+(a1-d)*b1) c):=gw hC (by decide)
 have C2:Rz 1000000 (zc ((a2-e)*b2+(a2-e)*b2) c):=gw hC (by decide)
 have nS:((a1-d)*b1+(a1-d)*b1)+((a2-e)*b2+(a2-e)*b2)≠0→c≠0:=fun h=>by rw[Nj] at h;have:=(PB v1 h).1;grind
 refine bW Tryz.func91 rfl<|cz 5 [] ?_
 refine aC rfl (SD (by assumption) (by assumption)) ?_
 refine aC rfl (NC (by assumption) (by assumption) (by assumption) (by assumption))<|cz 13 [6,999999] ?_
 refine aC rfl (zo n5 (Ux _ _) rfl rfl) ?_
 refine aC rfl (zo (HA x1 y1 z1) YP (Zk nz.1) (YN nz.1)) ?_
 refine aC rfl (zo Fd (Ux _ _) rfl rfl) ?_
 refine aC rfl (zo (HA x2 y2 z2) YP (Zk nz.2) (YN nz.2)) ?_
 refine aC rfl (vJ (Mx A1 B1 C1 A2 B2 C2 XG) (Zf _ _ _ _ _) ((abE nS).trans (Nj _ _ _ _)) ((abH nS).trans (by rw[Nj]))) ?_
 refine DQ.mk<|fp (dL cG rfl) rfl rfl rfl rfl<|dc ?_
 exact ah (aQ cG rfl aa)
theorem J1 (hk:GK k) (hp:GB p):Ok Tryz.prog 91 [.a (ai p),.a ((cR k.x++cR k.y))] [.a ((cR (zf (p.a1-k.x) (p.a2-k.y) p.b1 p.b2 p.c)++cR (qC k p)++cR (zc (qC k p) p.c)))]:=EW (hp.a1.mono (by decide)) (hp.b1.mono (by decide)) (hp.a2.mono (by decide)) (hp.b2.mono (by decide)) (hp.c.mono (by decide)) hp.v (hk.x.mono (by decide)) (hk.y.mono (by decide))
theorem Yn (hk:GK k) (hp:GB p):Ok Tryz.prog 267 [.a (bo k),.a (ai p)] [.a ((cR (Ac k p)++cR (qC k p)++cR (zc (qC k p) p.c)))]:=by
 have s1:Rz 6000000 (zf (p.a1-k.x) (p.a2-k.y) p.b1 p.b2 p.c):=(N7 hk hp).m_
 have s2:Rz 6000000 k.q:=hk.q.m_
 have s3:Rz 6000000 (-k.q):=s2.neg
 refine bW Tryz.func267 rfl<|cz 11 [] ?_
 refine aq (az (us:=(cR k.x++cR k.y)) IW G1 rfl rfl rfl) ?_
 refine aC rfl (J1 hk hp) ?_
 refine aC rfl (gU (HJ)) ?_
 refine aC rfl (EQ (by assumption) (by assumption)) ?_
 exact ah (aQ cG rfl aa)
theorem V9 (hk:GK k) (hp:GB p):Ok Tryz.prog 146 [.a (bo k),.a (ai p)] [.c (.i .i64 (jQ k p))]:=by
 refine bW Tryz.func146 rfl ?_
 refine ac rfl (Yn hk hp) ?_
 refine ac rfl (Bg ((PH hk hp).m_) ((OL hk hp).m_) (gw (hp.c.m_) (by decide))) ?_
 refine ar (fi (r:= -s3 (Ac k p) (qC k p) (zc (qC k p) p.c)) rfl (Ad (T5 _ _ _)) rfl) ?_
 exact ah (ak aa)
theorem aao (hk:GK k) (hp:GP p):Ok Tryz.prog 146 [.a (bo k),.a (ai p)] [.c (.i .i64 (jQ k p))]:=V9 hk hp.gb
theorem PW (hl:GL l) (hp:GP p) (hs:iC p.c=true):Ok Tryz.prog 88 [.a (jq l),.a (ai p)] [.a ((cR (vA l p+vB l p*rt p.c)++cR 0++cR 0))]:=by
 refine bW Tryz.func88 rfl<|cz 15 [] ?_
 refine aC rfl (nA (aE (hl.a)) (aE (hp.a1))) ?_
 refine aC rfl (nA (aE (hl.b)) (aE (hp.a2))) ?_
 refine aC rfl (yQ (aE (aF (hl.a) (hp.a1))) (aE (aF (hl.b) (hp.a2)))) ?_
 refine aC rfl (Gq (aE (ig (aF (hl.a) (hp.a1)) (aF (hl.b) (hp.a2)))) (aE (hl.c)))<|cz 21 [6,999999] ?_
 refine aC rfl (nA (aE (hl.a)) (aE (hp.b1))) ?_
 refine aC rfl (nA (aE (hl.b)) (aE (hp.b2))) ?_
 refine aC rfl (yQ (aE (aF (hl.a) (hp.b1))) (aE (aF (hl.b) (hp.b2)))) ?_
 refine aC rfl (pV ((No hl hp).m_) ((O3 hl hp).m_) (hp.c.m_) (fun h=>absurd h (tO.2 (yF hp.v))) hs) ?_
 refine DQ.mk<|fp (dL cG rfl) rfl rfl rfl rfl<|dc ?_
 exact ah (aQ cG rfl aa)
theorem Ol (hl:GL l) (hp:GP p) (hs:iC p.c=false):Ok Tryz.prog 88 [.a (jq l),.a (ai p)] [.a ((cR (vA l p)++cR (rB (vB l p) p.c)++cR (rC (vB l p) p.c)))]:=by
 refine bW Tryz.func88 rfl<|cz 15 [] ?_
 refine aC rfl (nA (aE (hl.a)) (aE (hp.a1))) ?_
 refine aC rfl (nA (aE (hl.b)) (aE (hp.a2))) ?_
 refine aC rfl (yQ (aE (aF (hl.a) (hp.a1))) (aE (aF (hl.b) (hp.a2)))) ?_
 refine aC rfl (Gq (aE (ig (aF (hl.a) (hp.a1)) (aF (hl.b) (hp.a2)))) (aE (hl.c)))<|cz 21 [6,999999] ?_
 refine aC rfl (nA (aE (hl.a)) (aE (hp.b1))) ?_
 refine aC rfl (nA (aE (hl.b)) (aE (hp.b2))) ?_
 refine aC rfl (yQ (aE (aF (hl.a) (hp.b1))) (aE (aF (hl.b) (hp.b2)))) ?_
 refine aC rfl (xB ((No hl hp).m_) ((O3 hl hp).m_) (hp.c.m_) (fun h=>absurd h (tO.2 (yF hp.v))) hs) ?_
 refine DQ.mk<|fp (dL cG rfl) rfl rfl rfl rfl<|dc ?_
 exact ah (aQ cG rfl aa)
theorem aaw (hl:GL l) (hp:GP p):Ok Tryz.prog 88 [.a (jq l),.a (ai p)] [.a ((cR (vA l p)++cR (rB (vB l p) p.c)++cR (rC (vB l p) p.c)))]:=by
 cases hs:iC p.c with
 |true=>obtain⟨e1,e2,e3⟩:=Vj (l:=l) hp.v hs;exact zo (PW hl hp hs) e1 e2 e3
 |false=>exact Ol hl hp hs
theorem U8 (hl:GL l) (hp:GP p):Ok Tryz.prog 152 [.a (jq l),.a (ai p)] [.c (.i .i64 (z9 l p))]:=by
 refine bW Tryz.func152 rfl ?_
 refine ac rfl (aaw hl hp) ?_
 refine ac rfl (Bg ((No hl hp).m_) (aaC ((O3 hl hp).m_) (by decide)) (Yg (hp.c.m_) (by decide))) ?_
 exact ah (ak aa)
theorem TE (hk:GK k) (hp:GP p):Ok Tryz.prog 344 [.a (bo k),.a (ai p)] [.c (.b (j6 k p))]:=by
 refine bW Tryz.func344 rfl<|cz 6 [] ?_
 refine aC rfl (Fd) ?_
 refine aC rfl (abz hp (hk.y.m_))<|cz 15 [] ?_
 refine AG (bq rfl) (fun c1 hb1=>?_)
 cases c1
 ·refine AG (bq rfl) (fun c2 hb2=>?_)
  cases c2
  ·refine ah ?_
   rw[Qv (k:=k) (p:=p) hb1 hb2]
   exact ak aa
  ·refine aC rfl (n5) ?_
   refine aC rfl (abx hp (hk.x.m_))<|ah ?_
   rw[Im (k:=k) (p:=p) hb1 hb2]
   exact ak aa
 ·refine DQ.mk<|vE (nI rfl)<|dc ?_
  refine ah ?_
  rw[Uu (k:=k) (p:=p) hb1]
  exact ak aa
theorem Pn (hk:GK k) (hp:GP p) (hq:GP q):Ok Tryz.prog 284 [.a (bo k),.a (ai p),.a (ai q)] [.c (.i .i64 (fh k p q))]:=by
 refine bW Tryz.func284 rfl<|cz 8 [] ?_
 refine aC rfl (TE hk hp) ?_
 refine aC rfl (TE hk hq) ?_
 refine ar (ko rfl rfl gY rfl) ?_
 refine df rfl (fun hc1=>?_) (fun hc1=>?_)
 ·refine df rfl (fun hc2=>?_) (fun hc2=>?_)
  ·refine ah ?_
   rw[Rj (k:=k) (p:=p) (q:=q) hc1 hc2]
   exact ak aa
  ·refine ah ?_
   rw[M6 (k:=k) (p:=p) (q:=q) hc1 hc2]
   exact ak aa
 ·refine cz 6 [] ?_
  refine aC rfl (n5) ?_
  refine aC rfl (n5) ?_
  refine aC rfl (yCX hp hq) ?_
  refine df rfl (fun hc3=>?_) (fun hc3=>?_)
  ·refine ar (fi (r:= -cx p q) rfl (Ad (eJ p q)) rfl) ?_
   refine ah ?_
   rw[QG (k:=k) (p:=p) (q:=q) hc1 hc3]
   exact ak aa
  ·refine ah ?_
   rw[Ng (k:=k) (p:=p) (q:=q) hc1 hc3]
   exact ak aa
theorem Ur (hk:GK k) (hf:GP f) (hp:GP p) (hq:GP q):Ok Tryz.prog 172 [.a (bo k),.a (ai f),.a (ai p),.a (ai q)] [.c (.i .i64 (ru k f p q))]:=by
 refine bW Tryz.func172 rfl<|cz 12 [] ?_
 refine aC rfl (Pn hk hp hf) ?_
 refine aC rfl (Pn hk hq hf) ?_
 refine ar (ko rfl rfl gY rfl) ?_
 refine df rfl (fun hc1=>?_) (fun hc1=>?_)
 ·refine df rfl (fun hc2=>?_) (fun hc2=>?_)
  ·refine ah ?_
   rw[aam (k:=k) (f:=f) (p:=p) (q:=q) hc1 hc2]
   exact ak aa
  ·refine ah ?_
   rw[W9 (k:=k) (f:=f) (p:=p) (q:=q) hc1 hc2]
   exact ak aa
 ·refine ac rfl (Pn hk hp hq)<|ah ?_
  rw[Zx (k:=k) (f:=f) (p:=p) (q:=q) hc1]
  exact ak aa
theorem FG (hp:GP p):Ok Tryz.prog 174 [.a (ai p)] [.a (ai p.flip)]:=by
 refine bW Tryz.func174 rfl<|cz 7 [] ?_
 refine aC rfl (gU (hp.a1.m_)) ?_
 refine aC rfl (gU (hp.b1.m_)) ?_
 refine nM (aY (us:=(cR (-p.a1)++cR p.b1++cR p.a2++cR p.b2++cR p.c)) aX rfl rfl rfl rfl (dO rfl) rfl rfl) ?_
 refine nM (aY (us:=(cR (-p.a1)++cR (-p.b1)++cR p.a2++cR p.b2++cR p.c)) aX rfl rfl rfl rfl (dO rfl) rfl rfl) ?_
 exact ah (aQ bE rfl aa)
theorem ZG (hk:GK k) (hf:GP f) (ht:GP t):Ok Tryz.prog 173 [.a (([.b true]++mw++bo k++[.b w]++ai f++ai t))] [.a (([.b true]++mw++bo k.mir++[.b (!w)]++ai f.flip++ai t.flip))]:=by
 refine ex Tryz.func173 22 [.cell 2 49] rfl<|ae<|ag<|ae<|ag ?_
 refine ar (co (cR k.x) aX rfl (by kernel_rfl)) ?_
 refine ac rfl (gU (hk.x.m_)) ?_
 refine nM (aY (us:=([.b true]++mw++(cR k.mir.x++cR k.y++cR k.q)++[.b w]++ai f++ai t)) aX rfl rfl rfl rfl (dO (by kernel_rfl)) (by kernel_rfl) rfl) ?_
 refine ae<|sU 13 [1,999999] il (by kernel_rfl) rfl rfl<|cE 1<|Cd (by kernel_rfl) (co (ai f) bE rfl (by kernel_rfl))<|bh (cb rfl (FG hf))<|cE 1<|Cd (by kernel_rfl) (co (ai t) bE rfl (by kernel_rfl))<|bh (cb rfl (FG ht))<|cE 1<|Cd (by kernel_rfl) (gn mv rfl)<|cE 2<|iM (aY (us:=([.b true]++mw++(cR k.mir.x++cR k.y++cR k.q)++[.b w]++ai f.flip++ai t)) bE rfl rfl rfl rfl (dO (by kernel_rfl)) (by kernel_rfl) rfl) rfl rfl rfl rfl ?_
 refine cE 1<|K1 (aY (us:=([.b true]++mw++(cR k.mir.x++cR k.y++cR k.q)++[.b w]++ai f.flip++ai t.flip)) bE rfl rfl rfl rfl (dO (by kernel_rfl)) (by kernel_rfl) rfl) rfl rfl (by kernel_rfl) rfl ?_
 refine mT<|z7<|bQ 1<|iu (aY (us:=([.b true]++mw++(cR k.mir.x++cR k.y++cR k.q)++[.b (!w)]++ai f.flip++ai t.flip)) mv rfl rfl rfl rfl (dO (by kernel_rfl)) (by kernel_rfl) rfl) ?_
 refine bD<|ae<|ag ?_
 refine ar (fU bT rfl) ?_
 refine nM (dL bT rfl)<|a9 ?_
 exact ah (jM (us:=([.b true]++mw++(cR k.mir.x++cR k.y++cR k.q)++[.b (!w)]++ai f.flip++ai t.flip)) bT rfl rfl (by kernel_rfl) (by kernel_rfl) aa)
theorem N0 (_hl:GL l) (hf:GP f) (ht:GP t) (hp:GP p) (hq:GP q):Ok Tryz.prog 78 [.a (([.b false]++jq l++tK++[.b false]++ai f++ai t)),.a (ai p),.a (ai q)] [.c (.i .i64 ((Cv.seg l f t).ord p q))]:=by
 refine bW Tryz.func78 rfl ?_
 refine ar (gn mv rfl) ?_
 refine rx rfl ?_
 refine ac rfl (E6 hp hq) ?_
 refine ar (co (ai f) bE rfl (by kernel_rfl)) ?_
 refine ar (co (ai t) bE rfl (by kernel_rfl)) ?_
 refine ac rfl (E6 hf ht) ?_
 refine df rfl (fun hc1=>?_) (fun hc1=>?_)
 ·refine ar (fi (r:= -cP p q) rfl (Ad (Y6 p q)) rfl) ?_
  refine ah ?_
  rw[Xz (l:=l) (f:=f) (t:=t) (p:=p) (q:=q) hc1]
  exact ak aa
 ·refine ah ?_
  rw[W2 (l:=l) (f:=f) (t:=t) (p:=p) (q:=q) hc1]
  exact ak aa
theorem N2 (hk:GK k) (hf:GP f) (ht:GP t) (hp:GP p) (hq:GP q):Ok Tryz.prog 78 [.a (([.b true]++mw++bo k++[.b w]++ai f++ai t)),.a (ai p),.a (ai q)] [.c (.i .i64 ((Cv.arc k w f t).ord p q))]:=by
 refine bW Tryz.func78 rfl ?_
 refine ar (gn mv rfl) ?_
 refine qg rfl ?_
 refine ar (gn mv rfl) ?_
 refine df rfl (fun hc1=>?_) (fun hc1=>?_)
 ·refine ar (co (bo k) sI rfl (by kernel_rfl)) ?_
  refine ar (co (ai f) bE rfl (by kernel_rfl)) ?_
  refine ac rfl (Ur hk hf hp hq)<|ah ?_
  rw[Wt (k:=k) (w:=w) (f:=f) (t:=t) (p:=p) (q:=q) hc1]
  exact ak aa
 ·refine ar (fU bT rfl)<|ac rfl (ZG hk hf ht)<|nM (dL bT rfl)<|cz 10 [] ?_
  refine aq (co (bo k.mir) sI rfl (by kernel_rfl)) ?_
  refine aq (co (ai f.flip) bE rfl (by kernel_rfl)) ?_
  refine aC rfl (FG hp) ?_
  refine aC rfl (FG hq) ?_
  refine aC rfl (Ur (GK.mir hk) (GP.flip hf) (GP.flip hp) (GP.flip hq))<|ah ?_
  rw[XV (k:=k) (w:=w) (f:=f) (t:=t) (p:=p) (q:=q) hc1]
  exact ak aa
theorem Id (hl:GL l) (_hf:GP f) (_ht:GP t) (hp:GP p):Ok Tryz.prog 61 [.a (([.b false]++jq l++tK++[.b false]++ai f++ai t)),.a (ai p)] [.c (.b ((Cv.seg l f t).supp p))]:=by
 refine bW Tryz.func61 rfl ?_
 refine ar (gn mv rfl) ?_
 refine qg rfl ?_
 refine ar (co (jq l) V3 rfl (by kernel_rfl)) ?_
 refine ac rfl (U8 hl hp) ?_
 exact ah (ak aa)
theorem Jt (hk:GK k) (_hf:GP f) (_ht:GP t) (hp:GP p):Ok Tryz.prog 61 [.a (([.b true]++mw++bo k++[.b w]++ai f++ai t)),.a (ai p)] [.c (.b ((Cv.arc k w f t).supp p))]:=by
 refine bW Tryz.func61 rfl ?_
 refine ar (gn mv rfl) ?_
 refine rx rfl ?_
 refine ar (co (bo k) sI rfl (by kernel_rfl)) ?_
 refine ac rfl (aao hk hp) ?_
 exact ah (ak aa)
theorem aab (hl:GL l) (hf:GP f) (ht:GP t) (hp:GP p):Ok Tryz.prog 25 [.a (([.b false]++jq l++tK++[.b false]++ai f++ai t)),.a (ai p)] [.c (.b ((Cv.seg l f t).on p))]:=by
 refine bW Tryz.func25 rfl ?_
 refine ar (fU bT rfl) ?_
 refine ac rfl (Id hl hf ht hp) ?_
 refine jC (bq rfl) (fun c1 hb1=>?_)
 cases c1
 ·refine ar (bq rfl)<|ah ?_
  rw[W8 (c:=(Cv.seg l f t)) (p:=p) hb1]
  exact ak aa
 ·refine ar (fU bT rfl) ?_
  refine ar (co (ai f) bE rfl (by kernel_rfl)) ?_
  refine ac rfl (N0 hl hf ht hf hp) ?_
  refine jC (bq rfl) (fun c2 hb2=>?_)
  cases c2
  ·refine ah ?_
   rw[TW (c:=(Cv.seg l f t)) (p:=p) hb1 hb2]
   exact ak aa
  ·refine ar (fU bT rfl) ?_
   refine ar (co (ai t) bE rfl (by kernel_rfl)) ?_
   refine ac rfl (N0 hl hf ht hp ht)<|ah ?_
   rw[T1 (c:=(Cv.seg l f t)) (p:=p) hb1 hb2]
   exact ak aa
theorem Yk (hk:GK k) (hf:GP f) (ht:GP t) (hp:GP p):Ok Tryz.prog 25 [.a (([.b true]++mw++bo k++[.b w]++ai f++ai t)),.a (ai p)] [.c (.b ((Cv.arc k w f t).on p))]:=by
 refine bW Tryz.func25 rfl ?_
 refine ar (fU bT rfl) ?_
 refine ac rfl (Jt hk hf ht hp) ?_
 refine jC (bq rfl) (fun c1 hb1=>?_)
 cases c1
 ·refine ar (bq rfl)<|ah ?_
  rw[W8 (c:=(Cv.arc k w f t)) (p:=p) hb1]
  exact ak aa
 ·refine ar (fU bT rfl) ?_
  refine ar (co (ai f) bE rfl (by kernel_rfl)) ?_
  refine ac rfl (N2 hk hf ht hf hp) ?_
  refine jC (bq rfl) (fun c2 hb2=>?_)
  cases c2
  ·refine ah ?_
   rw[TW (c:=(Cv.arc k w f t)) (p:=p) hb1 hb2]
   exact ak aa
  ·refine ar (fU bT rfl) ?_
   refine ar (co (ai t) bE rfl (by kernel_rfl)) ?_
   refine ac rfl (N2 hk hf ht hp ht)<|ah ?_
   rw[T1 (c:=(Cv.arc k w f t)) (p:=p) hb1 hb2]
   exact ak aa
theorem XW (_hl:GL l) (_hf:GP f) (_ht:GP t):Ok Tryz.prog 147 [.a (([.b false]++jq l++tK++[.b false]++ai f++ai t))] [.a (([.b false]++jq l++tK++[.b false]++ai t++ai f))]:=by
 refine bW Tryz.func147 rfl<|ar (co (ai t) bE rfl (by kernel_rfl)) ?_
 refine ar (co (ai f) bE rfl (by kernel_rfl)) ?_
 refine nM (aY (us:=([.b false]++jq l++tK++[.b false]++ai t++ai t)) bE rfl rfl rfl rfl (dO (by kernel_rfl)) (by kernel_rfl) rfl) ?_
 refine nM (aY (us:=([.b false]++jq l++tK++[.b false]++ai t++ai f)) bE rfl rfl rfl rfl (dO (by kernel_rfl)) (by kernel_rfl) rfl) ?_
 refine ar (gn mv rfl)<|ar (bq rfl) ?_
 refine nM (aY (us:=([.b false]++jq l++tK++[.b false]++ai t++ai f)) mv rfl rfl rfl rfl (dO (by kernel_rfl)) (by kernel_rfl) rfl) ?_
 refine ar (fU bT rfl) ?_
 refine nM (dL bT rfl) ?_
 exact ah (jM (us:=([.b false]++jq l++tK++[.b false]++ai t++ai f)) bT rfl rfl (by kernel_rfl) (by kernel_rfl) aa)
theorem Xg (_hk:GK k) (_hf:GP f) (_ht:GP t):Ok Tryz.prog 147 [.a (([.b true]++mw++bo k++[.b w]++ai f++ai t))] [.a (([.b true]++mw++bo k++[.b (!w)]++ai t++ai f))]:=by
 refine bW Tryz.func147 rfl<|ar (co (ai t) bE rfl (by kernel_rfl)) ?_
 refine ar (co (ai f) bE rfl (by kernel_rfl)) ?_
 refine nM (aY (us:=([.b true]++mw++bo k++[.b w]++ai t++ai t)) bE rfl rfl rfl rfl (dO (by kernel_rfl)) (by kernel_rfl) rfl) ?_
 refine nM (aY (us:=([.b true]++mw++bo k++[.b w]++ai t++ai f)) bE rfl rfl rfl rfl (dO (by kernel_rfl)) (by kernel_rfl) rfl) ?_
 refine ar (gn mv rfl)<|ar (bq rfl) ?_
 refine ar (gn mv rfl) ?_
 refine nM (aY (us:=([.b true]++mw++bo k++[.b (!w)]++ai t++ai f)) mv rfl rfl rfl rfl (dO (by kernel_rfl)) (by kernel_rfl) rfl) ?_
 refine ar (fU bT rfl) ?_
 refine nM (dL bT rfl) ?_
 exact ah (jM (us:=([.b true]++mw++bo k++[.b (!w)]++ai t++ai f)) bT rfl rfl (by kernel_rfl) (by kernel_rfl) aa)
end Go.Proofs.YtegpmhlfjkhjmaaGreat
