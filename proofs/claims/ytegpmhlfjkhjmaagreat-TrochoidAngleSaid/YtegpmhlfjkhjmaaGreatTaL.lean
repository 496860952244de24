/-Data:a region with a chain of appends,in any order. -/
import Derived.Test.YtegpmhlfjkhjmaaGreatTaK
namespace Go.Proofs.YtegpmhlfjkhjmaaGreat
open Go Go.RowKit
variable {ops:Array Oper}{B:BF}{k:Ci}{us us' ys zs:List CellD}{by_ m:Nat}{x y:Operand}{P:Program}{T:TF}{U e:TypeId}
variable {ty:TypeId}{pos:String}{af:Array Edge}{g:Option (Nat×Bool)}{dst:Option Nat}
theorem rK:type_of% @Rat.div_mul_cancel:=@Rat.div_mul_cancel
section
variable {P:Program}{ops:Array Oper}{T:TF}{B:BF}
theorem C3 
 (hU:xF P U=some (e,m,by_,zs)) (hg:gd ops ⟨dst,.buildSlice U 0 #[],ty,pos,af,g⟩ T=some true):Sem P ops ⟨dst,.buildSlice U 0 #[],ty,pos,af,g⟩ T B (.r (.f 0 [])):=by
 refine⟨pF rfl,fun V β a w hs=>⟨eL hs hg,?_⟩⟩
 obtain⟨hu,i,z,hi,hz,hsz,hby,hzl,hzr⟩:=jB hU
 have hexec:(execOp a.eval ⟨dst,.buildSlice U 0 #[],ty,pos,af,g⟩).run P w=.ok (.value (.slice (some ⟨w.heap.size,0,none⟩) 0 0)) (w.alloc (.cells #[] e)):=by
  have hso: ∀w,(sizeOf e).run P w=.ok i.size w:=fun w=>by unfold sizeOf typeInfo;simp[program,Sem.run,hi]
  simp[execOp,Instr.buildSlice,run_underlying hu,hso,Instr.fill,newRow]
  grind
 unfold Gives
 rw[hexec]
 exact⟨⟨⟨_,rfl⟩,.s0 _ _ (by decide)⟩,(fJ _ w).alloc (ck _) _⟩
theorem Ed 
 (hU:xF P U=some (e,m,by_,zs)) (hx:cO T x=some (.f 0 us)) (hy:cO T y=some (.v (.c (.s 0 ys))))
 (hg:gd ops ⟨dst,.call ⟨.builtin .append,#[x,y],#[U,U]⟩,ty,pos,af,g⟩ T=some true):
 Sem P ops ⟨dst,.call ⟨.builtin .append,#[x,y],#[U,U]⟩,ty,pos,af,g⟩ T B (.r (.f 0 us)):=by
 refine⟨pF rfl,fun V β a w hs=>⟨eL hs hg,?_⟩⟩
 obtain⟨⟨A,e1⟩,hxr⟩:(∃A,a.eval x=.slice A 0 0)∧RdV V w (a.eval x) (.c (.s 0 us)):=aC hs (x:=x) (by simp[Op.operands,Call.operands]) hx
 have h2:RdC V w (a.eval y) (.s 0 ys):=aC hs (x:=y) (by simp[Op.operands,Call.operands]) hy
 have hys:ys=[]:=by
  generalize a.eval y=vy at h2
  cases h2 with
  |s0=>rfl
  |s b off c sz n' xs' cv h0=>omega
 subst hys
 obtain⟨news,hsrc,_⟩:=Aw hU h2 (by simp)
 obtain⟨hu,i,z,hi,hz,hsz,hby,_,hzr⟩:=jB hU
 subst hsz
 have hn1:news=[]:=nJ.1 (by rw[hsrc.newsLen,Nat.zero_mul])
 subst hn1
 rw[e1] at hxr
 have hrun:(Builtin.append_ #[U,U] ty #[.slice A 0 0,a.eval y]).run P w=.ok (.slice A 0 0) w:=by
  cases A with
  |none=>rcases hsrc.kind with⟨e',hk⟩|hk<;>simp[Builtin.append_,run_underlying hu,sizeOf,typeInfo,hi,hsrc.len,hsrc.cells]<;>rfl
  |some A=>
   rcases hsrc.kind with⟨e',hk⟩|hk<;>simp[Builtin.append_,run_underlying hu,sizeOf,typeInfo,hi,hsrc.len,hsrc.cells]<;>rfl
 have hexec:(execOp a.eval ⟨dst,.call ⟨.builtin .append,#[x,y],#[U,U]⟩,ty,pos,af,g⟩).run P w=.ok (.value (.slice A 0 0)) w:=by
  simp only[execOp,resolve,invoke,builtin,eM,gK,fi,uw,ru,uk,e1]
  rw[hrun]
  rfl
 unfold Gives
 rw[hexec]
 exact⟨⟨⟨A,rfl⟩,hxr⟩,fJ _ w⟩
end
theorem KB {o:Oper}{n n':Nat}(h:Sem P ops o T B (.r (.v (.c (.s n us))))) (e1:n=n') (e2:us=us'):Sem P ops o T B (.r (.v (.c (.s n' us')))):=by subst e1 e2;exact h
def rP (a b:Rat):Pt:=⟨a,0,b,0,0⟩
def mi (k:Ci):Pt:=gg k.x (-1) k.y 0 k.q
def lX (k:Ci):Pt:=gg k.x 1 k.y 0 k.q
theorem tT:Rz 1 (1:Rat):=⟨by rw[show(1:Rat).num=1 from rfl];exact LV (by decide) (by decide),by rw[show((1:Rat).den:Int)=1 from rfl];exact Sz.one (by decide)⟩
theorem r7 (hk:GK k) (h0:0<k.q):GP (mi k):=wZ (hk.x.mono (by decide)) (tT.neg.mono (by decide)) (hk.y.mono (by decide)) (dW (by decide)) (hk.q.mono (by decide)) h0 (fun e=>absurd e.1 (by decide))
theorem rR (hk:GK k) (h0:0<k.q):GP (lX k):=wZ (hk.x.mono (by decide)) (tT.mono (by decide)) (hk.y.mono (by decide)) (dW (by decide)) (hk.q.mono (by decide)) h0 (fun e=>absurd e.1 (by decide))
def zP5:List CellD:=N4++N4++N4++N4++N4
theorem aaR {q:Rat}(h0:0<q) (hs:kg q=true):rt q≠0:=by
 intro h
 have hs2:=hs
 unfold kg D6 at hs2
 simp only[di,beq_iff_eq] at hs2
 have hd:bZ (q.den:Int)≠0:=by have:=zl (den_pos q);omega
 have hdq:((bZ (q.den:Int):Int):Rat)≠0:=by simpa using hd
 have h1:((bZ q.num:Int):Rat)=0:=by
  have h2:rt q*((bZ (q.den:Int):Int):Rat)=((bZ q.num:Int):Rat):=by unfold rt;rw[yI,rK hdq]
  grind
 have h3:bZ q.num=0:=by simpa using h1
 have h4:=hs2.1
 rw[h3,ny] at h4
 have h5:q=0:=Rat.num_eq_zero.1 h4.symm
 grind
def bz (k:Ci):List Cv:=[.arc k false (mi k) (lX k),.arc k false (lX k) (mi k)]
theorem D7 {q:Nat}
 (hU:xF P U=some (e,m,by_,zs)) (hx:cO T x=some .z) (hy:cO T y=some (.v (.c (.s q ys)))) (hq:q=0)
 (hg:gd ops ⟨dst,.call ⟨.builtin .append,#[x,y],#[U,U]⟩,ty,pos,af,g⟩ T=some true):
 Sem P ops ⟨dst,.call ⟨.builtin .append,#[x,y],#[U,U]⟩,ty,pos,af,g⟩ T B (.r .z):=by
 subst hq
 refine⟨pF rfl,fun V β a w hs=>⟨eL hs hg,?_⟩⟩
 have e1:a.eval x=.slice none 0 0:=aC hs (x:=x) (by simp[Op.operands,Call.operands]) hx
 have h2:RdC V w (a.eval y) (.s 0 ys):=aC hs (x:=y) (by simp[Op.operands,Call.operands]) hy
 have hys:ys=[]:=by
  generalize a.eval y=vy at h2
  cases h2 with
  |s0=>rfl
  |s b off c sz n' xs' cv h0=>omega
 subst hys
 obtain⟨news,hsrc,_⟩:=Aw hU h2 (by simp)
 obtain⟨hu,i,z,hi,hz,hsz,hby,_,hzr⟩:=jB hU
 subst hsz
 have hn1:news=[]:=nJ.1 (by rw[hsrc.newsLen,Nat.zero_mul])
 subst hn1
 have hrun:(Builtin.append_ #[U,U] ty #[.slice none 0 0,a.eval y]).run P w=.ok (.slice none 0 0) w:=by
  rcases hsrc.kind with⟨e',hk⟩|hk<;>simp[Builtin.append_,run_underlying hu,sizeOf,typeInfo,hi,hsrc.len,hsrc.cells]<;>rfl
 have hexec:(execOp a.eval ⟨dst,.call ⟨.builtin .append,#[x,y],#[U,U]⟩,ty,pos,af,g⟩).run P w=.ok (.value (.slice none 0 0)) w:=by
  simp only[execOp,resolve,invoke,builtin,eM,gK,fi,uw,ru,uk,e1]
  rw[hrun]
  rfl
 unfold Gives
 rw[hexec]
 exact⟨rfl,fJ _ w⟩
end Go.Proofs.YtegpmhlfjkhjmaaGreat
namespace Go.Proofs.YtegpmhlfjkhjmaaGreat
def uK (k:Fin 4):Bool:=k==0||k==1
def uF (k:Fin 4):Bool:=k==2||k==1
def DS (u v:Bool) (n:Int):Int:=if u !=v then(if v then-1 else 1) else if u then-n else n
def BK (u v:Bool) (n:Int):Int:=if u !=v then(if u then-1 else 1) else if u then-n else n
def Fw (a1 a2 a3:Int):Int:=if decide (a1<0) !=decide (a2<0) then(if decide (a2<0) then-1 else 1) else a3
def NT (b:Int):Int:=if b=0 then 0 else if b>0 then 1 else 2
def sg1 (n:Int):Int:=min 1 (max (-1) n)
def wt (b1 b2 b3:Int):Int:=if NT b1≠NT b2 then sg1 (NT b1-NT b2) else sg1 b3
def i3 (i:Fin 3):Int:=(i.val:Int)-1
def Fj (n1 n2 n3:Int):Bool:=(n2 !=0||n3==n1)&&(n1 !=0||n3== -n2)&&(n1 != -n2||n3==n1)
def pd (k l:Fin 4) (n:Int):Bool:=
 if k=0 then n==(if l=0 then 0 else 1) else if k=2 then n==(if l=2 then 0 else-1)
 else if l=0 then n== -1 else if l=2 then n==1 else true
set_option maxRecDepth 100000 in
theorem QF: ∀(uf up uq:Bool) (i j l:Fin 3),Fj (i3 i) (i3 j) (i3 l)=true→
 Fw (DS up uf (i3 i)) (DS uq uf (i3 j)) (DS up uq (i3 l))=wt (BK up uf (i3 i)) (BK uq uf (i3 j)) (BK up uq (i3 l)):=by decide+kernel
def cwR (kf kp kt:Fin 4) (n1 n2 n3:Int):Bool:=
 decide (Fw (DS (uF kf) (uF kf) 0) (DS (uF kp) (uF kf) (-n1)) (DS (uF kf) (uF kp) n1)≤0)&&
 decide (Fw (DS (uF kp) (uF kf) (-n1)) (DS (uF kt) (uF kf) (-n2)) (DS (uF kp) (uF kt) (-n3))≤0)
def cwP (kf kp kt:Fin 4) (n1 n2 n3:Int):Bool:=
 decide (wt (BK (uK kp) (uK kt) n3) (BK (uK kf) (uK kt) (-n2)) (BK (uK kp) (uK kf) n1)≤0)
set_option maxRecDepth 100000 in
theorem Tq: ∀(kf kp kt:Fin 4) (i j l:Fin 3),Fj (i3 i) (i3 j) (i3 l)=true→pd kp kf (i3 i)=true→pd kt kf (i3 j)=true→pd kp kt (i3 l)=true→
 cwR kf kp kt (i3 i) (i3 j) (i3 l)=cwP kf kp kt (i3 i) (i3 j) (i3 l):=by decide+kernel
def adK (uf up ut:Bool) (n1 n2 n3:Int):Bool:=
 decide (Fw (DS uf uf 0) (DS up uf n1) (DS uf up (-n1))≤0)&&decide (Fw (DS up uf n1) (DS ut uf n2) (DS up ut n3)≤0)
def ad1 (uf up ut:Bool) (n1 n2 n3:Int):Bool:=decide (wt (BK up uf n1) (BK ut uf n2) (BK up ut n3)≤0)
set_option maxRecDepth 100000 in
theorem Pb: ∀(uf up ut:Bool) (i j l:Fin 3),Fj (i3 i) (i3 j) (i3 l)=true→adK uf up ut (i3 i) (i3 j) (i3 l)=ad1 uf up ut (i3 i) (i3 j) (i3 l):=by decide+kernel
end Go.Proofs.YtegpmhlfjkhjmaaGreat
namespace Go.Proofs.YtegpmhlfjkhjmaaGreat
open Go Go.RowKit
variable {k:Ci}{c:Cv}{L l:List Pt}{f o p q t x:Pt}{a b:Rat}
def pX (p:Pt):Re:=xG p.a1 p.b1 p.c
def pY (p:Pt):Re:=xG p.a2 p.b2 p.c
theorem cg (h:GP p):0≤p.c:=By h.v
theorem nT (hp:0≤p.c) (hq:0≤q.c):cx p q=aB (pX p-pX q):=sr hp hq
theorem rW (hp:0≤p.c) (hq:0≤q.c):cy p q=aB (pY p-pY q):=sr hp hq
theorem nG (hp:0≤p.c) (v:Rat):lu p v=aB (pX p-Re.of v):=by
 unfold lu
 rw[jn (lk hp)]
 exact congrArg aB (aM fun n=>by unfold pX xG az;simp only[aD,aj,aE,aK];grind)
theorem Bv (hp:0≤p.c) (v:Rat):s8 p v=aB (pY p-Re.of v):=by
 unfold s8
 rw[jn (lk hp)]
 exact congrArg aB (aM fun n=>by unfold pY xG az;simp only[aD,aj,aE,aK];grind)
theorem dd (hp:0≤p.c) (hq:0≤q.c):cx q p= -cx p q:=by rw[nT hp hq,nT hq hp,vJ]
theorem BV (hp:0≤p.c):cx p p=0:=by rw[nT hp hp,qc]
theorem Ua {A B c:Rat}(hc:0≤c) (b1 b2 x y:Rat) (hA:A=TV x y b1 b2 c) (hB:B=TO x y b1 b2):
 aB (az A B (zc B c)-(xG x b1 c*xG x b1 c+xG y b2 c*xG y b2 c))=0:=by
 subst hA hB
 rw[show az (TV x y b1 b2 c) (TO x y b1 b2) (zc (TO x y b1 b2) c)=xG (TV x y b1 b2 c) (TO x y b1 b2) c from rfl,oZ,oZ,oZ]
 have h:=lh hc
 have e:Re.of (TV x y b1 b2 c)+Re.of (TO x y b1 b2)*Re.rt c-((Re.of x+Re.of b1*Re.rt c)*(Re.of x+Re.of b1*Re.rt c)+(Re.of y+Re.of b2*Re.rt c)*(Re.of y+Re.of b2*Re.rt c))=Re.of (-(b1*b1+b2*b2))*(Re.rt c*Re.rt c-Re.of c):=aM fun n=>by
  unfold TV TO
  simp only[aD,aj,aE,aK];grind
 rw[e,aY,h,ny]
def xA (k:Ci) (p:Pt):Re:=(pX p-Re.of k.x)*(pX p-Re.of k.x)+(pY p-Re.of k.y)*(pY p-Re.of k.y)-Re.of k.q
theorem EA (a b c v:Rat):xG (a-v) b c=xG a b c-Re.of v:=aM fun n=>by unfold xG az;simp only[aD,aj,aE,aK];grind
theorem W2 (hp:0≤p.c):aB (az (PE k p) (NZ k p) (zc (NZ k p) p.c))=aB (xA k p):=by
 refine cY ?_
 have h:=Ua (A:=TV (p.a1-k.x) (p.a2-k.y) p.b1 p.b2 p.c) (B:=NZ k p) hp p.b1 p.b2 (p.a1-k.x) (p.a2-k.y) rfl rfl
 rw[←h]
 refine congrArg aB (aM fun n=>?_)
 unfold xA pX pY
 rw[EA,EA]
 unfold PE az
 simp only[aD,aj,aE,aK];grind
theorem Ce (hv:BE p.b1 p.b2 p.c=true):dE k p= -aB (xA k p):=by
 unfold dE
 rw[←W2 (By hv),SS (lk (By hv))]
 intro hb
 have h:=YT hv (x:=p.a1-k.x) (y:=p.a2-k.y) hb
 rw[show zc (NZ k p) p.c=p.c from by unfold zc;rw[if_neg hb]]
 grind
theorem yv (hp:GP p):dE k p= -aB (xA k p):=Ce hp.v
theorem nr (k:Ci) (p:Pt): -1≤dE k p∧dE k p≤1:=by have:=abt (PE k p) (NZ k p) (zc (NZ k p) p.c);unfold dE;omega
theorem FP (p:Pt) (v:Rat): -1≤lu p v∧lu p v≤1:=gY _ _ _
def OnK (k:Ci) (p:Pt):Prop:=GP p∧dE k p=0
theorem bK {w:Bool}:(Cv.arc k w f t).supp p=true↔dE k p=0:=by
 show(dE k p==0)=true↔_
 simp
def kd (k:Ci) (p:Pt):Fin 4:=if s8 p k.y>0 then 1 else if s8 p k.y=0 then(if lu p k.x>0 then 0 else 2) else 3
theorem fW (k:Ci) (p:Pt):qp k p=uK (kd k p):=by
 unfold qp kd uK
 by_cases h:s8 p k.y>0
 ·grind
 grind
section
variable {k:Ci}{p:Pt}(hq:0<k.q) (hp:OnK k p)
include hp
theorem aU:0≤p.c:=cg hp.1
theorem ww:aB (xA k p)=0:=by have h1:=yv (k:=k) hp.1;rw[hp.2] at h1;omega
include hq
theorem Sd (h:s8 p k.y=0):lu p k.x≠0:=by
 intro h2
 rw[Bv (aU hp)] at h
 rw[nG (aU hp)] at h2
 have e:Re.of k.q=((pX p-Re.of k.x)*(pX p-Re.of k.x)+(pY p-Re.of k.y)*(pY p-Re.of k.y))+ -xA k p:=aM fun n=>by unfold xA;simp only[aD,aj,aE,aK,aV];grind
 have h3:aB (Re.of k.q)=0:=by
  rw[e,dH _ (by rw[bG,ww hp];rfl),dH _ (by rw[aY,h,oG]),aY,h2,oG]
 rw[bQ] at h3
 have:=uN.1 h3
 grind
end
theorem Cm (p:Pt):pX p.flip= -pX p:=aM fun n=>by
 show(xG (-p.a1) (-p.b1) p.c).s n=_
 unfold pX xG az
 have:zc (-p.b1) p.c=zc p.b1 p.c:=by
  by_cases h:p.b1=0
  ·grind
  ·rw[yU h,yU (by grind)]
 simp only[aD,aE,aK,aV];grind
theorem V3 (p:Pt):pY p.flip=pY p:=rfl
theorem Dp (hp:0≤p.c):lu p.flip k.mir.x= -lu p k.x:=by
 rw[nG (show 0≤p.flip.c from hp),nG hp,Cm,←bG]
 exact congrArg aB (aM fun n=>by show _+ -(-k.x)=_;simp only[aj,aK,aV];grind)
theorem C8 (k:Ci) (p:Pt):s8 p.flip k.mir.y=s8 p k.y:=rfl
theorem m7 (hp:0≤p.c) (hq:0≤q.c):cx p.flip q.flip= -cx p q:=by
 rw[nT (show 0≤p.flip.c from hp) (show 0≤q.flip.c from hq),nT hp hq,Cm,Cm,←bG]
 exact congrArg aB (aM fun n=>by simp only[aj,aV];grind)
theorem sV (hq:0<k.q) (hp:OnK k p):qp k.mir p.flip=uF (kd k p):=by
 have h1:=Dp (k:=k) (aU hp)
 have h2:=Sd hq hp
 unfold qp kd uF
 rw[h1,C8]
 by_cases h:s8 p k.y>0
 ·grind
 grind
theorem fL (k:Ci) (p q:Pt):s9 k p q=DS (qp k p) (qp k q) (cx p q):=rfl
def oR (k:Ci) (p q:Pt):Int:=BK (qp k p) (qp k q) (cx p q)
def sS (k:Ci) (f p:Pt):Int:=NT (oR k p f)
def yC (k:Ci) (f p q:Pt):Int:=wt (oR k p f) (oR k q f) (oR k p q)
theorem ti (k:Ci) (f p q:Pt):xI k f p q=Fw (s9 k p f) (s9 k q f) (s9 k p q):=rfl
theorem fp {n:Int}(h: -1≤n∧n≤1): ∃i:Fin 3,n=i3 i:=by
 rcases(by omega:n= -1∨n=0∨n=1) with h|h|h
 ·exact⟨0,h⟩
 ·exact⟨1,h⟩
 ·exact⟨2,h⟩
theorem jx (hf:0≤f.c) (hp:0≤p.c) (ht:0≤t.c):Fj (cx p f) (cx t f) (cx p t)=true:=by
 rw[nT hp hf,nT ht hf,nT hp ht]
 have e2:pX p-pX t=(pX p-pX f)+ -(pX t-pX f):=aM fun n=>by simp only[aD,aj,aV];grind
 unfold Fj
 simp only[di,sY,bne_iff_ne,beq_iff_eq]
 refine⟨⟨?_,?_⟩,?_⟩
 ·by_cases h:aB (pX t-pX f)=0
  ·right;rw[e2];exact dH _ (by rw[bG,h];rfl)
  grind
 ·by_cases h:aB (pX p-pX f)=0
  ·right;rw[e2,nm h,bG]
  grind
 ·by_cases h:aB (pX p-pX f)= -aB (pX t-pX f)
  ·right;rw[e2,jF (by rw[bG];exact h)]
  grind
theorem jL (X:Re):aB (X+X)=aB X:=jF rfl
theorem DF {l:Pt}(hp:OnK k p) (hl:OnK k l) (h0:s8 p k.y=0) (h1:lu p k.x>0):
 (s8 l k.y=0∧lu l k.x>0∧cx p l=0)∨(¬(s8 l k.y=0∧lu l k.x>0)∧cx p l=1):=by
 have cp:=aU hp
 have cl:=aU hl
 rw[Bv cp] at h0
 rw[nG cp] at h1
 rw[Bv cl,nG cl,nT cp cl]
 generalize hP:pX p-Re.of k.x=P at*
 generalize hL:pX l-Re.of k.x=L at*
 generalize hY:pY p-Re.of k.y=Y at*
 generalize hZ:pY l-Re.of k.y=Z at*
 have d:pX p-pX l=P-L:=by rw[←hP,←hL];exact aM fun n=>by simp only[aj];grind
 rw[d]
 have w1:xA k p=P*P+Y*Y-Re.of k.q:=by rw[←hP,←hY];rfl
 have w2:xA k l=L*L+Z*Z-Re.of k.q:=by rw[←hL,←hZ];rfl
 have e:(P-L)*(P+L)=(Z*Z+(P*P+Y*Y-Re.of k.q))+(-(L*L+Z*Z-Re.of k.q)+ -(Y*Y)):=aM fun n=>by simp only[aD,aj,aE,aK,aV];grind
 have z1:aB (-(L*L+Z*Z-Re.of k.q)+ -(Y*Y))=0:=by
  rw[dH _ (by rw[bG,aY,h0];rfl),bG,←w2,ww hl];rfl
 have hprod:aB (P-L)*aB (P+L)=aB Z*aB Z:=by
  rw[←aY,e,dH _ z1,dH _ (by rw[←w1];exact ww hp),aY]
 have s2:(P-L)+(P+L)=P+P:=aM fun n=>by simp only[aD,aj];grind
 have hP1:aB (P+P)=1:=by rw[jL];have:=bg P;omega
 have hPL:L=P+ -(P-L):=aM fun n=>by simp only[aD,aj,aV];grind
 have hPL2:L= -P+(P+L):=aM fun n=>by simp only[aD,aV];grind
 rcases bg Z with c|c|c
 ·right
  refine⟨fun h=>by omega,?_⟩
  rcases bg (P-L) with a|a|a
  ·exact a
  ·grind
  ·exfalso
   have:aB (P+L)= -1:=by grind
   have:=jF (x:=P-L) (y:=P+L) (by omega)
   grind
 ·rw[c] at hprod
  rcases bg (P-L) with a|a|a
  ·right
   have h5:aB (P+L)=0:=by grind
   have:aB L= -aB P:=by rw[hPL2,dH _ h5,bG]
   omega
  ·left
   have:aB L=aB P:=by rw[hPL,dH _ (by rw[bG,a];rfl)]
   grind
  ·exfalso
   have h5:aB (P+L)=0:=by grind
   have:=dH (P-L) h5
   grind
 ·right
  refine⟨fun h=>by omega,?_⟩
  rcases bg (P-L) with a|a|a
  ·exact a
  ·grind
  ·exfalso
   have:aB (P+L)= -1:=by grind
   have:=jF (x:=P-L) (y:=P+L) (by omega)
   grind
theorem SF (_hp:0≤p.c):aB (xA k.mir p.flip)=aB (xA k p):=by
 refine congrArg aB (aM fun n=>?_)
 unfold xA
 rw[Cm,V3]
 simp only[Ci.mir,aD,aj,aE,aK,aV];grind
theorem OnK.flip (hp:OnK k p):OnK k.mir p.flip:=by
 refine⟨hp.1.flip,?_⟩
 rw[yv hp.1.flip,SF (aU hp),ww hp];rfl
theorem GA {l:Pt}(hp:OnK k p) (hl:OnK k l) (h0:s8 p k.y=0) (h1:lu p k.x<0):
 (s8 l k.y=0∧lu l k.x<0∧cx p l=0)∨(¬(s8 l k.y=0∧lu l k.x<0)∧cx p l= -1):=by
 have h:=DF hp.flip hl.flip (by rw[C8];exact h0) (by rw[Dp (aU hp)];omega)
 rw[C8,Dp (aU hl),m7 (aU hp) (aU hl)] at h
 grind
theorem yX (hq:0<k.q) (hp:OnK k p):(kd k p=0∧s8 p k.y=0∧lu p k.x>0)∨(kd k p=1∧s8 p k.y>0)∨(kd k p=2∧s8 p k.y=0∧lu p k.x<0)∨(kd k p=3∧s8 p k.y<0):=by
 have h2:=Sd hq hp
 unfold kd
 grind
theorem gJ {l:Pt}(hq:0<k.q) (hp:OnK k p) (hl:OnK k l):pd (kd k p) (kd k l) (cx p l)=true:=by
 have R:=DF hp hl
 have L:=GA hp hl
 have R':=DF hl hp
 have L':=GA hl hp
 rw[dd (aU hp) (aU hl)] at R' L'
 rcases yX hq hp with⟨e1,a1,a2⟩|⟨e1,a1⟩|⟨e1,a1,a2⟩|⟨e1,a1⟩<;>rcases yX hq hl with⟨e2,b1,b2⟩|⟨e2,b1⟩|⟨e2,b1,b2⟩|⟨e2,b1⟩<;>rw[e1,e2]<;>simp[pd]
 all_goals first
  |(have h:=R a1 a2;omega)
  |(have h:=L a1 a2;omega)
  |(have h:=R' b1 b2;omega)
  |(have h:=L' b1 b2;omega)
theorem AO (hf:GP f) (ht:GP t) (hp:GP p):(decide ((Cv.arc k false f t).ord f p≤0)&&decide ((Cv.arc k false f t).ord p t≤0))=decide (yC k f p t≤0):=by
 have cf:=cg hf
 have ct:=cg ht
 have cp:=cg hp
 show(decide (xI k f f p≤0)&&decide (xI k f p t≤0))=_
 have ht:=jx cf cp ct
 obtain⟨i,hi⟩:=fp (fh p f)
 obtain⟨j,hj⟩:=fp (fh t f)
 obtain⟨l,hl⟩:=fp (fh p t)
 have h:=Pb (qp k f) (qp k p) (qp k t) i j l (by rw[←hi,←hj,←hl];exact ht)
 rw[←hi,←hj,←hl] at h
 rw[ti,ti,fL,fL,fL,fL,fL,BV cf,dd cp cf]
 exact h
theorem Df (hq:0<k.q) (hf:OnK k f) (ht:OnK k t) (hp:OnK k p):(decide ((Cv.arc k true f t).ord f p≤0)&&decide ((Cv.arc k true f t).ord p t≤0))=decide (yC k t p f≤0):=by
 have cf:=aU hf
 have ct:=aU ht
 have cp:=aU hp
 show(decide (xI k.mir f.flip f.flip p.flip≤0)&&decide (xI k.mir f.flip p.flip t.flip≤0))=_
 have h3:=jx cf cp ct
 have m1:=gJ hq hp hf
 have m2:=gJ hq ht hf
 have m3:=gJ hq hp ht
 obtain⟨i,hi⟩:=fp (fh p f)
 obtain⟨j,hj⟩:=fp (fh t f)
 obtain⟨l,hl⟩:=fp (fh p t)
 rw[hi] at m1
 rw[hj] at m2
 rw[hl] at m3
 have h:=Tq (kd k f) (kd k p) (kd k t) i j l (by rw[←hi,←hj,←hl];exact h3) m1 m2 m3
 rw[←hi,←hj,←hl] at h
 unfold cwR cwP at h
 rw[ti,ti,fL,fL,fL,fL,fL,m7 cf cf,m7 cp cf,m7 cf cp,m7 ct cf,m7 cp ct,BV cf,dd cp cf,Int.neg_zero,Int.neg_neg,sV hq hf,sV hq hp,sV hq ht,h]
 unfold yC oR
 rw[dd ct cf,fW,fW,fW]
theorem YC (k:Ci) (f p q:Pt): -1≤yC k f p q∧yC k f p q≤1:=by unfold yC wt sg1;split<;>omega
theorem T7 (hf:GP f) (hp:GP p) (hq:GP q):(Cv.arc k false f t).ord p q=yC k f p q:=by
 show xI k f p q=_
 have ht:=jx (cg hf) (cg hp) (cg hq)
 obtain⟨i,hi⟩:=fp (fh p f)
 obtain⟨j,hj⟩:=fp (fh q f)
 obtain⟨l,hl⟩:=fp (fh p q)
 have h:=QF (qp k f) (qp k p) (qp k q) i j l (by rw[←hi,←hj,←hl];exact ht)
 rw[←hi,←hj,←hl] at h
 exact h
theorem Rl (a b c:Rat):eB a b c≤eF a b c:=by
 cases h:eh a b c with
 |true=>have hi:=LM h;exact fm.1 (gC (et hi.1 hi.2))
 |false=>rw[(rj h).1,(rj h).2];exact o9 _
theorem RH (a b c:Rat):Bd (eB a b c)∧Bd (eF a b c):=by
 cases h:eh a b c with
 |false=>rw[(rj h).1,(rj h).2];exact⟨Bd.zero,Bd.zero⟩
 |true=>
  have hle:=Rl a b c
  have h2:=h
  unfold eh V8 at h2
  simp only[di,sY] at h2
  unfold eB eF at*
  rw[if_pos h,if_pos h] at*
  have h3:=Ex h2.1
  split
  ·exact⟨⟨h3.1,h3.2.1⟩,h3.2.2⟩
  ·rename_i g
   rw[if_neg g,if_neg g] at hle
   have h4:=L9 (h2.2.resolve_left g).2.2.2.2
   unfold Bd
   omega
theorem aaX (a b c:Rat):Bd (eB a b c):=(RH a b c).1
theorem acd (a b c:Rat):Bd (eF a b c):=(RH a b c).2
theorem Bd.neg {x:Int}(h:Bd x):Bd (-x):=by unfold Bd at*;omega
theorem P6 {lo hi:Int}{X:Re}(h:vi lo hi X):vi (-hi) (-lo) (-X):=by
 refine⟨ln (fun k=>?_) h.2,ln (fun k=>?_) h.1⟩
 ·simp only[aj,aE,aK,aV,qm];grind
 ·simp only[aj,aE,aK,aV,qm];grind
theorem Wr {x y:Int}(h:x≤y): -y≤ -x:=by omega
def BJ (a b c v:Rat):Bool:=eh a b c&&jo v
def Eo (a b c v:Rat):Int:=if BJ a b c v then aL (eB a b c) (eF a b c) (-gH v) (-gL v) else 0
def EV (a b c v:Rat):Int:=if BJ a b c v then aH (eB a b c) (eF a b c) (-gH v) (-gL v) else 0
def JC (a b c v:Rat):Bool:=BJ a b c v&&xD (eB a b c+ -gH v) (eF a b c+ -gL v)
section
variable {a b c v:Rat}
theorem Ez (h:BJ a b c v=false):Eo a b c v=0∧EV a b c v=0∧JC a b c v=false:=by unfold Eo EV JC;rw[h];exact⟨rfl,rfl,rfl⟩
theorem GJ (h:BJ a b c v=true):Eo a b c v=aL (eB a b c) (eF a b c) (-gH v) (-gL v)∧EV a b c v=aH (eB a b c) (eF a b c) (-gH v) (-gL v)∧JC a b c v=xD (eB a b c+ -gH v) (eF a b c+ -gL v):=by unfold Eo EV JC;rw[h];exact⟨rfl,rfl,rfl⟩
theorem FO (a b c v:Rat):Bd (Eo a b c v):=by
 unfold Eo;split
 ·exact LN (Rl _ _ _) (Wr (D8 _))
 ·exact Bd.zero
theorem FN (a b c v:Rat):Bd (EV a b c v):=by
 unfold EV;split
 ·exact Lc (Rl _ _ _) (Wr (D8 _))
 ·exact Bd.zero
theorem Xr (h:JC a b c v=true):vi (Eo a b c v) (EV a b c v) (az a b c+ -Re.of v):=by
 have h0:=h
 unfold JC at h
 rw[di] at h
 obtain⟨e1,e2,_⟩:=GJ h.1
 rw[e1,e2]
 have h2:=h.1
 unfold BJ at h2
 rw[di] at h2
 exact N9 (LM h2.1) (P6 (IJ h2.2)) h.2
end
section
variable (k:Ci) (p:Pt)
def Pv:Int:=pL (Eo p.a1 p.b1 p.c k.x) (EV p.a1 p.b1 p.c k.x) (Eo p.a1 p.b1 p.c k.x) (EV p.a1 p.b1 p.c k.x)
def OY:Int:=pH (Eo p.a1 p.b1 p.c k.x) (EV p.a1 p.b1 p.c k.x) (Eo p.a1 p.b1 p.c k.x) (EV p.a1 p.b1 p.c k.x)
def VG:Bool:=AD (Eo p.a1 p.b1 p.c k.x) (EV p.a1 p.b1 p.c k.x) (Eo p.a1 p.b1 p.c k.x) (EV p.a1 p.b1 p.c k.x) 4
def P4:Int:=pL (Eo p.a2 p.b2 p.c k.y) (EV p.a2 p.b2 p.c k.y) (Eo p.a2 p.b2 p.c k.y) (EV p.a2 p.b2 p.c k.y)
def Pi:Int:=pH (Eo p.a2 p.b2 p.c k.y) (EV p.a2 p.b2 p.c k.y) (Eo p.a2 p.b2 p.c k.y) (EV p.a2 p.b2 p.c k.y)
def Yy:Bool:=AD (Eo p.a2 p.b2 p.c k.y) (EV p.a2 p.b2 p.c k.y) (Eo p.a2 p.b2 p.c k.y) (EV p.a2 p.b2 p.c k.y) 4
def smL:Int:=aL (Pv k p) (OY k p) (P4 k p) (Pi k p)
def smH:Int:=aH (Pv k p) (OY k p) (P4 k p) (Pi k p)
def smK:Bool:=xD (Pv k p+P4 k p) (OY k p+Pi k p)
def rsL:Int:=aL (smL k p) (smH k p) (-gH k.q) (-gL k.q)
def rsH:Int:=aH (smL k p) (smH k p) (-gH k.q) (-gL k.q)
def rsK:Bool:=xD (smL k p+ -gH k.q) (smH k p+ -gL k.q)
def Tn:Bool:=JC p.a1 p.b1 p.c k.x&&(JC p.a2 p.b2 p.c k.y&&jo k.q)
def MI:Bool:=Tn k p&&(VG k p&&Yy k p)
def Jy:Bool:=MI k p&&smK k p
def El:Bool:=Jy k p&&rsK k p
def XQ:Bool:=El k p&&Nu (rsL k p) (rsH k p)
def WC:Int:=if El k p then NG (rsL k p) (rsH k p) else 0
end
section
variable {k:Ci}{p:Pt}
theorem rm (h:El k p=false):WC k p=0∧XQ k p=false:=by unfold WC XQ;rw[h];exact⟨rfl,rfl⟩
theorem J2 (h:El k p=true):WC k p=NG (rsL k p) (rsH k p)∧XQ k p=Nu (rsL k p) (rsH k p):=by unfold WC XQ;rw[h];exact⟨rfl,rfl⟩
theorem v3z {c:Rat}:az a b (zc b c)=az a b c:=aM fun n=>by
 unfold az zc
 by_cases h:b=0
 ·subst h;simp only[aD,aE,aK];grind
 ·rw[if_neg h]
theorem UX (h:XQ k p=true):WC k p=aB (xA k p):=by
 unfold XQ at h
 rw[di] at h
 obtain⟨h4,hs⟩:=h
 rw[(J2 h4).1]
 unfold El Jy MI Tn at h4
 simp only[di] at h4
 obtain⟨⟨⟨⟨k1,k2,k3⟩,k4,k5⟩,k6⟩,k7⟩:=h4
 have i1:=Xr k1
 have i2:=Xr k2
 have j1:vi (Pv k p) (OY k p) _:=NV i1 i1 k4
 have j2:vi (P4 k p) (Pi k p) _:=NV i2 i2 k5
 have j3:vi (smL k p) (smH k p) _:=N9 j1 j2 k6
 have j4:vi (rsL k p) (rsH k p) _:=N9 j3 (P6 (IJ k3)) k7
 rw[K8 j4 hs]
 refine congrArg aB (aM fun n=>?_)
 unfold xA pX pY xG
 rw[v3z,v3z]
 simp only[aD,aj,aE,aK,aV]
theorem KX:Bd (Pv k p)∧Bd (OY k p):=⟨E7 _ _ _ _,Er _ _ _ _⟩
theorem Lu:Bd (P4 k p)∧Bd (Pi k p):=⟨E7 _ _ _ _,Er _ _ _ _⟩
theorem Qp:Bd (smL k p)∧Bd (smH k p):=⟨LN (BB _ _ _ _) (BB _ _ _ _),Lc (BB _ _ _ _) (BB _ _ _ _)⟩
theorem abE (hv:BE p.b1 p.b2 p.c=true) (h:XQ k p=true): -WC k p=dE k p:=by rw[UX h,Ce hv]
theorem acW (hv:BE p.b1 p.b2 p.c=true): -bD (PE k p) (NZ k p) p.c=dE k p:=by
 rw[jn (By hv),Ce hv,←W2 (By hv),v3z]
end
def PB (l:Ln) (p:Pt):Re:=Re.of l.a*pX p+Re.of l.b*pY p-Re.of l.c
theorem XC {l:Ln}:az (vA l p) (vB l p) p.c=PB l p:=aM fun n=>by
 unfold PB pX pY xG
 rw[v3z,v3z]
 unfold az vA vB
 simp only[aD,aj,aE,aK];grind
theorem TH {l:Ln}(hv:BE p.b1 p.b2 p.c=true):Bp l p=aB (PB l p):=by
 have hc:=By hv
 unfold Bp
 by_cases hb:vB l p=0
 ·rw[Zs (.inl hb),YJ (.inl hb),SS (by decide) (fun h=>absurd rfl h),←XC]
  refine congrArg aB (aM fun n=>?_)
  unfold az
  simp only[aD,aE,aK];grind
 ·have hcc:0<p.c∧kg p.c=false:=by
   unfold BE at hv
   split at hv
   ·rename_i e
    exact absurd (by unfold vB;rw[e.1,e.2];grind) hb
   grind
  have hc0:p.c≠0:=by have:=hcc.1;grind
  have e1:rB (vB l p) p.c=vB l p:=by unfold rB;rw[if_neg (by rintro(h|h);exact hb h;exact hc0 h)]
  have e2:rC (vB l p) p.c=p.c:=by unfold rC;rw[if_neg (by rintro(h|h);exact hb h;exact hc0 h)]
  rw[e1,e2,SS hc (fun _=>hcc),XC]
theorem SN {l:Ln}(hp:GP p):Bp l p=aB (PB l p):=TH hp.v
def Cv.pos:Cv→Prop
 | .seg ..=>True
 | .arc k _ _ _=>0<k.q
structure CvV (c:Cv):Prop where
 g:c.good
 pos:c.pos
 sp:c.supp c.p=true
 sq:c.supp c.q=true
 ne:cP c.p c.q≠0
theorem eH:cP p q=0↔cx p q=0∧cy p q=0:=by
 show(if cx p q≠0 then cx p q else cy p q)=0↔_
 grind
theorem fS (hp:0≤p.c) (hq:0≤q.c):cP q p= -cP p q:=Ku hp hq
theorem mh (hp:0≤p.c):cP p p=0:=JV hp
theorem CvV.rev (h:CvV c):CvV c.rev:=by
 have hp:=cg (kO h.g)
 have hq:=cg (tK h.g)
 cases c with
 |seg l p q=>exact⟨Jn h.g,trivial,h.sq,h.sp,fun e=>h.ne (by have:=fS hp hq;have e2:cP q p=0:=e;show cP p q=0;have h3:cP q p= -cP p q:=this;omega)⟩
 |arc k w p q=>exact⟨Jn h.g,h.pos,h.sq,h.sp,fun e=>h.ne (by have:=fS hp hq;have e2:cP q p=0:=e;show cP p q=0;have h3:cP q p= -cP p q:=this;omega)⟩
theorem B6 {x y:Re}(h:aB (x-y)=0) (v:Re):aB (x-v)=aB (y-v):=cY (by rw[←h];exact congrArg aB (aM fun n=>by simp only[aj];grind))
section
variable {p q:Pt}(hp:0≤p.c) (hq:0≤q.c) (h:cP p q=0)
include hp hq h
theorem xl (hf:0≤f.c):cx p f=cx q f:=by
 have h1:=(eH.1 h).1
 rw[nT hp hq] at h1
 rw[nT hp hf,nT hq hf];exact B6 h1 _
theorem Cg (hf:0≤f.c):cy p f=cy q f:=by
 have h1:=(eH.1 h).2
 rw[rW hp hq] at h1
 rw[rW hp hf,rW hq hf];exact B6 h1 _
theorem Sm (v:Rat):lu p v=lu q v:=by
 have h1:=(eH.1 h).1
 rw[nT hp hq] at h1
 rw[nG hp,nG hq];exact B6 h1 _
theorem ST (v:Rat):s8 p v=s8 q v:=by
 have h1:=(eH.1 h).2
 rw[rW hp hq] at h1
 rw[Bv hp,Bv hq];exact B6 h1 _
theorem CC (k:Ci):qp k p=qp k q:=by unfold qp;rw[Sm hp hq h,ST hp hq h]
theorem HZ (hf:0≤f.c):xI k f p q=0:=by
 rw[ti,fL,fL,fL,xl hp hq h hf,CC hp hq h,(eH.1 h).1]
 unfold Fw
 unfold DS
 simp
theorem vq (hc:c.good):c.ord p q=0:=by
 have hf:=cg (kO hc)
 cases c with
 |seg l f t=>
  show(if decide (cP f t>0)=true then-cP p q else cP p q)=0
  grind
 |arc k w f t=>
  show(if (!w)=true then xI k f p q else xI k.mir f.flip p.flip q.flip)=0
  split
  ·exact HZ hp hq h hf
  ·refine HZ (p:=p.flip) (q:=q.flip) hp hq (eH.2 ⟨?_,?_⟩) (f:=f.flip) hf
   ·rw[m7 hp hq,(eH.1 h).1];rfl
   ·exact(eH.1 h).2
end
theorem sF (hc:c.good) (hp:GP p) (hq:GP q) (h:c.ord p q<0):cP p q≠0:=fun e=>by
 have:=vq (cg hp) (cg hq) e hc
 omega
theorem C4:mO c [] x=[x]:=rfl
theorem Ad (h:c.ord o x<0):mO c (o::l) x=o::mO c l x:=by
 have e:xR c x (o::l)=xR c x l+1:=by show(if c.ord o x<0 then xR c x l+1 else 0)=_;rw[if_pos h]
 unfold mO
 grind
theorem zY (h: ¬c.ord o x<0):mO c (o::l) x=if cP o x=0 then o::l else x::o::l:=by
 have e:xR c x (o::l)=0:=by show(if c.ord o x<0 then xR c x l+1 else 0)=_;rw[if_neg h]
 unfold mO
 grind
def ze:List Pt→Prop
 |p::q::l=>cP p q≠0∧ze (q::l)
 |_=>True
theorem QU (h:ze (o::l)):ze l:=by
 cases l with
 |nil=>trivial
 |cons p l=>exact h.2
theorem H5 {c:Cv}(hc:c.good) {x:Pt}(hx:GP x): ∀ {l:List Pt},(∀p∈l,GP p)→ze l→ze (mO c l x)
 |[],_,_=>trivial
 |o::l,hl,h=>by
  by_cases g:c.ord o x<0
  ·rw[Ad g]
   have ih:=H5 hc hx (l:=l) (fun p hp=>hl p (jd _ hp)) (QU h)
   have ho:=sF hc (hl o io) hx g
   cases l with
   |nil=>exact⟨ho,trivial⟩
   |cons p l=>
    by_cases g2:c.ord p x<0
    ·rw[Ad g2] at ih⊢;exact⟨h.1,ih⟩
    ·rw[zY g2] at ih⊢
     by_cases e:cP p x=0
     ·rw[if_pos e];exact h
     ·rw[if_neg e] at ih⊢;exact⟨ho,ih⟩
  ·rw[zY g]
   by_cases e:cP o x=0
   ·rw[if_pos e];exact h
   ·rw[if_neg e]
    refine⟨fun e2=>e ?_,h⟩
    rw[fS (cg hx) (cg (hl o io)),e2];rfl
theorem Jb {c:Cv}(hc:c.good): ∀ {l out:List Pt},(∀p∈l,GP p)→(∀p∈out,GP p)→ze out→ze (l.foldl (mO c) out)
 |[],_,_,_,h=>h
 |x::l,out,hl,ho,h=>by
  refine Jb hc (l:=l) (out:=mO c out x) (fun p hp=>hl p (jd _ hp)) (fun p hp=>?_) (H5 hc (hl x io) ho h)
  rcases sU hp with e|e
  ·exact ho p e
  ·rw[e];exact hl x io
theorem N5 (hc:c.good) (hl: ∀p∈l,GP p):ze (qR c l):=Jb hc hl (fun p hp=>by cases hp) trivial
theorem EB {c:Cv}: ∀ {l:List Pt}{d:Cv},ze l→d∈kH c l→ ∃p q,p∈l∧q∈l∧cP p q≠0∧d=c.ends p q
 |p::q::l,d,ha,h=>by
  rcases d8.1 (show d∈c.ends p q::kH c (q::l) from h) with h|h
  ·exact⟨p,q,io,jd _ io,ha.1,h⟩
  ·obtain⟨p',q',h1,h2,h3,h4⟩:=EB ha.2 h
   exact⟨p',q',jd _ h1,jd _ h2,h3,h4⟩
 |[_],d,_,h=>by cases h
 |[],d,_,h=>by cases h
theorem JE (c:Cv) (p q:Pt):(c.ends p q).p=p:=by cases c<;>rfl
theorem Pr (c:Cv) (p q:Pt):(c.ends p q).q=q:=by cases c<;>rfl
theorem E3 (c:Cv) (p q x:Pt):(c.ends p q).supp x=c.supp x:=by cases c<;>rfl
theorem PO (h:c.pos) (p q:Pt):(c.ends p q).pos:=by cases c<;>exact h
theorem F5 (h:c.on p=true):c.supp p=true:=by
 unfold Cv.on at h
 grind
theorem T9 (h:CvV c) (hL: ∀p∈L,GP p) (hs: ∀p∈L,c.supp p=true): ∀d∈nh c L,CvV d:=by
 intro d hd
 have hG: ∀p∈ [c.p,c.q]++L,GP p:=by
  intro p hp
  simp only[List.cons_append,tF,d8] at hp
  rcases hp with e|e|e
  ·rw[e];exact kO h.g
  ·rw[e];exact tK h.g
  grind
 have hS: ∀p∈ [c.p,c.q]++L,c.supp p=true:=by
  intro p hp
  simp only[List.cons_append,tF,d8] at hp
  rcases hp with e|e|e
  ·rw[e];exact h.sp
  ·rw[e];exact h.sq
  grind
 obtain⟨p,q,h1,h2,h3,rfl⟩:=EB (N5 h.g hG) hd
 have m1:=nS h1
 have m2:=nS h2
 exact⟨NW h.g (hG p m1) (hG q m2),PO h.pos p q,by rw[JE,E3];exact hS p m1,by rw[Pr,E3];exact hS q m2,by rw[JE,Pr];exact h3⟩
theorem S7 (a b:Rat):pX (rP a b)=Re.of a:=aM fun n=>by unfold pX xG az;simp only[aD,aE,aK,rP];grind
theorem WG (a b:Rat):pY (rP a b)=Re.of b:=aM fun n=>by unfold pY xG az;simp only[aD,aE,aK,rP];grind
theorem YR (hp:GP (rP a b)) (h:(a-k.x)*(a-k.x)+(b-k.y)*(b-k.y)=k.q):dE k (rP a b)=0:=by
 rw[yv hp]
 unfold xA
 rw[S7,WG,yo,yo,dO,dO,vX,yo,bQ,h,uN.2 (show k.q-k.q=0 by grind)];rfl
theorem JK {q:Rat}(_h0:0<q) (hs:kg q=true):rt q*rt q=q:=by
 have hs2:=hs
 unfold kg D6 at hs2
 simp only[di,beq_iff_eq] at hs2
 have hd:bZ (q.den:Int)≠0:=by have:=zl (den_pos q);omega
 have hdq:((bZ (q.den:Int):Int):Rat)≠0:=by simpa using hd
 have h2:rt q*((bZ (q.den:Int):Int):Rat)=((bZ q.num:Int):Rat):=by unfold rt;rw[yI,rK hdq]
 have h3:=uW q
 have e1:((q.num:Int):Rat)=((bZ q.num:Int):Rat)*((bZ q.num:Int):Rat):=by rw[←dD,hs2.1]
 have e2:(((q.den:Int)):Rat)=((bZ (q.den:Int):Int):Rat)*((bZ (q.den:Int):Int):Rat):=by rw[←dD,hs2.2]
 grind
theorem Pm (s:Rat) (hs:s*s=1) (h0:0<k.q) (hp:GP (gg k.x s k.y 0 k.q)):dE k (gg k.x s k.y 0 k.q)=0:=by
 cases hq:kg k.q with
 |true=>
  have e:gg k.x s k.y 0 k.q=rP (k.x+s*rt k.q) (k.y+0*rt k.q):=by unfold gg;rw[hq];rfl
  rw[e] at hp⊢
  refine YR hp ?_
  have:=JK h0 hq
  grind
 |false=>
  have e:gg k.x s k.y 0 k.q=⟨k.x,s,k.y,0,k.q⟩:=by unfold gg;rw[hq];rfl
  rw[yv hp]
  have hc:(0:Rat)≤k.q:=by grind
  have h:=lh hc
  have e2:xA k ⟨k.x,s,k.y,0,k.q⟩=Re.rt k.q*Re.rt k.q-Re.of k.q:=aM fun n=>by
   unfold xA pX pY
   rw[oZ,oZ]
   simp only[aD,aj,aE,aK];grind
  grind
theorem GG (hk:GK k) (h0:0<k.q):dE k (mi k)=0:=Pm (-1) (by decide+kernel) h0 (r7 hk h0)
theorem Fu (hk:GK k) (h0:0<k.q):dE k (lX k)=0:=Pm 1 (by decide+kernel) h0 (rR hk h0)
end Go.Proofs.YtegpmhlfjkhjmaaGreat
